/- DeskTwo: two that write at once, and tell each other then, have the same text; it has what each has put, in its order. No condition. -/
import Derived.Test.YtgnccjojfebkeaaGreatQ0b046967cf
import Derived.Test.YtgnccjojfebkeaaGreatQ17528aba9c
import Derived.Test.YtgnccjojfebkeaaGreatQd6df0e86a6
import Derived.Below
import Derived.Carry
import Derived.SizedLaws
import Derived.Test.YtgnccjojfebkeaaGreatQa0ce884d35
import Derived.Test.YtgnccjojfebkeaaGreatQ4239c03973
import Derived.Test.YtgnccjojfebkeaaGreatQa4df953a1d
import Derived.Test.YtgnccjojfebkeaaGreatQc3a1870f38
import Derived.Test.YtgnccjojfebkeaaGreatQ24f261057a
import Derived.Test.YtgnccjojfebkeaaGreatQ0113298620
set_option linter.unusedVariables false
set_option linter.unusedSimpArgs false
set_option maxRecDepth 100000
namespace Go.Proofs.YtgnccjojfebkeaaGreat
open Go Go.RowKit Go.ChangeShapes Go.WideShapes Go.ChangeAt Cp
open Go.ChangeMaps (open_string shut_string)
namespace DeskTwoLaw
theorem own:ownKnob Tryz.prog.godebug=none:=kR
theorem laidOut:laidOutB Tryz.prog=true:=kR
theorem lifted (os:Os) (started:os.Started) (H:Type) (enc:TypeId×Value→H):
  ReturnsInHanded {} Tryz.checked os 9 .any (Rows.deskTwoSpec.pre6 enc Tryz.prog Tryz.f9 Rows.deskTwoRow.domain false) (Rows.deskTwoSpec.post enc Tryz.prog Tryz.f9 false true false false):=by
 refine returnsInHanded_of_change_sized (C:=Tryz.checked) own started kR Tryz.func9
  (ChangeSpec.witness6 (enc:=enc) (C:=Tryz.checked) false ⟨#[],#[.agg #[.int .i64 0,.int .i64 0,.slice none 0 0,.slice none 0 0],.string ⟨#[]⟩,.string ⟨#[]⟩,.int .i64 0],[]⟩ 8 kR kR kR kR) ?_
 intro W base args ds gs before hval0 hW hcnd hsz0 _;have hval:∀(j:Nat) t v,Tryz.f9.params[j]?=some t→args[j]?=some v→Value.okWide Tryz.prog W .any base t v:=hval0;have hW':=hW;obtain⟨p,q,hA0,hV,rfl,hfz,hnd⟩:=hW;have hA:DataW.TrodAll enc Tryz.prog W 0 (fun _=>true) true Tryz.f9.params.toList args.toList ds p:=hA0;have hsz:(DataW.weightsEach Tryz.prog (Tryz.f9.params.toList++[]) (ds++gs)).all (· ≤reachBytes)=true:=hsz0;rw[Tryz.params9] at hsz;rw[Tryz.params9] at hA hval;obtain⟨v0,vs0,d0,ds0,p0,q0,hargs,rfl,rfl,h0,r0⟩:=trodAll_cons hA;obtain⟨v1,vs1,d1,ds1,p1,q1,rfl,rfl,rfl,h1,r1⟩:=trodAll_cons r0;obtain⟨v2,vs2,d2,ds2,p2,q2,rfl,rfl,rfl,h2,r2⟩:=trodAll_cons r1;obtain⟨v3,vs3,d3,ds3,p3,q3,rfl,rfl,rfl,h3,r3⟩:=trodAll_cons r2;obtain⟨rfl,rfl,rfl⟩:=trodAll_nil r3;obtain rfl:args=#[v0,v1,v2,v3]:=by cases args;simp_all
 obtain⟨rfl,rfl⟩:=trodVars_none hV;have hsm:=Qyc hsz;have k0:=h0;have lt0:∀x∈p0,x.block<W.heap.size:=by obtain⟨m,hm⟩:=k0;exact DataW.trod_lt m _ _ _ hm
 obtain⟨cs0,x0,rfl,f0⟩:=Vfh (hval 0 48 v0 rfl rfl) (hsm 0 _ _ rfl rfl) h0;have k1:=h1;have lt1:∀x∈p1,x.block<W.heap.size:=by obtain⟨m,hm⟩:=k1;exact DataW.trod_lt m _ _ _ hm
 obtain⟨x1,f1⟩:=Vbr (hval 1 9 v1 rfl rfl) (hsm 1 _ _ rfl rfl) h1;have k2:=h2;have lt2:∀x∈p2,x.block<W.heap.size:=by obtain⟨m,hm⟩:=k2;exact DataW.trod_lt m _ _ _ hm
 obtain⟨x2,f2⟩:=Vbr (hval 2 9 v2 rfl rfl) (hsm 2 _ _ rfl rfl) h2;have k3:=h3;have lt3:∀x∈p3,x.block<W.heap.size:=by obtain⟨m,hm⟩:=k3;exact DataW.trod_lt m _ _ _ hm
 obtain⟨x3,rfl,f3⟩:=Vbq (hval 3 3 v3 rfl rfl) h3;clear hA0 hval0;refine(Ve0 f0 f1 f2 f3).mono fun e W' ⟨he,hx⟩=> ?_
 subst he;have bel:=hx.below;exact⟨_,rfl,_,_,_,[],_,[],hW',trodAll_mk1 (shut_bool Tryz.underlying4 _),(trodAll_cons_mk (Below.trod laidOut kR (of_decide_eq_true kR) k0 bel lt0) (trodAll_cons_mk (Below.trod laidOut kR (of_decide_eq_true kR) k1 bel lt1) (trodAll_cons_mk (Below.trod laidOut kR (of_decide_eq_true kR) k2 bel lt2) (trodAll_cons_mk (Below.trod laidOut kR (of_decide_eq_true kR) k3 bel lt3) trodAll_mk0)))),rfl,bel.frame _,fun h=>by cases h⟩
set_option maxRecDepth 100000
theorem c0:(Rows.deskTwoRow.wf (OpenSpec.ofChange Rows.deskTwoSpec))=true:=kR
theorem c1:(laidOutB Tryz.pinned.checked.prog)=true:=kR
theorem c2:(mapsRowed Tryz.pinned.checked.prog)=true:=kR
theorem c3:(Tryz.f9.params.all (Tryz.pinned.checked.prog.readableRec ·))=true:=kR
theorem c4:(namedTie Tryz.pinned.checked.prog Rows.deskTwoRow.named Rows.deskTwoSpec.vars)=true:=kR
theorem c5:((Rows.deskTwoRow.stops==[]))=true:=kR
theorem c6:((Tryz.pinned.checked.prog.stops==[]))=true:=kR
theorem c7:((Rows.deskTwoRow.knobs==[]))=true:=kR
theorem c8:((Tryz.pinned.checked.prog.stopKnobs==[]))=true:=kR
theorem c9:((Rows.deskTwoRow.inPlace==Tryz.pinned.checked.prog.inPlace 9))=true:=kR
theorem c10:((Rows.deskTwoRow.unfollowed==Tryz.pinned.checked.prog.unfollowed 9))=true:=kR
theorem c11:((Rows.deskTwoRow.recurses==Tryz.pinned.checked.prog.recurses 9))=true:=kR
theorem c12:((Rows.deskTwoRow.named==Tryz.pinned.checked.prog.varsNamed 9))=true:=kR
theorem c13:((Rows.deskTwoRow.maps==(Tryz.f9.params.toList++Rows.deskTwoSpec.plain.varTypes Tryz.pinned.checked.prog).any (Tryz.pinned.checked.prog.mapsRec ·)))=true:=kR
theorem c14:((Rows.deskTwoRow.ifaces==(Tryz.f9.params.toList++Rows.deskTwoSpec.plain.varTypes Tryz.pinned.checked.prog).any (Tryz.pinned.checked.prog.ifacesRec ·)))=true:=kR
theorem c15:((Rows.deskTwoRow.mapsOut==Tryz.pinned.checked.prog.mapsAmong Tryz.f9.resultTypes.toList))=true:=kR
theorem c16:((Rows.deskTwoRow.loops==(Tryz.f9.params.toList++Rows.deskTwoSpec.plain.varTypes Tryz.pinned.checked.prog).any (Tryz.pinned.checked.prog.loopsFrom ·)))=true:=kR
theorem c17:((Rows.deskTwoRow.wideKeys==(Tryz.f9.params.toList++Rows.deskTwoSpec.plain.varTypes Tryz.pinned.checked.prog++Tryz.f9.resultTypes.toList).any (Tryz.pinned.checked.prog.wideKeysFrom ·)))=true:=kR
theorem c18:(Rows.deskTwoSpec.vars.all (Tryz.pinned.checked.prog.varReadable ·))=true:=kR
theorem c19:(Tryz.f9.resultTypes.all (fun t=>Tryz.pinned.checked.prog.readableRec t && decide (t<Tryz.pinned.checked.prog.types.size)))=true:=kR
theorem c20:((Rows.deskTwoRow.ifacesOut==Tryz.f9.resultTypes.toList.any (Tryz.pinned.checked.prog.ifacesRec ·)))=true:=kR
theorem c21:((Rows.deskTwoRow.loopsOut==Tryz.f9.resultTypes.toList.any (Tryz.pinned.checked.prog.loopsFrom ·)))=true:=kR
theorem c22:((Rows.deskTwoRow.plainKeys==Tryz.pinned.checked.prog.plainKeys))=true:=kR
theorem c23:(Rows.deskTwoRow.shortTexts.isNone)=true:=kR
theorem c24:(Tryz.pinned.checked.prog.stopsHeard)=true:=kR
theorem c25:(Tryz.pinned.checked.prog.mayEnter)=true:=kR
theorem c26:((Rows.deskTwoRow.lifted==Tryz.pinned.checked.prog.liftsFinal))=true:=kR
theorem c27:((Tryz.pinned.checked.prog.make==some Rows.deskTwoRow.make))=true:=kR
theorem c28:((Rows.deskTwoRow.kinds==(if Rows.deskTwoRow.domain.isEmpty then [] else Tryz.f9.params.toList.map fun t=>match Tryz.pinned.checked.prog.underlying t with|some (.int k)=>some k|_=>none)))=true:=kR
theorem c29:((Rows.deskTwoRow.pinned==Rows.deskTwoRow.pinnedBy))=true:=kR
theorem c30:((Rows.deskTwoRow.veiled==(Tryz.f9.params.toList++Rows.deskTwoSpec.plain.varTypes Tryz.pinned.checked.prog++Tryz.f9.resultTypes.toList).any (Tryz.pinned.checked.prog.veiledRec ·)))=true:=kR
theorem c31:(Rows.deskTwoRow.veiledFits Tryz.pinned.checked.prog Tryz.f9.params.toList (Tryz.f9.params.toList++Rows.deskTwoSpec.plain.varTypes Tryz.pinned.checked.prog++Tryz.f9.resultTypes.toList))=true:=kR
theorem closed:joinedFacts Tryz.pinned.checked.prog 9 Tryz.f9 Rows.deskTwoSpec Rows.deskTwoRow=true:=by
 unfold joinedFacts;simp only[Bool.and_eq_true];exact⟨⟨⟨⟨⟨⟨⟨⟨⟨⟨⟨⟨⟨⟨⟨⟨⟨⟨⟨⟨⟨⟨⟨⟨⟨⟨⟨⟨⟨⟨⟨c0,c1⟩,c2⟩,c3⟩,c4⟩,c5⟩,c6⟩,c7⟩,c8⟩,c9⟩,c10⟩,c11⟩,c12⟩,c13⟩,c14⟩,c15⟩,c16⟩,c17⟩,c18⟩,c19⟩,c20⟩,c21⟩,c22⟩,c23⟩,c24⟩,c25⟩,c26⟩,c27⟩,c28⟩,c29⟩,c30⟩,c31⟩
theorem over:Rows.deskTwoRow.holds Tryz.pinned (OpenSpec.ofChange Rows.deskTwoSpec):=
 OpenClaim.holds_of_wide 9 Tryz.f9 rfl rfl rfl rfl rfl rfl rfl ⟨rfl,rfl,rfl,rfl,rfl⟩ rfl rfl rfl rfl rfl kR Tryz.func9 closed
  (of_decide_eq_true kR) (by unfold Func.isWrapper;rw[if_neg (of_decide_eq_false kR)];exact⟨rfl,rfl⟩)
  (fun os started H enc _=>lifted os started H enc)
end DeskTwoLaw
theorem deskTwo_holds:Rows.DeskTwoSaid:=DeskTwoLaw.over
end Go.Proofs.YtgnccjojfebkeaaGreat
