/-
  WHAT IS PROVED: for all arguments, laws.FnFind returns true and its arguments read behind the call as before. Conditions: none beyond the row's own reading of its arguments.
-/
import Derived.Test.YtfhpfkaeldgcmaaGreatRows
import Derived.Test.YtfhpfkaeldgcmaaGreatPartHfbe
namespace Go.Proofs.YtfhpfkaeldgcmaaGreat.fnFind
open Go.ChangeShapes Go.WideShapes Go.ChangeAt Go.RowKit Go Go.Ab
set_option linter.unusedVariables false
theorem aoi{x:Int}(h:(Lit.int .i64 x).wf=true): -9223372036854775808≤x∧x≤9223372036854775807:=by
 have h1:IntKind.i64.min= -9223372036854775808:=by decide
 have h2:IntKind.i64.max=9223372036854775807:=by decide
 simp only[Lit.wf,Bool.and_eq_true,decide_eq_true_eq,h1,h2] at h
 exact h
theorem own:ownKnob Tryz.prog.godebug=none:=by kernel_rfl
theorem closed:MV Tryz.prog [22,5]=true:=by kernel_rfl
set_option maxRecDepth 100000 in
theorem lifted(os:Os)(started:os.Started)(H:Type)(enc:TypeId×Value→H):
 ReturnsInHanded {} Tryz.checked os 5 .any (Rows.fnFindSpec.pre6 enc Tryz.prog Tryz.f5 Rows.fnFindRow.domain false) (Rows.fnFindSpec.post enc Tryz.prog Tryz.f5 false true false false):=by
 refine returnsInHanded_of_change (C:=Tryz.checked) own started (by kernel_rfl) Tryz.func5
  (ChangeSpec.witness6 (enc:=enc) (C:=Tryz.checked) false ⟨#[],#[.slice none 0 0],[]⟩ 8 (by kernel_rfl) (by kernel_rfl) (by kernel_rfl) (by kernel_rfl)) ?_
 intro W base args ds gs before hval0 hW hcnd _
 have hval:∀(j:Nat) t v,Tryz.f5.params[j]? =some t→args[j]? =some v→Value.okWide Tryz.prog W .any base t v:=hval0
 have hW':=hW
 obtain⟨p,q,hA0,hV,rfl,hfz,hnd⟩:=hW
 have hA:DataW.TrodAll enc Tryz.prog W 0 (fun _=>true) true Tryz.f5.params.toList args.toList ds p:=hA0
 rw[Tryz.params5] at hA hval
 obtain⟨v0,vs0,d0,ds0,p0,q0,aaE,rfl,rfl,h0,r0⟩:=trodAll_cons hA
 obtain⟨rfl,rfl,rfl⟩:=trodAll_nil r0
 obtain rfl:args= #[v0]:=by cases args;simp_all
 obtain⟨rfl,rfl⟩:=trodVars_none hV
 obtain⟨n0,e0⟩:=h0
 obtain⟨c0,wt0,hl0⟩:=F5 closed n0 22 _ _ (by decide) e0
 have f0:=SX _ _ _ wt0
 obtain⟨es0,m0,_,rfl,D6⟩:=ae4 Tryz.underlying22 wt0
 obtain⟨x0,rfl,b0⟩:=Xx fun y hy=>ajl Tryz.underlying5 (D6 y hy)
 have g0:=aae Tryz.underlying22 (hval 0 22 v0 rfl rfl) hl0
 exact adi Fa.laidOut (by kernel_rfl) rfl rfl Tryz.underlying4 rfl rfl rfl hW' (Xj g0 (aaf)) (law x0 b0)
theorem k0:(Rows.fnFindRow.wf (OpenSpec.ofChange Rows.fnFindSpec))=true:=by kernel_rfl
theorem k1:(laidOutB Tryz.pinned.checked.prog)=true:=by kernel_rfl
theorem k2:(mapsRowed Tryz.pinned.checked.prog)=true:=by kernel_rfl
theorem k3:(Tryz.f5.params.all (Tryz.pinned.checked.prog.readableRec ·))=true:=by kernel_rfl
theorem k4:(namedTie Tryz.pinned.checked.prog Rows.fnFindRow.named Rows.fnFindSpec.vars)=true:=by kernel_rfl
theorem k5:((Rows.fnFindRow.stops==[]))=true:=by kernel_rfl
theorem k6:((Tryz.pinned.checked.prog.stops==[]))=true:=by kernel_rfl
theorem k7:((Rows.fnFindRow.knobs==[]))=true:=by kernel_rfl
theorem k8:((Tryz.pinned.checked.prog.stopKnobs==[]))=true:=by kernel_rfl
theorem k9:((Rows.fnFindRow.inPlace==Tryz.pinned.checked.prog.inPlace 5))=true:=by kernel_rfl
theorem k10:((Rows.fnFindRow.unfollowed==Tryz.pinned.checked.prog.unfollowed 5))=true:=by kernel_rfl
theorem k11:((Rows.fnFindRow.recurses==Tryz.pinned.checked.prog.recurses 5))=true:=by kernel_rfl
theorem k12:((Rows.fnFindRow.named==Tryz.pinned.checked.prog.varsNamed 5))=true:=by kernel_rfl
theorem k13:((Rows.fnFindRow.maps==(Tryz.f5.params.toList++Rows.fnFindSpec.plain.varTypes Tryz.pinned.checked.prog).any (Tryz.pinned.checked.prog.mapsRec ·)))=true:=by kernel_rfl
theorem k14:((Rows.fnFindRow.ifaces==(Tryz.f5.params.toList++Rows.fnFindSpec.plain.varTypes Tryz.pinned.checked.prog).any (Tryz.pinned.checked.prog.ifacesRec ·)))=true:=by kernel_rfl
theorem k15:((Rows.fnFindRow.mapsOut==Tryz.pinned.checked.prog.mapsAmong Tryz.f5.resultTypes.toList))=true:=by kernel_rfl
theorem k16:((Rows.fnFindRow.loops==(Tryz.f5.params.toList++Rows.fnFindSpec.plain.varTypes Tryz.pinned.checked.prog).any (Tryz.pinned.checked.prog.loopsFrom ·)))=true:=by kernel_rfl
theorem k17:((Rows.fnFindRow.wideKeys==(Tryz.f5.params.toList++Rows.fnFindSpec.plain.varTypes Tryz.pinned.checked.prog++Tryz.f5.resultTypes.toList).any (Tryz.pinned.checked.prog.wideKeysFrom ·)))=true:=by kernel_rfl
theorem k18:(Rows.fnFindSpec.vars.all (Tryz.pinned.checked.prog.varReadable ·))=true:=by kernel_rfl
theorem k19:(Tryz.f5.resultTypes.all (fun t=>Tryz.pinned.checked.prog.readableRec t&&decide (t<Tryz.pinned.checked.prog.types.size)))=true:=by kernel_rfl
theorem k20:((Rows.fnFindRow.ifacesOut==Tryz.f5.resultTypes.toList.any (Tryz.pinned.checked.prog.ifacesRec ·)))=true:=by kernel_rfl
theorem k21:((Rows.fnFindRow.loopsOut==Tryz.f5.resultTypes.toList.any (Tryz.pinned.checked.prog.loopsFrom ·)))=true:=by kernel_rfl
theorem k22:((Rows.fnFindRow.plainKeys==Tryz.pinned.checked.prog.plainKeys))=true:=by kernel_rfl
theorem k23:(Rows.fnFindRow.shortTexts.isNone)=true:=by kernel_rfl
theorem k24:(Tryz.pinned.checked.prog.stopsHeard)=true:=by kernel_rfl
theorem k25:(Tryz.pinned.checked.prog.mayEnter)=true:=by kernel_rfl
theorem k26:((Rows.fnFindRow.lifted==Tryz.pinned.checked.prog.liftsFinal))=true:=by kernel_rfl
theorem k27:((Tryz.pinned.checked.prog.make==some Rows.fnFindRow.make))=true:=by kernel_rfl
theorem k29:((Rows.fnFindRow.pinned==Rows.fnFindRow.pinnedBy))=true:=by kernel_rfl
theorem k30:((Rows.fnFindRow.veiled==(Tryz.f5.params.toList++Rows.fnFindSpec.plain.varTypes Tryz.pinned.checked.prog++Tryz.f5.resultTypes.toList).any (Tryz.pinned.checked.prog.veiledRec ·)))=true:=by kernel_rfl
theorem k31:(Rows.fnFindRow.veiledFits Tryz.pinned.checked.prog Tryz.f5.params.toList (Tryz.f5.params.toList++Rows.fnFindSpec.plain.varTypes Tryz.pinned.checked.prog++Tryz.f5.resultTypes.toList))=true:=by kernel_rfl
theorem shut:joinedFacts Tryz.pinned.checked.prog 5 Tryz.f5 Rows.fnFindSpec Rows.fnFindRow=true:=by
 unfold joinedFacts
 simp only[Bool.and_eq_true]
 exact⟨⟨⟨⟨⟨⟨⟨⟨⟨⟨⟨⟨⟨⟨⟨⟨⟨⟨⟨⟨⟨⟨⟨⟨⟨⟨⟨⟨⟨⟨⟨k0,k1⟩,k2⟩,k3⟩,k4⟩,k5⟩,k6⟩,k7⟩,k8⟩,k9⟩,k10⟩,k11⟩,k12⟩,k13⟩,k14⟩,k15⟩,k16⟩,k17⟩,k18⟩,k19⟩,k20⟩,k21⟩,k22⟩,k23⟩,k24⟩,k25⟩,k26⟩,k27⟩,(by kernel_rfl)⟩,k29⟩,k30⟩,k31⟩
theorem named:Tryz.pinned.checked.prog.funcNamed Rows.fnFindRow.func=some 5:=by kernel_rfl
theorem inst:Tryz.f5.isInstance Tryz.pinned.checked.prog Rows.fnFindRow.origin Rows.fnFindRow.targs:=of_decide_eq_true (by kernel_rfl)
theorem wrap:Tryz.f5.isWrapper Tryz.pinned.checked.prog Rows.fnFindRow.wrapper Rows.fnFindRow.mainSum:=by
 unfold Func.isWrapper
 first|(rw[if_pos (by decide +kernel)];kernel_rfl)|(rw[if_neg (by decide +kernel)];exact⟨rfl,rfl⟩)
set_option maxRecDepth 100000 in
theorem over:Rows.fnFindRow.holds Tryz.pinned (OpenSpec.ofChange Rows.fnFindSpec):=
 OpenClaim.holds_of_wide 5 Tryz.f5 rfl rfl rfl rfl rfl rfl rfl ⟨rfl,rfl,rfl,rfl,rfl⟩ rfl rfl rfl rfl rfl named Tryz.func5 shut inst wrap
  (fun os started H enc _=>lifted os started H enc)
theorem proved:Rows.FnFindSaid:=
 over
#print axioms proved
end Go.Proofs.YtfhpfkaeldgcmaaGreat.fnFind
