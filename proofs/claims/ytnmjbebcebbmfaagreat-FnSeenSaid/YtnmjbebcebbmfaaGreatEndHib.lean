/-
  WHAT IS PROVED: for all arguments, laws.FnSeen returns true and its arguments read behind the call as before. Conditions: none beyond the row's own reading of its arguments.
-/
import Derived.Test.YtnmjbebcebbmfaaGreatRows
import Derived.Test.YtnmjbebcebbmfaaGreatPartHibQ
namespace Go.Proofs.YtnmjbebcebbmfaaGreat.fnSeen
open Go.ChangeShapes Go.WideShapes Go.ChangeAt Go.RowKit Go Go.Ab
set_option linter.unusedVariables false
theorem afS{x:Int}(h:(Lit.int .i64 x).wf=true): -9223372036854775808≤x∧x≤9223372036854775807:=by
 have h1:IntKind.i64.min= -9223372036854775808:=by decide
 have h2:IntKind.i64.max=9223372036854775807:=by decide
 simp only[Lit.wf,Bool.and_eq_true,decide_eq_true_eq,h1,h2] at h
 exact h
theorem own:ownKnob Tryz.prog.godebug=none:=by kernel_rfl
theorem closed:GN Tryz.prog [22,5]=true:=by kernel_rfl
set_option maxRecDepth 100000 in
theorem lifted(os:Os)(started:os.Started)(H:Type)(enc:TypeId×Value→H):
 ReturnsInHanded {} Tryz.checked os 3 .any (Rows.fnSeenSpec.pre6 enc Tryz.prog Tryz.f3 Rows.fnSeenRow.domain false) (Rows.fnSeenSpec.post enc Tryz.prog Tryz.f3 false true false false):=by
 refine returnsInHanded_of_change (C:=Tryz.checked) own started (by kernel_rfl) Tryz.func3
  (ChangeSpec.witness6 (enc:=enc) (C:=Tryz.checked) false ⟨#[],#[.slice none 0 0],[]⟩ 8 (by kernel_rfl) (by kernel_rfl) (by kernel_rfl) (by kernel_rfl)) ?_
 intro W base args ds gs before hval0 hW hcnd _
 have hval:∀(j:Nat) t v,Tryz.f3.params[j]? =some t→args[j]? =some v→Value.okWide Tryz.prog W .any base t v:=hval0
 have hW':=hW
 obtain⟨p,q,hA0,hV,rfl,hfz,hnd⟩:=hW
 have hA:DataW.TrodAll enc Tryz.prog W 0 (fun _=>true) true Tryz.f3.params.toList args.toList ds p:=hA0
 rw[Tryz.params3] at hA hval
 obtain⟨v0,vs0,d0,ds0,p0,q0,Uq,rfl,rfl,h0,r0⟩:=trodAll_cons hA
 obtain⟨rfl,rfl,rfl⟩:=trodAll_nil r0
 obtain rfl:args= #[v0]:=by cases args;simp_all
 obtain⟨rfl,rfl⟩:=trodVars_none hV
 obtain⟨n0,e0⟩:=h0
 obtain⟨c0,wt0,hl0⟩:=AU closed n0 22 _ _ (by decide) e0
 have f0:=Mt _ _ _ wt0
 obtain⟨es0,m0,_,rfl,y7⟩:=Yh Tryz.underlying22 wt0
 obtain⟨x0,rfl,b0⟩:=Q9 fun y hy=>abQ Tryz.underlying5 (y7 y hy)
 have g0:=TN Tryz.underlying22 (hval 0 22 v0 rfl rfl) hl0
 exact WR Fa.laidOut (by kernel_rfl) rfl rfl Tryz.underlying4 rfl rfl rfl hW' (Qs g0 (TP)) (law x0 b0)
theorem k0:(Rows.fnSeenRow.wf (OpenSpec.ofChange Rows.fnSeenSpec))=true:=by kernel_rfl
theorem k1:(laidOutB Tryz.pinned.checked.prog)=true:=by kernel_rfl
theorem k2:(mapsRowed Tryz.pinned.checked.prog)=true:=by kernel_rfl
theorem k3:(Tryz.f3.params.all (Tryz.pinned.checked.prog.readableRec ·))=true:=by kernel_rfl
theorem k4:(namedTie Tryz.pinned.checked.prog Rows.fnSeenRow.named Rows.fnSeenSpec.vars)=true:=by kernel_rfl
theorem k5:((Rows.fnSeenRow.stops==[]))=true:=by kernel_rfl
theorem k6:((Tryz.pinned.checked.prog.stops==[]))=true:=by kernel_rfl
theorem k7:((Rows.fnSeenRow.knobs==[]))=true:=by kernel_rfl
theorem k8:((Tryz.pinned.checked.prog.stopKnobs==[]))=true:=by kernel_rfl
theorem k9:((Rows.fnSeenRow.inPlace==Tryz.pinned.checked.prog.inPlace 3))=true:=by kernel_rfl
theorem k10:((Rows.fnSeenRow.unfollowed==Tryz.pinned.checked.prog.unfollowed 3))=true:=by kernel_rfl
theorem k11:((Rows.fnSeenRow.recurses==Tryz.pinned.checked.prog.recurses 3))=true:=by kernel_rfl
theorem k12:((Rows.fnSeenRow.named==Tryz.pinned.checked.prog.varsNamed 3))=true:=by kernel_rfl
theorem k13:((Rows.fnSeenRow.maps==(Tryz.f3.params.toList++Rows.fnSeenSpec.plain.varTypes Tryz.pinned.checked.prog).any (Tryz.pinned.checked.prog.mapsRec ·)))=true:=by kernel_rfl
theorem k14:((Rows.fnSeenRow.ifaces==(Tryz.f3.params.toList++Rows.fnSeenSpec.plain.varTypes Tryz.pinned.checked.prog).any (Tryz.pinned.checked.prog.ifacesRec ·)))=true:=by kernel_rfl
theorem k15:((Rows.fnSeenRow.mapsOut==Tryz.pinned.checked.prog.mapsAmong Tryz.f3.resultTypes.toList))=true:=by kernel_rfl
theorem k16:((Rows.fnSeenRow.loops==(Tryz.f3.params.toList++Rows.fnSeenSpec.plain.varTypes Tryz.pinned.checked.prog).any (Tryz.pinned.checked.prog.loopsFrom ·)))=true:=by kernel_rfl
theorem k17:((Rows.fnSeenRow.wideKeys==(Tryz.f3.params.toList++Rows.fnSeenSpec.plain.varTypes Tryz.pinned.checked.prog++Tryz.f3.resultTypes.toList).any (Tryz.pinned.checked.prog.wideKeysFrom ·)))=true:=by kernel_rfl
theorem k18:(Rows.fnSeenSpec.vars.all (Tryz.pinned.checked.prog.varReadable ·))=true:=by kernel_rfl
theorem k19:(Tryz.f3.resultTypes.all (fun t=>Tryz.pinned.checked.prog.readableRec t&&decide (t<Tryz.pinned.checked.prog.types.size)))=true:=by kernel_rfl
theorem k20:((Rows.fnSeenRow.ifacesOut==Tryz.f3.resultTypes.toList.any (Tryz.pinned.checked.prog.ifacesRec ·)))=true:=by kernel_rfl
theorem k21:((Rows.fnSeenRow.loopsOut==Tryz.f3.resultTypes.toList.any (Tryz.pinned.checked.prog.loopsFrom ·)))=true:=by kernel_rfl
theorem k22:((Rows.fnSeenRow.plainKeys==Tryz.pinned.checked.prog.plainKeys))=true:=by kernel_rfl
theorem k23:(Rows.fnSeenRow.shortTexts.isNone)=true:=by kernel_rfl
theorem k24:(Tryz.pinned.checked.prog.stopsHeard)=true:=by kernel_rfl
theorem k25:(Tryz.pinned.checked.prog.mayEnter)=true:=by kernel_rfl
theorem k26:((Rows.fnSeenRow.lifted==Tryz.pinned.checked.prog.liftsFinal))=true:=by kernel_rfl
theorem k27:((Tryz.pinned.checked.prog.make==some Rows.fnSeenRow.make))=true:=by kernel_rfl
theorem k29:((Rows.fnSeenRow.pinned==Rows.fnSeenRow.pinnedBy))=true:=by kernel_rfl
theorem k30:((Rows.fnSeenRow.veiled==(Tryz.f3.params.toList++Rows.fnSeenSpec.plain.varTypes Tryz.pinned.checked.prog++Tryz.f3.resultTypes.toList).any (Tryz.pinned.checked.prog.veiledRec ·)))=true:=by kernel_rfl
theorem k31:(Rows.fnSeenRow.veiledFits Tryz.pinned.checked.prog Tryz.f3.params.toList (Tryz.f3.params.toList++Rows.fnSeenSpec.plain.varTypes Tryz.pinned.checked.prog++Tryz.f3.resultTypes.toList))=true:=by kernel_rfl
theorem shut:joinedFacts Tryz.pinned.checked.prog 3 Tryz.f3 Rows.fnSeenSpec Rows.fnSeenRow=true:=by
 unfold joinedFacts
 simp only[Bool.and_eq_true]
 exact⟨⟨⟨⟨⟨⟨⟨⟨⟨⟨⟨⟨⟨⟨⟨⟨⟨⟨⟨⟨⟨⟨⟨⟨⟨⟨⟨⟨⟨⟨⟨k0,k1⟩,k2⟩,k3⟩,k4⟩,k5⟩,k6⟩,k7⟩,k8⟩,k9⟩,k10⟩,k11⟩,k12⟩,k13⟩,k14⟩,k15⟩,k16⟩,k17⟩,k18⟩,k19⟩,k20⟩,k21⟩,k22⟩,k23⟩,k24⟩,k25⟩,k26⟩,k27⟩,(by kernel_rfl)⟩,k29⟩,k30⟩,k31⟩
theorem named:Tryz.pinned.checked.prog.funcNamed Rows.fnSeenRow.func=some 3:=by kernel_rfl
theorem inst:Tryz.f3.isInstance Tryz.pinned.checked.prog Rows.fnSeenRow.origin Rows.fnSeenRow.targs:=of_decide_eq_true (by kernel_rfl)
theorem wrap:Tryz.f3.isWrapper Tryz.pinned.checked.prog Rows.fnSeenRow.wrapper Rows.fnSeenRow.mainSum:=by
 unfold Func.isWrapper
 first|(rw[if_pos (by decide +kernel)];kernel_rfl)|(rw[if_neg (by decide +kernel)];exact⟨rfl,rfl⟩)
set_option maxRecDepth 100000 in
theorem over:Rows.fnSeenRow.holds Tryz.pinned (OpenSpec.ofChange Rows.fnSeenSpec):=
 OpenClaim.holds_of_wide 3 Tryz.f3 rfl rfl rfl rfl rfl rfl rfl ⟨rfl,rfl,rfl,rfl,rfl⟩ rfl rfl rfl rfl rfl named Tryz.func3 shut inst wrap
  (fun os started H enc _=>lifted os started H enc)
theorem proved:Rows.FnSeenSaid:=
 over
#print axioms proved
end Go.Proofs.YtnmjbebcebbmfaaGreat.fnSeen
