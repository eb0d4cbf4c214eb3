/-
  WHAT IS PROVED: for all arguments, laws.FnPkgOrder returns true and its arguments read behind the call as before. Conditions: none beyond the row's own reading of its arguments.
-/
import Derived.Test.YtnmjbebcebbmfaaGreatDoorRows
import Derived.Test.YtnmjbebcebbmfaaGreatDoorFactDnbA
import Derived.Test.YtnmjbebcebbmfaaGreatDoorFactDnbB
import Derived.Test.YtnmjbebcebbmfaaGreatDoorFactDnbC
import Derived.Test.YtnmjbebcebbmfaaGreatDoorPartDnbf
import Derived.Test.YtnmjbebcebbmfaaGreatDoorTie
import Derived.Test.YtnmjbebcebbmfaaGreatDoorCards
namespace Go.Proofs.YtnmjbebcebbmfaaGreatDoor.fnPkgOrder
open Go.ChangeShapes Go.WideShapes Go.ChangeAt Go.RowKit Go Go.Ab
set_option linter.unusedVariables false
theorem closed:Uk Tryz.prog [22,5]=true:=by kernel_rfl
set_option maxRecDepth 100000 in
theorem lifted(os:Os)(started:os.Started)(H:Type)(enc:TypeId×Value→H):
 ReturnsInHanded {} Tryz.checked os 3 .any (fun w args=>(Rows.fnPkgOrderSpec.pre enc Tryz.prog Tryz.f3 Rows.fnPkgOrderRow.domain false w args∧laidMetH Tryz.prog Rows.fnPkgOrderRow.laid w)∧sizedMet enc Tryz.prog Tryz.f3 (OpenSpec.ofChange Rows.fnPkgOrderSpec) false w args) (Rows.fnPkgOrderSpec.post enc Tryz.prog Tryz.f3 false true false false):=by
 refine returnsInHanded_of_change_and (C:=Tryz.checked) (X:=fun w _=>laidMetH Tryz.prog Rows.fnPkgOrderRow.laid w) (fun _ _ _ hh h=>h.of_heap hh) own started (by kernel_rfl) Tryz.func3
  (ChangeSpec.witness_shaped (enc:=enc) (C:=Tryz.checked) (os:=os) (X:=fun w _=>laidMetH Tryz.prog Rows.fnPkgOrderRow.laid w) false (World.doorLaid Tryz.prog 62 os) #[.slice none 0 0] 8 rfl (World.shaped_of_RefB (by kernel_rfl) (by kernel_rfl)) (by kernel_rfl) (by kernel_rfl) (by kernel_rfl) (door_met os _)) ?_
 intro W base args ds gs before hval0 hW hcnd _ hL _
 have hval:∀(j:Nat) t v,Tryz.f3.params[j]? =some t→args[j]? =some v→Value.okWide Tryz.prog W .any base t v:=hval0
 have hW':=hW
 obtain⟨p,q,VR,hV,rfl,hfz,hnd⟩:=hW
 have hA:DataW.TrodAll enc Tryz.prog W 0 (fun _=>true) true Tryz.f3.params.toList args.toList ds p:=VR
 rw[Tryz.params3] at hA hval
 obtain⟨v0,vs0,d0,ds0,p0,q0,aiC,rfl,rfl,h0,r0⟩:=trodAll_cons hA
 obtain⟨rfl,rfl,rfl⟩:=trodAll_nil r0
 obtain rfl:args= #[v0]:=by cases args;simp_all
 obtain⟨rfl,rfl⟩:=trodVars_none hV
 obtain⟨n0,e0⟩:=h0
 obtain⟨c0,wt0,hl0⟩:=Mi closed n0 22 _ _ (by decide) e0
 have f0:=aaR _ _ _ wt0
 obtain⟨es0,m0,_,rfl,Ki⟩:=ani Tryz.underlying22 wt0
 obtain⟨x0,rfl,b0⟩:=aeY fun y hy=>ar9 Tryz.underlying5 (Ki y hy)
 have g0:=ahM Tryz.underlying22 (hval 0 22 v0 rfl rfl) hl0
 exact ak9 Fa.laidOut (by kernel_rfl) rfl rfl Tryz.underlying4 rfl rfl rfl hW' (aeN g0 (ahN)) (law x0 b0) (aaQ (by kernel_rfl) hL)
theorem shut:joinedFacts Tryz.pinned.checked.prog 3 Tryz.f3 Rows.fnPkgOrderSpec Rows.fnPkgOrderRow=true:=by
 unfold joinedFacts
 simp only[Bool.and_eq_true]
 exact⟨⟨⟨⟨⟨⟨⟨⟨⟨⟨⟨⟨⟨⟨⟨⟨⟨⟨⟨⟨⟨⟨⟨⟨⟨⟨⟨⟨⟨⟨⟨k0,k1⟩,k2⟩,k3⟩,k4⟩,k5⟩,k6⟩,k7⟩,k8⟩,k9⟩,k10⟩,k11⟩,k12⟩,k13⟩,k14⟩,k15⟩,k16⟩,k17⟩,k18⟩,k19⟩,k20⟩,k21⟩,k22⟩,k23⟩,k24⟩,k25⟩,k26⟩,k27⟩,(by kernel_rfl)⟩,k29⟩,k30⟩,k31⟩
set_option maxRecDepth 100000 in
theorem over:Rows.fnPkgOrderRow.holds Tryz.pinned (OpenSpec.ofChange Rows.fnPkgOrderSpec):=
 OpenClaim.holds_of_wide 3 Tryz.f3 rfl rfl rfl rfl rfl rfl rfl ⟨rfl,rfl,rfl,rfl,rfl⟩ rfl rfl rfl rfl rfl named Tryz.func3 shut inst wrap
  (fun os started H enc _=>lifted os started H enc)
theorem proved:Rows.FnPkgOrderCardSaid:=
 Claim7.holds_tied_plain_at .later [] [.data,.data,.data,.sentinel,.sentinel] true (true,"c6771a0960a9323d49d5435416b105b0e257ea676b40444926ab9abd533fd5c4") true
  over (fun _ h=>by cases h) cWf (fun _ h=>by cases h) fnPkgOrder_row_tie rfl ⟨rfl,rfl⟩ cMain rfl cAt cGoes
#print axioms proved
end Go.Proofs.YtnmjbebcebbmfaaGreatDoor.fnPkgOrder
