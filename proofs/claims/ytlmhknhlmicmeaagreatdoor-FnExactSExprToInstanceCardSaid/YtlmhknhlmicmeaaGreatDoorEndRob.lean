/-
  WHAT IS PROVED: for all arguments, laws.FnExactSExprToInstance returns true and its arguments read behind the call as before. Conditions: none beyond the row's own reading of its arguments.
-/
import Derived.Test.YtlmhknhlmicmeaaGreatDoorRows
import Derived.Test.YtlmhknhlmicmeaaGreatDoorFactRobA
import Derived.Test.YtlmhknhlmicmeaaGreatDoorFactRobB
import Derived.Test.YtlmhknhlmicmeaaGreatDoorFactRobC
import Derived.Test.YtlmhknhlmicmeaaGreatDoorPartRobG
import Derived.Test.YtlmhknhlmicmeaaGreatDoorTie
import Derived.Test.YtlmhknhlmicmeaaGreatDoorCards
namespace Go.Proofs.YtlmhknhlmicmeaaGreatDoor.fnExactSExprToInstance
open Go.ChangeShapes Go.WideShapes Go.ChangeAt Go.RowKit Go Go.Ab
set_option linter.unusedVariables false
theorem closed:I7 Tryz.prog [68,9,66]=true:=by kernel_rfl
set_option maxRecDepth 100000 in
theorem lifted(os:Os)(started:os.Started)(H:Type)(enc:TypeId×Value→H):
 ReturnsInHanded {} Tryz.checked os 9 .any (fun w args=>(Rows.fnExactSExprToInstanceSpec.pre enc Tryz.prog Tryz.f9 Rows.fnExactSExprToInstanceRow.domain false w args∧laidMetH Tryz.prog Rows.fnExactSExprToInstanceRow.laid w)∧sizedMet enc Tryz.prog Tryz.f9 (OpenSpec.ofChange Rows.fnExactSExprToInstanceSpec) false w args) (Rows.fnExactSExprToInstanceSpec.post enc Tryz.prog Tryz.f9 false true false false):=by
 refine returnsInHanded_of_change_and (C:=Tryz.checked) (X:=fun w _=>laidMetH Tryz.prog Rows.fnExactSExprToInstanceRow.laid w) (fun _ _ _ hh h=>h.of_heap hh) own started (by kernel_rfl) Tryz.func9
  (ChangeSpec.witness_shaped (enc:=enc) (C:=Tryz.checked) (os:=os) (X:=fun w _=>laidMetH Tryz.prog Rows.fnExactSExprToInstanceRow.laid w) false (World.doorLaid Tryz.prog 62 os) #[.agg #[.string ⟨#[]⟩,.slice none 0 0]] 8 rfl (World.shaped_of_RefB (by kernel_rfl) (by kernel_rfl)) (by kernel_rfl) (by kernel_rfl) (by kernel_rfl) (door_met os _)) ?_
 intro W base args ds gs before hval0 hW hcnd _ hL _
 have hval:∀(j:Nat) t v,Tryz.f9.params[j]? =some t→args[j]? =some v→Value.okWide Tryz.prog W .any base t v:=hval0
 have hW':=hW
 obtain⟨p,q,hA0,hV,rfl,hfz,hnd⟩:=hW
 have hA:DataW.TrodAll enc Tryz.prog W 0 (fun _=>true) true Tryz.f9.params.toList args.toList ds p:=hA0
 rw[Tryz.params9] at hA hval
 obtain⟨v0,vs0,d0,ds0,p0,q0,Vd,rfl,rfl,h0,r0⟩:=trodAll_cons hA
 obtain⟨rfl,rfl,rfl⟩:=trodAll_nil r0
 obtain rfl:args= #[v0]:=by cases args;simp_all
 obtain⟨rfl,rfl⟩:=trodVars_none hV
 obtain⟨n0,e0⟩:=h0
 obtain⟨c0,wt0,hl0⟩:=Cx closed n0 68 _ _ (by decide) e0
 have f0:=OA _ _ _ wt0
 obtain⟨x0,rfl⟩:=YX _ _ wt0
 have g0:=R6 Tryz.underlying68 (hval 0 68 v0 rfl rfl) hl0
 rw[ah.qz] at g0
 exact XT Fa.laidOut (by kernel_rfl) rfl rfl Tryz.underlying4 rfl rfl rfl hW' (R7 g0 (U3)) (law x0 f0) (Ox (by kernel_rfl) hL)
theorem shut:joinedFacts Tryz.pinned.checked.prog 9 Tryz.f9 Rows.fnExactSExprToInstanceSpec Rows.fnExactSExprToInstanceRow=true:=by
 unfold joinedFacts
 simp only[Bool.and_eq_true]
 exact⟨⟨⟨⟨⟨⟨⟨⟨⟨⟨⟨⟨⟨⟨⟨⟨⟨⟨⟨⟨⟨⟨⟨⟨⟨⟨⟨⟨⟨⟨⟨k0,k1⟩,k2⟩,k3⟩,k4⟩,k5⟩,k6⟩,k7⟩,k8⟩,k9⟩,k10⟩,k11⟩,k12⟩,k13⟩,k14⟩,k15⟩,k16⟩,k17⟩,k18⟩,k19⟩,k20⟩,k21⟩,k22⟩,k23⟩,k24⟩,k25⟩,k26⟩,k27⟩,(by kernel_rfl)⟩,k29⟩,k30⟩,k31⟩
set_option maxRecDepth 100000 in
theorem over:Rows.fnExactSExprToInstanceRow.holds Tryz.pinned (OpenSpec.ofChange Rows.fnExactSExprToInstanceSpec):=
 OpenClaim.holds_of_wide 9 Tryz.f9 rfl rfl rfl rfl rfl rfl rfl ⟨rfl,rfl,rfl,rfl,rfl⟩ rfl rfl rfl rfl rfl named Tryz.func9 shut inst wrap
  (fun os started H enc _=>lifted os started H enc)
theorem proved:Rows.FnExactSExprToInstanceCardSaid:=
 Claim7.holds_tied_plain_at .later [] [.data,.data,.data,.sentinel,.sentinel] true (true,"6386e9004562b7b3393a6da951c5c4ed9da65910eabdb57ec88ad16f439e0525") true
  over (fun _ h=>by cases h) cWf (fun _ h=>by cases h) fnExactSExprToInstance_row_tie rfl ⟨rfl,rfl⟩ cMain rfl cAt cGoes
#print axioms proved
end Go.Proofs.YtlmhknhlmicmeaaGreatDoor.fnExactSExprToInstance
