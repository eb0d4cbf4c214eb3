/-
  WHAT IS PROVED: for all arguments, laws.FnExactFormatProgram returns true and its arguments read behind the call as before. Conditions: none beyond the row's own reading of its arguments.
-/
import Derived.Test.YtcfhnaohbaplhaaGreatDoorRows
import Derived.Test.YtcfhnaohbaplhaaGreatDoorFactTpbA
import Derived.Test.YtcfhnaohbaplhaaGreatDoorFactTpbB
import Derived.Test.YtcfhnaohbaplhaaGreatDoorFactTpbC
import Derived.Test.YtcfhnaohbaplhaaGreatDoorPartTpbF
import Derived.Test.YtcfhnaohbaplhaaGreatDoorTie
import Derived.Test.YtcfhnaohbaplhaaGreatDoorCards
namespace Go.Proofs.YtcfhnaohbaplhaaGreatDoor.fnExactFormatProgram
open Go.ChangeShapes Go.WideShapes Go.ChangeAt Go.RowKit Go Go.Ab
set_option linter.unusedVariables false
theorem closed:Il Tryz.prog [61,59,47,9,41,42,43,44,45,164,168,173,177,4,162,166,24,170,171,175,28,317,320,3,22,323,326,329,25,26,145]=true:=by kernel_rfl
set_option maxRecDepth 100000 in
theorem lifted(os:Os)(started:os.Started)(H:Type)(enc:TypeId×Value→H):
 ReturnsInHanded {} Tryz.checked os 5 .any (fun w args=>(Rows.fnExactFormatProgramSpec.pre enc Tryz.prog Tryz.f5 Rows.fnExactFormatProgramRow.domain false w args∧laidMetH Tryz.prog Rows.fnExactFormatProgramRow.laid w)∧sizedMet enc Tryz.prog Tryz.f5 (OpenSpec.ofChange Rows.fnExactFormatProgramSpec) false w args) (Rows.fnExactFormatProgramSpec.post enc Tryz.prog Tryz.f5 false true false false):=by
 refine returnsInHanded_of_change_and (C:=Tryz.checked) (X:=fun w _=>laidMetH Tryz.prog Rows.fnExactFormatProgramRow.laid w) (fun _ _ _ hh h=>h.of_heap hh) own started (by kernel_rfl) Tryz.func5
  (ChangeSpec.witness_shaped (enc:=enc) (C:=Tryz.checked) (os:=os) (X:=fun w _=>laidMetH Tryz.prog Rows.fnExactFormatProgramRow.laid w) false (World.doorLaid Tryz.prog 62 os) #[.agg #[.slice none 0 0]] 8 rfl (World.shaped_of_RefB (by kernel_rfl) (by kernel_rfl)) (by kernel_rfl) (by kernel_rfl) (by kernel_rfl) (door_met os _)) ?_
 intro W base args ds gs before hval0 hW hcnd _ hL _
 have hval:∀(j:Nat) t v,Tryz.f5.params[j]? =some t→args[j]? =some v→Value.okWide Tryz.prog W .any base t v:=hval0
 have hW':=hW
 obtain⟨p,q,hA0,hV,rfl,hfz,hnd⟩:=hW
 have hA:DataW.TrodAll enc Tryz.prog W 0 (fun _=>true) true Tryz.f5.params.toList args.toList ds p:=hA0
 rw[Tryz.params5] at hA hval
 obtain⟨v0,vs0,d0,ds0,p0,q0,Vx,rfl,rfl,h0,r0⟩:=trodAll_cons hA
 obtain⟨rfl,rfl,rfl⟩:=trodAll_nil r0
 obtain rfl:args= #[v0]:=by cases args;simp_all
 obtain⟨rfl,rfl⟩:=trodVars_none hV
 obtain⟨n0,e0⟩:=h0
 obtain⟨c0,wt0,hl0⟩:=BK closed n0 61 _ _ (by decide) e0
 have f0:=Oi _ _ _ wt0
 obtain⟨x0,rfl⟩:=TF _ _ wt0
 have g0:=RX Tryz.underlying61 (hval 0 61 v0 rfl rfl) hl0
 rw[dw.ow] at g0
 exact XL Fa.laidOut (by kernel_rfl) rfl rfl Tryz.underlying4 rfl rfl rfl hW' (RY g0 (U4)) (law x0 f0) (Og (by kernel_rfl) hL)
theorem shut:joinedFacts Tryz.pinned.checked.prog 5 Tryz.f5 Rows.fnExactFormatProgramSpec Rows.fnExactFormatProgramRow=true:=by
 unfold joinedFacts
 simp only[Bool.and_eq_true]
 exact⟨⟨⟨⟨⟨⟨⟨⟨⟨⟨⟨⟨⟨⟨⟨⟨⟨⟨⟨⟨⟨⟨⟨⟨⟨⟨⟨⟨⟨⟨⟨k0,k1⟩,k2⟩,k3⟩,k4⟩,k5⟩,k6⟩,k7⟩,k8⟩,k9⟩,k10⟩,k11⟩,k12⟩,k13⟩,k14⟩,k15⟩,k16⟩,k17⟩,k18⟩,k19⟩,k20⟩,k21⟩,k22⟩,k23⟩,k24⟩,k25⟩,k26⟩,k27⟩,(by kernel_rfl)⟩,k29⟩,k30⟩,k31⟩
set_option maxRecDepth 100000 in
theorem over:Rows.fnExactFormatProgramRow.holds Tryz.pinned (OpenSpec.ofChange Rows.fnExactFormatProgramSpec):=
 OpenClaim.holds_of_wide 5 Tryz.f5 rfl rfl rfl rfl rfl rfl rfl ⟨rfl,rfl,rfl,rfl,rfl⟩ rfl rfl rfl rfl rfl named Tryz.func5 shut inst wrap
  (fun os started H enc _=>lifted os started H enc)
theorem proved:Rows.FnExactFormatProgramCardSaid:=
 Claim7.holds_tied_plain_at .later [] [.data,.data,.data] true (true,"6b00631f006e200582a8c20a97a8d6c94f481ae2b92569db8a0f83fe40d47c65") true
  over (fun _ h=>by cases h) cWf (fun _ h=>by cases h) fnExactFormatProgram_row_tie rfl ⟨rfl,rfl⟩ cMain rfl cAt cGoes
#print axioms proved
end Go.Proofs.YtcfhnaohbaplhaaGreatDoor.fnExactFormatProgram
