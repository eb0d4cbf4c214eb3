/-
  WHAT IS PROVED: for all arguments, laws.FnExactFormatExpr returns true and its arguments read behind the call as before. Conditions: none beyond the row's own reading of its arguments.
-/
import Derived.Test.YtcfhnaohbaplhaaGreatDoorRows
import Derived.Test.YtcfhnaohbaplhaaGreatDoorFactTfbA
import Derived.Test.YtcfhnaohbaplhaaGreatDoorFactTfbB
import Derived.Test.YtcfhnaohbaplhaaGreatDoorFactTfbC
import Derived.Test.YtcfhnaohbaplhaaGreatDoorPartTfbD
import Derived.Test.YtcfhnaohbaplhaaGreatDoorTie
import Derived.Test.YtcfhnaohbaplhaaGreatDoorCards
namespace Go.Proofs.YtcfhnaohbaplhaaGreatDoor.fnExactFormatExpr
open Go.ChangeShapes Go.WideShapes Go.ChangeAt Go.RowKit Go Go.Ab
set_option linter.unusedVariables false
theorem closed:Az Tryz.prog [28,3,9,24,25,26,22,145,41]=true:=by kernel_rfl
set_option maxRecDepth 100000 in
theorem lifted(os:Os)(started:os.Started)(H:Type)(enc:TypeId×Value→H):
 ReturnsInHanded {} Tryz.checked os 3 .any (fun w args=>(Rows.fnExactFormatExprSpec.pre enc Tryz.prog Tryz.f3 Rows.fnExactFormatExprRow.domain false w args∧laidMetH Tryz.prog Rows.fnExactFormatExprRow.laid w)∧sizedMet enc Tryz.prog Tryz.f3 (OpenSpec.ofChange Rows.fnExactFormatExprSpec) false w args) (Rows.fnExactFormatExprSpec.post enc Tryz.prog Tryz.f3 false true false false):=by
 refine returnsInHanded_of_change_and (C:=Tryz.checked) (X:=fun w _=>laidMetH Tryz.prog Rows.fnExactFormatExprRow.laid w) (fun _ _ _ hh h=>h.of_heap hh) own started (by kernel_rfl) Tryz.func3
  (ChangeSpec.witness_shaped (enc:=enc) (C:=Tryz.checked) (os:=os) (X:=fun w _=>laidMetH Tryz.prog Rows.fnExactFormatExprRow.laid w) false (World.doorLaid Tryz.prog 62 os) #[.agg #[.int .i64 0,.string ⟨#[]⟩,.string ⟨#[]⟩,.int .i64 0,.int .i64 0,.string ⟨#[]⟩,.slice none 0 0,.slice none 0 0,.slice none 0 0]] 8 rfl (World.shaped_of_RefB (by kernel_rfl) (by kernel_rfl)) (by kernel_rfl) (by kernel_rfl) (by kernel_rfl) (door_met os _)) ?_
 intro W base args ds gs before hval0 hW hcnd _ hL _
 have hval:∀(j:Nat) t v,Tryz.f3.params[j]? =some t→args[j]? =some v→Value.okWide Tryz.prog W .any base t v:=hval0
 have hW':=hW
 obtain⟨p,q,Xi,hV,rfl,hfz,hnd⟩:=hW
 have hA:DataW.TrodAll enc Tryz.prog W 0 (fun _=>true) true Tryz.f3.params.toList args.toList ds p:=Xi
 rw[Tryz.params3] at hA hval
 obtain⟨v0,WO,d0,ds0,p0,q0,Mx,rfl,rfl,h0,r0⟩:=trodAll_cons hA
 obtain⟨rfl,rfl,rfl⟩:=trodAll_nil r0
 obtain rfl:args= #[v0]:=by cases args;simp_all
 obtain⟨rfl,rfl⟩:=trodVars_none hV
 obtain⟨n0,e0⟩:=h0
 obtain⟨c0,Vq,hl0⟩:=vv closed n0 28 _ _ (by decide) e0
 have f0:=Fj _ _ _ Vq
 obtain⟨x0,rfl⟩:=Q9 _ _ Vq
 have g0:=Jk Tryz.underlying28 (hval 0 28 v0 rfl rfl) hl0
 rw[aj.jI] at g0
 exact OB Fa.laidOut (by kernel_rfl) rfl rfl Tryz.underlying4 rfl rfl rfl hW' (Jl g0 (LA)) (law x0 f0) (Fg (by kernel_rfl) hL)
theorem shut:joinedFacts Tryz.pinned.checked.prog 3 Tryz.f3 Rows.fnExactFormatExprSpec Rows.fnExactFormatExprRow=true:=by
 unfold joinedFacts
 simp only[Bool.and_eq_true]
 exact⟨⟨⟨⟨⟨⟨⟨⟨⟨⟨⟨⟨⟨⟨⟨⟨⟨⟨⟨⟨⟨⟨⟨⟨⟨⟨⟨⟨⟨⟨⟨k0,k1⟩,k2⟩,k3⟩,k4⟩,k5⟩,k6⟩,k7⟩,k8⟩,k9⟩,k10⟩,k11⟩,k12⟩,k13⟩,k14⟩,k15⟩,k16⟩,k17⟩,k18⟩,k19⟩,k20⟩,k21⟩,k22⟩,k23⟩,k24⟩,k25⟩,k26⟩,k27⟩,(by kernel_rfl)⟩,k29⟩,k30⟩,k31⟩
set_option maxRecDepth 100000 in
theorem over:Rows.fnExactFormatExprRow.holds Tryz.pinned (OpenSpec.ofChange Rows.fnExactFormatExprSpec):=
 OpenClaim.holds_of_wide 3 Tryz.f3 rfl rfl rfl rfl rfl rfl rfl ⟨rfl,rfl,rfl,rfl,rfl⟩ rfl rfl rfl rfl rfl named Tryz.func3 shut inst wrap
  (fun os started H enc _=>lifted os started H enc)
theorem proved:Rows.FnExactFormatExprCardSaid:=
 Claim7.holds_tied_plain_at .later [] [.data,.data,.data] true (true,"6b00631f006e200582a8c20a97a8d6c94f481ae2b92569db8a0f83fe40d47c65") true
  over (fun _ h=>by cases h) cWf (fun _ h=>by cases h) fnExactFormatExpr_row_tie rfl ⟨rfl,rfl⟩ cMain rfl cAt cGoes
#print axioms proved
end Go.Proofs.YtcfhnaohbaplhaaGreatDoor.fnExactFormatExpr
