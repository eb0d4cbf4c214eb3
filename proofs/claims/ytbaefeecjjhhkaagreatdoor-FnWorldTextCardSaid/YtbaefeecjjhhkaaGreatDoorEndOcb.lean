/-
  WHAT IS PROVED: for all arguments, laws.FnWorldText returns true and its arguments read behind the call as before. Conditions: none beyond the row's own reading of its arguments.
-/
import Derived.Test.YtbaefeecjjhhkaaGreatDoorRows
import Derived.Test.YtbaefeecjjhhkaaGreatDoorFactOcbA
import Derived.Test.YtbaefeecjjhhkaaGreatDoorFactOcbB
import Derived.Test.YtbaefeecjjhhkaaGreatDoorFactOcbC
import Derived.Test.YtbaefeecjjhhkaaGreatDoorPartOcbU
import Derived.Test.YtbaefeecjjhhkaaGreatDoorTie
import Derived.Test.YtbaefeecjjhhkaaGreatDoorCards
namespace Go.Proofs.YtbaefeecjjhhkaaGreatDoor.fnWorldText
open Go.ChangeShapes Go.WideShapes Go.ChangeAt Go.RowKit Go Go.Ab
set_option linter.unusedVariables false
theorem closed:Q5 Tryz.prog [22,5]=true:=by kernel_rfl
set_option maxRecDepth 100000 in
theorem lifted(os:Os)(started:os.Started)(H:Type)(enc:TypeId×Value→H):
 ReturnsInHanded {} Tryz.checked os 3 .any (fun w args=>(Rows.fnWorldTextSpec.pre enc Tryz.prog Tryz.f3 Rows.fnWorldTextRow.domain false w args∧laidMetH Tryz.prog Rows.fnWorldTextRow.laid w)∧sizedMet enc Tryz.prog Tryz.f3 (OpenSpec.ofChange Rows.fnWorldTextSpec) false w args) (Rows.fnWorldTextSpec.post enc Tryz.prog Tryz.f3 false true false false):=by
 refine returnsInHanded_of_change_and (C:=Tryz.checked) (X:=fun w _=>laidMetH Tryz.prog Rows.fnWorldTextRow.laid w) (fun _ _ _ hh h=>h.of_heap hh) own started (by kernel_rfl) Tryz.func3
  (ChangeSpec.witness_shaped (enc:=enc) (C:=Tryz.checked) (os:=os) (X:=fun w _=>laidMetH Tryz.prog Rows.fnWorldTextRow.laid w) false (World.laidAll Tryz.prog os Rows.fnWorldTextRow.laid) #[.slice none 0 0] 8 (World.laidAll_os _ _ _) (World.shaped_of_ZipB (by kernel_rfl) (by kernel_rfl)) (by kernel_rfl) (by kernel_rfl) (by kernel_rfl) (door_met os _)) ?_
 intro W base args ds gs before hval0 hW hcnd _ hL _
 have hval:∀(j:Nat) t v,Tryz.f3.params[j]? =some t→args[j]? =some v→Value.okWide Tryz.prog W .any base t v:=hval0
 have hW':=hW
 obtain⟨p,q,SL,hV,rfl,hfz,hnd⟩:=hW
 have hA:DataW.TrodAll enc Tryz.prog W 0 (fun _=>true) true Tryz.f3.params.toList args.toList ds p:=SL
 rw[Tryz.params3] at hA hval
 obtain⟨v0,vs0,d0,ds0,p0,q0,atj,rfl,rfl,h0,r0⟩:=trodAll_cons hA
 obtain⟨rfl,rfl,rfl⟩:=trodAll_nil r0
 obtain rfl:args= #[v0]:=by cases args;simp_all
 obtain⟨rfl,rfl⟩:=trodVars_none hV
 obtain⟨n0,e0⟩:=h0
 obtain⟨c0,wt0,hl0⟩:=JX closed n0 22 _ _ (by decide) e0
 have f0:=Yj _ _ _ wt0
 obtain⟨es0,m0,_,rfl,HY⟩:=ajP Tryz.underlying22 wt0
 obtain⟨x0,rfl,b0⟩:=acd fun y hy=>aoc Tryz.underlying5 (HY y hy)
 have g0:=aeS Tryz.underlying22 (hval 0 22 v0 rfl rfl) hl0
 exact ah6 Fa.laidOut (by kernel_rfl) rfl rfl Tryz.underlying4 rfl rfl rfl hW' (abY g0 (aeT)) (law x0 b0) (Yi (by kernel_rfl) hL)
theorem shut:joinedFacts Tryz.pinned.checked.prog 3 Tryz.f3 Rows.fnWorldTextSpec Rows.fnWorldTextRow=true:=by
 unfold joinedFacts
 simp only[Bool.and_eq_true]
 exact⟨⟨⟨⟨⟨⟨⟨⟨⟨⟨⟨⟨⟨⟨⟨⟨⟨⟨⟨⟨⟨⟨⟨⟨⟨⟨⟨⟨⟨⟨⟨k0,k1⟩,k2⟩,k3⟩,k4⟩,k5⟩,k6⟩,k7⟩,k8⟩,k9⟩,k10⟩,k11⟩,k12⟩,k13⟩,k14⟩,k15⟩,k16⟩,k17⟩,k18⟩,k19⟩,k20⟩,k21⟩,k22⟩,k23⟩,k24⟩,k25⟩,k26⟩,k27⟩,(by kernel_rfl)⟩,k29⟩,k30⟩,k31⟩
set_option maxRecDepth 100000 in
theorem over:Rows.fnWorldTextRow.holds Tryz.pinned (OpenSpec.ofChange Rows.fnWorldTextSpec):=
 OpenClaim.holds_of_wide 3 Tryz.f3 rfl rfl rfl rfl rfl rfl rfl ⟨rfl,rfl,rfl,rfl,rfl⟩ rfl rfl rfl rfl rfl named Tryz.func3 shut inst wrap
  (fun os started H enc _=>lifted os started H enc)
theorem proved:Rows.FnWorldTextCardSaid:=
 Claim7.holds_tied_plain_at .later [] [.data,.data,.data,.data,.sentinel,.sentinel,.pinned] true (true,"abd2f64a48df9a15b06e61bd0cd65042a5ecb741377ec487b18deadbe87c84e1") true
  over (fun _ h=>by cases h) cWf (fun _ h=>by cases h) fnWorldText_row_tie rfl ⟨rfl,rfl⟩ cMain rfl cAt cGoes
#print axioms proved
end Go.Proofs.YtbaefeecjjhhkaaGreatDoor.fnWorldText
