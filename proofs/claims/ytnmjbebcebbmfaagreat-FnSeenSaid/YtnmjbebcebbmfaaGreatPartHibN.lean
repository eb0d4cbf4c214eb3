/-
  SEVERAL TEXTS IN ONE (merged by program): contracts and models, each with its own heading.
-/
import Derived.Test.YtnmjbebcebbmfaaGreatPartHibE
open Go.Proofs Go.Proofs.Tryz
set_option linter.unusedSimpArgs false
set_option linter.unusedVariables false
set_option maxRecDepth 4000
namespace Go.Ab
theorem aS.bounds{x:aS}(h:x.sz<=4194304):x.aF.length<=4194304:=by
 simp only[aS.sz,aS.aB,aY,bG,D.sz,al] at h;omega
def eO(w:aS)(name:List UInt8):Int:=jM (fun p:aA=>decide (p.fName=name)) w.aF
theorem sW(w:aS)(name:List UInt8)(hsz:w.sz<=4194304):aT prog 17 [w.v,.c (.d (.s name))] (.c (.d (.i .i64 (eO w name)))):=fun S=>by
 have hb0:=aS.bounds hsz;refine zcx [.tmp 4] func17 ntmps17 ?_;simp -implicitDefEqProofs (disch:=omega) only[go_sem]
 refine bn (ι:=Nat) zmx rfl [1,2,5] (fun i=>[.c (.d (.s name)),.c (.ptr (0,0) 0),.c (.d (.i .i64 i))]) (fun _=>[.box (w.enc.map .d)]::S)
  (fun i=>i<=w.aF.length/\∀j,∀hj:j<w.aF.length,j<i->(fun p:aA=>decide (p.fName=name)) w.aF[j]=false) (fun i=>w.aF.length-i) 0 rfl ?_ ⟨ao _,fun j _ h=>by omega⟩ ?_
 ·simp -implicitDefEqProofs (disch:=omega) only[go_sem]
 rintro i ⟨p1,p2⟩;simp -implicitDefEqProofs (disch:=omega) only[go_sem]
 with_reducible refine aj (fun hb=> ?_) (fun hb=> ?_)<;>have h:=hb<;>(try simp only[wf_preprocess] at h)<;>simp -implicitDefEqProofs (disch:=omega) only[go_sem,hb]<;>(repeat(with_reducible refine And.intro ?_ ?_;focus first|omega|rfl|assumption|exact⟨_,rfl,rfl⟩|(simp;omega)|(simp;done)))
 ·have hi:i<w.aF.length:=by omega
  (repeat(with_reducible refine And.intro ?_ ?_;focus first|omega|rfl|assumption|exact⟨_,rfl,rfl⟩|(simp;omega)|(simp;done)))
  with_reducible refine aj (fun hb=> ?_) (fun hb=> ?_)<;>have h:=hb<;>(try simp only[wf_preprocess] at h)<;>simp -implicitDefEqProofs (disch:=omega) only[go_sem,hb]<;>(repeat(with_reducible refine And.intro ?_ ?_;focus first|omega|rfl|assumption|exact⟨_,rfl,rfl⟩|(simp;omega)|(simp;done)))
  ·unfold eO;rw[jr (p:=fun p:aA=>decide (p.fName=name)) hi p2 hb]
  ·refine bU (i+1) (by omega) rfl rfl ⟨by omega,fun j hj hji=> ?_⟩;by_cases e:j=i
   ·subst e;exact hb
   ·exact p2 j hj (by omega)
 ·unfold eO;rw[kZ (p:=fun p:aA=>decide (p.fName=name)) (fun j hj=>p2 j hj (by omega))]
theorem Ho(name:List UInt8)(cs:List C)(rest:List Ab.Obj)(S:Store)(p:aA):jB prog 29 [((0,1),0)] ((.box cs:: .box [.d (.s name)]::rest)::S) [p.v] (.c (.d (.b (decide (p.fName=name))))):=fun F=>by
 refine zcx [.tmp 3] func29 ntmps29 ?_;simp -implicitDefEqProofs (disch:=omega) only[go_sem]
theorem Gc(w:aS)(name:List UInt8)(hsz:w.sz<=4194304):aT prog 15 [w.v,.c (.d (.s name))] (.c (.d (.i .i64 (eO w name)))):=fun S=>by
 have hb0:=aS.bounds hsz;refine zcx [.tmp 4] func15 ntmps15 ?_;simp -implicitDefEqProofs (disch:=omega) only[go_sem];refine bq rfl (Ad 29 [((0,1),0)] _ w.aF (fun p=>decide (p.fName=name)) (by omega) fun p hp=>Ho name _ [] S p) ?_;simp -implicitDefEqProofs (disch:=omega) only[go_sem];rfl
end Go.Ab