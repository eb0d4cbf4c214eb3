/-
  SEVERAL TEXTS IN ONE (merged by program): contracts and models, each with its own heading.
-/
import Derived.Test.YtlmhknhlmicmeaaGreatDoorPartRlbB
import Derived.Test.YtlmhknhlmicmeaaGreatDoorChecked
import Derived.Eval
import Derived.KernelRfl
set_option linter.unusedSimpArgs false
set_option linter.unusedVariables false
set_option maxRecDepth 4000
namespace Go.Ab
def encS (s : List UInt8) : List D := [.s s]
def encI (n : Int) : List D := [.i .i64 n]
inductive MType where
  | mk (fKind : Int) (fName : List UInt8) (fArgs : List MType)
def MType.fKind : MType → Int | .mk x _ _ => x
def MType.fName : MType → List UInt8 | .mk _ x _ => x
def MType.fArgs : MType → List MType | .mk _ _ x => x
theorem MType.eta (x : MType) : MType.mk x.fKind x.fName x.fArgs = x := by cases x; rfl
theorem MType.ext {x y : MType} (h0 : x.fKind = y.fKind) (h1 : x.fName = y.fName) (h2 : x.fArgs = y.fArgs) : x = y := by
  rw [← MType.eta x, ← MType.eta y, h0, h1, h2]
mutual
def MType.enc : MType → List D
  | .mk a0 a1 a2 => [.i .i64 a0, .s a1, .sl (MType.encs a2)]
def MType.encs : List MType → List (List D)
  | [] => []
  | x :: xs => x.enc :: MType.encs xs
end
theorem MType.encs_map : ∀ l, MType.encs l = l.map MType.enc
  | [] => rfl
  | x :: xs => by rw [MType.encs, List.map_cons, MType.encs_map xs]
theorem MType.enc_eq (x : MType) : x.enc = [.i .i64 x.fKind, .s x.fName, .sl (x.fArgs.map MType.enc)] := by
  cases x; simp only [MType.enc, MType.encs_map, MType.fKind, MType.fName, MType.fArgs]
abbrev MType.v (x : MType) : V := .agg [.d (.i .i64 x.fKind), .d (.s x.fName), .d (.sl (x.fArgs.map MType.enc))]
theorem MType.v_eq (x : MType) : .agg (x.enc.map .d) = x.v := by
  simp only [MType.enc_eq, List.map_cons, List.map_nil, List.cons_append, List.nil_append, List.map_append]
theorem MType.enc_length (x : MType) : x.enc.length = 3 := by
  simp only [MType.enc_eq, List.length_append, List.length_cons, List.length_nil]
def MType.sz (x : MType) : Nat := szRow x.enc
theorem MType.sz_def (x : MType) : szRow x.enc = x.sz := rfl
theorem MType.lt_Args (x : MType) : SizeOf.sizeOf x.fArgs < SizeOf.sizeOf x := by cases x; simp [MType.fArgs]; omega
structure MBinding where
  fVar : List UInt8
  fType : MType
def MBinding.enc (x : MBinding) : List D := [.s x.fVar] ++ (x.fType.enc)
theorem MBinding.enc_eq (x : MBinding) : x.enc = [.s x.fVar] ++ (x.fType.enc) := rfl
theorem MBinding.eta (x : MBinding) : MBinding.mk x.fVar x.fType = x := rfl
theorem MBinding.ext' {x y : MBinding} (h0 : x.fVar = y.fVar) (h1 : x.fType = y.fType) : x = y := by
  cases x; cases y; simp_all
abbrev MBinding.v (x : MBinding) : V := .agg [.d (.s x.fVar), .d (.i .i64 x.fType.fKind), .d (.s x.fType.fName), .d (.sl (x.fType.fArgs.map MType.enc))]
theorem MBinding.v_eq (x : MBinding) : .agg (x.enc.map .d) = x.v := by
  simp only [MBinding.enc_eq, MType.enc_eq, List.map_cons, List.map_nil, List.cons_append, List.nil_append, List.map_append]
theorem MBinding.enc_length (x : MBinding) : x.enc.length = 4 := by
  simp only [MBinding.enc_eq, MType.enc_length, List.length_append, List.length_cons, List.length_nil]
def MBinding.sz (x : MBinding) : Nat := szRow x.enc
theorem MBinding.sz_def (x : MBinding) : szRow x.enc = x.sz := rfl
structure MBound where
  fTrait : List UInt8
  fType : MType
def MBound.enc (x : MBound) : List D := [.s x.fTrait] ++ (x.fType.enc)
theorem MBound.enc_eq (x : MBound) : x.enc = [.s x.fTrait] ++ (x.fType.enc) := rfl
theorem MBound.eta (x : MBound) : MBound.mk x.fTrait x.fType = x := rfl
theorem MBound.ext' {x y : MBound} (h0 : x.fTrait = y.fTrait) (h1 : x.fType = y.fType) : x = y := by
  cases x; cases y; simp_all
abbrev MBound.v (x : MBound) : V := .agg [.d (.s x.fTrait), .d (.i .i64 x.fType.fKind), .d (.s x.fType.fName), .d (.sl (x.fType.fArgs.map MType.enc))]
theorem MBound.v_eq (x : MBound) : .agg (x.enc.map .d) = x.v := by
  simp only [MBound.enc_eq, MType.enc_eq, List.map_cons, List.map_nil, List.cons_append, List.nil_append, List.map_append]
theorem MBound.enc_length (x : MBound) : x.enc.length = 4 := by
  simp only [MBound.enc_eq, MType.enc_length, List.length_append, List.length_cons, List.length_nil]
def MBound.sz (x : MBound) : Nat := szRow x.enc
theorem MBound.sz_def (x : MBound) : szRow x.enc = x.sz := rfl
mutual
inductive MExpr where
  | mk (fKind : Int) (fTrait : List UInt8) (fName : List UInt8) (fN : Int) (fType : MType) (fArgs : List MExpr) (fArms : List MArm)
inductive MArm where
  | mk (fConstructor : List UInt8) (fVars : List (List UInt8)) (fBody : MExpr)
end
def MExpr.fKind : MExpr → Int | .mk x _ _ _ _ _ _ => x
def MExpr.fTrait : MExpr → List UInt8 | .mk _ x _ _ _ _ _ => x
def MExpr.fName : MExpr → List UInt8 | .mk _ _ x _ _ _ _ => x
def MExpr.fN : MExpr → Int | .mk _ _ _ x _ _ _ => x
def MExpr.fType : MExpr → MType | .mk _ _ _ _ x _ _ => x
def MExpr.fArgs : MExpr → List MExpr | .mk _ _ _ _ _ x _ => x
def MExpr.fArms : MExpr → List MArm | .mk _ _ _ _ _ _ x => x
theorem MExpr.eta (x : MExpr) : MExpr.mk x.fKind x.fTrait x.fName x.fN x.fType x.fArgs x.fArms = x := by cases x; rfl
theorem MExpr.ext {x y : MExpr} (h0 : x.fKind = y.fKind) (h1 : x.fTrait = y.fTrait) (h2 : x.fName = y.fName) (h3 : x.fN = y.fN) (h4 : x.fType = y.fType) (h5 : x.fArgs = y.fArgs) (h6 : x.fArms = y.fArms) : x = y := by
  rw [← MExpr.eta x, ← MExpr.eta y, h0, h1, h2, h3, h4, h5, h6]
def MArm.fConstructor : MArm → List UInt8 | .mk x _ _ => x
def MArm.fVars : MArm → List (List UInt8) | .mk _ x _ => x
def MArm.fBody : MArm → MExpr | .mk _ _ x => x
theorem MArm.eta (x : MArm) : MArm.mk x.fConstructor x.fVars x.fBody = x := by cases x; rfl
theorem MArm.ext {x y : MArm} (h0 : x.fConstructor = y.fConstructor) (h1 : x.fVars = y.fVars) (h2 : x.fBody = y.fBody) : x = y := by
  rw [← MArm.eta x, ← MArm.eta y, h0, h1, h2]
mutual
def MExpr.enc : MExpr → List D
  | .mk a0 a1 a2 a3 a4 a5 a6 => [.i .i64 a0, .s a1, .s a2, .i .i64 a3] ++ (a4.enc ++ ([.sl (MExpr.encs a5), .sl (MArm.encs a6)]))
def MExpr.encs : List MExpr → List (List D)
  | [] => []
  | x :: xs => x.enc :: MExpr.encs xs
def MArm.enc : MArm → List D
  | .mk a0 a1 a2 => [.s a0, .sl (a1.map encS)] ++ (MExpr.enc a2)
def MArm.encs : List MArm → List (List D)
  | [] => []
  | x :: xs => x.enc :: MArm.encs xs
end
theorem MExpr.encs_map : ∀ l, MExpr.encs l = l.map MExpr.enc
  | [] => rfl
  | x :: xs => by rw [MExpr.encs, List.map_cons, MExpr.encs_map xs]
theorem MArm.encs_map : ∀ l, MArm.encs l = l.map MArm.enc
  | [] => rfl
  | x :: xs => by rw [MArm.encs, List.map_cons, MArm.encs_map xs]
theorem MExpr.enc_eq (x : MExpr) : x.enc = [.i .i64 x.fKind, .s x.fTrait, .s x.fName, .i .i64 x.fN] ++ (x.fType.enc ++ ([.sl (x.fArgs.map MExpr.enc), .sl (x.fArms.map MArm.enc)])) := by
  cases x; simp only [MExpr.enc, MExpr.encs_map, MArm.encs_map, MExpr.fKind, MExpr.fTrait, MExpr.fName, MExpr.fN, MExpr.fType, MExpr.fArgs, MExpr.fArms]
theorem MArm.enc_eq (x : MArm) : x.enc = [.s x.fConstructor, .sl (x.fVars.map encS)] ++ (x.fBody.enc) := by
  cases x; simp only [MArm.enc, MExpr.encs_map, MArm.encs_map, MArm.fConstructor, MArm.fVars, MArm.fBody]
abbrev MExpr.v (x : MExpr) : V := .agg [.d (.i .i64 x.fKind), .d (.s x.fTrait), .d (.s x.fName), .d (.i .i64 x.fN), .d (.i .i64 x.fType.fKind), .d (.s x.fType.fName), .d (.sl (x.fType.fArgs.map MType.enc)), .d (.sl (x.fArgs.map MExpr.enc)), .d (.sl (x.fArms.map MArm.enc))]
theorem MExpr.v_eq (x : MExpr) : .agg (x.enc.map .d) = x.v := by
  simp only [MExpr.enc_eq, MType.enc_eq, List.map_cons, List.map_nil, List.cons_append, List.nil_append, List.map_append]
theorem MExpr.enc_length (x : MExpr) : x.enc.length = 9 := by
  simp only [MExpr.enc_eq, MType.enc_length, List.length_append, List.length_cons, List.length_nil]
def MExpr.sz (x : MExpr) : Nat := szRow x.enc
theorem MExpr.sz_def (x : MExpr) : szRow x.enc = x.sz := rfl
theorem MExpr.lt_Args (x : MExpr) : SizeOf.sizeOf x.fArgs < SizeOf.sizeOf x := by cases x; simp [MExpr.fArgs]; omega
theorem MExpr.lt_Arms (x : MExpr) : SizeOf.sizeOf x.fArms < SizeOf.sizeOf x := by cases x; simp [MExpr.fArms]; omega
abbrev MArm.v (x : MArm) : V := .agg [.d (.s x.fConstructor), .d (.sl (x.fVars.map encS)), .d (.i .i64 x.fBody.fKind), .d (.s x.fBody.fTrait), .d (.s x.fBody.fName), .d (.i .i64 x.fBody.fN), .d (.i .i64 x.fBody.fType.fKind), .d (.s x.fBody.fType.fName), .d (.sl (x.fBody.fType.fArgs.map MType.enc)), .d (.sl (x.fBody.fArgs.map MExpr.enc)), .d (.sl (x.fBody.fArms.map MArm.enc))]
theorem MArm.v_eq (x : MArm) : .agg (x.enc.map .d) = x.v := by
  simp only [MArm.enc_eq, MExpr.enc_eq, MType.enc_eq, List.map_cons, List.map_nil, List.cons_append, List.nil_append, List.map_append]
theorem MArm.enc_length (x : MArm) : x.enc.length = 11 := by
  simp only [MArm.enc_eq, MExpr.enc_length, List.length_append, List.length_cons, List.length_nil]
def MArm.sz (x : MArm) : Nat := szRow x.enc
theorem MArm.sz_def (x : MArm) : szRow x.enc = x.sz := rfl
theorem MArm.lt_Body (x : MArm) : SizeOf.sizeOf x.fBody < SizeOf.sizeOf x := by cases x; simp [MArm.fBody]; omega
inductive MSExpr where
  | mk (fAtom : List UInt8) (fList : List MSExpr)
def MSExpr.fAtom : MSExpr → List UInt8 | .mk x _ => x
def MSExpr.fList : MSExpr → List MSExpr | .mk _ x => x
theorem MSExpr.eta (x : MSExpr) : MSExpr.mk x.fAtom x.fList = x := by cases x; rfl
theorem MSExpr.ext {x y : MSExpr} (h0 : x.fAtom = y.fAtom) (h1 : x.fList = y.fList) : x = y := by
  rw [← MSExpr.eta x, ← MSExpr.eta y, h0, h1]
mutual
def MSExpr.enc : MSExpr → List D
  | .mk a0 a1 => [.s a0, .sl (MSExpr.encs a1)]
def MSExpr.encs : List MSExpr → List (List D)
  | [] => []
  | x :: xs => x.enc :: MSExpr.encs xs
end
theorem MSExpr.encs_map : ∀ l, MSExpr.encs l = l.map MSExpr.enc
  | [] => rfl
  | x :: xs => by rw [MSExpr.encs, List.map_cons, MSExpr.encs_map xs]
theorem MSExpr.enc_eq (x : MSExpr) : x.enc = [.s x.fAtom, .sl (x.fList.map MSExpr.enc)] := by
  cases x; simp only [MSExpr.enc, MSExpr.encs_map, MSExpr.fAtom, MSExpr.fList]
abbrev MSExpr.v (x : MSExpr) : V := .agg [.d (.s x.fAtom), .d (.sl (x.fList.map MSExpr.enc))]
theorem MSExpr.v_eq (x : MSExpr) : .agg (x.enc.map .d) = x.v := by
  simp only [MSExpr.enc_eq, List.map_cons, List.map_nil, List.cons_append, List.nil_append, List.map_append]
theorem MSExpr.enc_length (x : MSExpr) : x.enc.length = 2 := by
  simp only [MSExpr.enc_eq, List.length_append, List.length_cons, List.length_nil]
def MSExpr.sz (x : MSExpr) : Nat := szRow x.enc
theorem MSExpr.sz_def (x : MSExpr) : szRow x.enc = x.sz := rfl
theorem MSExpr.lt_List (x : MSExpr) : SizeOf.sizeOf x.fList < SizeOf.sizeOf x := by cases x; simp [MSExpr.fList]; omega
structure MSignature where
  fName : List UInt8
  fParams : List MType
  fResult : MType
  fHasDefault : Bool
  fVars : List (List UInt8)
  fBody : MExpr
def MSignature.enc (x : MSignature) : List D := [.s x.fName, .sl (x.fParams.map MType.enc)] ++ (x.fResult.enc ++ ([.b x.fHasDefault, .sl (x.fVars.map encS)] ++ (x.fBody.enc)))
theorem MSignature.enc_eq (x : MSignature) : x.enc = [.s x.fName, .sl (x.fParams.map MType.enc)] ++ (x.fResult.enc ++ ([.b x.fHasDefault, .sl (x.fVars.map encS)] ++ (x.fBody.enc))) := rfl
theorem MSignature.eta (x : MSignature) : MSignature.mk x.fName x.fParams x.fResult x.fHasDefault x.fVars x.fBody = x := rfl
theorem MSignature.ext' {x y : MSignature} (h0 : x.fName = y.fName) (h1 : x.fParams = y.fParams) (h2 : x.fResult = y.fResult) (h3 : x.fHasDefault = y.fHasDefault) (h4 : x.fVars = y.fVars) (h5 : x.fBody = y.fBody) : x = y := by
  cases x; cases y; simp_all
abbrev MSignature.v (x : MSignature) : V := .agg [.d (.s x.fName), .d (.sl (x.fParams.map MType.enc)), .d (.i .i64 x.fResult.fKind), .d (.s x.fResult.fName), .d (.sl (x.fResult.fArgs.map MType.enc)), .d (.b x.fHasDefault), .d (.sl (x.fVars.map encS)), .d (.i .i64 x.fBody.fKind), .d (.s x.fBody.fTrait), .d (.s x.fBody.fName), .d (.i .i64 x.fBody.fN), .d (.i .i64 x.fBody.fType.fKind), .d (.s x.fBody.fType.fName), .d (.sl (x.fBody.fType.fArgs.map MType.enc)), .d (.sl (x.fBody.fArgs.map MExpr.enc)), .d (.sl (x.fBody.fArms.map MArm.enc))]
theorem MSignature.v_eq (x : MSignature) : .agg (x.enc.map .d) = x.v := by
  simp only [MSignature.enc_eq, MExpr.enc_eq, MType.enc_eq, List.map_cons, List.map_nil, List.cons_append, List.nil_append, List.map_append]
theorem MSignature.enc_length (x : MSignature) : x.enc.length = 16 := by
  simp only [MSignature.enc_eq, MExpr.enc_length, MType.enc_length, List.length_append, List.length_cons, List.length_nil]
def MSignature.sz (x : MSignature) : Nat := szRow x.enc
theorem MSignature.sz_def (x : MSignature) : szRow x.enc = x.sz := rfl
structure MTrait where
  fName : List UInt8
  fSupertraits : List (List UInt8)
  fAuto : Bool
  fAssoc : Bool
  fSignatures : List MSignature
def MTrait.enc (x : MTrait) : List D := [.s x.fName, .sl (x.fSupertraits.map encS), .b x.fAuto, .b x.fAssoc, .sl (x.fSignatures.map MSignature.enc)]
theorem MTrait.enc_eq (x : MTrait) : x.enc = [.s x.fName, .sl (x.fSupertraits.map encS), .b x.fAuto, .b x.fAssoc, .sl (x.fSignatures.map MSignature.enc)] := rfl
theorem MTrait.eta (x : MTrait) : MTrait.mk x.fName x.fSupertraits x.fAuto x.fAssoc x.fSignatures = x := rfl
theorem MTrait.ext' {x y : MTrait} (h0 : x.fName = y.fName) (h1 : x.fSupertraits = y.fSupertraits) (h2 : x.fAuto = y.fAuto) (h3 : x.fAssoc = y.fAssoc) (h4 : x.fSignatures = y.fSignatures) : x = y := by
  cases x; cases y; simp_all
abbrev MTrait.v (x : MTrait) : V := .agg [.d (.s x.fName), .d (.sl (x.fSupertraits.map encS)), .d (.b x.fAuto), .d (.b x.fAssoc), .d (.sl (x.fSignatures.map MSignature.enc))]
theorem MTrait.v_eq (x : MTrait) : .agg (x.enc.map .d) = x.v := by
  simp only [MTrait.enc_eq, List.map_cons, List.map_nil, List.cons_append, List.nil_append, List.map_append]
theorem MTrait.enc_length (x : MTrait) : x.enc.length = 5 := by
  simp only [MTrait.enc_eq, List.length_append, List.length_cons, List.length_nil]
def MTrait.sz (x : MTrait) : Nat := szRow x.enc
theorem MTrait.sz_def (x : MTrait) : szRow x.enc = x.sz := rfl
structure MConstructor where
  fName : List UInt8
  fFields : List MType
def MConstructor.enc (x : MConstructor) : List D := [.s x.fName, .sl (x.fFields.map MType.enc)]
theorem MConstructor.enc_eq (x : MConstructor) : x.enc = [.s x.fName, .sl (x.fFields.map MType.enc)] := rfl
theorem MConstructor.eta (x : MConstructor) : MConstructor.mk x.fName x.fFields = x := rfl
theorem MConstructor.ext' {x y : MConstructor} (h0 : x.fName = y.fName) (h1 : x.fFields = y.fFields) : x = y := by
  cases x; cases y; simp_all
abbrev MConstructor.v (x : MConstructor) : V := .agg [.d (.s x.fName), .d (.sl (x.fFields.map MType.enc))]
theorem MConstructor.v_eq (x : MConstructor) : .agg (x.enc.map .d) = x.v := by
  simp only [MConstructor.enc_eq, List.map_cons, List.map_nil, List.cons_append, List.nil_append, List.map_append]
theorem MConstructor.enc_length (x : MConstructor) : x.enc.length = 2 := by
  simp only [MConstructor.enc_eq, List.length_append, List.length_cons, List.length_nil]
def MConstructor.sz (x : MConstructor) : Nat := szRow x.enc
theorem MConstructor.sz_def (x : MConstructor) : szRow x.enc = x.sz := rfl
structure MDataType where
  fName : List UInt8
  fVars : List (List UInt8)
  fConstructors : List MConstructor
def MDataType.enc (x : MDataType) : List D := [.s x.fName, .sl (x.fVars.map encS), .sl (x.fConstructors.map MConstructor.enc)]
theorem MDataType.enc_eq (x : MDataType) : x.enc = [.s x.fName, .sl (x.fVars.map encS), .sl (x.fConstructors.map MConstructor.enc)] := rfl
theorem MDataType.eta (x : MDataType) : MDataType.mk x.fName x.fVars x.fConstructors = x := rfl
theorem MDataType.ext' {x y : MDataType} (h0 : x.fName = y.fName) (h1 : x.fVars = y.fVars) (h2 : x.fConstructors = y.fConstructors) : x = y := by
  cases x; cases y; simp_all
abbrev MDataType.v (x : MDataType) : V := .agg [.d (.s x.fName), .d (.sl (x.fVars.map encS)), .d (.sl (x.fConstructors.map MConstructor.enc))]
theorem MDataType.v_eq (x : MDataType) : .agg (x.enc.map .d) = x.v := by
  simp only [MDataType.enc_eq, List.map_cons, List.map_nil, List.cons_append, List.nil_append, List.map_append]
theorem MDataType.enc_length (x : MDataType) : x.enc.length = 3 := by
  simp only [MDataType.enc_eq, List.length_append, List.length_cons, List.length_nil]
def MDataType.sz (x : MDataType) : Nat := szRow x.enc
theorem MDataType.sz_def (x : MDataType) : szRow x.enc = x.sz := rfl
structure MMethod where
  fName : List UInt8
  fVars : List (List UInt8)
  fBody : MExpr
def MMethod.enc (x : MMethod) : List D := [.s x.fName, .sl (x.fVars.map encS)] ++ (x.fBody.enc)
theorem MMethod.enc_eq (x : MMethod) : x.enc = [.s x.fName, .sl (x.fVars.map encS)] ++ (x.fBody.enc) := rfl
theorem MMethod.eta (x : MMethod) : MMethod.mk x.fName x.fVars x.fBody = x := rfl
theorem MMethod.ext' {x y : MMethod} (h0 : x.fName = y.fName) (h1 : x.fVars = y.fVars) (h2 : x.fBody = y.fBody) : x = y := by
  cases x; cases y; simp_all
abbrev MMethod.v (x : MMethod) : V := .agg [.d (.s x.fName), .d (.sl (x.fVars.map encS)), .d (.i .i64 x.fBody.fKind), .d (.s x.fBody.fTrait), .d (.s x.fBody.fName), .d (.i .i64 x.fBody.fN), .d (.i .i64 x.fBody.fType.fKind), .d (.s x.fBody.fType.fName), .d (.sl (x.fBody.fType.fArgs.map MType.enc)), .d (.sl (x.fBody.fArgs.map MExpr.enc)), .d (.sl (x.fBody.fArms.map MArm.enc))]
theorem MMethod.v_eq (x : MMethod) : .agg (x.enc.map .d) = x.v := by
  simp only [MMethod.enc_eq, MExpr.enc_eq, MType.enc_eq, List.map_cons, List.map_nil, List.cons_append, List.nil_append, List.map_append]
theorem MMethod.enc_length (x : MMethod) : x.enc.length = 11 := by
  simp only [MMethod.enc_eq, MExpr.enc_length, List.length_append, List.length_cons, List.length_nil]
def MMethod.sz (x : MMethod) : Nat := szRow x.enc
theorem MMethod.sz_def (x : MMethod) : szRow x.enc = x.sz := rfl
structure MInstance where
  fTrait : List UInt8
  fVars : List (List UInt8)
  fHead : MType
  fWhere : List MBound
  fDefault : Bool
  fHasAssoc : Bool
  fAssoc : MType
  fMethods : List MMethod
def MInstance.enc (x : MInstance) : List D := [.s x.fTrait, .sl (x.fVars.map encS)] ++ (x.fHead.enc ++ ([.sl (x.fWhere.map MBound.enc), .b x.fDefault, .b x.fHasAssoc] ++ (x.fAssoc.enc ++ ([.sl (x.fMethods.map MMethod.enc)]))))
theorem MInstance.enc_eq (x : MInstance) : x.enc = [.s x.fTrait, .sl (x.fVars.map encS)] ++ (x.fHead.enc ++ ([.sl (x.fWhere.map MBound.enc), .b x.fDefault, .b x.fHasAssoc] ++ (x.fAssoc.enc ++ ([.sl (x.fMethods.map MMethod.enc)])))) := rfl
theorem MInstance.eta (x : MInstance) : MInstance.mk x.fTrait x.fVars x.fHead x.fWhere x.fDefault x.fHasAssoc x.fAssoc x.fMethods = x := rfl
theorem MInstance.ext' {x y : MInstance} (h0 : x.fTrait = y.fTrait) (h1 : x.fVars = y.fVars) (h2 : x.fHead = y.fHead) (h3 : x.fWhere = y.fWhere) (h4 : x.fDefault = y.fDefault) (h5 : x.fHasAssoc = y.fHasAssoc) (h6 : x.fAssoc = y.fAssoc) (h7 : x.fMethods = y.fMethods) : x = y := by
  cases x; cases y; simp_all
abbrev MInstance.v (x : MInstance) : V := .agg [.d (.s x.fTrait), .d (.sl (x.fVars.map encS)), .d (.i .i64 x.fHead.fKind), .d (.s x.fHead.fName), .d (.sl (x.fHead.fArgs.map MType.enc)), .d (.sl (x.fWhere.map MBound.enc)), .d (.b x.fDefault), .d (.b x.fHasAssoc), .d (.i .i64 x.fAssoc.fKind), .d (.s x.fAssoc.fName), .d (.sl (x.fAssoc.fArgs.map MType.enc)), .d (.sl (x.fMethods.map MMethod.enc))]
theorem MInstance.v_eq (x : MInstance) : .agg (x.enc.map .d) = x.v := by
  simp only [MInstance.enc_eq, MType.enc_eq, List.map_cons, List.map_nil, List.cons_append, List.nil_append, List.map_append]
theorem MInstance.enc_length (x : MInstance) : x.enc.length = 12 := by
  simp only [MInstance.enc_eq, MType.enc_length, List.length_append, List.length_cons, List.length_nil]
def MInstance.sz (x : MInstance) : Nat := szRow x.enc
theorem MInstance.sz_def (x : MInstance) : szRow x.enc = x.sz := rfl
structure MParam where
  fName : List UInt8
  fType : MType
def MParam.enc (x : MParam) : List D := [.s x.fName] ++ (x.fType.enc)
theorem MParam.enc_eq (x : MParam) : x.enc = [.s x.fName] ++ (x.fType.enc) := rfl
theorem MParam.eta (x : MParam) : MParam.mk x.fName x.fType = x := rfl
theorem MParam.ext' {x y : MParam} (h0 : x.fName = y.fName) (h1 : x.fType = y.fType) : x = y := by
  cases x; cases y; simp_all
abbrev MParam.v (x : MParam) : V := .agg [.d (.s x.fName), .d (.i .i64 x.fType.fKind), .d (.s x.fType.fName), .d (.sl (x.fType.fArgs.map MType.enc))]
theorem MParam.v_eq (x : MParam) : .agg (x.enc.map .d) = x.v := by
  simp only [MParam.enc_eq, MType.enc_eq, List.map_cons, List.map_nil, List.cons_append, List.nil_append, List.map_append]
theorem MParam.enc_length (x : MParam) : x.enc.length = 4 := by
  simp only [MParam.enc_eq, MType.enc_length, List.length_append, List.length_cons, List.length_nil]
def MParam.sz (x : MParam) : Nat := szRow x.enc
theorem MParam.sz_def (x : MParam) : szRow x.enc = x.sz := rfl
structure MFunction where
  fName : List UInt8
  fVars : List (List UInt8)
  fWhere : List MBound
  fParams : List MParam
  fResult : MType
  fBody : MExpr
def MFunction.enc (x : MFunction) : List D := [.s x.fName, .sl (x.fVars.map encS), .sl (x.fWhere.map MBound.enc), .sl (x.fParams.map MParam.enc)] ++ (x.fResult.enc ++ (x.fBody.enc))
theorem MFunction.enc_eq (x : MFunction) : x.enc = [.s x.fName, .sl (x.fVars.map encS), .sl (x.fWhere.map MBound.enc), .sl (x.fParams.map MParam.enc)] ++ (x.fResult.enc ++ (x.fBody.enc)) := rfl
theorem MFunction.eta (x : MFunction) : MFunction.mk x.fName x.fVars x.fWhere x.fParams x.fResult x.fBody = x := rfl
theorem MFunction.ext' {x y : MFunction} (h0 : x.fName = y.fName) (h1 : x.fVars = y.fVars) (h2 : x.fWhere = y.fWhere) (h3 : x.fParams = y.fParams) (h4 : x.fResult = y.fResult) (h5 : x.fBody = y.fBody) : x = y := by
  cases x; cases y; simp_all
abbrev MFunction.v (x : MFunction) : V := .agg [.d (.s x.fName), .d (.sl (x.fVars.map encS)), .d (.sl (x.fWhere.map MBound.enc)), .d (.sl (x.fParams.map MParam.enc)), .d (.i .i64 x.fResult.fKind), .d (.s x.fResult.fName), .d (.sl (x.fResult.fArgs.map MType.enc)), .d (.i .i64 x.fBody.fKind), .d (.s x.fBody.fTrait), .d (.s x.fBody.fName), .d (.i .i64 x.fBody.fN), .d (.i .i64 x.fBody.fType.fKind), .d (.s x.fBody.fType.fName), .d (.sl (x.fBody.fType.fArgs.map MType.enc)), .d (.sl (x.fBody.fArgs.map MExpr.enc)), .d (.sl (x.fBody.fArms.map MArm.enc))]
theorem MFunction.v_eq (x : MFunction) : .agg (x.enc.map .d) = x.v := by
  simp only [MFunction.enc_eq, MExpr.enc_eq, MType.enc_eq, List.map_cons, List.map_nil, List.cons_append, List.nil_append, List.map_append]
theorem MFunction.enc_length (x : MFunction) : x.enc.length = 16 := by
  simp only [MFunction.enc_eq, MExpr.enc_length, MType.enc_length, List.length_append, List.length_cons, List.length_nil]
def MFunction.sz (x : MFunction) : Nat := szRow x.enc
theorem MFunction.sz_def (x : MFunction) : szRow x.enc = x.sz := rfl
structure MPackage where
  fName : List UInt8
  fDeps : List (List UInt8)
  fTraits : List MTrait
  fDataTypes : List MDataType
  fInstances : List MInstance
  fFunctions : List MFunction
def MPackage.enc (x : MPackage) : List D := [.s x.fName, .sl (x.fDeps.map encS), .sl (x.fTraits.map MTrait.enc), .sl (x.fDataTypes.map MDataType.enc), .sl (x.fInstances.map MInstance.enc), .sl (x.fFunctions.map MFunction.enc)]
theorem MPackage.enc_eq (x : MPackage) : x.enc = [.s x.fName, .sl (x.fDeps.map encS), .sl (x.fTraits.map MTrait.enc), .sl (x.fDataTypes.map MDataType.enc), .sl (x.fInstances.map MInstance.enc), .sl (x.fFunctions.map MFunction.enc)] := rfl
theorem MPackage.eta (x : MPackage) : MPackage.mk x.fName x.fDeps x.fTraits x.fDataTypes x.fInstances x.fFunctions = x := rfl
theorem MPackage.ext' {x y : MPackage} (h0 : x.fName = y.fName) (h1 : x.fDeps = y.fDeps) (h2 : x.fTraits = y.fTraits) (h3 : x.fDataTypes = y.fDataTypes) (h4 : x.fInstances = y.fInstances) (h5 : x.fFunctions = y.fFunctions) : x = y := by
  cases x; cases y; simp_all
abbrev MPackage.v (x : MPackage) : V := .agg [.d (.s x.fName), .d (.sl (x.fDeps.map encS)), .d (.sl (x.fTraits.map MTrait.enc)), .d (.sl (x.fDataTypes.map MDataType.enc)), .d (.sl (x.fInstances.map MInstance.enc)), .d (.sl (x.fFunctions.map MFunction.enc))]
theorem MPackage.v_eq (x : MPackage) : .agg (x.enc.map .d) = x.v := by
  simp only [MPackage.enc_eq, List.map_cons, List.map_nil, List.cons_append, List.nil_append, List.map_append]
theorem MPackage.enc_length (x : MPackage) : x.enc.length = 6 := by
  simp only [MPackage.enc_eq, List.length_append, List.length_cons, List.length_nil]
def MPackage.sz (x : MPackage) : Nat := szRow x.enc
theorem MPackage.sz_def (x : MPackage) : szRow x.enc = x.sz := rfl
structure MProgram where
  fPackages : List MPackage
def MProgram.enc (x : MProgram) : List D := [.sl (x.fPackages.map MPackage.enc)]
theorem MProgram.enc_eq (x : MProgram) : x.enc = [.sl (x.fPackages.map MPackage.enc)] := rfl
theorem MProgram.eta (x : MProgram) : MProgram.mk x.fPackages = x := rfl
theorem MProgram.ext' {x y : MProgram} (h0 : x.fPackages = y.fPackages) : x = y := by
  cases x; cases y; simp_all
abbrev MProgram.v (x : MProgram) : V := .agg [.d (.sl (x.fPackages.map MPackage.enc))]
theorem MProgram.v_eq (x : MProgram) : .agg (x.enc.map .d) = x.v := by
  simp only [MProgram.enc_eq, List.map_cons, List.map_nil, List.cons_append, List.nil_append, List.map_append]
theorem MProgram.enc_length (x : MProgram) : x.enc.length = 1 := by
  simp only [MProgram.enc_eq, List.length_append, List.length_cons, List.length_nil]
def MProgram.sz (x : MProgram) : Nat := szRow x.enc
theorem MProgram.sz_def (x : MProgram) : szRow x.enc = x.sz := rfl
structure MInstanceRef where
  fPackage : Int
  fAt : Int
def MInstanceRef.enc (x : MInstanceRef) : List D := [.i .i64 x.fPackage, .i .i64 x.fAt]
theorem MInstanceRef.enc_eq (x : MInstanceRef) : x.enc = [.i .i64 x.fPackage, .i .i64 x.fAt] := rfl
theorem MInstanceRef.eta (x : MInstanceRef) : MInstanceRef.mk x.fPackage x.fAt = x := rfl
theorem MInstanceRef.ext' {x y : MInstanceRef} (h0 : x.fPackage = y.fPackage) (h1 : x.fAt = y.fAt) : x = y := by
  cases x; cases y; simp_all
abbrev MInstanceRef.v (x : MInstanceRef) : V := .agg [.d (.i .i64 x.fPackage), .d (.i .i64 x.fAt)]
theorem MInstanceRef.v_eq (x : MInstanceRef) : .agg (x.enc.map .d) = x.v := by
  simp only [MInstanceRef.enc_eq, List.map_cons, List.map_nil, List.cons_append, List.nil_append, List.map_append]
theorem MInstanceRef.enc_length (x : MInstanceRef) : x.enc.length = 2 := by
  simp only [MInstanceRef.enc_eq, List.length_append, List.length_cons, List.length_nil]
def MInstanceRef.sz (x : MInstanceRef) : Nat := szRow x.enc
theorem MInstanceRef.sz_def (x : MInstanceRef) : szRow x.enc = x.sz := rfl
attribute [go_sem] MType.enc_eq MBinding.enc_eq MBound.enc_eq MExpr.enc_eq MArm.enc_eq MSExpr.enc_eq MSignature.enc_eq MTrait.enc_eq MConstructor.enc_eq MDataType.enc_eq MMethod.enc_eq MInstance.enc_eq MParam.enc_eq MFunction.enc_eq MPackage.enc_eq MProgram.enc_eq MInstanceRef.enc_eq encS encI
end Go.Ab

namespace Go.Ab
def lookupB : List MBinding → List UInt8 → Option MType
  | [], _ => none
  | b :: bs, v => if b.fVar = v then some b.fType else lookupB bs v
mutual
noncomputable def matchT (s : List MBinding) : MType → MType → Option (List MBinding)
  | .mk k n a, t =>
    if k = 1 then
      match lookupB s n with
      | some u => if dec (u = t) = true then some s else none
      | none => some (s ++ [⟨n, t⟩])
    else if k = t.fKind ∧ n = t.fName ∧ a.length = t.fArgs.length then matchL s a t.fArgs else none
noncomputable def matchL (s : List MBinding) : List MType → List MType → Option (List MBinding)
  | [], _ => some s
  | _ :: _, [] => none
  | p :: ps, t :: ts =>
    match matchT s p t with
    | some s' => matchL s' ps ts
    | none => none
end
mutual
def MType.cnt : MType → Nat
  | .mk _ _ a => 1 + MType.cnts a
def MType.cnts : List MType → Nat
  | [] => 0
  | t :: ts => t.cnt + MType.cnts ts
end
theorem MType.cnt_eq (t : MType) : t.cnt = 1 + MType.cnts t.fArgs := by cases t; rw [MType.cnt]; rfl
mutual
theorem cnt_le : ∀ t : MType, t.cnt ≤ 1 + t.sz
  | .mk k n a => by
    have h := cnts_le a
    rw [MType.cnt]
    have e : (MType.mk k n a).sz = n.length + (a.length + szRows (a.map MType.enc)) := by
      simp only [MType.sz, MType.enc_eq, szRow, D.sz, List.length_map, MType.fName, MType.fArgs, Nat.add_zero, Nat.zero_add]
    omega
theorem cnts_le : ∀ ts : List MType, MType.cnts ts ≤ ts.length + szRows (ts.map MType.enc)
  | [] => by simp [MType.cnts]
  | t :: ts => by
    have h1 := cnt_le t
    have h2 := cnts_le ts
    rw [MType.cnts, List.length_cons, List.map_cons, szRows, MType.sz_def]
    omega
end
mutual
theorem matchT_len : ∀ (p : MType) (s : List MBinding) (t : MType) (s' : List MBinding), matchT s p t = some s' → s'.length ≤ s.length + p.cnt
  | .mk k n a, s, t, s', h => by
    rw [matchT] at h
    rw [MType.cnt]
    split at h
    · split at h
      · split at h
        · cases h; omega
        · cases h
      · cases h; simp
    · split at h
      · have := matchL_len a s t.fArgs s' h; omega
      · cases h
theorem matchL_len : ∀ (ps : List MType) (s : List MBinding) (ts : List MType) (s' : List MBinding), matchL s ps ts = some s' → s'.length ≤ s.length + MType.cnts ps
  | [], s, ts, s', h => by rw [matchL] at h; cases h; omega
  | p :: ps, s, [], s', h => by rw [matchL] at h; cases h
  | p :: ps, s, t :: ts, s', h => by
    rw [matchL] at h
    rw [MType.cnts]
    cases hm : matchT s p t with
    | none => rw [hm] at h; cases h
    | some s1 =>
      rw [hm] at h
      have h1 := matchT_len p s t s1 hm
      have h2 := matchL_len ps s1 ts s' h
      omega
end
def Small (s : List MBinding) : Prop := ∀ b ∈ s, b.fType.sz ≤ 4194304
mutual
theorem matchT_small : ∀ (p : MType) (s : List MBinding) (t : MType) (s' : List MBinding), t.sz ≤ 4194304 → Small s → matchT s p t = some s' → Small s'
  | .mk k n a, s, t, s', ht, hs, h => by
    rw [matchT] at h
    split at h
    · split at h
      · split at h
        · cases h; exact hs
        · cases h
      · cases h
        intro b hb
        rcases List.mem_append.1 hb with hb | hb
        · exact hs b hb
        · simp at hb; subst hb; exact ht
    · split at h
      · refine matchL_small a s t.fArgs s' ?_ hs h
        intro x hx
        have h1 := szRows_mem (List.mem_map_of_mem (f := MType.enc) hx)
        have h2 : t.sz = t.fName.length + (t.fArgs.length + szRows (t.fArgs.map MType.enc)) := by
          simp only [MType.sz, MType.enc_eq, szRow, szRow_append, D.sz, List.length_map, Nat.add_zero, Nat.zero_add]
        rw [MType.sz_def] at h1
        omega
      · cases h
theorem matchL_small : ∀ (ps : List MType) (s : List MBinding) (ts : List MType) (s' : List MBinding), (∀ t ∈ ts, t.sz ≤ 4194304) → Small s → matchL s ps ts = some s' → Small s'
  | [], s, ts, s', ht, hs, h => by rw [matchL] at h; cases h; exact hs
  | p :: ps, s, [], s', ht, hs, h => by rw [matchL] at h; cases h
  | p :: ps, s, t :: ts, s', ht, hs, h => by
    rw [matchL] at h
    cases hm : matchT s p t with
    | none => rw [hm] at h; cases h
    | some s1 =>
      rw [hm] at h
      exact matchL_small ps s1 ts s' (fun x hx => ht x (by simp [hx])) (matchT_small p s t s1 (ht t (by simp)) hs hm) h
end
end Go.Ab

namespace Go.Ab
def lowerB (b : UInt8) : Prop := 97 ≤ b.toNat ∧ b.toNat ≤ 122
def digitB (b : UInt8) : Prop := 48 ≤ b.toNat ∧ b.toNat ≤ 57
def nameOk (s : List UInt8) : Prop := ∀ i, i < s.length → lowerB (s.getD i 0) ∨ (i ≠ 0 ∧ digitB (s.getD i 0))
def reserved : List (List UInt8) := [[105, 110, 116], [98, 111, 111, 108], [97, 115, 115, 111, 99], [100, 121, 110], [105, 102], [108, 101, 116], [99, 97, 115, 101], [110, 101, 119], [109, 101, 116, 104, 111, 100], [112, 97, 99, 107], [116, 114, 117, 101], [102, 97, 108, 115, 101]]
noncomputable def validName (s : List UInt8) : Bool := dec ((1 ≤ s.length ∧ s.length ≤ 8) ∧ s ∉ reserved ∧ nameOk s)
noncomputable def builtInB (s : List UInt8) : Bool := dec (s = [105, 110, 116] ∨ s = [98, 111, 111, 108])
noncomputable def indexS (xs : List (List UInt8)) (s : List UInt8) : Int := if s ∈ xs then ((xs.findIdx fun x => dec (x = s) : Nat) : Int) else -1
theorem indexS_here {xs : List (List UInt8)} {s : List UInt8} {i : Nat} (hi : i < xs.length) (hj : ∀ j, j < i → xs.getD j [] ≠ s) (h : xs.getD i [] = s) : indexS xs s = i := by
  have e : ∀ j, ∀ hj : j < xs.length, xs.getD j [] = xs[j] := fun j hj => by simp [List.getD, hj]
  have hm : s ∈ xs := by rw [← h, e i hi]; exact List.getElem_mem hi
  unfold indexS
  rw [if_pos hm]
  congr 1
  rw [List.findIdx_eq hi]
  exact ⟨dec_true (by rw [← e i hi]; exact h), fun j hji => dec_false (by rw [← e j (by omega)]; exact hj j hji)⟩
theorem indexS_no {xs : List (List UInt8)} {s : List UInt8} (hj : ∀ j, j < xs.length → xs.getD j [] ≠ s) : indexS xs s = -1 := by
  unfold indexS
  refine if_neg fun hm => ?_
  obtain ⟨j, h1, h2⟩ := List.getElem_of_mem hm
  exact hj j h1 (by simp [List.getD, h1, h2])
theorem indexS_pos {xs : List (List UInt8)} {s : List UInt8} : decide (indexS xs s ≥ 0) = dec (s ∈ xs) := by
  rw [decide_dec]
  refine dec_congr ?_
  unfold indexS
  split
  · rename_i h; exact ⟨fun _ => h, fun _ => by omega⟩
  · rename_i h; exact ⟨fun x => by omega, fun x => absurd x h⟩
def indexP {α : Type} (p : α → Bool) (xs : List α) : Int := if xs.any p then ((xs.findIdx p : Nat) : Int) else -1
theorem indexP_here {α : Type} {p : α → Bool} {xs : List α} {i : Nat} (hi : i < xs.length) (hj : ∀ j, ∀ hj : j < xs.length, j < i → p xs[j] = false) (h : p xs[i] = true) : indexP p xs = i := by
  unfold indexP
  rw [if_pos (List.any_eq_true.2 ⟨xs[i], List.getElem_mem hi, h⟩)]
  congr 1
  rw [List.findIdx_eq hi]
  exact ⟨h, fun j hji => hj j (by omega) hji⟩
theorem indexP_no {α : Type} {p : α → Bool} {xs : List α} (hj : ∀ j, ∀ hj : j < xs.length, p xs[j] = false) : indexP p xs = -1 := by
  unfold indexP
  refine if_neg fun h => ?_
  obtain ⟨x, hx, hp⟩ := List.any_eq_true.1 h
  obtain ⟨j, h1, h2⟩ := List.getElem_of_mem hx
  rw [← h2, hj j h1] at hp
  cases hp
theorem indexP_pos {α : Type} {p : α → Bool} {xs : List α} : decide (indexP p xs ≥ 0) = xs.any p := by
  unfold indexP
  cases h : xs.any p with
  | true => simp
  | false => simp
noncomputable def fineT (k : Int) (n : List UInt8) (len : Nat) : Bool :=
  dec ((k = 1 ∨ k = 4) ∧ validName n = true ∧ len = 0 ∨ k = 3 ∧ validName n = true ∧ len = 1 ∨ k = 2 ∧ (validName n = true ∧ len ≤ 3 ∨ builtInB n = true ∧ len = 0))
mutual
noncomputable def formed : MType → Bool
  | .mk k n a => fineT k n a.length && formeds a
noncomputable def formeds : List MType → Bool
  | [] => true
  | t :: ts => formed t && formeds ts
end
theorem formed_eq (t : MType) : formed t = (fineT t.fKind t.fName t.fArgs.length && formeds t.fArgs) := by cases t; rw [formed]; rfl
theorem formeds_iff : ∀ {ts : List MType}, formeds ts = true ↔ ∀ t ∈ ts, formed t = true
  | [] => by simp [formeds]
  | t :: ts => by simp [formeds, formeds_iff (ts := ts)]
theorem formeds_any : ∀ {ts : List MType}, (ts.any fun t => !formed t) = !formeds ts
  | [] => rfl
  | t :: ts => by rw [List.any_cons, formeds_any (ts := ts), formeds]; simp
mutual
def depthT : MType → Nat
  | .mk _ _ a => depths a
def depths : List MType → Nat
  | [] => 0
  | t :: ts => max (depthT t + 1) (depths ts)
end
theorem depthT_eq (t : MType) : depthT t = depths t.fArgs := by cases t; rw [depthT]; rfl
mutual
theorem depthT_le : ∀ t : MType, depthT t + 1 ≤ t.cnt
  | .mk k n a => by
    have := depths_le a
    rw [depthT, MType.cnt]; omega
theorem depths_le : ∀ ts : List MType, depths ts ≤ MType.cnts ts
  | [] => by simp [depths]
  | t :: ts => by
    have h1 := depthT_le t
    have h2 := depths_le ts
    rw [depths, MType.cnts]
    omega
end
noncomputable def validType (t : MType) : Bool := dec (formed t = true ∧ depthT t ≤ 6 ∧ t.cnt ≤ 60)
end Go.Ab

namespace Go.Ab
def atomX (s : List UInt8) : MSExpr := .mk s []
def listX (l : List MSExpr) : MSExpr := .mk [] l
def wordsX (l : List (List UInt8)) : List MSExpr := l.map atomX
def zeroX : MSExpr := .mk [] []
theorem fAtom_atom (s : List UInt8) : (atomX s).fAtom = s := rfl
theorem fList_atom (s : List UInt8) : (atomX s).fList = [] := rfl
theorem fAtom_list (l : List MSExpr) : (listX l).fAtom = [] := rfl
theorem fList_list (l : List MSExpr) : (listX l).fList = l := rfl
def wDyn : List UInt8 := [100, 121, 110]
def wAssoc : List UInt8 := [97, 115, 115, 111, 99]
mutual
def sxT : MType → MSExpr
  | .mk k n zs => if k = 1 then atomX ([39] ++ n) else if k = 4 then listX [atomX wDyn, atomX n] else if k = 2 ∧ zs.length = 0 then atomX n else
    listX ((if k = 3 then [atomX wAssoc] else []) ++ [atomX n] ++ sxTs zs)
def sxTs : List MType → List MSExpr
  | [] => []
  | t :: ts => sxT t :: sxTs ts
end
theorem sxTs_map : ∀ l, sxTs l = l.map sxT
  | [] => rfl
  | t :: ts => by rw [sxTs, List.map_cons, sxTs_map ts]
theorem sxT_eq (x : MType) : sxT x = if x.fKind = 1 then atomX ([39] ++ x.fName) else if x.fKind = 4 then listX [atomX wDyn, atomX x.fName] else if x.fKind = 2 ∧ x.fArgs.length = 0 then atomX x.fName else
    listX ((if x.fKind = 3 then [atomX wAssoc] else []) ++ [atomX x.fName] ++ x.fArgs.map sxT) := by
  cases x; rw [sxT, sxTs_map]; rfl
theorem valid_formed {t : MType} (h : validType t = true) : formed t = true := (of_dec h).1
theorem sx_sz (x : MSExpr) : x.sz = x.fAtom.length + (x.fList.length + szRows (x.fList.map MSExpr.enc)) := by
  simp only [MSExpr.sz, MSExpr.enc_eq, szRow, D.sz, List.length_map]; omega
def szX : List MSExpr → Nat
  | [] => 0
  | x :: xs => x.sz + szX xs
theorem szX_rows : ∀ l, szRows (l.map MSExpr.enc) = szX l
  | [] => rfl
  | x :: xs => by rw [List.map_cons, szRows, szX, szX_rows xs]; rfl
theorem szX_append : ∀ a b, szX (a ++ b) = szX a + szX b
  | [], b => by simp [szX]
  | x :: a, b => by rw [List.cons_append, szX, szX, szX_append a b]; omega
theorem szX_mem {x : MSExpr} : ∀ {l : List MSExpr}, x ∈ l → x.sz ≤ szX l
  | y :: l, h => by
    rw [szX]
    rcases List.mem_cons.1 h with rfl | h
    · omega
    · have := szX_mem h; omega
theorem sz_atom (s : List UInt8) : (atomX s).sz = s.length := by rw [sx_sz]; simp [atomX, MSExpr.fAtom, MSExpr.fList, szRows]
theorem sz_list (l : List MSExpr) : (listX l).sz = l.length + szX l := by rw [sx_sz, szX_rows]; simp [listX, MSExpr.fAtom, MSExpr.fList]
theorem szX_words : ∀ l : List (List UInt8), szX (wordsX l) = (l.map List.length).sum
  | [] => rfl
  | s :: l => by rw [wordsX, List.map_cons, szX, sz_atom, ← wordsX, szX_words l, List.map_cons, List.sum_cons]
theorem words_len (l : List (List UInt8)) : (wordsX l).length = l.length := by simp [wordsX]
theorem szRows_encS : ∀ l : List (List UInt8), szRows (l.map encS) = (l.map List.length).sum
  | [] => rfl
  | s :: l => by rw [List.map_cons, szRows, szRows_encS l, List.map_cons, List.sum_cons]; simp [encS, szRow, D.sz]
def szT : List MType → Nat
  | [] => 0
  | x :: xs => x.sz + szT xs
theorem szT_rows : ∀ l, szRows (l.map MType.enc) = szT l
  | [] => rfl
  | x :: xs => by rw [List.map_cons, szRows, szT, szT_rows xs]; rfl
theorem ty_sz_eq (x : MType) : x.sz = x.fName.length + (x.fArgs.length + szT x.fArgs) := by
  rw [← szT_rows]; simp only [MType.sz, MType.enc_eq, szRow, D.sz, List.length_map]; omega
mutual
theorem sxT_le : ∀ x : MType, (sxT x).sz ≤ 12 + 16 * x.sz
  | .mk k n zs => by
    have h := sxTs_le zs
    rw [ty_sz_eq]
    simp only [MType.fName, MType.fArgs]
    rw [sxT]
    split
    · rw [sz_atom]; simp; omega
    · split
      · rw [sz_list]; simp [szX, sz_atom, wDyn]; omega
      · split
        · rw [sz_atom]; omega
        · rw [sz_list, szX_append, szX_append, List.length_append, List.length_append, sxTs_map, List.length_map, ← sxTs_map]
          split <;> simp [szX, sz_atom, wAssoc] <;> omega
theorem sxTs_le : ∀ xs : List MType, szX (sxTs xs) ≤ 12 * xs.length + 16 * szT xs
  | [] => by simp [sxTs, szX]
  | x :: xs => by
    have h1 := sxT_le x
    have h2 := sxTs_le xs
    rw [sxTs, szX, szT, List.length_cons]; omega
end
def atomByte (b : UInt8) : Bool := decide (97 ≤ b.toNat ∧ b.toNat ≤ 122) || decide (48 ≤ b.toNat ∧ b.toNat ≤ 57) || decide (b ∈ ([39, 45, 43, 42, 60, 61, 46] : List UInt8))
def validAtom (s : List UInt8) : Bool := s.all atomByte && decide (1 ≤ s.length ∧ s.length ≤ 12)
mutual
def formX : MSExpr → Bool
  | .mk a l => if a = [] then formXs l else validAtom a && decide (l.length = 0)
def formXs : List MSExpr → Bool
  | [] => true
  | x :: xs => formX x && formXs xs
end
mutual
def depthX : MSExpr → Nat
  | .mk a l => if a = [] then depthXs l + 1 else 0
def depthXs : List MSExpr → Nat
  | [] => 0
  | x :: xs => max (depthX x) (depthXs xs)
end
mutual
def nodeX : MSExpr → Nat
  | .mk _ l => nodeXs l + 1
def nodeXs : List MSExpr → Nat
  | [] => 0
  | x :: xs => nodeX x + nodeXs xs
end
theorem formX_eq (x : MSExpr) : formX x = if x.fAtom = [] then formXs x.fList else validAtom x.fAtom && decide (x.fList.length = 0) := by cases x; rw [formX]; rfl
theorem depthX_eq (x : MSExpr) : depthX x = if x.fAtom = [] then depthXs x.fList + 1 else 0 := by cases x; rw [depthX]; rfl
theorem nodeX_eq (x : MSExpr) : nodeX x = nodeXs x.fList + 1 := by cases x; rw [nodeX]; rfl
theorem formXs_any : ∀ {l : List MSExpr}, (l.any fun t => !formX t) = !formXs l
  | [] => rfl
  | t :: ts => by rw [List.any_cons, formXs_any (l := ts), formXs]; simp
theorem formXs_iff : ∀ {l : List MSExpr}, formXs l = true ↔ ∀ t ∈ l, formX t = true
  | [] => by simp [formXs]
  | t :: ts => by simp [formXs, formXs_iff (l := ts)]
mutual
theorem depthX_node : ∀ x : MSExpr, depthX x ≤ nodeX x
  | .mk a l => by
    have := depthXs_node l
    rw [depthX, nodeX]; split <;> omega
theorem depthXs_node : ∀ l : List MSExpr, depthXs l ≤ nodeXs l
  | [] => by simp [depthXs]
  | x :: xs => by
    have h1 := depthX_node x
    have h2 := depthXs_node xs
    rw [depthXs, nodeXs]; omega
end
mutual
theorem nodeX_sz : ∀ x : MSExpr, nodeX x ≤ x.sz + 1
  | .mk a l => by
    have := nodeXs_sz l
    rw [sx_sz, nodeX, szX_rows]; simp only [MSExpr.fAtom, MSExpr.fList]; omega
theorem nodeXs_sz : ∀ l : List MSExpr, nodeXs l ≤ l.length + szX l
  | [] => by simp [nodeXs]
  | x :: xs => by
    have h1 := nodeX_sz x
    have h2 := nodeXs_sz xs
    rw [nodeXs, szX, List.length_cons]; omega
end
def validX (x : MSExpr) : Bool := formX x && decide (depthX x ≤ 14 ∧ nodeX x ≤ 900)
mutual
theorem formX_sz : ∀ x : MSExpr, formX x = true → x.sz + 1 ≤ 13 * nodeX x
  | .mk a l => fun h => by
    rw [formX] at h
    rw [sx_sz, nodeX, szX_rows]
    simp only [MSExpr.fAtom, MSExpr.fList]
    split at h
    · rename_i ha
      have := formXs_sz l h
      subst ha
      simp only [List.length_nil]; omega
    · rw [Bool.and_eq_true, decide_eq_true_eq] at h
      have h1 := h.1
      unfold validAtom at h1
      rw [Bool.and_eq_true, decide_eq_true_eq] at h1
      have : l = [] := List.eq_nil_of_length_eq_zero h.2
      subst this
      simp [szX]; omega
theorem formXs_sz : ∀ l : List MSExpr, formXs l = true → l.length + szX l ≤ 13 * nodeXs l
  | [], _ => by simp [szX]
  | x :: xs, h => by
    rw [formXs, Bool.and_eq_true] at h
    have h1 := formX_sz x h.1
    have h2 := formXs_sz xs h.2
    rw [szX, nodeXs, List.length_cons]; omega
end
theorem validX_sz {x : MSExpr} (h : validX x = true) : x.sz ≤ 11700 := by
  unfold validX at h
  rw [Bool.and_eq_true, decide_eq_true_eq] at h
  have := formX_sz x h.1
  omega
end Go.Ab

namespace Go.Ab
def mgK (n : Nat) : Key → Key
  | (0, j) => (0, n + j)
  | (l + 1, j) => (l, j)
def C.mg (n : Nat) : C → C
  | .d x => .d x
  | .any => .any
  | .tsl k es => .tsl (mgK n k) es
  | .fsl es => .fsl es
  | .ptr k off => .ptr (mgK n k) off
  | .rptr cs => .rptr cs
  | .eptr k i off => .eptr (mgK n k) i off
  | .msl k => .msl (mgK n k)
  | .fn f caps => .fn f (caps.map fun x => (mgK n x.1, x.2))
  | .mp k => .mp (mgK n k)
  | .lfl m es => .lfl m es
  | .xp k r p => .xp (mgK n k) r p
  | .xq k r p z i off => .xq (mgK n k) r p z i off
def V.mg (n : Nat) : V → V
  | .c x => .c (x.mg n)
  | .agg cs => .agg (cs.map (C.mg n))
  | .tup xs => .tup (xs.map fun y => (y.1, y.2.map (C.mg n)))
  | .any => .any
def Obj.mg (n : Nat) : Obj → Obj
  | .box cs => .box (cs.map (C.mg n))
  | o => o
section
variable {P : Program} {w : World} {σ : Nat → Nat} {own own0 : List Obj} {Ω : Store} {bo bo0 : List Value} {bΩ : Hs}
theorem owns_mg {n : Nat} {o : Obj} {h : Value} {b : Nat} : owns (o.mg n) h b ↔ owns o h b := by
  cases o with
  | box cs =>
    cases h with
    | pointer a => cases a <;> exact Iff.rfl
    | _ => exact Iff.rfl
  | _ => exact Iff.rfl
theorem mg_at {k : Key} {o : Obj} (h : getO (own :: own0 :: Ω) k = some o) :
    getO ((own0 ++ own.map (Obj.mg own0.length)) :: Ω) (mgK own0.length k) = some (if k.1 = 0 then o.mg own0.length else o) := by
  obtain ⟨l, j⟩ := k
  cases l with
  | zero =>
    rw [getO_zero] at h
    show getO _ (0, own0.length + j) = _
    rw [getO_zero, List.getElem?_append_right (by omega), show own0.length + j - own0.length = j by omega, List.getElem?_map, h]
    rfl
  | succ l =>
    rw [getO_succ] at h
    show getO _ (l, j) = some o
    cases l with
    | zero =>
      rw [getO_zero] at h ⊢
      rw [List.getElem?_append_left (List.getElem?_eq_some_iff.1 h).1]
      exact h
    | succ l => rw [getO_succ] at h ⊢; exact h
theorem mg_hs (hl : bo0.length = own0.length) {k : Key} {h : Value} (e : getO (bo :: bo0 :: bΩ) k = some h) : getO ((bo0 ++ bo) :: bΩ) (mgK own0.length k) = some h := by
  obtain ⟨l, j⟩ := k
  cases l with
  | zero =>
    rw [getO_zero] at e
    show getO _ (0, own0.length + j) = _
    rw [getO_zero, List.getElem?_append_right (by omega), show own0.length + j - bo0.length = j by omega, e]
  | succ l =>
    rw [getO_succ] at e
    show getO _ (l, j) = some h
    cases l with
    | zero =>
      rw [getO_zero] at e ⊢
      rw [List.getElem?_append_left (List.getElem?_eq_some_iff.1 e).1]
      exact e
    | succ l => rw [getO_succ] at e ⊢; exact e
theorem mg_from (hl : bo0.length = own0.length) (hlo : bo.length = own.length) {k : Key} {o : Obj} (h : getO ((own0 ++ own.map (Obj.mg own0.length)) :: Ω) k = some o) :
    ∃ k0 o0, mgK own0.length k0 = k ∧ getO (own :: own0 :: Ω) k0 = some o0 ∧ o = (if k0.1 = 0 then o0.mg own0.length else o0) ∧ getO ((bo0 ++ bo) :: bΩ) k = getO (bo :: bo0 :: bΩ) k0 := by
  obtain ⟨l, j⟩ := k
  cases l with
  | zero =>
    rw [getO_zero] at h
    by_cases hj : j < own0.length
    · rw [List.getElem?_append_left hj] at h
      refine ⟨(1, j), o, rfl, by rw [getO_succ, getO_zero]; exact h, rfl, ?_⟩
      rw [getO_zero, getO_succ, getO_zero, List.getElem?_append_left (by omega)]
    · rw [List.getElem?_append_right (by omega), List.getElem?_map] at h
      cases hx : own[j - own0.length]? with
      | none => rw [hx] at h; cases h
      | some x =>
        rw [hx] at h; cases h
        refine ⟨(0, j - own0.length), x, ?_, by rw [getO_zero]; exact hx, rfl, ?_⟩
        · show (0, own0.length + (j - own0.length)) = (0, j)
          rw [show own0.length + (j - own0.length) = j by omega]
        · rw [getO_zero, getO_zero, List.getElem?_append_right (by omega), hl]
  | succ l =>
    rw [getO_succ] at h
    exact ⟨(l + 2, j), o, rfl, by rw [getO_succ, getO_succ]; exact h, rfl, by rw [getO_succ, getO_succ, getO_succ]⟩
theorem mg_kind {n : Nat} {k : Key} {o : Obj} : (∀ esz es, IsTok (if k.1 = 0 then o.mg n else o) esz es → IsTok o esz es) ∧ (∀ esz es, (if k.1 = 0 then o.mg n else o) = .mrow esz es → o = .mrow esz es) ∧
    (∀ m, (if k.1 = 0 then o.mg n else o) = .mp m → o = .mp m) ∧ (∀ cs, (if k.1 = 0 then o.mg n else o) = .box cs → ∃ cs', o = .box cs') ∧ (∀ rs, (if k.1 = 0 then o.mg n else o) = .xf rs → o = .xf rs) := by
  by_cases e : k.1 = 0
  · simp only [if_pos e]
    cases o <;> simp [Obj.mg, IsTok]
  · simp only [if_neg e]
    exact ⟨fun _ _ h => h, fun _ _ h => h, fun _ h => h, fun cs h => ⟨cs, h⟩, fun _ h => h⟩
theorem mg_C (hl : bo0.length = own0.length) {c : C} {v : Value} (h : RepC w σ (own :: own0 :: Ω) (bo :: bo0 :: bΩ) c v) :
    RepC w σ ((own0 ++ own.map (Obj.mg own0.length)) :: Ω) ((bo0 ++ bo) :: bΩ) (c.mg own0.length) v := by
  cases c with
  | d x => exact h
  | any => exact trivial
  | fsl es => exact h
  | rptr cs => exact h
  | lfl m es => exact h
  | xp k r p =>
    obtain ⟨o, ho, h2⟩ := h
    refine ⟨_, mg_at ho, fun rs e => ?_⟩
    obtain ⟨hh, q1, q2⟩ := h2 rs (mg_kind.2.2.2.2 _ e)
    exact ⟨hh, mg_hs hl q1, q2⟩
  | xq k r p z i off =>
    obtain ⟨o, ho, h2⟩ := h
    refine ⟨_, mg_at ho, fun rs e => ?_⟩
    obtain ⟨hh, b, a, n, cap, q1, q2⟩ := h2 rs (mg_kind.2.2.2.2 _ e)
    exact ⟨hh, b, a, n, cap, mg_hs hl q1, q2⟩
  | tsl k es =>
    obtain ⟨h1, o, ho, h2⟩ := h
    refine ⟨h1, _, mg_at ho, fun esz es' e => ?_⟩
    obtain ⟨q1, q2⟩ := h2 esz es' (mg_kind.1 _ _ e)
    exact ⟨q1, fun e' => mg_hs hl (q2 e')⟩
  | ptr k off =>
    obtain ⟨o, ho, h2⟩ := h
    refine ⟨_, mg_at ho, fun cs e => ?_⟩
    obtain ⟨cs', e'⟩ := mg_kind.2.2.2.1 _ e
    obtain ⟨b, q1, q2⟩ := h2 cs' e'
    exact ⟨b, mg_hs hl q1, q2⟩
  | eptr k i off =>
    obtain ⟨o, ho, h2⟩ := h
    refine ⟨_, mg_at ho, fun esz es e => ?_⟩
    obtain ⟨b, n, cap, q1, q2⟩ := h2 esz es (mg_kind.2.1 _ _ e)
    exact ⟨b, n, cap, mg_hs hl q1, q2⟩
  | msl k =>
    obtain ⟨o, ho, h2⟩ := h
    exact ⟨_, mg_at ho, fun esz es e => mg_hs hl (h2 esz es (mg_kind.2.1 _ _ e))⟩
  | mp k =>
    obtain ⟨o, ho, h2⟩ := h
    exact ⟨_, mg_at ho, fun m e => mg_hs hl (h2 m (mg_kind.2.2.1 _ e))⟩
  | fn f caps =>
    obtain ⟨vs, e, hsz, hc⟩ := h
    refine ⟨vs, e, by rw [hsz, List.length_map], fun j k off hj => ?_⟩
    rw [List.getElem?_map] at hj
    cases hx : caps[j]? with
    | none => rw [hx] at hj; cases hj
    | some y =>
      rw [hx] at hj
      injection hj with hj
      injection hj with e1 e2
      obtain ⟨u, q1, q2, o, q3, q4⟩ := hc j y.1 y.2 hx
      refine ⟨u, q1, q2, _, by rw [← e1]; exact mg_at q3, fun cs e => ?_⟩
      obtain ⟨cs', e'⟩ := mg_kind.2.2.2.1 _ e
      obtain ⟨b, q5, q6⟩ := q4 cs' e'
      exact ⟨b, by rw [← e1]; exact mg_hs hl q5, by rw [← e2]; exact q6⟩
theorem mg_Cs (hl : bo0.length = own0.length) {cs : List C} {vs : List Value} (h : RepCs w σ (own :: own0 :: Ω) (bo :: bo0 :: bΩ) cs vs) :
    RepCs w σ ((own0 ++ own.map (Obj.mg own0.length)) :: Ω) ((bo0 ++ bo) :: bΩ) (cs.map (C.mg own0.length)) vs := by
  refine ⟨by rw [List.length_map]; exact h.1, fun j x hj => ?_⟩
  rw [List.getElem?_map] at hj
  cases hx : cs[j]? with
  | none => rw [hx] at hj; cases hj
  | some y =>
    rw [hx] at hj; cases hj
    obtain ⟨v, h1, h2, h3⟩ := h.2 j y hx
    exact ⟨v, h1, mg_C hl h2, h3⟩
theorem mg_V (hl : bo0.length = own0.length) {x : V} {v : Value} (h : RepV w σ (own :: own0 :: Ω) (bo :: bo0 :: bΩ) x v) :
    RepV w σ ((own0 ++ own.map (Obj.mg own0.length)) :: Ω) ((bo0 ++ bo) :: bΩ) (x.mg own0.length) v := by
  cases x with
  | c x => exact ⟨mg_C hl h.1, h.2⟩
  | agg cs => obtain ⟨a, ha, hc⟩ := h; exact ⟨a, ha, mg_Cs hl hc⟩
  | any => exact trivial
  | tup xs =>
    obtain ⟨a, ha, hlen, hc⟩ := h
    refine ⟨a, ha, by rw [List.length_map]; exact hlen, fun j y hj => ?_⟩
    rw [List.getElem?_map] at hj
    cases hx : xs[j]? with
    | none => rw [hx] at hj; cases hj
    | some z =>
      rw [hx] at hj; cases hj
      obtain ⟨u, hu, hr⟩ := hc j z hx
      refine ⟨u, hu, ?_⟩
      obtain ⟨b, cs⟩ := z
      cases b with
      | true => obtain ⟨a', e, hcs⟩ := hr; exact ⟨a', e, mg_Cs hl hcs⟩
      | false => obtain ⟨x1, e, hx1, ho⟩ := hr; subst e; exact ⟨_, rfl, mg_C hl hx1, ho⟩
theorem mg_keep (hl : bo0.length = own0.length) : Keep (own0 :: Ω) (bo0 :: bΩ) ((own0 ++ own.map (Obj.mg own0.length)) :: Ω) ((bo0 ++ bo) :: bΩ) := by
  rintro ⟨l, j⟩ o h
  cases l with
  | zero =>
    rw [getO_zero] at h
    have hj := (List.getElem?_eq_some_iff.1 h).1
    refine ⟨o, by rw [getO_zero, List.getElem?_append_left hj]; exact h, ?_⟩
    rw [getO_zero, getO_zero, List.getElem?_append_left (by omega)]
    exact KeepO.refl _ _
  | succ l =>
    rw [getO_succ] at h
    exact ⟨o, by rw [getO_succ]; exact h, by rw [getO_succ, getO_succ]; exact KeepO.refl _ _⟩
theorem mg_S (hS : RepS w σ (own :: own0 :: Ω) (bo :: bo0 :: bΩ)) : RepS w σ ((own0 ++ own.map (Obj.mg own0.length)) :: Ω) ((bo0 ++ bo) :: bΩ) := by
  have hlo : bo.length = own.length := by
    obtain ⟨gr, h1, h2⟩ := hS.shape.2 0 own rfl
    simp at h1; rw [h1]; exact h2
  have hl : bo0.length = own0.length := by
    obtain ⟨gr, h1, h2⟩ := hS.shape.2 1 own0 rfl
    simp at h1; rw [h1]; exact h2
  have hn : Near w σ w σ := Near.refl _ _
  refine ⟨fun k o ho => ?_, fun k k' o o' h h' b e1 e2 e3 e4 e5 e6 => ?_, ⟨by have := hS.shape.1; simpa using this, fun l fr hfr => ?_⟩, hS.live, hS.glob⟩
  · obtain ⟨k0, o0, hk, ho0, rfl, hh⟩ := mg_from (bo := bo) (bΩ := bΩ) hl hlo ho
    obtain ⟨h, h1, h2⟩ := hS.obj k0 o0 ho0
    refine ⟨h, by rw [hh]; exact h1, ?_⟩
    obtain ⟨l0, j0⟩ := k0
    cases l0 with
    | zero =>
      subst hk
      have h2 : RepObj w σ (own :: own0 :: Ω) (bo :: bo0 :: bΩ) o0 h := h2
      show RepObj w σ ((own0 ++ own.map (Obj.mg own0.length)) :: Ω) ((bo0 ++ bo) :: bΩ) (o0.mg own0.length) h
      cases o0 with
      | box cs =>
        obtain ⟨b, c, t, e, q1, q2, q3⟩ := h2
        exact ⟨b, c, t, e, q1, q2, mg_Cs hl q3⟩
      | dead => exact trivial
      | tok esz es => exact h2
      | mrow esz es => exact h2
      | mp m => exact h2
      | ltok n esz es => exact h2
      | seed n => exact trivial
      | xf rs => exact h2
    | succ l0 =>
      have hk' : k = (l0, j0) := hk.symm
      subst hk'
      have h2 : RepObj w σ ((own0 :: Ω).drop l0) ((bo0 :: bΩ).drop l0) o0 h := h2
      exact h2.mono hn ((mg_keep hl).drop l0) fun _ _ => ⟨rfl, rfl⟩
  · obtain ⟨k0, o0, hk, ho0, ho, hh⟩ := mg_from (bo := bo) (bΩ := bΩ) hl hlo e1
    obtain ⟨k1, o1, hk1, ho1, ho', hh1⟩ := mg_from (bo := bo) (bΩ := bΩ) hl hlo e4
    rw [hh] at e2
    rw [hh1] at e5
    have b0 : owns o0 h b := by
      rw [ho] at e3
      split at e3
      · rw [owns_mg] at e3; exact e3
      · exact e3
    have b1 : owns o1 h' b := by
      rw [ho'] at e6
      split at e6
      · rw [owns_mg] at e6; exact e6
      · exact e6
    have := hS.apart k0 k1 o0 o1 h h' b ho0 e2 b0 ho1 e5 b1
    rw [← hk, ← hk1, this]
  · cases l with
    | zero =>
      simp at hfr
      exact ⟨_, rfl, by rw [← hfr]; simp [hl, hlo]⟩
    | succ l => exact hS.shape.2 (l + 2) fr (by simpa using hfr)
theorem mg_own (hS : RepS w σ (own :: own0 :: Ω) (bo :: bo0 :: bΩ)) {b : Nat} (h : Own ((own0 ++ own.map (Obj.mg own0.length)) :: Ω) ((bo0 ++ bo) :: bΩ) b) : Own (own :: own0 :: Ω) (bo :: bo0 :: bΩ) b := by
  have hlo : bo.length = own.length := by
    obtain ⟨gr, h1, h2⟩ := hS.shape.2 0 own rfl
    simp at h1; rw [h1]; exact h2
  have hl : bo0.length = own0.length := by
    obtain ⟨gr, h1, h2⟩ := hS.shape.2 1 own0 rfl
    simp at h1; rw [h1]; exact h2
  obtain ⟨k, o, hv, e1, e2, e3⟩ := h
  obtain ⟨k0, o0, hk, ho0, ho, hh⟩ := mg_from (bo := bo) (bΩ := bΩ) hl hlo e1
  rw [hh] at e2
  refine ⟨k0, o0, hv, ho0, e2, ?_⟩
  rw [ho] at e3
  split at e3
  · rw [owns_mg] at e3; exact e3
  · exact e3
end
def escQ (P : Program) (rs : List ResultVar) (post : V → Store → Prop) (e : Exit) (s : St) : Prop :=
  match e with
  | .normal | .ret => (resV P rs s).1 ∧ match s.st with
    | own :: own0 :: Ω => post ((resV P rs s).2.mg own0.length) ((own0 ++ own.map (Obj.mg own0.length)) :: Ω)
    | _ => False
  | _ => False
section
variable {P : Program} {N : Nat} {s : St}
theorem acall_esc {f : FuncId} {fn : Func} {c : Code} {args : List V} {own0 : List Obj} {Ω : Store} {post : V → Store → Prop} (hf : P.funcs[f]? = some fn) (hb : fn.body = some c) (hn : (fn.name == "runtime.NumGoroutine") = false)
    (hl : args.length ≤ fn.ntmps) (h : AW P fn.ntmps c (escQ P fn.results.toList post) ⟨argTm (args.map (V.up 1)) 0, [] :: own0 :: Ω⟩) : ACall P f args (own0 :: Ω) post := by
  refine ⟨⟨fn, hf, hn, by simp [hb]⟩, fun w σ β vs hS hargs => ?_⟩
  refine calls_of_wp hf hb ?_
  have hlen : vs.length = args.length := hargs.1.symm
  have hRep : Rep fn.ntmps ⟨argTm (args.map (V.up 1)) 0, [] :: own0 :: Ω⟩ { tmps := vs.toArray ++ Array.replicate (fn.ntmps - vs.toArray.size) undef, defers := [] } w σ ([] :: β) := by
    refine ⟨by simp; omega, rfl, hS.up1, fun t => ?_⟩
    show RepV w σ ([] :: own0 :: Ω) ([] :: β) (look (argTm (args.map (V.up 1)) 0) t) _
    rw [look_argTm, if_pos (Nat.zero_le _), Nat.sub_zero, List.getElem?_map]
    cases ha : args[t]? with
    | none => exact trivial
    | some x =>
      obtain ⟨v, hv, hr⟩ := hargs.2 t x ha
      have ht := (List.getElem?_eq_some_iff.1 hv).1
      have : (vs.toArray ++ Array.replicate (fn.ntmps - vs.toArray.size) undef).getD t undef = v := by
        rw [Array.getD_eq_getD_getElem?, Array.getElem?_append_left (by simpa using ht)]
        simp [hv]
      rw [this]
      exact rep_upV (S := [] :: own0 :: Ω) (β := [] :: β) 1 hr
  refine wp_mono (h _ w σ ([] :: β) hRep) ?_
  rintro e a' w' ⟨s', σ', β', hR, hst, hkp, hq⟩
  have main : ((resV P fn.results.toList s').1 ∧ match s'.st with
    | own :: own0 :: Ω => post ((resV P fn.results.toList s').2.mg own0.length) ((own0 ++ own.map (Obj.mg own0.length)) :: Ω)
    | _ => False) →
      a'.defers = [] ∧ ∃ v, (results fn a'.tmps).run P w' = .ok v w' ∧ ∃ v_1 r S' σ' β', Ending.returned v = Ending.returned v_1 ∧ RepS w' σ' S' β' ∧ Keep (own0 :: Ω) β S' β' ∧ Step (own0 :: Ω) β σ w S' β' σ' w' ∧ RepV w' σ' S' β' r v_1 ∧ post r S' := by
    rintro ⟨q1, q2⟩
    obtain ⟨v, hv, hrep⟩ := res_sound (fn := fn) hR q1
    obtain ⟨tm, st⟩ := s'
    simp only at q2
    split at q2
    · rename_i own own1 Ω1
      obtain ⟨bo, bΩ', rfl, hlo⟩ := frames hR
      cases bΩ' with
      | nil => have := hR.S.shape.1; simp at this
      | cons bo1 bΩ1 =>
        have hl1 : bo1.length = own1.length := by
          obtain ⟨gr, h1, h2⟩ := hR.S.shape.2 1 own1 rfl
          simp at h1; rw [h1]; exact h2
        have hkp' : Keep (own0 :: Ω) β (own1 :: Ω1) (bo1 :: bΩ1) := hkp
        have hst' : Step ([] :: own0 :: Ω) ([] :: β) σ w (own :: own1 :: Ω1) (bo :: bo1 :: bΩ1) σ' w' := hst
        exact ⟨hR.defers, v, hv, v, _, _, σ', _, rfl, mg_S hR.S, hkp'.trans (mg_keep hl1), ⟨hst'.size, hst'.os, hst'.output, fun b hb ho => hst'.far b hb (fun x => ho (own_up1 x)), hst'.near, fun b hb => (hst'.own b (mg_own hR.S hb)).imp own_up1 id⟩, mg_V hl1 hrep, q2⟩
    · exact q2.elim
  cases e with
  | normal => exact main hq
  | ret => exact main hq
  | _ => exact hq.elim
def escS (P : Program) (rs : List ResultVar) (post : V → Store → Prop) (s : St) (r : R) : Prop := r.1 ∧ match s.st with
  | own :: own0 :: Ω => post (r.2.mg own0.length) ((own0 ++ own.map (Obj.mg own0.length)) :: Ω)
  | _ => False
@[congr] theorem escS_congr {rs : List ResultVar} {post : V → Store → Prop} {s s' : St} {r r' : R} (h1 : s = s') (h2 : r = r') : escS P rs post s r = escS P rs post s' r' := by rw [h1, h2]
theorem escQ_ret {rs : List ResultVar} {post : V → Store → Prop} {tm : List (Nat × V)} {S : Store} : escQ P rs post .ret ⟨tm, S⟩ = escS P rs post ⟨tm, S⟩ (resV P rs ⟨tm, S⟩) := rfl
theorem escQ_normal {rs : List ResultVar} {post : V → Store → Prop} {tm : List (Nat × V)} {S : Store} : escQ P rs post .normal ⟨tm, S⟩ = escS P rs post ⟨tm, S⟩ (resV P rs ⟨tm, S⟩) := rfl
theorem escS_mk {rs : List ResultVar} {post : V → Store → Prop} {tm : List (Nat × V)} {own own0 : List Obj} {Ω : Store} {p : Prop} {v : V} :
    escS P rs post ⟨tm, own :: own0 :: Ω⟩ (p, v) = (p ∧ post (v.mg own0.length) ((own0 ++ own.map (Obj.mg own0.length)) :: Ω)) := rfl
theorem acall_cwe {f : FuncId} {fn : Func} {c : Code} {args : List V} {own0 : List Obj} {Ω : Store} {post : V → Store → Prop} {rs : List ResultVar} (hmix : P.follows .mixedOrders = true) (hf : P.funcs[f]? = some fn) (hN : fn.ntmps = N)
    (hb : fn.body = some c) (hn : (fn.name == "runtime.NumGoroutine") = false) (hr : fn.results.toList = rs) (hl : Nat.ble args.length N = true) (hok : codeOk N c = true)
    (h : CW P N c (escQ P rs post) ⟨argTm (args.map (V.up 1)) 0, [] :: own0 :: Ω⟩) : ACall P f args (own0 :: Ω) post := by
  subst hN
  subst hr
  exact acall_esc hf hb hn (Nat.le_of_ble_eq_true hl) (cw_sound hmix c _ _ hok h)
theorem mgK_0 {n j : Nat} : mgK n (0, j) = (0, n + j) := rfl
theorem mgK_1 {n l j : Nat} : mgK n (1 + l, j) = (l, j) := by rw [Nat.add_comm]; rfl
end
attribute [go_sem ↓] escQ_ret escQ_normal
attribute [go_sem] escS_mk V.mg C.mg Obj.mg mgK_0 mgK_1
end Go.Ab

namespace Go.Ab
mutual
def cntD : D → Nat
  | .sl es => cntRs es + 1
  | .ol _ _ => 0
  | .b _ => 0
  | .i _ _ => 0
  | .s _ => 0
  | .o _ => 0
def cntR : List D → Nat
  | [] => 0
  | d :: ds => cntD d + cntR ds
def cntRs : List (List D) → Nat
  | [] => 0
  | r :: rs => cntR r + cntRs rs
end
mutual
def labD : D → Nat → D
  | .sl es, n => .ol n (labRs es (n + 1))
  | .ol m es, _ => .ol m es
  | .b x, _ => .b x
  | .i k x, _ => .i k x
  | .s l, _ => .s l
  | .o v, _ => .o v
def labR : List D → Nat → List D
  | [], _ => []
  | d :: ds, n => labD d n :: labR ds (n + cntD d)
def labRs : List (List D) → Nat → List (List D)
  | [], _ => []
  | r :: rs, n => labR r n :: labRs rs (n + cntR r)
end
mutual
def plD : D → Bool
  | .sl es => plRs es
  | .ol _ _ => false
  | .b _ => true
  | .i _ _ => true
  | .s _ => true
  | .o _ => false
def plR : List D → Bool
  | [] => true
  | d :: ds => plD d && plR ds
def plRs : List (List D) → Bool
  | [] => true
  | r :: rs => plR r && plRs rs
end
theorem labR_append : ∀ a b n, labR (a ++ b) n = labR a n ++ labR b (n + cntR a)
  | [], b, n => by simp [labR, cntR]
  | d :: ds, b, n => by rw [List.cons_append, labR, labR, labR_append ds b, cntR, Nat.add_assoc]; rfl
theorem labRs_append : ∀ a b n, labRs (a ++ b) n = labRs a n ++ labRs b (n + cntRs a)
  | [], b, n => by simp [labRs, cntRs]
  | d :: ds, b, n => by rw [List.cons_append, labRs, labRs, labRs_append ds b, cntRs, Nat.add_assoc]; rfl
theorem labR_length : ∀ r n, (labR r n).length = r.length
  | [], _ => rfl
  | d :: ds, n => by rw [labR, List.length_cons, labR_length ds, List.length_cons]
theorem labRs_length : ∀ rs n, (labRs rs n).length = rs.length
  | [], _ => rfl
  | r :: rs, n => by rw [labRs, List.length_cons, labRs_length rs, List.length_cons]
theorem labRs_rows {z : Nat} : ∀ {rs : List (List D)} {n : Nat}, (∀ r ∈ rs, r.length = z) → ∀ r ∈ labRs rs n, r.length = z
  | [], _, _, r, h => by rw [labRs] at h; cases h
  | a :: rs, n, ha, r, h => by
    rw [labRs] at h
    rcases List.mem_cons.1 h with e | h
    · rw [e, labR_length]; exact ha a (by simp)
    · exact labRs_rows (fun r hr => ha r (by simp [hr])) r h
theorem plR_append : ∀ a b, plR (a ++ b) = (plR a && plR b)
  | [], b => by simp [plR]
  | d :: ds, b => by rw [List.cons_append, plR, plR, plR_append ds b, Bool.and_assoc]
theorem plRs_map {α : Type} {f : α → List D} : ∀ {xs : List α}, (∀ x ∈ xs, plR (f x) = true) → plRs (xs.map f) = true
  | [], _ => rfl
  | x :: xs, h => by
    rw [List.map_cons, plRs, h x (by simp), plRs_map fun y hy => h y (by simp [hy])]; rfl
section
variable {P : Program} {w : World} {σ σ' : Nat → Nat} {S : Store} {β : Hs} {N : Nat} {s : St}
mutual
theorem er_D : ∀ (d : D) (n : Nat) (v : Value), RepD w σ (labD d n) v → RepD w σ d v
  | .sl es, n, v, h => by
    rw [labD] at h
    have hl := labRs_length es (n + 1)
    have hrec := er_Rs es (n + 1)
    generalize labRs es (n + 1) = q at h hl hrec
    cases h with
    | onil n a cap =>
      have : es = [] := List.eq_nil_of_length_eq_zero (by simpa using hl.symm)
      subst this
      exact .nil a cap
    | ol n b off cap esz q vals c t hcap hlen hb hσ hfit hc hv =>
      obtain ⟨r1, r2⟩ := hrec vals hv
      rw [hl] at hcap hfit hc ⊢
      refine .sl b off cap esz es vals c t (0, 0) hcap (fun e he => ?_) hb (by omega) hc r2
      obtain ⟨e', h1, h2⟩ := r1 e he
      rw [← h2]; exact hlen e' h1
  | .ol m es, n, v, h => h
  | .b x, n, v, h => h
  | .i k x, n, v, h => h
  | .s l, n, v, h => h
  | .o u, n, v, h => h
theorem er_R : ∀ (r : List D) (n : Nat) (vals : Nat → Value), (∀ j d, (labR r n)[j]? = some d → RepD w σ d (vals j)) → ∀ (j : Nat) d, r[j]? = some d → RepD w σ d (vals j)
  | [], n, vals, h, j, d, hd => by simp at hd
  | a :: r, n, vals, h, j, d, hd => by
    cases j with
    | zero =>
      simp at hd; subst hd
      exact er_D a n _ (h 0 _ rfl)
    | succ j => exact er_R r (n + cntD a) (fun i => vals (i + 1)) (fun i d hi => h (i + 1) d (by rw [labR]; exact hi)) j d hd
theorem er_Rs : ∀ (rs : List (List D)) (n : Nat) (vals : Nat → Value), (∀ j d, (labRs rs n).flatten[j]? = some d → RepD w σ d (vals j)) →
    (∀ e ∈ rs, ∃ e' ∈ labRs rs n, e'.length = e.length) ∧ ∀ (j : Nat) d, rs.flatten[j]? = some d → RepD w σ d (vals j)
  | [], n, vals, h => ⟨fun e he => (by cases he), fun j d hd => (by simp at hd)⟩
  | r :: rs, n, vals, h => by
    rw [labRs, List.flatten_cons] at h
    have h1 := er_R r n vals fun j d hd => h j d (by rw [List.getElem?_append_left (List.getElem?_eq_some_iff.1 hd).1]; exact hd)
    obtain ⟨h2, h3⟩ := er_Rs rs (n + cntR r) (fun i => vals (r.length + i)) fun j d hd => h (r.length + j) d (by rw [List.getElem?_append_right (by rw [labR_length]; omega), labR_length, Nat.add_sub_cancel_left]; exact hd)
    refine ⟨fun e he => ?_, fun j d hd => ?_⟩
    · rcases List.mem_cons.1 he with e1 | he
      · subst e1; exact ⟨_, by rw [labRs]; exact List.mem_cons_self .., labR_length _ _⟩
      · obtain ⟨e', q1, q2⟩ := h2 e he
        exact ⟨e', by rw [labRs]; exact List.mem_cons_of_mem _ q1, q2⟩
    · rw [List.flatten_cons] at hd
      by_cases hj : j < r.length
      · rw [List.getElem?_append_left hj] at hd; exact h1 j d hd
      · rw [List.getElem?_append_right (by omega)] at hd
        have := h3 (j - r.length) d hd
        rwa [show r.length + (j - r.length) = j by omega] at this
end
theorem less_lab {r : List D} {n : Nat} : Less (.agg ((labR r n).map .d)) (.agg (r.map .d)) := by
  rintro w σ S β v ⟨a, ha, hl, hc⟩
  rw [List.length_map, labR_length] at hl
  refine ⟨a, ha, by rw [List.length_map]; exact hl, ?_⟩
  have key : ∀ (r : List D) (n : Nat) (vs : List Value), (∀ (j : Nat) (x : C), ((labR r n).map C.d)[j]? = some x → ∃ v : Value, vs[j]? = some v ∧ RepC w σ S β x v ∧ v.oneCell' = true) →
      ∀ (j : Nat) (x : C), (r.map C.d)[j]? = some x → ∃ v : Value, vs[j]? = some v ∧ RepC w σ S β x v ∧ v.oneCell' = true := by
    intro r
    induction r with
    | nil => intro n vs h j x hx; simp at hx
    | cons d ds ih =>
      intro n vs h j x hx
      cases j with
      | zero =>
        simp at hx; subst hx
        obtain ⟨v, h1, h2, h3⟩ := h 0 (.d (labD d n)) rfl
        exact ⟨v, h1, er_D d n v h2, h3⟩
      | succ j =>
        have := ih (n + cntD d) vs.tail (fun i y hy => by
          obtain ⟨v, h1, h2⟩ := h (i + 1) y (by rw [labR, List.map_cons]; exact hy)
          refine ⟨v, ?_, h2⟩
          cases vs with
          | nil => simp at h1
          | cons a b => exact h1) j x hx
        obtain ⟨v, h1, h2⟩ := this
        refine ⟨v, ?_, h2⟩
        cases vs with
        | nil => simp at h1
        | cons a b => exact h1
  exact key r n _ hc
theorem repcs_lab {r : List D} {n : Nat} {w : World} {σ : Nat → Nat} {S : Store} {β : Hs} {vs : List Value} (h : RepCs w σ S β ((labR r n).map .d) vs) : RepCs w σ S β (r.map .d) vs := by
  obtain ⟨a, ha, hc⟩ := less_lab w σ S β (.agg vs.toArray) ⟨vs.toArray, rfl, by simpa using h⟩
  cases ha
  simpa using hc
inductive Lesses : List V → List V → Prop
  | nil : Lesses [] []
  | cons {x y : V} {xs ys : List V} : Less x y → Lesses xs ys → Lesses (x :: xs) (y :: ys)
theorem Lesses.length : ∀ {xs ys : List V}, Lesses xs ys → xs.length = ys.length
  | _, _, .nil => rfl
  | _, _, .cons _ h => by rw [List.length_cons, List.length_cons, Lesses.length h]
theorem Lesses.at : ∀ {xs ys : List V}, Lesses xs ys → ∀ (j : Nat) (x y : V), xs[j]? = some x → ys[j]? = some y → Less x y
  | _, _, .nil, j, x, y, h, _ => by simp at h
  | _, _, .cons a h, 0, x, y, h1, h2 => by simp at h1 h2; subst h1; subst h2; exact a
  | _, _, .cons a h, j + 1, x, y, h1, h2 => Lesses.at h j x y (by simpa using h1) (by simpa using h2)
theorem PCall.args {f : FuncId} {args args' : List V} {r : V} (h : PCall P f args' r) (hl : Lesses args args') : PCall P f args r := fun S => (h S).weaken hl.length fun j x y hx hy w σ β v hr => hl.at j x y hx hy w σ S β v hr
theorem call_l {dr : Option Nat} {f : FuncId} {args args' : List V} {dst : Option Nat} {K : St → Prop} {r : V} (h : PCall P f args' r) (hl : Lesses (args.map V.bor) args') (hK : K (s.put dst r)) : CallG P dr f args s dst K := call_w (h.args hl) hK
def mapL (row : Bool) (j n : Nat) (es : List (List D)) (tm : List (Nat × V)) : List (Nat × V) := tm.map fun x => (x.1, x.2.mapC (C.lab row j n es))
theorem look_mapL {row : Bool} {j n : Nat} {es : List (List D)} {tm : List (Nat × V)} {t : Nat} : look (mapL row j n es tm) t = (look tm t).mapC (C.lab row j n es) := look_map (f := V.mapC (C.lab row j n es)) rfl tm t
def labC (j n : Nat) (tm : List (Nat × V)) (own : List Obj) (Ω : Store) : Option Obj → St
  | some (.mrow _ es) => ⟨mapL true j n es tm, (own.map (Obj.mapC (C.lab true j n es))).set j .dead :: Ω⟩
  | some (.ltok m _ es) => ⟨mapL false j m es tm, (own.map (Obj.mapC (C.lab false j m es))).set j .dead :: Ω⟩
  | _ => ⟨tm, own :: Ω⟩
def labAt (j n : Nat) (s : St) : St :=
  match s.st with
  | own :: Ω => labC j n s.tm own Ω (own[j]?)
  | [] => s
def labUp : Nat → Nat → St → St
  | 0, _, s => s
  | k + 1, n, s => labUp k n (labAt k n s)
def labAll (n : Nat) (s : St) : St :=
  match s.st with
  | own :: _ => labUp own.length n s
  | [] => s
theorem labAt_ghost (j n : Nat) (s : St) : Ghost N s (labAt j n s) := by
  obtain ⟨tm, st⟩ := s
  cases st with
  | nil => exact Ghost.refl _ _
  | cons own Ω =>
    show Ghost N ⟨tm, own :: Ω⟩ (labC j n tm own Ω (own[j]?))
    cases ho : own[j]? with
    | none => exact Ghost.refl _ _
    | some o =>
      cases o with
      | mrow z es => exact fun a w σ β hR => lab_rep j n z es true ho hR
      | ltok m z es => exact fun a w σ β hR => lab_rep j m z es false ho hR
      | _ => exact Ghost.refl _ _
theorem labUp_ghost : ∀ (k n : Nat) (s : St), Ghost N s (labUp k n s)
  | 0, n, s => Ghost.refl _ _
  | k + 1, n, s => (labAt_ghost k n s).trans (labUp_ghost k n _)
theorem labAll_ghost (n : Nat) (s : St) : Ghost N s (labAll n s) := by
  unfold labAll
  split
  · exact labUp_ghost _ _ _
  · exact Ghost.refl _ _
theorem labAt_mk {j n : Nat} {tm : List (Nat × V)} {own : List Obj} {Ω : Store} : labAt j n ⟨tm, own :: Ω⟩ = labC j n tm own Ω (own[j]?) := rfl
theorem labAll_mk {n : Nat} {tm : List (Nat × V)} {own : List Obj} {Ω : Store} : labAll n ⟨tm, own :: Ω⟩ = labUp own.length n ⟨tm, own :: Ω⟩ := rfl
def retL (P : Program) (n : Nat) (rs : List ResultVar) (post : V → Store → Prop) (e : Exit) (s : St) : Prop := retQ P rs post e (labAll n s)
theorem retL_ret {n : Nat} {rs : List ResultVar} {post : V → Store → Prop} : retL P n rs post .ret s = retS P rs post (labAll n s) := rfl
theorem retL_normal {n : Nat} {rs : List ResultVar} {post : V → Store → Prop} : retL P n rs post .normal s = retS P rs post (labAll n s) := rfl
theorem acall_cwL (n : Nat) {f : FuncId} {fn : Func} {c : Code} {args : List V} {post : V → Store → Prop} {rs : List ResultVar} (hmix : P.follows .mixedOrders = true) (hf : P.funcs[f]? = some fn) (hN : fn.ntmps = N)
    (hb : fn.body = some c) (hn : (fn.name == "runtime.NumGoroutine") = false) (hr : fn.results.toList = rs) (hl : Nat.ble args.length N = true) (hok : codeOk N c = true)
    (h : CW P N c (retL P n rs post) ⟨argTm (args.map (V.up 1)) 0, [.seed n] :: S⟩) : ACall P f args S post := by
  subst hN
  subst hr
  exact acall_enter hf hb hn (Nat.le_of_ble_eq_true hl) (aw_seed n (aw_end (labAll_ghost n) (cw_sound hmix c _ _ hok h)))
theorem lab_tsl1 {row : Bool} {j n l i : Nat} {es es' : List (List D)} : C.lab row j n es (.tsl (1 + l, i) es') = .tsl (1 + l, i) es' := by rw [Nat.add_comm]; rfl
theorem lab_tsl0 {row : Bool} {j n i : Nat} {es es' : List (List D)} : C.lab row j n es (.tsl (0, i) es') = if i = j ∧ row = false ∧ es'.length = es.length then .d (.ol n es) else .tsl (0, i) es' := rfl
theorem lab_msl1 {row : Bool} {j n l i : Nat} {es : List (List D)} : C.lab row j n es (.msl (1 + l, i)) = .msl (1 + l, i) := by rw [Nat.add_comm]; rfl
theorem lab_msl0 {row : Bool} {j n i : Nat} {es : List (List D)} : C.lab row j n es (.msl (0, i)) = if i = j ∧ row = true then .d (.ol n es) else .msl (0, i) := rfl
theorem lab_d {row : Bool} {j n : Nat} {es : List (List D)} {x : D} : C.lab row j n es (.d x) = .d x := rfl
theorem lab_any {row : Bool} {j n : Nat} {es : List (List D)} : C.lab row j n es .any = .any := rfl
theorem lab_fsl {row : Bool} {j n : Nat} {es es' : List (List D)} : C.lab row j n es (.fsl es') = .fsl es' := rfl
theorem lab_lfl {row : Bool} {j n m : Nat} {es es' : List (List D)} : C.lab row j n es (.lfl m es') = .lfl m es' := rfl
theorem lab_ptr {row : Bool} {j n off : Nat} {es : List (List D)} {k : Key} : C.lab row j n es (.ptr k off) = .ptr k off := rfl
theorem lab_fn {row : Bool} {j n f : Nat} {es : List (List D)} {caps : List (Key × Nat)} : C.lab row j n es (.fn f caps) = .fn f caps := rfl
theorem lab_rptr {row : Bool} {j n : Nat} {es : List (List D)} {cs : List D} : C.lab row j n es (.rptr cs) = .rptr cs := rfl
end
attribute [go_sem ↓] retL_ret retL_normal labAll_mk
attribute [go_sem] labUp labAt_mk labC look_mapL V.mapC Obj.mapC lab_tsl1 lab_tsl0 lab_msl1 lab_msl0 lab_d lab_any lab_fsl lab_lfl lab_ptr lab_fn lab_rptr
end Go.Ab

namespace Go.Ab
section
variable {P : Program} {N : Nat} {S : Store} {s : St} {tm : List (Nat × V)}
def loneK (E : Md) (R : Array Oper) (K : St → Prop) (s : St) : Prop := loneB E R s.tm = true ∧ K s
@[congr] theorem loneK_congr {E : Md} {R : Array Oper} {K : St → Prop} {s s' : St} (h2 : s = s') : loneK E R K s = loneK E R K s' := by rw [h2]
def CWL (P : Program) (N : Nat) : Code → (Exit → St → Prop) → St → Prop
  | .seq x y, Q, s => CWL P N x (thenK (CWL P N y Q) Q) s
  | .region _ R true, Q, s => dops P (autoEL R N) R R.toList s (loneK (autoEL R N) R (Q .normal))
  | .region id R false, Q, s => CW P N (.region id R false) Q s
  | .cond c x y, Q, s => CW P N (.cond c x y) Q s
  | .block id c, Q, s => CW P N (.block id c) Q s
  | .exit id, Q, s => CW P N (.exit id) Q s
  | .ret, Q, s => CW P N .ret Q s
  | .skip, Q, s => CW P N .skip Q s
  | .loop c, Q, s => CW P N (.loop c) Q s
  | _, _, _ => False
theorem cwl_seq {x y : Code} {Q : Exit → St → Prop} : CWL P N (.seq x y) Q s = CWL P N x (thenK (CWL P N y Q) Q) s := by rw [CWL]
theorem cwl_draw {id : Nat} {l : List Oper} {Q : Exit → St → Prop} : CWL P N (.region id ⟨l⟩ true) Q s = dops P (autoEL ⟨l⟩ N) ⟨l⟩ l s (loneK (autoEL ⟨l⟩ N) ⟨l⟩ (Q .normal)) := by rw [CWL]
theorem cwl_region {id : Nat} {l : List Oper} {Q : Exit → St → Prop} : CWL P N (.region id ⟨l⟩ false) Q s = CW P N (.region id ⟨l⟩ false) Q s := by rw [CWL]
theorem cwl_cond {c : Operand} {x y : Code} {Q : Exit → St → Prop} : CWL P N (.cond c x y) Q s = CW P N (.cond c x y) Q s := by rw [CWL]
theorem cwl_ret {Q : Exit → St → Prop} : CWL P N .ret Q s = CW P N .ret Q s := by rw [CWL]
theorem cwl_skip {Q : Exit → St → Prop} : CWL P N .skip Q s = CW P N .skip Q s := by rw [CWL]
end
attribute [go_sem ↓] cwl_seq cwl_draw cwl_region cwl_cond cwl_ret cwl_skip
end Go.Ab

namespace Go.Ab
section
variable {P : Program} {N : Nat} {S : Store} {s : St} {tm : List (Nat × V)}
def CWM (P : Program) (N : Nat) : Code → (Exit → St → Prop) → St → Prop
  | .seq x y, Q, s => CWM P N x (thenK (CWM P N y Q) Q) s
  | .region _ R true, Q, s => dops P (autoEL R N) R R.toList s (loneK (autoEL R N) R (Q .normal))
  | .region id R false, Q, s => CW P N (.region id R false) Q s
  | .cond c x y, Q, s => condW (ev s.tm c) (CWM P N x Q) (CWM P N y Q) s
  | .block id c, Q, s => CWM P N c (inBlk id Q) s
  | .exit id, Q, s => CW P N (.exit id) Q s
  | .ret, Q, s => CW P N .ret Q s
  | .skip, Q, s => CW P N .skip Q s
  | .loop c, Q, s => CW P N (.loop c) Q s
  | _, _, _ => False
theorem cwm_seq {x y : Code} {Q : Exit → St → Prop} : CWM P N (.seq x y) Q s = CWM P N x (thenK (CWM P N y Q) Q) s := by rw [CWM]
theorem cwm_draw {id : Nat} {l : List Oper} {Q : Exit → St → Prop} : CWM P N (.region id ⟨l⟩ true) Q s = dops P (autoEL ⟨l⟩ N) ⟨l⟩ l s (loneK (autoEL ⟨l⟩ N) ⟨l⟩ (Q .normal)) := by rw [CWM]
theorem cwm_region {id : Nat} {l : List Oper} {Q : Exit → St → Prop} : CWM P N (.region id ⟨l⟩ false) Q s = CW P N (.region id ⟨l⟩ false) Q s := by rw [CWM]
theorem cwm_cond {c : Operand} {x y : Code} {Q : Exit → St → Prop} : CWM P N (.cond c x y) Q s = condW (ev s.tm c) (CWM P N x Q) (CWM P N y Q) s := by rw [CWM]
theorem cwm_block {id : Nat} {c : Code} {Q : Exit → St → Prop} : CWM P N (.block id c) Q s = CWM P N c (inBlk id Q) s := by rw [CWM]
theorem cwm_exit {id : Nat} {Q : Exit → St → Prop} : CWM P N (.exit id) Q s = CW P N (.exit id) Q s := by rw [CWM]
theorem cwm_ret {Q : Exit → St → Prop} : CWM P N .ret Q s = CW P N .ret Q s := by rw [CWM]
theorem cwm_skip {Q : Exit → St → Prop} : CWM P N .skip Q s = CW P N .skip Q s := by rw [CWM]
theorem cwm_loop {c : Code} {Q : Exit → St → Prop} : CWM P N (.loop c) Q s = CW P N (.loop c) Q s := by rw [CWM]
end
attribute [go_sem ↓] cwm_seq cwm_draw cwm_region cwm_cond cwm_block cwm_exit cwm_ret cwm_skip cwm_loop
end Go.Ab

namespace Go.Ab
section
variable {P : Program} {N : Nat} {S : Store} {s : St} {tm : List (Nat × V)}
end
end Go.Ab

namespace Go.Ab
theorem acall_cwLe {P : Program} {N : Nat} (n : Nat) {f : FuncId} {fn : Func} {c : Code} {args : List V} {own0 : List Obj} {Ω : Store} {post : V → Store → Prop} {rs : List ResultVar} (hmix : P.follows .mixedOrders = true) (hf : P.funcs[f]? = some fn) (hN : fn.ntmps = N)
    (hb : fn.body = some c) (hn : (fn.name == "runtime.NumGoroutine") = false) (hr : fn.results.toList = rs) (hl : Nat.ble args.length N = true) (hok : codeOk N c = true)
    (h : CW P N c (escQ P rs post) ⟨argTm (args.map (V.up 1)) 0, [.seed n] :: own0 :: Ω⟩) : ACall P f args (own0 :: Ω) post := by
  subst hN
  subst hr
  exact acall_esc hf hb hn (Nat.le_of_ble_eq_true hl) (aw_seed n (cw_sound hmix c _ _ hok h))
theorem aw_seeds {P : Program} {N : Nat} {c : Code} {Q : Exit → St → Prop} {tm : List (Nat × V)} {Ω : Store} (n k : Nat) (h : AW P N c Q ⟨tm, [.seed n, .seed k] :: Ω⟩) : AW P N c Q ⟨tm, [] :: Ω⟩ := by
  refine aw_seed n (aw_ghost h fun a w σ β hR => ?_)
  obtain ⟨bo, bΩ, rfl, hlen⟩ := frames hR
  obtain ⟨hS', hk, hst⟩ := hR.S.push (o := .seed k) (h := undef) (Grow.refl hR.S.live) hlen trivial (fun b hb => by cases hb)
  exact ⟨σ, _, ⟨hR.size, hR.defers, hS', fun u => (hR.T u).mono (Near.refl _ _) hk⟩, hst, Keep.refl _ _⟩
section
variable {P : Program} {N : Nat} {S : Store}
theorem acall_cwLs (n k : Nat) {f : FuncId} {fn : Func} {c : Code} {args : List V} {post : V → Store → Prop} {rs : List ResultVar} (hmix : P.follows .mixedOrders = true) (hf : P.funcs[f]? = some fn) (hN : fn.ntmps = N)
    (hb : fn.body = some c) (hn : (fn.name == "runtime.NumGoroutine") = false) (hr : fn.results.toList = rs) (hl : Nat.ble args.length N = true) (hok : codeOk N c = true)
    (h : CW P N c (retL P n rs post) ⟨argTm (args.map (V.up 1)) 0, [.seed n, .seed k] :: S⟩) : ACall P f args S post := by
  subst hN
  subst hr
  exact acall_enter hf hb hn (Nat.le_of_ble_eq_true hl) (aw_seeds n k (aw_end (labAll_ghost n) (cw_sound hmix c _ _ hok h)))
end
end Go.Ab

namespace Go.Ab
section
variable {P : Program} {w w' : World} {σ σ' : Nat → Nat} {S : Store} {β : Hs}
def Sealed (w : World) (σ : Nat → Nat) (lo hi b : Nat) : Prop := ∃ c t fz m, w.heap[b]? = some (.cells c t fz) ∧ σ b = c.size + 1 + m ∧ lo ≤ m ∧ m < hi
theorem Sealed.mono {lo hi lo' hi' b : Nat} (h : Sealed w σ lo hi b) (h1 : lo' ≤ lo) (h2 : hi ≤ hi') : Sealed w σ lo' hi' b := by
  obtain ⟨c, t, fz, m, a1, a2, a3, a4⟩ := h
  exact ⟨c, t, fz, m, a1, a2, by omega, by omega⟩
theorem Sealed.apart {lo hi lo' hi' b : Nat} (h : Sealed w σ lo hi b) (h' : Sealed w σ lo' hi' b) (ho : hi ≤ lo') : False := by
  obtain ⟨c, t, fz, m, a1, a2, a3, a4⟩ := h
  obtain ⟨c', t', fz', m', b1, b2, b3, b4⟩ := h'
  rw [a1] at b1; cases b1
  omega
abbrev Kids := List (List (Option Value))
def kidAt (rows : Kids) (i o : Nat) : Option Value := ((rows[i]?).bind fun r => r[o]?).bind id
def rowsV (rows : Kids) : Array Value := (rows.map fun r => Value.tuple (r.map fun u => u.getD (.bool false)).toArray).toArray
def mkT (v : Value) (rows : Kids) : Value := .tuple #[v, .tuple (rowsV rows)]
theorem hdr_mkT {v : Value} {rows : Kids} : hdr (mkT v rows) = some v := rfl
def IsT (v : Value) : Prop := ∃ a, v = .tuple a
theorem kid_mkT {v : Value} {rows : Kids} (h : ∀ i o u, kidAt rows i o = some u → IsT u) (i o : Nat) : kid (mkT v rows) i o = kidAt rows i o := by
  have h' := h i o
  unfold kid mkT rowsV kidAt at *
  simp only [List.getElem?_toArray, List.getElem?_cons_succ, List.getElem?_cons_zero, List.getElem?_map]
  cases hr : rows[i]? with
  | none => rfl
  | some r =>
    rw [hr] at h'
    simp only [Option.map_some, List.getElem?_toArray, List.getElem?_map]
    cases hu : r[o]? with
    | none => simp [hu]
    | some u =>
      simp only [Option.bind_some, hu, id] at h'
      cases u with
      | none => simp [hu]
      | some u =>
        obtain ⟨a, rfl⟩ := h' u rfl
        simp [hu]
def CellT (w : World) (d : D) (v : Value) (u : Option Value) : Prop :=
  match d with
  | .sl es => ∃ T, u = some T ∧ IsT T ∧ hdr T = some v ∧ ExT w es T
  | d => u = none ∧ SD d v
theorem rows_lab {z : Nat} : ∀ {rs : List (List D)} {n : Nat}, (∀ r ∈ labRs rs n, r.length = z) → ∀ r ∈ rs, r.length = z
  | [], _, _, r, h => by cases h
  | a :: rs, n, ha, r, h => by
    rw [labRs] at ha
    rcases List.mem_cons.1 h with e | h
    · subst e; rw [← labR_length r n]; exact ha _ (by simp)
    · exact rows_lab (n := n + cntR a) (fun r hr => ha r (by simp [hr])) r h
structure RowT (w : World) (σ : Nat → Nat) (r : List D) (n m : Nat) (vals : Nat → Value) (us : List (Option Value)) : Prop where
  len : us.length = r.length
  cell : ∀ (j : Nat) (d : D), r[j]? = some d → ∃ u, us[j]? = some u ∧ CellT w d (vals j) u
  own : ∀ (j : Nat) (u : Value), us[j]? = some (some u) → ∀ b, Owns u b → Sealed w σ n m b
  apart : ∀ (j j' : Nat) (u u' : Value) (b : Nat), j ≠ j' → us[j]? = some (some u) → us[j']? = some (some u') → Owns u b → Owns u' b → False
structure RowsT (w : World) (σ : Nat → Nat) (z : Nat) (rs : List (List D)) (n m : Nat) (vals : Nat → Value) (U : Kids) : Prop where
  cell : ∀ (i o : Nat) (d : D), cellAt rs i o = some d → ∃ u, ((U[i]?).bind fun r => r[o]?) = some u ∧ CellT w d (vals (i * z + o)) u
  kid : ∀ (i o : Nat) (u : Value), kidAt U i o = some u → ∃ es, cellAt rs i o = some (.sl es)
  own : ∀ (i o : Nat) (u : Value), kidAt U i o = some u → ∀ b, Owns u b → Sealed w σ n m b
  apart : ∀ (i o i' o' : Nat) (u u' : Value) (b : Nat), (i, o) ≠ (i', o') → kidAt U i o = some u → kidAt U i' o' = some u' → Owns u b → Owns u' b → False
theorem kidAt_zero {us : List (Option Value)} {U : Kids} {o : Nat} {u : Value} : kidAt (us :: U) 0 o = some u ↔ us[o]? = some (some u) := by
  show (us[o]?).bind id = some u ↔ _
  cases us[o]? with
  | none => simp
  | some x => simp
mutual
theorem lab_D : ∀ (d : D) (n : Nat) (v : Value), plD d = true → RepD w σ (labD d n) v → ∃ u, CellT w d v u ∧ ∀ T, u = some T → ∀ b, Owns T b → Sealed w σ n (n + cntD d) b
  | .sl es, n, v, hp, h => by
    rw [labD] at h
    have hl := labRs_length es (n + 1)
    have hrec := lab_Rs es (n + 1)
    have hrow := fun z => rows_lab (z := z) (rs := es) (n := n + 1)
    generalize labRs es (n + 1) = q at h hl hrec hrow
    have hempty : ∀ a cap, es = [] → v = .slice a 0 cap → ∃ u, CellT w (.sl es) v u ∧ ∀ T, u = some T → ∀ b, Owns T b → Sealed w σ n (n + cntD (.sl es)) b := by
      rintro a cap rfl rfl
      have hk : ∀ i o, kid (mkT (.slice a 0 cap) []) i o = none := fun i o => by rw [kid_mkT (fun i o u h => by simp [kidAt] at h)]; simp [kidAt]
      refine ⟨some (mkT (.slice a 0 cap) []), ⟨_, rfl, ⟨_, rfl⟩, rfl, .nil a cap _ rfl hk⟩, fun T hT b hb => ?_⟩
      cases hT
      exfalso
      cases hb with
      | here h1 h2 => rw [hdr_mkT] at h1; cases h1; omega
      | kid h1 h2 => rw [hk] at h1; cases h1
    cases h with
    | onil n a cap => exact hempty a cap (List.eq_nil_of_length_eq_zero (by simpa using hl.symm)) rfl
    | ol n b off cap z q vals c t hcap hlen hb hσ hfit hc hv =>
      by_cases hne : es = []
      · subst hne
        have hq0 : q.length = 0 := by simpa using hl
        exact hempty _ _ rfl (by rw [hq0])
      rw [hl] at hcap hfit hc ⊢
      obtain ⟨U, hU⟩ := hrec z vals (hrow z hlen) (by simpa [plD] using hp) hv
      have hrl := hrow z hlen
      have hT : ∀ i o u, kidAt U i o = some u → IsT u := fun i o u hu => by
        obtain ⟨es', he⟩ := hU.kid i o u hu
        obtain ⟨u', h1, h2⟩ := hU.cell i o _ he
        obtain ⟨T, h3, h4, _⟩ := h2
        unfold kidAt at hu
        rw [h1, h3] at hu
        cases hu; exact h4
      have hkid : ∀ i o, kid (mkT (.slice (some ⟨b, off, none⟩) es.length cap) U) i o = kidAt U i o := kid_mkT hT
      have hcell : ∀ i o es', cellAt es i o = some (.sl es') → ∃ T, kidAt U i o = some T ∧ hdr T = some (vals (i * z + o)) ∧ ExT w es' T := fun i o es' he => by
        obtain ⟨u', h1, T, h3, h4, h5, h6⟩ := hU.cell i o _ he
        refine ⟨T, ?_, h5, h6⟩
        unfold kidAt
        rw [h1, h3]; rfl
      have hself : ∀ x, Sealed w σ (n + 1) (n + 1 + cntRs es) x → x ≠ b := by
        rintro x ⟨c', t', fz', m, a1, a2, a3, a4⟩ rfl
        rw [hb] at a1; cases a1
        omega
      refine ⟨some (mkT (.slice (some ⟨b, off, none⟩) es.length cap) U), ⟨_, rfl, ⟨_, rfl⟩, rfl, ?_⟩, fun T hT' x hx => ?_⟩
      · refine .mk b off cap z es _ c t (fun i o => vals (i * z + o)) (fun i o => (kidAt U i o).getD undef) rfl hne hcap hrl hb hfit (fun i o d hd => ?_) (fun i o d hd => ?_) (fun i o es' he => ?_) (fun i o es' he => ?_) (fun i o u hu hb' => ?_) (fun i o i' o' u u' x hio hu hu' h1 h2 => ?_) (fun i o u hu => ?_)
        · obtain ⟨hi, ho⟩ := cell_row hd
          rw [hrl _ (List.getElem_mem hi)] at ho
          refine hc _ ?_
          have : (i + 1) * z ≤ es.length * z := Nat.mul_le_mul_right _ hi
          rw [Nat.add_mul, Nat.one_mul] at this
          omega
        · obtain ⟨u, h1, h2⟩ := hU.cell i o d hd
          cases d <;> first | exact .inl ⟨_, rfl⟩ | exact .inr h2.2
        · obtain ⟨T, h1, h2, h3⟩ := hcell i o es' he
          rw [hkid, h1]
          exact ⟨rfl, h2⟩
        · obtain ⟨T, h1, h2, h3⟩ := hcell i o es' he
          rw [h1]; exact h3
        · rw [hkid] at hu
          exact hself b (hU.own i o u hu b hb') rfl
        · rw [hkid] at hu hu'
          exact hU.apart i o i' o' u u' x hio hu hu' h1 h2
        · rw [hkid] at hu
          exact hU.kid i o u hu
      · cases hT'
        cases hx with
        | here h1 h2 => rw [hdr_mkT] at h1; cases h1; exact ⟨c, t, (0, 0), n, hb, hσ, Nat.le_refl _, by rw [cntD]; omega⟩
        | kid h1 h2 =>
          rw [hkid] at h1
          exact (hU.own _ _ _ h1 _ h2).mono (by omega) (by rw [cntD]; omega)
  | .ol m es, n, v, hp, h => by simp [plD] at hp
  | .b x, n, v, hp, h => by rw [labD] at h; cases h; exact ⟨none, ⟨rfl, rfl⟩, fun T h => by cases h⟩
  | .i k x, n, v, hp, h => by rw [labD] at h; cases h; exact ⟨none, ⟨rfl, rfl⟩, fun T h => by cases h⟩
  | .s l, n, v, hp, h => by rw [labD] at h; cases h; exact ⟨none, ⟨rfl, rfl⟩, fun T h => by cases h⟩
  | .o u, n, v, hp, h => by simp [plD] at hp
theorem lab_R : ∀ (r : List D) (n : Nat) (vals : Nat → Value), plR r = true → (∀ (j : Nat) (d : D), (labR r n)[j]? = some d → RepD w σ d (vals j)) → ∃ us, RowT w σ r n (n + cntR r) vals us
  | [], n, vals, hp, h => ⟨[], rfl, fun j d h => by simp at h, fun j u h => by simp at h, fun j j' u u' b _ h => by simp at h⟩
  | d :: r, n, vals, hp, h => by
    rw [plR, Bool.and_eq_true] at hp
    rw [labR] at h
    obtain ⟨u, h1, h2⟩ := lab_D d n (vals 0) hp.1 (h 0 _ rfl)
    obtain ⟨us, hus⟩ := lab_R r (n + cntD d) (fun j => vals (j + 1)) hp.2 fun j x hx => h (j + 1) x hx
    rw [cntR]
    have hown : ∀ (j : Nat) (T : Value), us[j]? = some (some T) → ∀ b, Owns T b → Sealed w σ (n + cntD d) (n + cntD d + cntR r) b := hus.own
    refine ⟨u :: us, by rw [List.length_cons, List.length_cons, hus.len], fun j x hx => ?_, fun j T hT b hb => ?_, fun j j' T T' b hj hT hT' hb hb' => ?_⟩
    · cases j with
      | zero => simp at hx; subst hx; exact ⟨u, rfl, h1⟩
      | succ j => exact hus.cell j x hx
    · cases j with
      | zero => simp at hT; exact (h2 T hT b hb).mono (Nat.le_refl _) (by omega)
      | succ j => exact (hown j T hT b hb).mono (by omega) (by omega)
    · cases j with
      | zero =>
        cases j' with
        | zero => exact hj rfl
        | succ j' => simp at hT; exact (h2 T hT b hb).apart (hown j' T' hT' b hb') (Nat.le_refl _)
      | succ j =>
        cases j' with
        | zero => simp at hT'; exact (h2 T' hT' b hb').apart (hown j T hT b hb) (Nat.le_refl _)
        | succ j' => exact hus.apart j j' T T' b (by omega) hT hT' hb hb'
theorem lab_Rs : ∀ (rs : List (List D)) (n z : Nat) (vals : Nat → Value), (∀ r ∈ rs, r.length = z) → plRs rs = true → (∀ (j : Nat) (d : D), (labRs rs n).flatten[j]? = some d → RepD w σ d (vals j)) → ∃ U, RowsT w σ z rs n (n + cntRs rs) vals U
  | [], n, z, vals, hz, hp, h => ⟨[], fun i o d h => by simp [cellAt] at h, fun i o u h => by simp [kidAt] at h, fun i o u h => by simp [kidAt] at h, fun i o i' o' u u' b _ h => by simp [kidAt] at h⟩
  | r :: rs, n, z, vals, hz, hp, h => by
    rw [plRs, Bool.and_eq_true] at hp
    rw [labRs, List.flatten_cons] at h
    have hrz : r.length = z := hz r (by simp)
    obtain ⟨us, hus⟩ := lab_R r n vals hp.1 fun j d hd => h j d (by rw [List.getElem?_append_left (List.getElem?_eq_some_iff.1 hd).1]; exact hd)
    obtain ⟨U, hU⟩ := lab_Rs rs (n + cntR r) z (fun j => vals (z + j)) (fun r hr => hz r (by simp [hr])) hp.2 fun j d hd => h (z + j) d (by
      rw [List.getElem?_append_right (by rw [labR_length]; omega), labR_length, hrz, Nat.add_sub_cancel_left]; exact hd)
    rw [cntRs]
    have hown : ∀ (i o : Nat) (T : Value), kidAt U i o = some T → ∀ b, Owns T b → Sealed w σ (n + cntR r) (n + cntR r + cntRs rs) b := hU.own
    refine ⟨us :: U, fun i o d hd => ?_, fun i o u hu => ?_, fun i o T hT b hb => ?_, fun i o i' o' T T' b hio hT hT' hb hb' => ?_⟩
    · cases i with
      | zero =>
        obtain ⟨u, h1, h2⟩ := hus.cell o d hd
        exact ⟨u, h1, by rw [Nat.zero_mul, Nat.zero_add]; exact h2⟩
      | succ i =>
        obtain ⟨u, h1, h2⟩ := hU.cell i o d hd
        exact ⟨u, h1, by rw [show (i + 1) * z + o = z + (i * z + o) by rw [Nat.add_mul]; omega]; exact h2⟩
    · cases i with
      | zero =>
        rw [kidAt_zero] at hu
        have ho : o < r.length := by rw [← hus.len]; exact (List.getElem?_eq_some_iff.1 hu).1
        obtain ⟨u', h1, h2⟩ := hus.cell o r[o] (List.getElem?_eq_getElem ho)
        rw [hu] at h1; cases h1
        have hc : cellAt (r :: rs) 0 o = some r[o] := List.getElem?_eq_getElem ho
        rw [hc]
        generalize r[o] = d at h2
        cases d <;> first | exact ⟨_, rfl⟩ | (cases h2.1)
      | succ i => exact hU.kid i o u hu
    · cases i with
      | zero => rw [kidAt_zero] at hT; exact (hus.own o T hT b hb).mono (Nat.le_refl _) (by omega)
      | succ i => exact (hown i o T hT b hb).mono (by omega) (by omega)
    · cases i with
      | zero =>
        rw [kidAt_zero] at hT
        cases i' with
        | zero => rw [kidAt_zero] at hT'; exact hus.apart o o' T T' b (fun e => hio (by rw [e])) hT hT' hb hb'
        | succ i' => exact (hus.own o T hT b hb).apart (hown i' o' T' hT' b hb') (Nat.le_refl _)
      | succ i =>
        cases i' with
        | zero => rw [kidAt_zero] at hT'; exact (hus.own o' T' hT' b hb').apart (hown i o T hT b hb) (Nat.le_refl _)
        | succ i' => exact hU.apart i o i' o' T T' b (fun e => hio (by cases e; rfl)) hT hT' hb hb'
end
end
end Go.Ab

namespace Go.Ab
section
variable {P : Program} {w w' : World} {σ σ' : Nat → Nat} {S : Store} {β : Hs}
def rootD : D → List (List D)
  | .sl es => es
  | _ => []
def cellX (k : Key) (j : Nat) : D → C
  | .sl _ => .xp k j []
  | d => .d d
def rowX (k : Key) : Nat → List D → List C
  | _, [] => []
  | j, d :: ds => cellX k j d :: rowX k (j + 1) ds
theorem rowX_length {k : Key} : ∀ (j : Nat) (r : List D), (rowX k j r).length = r.length
  | _, [] => rfl
  | j, d :: ds => by rw [rowX, List.length_cons, rowX_length, List.length_cons]
theorem rowX_at {k : Key} : ∀ (r : List D) (j i : Nat), (rowX k j r)[i]? = (r[i]?).map (cellX k (j + i))
  | [], j, i => by simp [rowX]
  | d :: ds, j, 0 => rfl
  | d :: ds, j, i + 1 => by
    rw [rowX, List.getElem?_cons_succ, List.getElem?_cons_succ, rowX_at ds (j + 1) i, show j + 1 + i = j + (i + 1) by omega]
def pureC : C → C
  | .d x => .d x
  | .fsl es => .d (.sl es)
  | .tsl _ es => .d (.sl es)
  | .lfl n es => .d (.ol n es)
  | .rptr cs => .rptr cs
  | _ => .any
def pureV : V → V
  | .c x => .c (pureC x)
  | .agg cs => .agg (cs.map pureC)
  | _ => .any
theorem pure_repC {c : C} {v : Value} (h : RepC w σ S β c v) (S' : Store) (β' : Hs) : RepC w σ S' β' (pureC c) v := by
  cases c with
  | d x => exact h
  | fsl es => exact h.1
  | tsl k es => exact h.1
  | lfl n es => exact h.1
  | rptr cs => exact h
  | _ => trivial
theorem pure_rep {x : V} {v : Value} (h : RepV w σ S β x v) (S' : Store) (β' : Hs) : RepV w σ S' β' (pureV x) v := by
  cases x with
  | c x => exact ⟨pure_repC h.1 _ _, h.2⟩
  | agg cs =>
    obtain ⟨a, ha, hl, hc⟩ := h
    refine ⟨a, ha, by rw [List.length_map]; exact hl, fun i x hx => ?_⟩
    rw [List.getElem?_map] at hx
    cases hi : cs[i]? with
    | none => rw [hi] at hx; cases hx
    | some y =>
      rw [hi] at hx; cases hx
      obtain ⟨u, q1, q2, q3⟩ := hc i y hi
      exact ⟨u, q1, pure_repC q2 _ _, q3⟩
  | _ => trivial
theorem repS_empty (hl : ∀ b, b < w.heap.size ∨ σ b = 0) (hg : Glob w σ) : RepS w σ [] [] where
  glob := hg
  obj := fun k o h => by rw [getO_nil] at h; cases h
  apart := fun k k' o o' h h' b h1 => by rw [getO_nil] at h1; cases h1
  shape := ⟨rfl, fun l fr h => by simp at h⟩
  live := hl
theorem no_own0 {β : Hs} {b : Nat} : ¬ Own [] β b := fun ⟨k, o, h, h1, _⟩ => by rw [getO_nil] at h1; cases h1
def Holder (mk : List C → V) (m : Nat) : Prop := ∀ w σ S β cs v, cs.length = m → RepV w σ S β (mk cs) v → ∃ vs, RepCs w σ S β cs vs ∧ ∀ w' σ' S' β' cs', cs'.length = m → RepCs w' σ' S' β' cs' vs → RepV w' σ' S' β' (mk cs') v
theorem holder_agg {m : Nat} : Holder V.agg m := fun w σ S β cs v _ ⟨a, ha, hc⟩ => ⟨a.toList, hc, fun w' σ' S' β' cs' _ hc' => ⟨a, ha, hc'⟩⟩
def plainC : C → Bool
  | .d d => isSD d
  | _ => false
theorem plainC_rep {c : C} {v : Value} (h : plainC c = true) (hr : RepC w σ S β c v) (w' : World) (σ' : Nat → Nat) (S' : Store) (β' : Hs) : RepC w' σ' S' β' c v := by
  cases c with
  | d d => cases d <;> first | (cases h; done) | (cases hr; constructor)
  | _ => cases h
theorem holder_tup {m : Nat} (xs : List C) (h : xs.all plainC = true) : Holder (fun cs => .tup ((true, cs) :: xs.map fun x => (false, [x]))) m := by
  rintro w σ S β cs v _ ⟨a, ha, hl, hc⟩
  obtain ⟨u, hu, a', rfl, hcs⟩ := hc 0 _ rfl
  refine ⟨a'.toList, hcs, fun w' σ' S' β' cs' _ hc' => ⟨a, ha, hl, fun j y hy => ?_⟩⟩
  cases j with
  | zero => simp at hy; subst hy; exact ⟨_, hu, a', rfl, hc'⟩
  | succ j =>
    rw [List.getElem?_cons_succ] at hy
    obtain ⟨u, h1, h2⟩ := hc (j + 1) y (by rw [List.getElem?_cons_succ]; exact hy)
    refine ⟨u, h1, ?_⟩
    rw [List.getElem?_map] at hy
    cases hx : xs[j]? with
    | none => rw [hx] at hy; cases hy
    | some x =>
      rw [hx] at hy; cases hy
      obtain ⟨x', e, h3, h4⟩ := h2
      cases e
      exact ⟨x, rfl, plainC_rep (List.all_eq_true.1 h x (List.mem_of_getElem? hx)) h3 _ _ _ _, h4⟩
def emptyT : Value := mkT (.slice none 0 0) []
theorem kid_empty (i o : Nat) : kid emptyT i o = none := by
  unfold emptyT
  rw [kid_mkT (fun i o u h => by simp [kidAt] at h)]; simp [kidAt]
theorem owns_empty {b : Nat} : ¬ Owns emptyT b := fun h => by
  cases h with
  | here h1 h2 => cases h1
  | kid h1 h2 => rw [kid_empty] at h1; cases h1
theorem bound_of (σ : Nat → Nat) : ∀ n : Nat, ∃ m, ∀ b, b < n → σ b ≤ m
  | 0 => ⟨0, fun b h => by omega⟩
  | n + 1 => by
    obtain ⟨m, hm⟩ := bound_of σ n
    refine ⟨max m (σ n), fun b hb => ?_⟩
    by_cases e : b = n
    · subst e; omega
    · have := hm b (by omega); omega
open Classical in
theorem ACall.own {f : FuncId} {args : List V} {own0 : List Obj} {Ω : Store} {mk : List C → V} {r : List D} (hm : Holder mk r.length) (hp : plR r = true)
    (h : ∀ n, PCall P f (args.map pureV) (mk ((labR r n).map .d))) :
    ACall P f args (own0 :: Ω) (fun r' S' => r' = mk (rowX (0, own0.length) 0 r) ∧ S' = (own0 ++ [.xf (r.map rootD)]) :: Ω) := by
  refine ⟨(h 0 []).1, fun w σ β vs hS hargs => ?_⟩
  obtain ⟨n, hn⟩ := bound_of σ w.heap.size
  have hargs0 : RepVs w σ [] [] (args.map pureV) vs := by
    refine ⟨by rw [List.length_map]; exact hargs.1, fun j x hx => ?_⟩
    rw [List.getElem?_map] at hx
    cases ha : args[j]? with
    | none => rw [ha] at hx; cases hx
    | some y =>
      rw [ha] at hx; cases hx
      obtain ⟨v, h1, h2⟩ := hargs.2 j y ha
      exact ⟨v, h1, pure_rep h2 _ _⟩
  refine ((h n []).2 w σ [] vs (repS_empty hS.live hS.glob) hargs0).mono fun e w' ⟨v, r', S', σ', β', he, hS', hk, hst, hv, hr', hS2⟩ => ?_
  subst hr'; subst hS2
  obtain ⟨us0, hcs, hback⟩ := hm w' σ' _ β' _ v (by rw [List.length_map, labR_length]) hv
  have hus0 : us0.length = r.length := by rw [← hcs.1, List.length_map, labR_length]
  obtain ⟨us, hus⟩ := lab_R r n (fun j => us0.getD j undef) hp (fun j d hd => by
    obtain ⟨u, h1, h2, _⟩ := hcs.2 j (.d d) (by rw [List.getElem?_map, hd]; rfl)
    simp only [List.getD_eq_getElem?_getD, h1, Option.getD_some]
    exact h2)
  let h0 : Value := .tuple (us.map fun u => u.getD emptyT).toArray
  have hroot : ∀ j, rootAt h0 j = (us[j]?).map fun u => u.getD emptyT := fun j => by simp [h0, rootAt]
  have hfresh : ∀ b, XOwns h0 b → w.heap.size ≤ b := by
    rintro b ⟨j, T, h1, h2⟩
    rw [hroot] at h1
    cases hu : us[j]? with
    | none => rw [hu] at h1; cases h1
    | some u =>
      rw [hu] at h1
      simp only [Option.map_some, Option.some.injEq] at h1
      cases u with
      | none => subst h1; exact absurd h2 owns_empty
      | some u =>
        simp at h1; subst h1
        obtain ⟨c, t, fz, m, a1, a2, a3, a4⟩ := hus.own j u hu b h2
        refine Nat.le_of_not_lt fun hlt => ?_
        have h1 := (hst.far b hlt no_own0).2
        have h2 := hn b hlt
        omega
  let σ2 : Nat → Nat := fun b => if XOwns h0 b then 0 else σ' b
  have hg : Grow w σ w' σ2 := ⟨hst.size, hst.os, hst.output, fun b hb => by
    obtain ⟨h1, h2⟩ := hst.far b hb no_own0
    exact ⟨h1, (if_neg fun hx => by have := hfresh b hx; omega).trans h2⟩, fun b => by
    rcases hS'.live b with hb | hb
    · exact .inl hb
    · right; show (if XOwns h0 b then 0 else σ' b) = 0; rw [hb]; split <;> rfl⟩
  cases β with
  | nil => have := hS.shape.1; simp at this
  | cons bo bΩ =>
  have hlen : bo.length = own0.length := by
    obtain ⟨gr, g1, g2⟩ := hS.shape.2 0 own0 rfl
    simp at g1; rw [g1]; exact g2
  obtain ⟨hS3, hk3, hst3⟩ := hS.push (o := .xf (r.map rootD)) (h := h0) hg hlen (by
    refine ⟨fun j es hj => ?_, fun j T hT => ?_, fun b hb => if_pos hb, fun j j' T T' x hjj hT hT' hx hx' => ?_⟩
    · rw [List.getElem?_map] at hj
      cases hd : r[j]? with
      | none => rw [hd] at hj; cases hj
      | some d =>
        rw [hd] at hj
        simp only [Option.map_some, Option.some.injEq] at hj
        subst hj
        obtain ⟨u, h1, h2⟩ := hus.cell j d hd
        rw [hroot, h1]
        have hsc : (∀ es, d ≠ .sl es) → ∃ T, Option.map (fun u => Option.getD u emptyT) (some u) = some T ∧ ExT w' (rootD d) T := fun hne => by
          have hu : u = none := by cases d <;> first | exact absurd rfl (hne _) | exact h2.1
          have hr0 : rootD d = [] := by cases d <;> first | exact absurd rfl (hne _) | rfl
          subst hu
          rw [hr0]
          exact ⟨emptyT, rfl, .nil none 0 _ rfl kid_empty⟩
        cases d with
        | sl es => obtain ⟨T, rfl, _, _, h6⟩ := h2; exact ⟨T, rfl, h6⟩
        | _ => exact hsc (fun es e => by cases e)
    · rw [List.length_map]
      rw [hroot] at hT
      cases hu : us[j]? with
      | none => rw [hu] at hT; cases hT
      | some u => rw [← hus.len]; exact (List.getElem?_eq_some_iff.1 hu).1
    · rw [hroot] at hT hT'
      cases hu : us[j]? with
      | none => rw [hu] at hT; cases hT
      | some u =>
        cases hu' : us[j']? with
        | none => rw [hu'] at hT'; cases hT'
        | some u' =>
          rw [hu] at hT; rw [hu'] at hT'
          simp only [Option.map_some, Option.some.injEq] at hT hT'
          cases u with
          | none => subst hT; exact owns_empty hx
          | some u =>
            cases u' with
            | none => subst hT'; exact owns_empty hx'
            | some u' => simp at hT hT'; subst hT; subst hT'; exact hus.apart j j' u u' x hjj hu hu' hx hx') (fun b hb => hfresh b hb)
  refine ⟨v, _, _, σ2, (bo ++ [h0]) :: bΩ, he, hS3, hk3, hst3, ?_, rfl, rfl⟩
  refine hback _ _ _ _ _ (by rw [rowX_length]) ⟨by rw [rowX_length, hus0], fun j x hx => ?_⟩
  rw [rowX_at, Nat.zero_add] at hx
  cases hd : r[j]? with
  | none => rw [hd] at hx; cases hx
  | some d =>
    rw [hd] at hx
    simp only [Option.map_some, Option.some.injEq] at hx
    obtain ⟨u, h1, h2⟩ := hus.cell j d hd
    have hjl : j < (labR r n).length := by rw [labR_length]; exact (List.getElem?_eq_some_iff.1 hd).1
    obtain ⟨v0, h3, _, h4⟩ := hcs.2 j (.d (labR r n)[j]) (by rw [List.getElem?_map, List.getElem?_eq_getElem hjl]; rfl)
    have hv0 : us0.getD j undef = v0 := by rw [List.getD_eq_getElem?_getD, h3]; rfl
    simp only [hv0] at h2
    refine ⟨v0, h3, ?_, h4⟩
    have hsc : (∀ es, d ≠ .sl es) → RepC w' σ2 ((own0 ++ [.xf (r.map rootD)]) :: Ω) ((bo ++ [h0]) :: bΩ) (.d d) v0 := fun hne => by
      have : SD d v0 := by cases d <;> first | exact absurd rfl (hne _) | exact h2.2
      exact rep_SD this
    cases d with
    | sl es =>
      subst hx
      obtain ⟨T, rfl, _, h5, _⟩ := h2
      refine ⟨_, getO_push_new _ _ _, fun rs _ => ⟨h0, by rw [← hlen, getO_push_new], ?_⟩⟩
      unfold hdrAt
      rw [hroot, h1]
      exact h5
    | _ => subst hx; exact hsc (fun es e => by cases e)
end
end Go.Ab

namespace Go.Ab
section
variable {P : Program} {w w' : World} {σ σ' : Nat → Nat} {S : Store} {β : Hs}
def Stay (r : V) : Prop := ∀ w σ σ2 S β S2 β2 v, (∀ b c t fz, w.heap[b]? = some (.cells c t fz) → c.size < σ b → σ2 b = σ b) → RepV w σ S β r v → RepV w σ2 S2 β2 r v
mutual
theorem st_D {σ2 : Nat → Nat} (hs : ∀ b c t fz, w.heap[b]? = some (.cells c t fz) → c.size < σ b → σ2 b = σ b) : ∀ (d : D) (n : Nat) (v : Value), plD d = true → RepD w σ (labD d n) v → RepD w σ2 (labD d n) v
  | .sl es, n, v, hp, h => by
    rw [labD] at h ⊢
    have hrec := st_Rs hs es (n + 1)
    generalize labRs es (n + 1) = q at h hrec ⊢
    cases h with
    | onil n a cap => exact .onil n a cap
    | ol n b off cap z q vals c t hcap hlen hb hσ hfit hc hv => exact .ol n b off cap z q vals c t hcap hlen hb ((hs b c t _ hb (by omega)).trans hσ) hfit hc (hrec vals (by simpa [plD] using hp) hv)
  | .ol m es, n, v, hp, h => by simp [plD] at hp
  | .b x, n, v, hp, h => by rw [labD] at h ⊢; cases h; constructor
  | .i k x, n, v, hp, h => by rw [labD] at h ⊢; cases h; constructor
  | .s l, n, v, hp, h => by rw [labD] at h ⊢; cases h; constructor
  | .o u, n, v, hp, h => by simp [plD] at hp
theorem st_R {σ2 : Nat → Nat} (hs : ∀ b c t fz, w.heap[b]? = some (.cells c t fz) → c.size < σ b → σ2 b = σ b) : ∀ (r : List D) (n : Nat) (vals : Nat → Value), plR r = true → (∀ (j : Nat) (d : D), (labR r n)[j]? = some d → RepD w σ d (vals j)) →
    ∀ (j : Nat) (d : D), (labR r n)[j]? = some d → RepD w σ2 d (vals j)
  | [], n, vals, hp, h, j, d, hd => by simp [labR] at hd
  | a :: r, n, vals, hp, h, j, d, hd => by
    rw [plR, Bool.and_eq_true] at hp
    rw [labR] at h hd
    cases j with
    | zero =>
      simp at hd; subst hd
      exact st_D hs a n _ hp.1 (h 0 _ rfl)
    | succ j => exact st_R hs r (n + cntD a) (fun i => vals (i + 1)) hp.2 (fun i d hi => h (i + 1) d hi) j d hd
theorem st_Rs {σ2 : Nat → Nat} (hs : ∀ b c t fz, w.heap[b]? = some (.cells c t fz) → c.size < σ b → σ2 b = σ b) : ∀ (rs : List (List D)) (n : Nat) (vals : Nat → Value), plRs rs = true → (∀ (j : Nat) (d : D), (labRs rs n).flatten[j]? = some d → RepD w σ d (vals j)) →
    ∀ (j : Nat) (d : D), (labRs rs n).flatten[j]? = some d → RepD w σ2 d (vals j)
  | [], n, vals, hp, h, j, d, hd => by simp [labRs] at hd
  | r :: rs, n, vals, hp, h, j, d, hd => by
    rw [plRs, Bool.and_eq_true] at hp
    rw [labRs, List.flatten_cons] at h hd
    by_cases hj : j < (labR r n).length
    · rw [List.getElem?_append_left hj] at hd
      exact st_R hs r n vals hp.1 (fun j d hd => h j d (by rw [List.getElem?_append_left (List.getElem?_eq_some_iff.1 hd).1]; exact hd)) j d hd
    · rw [List.getElem?_append_right (by omega)] at hd
      have := st_Rs hs rs (n + cntR r) (fun i => vals ((labR r n).length + i)) hp.2 (fun j d hd => h _ d (by rw [List.getElem?_append_right (by omega), Nat.add_sub_cancel_left]; exact hd)) (j - (labR r n).length) d hd
      rwa [show (labR r n).length + (j - (labR r n).length) = j by omega] at this
end
theorem stay_plain {c : C} (h : plainC c = true) : Stay (.c c) := fun w σ σ2 S β S2 β2 v _ hv => ⟨plainC_rep h hv.1 _ _ _ _, hv.2⟩
theorem ExT.data {es : List (List D)} {T v : Value} (h : ExT w es T) (hv : hdr T = some v) (hσ : ∀ b c t fz, Owns T b → w.heap[b]? = some (.cells c t fz) → c.size ≤ σ b) : RepD w σ (.sl es) v := by
  induction h generalizing v with
  | nil a cap T h hk => rw [h] at hv; cases hv; exact .nil a cap
  | mk b off cap z es T c t vals kids hh hne hcap hlen hb hfit hc hs hk hx hself hap hkid ih =>
    rw [hh] at hv; cases hv
    have hpos : 0 < es.length := List.length_pos_iff.2 hne
    have hfl := flat_len es z hlen
    have hidx : ∀ j, j < es.length * z → ∃ hi : j / z < es.length, j % z < z ∧ j / z * z + j % z = j := fun j hj => by
      have hz : 0 < z := by rcases Nat.eq_zero_or_pos z with h | h; · rw [h] at hj; simp at hj
                            · exact h
      exact ⟨(Nat.div_lt_iff_lt_mul hz).2 hj, Nat.mod_lt _ hz, by rw [Nat.mul_comm]; exact Nat.div_add_mod j z⟩
    have hcell : ∀ j d, es.flatten[j]? = some d → ∃ hi : j / z < es.length, cellAt es (j / z) (j % z) = some d ∧ j / z * z + j % z = j := fun j d hd => by
      have hj : j < es.length * z := by rw [← hfl]; exact (List.getElem?_eq_some_iff.1 hd).1
      obtain ⟨hi, hm, he⟩ := hidx j hj
      refine ⟨hi, ?_, he⟩
      have := flat_get es z hlen (j / z) (j % z) hi hm
      rw [he, hd] at this
      unfold cellAt
      rw [List.getElem?_eq_getElem hi]
      exact this.symm
    refine .sl b off cap z es (fun j => vals (j / z) (j % z)) c t (0, 0) hcap hlen hb (Nat.le_trans hfit (hσ b c t _ (.here hh hpos) hb)) (fun j hj => ?_) (fun j d hd => ?_)
    · obtain ⟨hi, hce, he⟩ := hcell j _ (List.getElem?_eq_getElem (by rw [hfl]; exact hj))
      have := hc _ _ _ hce
      rwa [he] at this
    · obtain ⟨hi, hce, he⟩ := hcell j d hd
      rcases hs _ _ _ hce with ⟨es', rfl⟩ | hsd
      · obtain ⟨k1, k2⟩ := hk _ _ _ hce
        exact ih _ _ _ hce k2 fun b' c' t' fz' ho hb' => hσ b' c' t' fz' (.kid k1 ho) hb'
      · exact rep_SD hsd
def lendC (k : Key) (rs : List (List (List D))) : C → C
  | .xp k' r [] => if k' = k then (match rs[r]? with | some es => .d (.sl es) | none => .any) else .any
  | .d x => .d x
  | _ => .any
def lendV (k : Key) (rs : List (List (List D))) : V → V
  | .c x => .c (lendC k rs x)
  | .agg cs => .agg (cs.map (lendC k rs))
  | _ => .any
open Classical in
theorem ACall.lend {f : FuncId} {args : List V} {k : Key} {rs : List (List (List D))} {r : V} (hk : getO S k = some (.xf rs)) (hr : Stay r) (h : PCall P f (args.map (lendV k rs)) r) : ACall P f args S (fun r' S' => r' = r ∧ S' = S) := by
  refine ⟨(h S).1, fun w σ β vs hS hargs => ?_⟩
  obtain ⟨hh, hb, hobj⟩ := hS.obj k _ hk
  obtain ⟨hX1, hX2, hX3, hX4⟩ := hobj
  let siz : Nat → Nat := fun b => match w.heap[b]? with
    | some (.cells c _ _) => c.size
    | _ => 0
  have hsiz : ∀ b c t fz, w.heap[b]? = some (.cells c t fz) → siz b = c.size := fun b c t fz e => by simp [siz, e]
  have hXlt : ∀ b, XOwns hh b → b < w.heap.size := fun b hb' => blk_some (o := .xf rs) (S := S) (β := β) ⟨hX1, hX2, hX3, hX4⟩ hb'
  let σ1 : Nat → Nat := fun b => if XOwns hh b then siz b else σ b
  have hn1 : Near w σ w σ1 := fun b c t fz e => by
    refine ⟨?_, fun hlt => ?_, c, e, rfl, fun _ _ => rfl⟩
    · show σ b ≤ if XOwns hh b then siz b else σ b
      split
      · rename_i hx; rw [hX3 b hx]; exact Nat.zero_le _
      · exact Nat.le_refl _
    · show (if XOwns hh b then siz b else σ b) = σ b
      rw [if_neg fun hx => by have := hX3 b hx; omega]
  have hS1 : RepS w σ1 [] [] := by
    refine repS_empty (fun b => ?_) (hS.glob.near hn1)
    by_cases hx : XOwns hh b
    · exact .inl (hXlt b hx)
    · rcases hS.live b with h' | h'
      · exact .inl h'
      · right; show (if XOwns hh b then siz b else σ b) = 0; rw [if_neg hx]; exact h'
  have hlc : ∀ c v, RepC w σ S β c v → RepC w σ1 [] [] (lendC k rs c) v := by
    intro c v hc
    unfold lendC
    split
    · rename_i k' r'
      split
      · rename_i e
        subst e
        split
        · rename_i es hes
          obtain ⟨o, ho, h2⟩ := hc
          rw [hk] at ho; cases ho
          obtain ⟨h', e1, e2⟩ := h2 rs rfl
          rw [hb] at e1; cases e1
          obtain ⟨T, q1, q2⟩ := hX1 r' es hes
          unfold hdrAt at e2
          rw [q1] at e2
          refine q2.data e2 fun b c t fz ho hb' => ?_
          show c.size ≤ if XOwns hh b then siz b else σ b
          rw [if_pos ⟨r', T, q1, ho⟩, hsiz b c t fz hb']
          exact Nat.le_refl _
        · trivial
      · trivial
    · exact RepD.mono hn1 hc
    · trivial
  have hargs1 : RepVs w σ1 [] [] (args.map (lendV k rs)) vs := by
    refine ⟨by rw [List.length_map]; exact hargs.1, fun j x hx => ?_⟩
    rw [List.getElem?_map] at hx
    cases ha : args[j]? with
    | none => rw [ha] at hx; cases hx
    | some y =>
      rw [ha] at hx; cases hx
      obtain ⟨v, h1, h2⟩ := hargs.2 j y ha
      refine ⟨v, h1, ?_⟩
      cases y with
      | c x => exact ⟨hlc x v h2.1, h2.2⟩
      | agg cs =>
        obtain ⟨a, e, hl, hc⟩ := h2
        refine ⟨a, e, by rw [List.length_map]; exact hl, fun i x hx => ?_⟩
        rw [List.getElem?_map] at hx
        cases hi : cs[i]? with
        | none => rw [hi] at hx; cases hx
        | some y =>
          rw [hi] at hx; cases hx
          obtain ⟨u, q1, q2, q3⟩ := hc i y hi
          exact ⟨u, q1, hlc y u q2, q3⟩
      | _ => trivial
  refine ((h []).2 w σ1 [] vs hS1 hargs1).mono fun e w' ⟨v, r', S', σ', β', he, hS', hk', hst, hv, hr', hS2⟩ => ?_
  subst hr'; subst hS2
  let σ2 : Nat → Nat := fun b => if XOwns hh b then 0 else σ' b
  have hg : Grow w σ w' σ2 := ⟨hst.size, hst.os, hst.output, fun b hlt => by
    obtain ⟨h1, h2⟩ := hst.far b hlt no_own0
    refine ⟨h1, ?_⟩
    show (if XOwns hh b then 0 else σ' b) = σ b
    by_cases hx : XOwns hh b
    · rw [if_pos hx, hX3 b hx]
    · rw [if_neg hx, h2]
      exact if_neg hx, fun b => by
    rcases hS'.live b with h' | h'
    · exact .inl h'
    · right; show (if XOwns hh b then 0 else σ' b) = 0; rw [h']; split <;> rfl⟩
  refine ⟨v, _, _, σ2, β, he, hS.grow hg, Keep.refl _ _, Step.of_grow hg, ?_, rfl, rfl⟩
  refine hr w' σ' σ2 _ _ _ _ v (fun b c t fz e hlt => ?_) hv
  by_cases hx : XOwns hh b
  · obtain ⟨h1, h2⟩ := hst.far b (hXlt b hx) no_own0
    rw [h1] at e
    have : σ1 b = siz b := if_pos hx
    rw [h2, this, hsiz b c t fz e] at hlt
    omega
  · exact if_neg hx
end
end Go.Ab

namespace Go.Ab
section
variable {P : Program} {w w' : World} {σ σ' : Nat → Nat} {S : Store} {β : Hs}
open Classical in
theorem lend_world {args : List V} {k : Key} {rs : List (List (List D))} (hk : getO S k = some (.xf rs)) {vs : List Value} (hS : RepS w σ S β) (hargs : RepVs w σ S β args vs) :
    ∃ (σ1 : Nat → Nat) (X : Nat → Prop), (∀ b, ¬ X b → σ1 b = σ b) ∧ (∀ b, X b → σ b = 0 ∧ b < w.heap.size) ∧ (∀ b c t fz, X b → w.heap[b]? = some (.cells c t fz) → σ1 b ≤ c.size) ∧ RepS w σ1 [] [] ∧ RepVs w σ1 [] [] (args.map (lendV k rs)) vs := by
  obtain ⟨hh, hb, hobj⟩ := hS.obj k _ hk
  obtain ⟨hX1, hX2, hX3, hX4⟩ := hobj
  let siz : Nat → Nat := fun b => match w.heap[b]? with
    | some (.cells c _ _) => c.size
    | _ => 0
  have hsiz : ∀ b c t fz, w.heap[b]? = some (.cells c t fz) → siz b = c.size := fun b c t fz e => by simp [siz, e]
  have hXlt : ∀ b, XOwns hh b → b < w.heap.size := fun b hb' => blk_some (o := .xf rs) (S := S) (β := β) ⟨hX1, hX2, hX3, hX4⟩ hb'
  let σ1 : Nat → Nat := fun b => if XOwns hh b then siz b else σ b
  have hn1 : Near w σ w σ1 := fun b c t fz e => by
    refine ⟨?_, fun hlt => ?_, c, e, rfl, fun _ _ => rfl⟩
    · show σ b ≤ if XOwns hh b then siz b else σ b
      split
      · rename_i hx; rw [hX3 b hx]; exact Nat.zero_le _
      · exact Nat.le_refl _
    · show (if XOwns hh b then siz b else σ b) = σ b
      rw [if_neg fun hx => by have := hX3 b hx; omega]
  have hS1 : RepS w σ1 [] [] := by
    refine repS_empty (fun b => ?_) (hS.glob.near hn1)
    by_cases hx : XOwns hh b
    · exact .inl (hXlt b hx)
    · rcases hS.live b with h' | h'
      · exact .inl h'
      · right; show (if XOwns hh b then siz b else σ b) = 0; rw [if_neg hx]; exact h'
  have hlc : ∀ c v, RepC w σ S β c v → RepC w σ1 [] [] (lendC k rs c) v := by
    intro c v hc
    unfold lendC
    split
    · rename_i k' r'
      split
      · rename_i e
        subst e
        split
        · rename_i es hes
          obtain ⟨o, ho, h2⟩ := hc
          rw [hk] at ho; cases ho
          obtain ⟨h', e1, e2⟩ := h2 rs rfl
          rw [hb] at e1; cases e1
          obtain ⟨T, q1, q2⟩ := hX1 r' es hes
          unfold hdrAt at e2
          rw [q1] at e2
          refine q2.data e2 fun b c t fz ho hb' => ?_
          show c.size ≤ if XOwns hh b then siz b else σ b
          rw [if_pos ⟨r', T, q1, ho⟩, hsiz b c t fz hb']
          exact Nat.le_refl _
        · trivial
      · trivial
    · exact RepD.mono hn1 hc
    · trivial
  have hargs1 : RepVs w σ1 [] [] (args.map (lendV k rs)) vs := by
    refine ⟨by rw [List.length_map]; exact hargs.1, fun j x hx => ?_⟩
    rw [List.getElem?_map] at hx
    cases ha : args[j]? with
    | none => rw [ha] at hx; cases hx
    | some y =>
      rw [ha] at hx; cases hx
      obtain ⟨v, h1, h2⟩ := hargs.2 j y ha
      refine ⟨v, h1, ?_⟩
      cases y with
      | c x => exact ⟨hlc x v h2.1, h2.2⟩
      | agg cs =>
        obtain ⟨a, e, hl, hc⟩ := h2
        refine ⟨a, e, by rw [List.length_map]; exact hl, fun i x hx => ?_⟩
        rw [List.getElem?_map] at hx
        cases hi : cs[i]? with
        | none => rw [hi] at hx; cases hx
        | some y =>
          rw [hi] at hx; cases hx
          obtain ⟨u, q1, q2, q3⟩ := hc i y hi
          exact ⟨u, q1, hlc y u q2, q3⟩
      | _ => trivial
  exact ⟨σ1, fun b => XOwns hh b, fun b hx => if_neg hx, fun b hx => ⟨hX3 b hx, hXlt b hx⟩, fun b c t fz hx e => by
    show (if XOwns hh b then siz b else σ b) ≤ c.size
    rw [if_pos hx, hsiz b c t fz e]
    exact Nat.le_refl _, hS1, hargs1⟩
open Classical in
theorem ACall.ownL {f : FuncId} {args : List V} {own0 : List Obj} {Ω : Store} {mk : List C → V} {r : List D} {k : Key} {rs : List (List (List D))} (hk : getO (own0 :: Ω) k = some (.xf rs)) (hm : Holder mk r.length) (hp : plR r = true)
    (h : ∀ n, PCall P f (args.map (lendV k rs)) (mk ((labR r n).map .d))) :
    ACall P f args (own0 :: Ω) (fun r' S' => r' = mk (rowX (0, own0.length) 0 r) ∧ S' = (own0 ++ [.xf (r.map rootD)]) :: Ω) := by
  refine ⟨(h 0 []).1, fun w σ β vs hS hargs => ?_⟩
  obtain ⟨σ1, X, hl1, hl2, hl3, hS1, hargs1⟩ := lend_world hk hS hargs
  obtain ⟨n, hn⟩ := bound_of σ1 w.heap.size
  refine ((h n []).2 w σ1 [] vs hS1 hargs1).mono fun e w' ⟨v, r', S', σ', β', he, hS', hk, hst, hv, hr', hS2⟩ => ?_
  subst hr'; subst hS2
  obtain ⟨us0, hcs, hback⟩ := hm w' σ' _ β' _ v (by rw [List.length_map, labR_length]) hv
  have hus0 : us0.length = r.length := by rw [← hcs.1, List.length_map, labR_length]
  obtain ⟨us, hus⟩ := lab_R r n (fun j => us0.getD j undef) hp (fun j d hd => by
    obtain ⟨u, h1, h2, _⟩ := hcs.2 j (.d d) (by rw [List.getElem?_map, hd]; rfl)
    simp only [List.getD_eq_getElem?_getD, h1, Option.getD_some]
    exact h2)
  let h0 : Value := .tuple (us.map fun u => u.getD emptyT).toArray
  have hroot : ∀ j, rootAt h0 j = (us[j]?).map fun u => u.getD emptyT := fun j => by simp [h0, rootAt]
  have hfresh : ∀ b, XOwns h0 b → w.heap.size ≤ b := by
    rintro b ⟨j, T, h1, h2⟩
    rw [hroot] at h1
    cases hu : us[j]? with
    | none => rw [hu] at h1; cases h1
    | some u =>
      rw [hu] at h1
      simp only [Option.map_some, Option.some.injEq] at h1
      cases u with
      | none => subst h1; exact absurd h2 owns_empty
      | some u =>
        simp at h1; subst h1
        obtain ⟨c, t, fz, m, a1, a2, a3, a4⟩ := hus.own j u hu b h2
        refine Nat.le_of_not_lt fun hlt => ?_
        have h1 := (hst.far b hlt no_own0).2
        have h2 := hn b hlt
        omega
  let σ2 : Nat → Nat := fun b => if XOwns h0 b then 0 else if X b then 0 else σ' b
  have hg : Grow w σ w' σ2 := ⟨hst.size, hst.os, hst.output, fun b hb => by
    obtain ⟨h1, h2⟩ := hst.far b hb no_own0
    refine ⟨h1, (if_neg fun hx => by have := hfresh b hx; omega).trans ?_⟩
    by_cases hx : X b
    · rw [if_pos hx, (hl2 b hx).1]
    · rw [if_neg hx, h2, hl1 b hx], fun b => by
    rcases hS'.live b with hb | hb
    · exact .inl hb
    · right; show (if XOwns h0 b then 0 else if X b then 0 else σ' b) = 0; rw [hb]; split <;> first | rfl | (split <;> rfl)⟩
  cases β with
  | nil => have := hS.shape.1; simp at this
  | cons bo bΩ =>
  have hlen : bo.length = own0.length := by
    obtain ⟨gr, g1, g2⟩ := hS.shape.2 0 own0 rfl
    simp at g1; rw [g1]; exact g2
  obtain ⟨hS3, hk3, hst3⟩ := hS.push (o := .xf (r.map rootD)) (h := h0) hg hlen (by
    refine ⟨fun j es hj => ?_, fun j T hT => ?_, fun b hb => if_pos hb, fun j j' T T' x hjj hT hT' hx hx' => ?_⟩
    · rw [List.getElem?_map] at hj
      cases hd : r[j]? with
      | none => rw [hd] at hj; cases hj
      | some d =>
        rw [hd] at hj
        simp only [Option.map_some, Option.some.injEq] at hj
        subst hj
        obtain ⟨u, h1, h2⟩ := hus.cell j d hd
        rw [hroot, h1]
        have hsc : (∀ es, d ≠ .sl es) → ∃ T, Option.map (fun u => Option.getD u emptyT) (some u) = some T ∧ ExT w' (rootD d) T := fun hne => by
          have hu : u = none := by cases d <;> first | exact absurd rfl (hne _) | exact h2.1
          have hr0 : rootD d = [] := by cases d <;> first | exact absurd rfl (hne _) | rfl
          subst hu
          rw [hr0]
          exact ⟨emptyT, rfl, .nil none 0 _ rfl kid_empty⟩
        cases d with
        | sl es => obtain ⟨T, rfl, _, _, h6⟩ := h2; exact ⟨T, rfl, h6⟩
        | _ => exact hsc (fun es e => by cases e)
    · rw [List.length_map]
      rw [hroot] at hT
      cases hu : us[j]? with
      | none => rw [hu] at hT; cases hT
      | some u => rw [← hus.len]; exact (List.getElem?_eq_some_iff.1 hu).1
    · rw [hroot] at hT hT'
      cases hu : us[j]? with
      | none => rw [hu] at hT; cases hT
      | some u =>
        cases hu' : us[j']? with
        | none => rw [hu'] at hT'; cases hT'
        | some u' =>
          rw [hu] at hT; rw [hu'] at hT'
          simp only [Option.map_some, Option.some.injEq] at hT hT'
          cases u with
          | none => subst hT; exact owns_empty hx
          | some u =>
            cases u' with
            | none => subst hT'; exact owns_empty hx'
            | some u' => simp at hT hT'; subst hT; subst hT'; exact hus.apart j j' u u' x hjj hu hu' hx hx') (fun b hb => hfresh b hb)
  refine ⟨v, _, _, σ2, (bo ++ [h0]) :: bΩ, he, hS3, hk3, hst3, ?_, rfl, rfl⟩
  refine hback _ _ _ _ _ (by rw [rowX_length]) ⟨by rw [rowX_length, hus0], fun j x hx => ?_⟩
  rw [rowX_at, Nat.zero_add] at hx
  cases hd : r[j]? with
  | none => rw [hd] at hx; cases hx
  | some d =>
    rw [hd] at hx
    simp only [Option.map_some, Option.some.injEq] at hx
    obtain ⟨u, h1, h2⟩ := hus.cell j d hd
    have hjl : j < (labR r n).length := by rw [labR_length]; exact (List.getElem?_eq_some_iff.1 hd).1
    obtain ⟨v0, h3, _, h4⟩ := hcs.2 j (.d (labR r n)[j]) (by rw [List.getElem?_map, List.getElem?_eq_getElem hjl]; rfl)
    have hv0 : us0.getD j undef = v0 := by rw [List.getD_eq_getElem?_getD, h3]; rfl
    simp only [hv0] at h2
    refine ⟨v0, h3, ?_, h4⟩
    have hsc : (∀ es, d ≠ .sl es) → RepC w' σ2 ((own0 ++ [.xf (r.map rootD)]) :: Ω) ((bo ++ [h0]) :: bΩ) (.d d) v0 := fun hne => by
      have : SD d v0 := by cases d <;> first | exact absurd rfl (hne _) | exact h2.2
      exact rep_SD this
    cases d with
    | sl es =>
      subst hx
      obtain ⟨T, rfl, _, h5, _⟩ := h2
      refine ⟨_, getO_push_new _ _ _, fun rs _ => ⟨h0, by rw [← hlen, getO_push_new], ?_⟩⟩
      unfold hdrAt
      rw [hroot, h1]
      exact h5
    | _ => subst hx; exact hsc (fun es e => by cases e)
theorem atP_updP : ∀ {p : List (Nat × Nat)} {es old new : List (List D)}, atP es p = some old → atP (updP es p new) p = some new
  | [], _, _, _, _ => rfl
  | (i, o) :: p, es, old, new, h => by
    rw [atP] at h
    rw [updP]
    cases hc : cellAt es i o with
    | none => rw [hc] at h; cases h
    | some d =>
      rw [hc] at h
      cases d with
      | sl es' =>
        simp only at h ⊢
        have hi : i < es.length ∧ o < (es.getD i []).length := by
          unfold cellAt at hc
          cases he : es[i]? with
          | none => rw [he] at hc; cases hc
          | some r =>
            rw [he] at hc
            refine ⟨(List.getElem?_eq_some_iff.1 he).1, ?_⟩
            rw [List.getD_eq_getElem?_getD, he]
            exact (List.getElem?_eq_some_iff.1 hc).1
        have h2 : cellAt (es.set i ((es.getD i []).set o (.sl (updP es' p new)))) i o = some (.sl (updP es' p new)) := by
          unfold cellAt
          rw [List.getElem?_set_self hi.1, Option.bind_some, List.getElem?_set_self hi.2]
        rw [atP, h2]
        exact atP_updP h
      | _ => cases h
theorem updP_at {es es' new : List (List D)} {i o : Nat} {p : List (Nat × Nat)} (h : cellAt es i o = some (.sl es')) : updP es ((i, o) :: p) new = es.set i ((es.getD i []).set o (.sl (updP es' p new))) := by
  rw [updP, h]
theorem updP_updP : ∀ {p : List (Nat × Nat)} {es old a b : List (List D)}, atP es p = some old → updP (updP es p a) p b = updP es p b
  | [], _, _, _, _, _ => rfl
  | (i, o) :: p, es, old, a, b, h => by
    rw [atP] at h
    cases hc : cellAt es i o with
    | none => rw [hc] at h; cases h
    | some d =>
      rw [hc] at h
      cases d with
      | sl es' =>
        simp only at h ⊢
        have hi : i < es.length ∧ o < (es.getD i []).length := by
          unfold cellAt at hc
          cases he : es[i]? with
          | none => rw [he] at hc; cases hc
          | some r =>
            rw [he] at hc
            refine ⟨(List.getElem?_eq_some_iff.1 he).1, ?_⟩
            rw [List.getD_eq_getElem?_getD, he]
            exact (List.getElem?_eq_some_iff.1 hc).1
        have h2 : cellAt (es.set i ((es.getD i []).set o (.sl (updP es' p a)))) i o = some (.sl (updP es' p a)) := by
          unfold cellAt
          rw [List.getElem?_set_self hi.1, Option.bind_some, List.getElem?_set_self hi.2]
        rw [updP_at hc, updP_at hc, updP_at h2, updP_updP h, List.set_set]
        congr 1
        rw [List.getD_eq_getElem?_getD, List.getElem?_set_self hi.1, Option.getD_some, List.set_set]
      | _ => cases h
theorem atP_snoc : ∀ {p : List (Nat × Nat)} {es old es' : List (List D)} {i o : Nat}, atP es p = some old → cellAt old i o = some (.sl es') → atP es (p ++ [(i, o)]) = some es'
  | [], es, old, es', i, o, h, hc => by cases h; rw [List.nil_append, atP, hc]; rfl
  | (i', o') :: p, es, old, es', i, o, h, hc => by
    rw [List.cons_append, atP]
    rw [atP] at h
    cases hd : cellAt es i' o' with
    | none => rw [hd] at h; cases h
    | some d =>
      rw [hd] at h
      cases d with
      | sl e => exact atP_snoc h hc
      | _ => cases h
theorem updP_snoc : ∀ {p : List (Nat × Nat)} {es old es' new : List (List D)} {i o : Nat}, atP es p = some old → cellAt old i o = some (.sl es') → updP es (p ++ [(i, o)]) new = updP es p (old.set i ((old.getD i []).set o (.sl new)))
  | [], es, old, es', new, i, o, h, hc => by cases h; rw [List.nil_append, updP_at hc]; rfl
  | (i', o') :: p, es, old, es', new, i, o, h, hc => by
    rw [List.cons_append]
    rw [atP] at h
    cases hd : cellAt es i' o' with
    | none => rw [hd] at h; cases h
    | some d =>
      rw [hd] at h
      cases d with
      | sl e => simp only at h; rw [updP_at hd, updP_at hd, updP_snoc h hc]
      | _ => cases h
theorem atR_lt {rs : List (List (List D))} {r : Nat} {p : List (Nat × Nat)} {old : List (List D)} (h : atR rs r p = some old) : ∃ hr : r < rs.length, atP rs[r] p = some old := by
  unfold atR at h
  cases hr : rs[r]? with
  | none => rw [hr] at h; cases h
  | some es =>
    rw [hr] at h
    obtain ⟨h1, h2⟩ := List.getElem?_eq_some_iff.1 hr
    exact ⟨h1, by rw [h2]; exact h⟩
theorem atR_updR {rs : List (List (List D))} {r : Nat} {p : List (Nat × Nat)} {old new : List (List D)} (h : atR rs r p = some old) : atR (updR rs r p new) r p = some new := by
  obtain ⟨hr, h⟩ := atR_lt h
  unfold atR updR
  rw [List.getElem?_set_self hr, Option.bind_some, List.getD_eq_getElem?_getD, List.getElem?_eq_getElem hr, Option.getD_some]
  exact atP_updP h
theorem updR_updR {rs : List (List (List D))} {r : Nat} {p : List (Nat × Nat)} {old a b : List (List D)} (h : atR rs r p = some old) : updR (updR rs r p a) r p b = updR rs r p b := by
  obtain ⟨hr, h⟩ := atR_lt h
  unfold updR
  rw [List.set_set, List.getD_eq_getElem?_getD, List.getElem?_set_self hr, List.getD_eq_getElem?_getD, List.getElem?_eq_getElem hr, Option.getD_some, Option.getD_some, updP_updP h]
theorem updP_same : ∀ {p : List (Nat × Nat)} {es old : List (List D)}, atP es p = some old → updP es p old = es
  | [], _, _, h => by cases h; rfl
  | (i, o) :: p, es, old, h => by
    rw [atP] at h
    cases hc : cellAt es i o with
    | none => rw [hc] at h; cases h
    | some d =>
      rw [hc] at h
      cases d with
      | sl es' =>
        simp only at h
        rw [updP_at hc, updP_same h]
        unfold cellAt at hc
        cases he : es[i]? with
        | none => rw [he] at hc; cases hc
        | some r =>
          rw [he] at hc
          obtain ⟨h1, h2⟩ := List.getElem?_eq_some_iff.1 he
          obtain ⟨h3, h4⟩ := List.getElem?_eq_some_iff.1 hc
          rw [List.getD_eq_getElem?_getD, he, Option.getD_some, ← h4, List.set_getElem_self, ← h2, List.set_getElem_self]
      | _ => cases h
theorem updR_same {rs : List (List (List D))} {r : Nat} {p : List (Nat × Nat)} {old : List (List D)} (h : atR rs r p = some old) : updR rs r p old = rs := by
  obtain ⟨hr, h⟩ := atR_lt h
  unfold updR
  rw [List.getD_eq_getElem?_getD, List.getElem?_eq_getElem hr, Option.getD_some, updP_same h, List.set_getElem_self]
theorem atR_snoc {rs : List (List (List D))} {r i o : Nat} {p : List (Nat × Nat)} {old es' : List (List D)} (h : atR rs r p = some old) (hc : cellAt old i o = some (.sl es')) : atR rs r (p ++ [(i, o)]) = some es' := by
  obtain ⟨hr, h⟩ := atR_lt h
  unfold atR
  rw [List.getElem?_eq_getElem hr, Option.bind_some]
  exact atP_snoc h hc
theorem updR_snoc {rs : List (List (List D))} {r i o : Nat} {p : List (Nat × Nat)} {old es' new : List (List D)} (h : atR rs r p = some old) (hc : cellAt old i o = some (.sl es')) :
    updR rs r (p ++ [(i, o)]) new = updR rs r p (old.set i ((old.getD i []).set o (.sl new))) := by
  obtain ⟨hr, h⟩ := atR_lt h
  unfold updR
  rw [List.getD_eq_getElem?_getD, List.getElem?_eq_getElem hr, Option.getD_some, updP_snoc h hc]
theorem atR_ne {rs : List (List (List D))} {r r' : Nat} {p p' : List (Nat × Nat)} {new : List (List D)} (h : r ≠ r') : atR (updR rs r p new) r' p' = atR rs r' p' := by
  unfold atR updR
  rw [List.getElem?_set_ne h]
end
end Go.Ab

namespace Go.Proofs.YtlmhknhlmicmeaaGreatDoor.Fa
open Go Go.Ab
theorem ty1 : Tryz.prog.cellsOf 1 = 1 ∧ Tryz.prog.bytesOf 1 = 8 ∧ (Tryz.prog.info? 1).isSome = true ∧ zeroCs Tryz.prog 1 = some [.d (.o .nilFunc)] := ⟨by kernel_rfl, by kernel_rfl, by kernel_rfl, by kernel_rfl⟩
theorem ty2 : Tryz.prog.cellsOf 2 = 1 ∧ Tryz.prog.bytesOf 2 = 8 ∧ (Tryz.prog.info? 2).isSome = true ∧ zeroCs Tryz.prog 2 = some [.d (.i .i64 0)] := ⟨by kernel_rfl, by kernel_rfl, by kernel_rfl, by kernel_rfl⟩
theorem ty3 : Tryz.prog.cellsOf 3 = 1 ∧ Tryz.prog.bytesOf 3 = 8 ∧ (Tryz.prog.info? 3).isSome = true ∧ zeroCs Tryz.prog 3 = some [.d (.i .i64 0)] := ⟨by kernel_rfl, by kernel_rfl, by kernel_rfl, by kernel_rfl⟩
theorem ty4 : Tryz.prog.cellsOf 4 = 1 ∧ Tryz.prog.bytesOf 4 = 1 ∧ (Tryz.prog.info? 4).isSome = true ∧ zeroCs Tryz.prog 4 = some [.d (.b false)] := ⟨by kernel_rfl, by kernel_rfl, by kernel_rfl, by kernel_rfl⟩
theorem zval4 : zeroV Tryz.prog 4 = some (.bool false) := by kernel_rfl
theorem ty5 : Tryz.prog.cellsOf 5 = 1 ∧ Tryz.prog.bytesOf 5 = 1 ∧ (Tryz.prog.info? 5).isSome = true ∧ zeroCs Tryz.prog 5 = some [.d (.i .u8 0)] := ⟨by kernel_rfl, by kernel_rfl, by kernel_rfl, by kernel_rfl⟩
theorem ty9 : Tryz.prog.cellsOf 9 = 1 ∧ Tryz.prog.bytesOf 9 = 16 ∧ (Tryz.prog.info? 9).isSome = true ∧ zeroCs Tryz.prog 9 = some [.d (.s [])] := ⟨by kernel_rfl, by kernel_rfl, by kernel_rfl, by kernel_rfl⟩
theorem ty12 : Tryz.prog.cellsOf 12 = 1 ∧ Tryz.prog.bytesOf 12 = 8 ∧ (Tryz.prog.info? 12).isSome = true ∧ zeroCs Tryz.prog 12 = some [.d (.i .u64 0)] := ⟨by kernel_rfl, by kernel_rfl, by kernel_rfl, by kernel_rfl⟩
theorem ty20 : Tryz.prog.cellsOf 20 = 1 ∧ Tryz.prog.bytesOf 20 = 16 ∧ (Tryz.prog.info? 20).isSome = true ∧ zeroCs Tryz.prog 20 = some [.d (.o .nilIface)] := ⟨by kernel_rfl, by kernel_rfl, by kernel_rfl, by kernel_rfl⟩
theorem ty21 : Tryz.prog.cellsOf 21 = 1 ∧ Tryz.prog.bytesOf 21 = 4 ∧ (Tryz.prog.info? 21).isSome = true ∧ zeroCs Tryz.prog 21 = some [.d (.i .i32 0)] := ⟨by kernel_rfl, by kernel_rfl, by kernel_rfl, by kernel_rfl⟩
theorem ty22 : Tryz.prog.cellsOf 22 = 1 ∧ Tryz.prog.bytesOf 22 = 24 ∧ (Tryz.prog.info? 22).isSome = true ∧ zeroCs Tryz.prog 22 = some [.fsl []] := ⟨by kernel_rfl, by kernel_rfl, by kernel_rfl, by kernel_rfl⟩
theorem ty23 : Tryz.prog.cellsOf 23 = 1 ∧ Tryz.prog.bytesOf 23 = 24 ∧ (Tryz.prog.info? 23).isSome = true ∧ zeroCs Tryz.prog 23 = some [.fsl []] := ⟨by kernel_rfl, by kernel_rfl, by kernel_rfl, by kernel_rfl⟩
theorem ty24 : Tryz.prog.cellsOf 24 = 1 ∧ Tryz.prog.bytesOf 24 = 24 ∧ (Tryz.prog.info? 24).isSome = true ∧ zeroCs Tryz.prog 24 = some [.fsl []] := ⟨by kernel_rfl, by kernel_rfl, by kernel_rfl, by kernel_rfl⟩
theorem ty25 : Tryz.prog.cellsOf 25 = 1 ∧ Tryz.prog.bytesOf 25 = 24 ∧ (Tryz.prog.info? 25).isSome = true ∧ zeroCs Tryz.prog 25 = some [.fsl []] := ⟨by kernel_rfl, by kernel_rfl, by kernel_rfl, by kernel_rfl⟩
theorem ty26 : Tryz.prog.cellsOf 26 = 1 ∧ Tryz.prog.bytesOf 26 = 24 ∧ (Tryz.prog.info? 26).isSome = true ∧ zeroCs Tryz.prog 26 = some [.fsl []] := ⟨by kernel_rfl, by kernel_rfl, by kernel_rfl, by kernel_rfl⟩
theorem ty27 : Tryz.prog.cellsOf 27 = 6 ∧ Tryz.prog.bytesOf 27 = 136 ∧ (Tryz.prog.info? 27).isSome = true ∧ zeroCs Tryz.prog 27 = some [.d (.s []), .fsl [], .fsl [], .fsl [], .fsl [], .fsl []] := ⟨by kernel_rfl, by kernel_rfl, by kernel_rfl, by kernel_rfl⟩
theorem ty28 : Tryz.prog.cellsOf 28 = 6 ∧ Tryz.prog.bytesOf 28 = 136 ∧ (Tryz.prog.info? 28).isSome = true ∧ zeroCs Tryz.prog 28 = some [.d (.s []), .fsl [], .fsl [], .fsl [], .fsl [], .fsl []] := ⟨by kernel_rfl, by kernel_rfl, by kernel_rfl, by kernel_rfl⟩
theorem ty29 : Tryz.prog.cellsOf 29 = 1 ∧ Tryz.prog.bytesOf 29 = 8 ∧ (Tryz.prog.info? 29).isSome = true ∧ zeroCs Tryz.prog 29 = some [.d (.o .nilFunc)] := ⟨by kernel_rfl, by kernel_rfl, by kernel_rfl, by kernel_rfl⟩
theorem ty30 : Tryz.prog.cellsOf 30 = 1 ∧ Tryz.prog.bytesOf 30 = 24 ∧ (Tryz.prog.info? 30).isSome = true ∧ zeroCs Tryz.prog 30 = some [.fsl []] := ⟨by kernel_rfl, by kernel_rfl, by kernel_rfl, by kernel_rfl⟩
theorem ty31 : Tryz.prog.cellsOf 31 = 2 ∧ Tryz.prog.bytesOf 31 = 40 ∧ (Tryz.prog.info? 31).isSome = true ∧ zeroCs Tryz.prog 31 = some [.d (.s []), .fsl []] := ⟨by kernel_rfl, by kernel_rfl, by kernel_rfl, by kernel_rfl⟩
theorem ty32 : Tryz.prog.cellsOf 32 = 2 ∧ Tryz.prog.bytesOf 32 = 40 ∧ (Tryz.prog.info? 32).isSome = true ∧ zeroCs Tryz.prog 32 = some [.d (.s []), .fsl []] := ⟨by kernel_rfl, by kernel_rfl, by kernel_rfl, by kernel_rfl⟩
theorem ty34 : Tryz.prog.cellsOf 34 = 1 ∧ Tryz.prog.bytesOf 34 = 24 ∧ (Tryz.prog.info? 34).isSome = true ∧ zeroCs Tryz.prog 34 = some [.fsl []] := ⟨by kernel_rfl, by kernel_rfl, by kernel_rfl, by kernel_rfl⟩
theorem ty35 : Tryz.prog.cellsOf 35 = 1 ∧ Tryz.prog.bytesOf 35 = 24 ∧ (Tryz.prog.info? 35).isSome = true ∧ zeroCs Tryz.prog 35 = some [.fsl []] := ⟨by kernel_rfl, by kernel_rfl, by kernel_rfl, by kernel_rfl⟩
theorem ty36 : Tryz.prog.cellsOf 36 = 1 ∧ Tryz.prog.bytesOf 36 = 24 ∧ (Tryz.prog.info? 36).isSome = true ∧ zeroCs Tryz.prog 36 = some [.fsl []] := ⟨by kernel_rfl, by kernel_rfl, by kernel_rfl, by kernel_rfl⟩
theorem ty37 : Tryz.prog.cellsOf 37 = 1 ∧ Tryz.prog.bytesOf 37 = 24 ∧ (Tryz.prog.info? 37).isSome = true ∧ zeroCs Tryz.prog 37 = some [.fsl []] := ⟨by kernel_rfl, by kernel_rfl, by kernel_rfl, by kernel_rfl⟩
theorem ty38 : Tryz.prog.cellsOf 38 = 6 ∧ Tryz.prog.bytesOf 38 = 136 ∧ (Tryz.prog.info? 38).isSome = true ∧ zeroCs Tryz.prog 38 = some [.d (.s []), .fsl [], .fsl [], .fsl [], .fsl [], .fsl []] := ⟨by kernel_rfl, by kernel_rfl, by kernel_rfl, by kernel_rfl⟩
theorem ty39 : Tryz.prog.cellsOf 39 = 6 ∧ Tryz.prog.bytesOf 39 = 136 ∧ (Tryz.prog.info? 39).isSome = true ∧ zeroCs Tryz.prog 39 = some [.d (.s []), .fsl [], .fsl [], .fsl [], .fsl [], .fsl []] := ⟨by kernel_rfl, by kernel_rfl, by kernel_rfl, by kernel_rfl⟩
theorem ty40 : Tryz.prog.cellsOf 40 = 1 ∧ Tryz.prog.bytesOf 40 = 8 ∧ (Tryz.prog.info? 40).isSome = true ∧ zeroCs Tryz.prog 40 = some [.d (.o .nilFunc)] := ⟨by kernel_rfl, by kernel_rfl, by kernel_rfl, by kernel_rfl⟩
theorem ty41 : Tryz.prog.cellsOf 41 = 1 ∧ Tryz.prog.bytesOf 41 = 8 ∧ (Tryz.prog.info? 41).isSome = true ∧ zeroCs Tryz.prog 41 = some [.d (.o .nilFunc)] := ⟨by kernel_rfl, by kernel_rfl, by kernel_rfl, by kernel_rfl⟩
theorem ty42 : Tryz.prog.cellsOf 42 = 1 ∧ Tryz.prog.bytesOf 42 = 8 ∧ (Tryz.prog.info? 42).isSome = true ∧ zeroCs Tryz.prog 42 = some [.d (.o .nilFunc)] := ⟨by kernel_rfl, by kernel_rfl, by kernel_rfl, by kernel_rfl⟩
theorem ty43 : Tryz.prog.cellsOf 43 = 1 ∧ Tryz.prog.bytesOf 43 = 8 ∧ (Tryz.prog.info? 43).isSome = true ∧ zeroCs Tryz.prog 43 = some [.d (.o .nilFunc)] := ⟨by kernel_rfl, by kernel_rfl, by kernel_rfl, by kernel_rfl⟩
theorem ty44 : Tryz.prog.cellsOf 44 = 1 ∧ Tryz.prog.bytesOf 44 = 8 ∧ (Tryz.prog.info? 44).isSome = true ∧ zeroCs Tryz.prog 44 = some [.d (.o .nilFunc)] := ⟨by kernel_rfl, by kernel_rfl, by kernel_rfl, by kernel_rfl⟩
theorem ty46 : Tryz.prog.cellsOf 46 = 1 ∧ Tryz.prog.bytesOf 46 = 24 ∧ (Tryz.prog.info? 46).isSome = true ∧ zeroCs Tryz.prog 46 = some [.fsl []] := ⟨by kernel_rfl, by kernel_rfl, by kernel_rfl, by kernel_rfl⟩
theorem ty47 : Tryz.prog.cellsOf 47 = 3 ∧ Tryz.prog.bytesOf 47 = 48 ∧ (Tryz.prog.info? 47).isSome = true ∧ zeroCs Tryz.prog 47 = some [.d (.i .i64 0), .d (.s []), .fsl []] := ⟨by kernel_rfl, by kernel_rfl, by kernel_rfl, by kernel_rfl⟩
theorem ty48 : Tryz.prog.cellsOf 48 = 3 ∧ Tryz.prog.bytesOf 48 = 48 ∧ (Tryz.prog.info? 48).isSome = true ∧ zeroCs Tryz.prog 48 = some [.d (.i .i64 0), .d (.s []), .fsl []] := ⟨by kernel_rfl, by kernel_rfl, by kernel_rfl, by kernel_rfl⟩
theorem ty49 : Tryz.prog.cellsOf 49 = 1 ∧ Tryz.prog.bytesOf 49 = 24 ∧ (Tryz.prog.info? 49).isSome = true ∧ zeroCs Tryz.prog 49 = some [.fsl []] := ⟨by kernel_rfl, by kernel_rfl, by kernel_rfl, by kernel_rfl⟩
theorem ty50 : Tryz.prog.cellsOf 50 = 1 ∧ Tryz.prog.bytesOf 50 = 24 ∧ (Tryz.prog.info? 50).isSome = true ∧ zeroCs Tryz.prog 50 = some [.fsl []] := ⟨by kernel_rfl, by kernel_rfl, by kernel_rfl, by kernel_rfl⟩
theorem ty51 : Tryz.prog.cellsOf 51 = 9 ∧ Tryz.prog.bytesOf 51 = 144 ∧ (Tryz.prog.info? 51).isSome = true ∧ zeroCs Tryz.prog 51 = some [.d (.i .i64 0), .d (.s []), .d (.s []), .d (.i .i64 0), .d (.i .i64 0), .d (.s []), .fsl [], .fsl [], .fsl []] := ⟨by kernel_rfl, by kernel_rfl, by kernel_rfl, by kernel_rfl⟩
theorem ty52 : Tryz.prog.cellsOf 52 = 9 ∧ Tryz.prog.bytesOf 52 = 144 ∧ (Tryz.prog.info? 52).isSome = true ∧ zeroCs Tryz.prog 52 = some [.d (.i .i64 0), .d (.s []), .d (.s []), .d (.i .i64 0), .d (.i .i64 0), .d (.s []), .fsl [], .fsl [], .fsl []] := ⟨by kernel_rfl, by kernel_rfl, by kernel_rfl, by kernel_rfl⟩
theorem ty53 : Tryz.prog.cellsOf 53 = 1 ∧ Tryz.prog.bytesOf 53 = 8 ∧ (Tryz.prog.info? 53).isSome = true ∧ zeroCs Tryz.prog 53 = some [.d (.o .nilFunc)] := ⟨by kernel_rfl, by kernel_rfl, by kernel_rfl, by kernel_rfl⟩
theorem ty54 : Tryz.prog.cellsOf 54 = 1 ∧ Tryz.prog.bytesOf 54 = 8 ∧ (Tryz.prog.info? 54).isSome = true ∧ zeroCs Tryz.prog 54 = some [.d (.o .nilFunc)] := ⟨by kernel_rfl, by kernel_rfl, by kernel_rfl, by kernel_rfl⟩
theorem ty55 : Tryz.prog.cellsOf 55 = 1 ∧ Tryz.prog.bytesOf 55 = 24 ∧ (Tryz.prog.info? 55).isSome = true ∧ zeroCs Tryz.prog 55 = some [.fsl []] := ⟨by kernel_rfl, by kernel_rfl, by kernel_rfl, by kernel_rfl⟩
theorem ty56 : Tryz.prog.cellsOf 56 = 3 ∧ Tryz.prog.bytesOf 56 = 48 ∧ (Tryz.prog.info? 56).isSome = true ∧ zeroCs Tryz.prog 56 = some [.d (.i .i64 0), .d (.s []), .fsl []] := ⟨by kernel_rfl, by kernel_rfl, by kernel_rfl, by kernel_rfl⟩
theorem ty57 : Tryz.prog.cellsOf 57 = 3 ∧ Tryz.prog.bytesOf 57 = 48 ∧ (Tryz.prog.info? 57).isSome = true ∧ zeroCs Tryz.prog 57 = some [.d (.i .i64 0), .d (.s []), .fsl []] := ⟨by kernel_rfl, by kernel_rfl, by kernel_rfl, by kernel_rfl⟩
theorem ty58 : Tryz.prog.cellsOf 58 = 1 ∧ Tryz.prog.bytesOf 58 = 24 ∧ (Tryz.prog.info? 58).isSome = true ∧ zeroCs Tryz.prog 58 = some [.fsl []] := ⟨by kernel_rfl, by kernel_rfl, by kernel_rfl, by kernel_rfl⟩
theorem ty59 : Tryz.prog.cellsOf 59 = 1 ∧ Tryz.prog.bytesOf 59 = 24 ∧ (Tryz.prog.info? 59).isSome = true ∧ zeroCs Tryz.prog 59 = some [.fsl []] := ⟨by kernel_rfl, by kernel_rfl, by kernel_rfl, by kernel_rfl⟩
theorem ty60 : Tryz.prog.cellsOf 60 = 9 ∧ Tryz.prog.bytesOf 60 = 144 ∧ (Tryz.prog.info? 60).isSome = true ∧ zeroCs Tryz.prog 60 = some [.d (.i .i64 0), .d (.s []), .d (.s []), .d (.i .i64 0), .d (.i .i64 0), .d (.s []), .fsl [], .fsl [], .fsl []] := ⟨by kernel_rfl, by kernel_rfl, by kernel_rfl, by kernel_rfl⟩
theorem ty61 : Tryz.prog.cellsOf 61 = 9 ∧ Tryz.prog.bytesOf 61 = 144 ∧ (Tryz.prog.info? 61).isSome = true ∧ zeroCs Tryz.prog 61 = some [.d (.i .i64 0), .d (.s []), .d (.s []), .d (.i .i64 0), .d (.i .i64 0), .d (.s []), .fsl [], .fsl [], .fsl []] := ⟨by kernel_rfl, by kernel_rfl, by kernel_rfl, by kernel_rfl⟩
theorem ty63 : Tryz.prog.cellsOf 63 = 1 ∧ Tryz.prog.bytesOf 63 = 8 ∧ (Tryz.prog.info? 63).isSome = true ∧ zeroCs Tryz.prog 63 = some [.d (.o .nilFunc)] := ⟨by kernel_rfl, by kernel_rfl, by kernel_rfl, by kernel_rfl⟩
theorem ty64 : Tryz.prog.cellsOf 64 = 1 ∧ Tryz.prog.bytesOf 64 = 8 ∧ (Tryz.prog.info? 64).isSome = true ∧ zeroCs Tryz.prog 64 = some [.d (.o .nilFunc)] := ⟨by kernel_rfl, by kernel_rfl, by kernel_rfl, by kernel_rfl⟩
theorem ty65 : Tryz.prog.cellsOf 65 = 1 ∧ Tryz.prog.bytesOf 65 = 8 ∧ (Tryz.prog.info? 65).isSome = true ∧ zeroCs Tryz.prog 65 = some [.d (.o .nilFunc)] := ⟨by kernel_rfl, by kernel_rfl, by kernel_rfl, by kernel_rfl⟩
theorem ty66 : Tryz.prog.cellsOf 66 = 1 ∧ Tryz.prog.bytesOf 66 = 24 ∧ (Tryz.prog.info? 66).isSome = true ∧ zeroCs Tryz.prog 66 = some [.fsl []] := ⟨by kernel_rfl, by kernel_rfl, by kernel_rfl, by kernel_rfl⟩
theorem ty67 : Tryz.prog.cellsOf 67 = 2 ∧ Tryz.prog.bytesOf 67 = 40 ∧ (Tryz.prog.info? 67).isSome = true ∧ zeroCs Tryz.prog 67 = some [.d (.s []), .fsl []] := ⟨by kernel_rfl, by kernel_rfl, by kernel_rfl, by kernel_rfl⟩
theorem ty68 : Tryz.prog.cellsOf 68 = 2 ∧ Tryz.prog.bytesOf 68 = 40 ∧ (Tryz.prog.info? 68).isSome = true ∧ zeroCs Tryz.prog 68 = some [.d (.s []), .fsl []] := ⟨by kernel_rfl, by kernel_rfl, by kernel_rfl, by kernel_rfl⟩
theorem ty69 : Tryz.prog.cellsOf 69 = 1 ∧ Tryz.prog.bytesOf 69 = 8 ∧ (Tryz.prog.info? 69).isSome = true ∧ zeroCs Tryz.prog 69 = some [.d (.o .nilFunc)] := ⟨by kernel_rfl, by kernel_rfl, by kernel_rfl, by kernel_rfl⟩
theorem ty71 : Tryz.prog.cellsOf 71 = 1 ∧ Tryz.prog.bytesOf 71 = 8 ∧ (Tryz.prog.info? 71).isSome = true ∧ zeroCs Tryz.prog 71 = some [.d (.o .nilFunc)] := ⟨by kernel_rfl, by kernel_rfl, by kernel_rfl, by kernel_rfl⟩
theorem ty75 : Tryz.prog.cellsOf 75 = 1 ∧ Tryz.prog.bytesOf 75 = 24 ∧ (Tryz.prog.info? 75).isSome = true ∧ zeroCs Tryz.prog 75 = some [.fsl []] := ⟨by kernel_rfl, by kernel_rfl, by kernel_rfl, by kernel_rfl⟩
theorem ty76 : Tryz.prog.cellsOf 76 = 1 ∧ Tryz.prog.bytesOf 76 = 24 ∧ (Tryz.prog.info? 76).isSome = true ∧ zeroCs Tryz.prog 76 = some [.fsl []] := ⟨by kernel_rfl, by kernel_rfl, by kernel_rfl, by kernel_rfl⟩
theorem ty77 : Tryz.prog.cellsOf 77 = 16 ∧ Tryz.prog.bytesOf 77 = 280 ∧ (Tryz.prog.info? 77).isSome = true ∧ zeroCs Tryz.prog 77 = some [.d (.s []), .fsl [], .fsl [], .fsl [], .d (.i .i64 0), .d (.s []), .fsl [], .d (.i .i64 0), .d (.s []), .d (.s []), .d (.i .i64 0), .d (.i .i64 0), .d (.s []), .fsl [], .fsl [], .fsl []] := ⟨by kernel_rfl, by kernel_rfl, by kernel_rfl, by kernel_rfl⟩
theorem ty78 : Tryz.prog.cellsOf 78 = 16 ∧ Tryz.prog.bytesOf 78 = 280 ∧ (Tryz.prog.info? 78).isSome = true ∧ zeroCs Tryz.prog 78 = some [.d (.s []), .fsl [], .fsl [], .fsl [], .d (.i .i64 0), .d (.s []), .fsl [], .d (.i .i64 0), .d (.s []), .d (.s []), .d (.i .i64 0), .d (.i .i64 0), .d (.s []), .fsl [], .fsl [], .fsl []] := ⟨by kernel_rfl, by kernel_rfl, by kernel_rfl, by kernel_rfl⟩
theorem ty80 : Tryz.prog.cellsOf 80 = 1 ∧ Tryz.prog.bytesOf 80 = 8 ∧ (Tryz.prog.info? 80).isSome = true ∧ zeroCs Tryz.prog 80 = some [.d (.o .nilFunc)] := ⟨by kernel_rfl, by kernel_rfl, by kernel_rfl, by kernel_rfl⟩
theorem ty81 : Tryz.prog.cellsOf 81 = 1 ∧ Tryz.prog.bytesOf 81 = 8 ∧ (Tryz.prog.info? 81).isSome = true ∧ zeroCs Tryz.prog 81 = some [.d (.o .nilFunc)] := ⟨by kernel_rfl, by kernel_rfl, by kernel_rfl, by kernel_rfl⟩
theorem ty82 : Tryz.prog.cellsOf 82 = 1 ∧ Tryz.prog.bytesOf 82 = 8 ∧ (Tryz.prog.info? 82).isSome = true ∧ zeroCs Tryz.prog 82 = some [.d (.o .nilFunc)] := ⟨by kernel_rfl, by kernel_rfl, by kernel_rfl, by kernel_rfl⟩
theorem ty83 : Tryz.prog.cellsOf 83 = 1 ∧ Tryz.prog.bytesOf 83 = 24 ∧ (Tryz.prog.info? 83).isSome = true ∧ zeroCs Tryz.prog 83 = some [.fsl []] := ⟨by kernel_rfl, by kernel_rfl, by kernel_rfl, by kernel_rfl⟩
theorem ty84 : Tryz.prog.cellsOf 84 = 5 ∧ Tryz.prog.bytesOf 84 = 72 ∧ (Tryz.prog.info? 84).isSome = true ∧ zeroCs Tryz.prog 84 = some [.d (.s []), .fsl [], .d (.b false), .d (.b false), .fsl []] := ⟨by kernel_rfl, by kernel_rfl, by kernel_rfl, by kernel_rfl⟩
theorem ty85 : Tryz.prog.cellsOf 85 = 5 ∧ Tryz.prog.bytesOf 85 = 72 ∧ (Tryz.prog.info? 85).isSome = true ∧ zeroCs Tryz.prog 85 = some [.d (.s []), .fsl [], .d (.b false), .d (.b false), .fsl []] := ⟨by kernel_rfl, by kernel_rfl, by kernel_rfl, by kernel_rfl⟩
theorem ty90 : Tryz.prog.cellsOf 90 = 1 ∧ Tryz.prog.bytesOf 90 = 24 ∧ (Tryz.prog.info? 90).isSome = true ∧ zeroCs Tryz.prog 90 = some [.fsl []] := ⟨by kernel_rfl, by kernel_rfl, by kernel_rfl, by kernel_rfl⟩
theorem ty91 : Tryz.prog.cellsOf 91 = 12 ∧ Tryz.prog.bytesOf 91 = 192 ∧ (Tryz.prog.info? 91).isSome = true ∧ zeroCs Tryz.prog 91 = some [.d (.s []), .fsl [], .d (.i .i64 0), .d (.s []), .fsl [], .fsl [], .d (.b false), .d (.b false), .d (.i .i64 0), .d (.s []), .fsl [], .fsl []] := ⟨by kernel_rfl, by kernel_rfl, by kernel_rfl, by kernel_rfl⟩
theorem ty92 : Tryz.prog.cellsOf 92 = 12 ∧ Tryz.prog.bytesOf 92 = 192 ∧ (Tryz.prog.info? 92).isSome = true ∧ zeroCs Tryz.prog 92 = some [.d (.s []), .fsl [], .d (.i .i64 0), .d (.s []), .fsl [], .fsl [], .d (.b false), .d (.b false), .d (.i .i64 0), .d (.s []), .fsl [], .fsl []] := ⟨by kernel_rfl, by kernel_rfl, by kernel_rfl, by kernel_rfl⟩
theorem ty95 : Tryz.prog.cellsOf 95 = 1 ∧ Tryz.prog.bytesOf 95 = 8 ∧ (Tryz.prog.info? 95).isSome = true ∧ zeroCs Tryz.prog 95 = some [.d (.o .nilFunc)] := ⟨by kernel_rfl, by kernel_rfl, by kernel_rfl, by kernel_rfl⟩
theorem ty96 : Tryz.prog.cellsOf 96 = 1 ∧ Tryz.prog.bytesOf 96 = 8 ∧ (Tryz.prog.info? 96).isSome = true ∧ zeroCs Tryz.prog 96 = some [.d (.o .nilFunc)] := ⟨by kernel_rfl, by kernel_rfl, by kernel_rfl, by kernel_rfl⟩
theorem ty97 : Tryz.prog.cellsOf 97 = 1 ∧ Tryz.prog.bytesOf 97 = 8 ∧ (Tryz.prog.info? 97).isSome = true ∧ zeroCs Tryz.prog 97 = some [.d (.o .nilFunc)] := ⟨by kernel_rfl, by kernel_rfl, by kernel_rfl, by kernel_rfl⟩
theorem ty108 : Tryz.prog.cellsOf 108 = 1 ∧ Tryz.prog.bytesOf 108 = 24 ∧ (Tryz.prog.info? 108).isSome = true ∧ zeroCs Tryz.prog 108 = some [.fsl []] := ⟨by kernel_rfl, by kernel_rfl, by kernel_rfl, by kernel_rfl⟩
theorem ty109 : Tryz.prog.cellsOf 109 = 3 ∧ Tryz.prog.bytesOf 109 = 64 ∧ (Tryz.prog.info? 109).isSome = true ∧ zeroCs Tryz.prog 109 = some [.d (.s []), .fsl [], .fsl []] := ⟨by kernel_rfl, by kernel_rfl, by kernel_rfl, by kernel_rfl⟩
theorem ty110 : Tryz.prog.cellsOf 110 = 3 ∧ Tryz.prog.bytesOf 110 = 64 ∧ (Tryz.prog.info? 110).isSome = true ∧ zeroCs Tryz.prog 110 = some [.d (.s []), .fsl [], .fsl []] := ⟨by kernel_rfl, by kernel_rfl, by kernel_rfl, by kernel_rfl⟩
theorem ty119 : Tryz.prog.cellsOf 119 = 1 ∧ Tryz.prog.bytesOf 119 = 8 ∧ (Tryz.prog.info? 119).isSome = true ∧ zeroCs Tryz.prog 119 = some [.d (.o .nilFunc)] := ⟨by kernel_rfl, by kernel_rfl, by kernel_rfl, by kernel_rfl⟩
theorem ty127 : Tryz.prog.cellsOf 127 = 1 ∧ Tryz.prog.bytesOf 127 = 8 ∧ (Tryz.prog.info? 127).isSome = true ∧ zeroCs Tryz.prog 127 = some [.d (.o .nilFunc)] := ⟨by kernel_rfl, by kernel_rfl, by kernel_rfl, by kernel_rfl⟩
theorem ty128 : Tryz.prog.cellsOf 128 = 1 ∧ Tryz.prog.bytesOf 128 = 8 ∧ (Tryz.prog.info? 128).isSome = true ∧ zeroCs Tryz.prog 128 = some [.d (.o .nilFunc)] := ⟨by kernel_rfl, by kernel_rfl, by kernel_rfl, by kernel_rfl⟩
theorem ty129 : Tryz.prog.cellsOf 129 = 1 ∧ Tryz.prog.bytesOf 129 = 8 ∧ (Tryz.prog.info? 129).isSome = true ∧ zeroCs Tryz.prog 129 = some [.d (.o .nilFunc)] := ⟨by kernel_rfl, by kernel_rfl, by kernel_rfl, by kernel_rfl⟩
theorem ty140 : Tryz.prog.cellsOf 140 = 1 ∧ Tryz.prog.bytesOf 140 = 8 ∧ (Tryz.prog.info? 140).isSome = true ∧ zeroCs Tryz.prog 140 = some [.d (.o .nilFunc)] := ⟨by kernel_rfl, by kernel_rfl, by kernel_rfl, by kernel_rfl⟩
theorem ty145 : Tryz.prog.cellsOf 145 = 1 ∧ Tryz.prog.bytesOf 145 = 8 ∧ (Tryz.prog.info? 145).isSome = true ∧ zeroCs Tryz.prog 145 = some [.d (.o .nilFunc)] := ⟨by kernel_rfl, by kernel_rfl, by kernel_rfl, by kernel_rfl⟩
theorem ty154 : Tryz.prog.cellsOf 154 = 4 ∧ Tryz.prog.bytesOf 154 = 64 ∧ (Tryz.prog.info? 154).isSome = true ∧ zeroCs Tryz.prog 154 = some [.d (.s []), .d (.i .i64 0), .d (.s []), .fsl []] := ⟨by kernel_rfl, by kernel_rfl, by kernel_rfl, by kernel_rfl⟩
theorem ty155 : Tryz.prog.cellsOf 155 = 4 ∧ Tryz.prog.bytesOf 155 = 64 ∧ (Tryz.prog.info? 155).isSome = true ∧ zeroCs Tryz.prog 155 = some [.d (.s []), .d (.i .i64 0), .d (.s []), .fsl []] := ⟨by kernel_rfl, by kernel_rfl, by kernel_rfl, by kernel_rfl⟩
theorem ty165 : Tryz.prog.cellsOf 165 = 16 ∧ Tryz.prog.bytesOf 165 = 264 ∧ (Tryz.prog.info? 165).isSome = true ∧ zeroCs Tryz.prog 165 = some [.d (.s []), .fsl [], .d (.i .i64 0), .d (.s []), .fsl [], .d (.b false), .fsl [], .d (.i .i64 0), .d (.s []), .d (.s []), .d (.i .i64 0), .d (.i .i64 0), .d (.s []), .fsl [], .fsl [], .fsl []] := ⟨by kernel_rfl, by kernel_rfl, by kernel_rfl, by kernel_rfl⟩
theorem ty166 : Tryz.prog.cellsOf 166 = 16 ∧ Tryz.prog.bytesOf 166 = 264 ∧ (Tryz.prog.info? 166).isSome = true ∧ zeroCs Tryz.prog 166 = some [.d (.s []), .fsl [], .d (.i .i64 0), .d (.s []), .fsl [], .d (.b false), .fsl [], .d (.i .i64 0), .d (.s []), .d (.s []), .d (.i .i64 0), .d (.i .i64 0), .d (.s []), .fsl [], .fsl [], .fsl []] := ⟨by kernel_rfl, by kernel_rfl, by kernel_rfl, by kernel_rfl⟩
theorem ty171 : Tryz.prog.cellsOf 171 = 11 ∧ Tryz.prog.bytesOf 171 = 184 ∧ (Tryz.prog.info? 171).isSome = true ∧ zeroCs Tryz.prog 171 = some [.d (.s []), .fsl [], .d (.i .i64 0), .d (.s []), .d (.s []), .d (.i .i64 0), .d (.i .i64 0), .d (.s []), .fsl [], .fsl [], .fsl []] := ⟨by kernel_rfl, by kernel_rfl, by kernel_rfl, by kernel_rfl⟩
theorem ty172 : Tryz.prog.cellsOf 172 = 11 ∧ Tryz.prog.bytesOf 172 = 184 ∧ (Tryz.prog.info? 172).isSome = true ∧ zeroCs Tryz.prog 172 = some [.d (.s []), .fsl [], .d (.i .i64 0), .d (.s []), .d (.s []), .d (.i .i64 0), .d (.i .i64 0), .d (.s []), .fsl [], .fsl [], .fsl []] := ⟨by kernel_rfl, by kernel_rfl, by kernel_rfl, by kernel_rfl⟩
theorem ty177 : Tryz.prog.cellsOf 177 = 1 ∧ Tryz.prog.bytesOf 177 = 24 ∧ (Tryz.prog.info? 177).isSome = true ∧ zeroCs Tryz.prog 177 = some [.fsl []] := ⟨by kernel_rfl, by kernel_rfl, by kernel_rfl, by kernel_rfl⟩
theorem ty178 : Tryz.prog.cellsOf 178 = 5 ∧ Tryz.prog.bytesOf 178 = 72 ∧ (Tryz.prog.info? 178).isSome = true ∧ zeroCs Tryz.prog 178 = some [.d (.s []), .fsl [], .d (.b false), .d (.b false), .fsl []] := ⟨by kernel_rfl, by kernel_rfl, by kernel_rfl, by kernel_rfl⟩
theorem ty179 : Tryz.prog.cellsOf 179 = 5 ∧ Tryz.prog.bytesOf 179 = 72 ∧ (Tryz.prog.info? 179).isSome = true ∧ zeroCs Tryz.prog 179 = some [.d (.s []), .fsl [], .d (.b false), .d (.b false), .fsl []] := ⟨by kernel_rfl, by kernel_rfl, by kernel_rfl, by kernel_rfl⟩
theorem ty181 : Tryz.prog.cellsOf 181 = 1 ∧ Tryz.prog.bytesOf 181 = 24 ∧ (Tryz.prog.info? 181).isSome = true ∧ zeroCs Tryz.prog 181 = some [.fsl []] := ⟨by kernel_rfl, by kernel_rfl, by kernel_rfl, by kernel_rfl⟩
theorem ty182 : Tryz.prog.cellsOf 182 = 3 ∧ Tryz.prog.bytesOf 182 = 64 ∧ (Tryz.prog.info? 182).isSome = true ∧ zeroCs Tryz.prog 182 = some [.d (.s []), .fsl [], .fsl []] := ⟨by kernel_rfl, by kernel_rfl, by kernel_rfl, by kernel_rfl⟩
theorem ty183 : Tryz.prog.cellsOf 183 = 3 ∧ Tryz.prog.bytesOf 183 = 64 ∧ (Tryz.prog.info? 183).isSome = true ∧ zeroCs Tryz.prog 183 = some [.d (.s []), .fsl [], .fsl []] := ⟨by kernel_rfl, by kernel_rfl, by kernel_rfl, by kernel_rfl⟩
theorem ty185 : Tryz.prog.cellsOf 185 = 1 ∧ Tryz.prog.bytesOf 185 = 24 ∧ (Tryz.prog.info? 185).isSome = true ∧ zeroCs Tryz.prog 185 = some [.fsl []] := ⟨by kernel_rfl, by kernel_rfl, by kernel_rfl, by kernel_rfl⟩
theorem ty186 : Tryz.prog.cellsOf 186 = 1 ∧ Tryz.prog.bytesOf 186 = 24 ∧ (Tryz.prog.info? 186).isSome = true ∧ zeroCs Tryz.prog 186 = some [.fsl []] := ⟨by kernel_rfl, by kernel_rfl, by kernel_rfl, by kernel_rfl⟩
theorem ty187 : Tryz.prog.cellsOf 187 = 12 ∧ Tryz.prog.bytesOf 187 = 192 ∧ (Tryz.prog.info? 187).isSome = true ∧ zeroCs Tryz.prog 187 = some [.d (.s []), .fsl [], .d (.i .i64 0), .d (.s []), .fsl [], .fsl [], .d (.b false), .d (.b false), .d (.i .i64 0), .d (.s []), .fsl [], .fsl []] := ⟨by kernel_rfl, by kernel_rfl, by kernel_rfl, by kernel_rfl⟩
theorem ty188 : Tryz.prog.cellsOf 188 = 12 ∧ Tryz.prog.bytesOf 188 = 192 ∧ (Tryz.prog.info? 188).isSome = true ∧ zeroCs Tryz.prog 188 = some [.d (.s []), .fsl [], .d (.i .i64 0), .d (.s []), .fsl [], .fsl [], .d (.b false), .d (.b false), .d (.i .i64 0), .d (.s []), .fsl [], .fsl []] := ⟨by kernel_rfl, by kernel_rfl, by kernel_rfl, by kernel_rfl⟩
theorem ty190 : Tryz.prog.cellsOf 190 = 1 ∧ Tryz.prog.bytesOf 190 = 24 ∧ (Tryz.prog.info? 190).isSome = true ∧ zeroCs Tryz.prog 190 = some [.fsl []] := ⟨by kernel_rfl, by kernel_rfl, by kernel_rfl, by kernel_rfl⟩
theorem ty191 : Tryz.prog.cellsOf 191 = 16 ∧ Tryz.prog.bytesOf 191 = 280 ∧ (Tryz.prog.info? 191).isSome = true ∧ zeroCs Tryz.prog 191 = some [.d (.s []), .fsl [], .fsl [], .fsl [], .d (.i .i64 0), .d (.s []), .fsl [], .d (.i .i64 0), .d (.s []), .d (.s []), .d (.i .i64 0), .d (.i .i64 0), .d (.s []), .fsl [], .fsl [], .fsl []] := ⟨by kernel_rfl, by kernel_rfl, by kernel_rfl, by kernel_rfl⟩
theorem ty192 : Tryz.prog.cellsOf 192 = 16 ∧ Tryz.prog.bytesOf 192 = 280 ∧ (Tryz.prog.info? 192).isSome = true ∧ zeroCs Tryz.prog 192 = some [.d (.s []), .fsl [], .fsl [], .fsl [], .d (.i .i64 0), .d (.s []), .fsl [], .d (.i .i64 0), .d (.s []), .d (.s []), .d (.i .i64 0), .d (.i .i64 0), .d (.s []), .fsl [], .fsl [], .fsl []] := ⟨by kernel_rfl, by kernel_rfl, by kernel_rfl, by kernel_rfl⟩
theorem ty195 : Tryz.prog.cellsOf 195 = 1 ∧ Tryz.prog.bytesOf 195 = 8 ∧ (Tryz.prog.info? 195).isSome = true ∧ zeroCs Tryz.prog 195 = some [.d (.o .nilFunc)] := ⟨by kernel_rfl, by kernel_rfl, by kernel_rfl, by kernel_rfl⟩
theorem ty201 : Tryz.prog.cellsOf 201 = 2 ∧ Tryz.prog.bytesOf 201 = 40 ∧ (Tryz.prog.info? 201).isSome = true ∧ zeroCs Tryz.prog 201 = some [.d (.s []), .fsl []] := ⟨by kernel_rfl, by kernel_rfl, by kernel_rfl, by kernel_rfl⟩
theorem ty202 : Tryz.prog.cellsOf 202 = 2 ∧ Tryz.prog.bytesOf 202 = 40 ∧ (Tryz.prog.info? 202).isSome = true ∧ zeroCs Tryz.prog 202 = some [.d (.s []), .fsl []] := ⟨by kernel_rfl, by kernel_rfl, by kernel_rfl, by kernel_rfl⟩
theorem ty211 : Tryz.prog.cellsOf 211 = 1 ∧ Tryz.prog.bytesOf 211 = 24 ∧ (Tryz.prog.info? 211).isSome = true ∧ zeroCs Tryz.prog 211 = some [.fsl []] := ⟨by kernel_rfl, by kernel_rfl, by kernel_rfl, by kernel_rfl⟩
theorem ty219 : Tryz.prog.cellsOf 219 = 11 ∧ Tryz.prog.bytesOf 219 = 184 ∧ (Tryz.prog.info? 219).isSome = true ∧ zeroCs Tryz.prog 219 = some [.d (.s []), .fsl [], .d (.i .i64 0), .d (.s []), .d (.s []), .d (.i .i64 0), .d (.i .i64 0), .d (.s []), .fsl [], .fsl [], .fsl []] := ⟨by kernel_rfl, by kernel_rfl, by kernel_rfl, by kernel_rfl⟩
theorem ty220 : Tryz.prog.cellsOf 220 = 11 ∧ Tryz.prog.bytesOf 220 = 184 ∧ (Tryz.prog.info? 220).isSome = true ∧ zeroCs Tryz.prog 220 = some [.d (.s []), .fsl [], .d (.i .i64 0), .d (.s []), .d (.s []), .d (.i .i64 0), .d (.i .i64 0), .d (.s []), .fsl [], .fsl [], .fsl []] := ⟨by kernel_rfl, by kernel_rfl, by kernel_rfl, by kernel_rfl⟩
theorem ty222 : Tryz.prog.cellsOf 222 = 11 ∧ Tryz.prog.bytesOf 222 = 184 ∧ (Tryz.prog.info? 222).isSome = true ∧ zeroCs Tryz.prog 222 = some [.d (.s []), .fsl [], .d (.i .i64 0), .d (.s []), .d (.s []), .d (.i .i64 0), .d (.i .i64 0), .d (.s []), .fsl [], .fsl [], .fsl []] := ⟨by kernel_rfl, by kernel_rfl, by kernel_rfl, by kernel_rfl⟩
theorem ty223 : Tryz.prog.cellsOf 223 = 11 ∧ Tryz.prog.bytesOf 223 = 184 ∧ (Tryz.prog.info? 223).isSome = true ∧ zeroCs Tryz.prog 223 = some [.d (.s []), .fsl [], .d (.i .i64 0), .d (.s []), .d (.s []), .d (.i .i64 0), .d (.i .i64 0), .d (.s []), .fsl [], .fsl [], .fsl []] := ⟨by kernel_rfl, by kernel_rfl, by kernel_rfl, by kernel_rfl⟩
theorem ty226 : Tryz.prog.cellsOf 226 = 1 ∧ Tryz.prog.bytesOf 226 = 8 ∧ (Tryz.prog.info? 226).isSome = true ∧ zeroCs Tryz.prog 226 = some [.d (.o (.pointer none))] := ⟨by kernel_rfl, by kernel_rfl, by kernel_rfl, by kernel_rfl⟩
theorem ty227 : Tryz.prog.cellsOf 227 = 1 ∧ Tryz.prog.bytesOf 227 = 24 ∧ (Tryz.prog.info? 227).isSome = true ∧ zeroCs Tryz.prog 227 = some [.fsl []] := ⟨by kernel_rfl, by kernel_rfl, by kernel_rfl, by kernel_rfl⟩
theorem ty228 : Tryz.prog.cellsOf 228 = 2 ∧ Tryz.prog.bytesOf 228 = 32 ∧ (Tryz.prog.info? 228).isSome = true ∧ zeroCs Tryz.prog 228 = some [.d (.o (.pointer none)), .fsl []] := ⟨by kernel_rfl, by kernel_rfl, by kernel_rfl, by kernel_rfl⟩
theorem ty229 : Tryz.prog.cellsOf 229 = 2 ∧ Tryz.prog.bytesOf 229 = 32 ∧ (Tryz.prog.info? 229).isSome = true ∧ zeroCs Tryz.prog 229 = some [.d (.o (.pointer none)), .fsl []] := ⟨by kernel_rfl, by kernel_rfl, by kernel_rfl, by kernel_rfl⟩
theorem ty233 : Tryz.prog.cellsOf 233 = 1 ∧ Tryz.prog.bytesOf 233 = 8 ∧ (Tryz.prog.info? 233).isSome = true ∧ zeroCs Tryz.prog 233 = some [.d (.o .nilFunc)] := ⟨by kernel_rfl, by kernel_rfl, by kernel_rfl, by kernel_rfl⟩
theorem ty246 : Tryz.prog.cellsOf 246 = 4 ∧ Tryz.prog.bytesOf 246 = 64 ∧ (Tryz.prog.info? 246).isSome = true ∧ zeroCs Tryz.prog 246 = some [.d (.s []), .d (.i .i64 0), .d (.s []), .fsl []] := ⟨by kernel_rfl, by kernel_rfl, by kernel_rfl, by kernel_rfl⟩
theorem ty247 : Tryz.prog.cellsOf 247 = 4 ∧ Tryz.prog.bytesOf 247 = 64 ∧ (Tryz.prog.info? 247).isSome = true ∧ zeroCs Tryz.prog 247 = some [.d (.s []), .d (.i .i64 0), .d (.s []), .fsl []] := ⟨by kernel_rfl, by kernel_rfl, by kernel_rfl, by kernel_rfl⟩
theorem ty262 : Tryz.prog.cellsOf 262 = 1 ∧ Tryz.prog.bytesOf 262 = 8 ∧ (Tryz.prog.info? 262).isSome = true ∧ zeroCs Tryz.prog 262 = some [.d (.o .nilFunc)] := ⟨by kernel_rfl, by kernel_rfl, by kernel_rfl, by kernel_rfl⟩
theorem ty280 : Tryz.prog.cellsOf 280 = 4 ∧ Tryz.prog.bytesOf 280 = 96 ∧ (Tryz.prog.info? 280).isSome = true ∧ zeroCs Tryz.prog 280 = some [.fsl [], .fsl [], .fsl [], .fsl []] := ⟨by kernel_rfl, by kernel_rfl, by kernel_rfl, by kernel_rfl⟩
theorem ty285 : Tryz.prog.cellsOf 285 = 1 ∧ Tryz.prog.bytesOf 285 = 16 ∧ (Tryz.prog.info? 285).isSome = true ∧ zeroCs Tryz.prog 285 = some [.d (.o .nilIface)] := ⟨by kernel_rfl, by kernel_rfl, by kernel_rfl, by kernel_rfl⟩
theorem ty286 : Tryz.prog.cellsOf 286 = 1 ∧ Tryz.prog.bytesOf 286 = 16 ∧ (Tryz.prog.info? 286).isSome = true ∧ zeroCs Tryz.prog 286 = some [.d (.o .nilIface)] := ⟨by kernel_rfl, by kernel_rfl, by kernel_rfl, by kernel_rfl⟩
theorem ty290 : Tryz.prog.cellsOf 290 = 1 ∧ Tryz.prog.bytesOf 290 = 8 ∧ (Tryz.prog.info? 290).isSome = true ∧ zeroCs Tryz.prog 290 = some [.d (.o (.pointer none))] := ⟨by kernel_rfl, by kernel_rfl, by kernel_rfl, by kernel_rfl⟩
theorem ty297 : Tryz.prog.cellsOf 297 = 1 ∧ Tryz.prog.bytesOf 297 = 8 ∧ (Tryz.prog.info? 297).isSome = true ∧ zeroCs Tryz.prog 297 = some [.d (.o .nilFunc)] := ⟨by kernel_rfl, by kernel_rfl, by kernel_rfl, by kernel_rfl⟩
theorem ty298 : Tryz.prog.cellsOf 298 = 1 ∧ Tryz.prog.bytesOf 298 = 24 ∧ (Tryz.prog.info? 298).isSome = true ∧ zeroCs Tryz.prog 298 = some [.fsl []] := ⟨by kernel_rfl, by kernel_rfl, by kernel_rfl, by kernel_rfl⟩
theorem ty301 : Tryz.prog.cellsOf 301 = 1 ∧ Tryz.prog.bytesOf 301 = 8 ∧ (Tryz.prog.info? 301).isSome = true ∧ zeroCs Tryz.prog 301 = some [.d (.o .nilFunc)] := ⟨by kernel_rfl, by kernel_rfl, by kernel_rfl, by kernel_rfl⟩
theorem ty304 : Tryz.prog.cellsOf 304 = 1 ∧ Tryz.prog.bytesOf 304 = 8 ∧ (Tryz.prog.info? 304).isSome = true ∧ zeroCs Tryz.prog 304 = some [.d (.o (.map none))] := ⟨by kernel_rfl, by kernel_rfl, by kernel_rfl, by kernel_rfl⟩
theorem ty306 : Tryz.prog.cellsOf 306 = 1 ∧ Tryz.prog.bytesOf 306 = 8 ∧ (Tryz.prog.info? 306).isSome = true ∧ zeroCs Tryz.prog 306 = some [.d (.o .nilFunc)] := ⟨by kernel_rfl, by kernel_rfl, by kernel_rfl, by kernel_rfl⟩
theorem ty309 : Tryz.prog.cellsOf 309 = 16 ∧ Tryz.prog.bytesOf 309 = 264 ∧ (Tryz.prog.info? 309).isSome = true ∧ zeroCs Tryz.prog 309 = some [.d (.s []), .fsl [], .d (.i .i64 0), .d (.s []), .fsl [], .d (.b false), .fsl [], .d (.i .i64 0), .d (.s []), .d (.s []), .d (.i .i64 0), .d (.i .i64 0), .d (.s []), .fsl [], .fsl [], .fsl []] := ⟨by kernel_rfl, by kernel_rfl, by kernel_rfl, by kernel_rfl⟩
theorem ty310 : Tryz.prog.cellsOf 310 = 16 ∧ Tryz.prog.bytesOf 310 = 264 ∧ (Tryz.prog.info? 310).isSome = true ∧ zeroCs Tryz.prog 310 = some [.d (.s []), .fsl [], .d (.i .i64 0), .d (.s []), .fsl [], .d (.b false), .fsl [], .d (.i .i64 0), .d (.s []), .d (.s []), .d (.i .i64 0), .d (.i .i64 0), .d (.s []), .fsl [], .fsl [], .fsl []] := ⟨by kernel_rfl, by kernel_rfl, by kernel_rfl, by kernel_rfl⟩
theorem ty312 : Tryz.prog.cellsOf 312 = 2 ∧ Tryz.prog.bytesOf 312 = 40 ∧ (Tryz.prog.info? 312).isSome = true ∧ zeroCs Tryz.prog 312 = some [.d (.s []), .fsl []] := ⟨by kernel_rfl, by kernel_rfl, by kernel_rfl, by kernel_rfl⟩
theorem ty313 : Tryz.prog.cellsOf 313 = 2 ∧ Tryz.prog.bytesOf 313 = 40 ∧ (Tryz.prog.info? 313).isSome = true ∧ zeroCs Tryz.prog 313 = some [.d (.s []), .fsl []] := ⟨by kernel_rfl, by kernel_rfl, by kernel_rfl, by kernel_rfl⟩
theorem ty315 : Tryz.prog.cellsOf 315 = 4 ∧ Tryz.prog.bytesOf 315 = 64 ∧ (Tryz.prog.info? 315).isSome = true ∧ zeroCs Tryz.prog 315 = some [.d (.s []), .d (.i .i64 0), .d (.s []), .fsl []] := ⟨by kernel_rfl, by kernel_rfl, by kernel_rfl, by kernel_rfl⟩
theorem ty316 : Tryz.prog.cellsOf 316 = 4 ∧ Tryz.prog.bytesOf 316 = 64 ∧ (Tryz.prog.info? 316).isSome = true ∧ zeroCs Tryz.prog 316 = some [.d (.s []), .d (.i .i64 0), .d (.s []), .fsl []] := ⟨by kernel_rfl, by kernel_rfl, by kernel_rfl, by kernel_rfl⟩
theorem ty318 : Tryz.prog.cellsOf 318 = 11 ∧ Tryz.prog.bytesOf 318 = 184 ∧ (Tryz.prog.info? 318).isSome = true ∧ zeroCs Tryz.prog 318 = some [.d (.s []), .fsl [], .d (.i .i64 0), .d (.s []), .d (.s []), .d (.i .i64 0), .d (.i .i64 0), .d (.s []), .fsl [], .fsl [], .fsl []] := ⟨by kernel_rfl, by kernel_rfl, by kernel_rfl, by kernel_rfl⟩
theorem ty319 : Tryz.prog.cellsOf 319 = 11 ∧ Tryz.prog.bytesOf 319 = 184 ∧ (Tryz.prog.info? 319).isSome = true ∧ zeroCs Tryz.prog 319 = some [.d (.s []), .fsl [], .d (.i .i64 0), .d (.s []), .d (.s []), .d (.i .i64 0), .d (.i .i64 0), .d (.s []), .fsl [], .fsl [], .fsl []] := ⟨by kernel_rfl, by kernel_rfl, by kernel_rfl, by kernel_rfl⟩
theorem ty321 : Tryz.prog.cellsOf 321 = 4 ∧ Tryz.prog.bytesOf 321 = 64 ∧ (Tryz.prog.info? 321).isSome = true ∧ zeroCs Tryz.prog 321 = some [.d (.s []), .d (.i .i64 0), .d (.s []), .fsl []] := ⟨by kernel_rfl, by kernel_rfl, by kernel_rfl, by kernel_rfl⟩
theorem ty322 : Tryz.prog.cellsOf 322 = 4 ∧ Tryz.prog.bytesOf 322 = 64 ∧ (Tryz.prog.info? 322).isSome = true ∧ zeroCs Tryz.prog 322 = some [.d (.s []), .d (.i .i64 0), .d (.s []), .fsl []] := ⟨by kernel_rfl, by kernel_rfl, by kernel_rfl, by kernel_rfl⟩
theorem ty358 : Tryz.prog.cellsOf 358 = 24 ∧ Tryz.prog.bytesOf 358 = 24 ∧ (Tryz.prog.info? 358).isSome = true ∧ zeroCs Tryz.prog 358 = some [.d (.i .u8 0), .d (.i .u8 0), .d (.i .u8 0), .d (.i .u8 0), .d (.i .u8 0), .d (.i .u8 0), .d (.i .u8 0), .d (.i .u8 0), .d (.i .u8 0), .d (.i .u8 0), .d (.i .u8 0), .d (.i .u8 0), .d (.i .u8 0), .d (.i .u8 0), .d (.i .u8 0), .d (.i .u8 0), .d (.i .u8 0), .d (.i .u8 0), .d (.i .u8 0), .d (.i .u8 0), .d (.i .u8 0), .d (.i .u8 0), .d (.i .u8 0), .d (.i .u8 0)] := ⟨by kernel_rfl, by kernel_rfl, by kernel_rfl, by kernel_rfl⟩
theorem ty359 : Tryz.prog.cellsOf 359 = 1 ∧ Tryz.prog.bytesOf 359 = 8 ∧ (Tryz.prog.info? 359).isSome = true ∧ zeroCs Tryz.prog 359 = some [.d (.i .u64 0)] := ⟨by kernel_rfl, by kernel_rfl, by kernel_rfl, by kernel_rfl⟩
theorem ty364 : Tryz.prog.cellsOf 364 = 1 ∧ Tryz.prog.bytesOf 364 = 24 ∧ (Tryz.prog.info? 364).isSome = true ∧ zeroCs Tryz.prog 364 = some [.fsl []] := ⟨by kernel_rfl, by kernel_rfl, by kernel_rfl, by kernel_rfl⟩
theorem ty369 : Tryz.prog.cellsOf 369 = 1 ∧ Tryz.prog.bytesOf 369 = 8 ∧ (Tryz.prog.info? 369).isSome = true ∧ zeroCs Tryz.prog 369 = some [.d (.i .u64 0)] := ⟨by kernel_rfl, by kernel_rfl, by kernel_rfl, by kernel_rfl⟩
theorem ty371 : Tryz.prog.cellsOf 371 = 3 ∧ Tryz.prog.bytesOf 371 = 48 ∧ (Tryz.prog.info? 371).isSome = true ∧ zeroCs Tryz.prog 371 = some [.d (.s []), .d (.s []), .d (.o .nilIface)] := ⟨by kernel_rfl, by kernel_rfl, by kernel_rfl, by kernel_rfl⟩
theorem ty376 : Tryz.prog.cellsOf 376 = 20 ∧ Tryz.prog.bytesOf 376 = 160 ∧ (Tryz.prog.info? 376).isSome = true ∧ zeroCs Tryz.prog 376 = some [.d (.i .u64 0), .d (.i .u64 0), .d (.i .u64 0), .d (.i .u64 0), .d (.i .u64 0), .d (.i .u64 0), .d (.i .u64 0), .d (.i .u64 0), .d (.i .u64 0), .d (.i .u64 0), .d (.i .u64 0), .d (.i .u64 0), .d (.i .u64 0), .d (.i .u64 0), .d (.i .u64 0), .d (.i .u64 0), .d (.i .u64 0), .d (.i .u64 0), .d (.i .u64 0), .d (.i .u64 0)] := ⟨by kernel_rfl, by kernel_rfl, by kernel_rfl, by kernel_rfl⟩
theorem ty377 : Tryz.prog.cellsOf 377 = 1 ∧ Tryz.prog.bytesOf 377 = 4 ∧ (Tryz.prog.info? 377).isSome = true ∧ zeroCs Tryz.prog 377 = some [.d (.i .u32 0)] := ⟨by kernel_rfl, by kernel_rfl, by kernel_rfl, by kernel_rfl⟩
theorem ty378 : Tryz.prog.cellsOf 378 = 65 ∧ Tryz.prog.bytesOf 378 = 65 ∧ (Tryz.prog.info? 378).isSome = true ∧ zeroCs Tryz.prog 378 = some [.d (.i .u8 0), .d (.i .u8 0), .d (.i .u8 0), .d (.i .u8 0), .d (.i .u8 0), .d (.i .u8 0), .d (.i .u8 0), .d (.i .u8 0), .d (.i .u8 0), .d (.i .u8 0), .d (.i .u8 0), .d (.i .u8 0), .d (.i .u8 0), .d (.i .u8 0), .d (.i .u8 0), .d (.i .u8 0), .d (.i .u8 0), .d (.i .u8 0), .d (.i .u8 0), .d (.i .u8 0), .d (.i .u8 0), .d (.i .u8 0), .d (.i .u8 0), .d (.i .u8 0), .d (.i .u8 0), .d (.i .u8 0), .d (.i .u8 0), .d (.i .u8 0), .d (.i .u8 0), .d (.i .u8 0), .d (.i .u8 0), .d (.i .u8 0), .d (.i .u8 0), .d (.i .u8 0), .d (.i .u8 0), .d (.i .u8 0), .d (.i .u8 0), .d (.i .u8 0), .d (.i .u8 0), .d (.i .u8 0), .d (.i .u8 0), .d (.i .u8 0), .d (.i .u8 0), .d (.i .u8 0), .d (.i .u8 0), .d (.i .u8 0), .d (.i .u8 0), .d (.i .u8 0), .d (.i .u8 0), .d (.i .u8 0), .d (.i .u8 0), .d (.i .u8 0), .d (.i .u8 0), .d (.i .u8 0), .d (.i .u8 0), .d (.i .u8 0), .d (.i .u8 0), .d (.i .u8 0), .d (.i .u8 0), .d (.i .u8 0), .d (.i .u8 0), .d (.i .u8 0), .d (.i .u8 0), .d (.i .u8 0), .d (.i .u8 0)] := ⟨by kernel_rfl, by kernel_rfl, by kernel_rfl, by kernel_rfl⟩
theorem ty383 : Tryz.prog.cellsOf 383 = 1 ∧ Tryz.prog.bytesOf 383 = 16 ∧ (Tryz.prog.info? 383).isSome = true ∧ zeroCs Tryz.prog 383 = some [.d (.s [])] := ⟨by kernel_rfl, by kernel_rfl, by kernel_rfl, by kernel_rfl⟩
theorem ty388 : Tryz.prog.cellsOf 388 = 32 ∧ Tryz.prog.bytesOf 388 = 32 ∧ (Tryz.prog.info? 388).isSome = true ∧ zeroCs Tryz.prog 388 = some [.d (.i .u8 0), .d (.i .u8 0), .d (.i .u8 0), .d (.i .u8 0), .d (.i .u8 0), .d (.i .u8 0), .d (.i .u8 0), .d (.i .u8 0), .d (.i .u8 0), .d (.i .u8 0), .d (.i .u8 0), .d (.i .u8 0), .d (.i .u8 0), .d (.i .u8 0), .d (.i .u8 0), .d (.i .u8 0), .d (.i .u8 0), .d (.i .u8 0), .d (.i .u8 0), .d (.i .u8 0), .d (.i .u8 0), .d (.i .u8 0), .d (.i .u8 0), .d (.i .u8 0), .d (.i .u8 0), .d (.i .u8 0), .d (.i .u8 0), .d (.i .u8 0), .d (.i .u8 0), .d (.i .u8 0), .d (.i .u8 0), .d (.i .u8 0)] := ⟨by kernel_rfl, by kernel_rfl, by kernel_rfl, by kernel_rfl⟩
theorem ty389 : Tryz.prog.cellsOf 389 = 64 ∧ Tryz.prog.bytesOf 389 = 64 ∧ (Tryz.prog.info? 389).isSome = true ∧ zeroCs Tryz.prog 389 = some [.d (.i .u8 0), .d (.i .u8 0), .d (.i .u8 0), .d (.i .u8 0), .d (.i .u8 0), .d (.i .u8 0), .d (.i .u8 0), .d (.i .u8 0), .d (.i .u8 0), .d (.i .u8 0), .d (.i .u8 0), .d (.i .u8 0), .d (.i .u8 0), .d (.i .u8 0), .d (.i .u8 0), .d (.i .u8 0), .d (.i .u8 0), .d (.i .u8 0), .d (.i .u8 0), .d (.i .u8 0), .d (.i .u8 0), .d (.i .u8 0), .d (.i .u8 0), .d (.i .u8 0), .d (.i .u8 0), .d (.i .u8 0), .d (.i .u8 0), .d (.i .u8 0), .d (.i .u8 0), .d (.i .u8 0), .d (.i .u8 0), .d (.i .u8 0), .d (.i .u8 0), .d (.i .u8 0), .d (.i .u8 0), .d (.i .u8 0), .d (.i .u8 0), .d (.i .u8 0), .d (.i .u8 0), .d (.i .u8 0), .d (.i .u8 0), .d (.i .u8 0), .d (.i .u8 0), .d (.i .u8 0), .d (.i .u8 0), .d (.i .u8 0), .d (.i .u8 0), .d (.i .u8 0), .d (.i .u8 0), .d (.i .u8 0), .d (.i .u8 0), .d (.i .u8 0), .d (.i .u8 0), .d (.i .u8 0), .d (.i .u8 0), .d (.i .u8 0), .d (.i .u8 0), .d (.i .u8 0), .d (.i .u8 0), .d (.i .u8 0), .d (.i .u8 0), .d (.i .u8 0), .d (.i .u8 0), .d (.i .u8 0)] := ⟨by kernel_rfl, by kernel_rfl, by kernel_rfl, by kernel_rfl⟩
theorem laidOut : laidOutB Tryz.prog = true := by kernel_rfl
theorem own : ownKnob Tryz.prog.godebug = none := by kernel_rfl
attribute [go_sem] ty1 Tryz.underlying1 ty2 Tryz.underlying2 ty3 Tryz.underlying3 ty4 Tryz.underlying4 zval4 ty5 Tryz.underlying5 ty9 Tryz.underlying9 ty12 Tryz.underlying12 ty20 Tryz.underlying20 ty21 Tryz.underlying21 ty22 Tryz.underlying22 ty23 Tryz.underlying23 ty24 Tryz.underlying24 ty25 Tryz.underlying25 ty26 Tryz.underlying26 ty27 Tryz.underlying27 ty28 Tryz.underlying28 ty29 Tryz.underlying29 ty30 Tryz.underlying30 ty31 Tryz.underlying31 ty32 Tryz.underlying32 ty34 Tryz.underlying34 ty35 Tryz.underlying35 ty36 Tryz.underlying36 ty37 Tryz.underlying37 ty38 Tryz.underlying38 ty39 Tryz.underlying39 ty40 Tryz.underlying40 ty41 Tryz.underlying41 ty42 Tryz.underlying42 ty43 Tryz.underlying43 ty44 Tryz.underlying44 ty46 Tryz.underlying46 ty47 Tryz.underlying47 ty48 Tryz.underlying48 ty49 Tryz.underlying49 ty50 Tryz.underlying50 ty51 Tryz.underlying51 ty52 Tryz.underlying52 ty53 Tryz.underlying53 ty54 Tryz.underlying54 ty55 Tryz.underlying55 ty56 Tryz.underlying56 ty57 Tryz.underlying57 ty58 Tryz.underlying58 ty59 Tryz.underlying59 ty60 Tryz.underlying60 ty61 Tryz.underlying61 ty63 Tryz.underlying63 ty64 Tryz.underlying64 ty65 Tryz.underlying65 ty66 Tryz.underlying66 ty67 Tryz.underlying67 ty68 Tryz.underlying68 ty69 Tryz.underlying69 ty71 Tryz.underlying71 ty75 Tryz.underlying75 ty76 Tryz.underlying76 ty77 Tryz.underlying77 ty78 Tryz.underlying78 ty80 Tryz.underlying80 ty81 Tryz.underlying81 ty82 Tryz.underlying82 ty83 Tryz.underlying83 ty84 Tryz.underlying84 ty85 Tryz.underlying85 ty90 Tryz.underlying90 ty91 Tryz.underlying91 ty92 Tryz.underlying92 ty95 Tryz.underlying95 ty96 Tryz.underlying96 ty97 Tryz.underlying97 ty108 Tryz.underlying108 ty109 Tryz.underlying109 ty110 Tryz.underlying110 ty119 Tryz.underlying119 ty127 Tryz.underlying127 ty128 Tryz.underlying128 ty129 Tryz.underlying129 ty140 Tryz.underlying140 ty145 Tryz.underlying145 ty154 Tryz.underlying154 ty155 Tryz.underlying155 ty165 Tryz.underlying165 ty166 Tryz.underlying166 ty171 Tryz.underlying171 ty172 Tryz.underlying172 ty177 Tryz.underlying177 ty178 Tryz.underlying178 ty179 Tryz.underlying179 ty181 Tryz.underlying181 ty182 Tryz.underlying182 ty183 Tryz.underlying183 ty185 Tryz.underlying185 ty186 Tryz.underlying186 ty187 Tryz.underlying187 ty188 Tryz.underlying188 ty190 Tryz.underlying190 ty191 Tryz.underlying191 ty192 Tryz.underlying192 ty195 Tryz.underlying195 ty201 Tryz.underlying201 ty202 Tryz.underlying202 ty211 Tryz.underlying211 ty219 Tryz.underlying219 ty220 Tryz.underlying220 ty222 Tryz.underlying222 ty223 Tryz.underlying223 ty226 Tryz.underlying226 ty227 Tryz.underlying227 ty228 Tryz.underlying228 ty229 Tryz.underlying229 ty233 Tryz.underlying233 ty246 Tryz.underlying246 ty247 Tryz.underlying247 ty262 Tryz.underlying262 ty280 Tryz.underlying280 ty285 Tryz.underlying285 ty286 Tryz.underlying286 ty290 Tryz.underlying290 ty297 Tryz.underlying297 ty298 Tryz.underlying298 ty301 Tryz.underlying301 ty304 Tryz.underlying304 ty306 Tryz.underlying306 ty309 Tryz.underlying309 ty310 Tryz.underlying310 ty312 Tryz.underlying312 ty313 Tryz.underlying313 ty315 Tryz.underlying315 ty316 Tryz.underlying316 ty318 Tryz.underlying318 ty319 Tryz.underlying319 ty321 Tryz.underlying321 ty322 Tryz.underlying322 ty358 Tryz.underlying358 ty359 Tryz.underlying359 ty364 Tryz.underlying364 ty369 Tryz.underlying369 ty371 Tryz.underlying371 ty376 Tryz.underlying376 ty377 Tryz.underlying377 ty378 Tryz.underlying378 ty383 Tryz.underlying383 ty388 Tryz.underlying388 ty389 Tryz.underlying389
end Go.Proofs.YtlmhknhlmicmeaaGreatDoor.Fa

namespace Go.Proofs.YtlmhknhlmicmeaaGreatDoor
open Go Go.Ab
theorem eqStringS_ok (xs ys : List (List UInt8)) (hsz : xs.length ≤ 1073741824) : PCall Tryz.prog 77 [.c (.d (.sl (xs.map encS))), .c (.d (.sl (ys.map encS)))] (.c (.d (.b (dec (xs = ys))))) := by
  intro S
  refine acall_cw (rs := [.tmp 4]) Tryz.checked.mixed Tryz.func77 Tryz.ntmps77 rfl rfl rfl rfl rfl ?_
  simp -implicitDefEqProofs (disch := omega) only [go_sem]
  with_reducible refine split2 (fun hb => ?_) (fun hb => ?_) <;> have h := hb <;> (try simp only [wf_preprocess] at h) <;> simp -implicitDefEqProofs (disch := omega) only [go_sem, hb] <;> (repeat (with_reducible refine And.intro ?_ ?_; focus first | omega | rfl | assumption | exact ⟨_, rfl, rfl⟩ | (simp; omega) | (simp; done)))
  · exact bool_eq (dec_false (fun e => h (by rw [e]))).symm
  have hl : xs.length = ys.length := by omega
  refine loop_at (ι := Nat) Tryz.checked.mixed rfl [0, 1, 5] (fun y => [.c (.d (.sl (xs.map encS))), .c (.d (.sl (ys.map encS))), .c (.d (.i .i64 y))]) (fun y => [] :: S)
    (fun i => i ≤ xs.length ∧ ∀ j, j < i → xs[j]? = ys[j]?) (fun y => xs.length - y) 0 rfl rfl ⟨Nat.zero_le _, fun j h => by omega⟩ ?_
  rintro i ⟨p1, p2⟩
  simp -implicitDefEqProofs (disch := omega) only [go_sem]
  with_reducible refine split2 (fun hb => ?_) (fun hb => ?_) <;> have h := hb <;> (try simp only [wf_preprocess] at h) <;> simp -implicitDefEqProofs (disch := omega) only [go_sem, hb] <;> (repeat (with_reducible refine And.intro ?_ ?_; focus first | omega | rfl | assumption | exact ⟨_, rfl, rfl⟩ | (simp; omega) | (simp; done)))
  · have hi : i < xs.length := by omega
    have hi' : i < ys.length := by omega
    (repeat (with_reducible refine And.intro ?_ ?_; focus first | omega | rfl | assumption | exact ⟨_, rfl, rfl⟩ | (simp; omega) | (simp; done)))
    with_reducible refine split2 (fun hb => ?_) (fun hb => ?_) <;> have h := hb <;> (try simp only [wf_preprocess] at h) <;> simp -implicitDefEqProofs (disch := omega) only [go_sem, hb] <;> (repeat (with_reducible refine And.intro ?_ ?_; focus first | omega | rfl | assumption | exact ⟨_, rfl, rfl⟩ | (simp; omega) | (simp; done)))
    · exact bool_eq (dec_false (fun e => h (by simp only [e]))).symm
    refine inv_at (i + 1) (by omega) rfl rfl ⟨by omega, fun j hj => ?_⟩
    by_cases e : j = i
    · subst e
      rw [List.getElem?_eq_getElem hi, List.getElem?_eq_getElem hi', h]
    · exact p2 j (by omega)
  · have hi : i = xs.length := by omega
    refine bool_eq (dec_true (List.ext_getElem? fun j => ?_)).symm
    by_cases hj : j < i
    · exact p2 j hj
    · rw [List.getElem?_eq_none (by omega), List.getElem?_eq_none (by omega)]
end Go.Proofs.YtlmhknhlmicmeaaGreatDoor

namespace Go.Ab
def mdig (n : Nat) (out : List UInt8) : List UInt8 := if h : n = 0 then out else mdig (n / 10) (UInt8.ofNat (48 + n % 10) :: out)
termination_by n
decreasing_by omega
def mtext (k : Int) : List UInt8 := if k ≤ 0 then [109, 48] else 109 :: mdig k.toNat []
theorem mdig_zero {out : List UInt8} : mdig 0 out = out := by rw [mdig]; simp
theorem mdig_pos {n : Nat} {out : List UInt8} (h : n ≠ 0) : mdig n out = mdig (n / 10) (UInt8.ofNat (48 + n % 10) :: out) := by rw [mdig]; simp [h]
-- How many marks.
mutual
def mcD : D → Nat
  | .sl es => mcRs es
  | .b _ => 1
  | .i _ _ => 1
  | .s _ => 1
  | .o _ => 0
  | .ol _ _ => 0
def mcR : List D → Nat
  | [] => 0
  | d :: ds => mcD d + mcR ds
def mcRs : List (List D) → Nat
  | [] => 0
  | r :: rs => mcR r + mcRs rs
end
-- The marks from a number on.
mutual
def mkD : D → Int → D
  | .sl es, k => .sl (mkRs es k)
  | .b _, k => .b (decide (k.tmod 3 = 0))
  | .i kd _, k => .i kd k
  | .s _, k => .s (mtext k)
  | .o v, _ => .o v
  | .ol n es, _ => .ol n es
def mkR : List D → Int → List D
  | [], _ => []
  | d :: ds, k => mkD d k :: mkR ds (k + mcD d)
def mkRs : List (List D) → Int → List (List D)
  | [], _ => []
  | r :: rs, k => mkR r k :: mkRs rs (k + mcR r)
end
-- Rows are not long.
mutual
def nwD : D → Bool
  | .sl es => nwRs es
  | .b _ => true
  | .i _ _ => true
  | .s _ => true
  | .o _ => true
  | .ol _ _ => true
def nwR : List D → Bool
  | [] => true
  | d :: ds => nwD d && nwR ds
def nwRs : List (List D) → Bool
  | [] => true
  | r :: rs => decide (r.length ≤ 32) && nwR r && nwRs rs
end
mutual
theorem mc_sz : ∀ d : D, nwD d = true → mcD d ≤ 32 * d.sz + 1
  | .sl es, h => by
    have := mcs_sz es (by simpa [nwD] using h)
    simp only [mcD, D.sz]; omega
  | .b _, _ => by simp [mcD]
  | .i _ _, _ => by simp [mcD]
  | .s _, _ => by simp [mcD]
  | .o _, _ => by simp [mcD]
  | .ol _ _, _ => by simp [mcD]
theorem mcr_sz : ∀ r : List D, nwR r = true → mcR r ≤ 32 * szRow r + r.length
  | [], _ => by simp [mcR]
  | d :: ds, h => by
    rw [nwR, Bool.and_eq_true] at h
    have h1 := mc_sz d h.1
    have h2 := mcr_sz ds h.2
    simp only [mcR, szRow, List.length_cons]; omega
theorem mcs_sz : ∀ rs : List (List D), nwRs rs = true → mcRs rs ≤ 32 * (rs.length + szRows rs)
  | [], _ => by simp [mcRs]
  | r :: rs, h => by
    rw [nwRs, Bool.and_eq_true, Bool.and_eq_true, decide_eq_true_eq] at h
    have h1 := mcr_sz r h.1.2
    have h2 := mcs_sz rs h.2
    simp only [mcRs, szRows, List.length_cons]; omega
end
theorem nwR_append : ∀ a b, nwR (a ++ b) = (nwR a && nwR b)
  | [], b => by simp [nwR]
  | d :: ds, b => by rw [List.cons_append, nwR, nwR, nwR_append ds b, Bool.and_assoc]
theorem nwRs_map {α : Type} {f : α → List D} : ∀ {xs : List α}, (∀ x ∈ xs, nwR (f x) = true ∧ (f x).length ≤ 32) → nwRs (xs.map f) = true
  | [], _ => rfl
  | x :: xs, h => by
    rw [List.map_cons, nwRs, (h x (by simp)).1, nwRs_map fun y hy => h y (by simp [hy]), decide_eq_true (h x (by simp)).2]; rfl
theorem mcRs_append : ∀ a b, mcRs (a ++ b) = mcRs a + mcRs b
  | [], b => by simp [mcRs]
  | d :: ds, b => by rw [List.cons_append, mcRs, mcRs, mcRs_append ds b]; omega
theorem mkRs_append : ∀ a b k, mkRs (a ++ b) k = mkRs a k ++ mkRs b (k + mcRs a)
  | [], b, k => by simp [mkRs, mcRs]
  | d :: ds, b, k => by rw [List.cons_append, mkRs, mkRs, mkRs_append ds b, mcRs]; simp only [List.cons_append, Int.natCast_add, Int.add_assoc]
theorem mkRs_length : ∀ rs k, (mkRs rs k).length = rs.length
  | [], _ => rfl
  | r :: rs, k => by rw [mkRs, List.length_cons, mkRs_length rs, List.length_cons]
theorem take_row {rows : List (List D)} {i : Nat} (hi : i < rows.length) : rows.take (i + 1) = rows.take i ++ [rows[i]] := List.take_succ_eq_append_getElem hi
theorem mcRs_take {rows : List (List D)} {i : Nat} (hi : i < rows.length) : mcRs (rows.take (i + 1)) = mcRs (rows.take i) + mcR rows[i] := by
  rw [take_row hi, mcRs_append]; simp [mcRs]
theorem mcRs_le {rows : List (List D)} {i : Nat} : mcRs (rows.take i) ≤ mcRs rows := by
  have := mcRs_append (rows.take i) (rows.drop i)
  rw [List.take_append_drop] at this
  omega
def mkTo (rows : List (List D)) (k : Int) (i : Nat) : List (List D) := mkRs (rows.take i) k ++ rows.drop i
theorem mkTo_zero {rows : List (List D)} {k : Int} : mkTo rows k 0 = rows := by simp [mkTo, mkRs]
theorem mkTo_all {rows : List (List D)} {k : Int} {i : Nat} (h : rows.length ≤ i) : mkTo rows k i = mkRs rows k := by
  unfold mkTo; rw [List.take_of_length_le h, List.drop_of_length_le h, List.append_nil]
theorem mkTo_length {rows : List (List D)} {k : Int} {i : Nat} : (mkTo rows k i).length = rows.length := by
  unfold mkTo; rw [List.length_append, mkRs_length, List.length_take, List.length_drop]; omega
theorem mkTo_get {rows : List (List D)} {k : Int} {i : Nat} (hi : i < rows.length) : (mkTo rows k i).getD i [] = rows[i] := by
  unfold mkTo
  rw [List.getD_eq_getElem?_getD, List.getElem?_append_right (by rw [mkRs_length, List.length_take]; omega), mkRs_length, List.length_take, List.getElem?_drop]
  rw [show i + (i - min i rows.length) = i by omega, List.getElem?_eq_getElem hi]; rfl
theorem mkTo_set {rows : List (List D)} {k : Int} {i : Nat} (hi : i < rows.length) : (mkTo rows k i).set i (mkR rows[i] (k + mcRs (rows.take i))) = mkTo rows k (i + 1) := by
  unfold mkTo
  have hl : (mkRs (rows.take i) k).length = i := by rw [mkRs_length, List.length_take]; omega
  rw [List.set_append_right _ _ (by omega), hl, Nat.sub_self, List.drop_eq_getElem_cons hi, List.set_cons_zero, take_row hi, mkRs_append, List.append_assoc]
  rfl
def mkAt (rows : List (List D)) (k : Int) (i : Nat) (row : List D) : List (List D) := (mkTo rows k i).set i row
theorem mkAt_length {rows : List (List D)} {k : Int} {i : Nat} {row : List D} : (mkAt rows k i row).length = rows.length := by unfold mkAt; rw [List.length_set, mkTo_length]
theorem mkAt_get {rows : List (List D)} {k : Int} {i : Nat} {row : List D} (hi : i < rows.length) : (mkAt rows k i row).getD i [] = row := by
  unfold mkAt
  rw [List.getD_eq_getElem?_getD, List.getElem?_set_self (by rw [mkTo_length]; exact hi)]; rfl
theorem mkAt_cell {rows : List (List D)} {k : Int} {i o : Nat} {row : List D} (hi : i < rows.length) : cellAt (mkAt rows k i row) i o = row[o]? := by
  unfold mkAt cellAt
  rw [List.getElem?_set_self (by rw [mkTo_length]; exact hi), Option.bind_some]
theorem mkAt_set {rows : List (List D)} {k : Int} {i : Nat} {row row' : List D} : (mkAt rows k i row).set i row' = mkAt rows k i row' := by unfold mkAt; rw [List.set_set]
theorem mkTo_at {rows : List (List D)} {k : Int} {i : Nat} (hi : i < rows.length) : mkTo rows k i = mkAt rows k i rows[i] := by
  have h := mkTo_get (k := k) hi
  have hl : i < (mkTo rows k i).length := by rw [mkTo_length]; exact hi
  rw [List.getD_eq_getElem?_getD, List.getElem?_eq_getElem hl, Option.getD_some] at h
  unfold mkAt
  rw [← h, List.set_getElem_self]
theorem mkAt_to {rows : List (List D)} {k : Int} {i : Nat} (hi : i < rows.length) : mkAt rows k i (mkR rows[i] (k + mcRs (rows.take i))) = mkTo rows k (i + 1) := mkTo_set hi
theorem at_mkAt {rs : List (List (List D))} {r : Nat} {p : List (Nat × Nat)} {rows es : List (List D)} {k : Int} {i o : Nat} {row : List D} (hp : atR rs r p = some rows) (hi : i < rows.length) (h : row[o]? = some (.sl es)) :
    atR (updR rs r p (mkAt rows k i row)) r (p ++ [(i, o)]) = some es := atR_snoc (atR_updR hp) (by rw [mkAt_cell hi, h])
theorem upd_mkAt {rs : List (List (List D))} {r : Nat} {p : List (Nat × Nat)} {rows es new : List (List D)} {k : Int} {i o : Nat} {row : List D} (hp : atR rs r p = some rows) (hi : i < rows.length) (h : row[o]? = some (.sl es)) :
    updR (updR rs r p (mkAt rows k i row)) r (p ++ [(i, o)]) new = updR rs r p (mkAt rows k i (row.set o (.sl new))) := by
  rw [updR_snoc (atR_updR hp) (by rw [mkAt_cell hi, h]), updR_updR hp, mkAt_get hi, mkAt_set]
theorem mkRs_get : ∀ {rows : List (List D)} {k : Int} {i : Nat} (hi : i < rows.length), (mkRs rows k).getD i [] = mkR rows[i] (k + mcRs (rows.take i))
  | r :: rows, k, 0, _ => by simp [mkRs, mcRs]
  | r :: rows, k, i + 1, hi => by
    have := mkRs_get (rows := rows) (k := k + mcR r) (i := i) (by simpa using hi)
    rw [mkRs, List.getD_cons_succ, this, List.getElem_cons_succ, List.take_succ_cons, mcRs, Int.natCast_add, Int.add_assoc]
theorem len_mc {α : Type} {f : α → List D} (h : ∀ x, 1 ≤ mcR (f x)) : ∀ xs : List α, xs.length ≤ mcRs (xs.map f)
  | [] => Nat.zero_le _
  | x :: xs => by
    have h1 := h x
    have h2 := len_mc h xs
    rw [List.map_cons, mcRs, List.length_cons]
    omega
theorem sub_mk {P : Program} {f : FuncId} {S : Store} {l j r i o : Nat} {p : List (Nat × Nat)} {rs : List (List (List D))} {rows es new : List (List D)} {row : List D} {k : Int} {args : List V} {R : V}
    (hS : getO S (l, j) = some (.xf rs)) (hp : atR rs r p = some rows) (hi : i < rows.length) (h : row[o]? = some (.sl es))
    (hA : ∀ (S' : Store) (rs' : List (List (List D))), getO S' (1 + l, j) = some (.xf rs') → atR rs' r (p ++ [(i, o)]) = some es → ACall P f args S' (fun res S'' => res = R ∧ S'' = setO S' (1 + l, j) (.xf (updR rs' r (p ++ [(i, o)]) new)))) :
    ACall P f args ([] :: setO S (l, j) (.xf (updR rs r p (mkAt rows k i row)))) (fun res S'' => res = R ∧ S'' = [] :: setO S (l, j) (.xf (updR rs r p (mkAt rows k i (row.set o (.sl new)))))) := by
  refine (hA _ _ (by rw [getO_up1]; exact getO_setO_eq _ _ _ _ hS) (at_mkAt (k := k) hp hi h)).mono fun res S'' ⟨h1, h2⟩ => ⟨h1, ?_⟩
  rw [h2, setO_up1, setO_twice, upd_mkAt hp hi h]
theorem labRs_at : ∀ {rows : List (List D)} {n i : Nat} (hi : i < rows.length), (labRs rows n)[i]? = some (labR rows[i] (n + cntRs (rows.take i)))
  | r :: rows, n, 0, _ => by simp [labRs, cntRs]
  | r :: rows, n, i + 1, hi => by
    have := labRs_at (rows := rows) (n := n + cntR r) (i := i) (by simpa using hi)
    rw [labRs, List.getElem?_cons_succ, this, List.getElem_cons_succ, List.take_succ_cons, cntRs, Nat.add_assoc]
theorem mapM_toD : ∀ row : List D, (row.map C.d).mapM toD = some row
  | [] => rfl
  | d :: row => by
    have := mapM_toD row
    rw [List.map_cons, List.mapM_cons, this]; rfl
theorem dec_neg {a : Int} (h : 0 ≤ a) : decide (a < 0) = false := decide_eq_false (by omega)
end Go.Ab
namespace Go.Proofs.YtlmhknhlmicmeaaGreatDoor
open Go Go.Ab
theorem markText_ok (k : Int) (hk : -9223372036854775808 ≤ k ∧ k ≤ 4611686018427387904) : PCall Tryz.prog 181 [.c (.d (.i .i64 k))] (.c (.d (.s (mtext k)))) := fun S => by
  refine acall_cw (rs := [.tmp 2]) Tryz.checked.mixed Tryz.func181 Tryz.ntmps181 rfl rfl rfl rfl rfl ?_
  simp -implicitDefEqProofs (disch := omega) only [go_sem]
  with_reducible refine split2 (fun hb => ?_) (fun hb => ?_) <;> have h := hb <;> (try simp only [wf_preprocess] at h) <;> simp -implicitDefEqProofs (disch := omega) only [go_sem, hb] <;> (repeat (with_reducible refine And.intro ?_ ?_; focus first | omega | rfl | assumption | exact ⟨_, rfl, rfl⟩ | (simp; omega) | (simp; done)))
  · unfold mtext; rw [if_pos h]
  have hpos : ¬ k ≤ 0 := h
  refine loop_at (ι := Int × List UInt8) Tryz.checked.mixed rfl [0, 3] (fun y => [.c (.d (.i .i64 y.1)), .c (.d (.s y.2))]) (fun _ => [] :: S)
    (fun y => 0 ≤ y.1 ∧ mdig y.1.toNat y.2 = mdig k.toNat [] ∧ y.1 ≤ k ∧ y.1.toNat * 2 ^ y.2.length ≤ 4611686018427387904 ∧ y.2.length ≤ 63) (fun y => y.1.toNat) (k, []) rfl rfl ⟨by simp only; omega, rfl, by simp only; omega, by simp only [List.length_nil]; omega, by simp⟩ ?_
  rintro ⟨n, out⟩ ⟨p1, p2, p3, p4, p5⟩
  simp only at p1 p2 p3 p4 p5
  simp -implicitDefEqProofs (disch := omega) only [go_sem]
  with_reducible refine split2 (fun hb => ?_) (fun hb => ?_) <;> have h := hb <;> (try simp only [wf_preprocess] at h) <;> simp -implicitDefEqProofs (disch := omega) only [go_sem, hb] <;> (repeat (with_reducible refine And.intro ?_ ?_; focus first | omega | rfl | assumption | exact ⟨_, rfl, rfl⟩ | (simp; omega) | (simp; done)))
  · have hn : n.toNat ≠ 0 := by omega
    have hm := Int.tmod_nonneg 10 p1
    have hm2 := Int.tmod_lt_of_pos n (show (0 : Int) < 10 by omega)
    have hm3 : n.tmod 10 = (n.toNat % 10 : Nat) := by
      rw [Int.tmod_eq_emod_of_nonneg p1]
      omega
    have hq : n.tdiv 10 = (n.toNat / 10 : Nat) := by
      rw [Int.tdiv_eq_ediv_of_nonneg p1]
      omega
    have hlen : out.length ≤ 62 := by
      refine Nat.le_of_not_lt fun hgt => ?_
      have h1 : 2 ^ 63 ≤ 2 ^ out.length := Nat.pow_le_pow_right (by omega) (by omega)
      have h2 : 1 * 2 ^ out.length ≤ n.toNat * 2 ^ out.length := Nat.mul_le_mul_right _ (by omega)
      omega
    simp -implicitDefEqProofs (disch := omega) only [go_sem]
    have hc : UInt8.ofNat (IntKind.u8.wrap (48 + n.tmod 10)).toNat = UInt8.ofNat (48 + n.toNat % 10) := by
      rw [wrap_u8 _ (by omega), hm3]
      congr 1
    refine inv_at (ι := Int × List UInt8) (n.tdiv 10, UInt8.ofNat (48 + n.toNat % 10) :: out) (by simp only; omega) (by rw [← hc]; rfl) rfl ?_
    have hq2 : (n.tdiv 10).toNat = n.toNat / 10 := by omega
    refine ⟨by simp only; omega, ?_, by simp only; omega, ?_, by simp only [List.length_cons]; omega⟩
    · simp only
      rw [hq2, ← mdig_pos hn, p2]
    · simp only [List.length_cons]
      rw [hq2, Nat.pow_succ]
      have : n.toNat / 10 * 2 ≤ n.toNat := by omega
      calc n.toNat / 10 * (2 ^ out.length * 2) = n.toNat / 10 * 2 * 2 ^ out.length := by rw [Nat.mul_comm (2 ^ out.length) 2, Nat.mul_assoc]
        _ ≤ n.toNat * 2 ^ out.length := Nat.mul_le_mul_right _ this
        _ ≤ _ := p4
  · have : n.toNat = 0 := by omega
    rw [this, mdig_zero] at p2
    unfold mtext
    rw [if_neg hpos, p2]
end Go.Proofs.YtlmhknhlmicmeaaGreatDoor

namespace Go.Ab
theorem pl_encS (xs : List (List UInt8)) : plRs (xs.map encS) = true := plRs_map fun _ _ => rfl
theorem nw_encS (xs : List (List UInt8)) : nwRs (xs.map encS) = true := nwRs_map fun _ _ => ⟨rfl, by simp [encS]⟩
theorem lab_encS : ∀ (xs : List (List UInt8)) (n : Nat), labRs (xs.map encS) n = xs.map encS
  | [], _ => rfl
  | x :: xs, n => by rw [List.map_cons, labRs, lab_encS xs]; rfl
mutual
theorem MType.plw : ∀ x : MType, plR x.enc = true ∧ nwR x.enc = true
  | .mk a0 a1 a2 => by simp only [MType.enc, plR, plD, nwR, nwD, plR_append, nwR_append, Bool.and_true, Bool.true_and, Bool.and_self, and_self, and_true, true_and, (MType.plws a2).1, (MType.plws a2).2]
theorem MType.plws : ∀ xs : List MType, plRs (MType.encs xs) = true ∧ nwRs (MType.encs xs) = true
  | [] => ⟨rfl, rfl⟩
  | x :: xs => by
    have h : decide ((MType.enc x).length ≤ 32) = true := by rw [MType.enc_length]; rfl
    simp only [MType.encs, plRs, nwRs, h, (MType.plw x).1, (MType.plw x).2, (MType.plws xs).1, (MType.plws xs).2, Bool.and_self, and_self]
end
theorem MType.plms (xs : List MType) : plRs (xs.map MType.enc) = true ∧ nwRs (xs.map MType.enc) = true := by rw [← MType.encs_map]; exact MType.plws xs
theorem MBinding.plw (x : MBinding) : plR x.enc = true ∧ nwR x.enc = true := by
  rw [MBinding.enc_eq]; simp only [List.cons_append, List.nil_append, plR, plD, nwR, nwD, plR_append, nwR_append, Bool.and_true, Bool.true_and, Bool.and_self, and_self, and_true, true_and, (MType.plw x.fType).1, (MType.plw x.fType).2]
theorem MBinding.plms (xs : List MBinding) : plRs (xs.map MBinding.enc) = true ∧ nwRs (xs.map MBinding.enc) = true := ⟨plRs_map fun x _ => x.plw.1, nwRs_map fun x _ => ⟨x.plw.2, by rw [MBinding.enc_length]; decide⟩⟩
theorem MBound.plw (x : MBound) : plR x.enc = true ∧ nwR x.enc = true := by
  rw [MBound.enc_eq]; simp only [List.cons_append, List.nil_append, plR, plD, nwR, nwD, plR_append, nwR_append, Bool.and_true, Bool.true_and, Bool.and_self, and_self, and_true, true_and, (MType.plw x.fType).1, (MType.plw x.fType).2]
theorem MBound.plms (xs : List MBound) : plRs (xs.map MBound.enc) = true ∧ nwRs (xs.map MBound.enc) = true := ⟨plRs_map fun x _ => x.plw.1, nwRs_map fun x _ => ⟨x.plw.2, by rw [MBound.enc_length]; decide⟩⟩
mutual
theorem MExpr.plw : ∀ x : MExpr, plR x.enc = true ∧ nwR x.enc = true
  | .mk a0 a1 a2 a3 a4 a5 a6 => by simp only [MExpr.enc, plR, plD, nwR, nwD, plR_append, nwR_append, Bool.and_true, Bool.true_and, Bool.and_self, and_self, and_true, true_and, (MType.plw a4).1, (MType.plw a4).2, (MExpr.plws a5).1, (MExpr.plws a5).2, (MArm.plws a6).1, (MArm.plws a6).2]
theorem MExpr.plws : ∀ xs : List MExpr, plRs (MExpr.encs xs) = true ∧ nwRs (MExpr.encs xs) = true
  | [] => ⟨rfl, rfl⟩
  | x :: xs => by
    have h : decide ((MExpr.enc x).length ≤ 32) = true := by rw [MExpr.enc_length]; rfl
    simp only [MExpr.encs, plRs, nwRs, h, (MExpr.plw x).1, (MExpr.plw x).2, (MExpr.plws xs).1, (MExpr.plws xs).2, Bool.and_self, and_self]
theorem MArm.plw : ∀ x : MArm, plR x.enc = true ∧ nwR x.enc = true
  | .mk a0 a1 a2 => by simp only [MArm.enc, plR, plD, nwR, nwD, plR_append, nwR_append, Bool.and_true, Bool.true_and, Bool.and_self, and_self, and_true, true_and, pl_encS a1, nw_encS a1, (MExpr.plw a2).1, (MExpr.plw a2).2]
theorem MArm.plws : ∀ xs : List MArm, plRs (MArm.encs xs) = true ∧ nwRs (MArm.encs xs) = true
  | [] => ⟨rfl, rfl⟩
  | x :: xs => by
    have h : decide ((MArm.enc x).length ≤ 32) = true := by rw [MArm.enc_length]; rfl
    simp only [MArm.encs, plRs, nwRs, h, (MArm.plw x).1, (MArm.plw x).2, (MArm.plws xs).1, (MArm.plws xs).2, Bool.and_self, and_self]
end
theorem MExpr.plms (xs : List MExpr) : plRs (xs.map MExpr.enc) = true ∧ nwRs (xs.map MExpr.enc) = true := by rw [← MExpr.encs_map]; exact MExpr.plws xs
theorem MArm.plms (xs : List MArm) : plRs (xs.map MArm.enc) = true ∧ nwRs (xs.map MArm.enc) = true := by rw [← MArm.encs_map]; exact MArm.plws xs
mutual
theorem MSExpr.plw : ∀ x : MSExpr, plR x.enc = true ∧ nwR x.enc = true
  | .mk a0 a1 => by simp only [MSExpr.enc, plR, plD, nwR, nwD, plR_append, nwR_append, Bool.and_true, Bool.true_and, Bool.and_self, and_self, and_true, true_and, (MSExpr.plws a1).1, (MSExpr.plws a1).2]
theorem MSExpr.plws : ∀ xs : List MSExpr, plRs (MSExpr.encs xs) = true ∧ nwRs (MSExpr.encs xs) = true
  | [] => ⟨rfl, rfl⟩
  | x :: xs => by
    have h : decide ((MSExpr.enc x).length ≤ 32) = true := by rw [MSExpr.enc_length]; rfl
    simp only [MSExpr.encs, plRs, nwRs, h, (MSExpr.plw x).1, (MSExpr.plw x).2, (MSExpr.plws xs).1, (MSExpr.plws xs).2, Bool.and_self, and_self]
end
theorem MSExpr.plms (xs : List MSExpr) : plRs (xs.map MSExpr.enc) = true ∧ nwRs (xs.map MSExpr.enc) = true := by rw [← MSExpr.encs_map]; exact MSExpr.plws xs
theorem MSignature.plw (x : MSignature) : plR x.enc = true ∧ nwR x.enc = true := by
  rw [MSignature.enc_eq]; simp only [List.cons_append, List.nil_append, plR, plD, nwR, nwD, plR_append, nwR_append, Bool.and_true, Bool.true_and, Bool.and_self, and_self, and_true, true_and, (MType.plms x.fParams).1, (MType.plms x.fParams).2, (MType.plw x.fResult).1, (MType.plw x.fResult).2, pl_encS x.fVars, nw_encS x.fVars, (MExpr.plw x.fBody).1, (MExpr.plw x.fBody).2]
theorem MSignature.plms (xs : List MSignature) : plRs (xs.map MSignature.enc) = true ∧ nwRs (xs.map MSignature.enc) = true := ⟨plRs_map fun x _ => x.plw.1, nwRs_map fun x _ => ⟨x.plw.2, by rw [MSignature.enc_length]; decide⟩⟩
theorem MTrait.plw (x : MTrait) : plR x.enc = true ∧ nwR x.enc = true := by
  rw [MTrait.enc_eq]; simp only [List.cons_append, List.nil_append, plR, plD, nwR, nwD, plR_append, nwR_append, Bool.and_true, Bool.true_and, Bool.and_self, and_self, and_true, true_and, pl_encS x.fSupertraits, nw_encS x.fSupertraits, (MSignature.plms x.fSignatures).1, (MSignature.plms x.fSignatures).2]
theorem MTrait.plms (xs : List MTrait) : plRs (xs.map MTrait.enc) = true ∧ nwRs (xs.map MTrait.enc) = true := ⟨plRs_map fun x _ => x.plw.1, nwRs_map fun x _ => ⟨x.plw.2, by rw [MTrait.enc_length]; decide⟩⟩
theorem MConstructor.plw (x : MConstructor) : plR x.enc = true ∧ nwR x.enc = true := by
  rw [MConstructor.enc_eq]; simp only [List.cons_append, List.nil_append, plR, plD, nwR, nwD, plR_append, nwR_append, Bool.and_true, Bool.true_and, Bool.and_self, and_self, and_true, true_and, (MType.plms x.fFields).1, (MType.plms x.fFields).2]
theorem MConstructor.plms (xs : List MConstructor) : plRs (xs.map MConstructor.enc) = true ∧ nwRs (xs.map MConstructor.enc) = true := ⟨plRs_map fun x _ => x.plw.1, nwRs_map fun x _ => ⟨x.plw.2, by rw [MConstructor.enc_length]; decide⟩⟩
theorem MDataType.plw (x : MDataType) : plR x.enc = true ∧ nwR x.enc = true := by
  rw [MDataType.enc_eq]; simp only [List.cons_append, List.nil_append, plR, plD, nwR, nwD, plR_append, nwR_append, Bool.and_true, Bool.true_and, Bool.and_self, and_self, and_true, true_and, pl_encS x.fVars, nw_encS x.fVars, (MConstructor.plms x.fConstructors).1, (MConstructor.plms x.fConstructors).2]
theorem MDataType.plms (xs : List MDataType) : plRs (xs.map MDataType.enc) = true ∧ nwRs (xs.map MDataType.enc) = true := ⟨plRs_map fun x _ => x.plw.1, nwRs_map fun x _ => ⟨x.plw.2, by rw [MDataType.enc_length]; decide⟩⟩
theorem MMethod.plw (x : MMethod) : plR x.enc = true ∧ nwR x.enc = true := by
  rw [MMethod.enc_eq]; simp only [List.cons_append, List.nil_append, plR, plD, nwR, nwD, plR_append, nwR_append, Bool.and_true, Bool.true_and, Bool.and_self, and_self, and_true, true_and, pl_encS x.fVars, nw_encS x.fVars, (MExpr.plw x.fBody).1, (MExpr.plw x.fBody).2]
theorem MMethod.plms (xs : List MMethod) : plRs (xs.map MMethod.enc) = true ∧ nwRs (xs.map MMethod.enc) = true := ⟨plRs_map fun x _ => x.plw.1, nwRs_map fun x _ => ⟨x.plw.2, by rw [MMethod.enc_length]; decide⟩⟩
theorem MInstance.plw (x : MInstance) : plR x.enc = true ∧ nwR x.enc = true := by
  rw [MInstance.enc_eq]; simp only [List.cons_append, List.nil_append, plR, plD, nwR, nwD, plR_append, nwR_append, Bool.and_true, Bool.true_and, Bool.and_self, and_self, and_true, true_and, pl_encS x.fVars, nw_encS x.fVars, (MType.plw x.fHead).1, (MType.plw x.fHead).2, (MBound.plms x.fWhere).1, (MBound.plms x.fWhere).2, (MType.plw x.fAssoc).1, (MType.plw x.fAssoc).2, (MMethod.plms x.fMethods).1, (MMethod.plms x.fMethods).2]
theorem MInstance.plms (xs : List MInstance) : plRs (xs.map MInstance.enc) = true ∧ nwRs (xs.map MInstance.enc) = true := ⟨plRs_map fun x _ => x.plw.1, nwRs_map fun x _ => ⟨x.plw.2, by rw [MInstance.enc_length]; decide⟩⟩
theorem MParam.plw (x : MParam) : plR x.enc = true ∧ nwR x.enc = true := by
  rw [MParam.enc_eq]; simp only [List.cons_append, List.nil_append, plR, plD, nwR, nwD, plR_append, nwR_append, Bool.and_true, Bool.true_and, Bool.and_self, and_self, and_true, true_and, (MType.plw x.fType).1, (MType.plw x.fType).2]
theorem MParam.plms (xs : List MParam) : plRs (xs.map MParam.enc) = true ∧ nwRs (xs.map MParam.enc) = true := ⟨plRs_map fun x _ => x.plw.1, nwRs_map fun x _ => ⟨x.plw.2, by rw [MParam.enc_length]; decide⟩⟩
theorem MFunction.plw (x : MFunction) : plR x.enc = true ∧ nwR x.enc = true := by
  rw [MFunction.enc_eq]; simp only [List.cons_append, List.nil_append, plR, plD, nwR, nwD, plR_append, nwR_append, Bool.and_true, Bool.true_and, Bool.and_self, and_self, and_true, true_and, pl_encS x.fVars, nw_encS x.fVars, (MBound.plms x.fWhere).1, (MBound.plms x.fWhere).2, (MParam.plms x.fParams).1, (MParam.plms x.fParams).2, (MType.plw x.fResult).1, (MType.plw x.fResult).2, (MExpr.plw x.fBody).1, (MExpr.plw x.fBody).2]
theorem MFunction.plms (xs : List MFunction) : plRs (xs.map MFunction.enc) = true ∧ nwRs (xs.map MFunction.enc) = true := ⟨plRs_map fun x _ => x.plw.1, nwRs_map fun x _ => ⟨x.plw.2, by rw [MFunction.enc_length]; decide⟩⟩
theorem MPackage.plw (x : MPackage) : plR x.enc = true ∧ nwR x.enc = true := by
  rw [MPackage.enc_eq]; simp only [List.cons_append, List.nil_append, plR, plD, nwR, nwD, plR_append, nwR_append, Bool.and_true, Bool.true_and, Bool.and_self, and_self, and_true, true_and, pl_encS x.fDeps, nw_encS x.fDeps, (MTrait.plms x.fTraits).1, (MTrait.plms x.fTraits).2, (MDataType.plms x.fDataTypes).1, (MDataType.plms x.fDataTypes).2, (MInstance.plms x.fInstances).1, (MInstance.plms x.fInstances).2, (MFunction.plms x.fFunctions).1, (MFunction.plms x.fFunctions).2]
theorem MPackage.plms (xs : List MPackage) : plRs (xs.map MPackage.enc) = true ∧ nwRs (xs.map MPackage.enc) = true := ⟨plRs_map fun x _ => x.plw.1, nwRs_map fun x _ => ⟨x.plw.2, by rw [MPackage.enc_length]; decide⟩⟩
theorem MProgram.plw (x : MProgram) : plR x.enc = true ∧ nwR x.enc = true := by
  rw [MProgram.enc_eq]; simp only [List.cons_append, List.nil_append, plR, plD, nwR, nwD, plR_append, nwR_append, Bool.and_true, Bool.true_and, Bool.and_self, and_self, and_true, true_and, (MPackage.plms x.fPackages).1, (MPackage.plms x.fPackages).2]
theorem MProgram.plms (xs : List MProgram) : plRs (xs.map MProgram.enc) = true ∧ nwRs (xs.map MProgram.enc) = true := ⟨plRs_map fun x _ => x.plw.1, nwRs_map fun x _ => ⟨x.plw.2, by rw [MProgram.enc_length]; decide⟩⟩
theorem MInstanceRef.plw (x : MInstanceRef) : plR x.enc = true ∧ nwR x.enc = true := by
  rw [MInstanceRef.enc_eq]; simp only [List.cons_append, List.nil_append, plR, plD, nwR, nwD, plR_append, nwR_append, Bool.and_true, Bool.true_and, Bool.and_self, and_self, and_true, true_and]
theorem MInstanceRef.plms (xs : List MInstanceRef) : plRs (xs.map MInstanceRef.enc) = true ∧ nwRs (xs.map MInstanceRef.enc) = true := ⟨plRs_map fun x _ => x.plw.1, nwRs_map fun x _ => ⟨x.plw.2, by rw [MInstanceRef.enc_length]; decide⟩⟩
end Go.Ab

namespace Go.Proofs.YtlmhknhlmicmeaaGreatDoor
open Go Go.Ab
theorem eqType_all : ∀ n : Nat, (∀ x : MType, SizeOf.sizeOf x < n → ∀ y : MType, x.sz ≤ 1048576 → PCall Tryz.prog 100 [x.v, y.v] (.c (.d (.b (dec (x = y)))))) ∧
    (∀ xs : List MType, SizeOf.sizeOf xs < n → ∀ ys : List MType, xs.length + szRows (xs.map MType.enc) ≤ 1048576 → PCall Tryz.prog 192 [.c (.d (.sl (xs.map MType.enc))), .c (.d (.sl (ys.map MType.enc)))] (.c (.d (.b (dec (xs = ys))))))
  | 0 => ⟨fun x h => by omega, fun x h => by omega⟩
  | n + 1 => by
    obtain ⟨ihType, ihSType⟩ := eqType_all n
    refine ⟨fun x hn y hsz S => ?_, fun xs hn ys hsz S => ?_⟩
    · have lArgs := MType.lt_Args x
      simp only [MType.sz, MType.enc_eq, szRow, szRow_append, D.sz, List.length_map] at hsz
      refine acall_cw (rs := [.tmp 4]) Tryz.checked.mixed Tryz.func100 Tryz.ntmps100 rfl rfl rfl rfl rfl ?_
      simp -implicitDefEqProofs (disch := omega) only [go_sem]
      with_reducible refine split2 (fun hb => ?_) (fun hb => ?_) <;> have h := hb <;> (try simp only [wf_preprocess] at h) <;> simp -implicitDefEqProofs (disch := omega) only [go_sem, hb] <;> (repeat (with_reducible refine And.intro ?_ ?_; focus first | omega | rfl | assumption | exact ⟨_, rfl, rfl⟩ | (simp; omega) | (simp; done)))
      · exact bool_eq (dec_false (fun e => h (by rw [e]))).symm
      have eKind := h
      clear h
      with_reducible refine split2 (fun hb => ?_) (fun hb => ?_) <;> have h := hb <;> (try simp only [wf_preprocess] at h) <;> simp -implicitDefEqProofs (disch := omega) only [go_sem, hb] <;> (repeat (with_reducible refine And.intro ?_ ?_; focus first | omega | rfl | assumption | exact ⟨_, rfl, rfl⟩ | (simp; omega) | (simp; done)))
      · exact bool_eq (dec_false (fun e => h (by rw [e]))).symm
      have eName := h
      clear h
      refine call_w (ihSType x.fArgs (by omega) _ (by omega)) ?_
      simp -implicitDefEqProofs (disch := omega) only [go_sem]
      with_reducible refine split2 (fun hb => ?_) (fun hb => ?_) <;> have h := hb <;> (try simp only [wf_preprocess] at h) <;> simp -implicitDefEqProofs (disch := omega) only [go_sem, hb] <;> (repeat (with_reducible refine And.intro ?_ ?_; focus first | omega | rfl | assumption | exact ⟨_, rfl, rfl⟩ | (simp; omega) | (simp; done)))
      · exact bool_eq (dec_false (fun e => h (by rw [e]))).symm
      have eArgs := h
      clear h
      exact bool_eq (dec_true (MType.ext eKind eName eArgs)).symm
    · refine acall_cw (rs := [.tmp 4]) Tryz.checked.mixed Tryz.func192 Tryz.ntmps192 rfl rfl rfl rfl rfl ?_
      simp -implicitDefEqProofs (disch := omega) only [go_sem]
      with_reducible refine split2 (fun hb => ?_) (fun hb => ?_) <;> have h := hb <;> (try simp only [wf_preprocess] at h) <;> simp -implicitDefEqProofs (disch := omega) only [go_sem, hb] <;> (repeat (with_reducible refine And.intro ?_ ?_; focus first | omega | rfl | assumption | exact ⟨_, rfl, rfl⟩ | (simp; omega) | (simp; done)))
      · exact bool_eq (dec_false (fun e => h (by rw [e]))).symm
      have hl : xs.length = ys.length := by omega
      refine loop_at (ι := Nat) Tryz.checked.mixed rfl [0, 1, 5] (fun y => [.c (.d (.sl (xs.map MType.enc))), .c (.d (.sl (ys.map MType.enc))), .c (.d (.i .i64 y))]) (fun y => [] :: S)
        (fun i => i ≤ xs.length ∧ ∀ j, j < i → xs[j]? = ys[j]?) (fun y => xs.length - y) 0 rfl rfl ⟨Nat.zero_le _, fun j h => by omega⟩ ?_
      rintro i ⟨p1, p2⟩
      simp -implicitDefEqProofs (disch := omega) only [go_sem]
      with_reducible refine split2 (fun hb => ?_) (fun hb => ?_) <;> have h := hb <;> (try simp only [wf_preprocess] at h) <;> simp -implicitDefEqProofs (disch := omega) only [go_sem, hb] <;> (repeat (with_reducible refine And.intro ?_ ?_; focus first | omega | rfl | assumption | exact ⟨_, rfl, rfl⟩ | (simp; omega) | (simp; done)))
      · have hi : i < xs.length := by omega
        have hi' : i < ys.length := by omega
        have hx : xs[i].sz ≤ szRows (xs.map MType.enc) := szRows_mem (List.mem_map_of_mem (List.getElem_mem hi))
        (repeat (with_reducible refine And.intro ?_ ?_; focus first | omega | rfl | assumption | exact ⟨_, rfl, rfl⟩ | (simp; omega) | (simp; done)))
        refine call_w (ihType xs[i] (by have := List.sizeOf_lt_of_mem (List.getElem_mem hi); omega) ys[i] (by omega)) ?_
        simp -implicitDefEqProofs (disch := omega) only [go_sem]
        with_reducible refine split2 (fun hb => ?_) (fun hb => ?_) <;> have h := hb <;> (try simp only [wf_preprocess] at h) <;> simp -implicitDefEqProofs (disch := omega) only [go_sem, hb] <;> (repeat (with_reducible refine And.intro ?_ ?_; focus first | omega | rfl | assumption | exact ⟨_, rfl, rfl⟩ | (simp; omega) | (simp; done)))
        · exact bool_eq (dec_false (fun e => h (by simp only [e]))).symm
        refine inv_at (i + 1) (by omega) rfl rfl ⟨by omega, fun j hj => ?_⟩
        by_cases e : j = i
        · subst e
          rw [List.getElem?_eq_getElem hi, List.getElem?_eq_getElem hi', h]
        · exact p2 j (by omega)
      · have hi : i = xs.length := by omega
        refine bool_eq (dec_true (List.ext_getElem? fun j => ?_)).symm
        by_cases hj : j < i
        · exact p2 j hj
        · rw [List.getElem?_eq_none (by omega), List.getElem?_eq_none (by omega)]
theorem eqType_ok (x : MType) : ∀ y : MType, x.sz ≤ 1048576 → PCall Tryz.prog 100 [x.v, y.v] (.c (.d (.b (dec (x = y))))) := (eqType_all _).1 x (Nat.lt_succ_self _)
end Go.Proofs.YtlmhknhlmicmeaaGreatDoor

namespace Go.Proofs.YtlmhknhlmicmeaaGreatDoor
open Go Go.Ab
end Go.Proofs.YtlmhknhlmicmeaaGreatDoor

namespace Go.Proofs.YtlmhknhlmicmeaaGreatDoor
open Go Go.Ab
end Go.Proofs.YtlmhknhlmicmeaaGreatDoor

namespace Go.Proofs.YtlmhknhlmicmeaaGreatDoor
open Go Go.Ab
theorem eqExpr_all : ∀ n : Nat, (∀ x : MExpr, SizeOf.sizeOf x < n → ∀ y : MExpr, x.sz ≤ 1048576 → PCall Tryz.prog 23 [x.v, y.v] (.c (.d (.b (dec (x = y)))))) ∧
    (∀ xs : List MExpr, SizeOf.sizeOf xs < n → ∀ ys : List MExpr, xs.length + szRows (xs.map MExpr.enc) ≤ 1048576 → PCall Tryz.prog 101 [.c (.d (.sl (xs.map MExpr.enc))), .c (.d (.sl (ys.map MExpr.enc)))] (.c (.d (.b (dec (xs = ys)))))) ∧
    (∀ x : MArm, SizeOf.sizeOf x < n → ∀ y : MArm, x.sz ≤ 1048576 → PCall Tryz.prog 193 [x.v, y.v] (.c (.d (.b (dec (x = y)))))) ∧
    (∀ xs : List MArm, SizeOf.sizeOf xs < n → ∀ ys : List MArm, xs.length + szRows (xs.map MArm.enc) ≤ 1048576 → PCall Tryz.prog 102 [.c (.d (.sl (xs.map MArm.enc))), .c (.d (.sl (ys.map MArm.enc)))] (.c (.d (.b (dec (xs = ys))))))
  | 0 => ⟨fun x h => by omega, fun x h => by omega, fun x h => by omega, fun x h => by omega⟩
  | n + 1 => by
    obtain ⟨ihExpr, ihSExpr, ihArm, ihSArm⟩ := eqExpr_all n
    refine ⟨fun x hn y hsz S => ?_, fun xs hn ys hsz S => ?_, fun x hn y hsz S => ?_, fun xs hn ys hsz S => ?_⟩
    · have lArgs := MExpr.lt_Args x
      have lArms := MExpr.lt_Arms x
      simp only [MExpr.sz, MExpr.enc_eq, szRow, szRow_append, D.sz, List.length_map, MType.sz_def] at hsz
      refine acall_cw (rs := [.tmp 4]) Tryz.checked.mixed Tryz.func23 Tryz.ntmps23 rfl rfl rfl rfl rfl ?_
      simp -implicitDefEqProofs (disch := omega) only [go_sem]
      with_reducible refine split2 (fun hb => ?_) (fun hb => ?_) <;> have h := hb <;> (try simp only [wf_preprocess] at h) <;> simp -implicitDefEqProofs (disch := omega) only [go_sem, hb] <;> (repeat (with_reducible refine And.intro ?_ ?_; focus first | omega | rfl | assumption | exact ⟨_, rfl, rfl⟩ | (simp; omega) | (simp; done)))
      · exact bool_eq (dec_false (fun e => h (by rw [e]))).symm
      have eKind := h
      clear h
      with_reducible refine split2 (fun hb => ?_) (fun hb => ?_) <;> have h := hb <;> (try simp only [wf_preprocess] at h) <;> simp -implicitDefEqProofs (disch := omega) only [go_sem, hb] <;> (repeat (with_reducible refine And.intro ?_ ?_; focus first | omega | rfl | assumption | exact ⟨_, rfl, rfl⟩ | (simp; omega) | (simp; done)))
      · exact bool_eq (dec_false (fun e => h (by rw [e]))).symm
      have eTrait := h
      clear h
      with_reducible refine split2 (fun hb => ?_) (fun hb => ?_) <;> have h := hb <;> (try simp only [wf_preprocess] at h) <;> simp -implicitDefEqProofs (disch := omega) only [go_sem, hb] <;> (repeat (with_reducible refine And.intro ?_ ?_; focus first | omega | rfl | assumption | exact ⟨_, rfl, rfl⟩ | (simp; omega) | (simp; done)))
      · exact bool_eq (dec_false (fun e => h (by rw [e]))).symm
      have eName := h
      clear h
      with_reducible refine split2 (fun hb => ?_) (fun hb => ?_) <;> have h := hb <;> (try simp only [wf_preprocess] at h) <;> simp -implicitDefEqProofs (disch := omega) only [go_sem, hb] <;> (repeat (with_reducible refine And.intro ?_ ?_; focus first | omega | rfl | assumption | exact ⟨_, rfl, rfl⟩ | (simp; omega) | (simp; done)))
      · exact bool_eq (dec_false (fun e => h (by rw [e]))).symm
      have eN := h
      clear h
      refine call_w (eqType_ok x.fType _ (by omega)) ?_
      simp -implicitDefEqProofs (disch := omega) only [go_sem]
      with_reducible refine split2 (fun hb => ?_) (fun hb => ?_) <;> have h := hb <;> (try simp only [wf_preprocess] at h) <;> simp -implicitDefEqProofs (disch := omega) only [go_sem, hb] <;> (repeat (with_reducible refine And.intro ?_ ?_; focus first | omega | rfl | assumption | exact ⟨_, rfl, rfl⟩ | (simp; omega) | (simp; done)))
      · exact bool_eq (dec_false (fun e => h (by rw [e]))).symm
      have eType := h
      clear h
      refine call_w (ihSExpr x.fArgs (by omega) _ (by omega)) ?_
      simp -implicitDefEqProofs (disch := omega) only [go_sem]
      with_reducible refine split2 (fun hb => ?_) (fun hb => ?_) <;> have h := hb <;> (try simp only [wf_preprocess] at h) <;> simp -implicitDefEqProofs (disch := omega) only [go_sem, hb] <;> (repeat (with_reducible refine And.intro ?_ ?_; focus first | omega | rfl | assumption | exact ⟨_, rfl, rfl⟩ | (simp; omega) | (simp; done)))
      · exact bool_eq (dec_false (fun e => h (by rw [e]))).symm
      have eArgs := h
      clear h
      refine call_w (ihSArm x.fArms (by omega) _ (by omega)) ?_
      simp -implicitDefEqProofs (disch := omega) only [go_sem]
      with_reducible refine split2 (fun hb => ?_) (fun hb => ?_) <;> have h := hb <;> (try simp only [wf_preprocess] at h) <;> simp -implicitDefEqProofs (disch := omega) only [go_sem, hb] <;> (repeat (with_reducible refine And.intro ?_ ?_; focus first | omega | rfl | assumption | exact ⟨_, rfl, rfl⟩ | (simp; omega) | (simp; done)))
      · exact bool_eq (dec_false (fun e => h (by rw [e]))).symm
      have eArms := h
      clear h
      exact bool_eq (dec_true (MExpr.ext eKind eTrait eName eN eType eArgs eArms)).symm
    · refine acall_cw (rs := [.tmp 4]) Tryz.checked.mixed Tryz.func101 Tryz.ntmps101 rfl rfl rfl rfl rfl ?_
      simp -implicitDefEqProofs (disch := omega) only [go_sem]
      with_reducible refine split2 (fun hb => ?_) (fun hb => ?_) <;> have h := hb <;> (try simp only [wf_preprocess] at h) <;> simp -implicitDefEqProofs (disch := omega) only [go_sem, hb] <;> (repeat (with_reducible refine And.intro ?_ ?_; focus first | omega | rfl | assumption | exact ⟨_, rfl, rfl⟩ | (simp; omega) | (simp; done)))
      · exact bool_eq (dec_false (fun e => h (by rw [e]))).symm
      have hl : xs.length = ys.length := by omega
      refine loop_at (ι := Nat) Tryz.checked.mixed rfl [0, 1, 5] (fun y => [.c (.d (.sl (xs.map MExpr.enc))), .c (.d (.sl (ys.map MExpr.enc))), .c (.d (.i .i64 y))]) (fun y => [] :: S)
        (fun i => i ≤ xs.length ∧ ∀ j, j < i → xs[j]? = ys[j]?) (fun y => xs.length - y) 0 rfl rfl ⟨Nat.zero_le _, fun j h => by omega⟩ ?_
      rintro i ⟨p1, p2⟩
      simp -implicitDefEqProofs (disch := omega) only [go_sem]
      with_reducible refine split2 (fun hb => ?_) (fun hb => ?_) <;> have h := hb <;> (try simp only [wf_preprocess] at h) <;> simp -implicitDefEqProofs (disch := omega) only [go_sem, hb] <;> (repeat (with_reducible refine And.intro ?_ ?_; focus first | omega | rfl | assumption | exact ⟨_, rfl, rfl⟩ | (simp; omega) | (simp; done)))
      · have hi : i < xs.length := by omega
        have hi' : i < ys.length := by omega
        have hx : xs[i].sz ≤ szRows (xs.map MExpr.enc) := szRows_mem (List.mem_map_of_mem (List.getElem_mem hi))
        (repeat (with_reducible refine And.intro ?_ ?_; focus first | omega | rfl | assumption | exact ⟨_, rfl, rfl⟩ | (simp; omega) | (simp; done)))
        refine call_w (ihExpr xs[i] (by have := List.sizeOf_lt_of_mem (List.getElem_mem hi); omega) ys[i] (by omega)) ?_
        simp -implicitDefEqProofs (disch := omega) only [go_sem]
        with_reducible refine split2 (fun hb => ?_) (fun hb => ?_) <;> have h := hb <;> (try simp only [wf_preprocess] at h) <;> simp -implicitDefEqProofs (disch := omega) only [go_sem, hb] <;> (repeat (with_reducible refine And.intro ?_ ?_; focus first | omega | rfl | assumption | exact ⟨_, rfl, rfl⟩ | (simp; omega) | (simp; done)))
        · exact bool_eq (dec_false (fun e => h (by simp only [e]))).symm
        refine inv_at (i + 1) (by omega) rfl rfl ⟨by omega, fun j hj => ?_⟩
        by_cases e : j = i
        · subst e
          rw [List.getElem?_eq_getElem hi, List.getElem?_eq_getElem hi', h]
        · exact p2 j (by omega)
      · have hi : i = xs.length := by omega
        refine bool_eq (dec_true (List.ext_getElem? fun j => ?_)).symm
        by_cases hj : j < i
        · exact p2 j hj
        · rw [List.getElem?_eq_none (by omega), List.getElem?_eq_none (by omega)]
    · have lBody := MArm.lt_Body x
      simp only [MArm.sz, MArm.enc_eq, szRow, szRow_append, D.sz, List.length_map, MExpr.sz_def] at hsz
      refine acall_cw (rs := [.tmp 4]) Tryz.checked.mixed Tryz.func193 Tryz.ntmps193 rfl rfl rfl rfl rfl ?_
      simp -implicitDefEqProofs (disch := omega) only [go_sem]
      with_reducible refine split2 (fun hb => ?_) (fun hb => ?_) <;> have h := hb <;> (try simp only [wf_preprocess] at h) <;> simp -implicitDefEqProofs (disch := omega) only [go_sem, hb] <;> (repeat (with_reducible refine And.intro ?_ ?_; focus first | omega | rfl | assumption | exact ⟨_, rfl, rfl⟩ | (simp; omega) | (simp; done)))
      · exact bool_eq (dec_false (fun e => h (by rw [e]))).symm
      have eConstructor := h
      clear h
      refine call_w (eqStringS_ok x.fVars _ (by omega)) ?_
      simp -implicitDefEqProofs (disch := omega) only [go_sem]
      with_reducible refine split2 (fun hb => ?_) (fun hb => ?_) <;> have h := hb <;> (try simp only [wf_preprocess] at h) <;> simp -implicitDefEqProofs (disch := omega) only [go_sem, hb] <;> (repeat (with_reducible refine And.intro ?_ ?_; focus first | omega | rfl | assumption | exact ⟨_, rfl, rfl⟩ | (simp; omega) | (simp; done)))
      · exact bool_eq (dec_false (fun e => h (by rw [e]))).symm
      have eVars := h
      clear h
      refine call_w (ihExpr x.fBody (by omega) _ (by omega)) ?_
      simp -implicitDefEqProofs (disch := omega) only [go_sem]
      with_reducible refine split2 (fun hb => ?_) (fun hb => ?_) <;> have h := hb <;> (try simp only [wf_preprocess] at h) <;> simp -implicitDefEqProofs (disch := omega) only [go_sem, hb] <;> (repeat (with_reducible refine And.intro ?_ ?_; focus first | omega | rfl | assumption | exact ⟨_, rfl, rfl⟩ | (simp; omega) | (simp; done)))
      · exact bool_eq (dec_false (fun e => h (by rw [e]))).symm
      have eBody := h
      clear h
      exact bool_eq (dec_true (MArm.ext eConstructor eVars eBody)).symm
    · refine acall_cw (rs := [.tmp 4]) Tryz.checked.mixed Tryz.func102 Tryz.ntmps102 rfl rfl rfl rfl rfl ?_
      simp -implicitDefEqProofs (disch := omega) only [go_sem]
      with_reducible refine split2 (fun hb => ?_) (fun hb => ?_) <;> have h := hb <;> (try simp only [wf_preprocess] at h) <;> simp -implicitDefEqProofs (disch := omega) only [go_sem, hb] <;> (repeat (with_reducible refine And.intro ?_ ?_; focus first | omega | rfl | assumption | exact ⟨_, rfl, rfl⟩ | (simp; omega) | (simp; done)))
      · exact bool_eq (dec_false (fun e => h (by rw [e]))).symm
      have hl : xs.length = ys.length := by omega
      refine loop_at (ι := Nat) Tryz.checked.mixed rfl [0, 1, 5] (fun y => [.c (.d (.sl (xs.map MArm.enc))), .c (.d (.sl (ys.map MArm.enc))), .c (.d (.i .i64 y))]) (fun y => [] :: S)
        (fun i => i ≤ xs.length ∧ ∀ j, j < i → xs[j]? = ys[j]?) (fun y => xs.length - y) 0 rfl rfl ⟨Nat.zero_le _, fun j h => by omega⟩ ?_
      rintro i ⟨p1, p2⟩
      simp -implicitDefEqProofs (disch := omega) only [go_sem]
      with_reducible refine split2 (fun hb => ?_) (fun hb => ?_) <;> have h := hb <;> (try simp only [wf_preprocess] at h) <;> simp -implicitDefEqProofs (disch := omega) only [go_sem, hb] <;> (repeat (with_reducible refine And.intro ?_ ?_; focus first | omega | rfl | assumption | exact ⟨_, rfl, rfl⟩ | (simp; omega) | (simp; done)))
      · have hi : i < xs.length := by omega
        have hi' : i < ys.length := by omega
        have hx : xs[i].sz ≤ szRows (xs.map MArm.enc) := szRows_mem (List.mem_map_of_mem (List.getElem_mem hi))
        (repeat (with_reducible refine And.intro ?_ ?_; focus first | omega | rfl | assumption | exact ⟨_, rfl, rfl⟩ | (simp; omega) | (simp; done)))
        refine call_w (ihArm xs[i] (by have := List.sizeOf_lt_of_mem (List.getElem_mem hi); omega) ys[i] (by omega)) ?_
        simp -implicitDefEqProofs (disch := omega) only [go_sem]
        with_reducible refine split2 (fun hb => ?_) (fun hb => ?_) <;> have h := hb <;> (try simp only [wf_preprocess] at h) <;> simp -implicitDefEqProofs (disch := omega) only [go_sem, hb] <;> (repeat (with_reducible refine And.intro ?_ ?_; focus first | omega | rfl | assumption | exact ⟨_, rfl, rfl⟩ | (simp; omega) | (simp; done)))
        · exact bool_eq (dec_false (fun e => h (by simp only [e]))).symm
        refine inv_at (i + 1) (by omega) rfl rfl ⟨by omega, fun j hj => ?_⟩
        by_cases e : j = i
        · subst e
          rw [List.getElem?_eq_getElem hi, List.getElem?_eq_getElem hi', h]
        · exact p2 j (by omega)
      · have hi : i = xs.length := by omega
        refine bool_eq (dec_true (List.ext_getElem? fun j => ?_)).symm
        by_cases hj : j < i
        · exact p2 j hj
        · rw [List.getElem?_eq_none (by omega), List.getElem?_eq_none (by omega)]
theorem eqExpr_ok (x : MExpr) : ∀ y : MExpr, x.sz ≤ 1048576 → PCall Tryz.prog 23 [x.v, y.v] (.c (.d (.b (dec (x = y))))) := (eqExpr_all _).1 x (Nat.lt_succ_self _)
end Go.Proofs.YtlmhknhlmicmeaaGreatDoor

namespace Go.Proofs.YtlmhknhlmicmeaaGreatDoor
open Go Go.Ab
theorem szSExpr_all : ∀ n : Nat, (∀ x : MSExpr, SizeOf.sizeOf x < n → ∀ left : Int, 0 ≤ left → left ≤ 1048576 → FitL x.enc → PCall Tryz.prog 26 [x.v, .c (.d (.i .i64 left))] (.c (.d (.i .i64 (sub1 left x.sz))))) ∧
    (∀ xs : List MSExpr, SizeOf.sizeOf xs < n → ∀ left : Int, 0 ≤ left → left ≤ 1048576 → (D.sl (xs.map MSExpr.enc)).Fit → PCall Tryz.prog 103 [.c (.d (.sl (xs.map MSExpr.enc))), .c (.d (.i .i64 left))] (.c (.d (.i .i64 (sub1 left (xs.length + szRows (xs.map MSExpr.enc)))))))
  | 0 => ⟨fun x h => by omega, fun x h => by omega⟩
  | n + 1 => by
    obtain ⟨ihSExpr, ihSSExpr⟩ := szSExpr_all n
    refine ⟨fun x hn left h0 h1 hf S => ?_, fun xs hn left h0 h1 hf S => ?_⟩
    · have lList := MSExpr.lt_List x
      simp only [MSExpr.enc_eq, List.cons_append, List.nil_append, fitL_cons, fitL_append, fitL_nil_iff, and_true] at hf
      obtain ⟨fAtom, fList⟩ := hf
      have hz : x.sz = x.fAtom.length + ((x.fList.length + szRows (x.fList.map MSExpr.enc))) := by
        simp only [MSExpr.sz, MSExpr.enc_eq, szRow, szRow_append, D.sz, List.length_map, Nat.add_zero, Nat.zero_add] <;> omega
      refine acall_cw (rs := [.tmp 4]) Tryz.checked.mixed Tryz.func26 Tryz.ntmps26 rfl rfl rfl rfl rfl ?_
      rw [hz]
      have gAtom := fit_s fAtom
      simp -implicitDefEqProofs (disch := omega) only [go_sem]
      with_reducible refine split2 (fun hb => ?_) (fun hb => ?_) <;> have h := hb <;> (try simp only [wf_preprocess] at h) <;> simp -implicitDefEqProofs (disch := omega) only [go_sem, hb] <;> (repeat (with_reducible refine And.intro ?_ ?_; focus first | omega | rfl | assumption | exact ⟨_, rfl, rfl⟩ | (simp; omega) | (simp; done)))
      · exact int_eq (sub1_no (by omega)).symm
      refine call_w (ihSSExpr x.fList (by omega) _ (by omega) (by omega) fList) ?_
      simp -implicitDefEqProofs (disch := omega) only [go_sem]
      with_reducible refine split2 (fun hb => ?_) (fun hb => ?_) <;> have h := hb <;> (try simp only [wf_preprocess] at h) <;> simp -implicitDefEqProofs (disch := omega) only [go_sem, hb] <;> (repeat (with_reducible refine And.intro ?_ ?_; focus first | omega | rfl | assumption | exact ⟨_, rfl, rfl⟩ | (simp; omega) | (simp; done)))
      · have h' := sub1_neg h
        exact int_eq (sub1_no (by omega)).symm
      have hList := sub1_nn h
      simp only [hList.1]
      refine int_eq ?_
      rw [sub1_yes (by omega)]
      omega
    · obtain ⟨hf1, hf2⟩ := fit_sl hf
      rw [List.length_map] at hf1
      refine acall_cw (rs := [.tmp 4]) Tryz.checked.mixed Tryz.func103 Tryz.ntmps103 rfl rfl rfl rfl rfl ?_
      simp -implicitDefEqProofs (disch := omega) only [go_sem]
      with_reducible refine split2 (fun hb => ?_) (fun hb => ?_) <;> have h := hb <;> (try simp only [wf_preprocess] at h) <;> simp -implicitDefEqProofs (disch := omega) only [go_sem, hb] <;> (repeat (with_reducible refine And.intro ?_ ?_; focus first | omega | rfl | assumption | exact ⟨_, rfl, rfl⟩ | (simp; omega) | (simp; done)))
      · exact int_eq (sub1_no (by omega)).symm
      refine loop_at (ι := Nat × Int) Tryz.checked.mixed rfl [0, 1, 5] (fun y => [.c (.d (.sl (xs.map MSExpr.enc))), .c (.d (.i .i64 y.2)), .c (.d (.i .i64 y.1))]) (fun _ => [] :: S)
        (fun y => y.1 ≤ xs.length ∧ 0 ≤ y.2 ∧ y.2 ≤ 1048576 ∧ sub1 y.2 (szRows ((xs.map MSExpr.enc).drop y.1)) = sub1 left (xs.length + szRows (xs.map MSExpr.enc))) (fun y => xs.length - y.1) (0, left - xs.length) rfl rfl ⟨by omega, by omega, by omega, ?_⟩ ?_
      · unfold sub1
        rw [List.drop_zero]
        split <;> split <;> omega
      rintro ⟨i, l⟩ ⟨p1, p2, p3, p4⟩
      simp only at p1 p2 p3 p4
      simp -implicitDefEqProofs (disch := omega) only [go_sem]
      with_reducible refine split2 (fun hb => ?_) (fun hb => ?_) <;> have h := hb <;> (try simp only [wf_preprocess] at h) <;> simp -implicitDefEqProofs (disch := omega) only [go_sem, hb] <;> (repeat (with_reducible refine And.intro ?_ ?_; focus first | omega | rfl | assumption | exact ⟨_, rfl, rfl⟩ | (simp; omega) | (simp; done)))
      · have hi : i < xs.length := by omega
        rw [List.drop_eq_getElem_cons (by rw [List.length_map]; exact hi), szRows, List.getElem_map, MSExpr.sz_def] at p4
        (repeat (with_reducible refine And.intro ?_ ?_; focus first | omega | rfl | assumption | exact ⟨_, rfl, rfl⟩ | (simp; omega) | (simp; done)))
        refine call_w (ihSExpr xs[i] (by have := List.sizeOf_lt_of_mem (List.getElem_mem hi); omega) _ (by omega) (by omega) (hf2 _ (List.mem_map_of_mem (List.getElem_mem hi)))) ?_
        simp -implicitDefEqProofs (disch := omega) only [go_sem]
        with_reducible refine split2 (fun hb => ?_) (fun hb => ?_) <;> have h := hb <;> (try simp only [wf_preprocess] at h) <;> simp -implicitDefEqProofs (disch := omega) only [go_sem, hb] <;> (repeat (with_reducible refine And.intro ?_ ?_; focus first | omega | rfl | assumption | exact ⟨_, rfl, rfl⟩ | (simp; omega) | (simp; done)))
        · have h' := sub1_neg h
          rw [← p4, sub1_no (by omega)]
        · have h' := sub1_nn h
          refine inv_at (i + 1, sub1 l _) (by simp only; omega) rfl rfl ⟨by simp only; omega, by simp only; omega, by simp only; omega, ?_⟩
          simp only
          rw [← p4, h'.1]
          unfold sub1
          split <;> split <;> omega
      · have hi : i = xs.length := by omega
        rw [hi, List.drop_of_length_le (by simp), szRows, sub1_yes (by omega)] at p4
        rw [← p4]
        refine int_eq ?_
        omega
theorem szSExpr_ok (x : MSExpr) : ∀ left : Int, 0 ≤ left → left ≤ 1048576 → FitL x.enc → PCall Tryz.prog 26 [x.v, .c (.d (.i .i64 left))] (.c (.d (.i .i64 (sub1 left x.sz)))) := (szSExpr_all _).1 x (Nat.lt_succ_self _)
theorem toSExpr_all : ∀ n : Nat, (∀ x : MSExpr, SizeOf.sizeOf x < n → x.sz ≤ 1048576 → PCall Tryz.prog 28 [x.v] x.v) ∧
    (∀ xs : List MSExpr, SizeOf.sizeOf xs < n → xs.length + szRows (xs.map MSExpr.enc) ≤ 1048576 → PCall Tryz.prog 109 [.c (.d (.sl (xs.map MSExpr.enc)))] (.c (.d (.sl (xs.map MSExpr.enc)))))
  | 0 => ⟨fun x h => by omega, fun x h => by omega⟩
  | n + 1 => by
    obtain ⟨ihSExpr, ihSSExpr⟩ := toSExpr_all n
    refine ⟨fun x hn hsz S => ?_, fun xs hn hsz S => ?_⟩
    · have lList := MSExpr.lt_List x
      simp only [MSExpr.sz, MSExpr.enc_eq, szRow, szRow_append, D.sz, List.length_map] at hsz
      refine acall_cw (rs := [.cell 2 32]) Tryz.checked.mixed Tryz.func28 Tryz.ntmps28 rfl rfl rfl rfl rfl ?_
      simp -implicitDefEqProofs (disch := omega) only [go_sem]
      refine call_w (ihSSExpr x.fList (by omega) (by omega)) ?_
      simp -implicitDefEqProofs (disch := omega) only [go_sem]
    · refine acall_cw (rs := [.tmp 2]) Tryz.checked.mixed Tryz.func109 Tryz.ntmps109 rfl rfl rfl rfl rfl ?_
      simp -implicitDefEqProofs (disch := omega) only [go_sem]
      (repeat (with_reducible refine And.intro ?_ ?_; focus first | omega | rfl | assumption | exact ⟨_, rfl, rfl⟩ | (simp; omega) | (simp; done)))
      refine loop_at (ι := Nat × List (List D)) Tryz.checked.mixed rfl [0, 3, 4] (fun y => [.c (.d (.sl (xs.map MSExpr.enc))), .c (.msl (0, 0)), .c (.d (.i .i64 y.1))]) (fun y => [.mrow 2 y.2] :: S)
        (fun y => y.1 ≤ xs.length ∧ Filled 2 y.1 y.2 (xs.map MSExpr.enc)) (fun y => xs.length - y.1) (0, _) rfl rfl ⟨Nat.zero_le _, Filled.start (by simp) rfl⟩ ?_
      rintro ⟨i, R⟩ ⟨p1, p2⟩
      simp only at p1 p2
      simp -implicitDefEqProofs (disch := omega) only [go_sem]
      with_reducible refine split2 (fun hb => ?_) (fun hb => ?_) <;> have h := hb <;> (try simp only [wf_preprocess] at h) <;> simp -implicitDefEqProofs (disch := omega) only [go_sem, hb] <;> (repeat (with_reducible refine And.intro ?_ ?_; focus first | omega | rfl | assumption | exact ⟨_, rfl, rfl⟩ | (simp; omega) | (simp; done)))
      · have hi : i < xs.length := by omega
        have hx : xs[i].sz ≤ szRows (xs.map MSExpr.enc) := szRows_mem (List.mem_map_of_mem (List.getElem_mem hi))
        (repeat (with_reducible refine And.intro ?_ ?_; focus first | omega | rfl | assumption | exact ⟨_, rfl, rfl⟩ | (simp; omega) | (simp; done)))
        refine call_w (ihSExpr xs[i] (by have := List.sizeOf_lt_of_mem (List.getElem_mem hi); omega) (by omega)) ?_
        simp -implicitDefEqProofs (disch := omega) only [go_sem]
        have hR := p2.1
        rw [List.length_map] at hR
        (repeat (with_reducible refine And.intro ?_ ?_; focus first | omega | rfl | assumption | exact ⟨_, rfl, rfl⟩ | (simp; omega) | (simp; done)))
        refine inv_at (i + 1, _) (by simp only; omega) rfl rfl ⟨by simp only; omega, p2.step (by simp [hi, MSExpr.enc_eq]) rfl⟩
      · have hi : i = xs.length := by omega
        rw [p2.done (by rw [List.length_map]; omega)]
theorem toSExpr_ok (x : MSExpr) : x.sz ≤ 1048576 → PCall Tryz.prog 28 [x.v] x.v := (toSExpr_all _).1 x (Nat.lt_succ_self _)
theorem eqSExpr_all : ∀ n : Nat, (∀ x : MSExpr, SizeOf.sizeOf x < n → ∀ y : MSExpr, x.sz ≤ 1048576 → PCall Tryz.prog 14 [x.v, y.v] (.c (.d (.b (dec (x = y)))))) ∧
    (∀ xs : List MSExpr, SizeOf.sizeOf xs < n → ∀ ys : List MSExpr, xs.length + szRows (xs.map MSExpr.enc) ≤ 1048576 → PCall Tryz.prog 76 [.c (.d (.sl (xs.map MSExpr.enc))), .c (.d (.sl (ys.map MSExpr.enc)))] (.c (.d (.b (dec (xs = ys))))))
  | 0 => ⟨fun x h => by omega, fun x h => by omega⟩
  | n + 1 => by
    obtain ⟨ihSExpr, ihSSExpr⟩ := eqSExpr_all n
    refine ⟨fun x hn y hsz S => ?_, fun xs hn ys hsz S => ?_⟩
    · have lList := MSExpr.lt_List x
      simp only [MSExpr.sz, MSExpr.enc_eq, szRow, szRow_append, D.sz, List.length_map] at hsz
      refine acall_cw (rs := [.tmp 4]) Tryz.checked.mixed Tryz.func14 Tryz.ntmps14 rfl rfl rfl rfl rfl ?_
      simp -implicitDefEqProofs (disch := omega) only [go_sem]
      with_reducible refine split2 (fun hb => ?_) (fun hb => ?_) <;> have h := hb <;> (try simp only [wf_preprocess] at h) <;> simp -implicitDefEqProofs (disch := omega) only [go_sem, hb] <;> (repeat (with_reducible refine And.intro ?_ ?_; focus first | omega | rfl | assumption | exact ⟨_, rfl, rfl⟩ | (simp; omega) | (simp; done)))
      · exact bool_eq (dec_false (fun e => h (by rw [e]))).symm
      have eAtom := h
      clear h
      refine call_w (ihSSExpr x.fList (by omega) _ (by omega)) ?_
      simp -implicitDefEqProofs (disch := omega) only [go_sem]
      with_reducible refine split2 (fun hb => ?_) (fun hb => ?_) <;> have h := hb <;> (try simp only [wf_preprocess] at h) <;> simp -implicitDefEqProofs (disch := omega) only [go_sem, hb] <;> (repeat (with_reducible refine And.intro ?_ ?_; focus first | omega | rfl | assumption | exact ⟨_, rfl, rfl⟩ | (simp; omega) | (simp; done)))
      · exact bool_eq (dec_false (fun e => h (by rw [e]))).symm
      have eList := h
      clear h
      exact bool_eq (dec_true (MSExpr.ext eAtom eList)).symm
    · refine acall_cw (rs := [.tmp 4]) Tryz.checked.mixed Tryz.func76 Tryz.ntmps76 rfl rfl rfl rfl rfl ?_
      simp -implicitDefEqProofs (disch := omega) only [go_sem]
      with_reducible refine split2 (fun hb => ?_) (fun hb => ?_) <;> have h := hb <;> (try simp only [wf_preprocess] at h) <;> simp -implicitDefEqProofs (disch := omega) only [go_sem, hb] <;> (repeat (with_reducible refine And.intro ?_ ?_; focus first | omega | rfl | assumption | exact ⟨_, rfl, rfl⟩ | (simp; omega) | (simp; done)))
      · exact bool_eq (dec_false (fun e => h (by rw [e]))).symm
      have hl : xs.length = ys.length := by omega
      refine loop_at (ι := Nat) Tryz.checked.mixed rfl [0, 1, 5] (fun y => [.c (.d (.sl (xs.map MSExpr.enc))), .c (.d (.sl (ys.map MSExpr.enc))), .c (.d (.i .i64 y))]) (fun y => [] :: S)
        (fun i => i ≤ xs.length ∧ ∀ j, j < i → xs[j]? = ys[j]?) (fun y => xs.length - y) 0 rfl rfl ⟨Nat.zero_le _, fun j h => by omega⟩ ?_
      rintro i ⟨p1, p2⟩
      simp -implicitDefEqProofs (disch := omega) only [go_sem]
      with_reducible refine split2 (fun hb => ?_) (fun hb => ?_) <;> have h := hb <;> (try simp only [wf_preprocess] at h) <;> simp -implicitDefEqProofs (disch := omega) only [go_sem, hb] <;> (repeat (with_reducible refine And.intro ?_ ?_; focus first | omega | rfl | assumption | exact ⟨_, rfl, rfl⟩ | (simp; omega) | (simp; done)))
      · have hi : i < xs.length := by omega
        have hi' : i < ys.length := by omega
        have hx : xs[i].sz ≤ szRows (xs.map MSExpr.enc) := szRows_mem (List.mem_map_of_mem (List.getElem_mem hi))
        (repeat (with_reducible refine And.intro ?_ ?_; focus first | omega | rfl | assumption | exact ⟨_, rfl, rfl⟩ | (simp; omega) | (simp; done)))
        refine call_w (ihSExpr xs[i] (by have := List.sizeOf_lt_of_mem (List.getElem_mem hi); omega) ys[i] (by omega)) ?_
        simp -implicitDefEqProofs (disch := omega) only [go_sem]
        with_reducible refine split2 (fun hb => ?_) (fun hb => ?_) <;> have h := hb <;> (try simp only [wf_preprocess] at h) <;> simp -implicitDefEqProofs (disch := omega) only [go_sem, hb] <;> (repeat (with_reducible refine And.intro ?_ ?_; focus first | omega | rfl | assumption | exact ⟨_, rfl, rfl⟩ | (simp; omega) | (simp; done)))
        · exact bool_eq (dec_false (fun e => h (by simp only [e]))).symm
        refine inv_at (i + 1) (by omega) rfl rfl ⟨by omega, fun j hj => ?_⟩
        by_cases e : j = i
        · subst e
          rw [List.getElem?_eq_getElem hi, List.getElem?_eq_getElem hi', h]
        · exact p2 j (by omega)
      · have hi : i = xs.length := by omega
        refine bool_eq (dec_true (List.ext_getElem? fun j => ?_)).symm
        by_cases hj : j < i
        · exact p2 j hj
        · rw [List.getElem?_eq_none (by omega), List.getElem?_eq_none (by omega)]
theorem eqSExpr_ok (x : MSExpr) : ∀ y : MSExpr, x.sz ≤ 1048576 → PCall Tryz.prog 14 [x.v, y.v] (.c (.d (.b (dec (x = y))))) := (eqSExpr_all _).1 x (Nat.lt_succ_self _)
end Go.Proofs.YtlmhknhlmicmeaaGreatDoor

namespace Go.Proofs.YtlmhknhlmicmeaaGreatDoor
open Go Go.Ab
end Go.Proofs.YtlmhknhlmicmeaaGreatDoor

namespace Go.Proofs.YtlmhknhlmicmeaaGreatDoor
open Go Go.Ab
end Go.Proofs.YtlmhknhlmicmeaaGreatDoor

namespace Go.Proofs.YtlmhknhlmicmeaaGreatDoor
open Go Go.Ab
end Go.Proofs.YtlmhknhlmicmeaaGreatDoor

namespace Go.Proofs.YtlmhknhlmicmeaaGreatDoor
open Go Go.Ab
end Go.Proofs.YtlmhknhlmicmeaaGreatDoor

namespace Go.Proofs.YtlmhknhlmicmeaaGreatDoor
open Go Go.Ab
end Go.Proofs.YtlmhknhlmicmeaaGreatDoor

namespace Go.Proofs.YtlmhknhlmicmeaaGreatDoor
open Go Go.Ab
theorem l1In_ok (n a b : Int) : PCall Tryz.prog 245 [.c (.d (.i .i64 n)), .c (.d (.i .i64 a)), .c (.d (.i .i64 b))] (.c (.d (.b (dec (a ≤ n ∧ n ≤ b))))) := fun S => by
  refine acall_cw (rs := [.tmp 6]) Tryz.checked.mixed Tryz.func245 Tryz.ntmps245 rfl rfl rfl rfl rfl ?_
  simp -implicitDefEqProofs (disch := omega) only [go_sem]
  with_reducible refine split2 (fun hb => ?_) (fun hb => ?_) <;> have h := hb <;> (try simp only [wf_preprocess] at h) <;> simp -implicitDefEqProofs (disch := omega) only [go_sem, hb] <;> (repeat (with_reducible refine And.intro ?_ ?_; focus first | omega | rfl | assumption | exact ⟨_, rfl, rfl⟩ | (simp; omega) | (simp; done)))
  · exact bool_eq (by rw [decide_dec]; exact dec_congr ⟨fun x => ⟨by omega, x⟩, fun x => x.2⟩)
  · exact bool_eq (dec_false (by omega)).symm
theorem l1Has_ok (xs : List (List UInt8)) (s : List UInt8) (hl : xs.length ≤ 1073741824) : PCall Tryz.prog 135 [.c (.d (.sl (xs.map encS))), .c (.d (.s s))] (.c (.d (.b (dec (s ∈ xs))))) := fun S => by
  refine acall_cw (rs := [.tmp 4]) Tryz.checked.mixed Tryz.func135 Tryz.ntmps135 rfl rfl rfl rfl rfl ?_
  simp -implicitDefEqProofs (disch := omega) only [go_sem, encS]
  refine loop_at (ι := Nat) Tryz.checked.mixed rfl [0, 1, 5] (fun i => [.c (.d (.sl (xs.map encS))), .c (.d (.s s)), .c (.d (.i .i64 i))]) (fun _ => [] :: S)
    (fun i => i ≤ xs.length ∧ ∀ j, j < i → ∀ h : j < xs.length, xs[j] ≠ s) (fun i => xs.length - i) 0 rfl rfl ⟨Nat.zero_le _, fun j h => by omega⟩ ?_
  rintro i ⟨p1, p2⟩
  simp -implicitDefEqProofs (disch := omega) only [go_sem, encS]
  with_reducible refine split2 (fun hb => ?_) (fun hb => ?_) <;> have h := hb <;> (try simp only [wf_preprocess] at h) <;> simp -implicitDefEqProofs (disch := omega) only [go_sem, hb, encS] <;> (repeat (with_reducible refine And.intro ?_ ?_; focus first | omega | rfl | assumption | exact ⟨_, rfl, rfl⟩ | (simp; omega) | (simp; done)))
  · have hi : i < xs.length := by omega
    with_reducible refine split2 (fun hb => ?_) (fun hb => ?_) <;> have h := hb <;> (try simp only [wf_preprocess] at h) <;> simp -implicitDefEqProofs (disch := omega) only [go_sem, hb, encS] <;> (repeat (with_reducible refine And.intro ?_ ?_; focus first | omega | rfl | assumption | exact ⟨_, rfl, rfl⟩ | (simp; omega) | (simp; done)))
    · exact bool_eq (dec_true (by rw [← h]; exact List.getElem_mem hi)).symm
    · refine inv_at (i + 1) (by omega) rfl rfl ⟨by omega, fun j hj hl => ?_⟩
      by_cases e : j = i
      · subst e; exact h
      · exact p2 j (by omega) hl
  · refine bool_eq (dec_false fun hm => ?_).symm
    obtain ⟨j, h1, h2⟩ := List.getElem_of_mem hm
    exact p2 j (by omega) h1 h2
theorem indexS_ok (xs : List (List UInt8)) (s : List UInt8) (hl : xs.length ≤ 1073741824) : PCall Tryz.prog 266 [.c (.d (.sl (xs.map encS))), .c (.d (.s s))] (.c (.d (.i .i64 (indexS xs s)))) := fun S => by
  refine acall_cw (rs := [.tmp 4]) Tryz.checked.mixed Tryz.func266 Tryz.ntmps266 rfl rfl rfl rfl rfl ?_
  simp -implicitDefEqProofs (disch := omega) only [go_sem, encS]
  refine loop_at (ι := Nat) Tryz.checked.mixed rfl [0, 1, 7, 8] (fun i => [.c (.d (.sl (xs.map encS))), .c (.d (.s s)), .c (.d (.i .i64 xs.length)), .c (.d (.i .i64 i))]) (fun _ => [] :: S)
    (fun i => i ≤ xs.length ∧ ∀ j, j < i → xs.getD j [] ≠ s) (fun i => xs.length - i) 0 rfl rfl ⟨Nat.zero_le _, fun j h => by omega⟩ ?_
  rintro i ⟨p1, p2⟩
  simp -implicitDefEqProofs (disch := omega) only [go_sem, encS]
  with_reducible refine split2 (fun hb => ?_) (fun hb => ?_) <;> have h := hb <;> (try simp only [wf_preprocess] at h) <;> simp -implicitDefEqProofs (disch := omega) only [go_sem, hb, encS] <;> (repeat (with_reducible refine And.intro ?_ ?_; focus first | omega | rfl | assumption | exact ⟨_, rfl, rfl⟩ | (simp; omega) | (simp; done)))
  · have hi : i < xs.length := by omega
    have e : xs.getD i [] = xs[i] := by simp [List.getD, hi]
    with_reducible refine split2 (fun hb => ?_) (fun hb => ?_) <;> have h := hb <;> (try simp only [wf_preprocess] at h) <;> simp -implicitDefEqProofs (disch := omega) only [go_sem, hb, encS] <;> (repeat (with_reducible refine And.intro ?_ ?_; focus first | omega | rfl | assumption | exact ⟨_, rfl, rfl⟩ | (simp; omega) | (simp; done)))
    · rw [indexS_here hi p2 (by rw [e]; exact h.symm)]
    · refine inv_at (i + 1) (by omega) rfl rfl ⟨by omega, fun j hj => ?_⟩
      by_cases e' : j = i
      · subst e'; rw [e]; exact fun x => h x.symm
      · exact p2 j (by omega)
  · rw [indexS_no (fun j hj => p2 j (by omega))]
theorem containsS_ok (xs : List (List UInt8)) (s : List UInt8) (hl : xs.length ≤ 1073741824) : PCall Tryz.prog 231 [.c (.d (.sl (xs.map encS))), .c (.d (.s s))] (.c (.d (.b (dec (s ∈ xs))))) := fun S => by
  refine acall_cw (rs := [.tmp 4]) Tryz.checked.mixed Tryz.func231 Tryz.ntmps231 rfl rfl rfl rfl rfl ?_
  simp -implicitDefEqProofs (disch := omega) only [go_sem]
  refine call_w (indexS_ok xs s hl) ?_
  simp -implicitDefEqProofs (disch := omega) only [go_sem] <;> (repeat (with_reducible refine And.intro ?_ ?_; focus first | omega | rfl | assumption | exact ⟨_, rfl, rfl⟩ | (simp; omega) | (simp; done)))
  exact bool_eq indexS_pos
theorem specReserved_ok (s : List UInt8) : PCall Tryz.prog 246 [.c (.d (.s s))] (.c (.d (.b (dec (s ∈ reserved))))) := fun S => by
  refine acall_cw (rs := [.tmp 2]) Tryz.checked.mixed Tryz.func246 Tryz.ntmps246 rfl rfl rfl rfl rfl ?_
  simp -implicitDefEqProofs (disch := omega) only [go_sem]
  (repeat (with_reducible refine And.intro ?_ ?_; focus first | omega | rfl | assumption | exact ⟨_, rfl, rfl⟩ | (simp; omega) | (simp; done)))
  refine call_w (l1Has_ok reserved s (by decide)) ?_
  simp -implicitDefEqProofs (disch := omega) only [go_sem] <;> (repeat (with_reducible refine And.intro ?_ ?_; focus first | omega | rfl | assumption | exact ⟨_, rfl, rfl⟩ | (simp; omega) | (simp; done)))
theorem implReserved_ok (s : List UInt8) : PCall Tryz.prog 263 [.c (.d (.s s))] (.c (.d (.b (dec (s ∈ reserved))))) := fun S => by
  refine acall_cw (rs := [.tmp 2]) Tryz.checked.mixed Tryz.func263 Tryz.ntmps263 rfl rfl rfl rfl rfl ?_
  simp -implicitDefEqProofs (disch := omega) only [go_sem]
  (repeat (with_reducible refine And.intro ?_ ?_; focus first | omega | rfl | assumption | exact ⟨_, rfl, rfl⟩ | (simp; omega) | (simp; done)))
  refine call_w (containsS_ok reserved s (by decide)) ?_
  simp -implicitDefEqProofs (disch := omega) only [go_sem] <;> (repeat (with_reducible refine And.intro ?_ ?_; focus first | omega | rfl | assumption | exact ⟨_, rfl, rfl⟩ | (simp; omega) | (simp; done)))
theorem isLower_ok (b : UInt8) : PCall Tryz.prog 261 [.c (.d (.i .u8 b.toNat))] (.c (.d (.b (dec (lowerB b))))) := fun S => by
  refine acall_cw (rs := [.tmp 2]) Tryz.checked.mixed Tryz.func261 Tryz.ntmps261 rfl rfl rfl rfl rfl ?_
  simp -implicitDefEqProofs (disch := omega) only [go_sem]
  with_reducible refine split2 (fun hb => ?_) (fun hb => ?_) <;> have h := hb <;> (try simp only [wf_preprocess] at h) <;> simp -implicitDefEqProofs (disch := omega) only [go_sem, hb] <;> (repeat (with_reducible refine And.intro ?_ ?_; focus first | omega | rfl | assumption | exact ⟨_, rfl, rfl⟩ | (simp; omega) | (simp; done)))
  · exact bool_eq (by rw [decide_dec]; exact dec_congr ⟨fun x => ⟨by omega, by omega⟩, fun x => by have := x.2; omega⟩)
  · exact bool_eq (dec_false fun x => by have := x.1; omega).symm
theorem isDigit_ok (b : UInt8) : PCall Tryz.prog 262 [.c (.d (.i .u8 b.toNat))] (.c (.d (.b (dec (digitB b))))) := fun S => by
  refine acall_cw (rs := [.tmp 2]) Tryz.checked.mixed Tryz.func262 Tryz.ntmps262 rfl rfl rfl rfl rfl ?_
  simp -implicitDefEqProofs (disch := omega) only [go_sem]
  with_reducible refine split2 (fun hb => ?_) (fun hb => ?_) <;> have h := hb <;> (try simp only [wf_preprocess] at h) <;> simp -implicitDefEqProofs (disch := omega) only [go_sem, hb] <;> (repeat (with_reducible refine And.intro ?_ ?_; focus first | omega | rfl | assumption | exact ⟨_, rfl, rfl⟩ | (simp; omega) | (simp; done)))
  · exact bool_eq (by rw [decide_dec]; exact dec_congr ⟨fun x => ⟨by omega, by omega⟩, fun x => by have := x.2; omega⟩)
  · exact bool_eq (dec_false fun x => by have := x.1; omega).symm
theorem implValidName_ok (s : List UInt8) (hl : s.length ≤ 1073741824) : PCall Tryz.prog 168 [.c (.d (.s s))] (.c (.d (.b (validName s)))) := fun S => by
  refine acall_cw (rs := [.tmp 2]) Tryz.checked.mixed Tryz.func168 Tryz.ntmps168 rfl rfl rfl rfl rfl ?_
  simp -implicitDefEqProofs (disch := omega) only [go_sem]
  refine loop_at (ι := Nat) Tryz.checked.mixed rfl [0, 5, 6] (fun i => [.c (.d (.s s)), .c (.d (.i .i64 s.length)), .c (.d (.i .i64 i))]) (fun _ => [] :: S)
    (fun i => i ≤ s.length ∧ ∀ j, j < i → lowerB (s.getD j 0) ∨ (j ≠ 0 ∧ digitB (s.getD j 0))) (fun i => s.length - i) 0 rfl rfl ⟨Nat.zero_le _, fun j h => by omega⟩ ?_
  rintro i ⟨p1, p2⟩
  have next : i < s.length → (lowerB (s.getD i 0) ∨ (i ≠ 0 ∧ digitB (s.getD i 0))) → ∀ j, j < i + 1 → lowerB (s.getD j 0) ∨ (j ≠ 0 ∧ digitB (s.getD j 0)) := fun hi h j hj => by
    by_cases e : j = i
    · subst e; exact h
    · exact p2 j (by omega)
  have bad : i < s.length → ¬ (lowerB (s.getD i 0) ∨ (i ≠ 0 ∧ digitB (s.getD i 0))) → validName s = false := fun hi h => dec_false fun x => h (x.2.2 i hi)
  simp -implicitDefEqProofs (disch := omega) only [go_sem]
  with_reducible refine split2 (fun hb => ?_) (fun hb => ?_) <;> have h := hb <;> (try simp only [wf_preprocess] at h) <;> simp -implicitDefEqProofs (disch := omega) only [go_sem, hb] <;> (repeat (with_reducible refine And.intro ?_ ?_; focus first | omega | rfl | assumption | exact ⟨_, rfl, rfl⟩ | (simp; omega) | (simp; done)))
  · have hi : i < s.length := by omega
    (repeat (with_reducible refine And.intro ?_ ?_; focus first | omega | rfl | assumption | exact ⟨_, rfl, rfl⟩ | (simp; omega) | (simp; done)))
    refine call_w (isLower_ok (s.getD i 0)) ?_
    simp -implicitDefEqProofs (disch := omega) only [go_sem] <;> (repeat (with_reducible refine And.intro ?_ ?_; focus first | omega | rfl | assumption | exact ⟨_, rfl, rfl⟩ | (simp; omega) | (simp; done)))
    with_reducible refine split2 (fun hb => ?_) (fun hb => ?_) <;> have h := hb <;> (try simp only [wf_preprocess] at h) <;> simp -implicitDefEqProofs (disch := omega) only [go_sem, hb] <;> (repeat (with_reducible refine And.intro ?_ ?_; focus first | omega | rfl | assumption | exact ⟨_, rfl, rfl⟩ | (simp; omega) | (simp; done)))
    · have nl := h
      with_reducible refine split2 (fun hb => ?_) (fun hb => ?_) <;> have h := hb <;> (try simp only [wf_preprocess] at h) <;> simp -implicitDefEqProofs (disch := omega) only [go_sem, hb] <;> (repeat (with_reducible refine And.intro ?_ ?_; focus first | omega | rfl | assumption | exact ⟨_, rfl, rfl⟩ | (simp; omega) | (simp; done)))
      · have i0 : i = 0 := by omega
        rw [bad hi (fun x => x.elim nl fun y => y.1 i0)]
      · have ne := h
        (repeat (with_reducible refine And.intro ?_ ?_; focus first | omega | rfl | assumption | exact ⟨_, rfl, rfl⟩ | (simp; omega) | (simp; done)))
        refine call_w (isDigit_ok (s.getD i 0)) ?_
        simp -implicitDefEqProofs (disch := omega) only [go_sem] <;> (repeat (with_reducible refine And.intro ?_ ?_; focus first | omega | rfl | assumption | exact ⟨_, rfl, rfl⟩ | (simp; omega) | (simp; done)))
        with_reducible refine split2 (fun hb => ?_) (fun hb => ?_) <;> have h := hb <;> (try simp only [wf_preprocess] at h) <;> simp -implicitDefEqProofs (disch := omega) only [go_sem, hb] <;> (repeat (with_reducible refine And.intro ?_ ?_; focus first | omega | rfl | assumption | exact ⟨_, rfl, rfl⟩ | (simp; omega) | (simp; done)))
        · rw [bad hi (fun x => x.elim nl fun y => h y.2)]
        · exact inv_at (i + 1) (by omega) rfl rfl ⟨by omega, next hi (.inr ⟨by omega, h⟩)⟩
    · exact inv_at (i + 1) (by omega) rfl rfl ⟨by omega, next hi (.inl h)⟩
  · have hn : nameOk s := fun j hj => p2 j (by omega)
    have h0 : ∀ b, dec (s ∈ reserved) = b → ∀ c, decide ((s.length : Int) ≥ 1) = c → ∀ d, decide ((s.length : Int) ≤ 8) = d → validName s = (c && d && !b) := by
      rintro b rfl c rfl d rfl
      unfold validName
      rw [Bool.eq_iff_iff]
      simp only [dec_eq_true, Bool.and_eq_true, decide_eq_true_eq, Bool.not_eq_true', dec_eq_false]
      exact ⟨fun x => ⟨⟨by omega, by omega⟩, x.2.1⟩, fun x => ⟨⟨by omega, by omega⟩, x.2, hn⟩⟩
    with_reducible refine split2 (fun hb => ?_) (fun hb => ?_) <;> have h := hb <;> (try simp only [wf_preprocess] at h) <;> simp -implicitDefEqProofs (disch := omega) only [go_sem, hb] <;> (repeat (with_reducible refine And.intro ?_ ?_; focus first | omega | rfl | assumption | exact ⟨_, rfl, rfl⟩ | (simp; omega) | (simp; done)))
    · have c1 := hb
      with_reducible refine split2 (fun hb => ?_) (fun hb => ?_) <;> have h := hb <;> (try simp only [wf_preprocess] at h) <;> simp -implicitDefEqProofs (disch := omega) only [go_sem, hb] <;> (repeat (with_reducible refine And.intro ?_ ?_; focus first | omega | rfl | assumption | exact ⟨_, rfl, rfl⟩ | (simp; omega) | (simp; done)))
      · refine call_w (implReserved_ok s) ?_
        simp -implicitDefEqProofs (disch := omega) only [go_sem] <;> (repeat (with_reducible refine And.intro ?_ ?_; focus first | omega | rfl | assumption | exact ⟨_, rfl, rfl⟩ | (simp; omega) | (simp; done)))
        exact bool_eq (by rw [h0 _ rfl _ c1 _ hb]; simp)
      · exact bool_eq (by rw [h0 _ rfl _ c1 _ hb]; simp)
    · exact bool_eq (by rw [h0 _ rfl _ hb _ rfl]; simp)
theorem specValidName_ok (s : List UInt8) (hl : s.length ≤ 1073741824) : PCall Tryz.prog 152 [.c (.d (.s s))] (.c (.d (.b (validName s)))) := fun S => by
  have bad : ¬ nameOk s → validName s = false := fun h => dec_false fun x => h x.2.2
  refine acall_cw (rs := [.tmp 2]) Tryz.checked.mixed Tryz.func152 Tryz.ntmps152 rfl rfl rfl rfl rfl ?_
  simp -implicitDefEqProofs (disch := omega) only [go_sem]
  refine call_w (l1In_ok s.length 1 8) ?_
  simp -implicitDefEqProofs (disch := omega) only [go_sem] <;> (repeat (with_reducible refine And.intro ?_ ?_; focus first | omega | rfl | assumption | exact ⟨_, rfl, rfl⟩ | (simp; omega) | (simp; done)))
  with_reducible refine split2 (fun hb => ?_) (fun hb => ?_) <;> have h := hb <;> (try simp only [wf_preprocess] at h) <;> simp -implicitDefEqProofs (disch := omega) only [go_sem, hb] <;> (repeat (with_reducible refine And.intro ?_ ?_; focus first | omega | rfl | assumption | exact ⟨_, rfl, rfl⟩ | (simp; omega) | (simp; done)))
  · rw [show validName s = false from dec_false fun x => h (by omega)]
  have hlen := h
  refine call_w (specReserved_ok s) ?_
  simp -implicitDefEqProofs (disch := omega) only [go_sem] <;> (repeat (with_reducible refine And.intro ?_ ?_; focus first | omega | rfl | assumption | exact ⟨_, rfl, rfl⟩ | (simp; omega) | (simp; done)))
  with_reducible refine split2 (fun hb => ?_) (fun hb => ?_) <;> have h := hb <;> (try simp only [wf_preprocess] at h) <;> simp -implicitDefEqProofs (disch := omega) only [go_sem, hb] <;> (repeat (with_reducible refine And.intro ?_ ?_; focus first | omega | rfl | assumption | exact ⟨_, rfl, rfl⟩ | (simp; omega) | (simp; done)))
  · rw [show validName s = false from dec_false fun x => x.2.1 h]
  have hres := h
  refine loop_at (ι := Nat) Tryz.checked.mixed rfl [0, 3] (fun i => [.c (.d (.s s)), .c (.d (.i .i64 i))]) (fun _ => [] :: S)
    (fun i => i ≤ s.length ∧ ∀ j, j < i → lowerB (s.getD j 0) ∨ (j ≠ 0 ∧ digitB (s.getD j 0))) (fun i => s.length - i) 0 rfl rfl ⟨Nat.zero_le _, fun j h => by omega⟩ ?_
  rintro i ⟨p1, p2⟩
  have next : i < s.length → (lowerB (s.getD i 0) ∨ (i ≠ 0 ∧ digitB (s.getD i 0))) → ∀ j, j < i + 1 → lowerB (s.getD j 0) ∨ (j ≠ 0 ∧ digitB (s.getD j 0)) := fun hi h j hj => by
    by_cases e : j = i
    · subst e; exact h
    · exact p2 j (by omega)
  simp -implicitDefEqProofs (disch := omega) only [go_sem]
  with_reducible refine split2 (fun hb => ?_) (fun hb => ?_) <;> have h := hb <;> (try simp only [wf_preprocess] at h) <;> simp -implicitDefEqProofs (disch := omega) only [go_sem, hb] <;> (repeat (with_reducible refine And.intro ?_ ?_; focus first | omega | rfl | assumption | exact ⟨_, rfl, rfl⟩ | (simp; omega) | (simp; done)))
  · have hi : i < s.length := by omega
    have bad' : ¬ (lowerB (s.getD i 0) ∨ (i ≠ 0 ∧ digitB (s.getD i 0))) → validName s = false := fun h => bad fun x => h (x i hi)
    have next := next hi
    unfold lowerB digitB at bad' next
    all_goals try (with_reducible refine split2 (fun hb => ?_) (fun hb => ?_) <;> have h := hb <;> (try simp only [wf_preprocess] at h) <;> simp -implicitDefEqProofs (disch := omega) only [go_sem, hb] <;> (repeat (with_reducible refine And.intro ?_ ?_; focus first | omega | rfl | assumption | exact ⟨_, rfl, rfl⟩ | (simp; omega) | (simp; done))))
    all_goals try (with_reducible refine split2 (fun hb => ?_) (fun hb => ?_) <;> have h := hb <;> (try simp only [wf_preprocess] at h) <;> simp -implicitDefEqProofs (disch := omega) only [go_sem, hb] <;> (repeat (with_reducible refine And.intro ?_ ?_; focus first | omega | rfl | assumption | exact ⟨_, rfl, rfl⟩ | (simp; omega) | (simp; done))))
    all_goals try (with_reducible refine split2 (fun hb => ?_) (fun hb => ?_) <;> have h := hb <;> (try simp only [wf_preprocess] at h) <;> simp -implicitDefEqProofs (disch := omega) only [go_sem, hb] <;> (repeat (with_reducible refine And.intro ?_ ?_; focus first | omega | rfl | assumption | exact ⟨_, rfl, rfl⟩ | (simp; omega) | (simp; done))))
    all_goals try (with_reducible refine split2 (fun hb => ?_) (fun hb => ?_) <;> have h := hb <;> (try simp only [wf_preprocess] at h) <;> simp -implicitDefEqProofs (disch := omega) only [go_sem, hb] <;> (repeat (with_reducible refine And.intro ?_ ?_; focus first | omega | rfl | assumption | exact ⟨_, rfl, rfl⟩ | (simp; omega) | (simp; done))))
    all_goals try (with_reducible refine split2 (fun hb => ?_) (fun hb => ?_) <;> have h := hb <;> (try simp only [wf_preprocess] at h) <;> simp -implicitDefEqProofs (disch := omega) only [go_sem, hb] <;> (repeat (with_reducible refine And.intro ?_ ?_; focus first | omega | rfl | assumption | exact ⟨_, rfl, rfl⟩ | (simp; omega) | (simp; done))))
    all_goals try (with_reducible refine split2 (fun hb => ?_) (fun hb => ?_) <;> have h := hb <;> (try simp only [wf_preprocess] at h) <;> simp -implicitDefEqProofs (disch := omega) only [go_sem, hb] <;> (repeat (with_reducible refine And.intro ?_ ?_; focus first | omega | rfl | assumption | exact ⟨_, rfl, rfl⟩ | (simp; omega) | (simp; done))))
    all_goals first
      | exact inv_at (i + 1) (by omega) rfl rfl ⟨by omega, next (by omega)⟩
      | exact bool_eq (bad' (by omega)).symm
  · rw [show validName s = true from dec_true ⟨by omega, hres, fun j hj => p2 j (by omega)⟩]
theorem l4Base_ok (s : List UInt8) : PCall Tryz.prog 346 [.c (.d (.s s))] (.c (.d (.b (builtInB s)))) := fun S => by
  refine acall_cw (rs := [.tmp 2]) Tryz.checked.mixed Tryz.func346 Tryz.ntmps346 rfl rfl rfl rfl rfl ?_
  simp -implicitDefEqProofs (disch := omega) only [go_sem]
  with_reducible refine split2 (fun hb => ?_) (fun hb => ?_) <;> have h := hb <;> (try simp only [wf_preprocess] at h) <;> simp -implicitDefEqProofs (disch := omega) only [go_sem, hb] <;> (repeat (with_reducible refine And.intro ?_ ?_; focus first | omega | rfl | assumption | exact ⟨_, rfl, rfl⟩ | (simp; omega) | (simp; done)))
  · exact bool_eq (dec_true (.inl h)).symm
  · exact bool_eq (by rw [decide_dec]; exact dec_congr ⟨fun x => .inr x, fun x => x.resolve_left h⟩)
theorem isBuiltIn_ok (s : List UInt8) : PCall Tryz.prog 351 [.c (.d (.s s))] (.c (.d (.b (builtInB s)))) := fun S => by
  refine acall_cw (rs := [.tmp 2]) Tryz.checked.mixed Tryz.func351 Tryz.ntmps351 rfl rfl rfl rfl rfl ?_
  simp -implicitDefEqProofs (disch := omega) only [go_sem]
  with_reducible refine split2 (fun hb => ?_) (fun hb => ?_) <;> have h := hb <;> (try simp only [wf_preprocess] at h) <;> simp -implicitDefEqProofs (disch := omega) only [go_sem, hb] <;> (repeat (with_reducible refine And.intro ?_ ?_; focus first | omega | rfl | assumption | exact ⟨_, rfl, rfl⟩ | (simp; omega) | (simp; done)))
  · exact bool_eq (dec_true (.inl h)).symm
  · exact bool_eq (by rw [decide_dec]; exact dec_congr ⟨fun x => .inr x, fun x => x.resolve_left h⟩)
end Go.Proofs.YtlmhknhlmicmeaaGreatDoor

