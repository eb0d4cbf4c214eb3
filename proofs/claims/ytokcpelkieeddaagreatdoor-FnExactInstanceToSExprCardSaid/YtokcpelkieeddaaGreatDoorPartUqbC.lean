/-
  SEVERAL TEXTS IN ONE (merged by program): contracts and models, each with its own heading.
-/
import Derived.Test.YtokcpelkieeddaaGreatDoorPartUqbB
import Derived.Test.YtokcpelkieeddaaGreatDoorChecked
import Derived.Eval
import Derived.KernelRfl
set_option linter.unusedSimpArgs false
set_option linter.unusedVariables false
set_option maxRecDepth 4000
namespace Go.Ab
def encS (s : List UInt8) : List D := [.s s]
def encI (n : Int) : List D := [.i .i64 n]
inductive MType where
  | mk (fKind : Int) (fName : List UInt8) (fArgs : List MType)
def MType.fKind : MType → Int | .mk x _ _ => x
def MType.fName : MType → List UInt8 | .mk _ x _ => x
def MType.fArgs : MType → List MType | .mk _ _ x => x
theorem MType.eta (x : MType) : MType.mk x.fKind x.fName x.fArgs = x := by cases x; rfl
theorem MType.ext {x y : MType} (h0 : x.fKind = y.fKind) (h1 : x.fName = y.fName) (h2 : x.fArgs = y.fArgs) : x = y := by
  rw [← MType.eta x, ← MType.eta y, h0, h1, h2]
mutual
def MType.enc : MType → List D
  | .mk a0 a1 a2 => [.i .i64 a0, .s a1, .sl (MType.encs a2)]
def MType.encs : List MType → List (List D)
  | [] => []
  | x :: xs => x.enc :: MType.encs xs
end
theorem MType.encs_map : ∀ l, MType.encs l = l.map MType.enc
  | [] => rfl
  | x :: xs => by rw [MType.encs, List.map_cons, MType.encs_map xs]
theorem MType.enc_eq (x : MType) : x.enc = [.i .i64 x.fKind, .s x.fName, .sl (x.fArgs.map MType.enc)] := by
  cases x; simp only [MType.enc, MType.encs_map, MType.fKind, MType.fName, MType.fArgs]
abbrev MType.v (x : MType) : V := .agg [.d (.i .i64 x.fKind), .d (.s x.fName), .d (.sl (x.fArgs.map MType.enc))]
theorem MType.v_eq (x : MType) : .agg (x.enc.map .d) = x.v := by
  simp only [MType.enc_eq, List.map_cons, List.map_nil, List.cons_append, List.nil_append, List.map_append]
theorem MType.enc_length (x : MType) : x.enc.length = 3 := by
  simp only [MType.enc_eq, List.length_append, List.length_cons, List.length_nil]
def MType.sz (x : MType) : Nat := szRow x.enc
theorem MType.sz_def (x : MType) : szRow x.enc = x.sz := rfl
theorem MType.lt_Args (x : MType) : SizeOf.sizeOf x.fArgs < SizeOf.sizeOf x := by cases x; simp [MType.fArgs]; omega
structure MBinding where
  fVar : List UInt8
  fType : MType
def MBinding.enc (x : MBinding) : List D := [.s x.fVar] ++ (x.fType.enc)
theorem MBinding.enc_eq (x : MBinding) : x.enc = [.s x.fVar] ++ (x.fType.enc) := rfl
theorem MBinding.eta (x : MBinding) : MBinding.mk x.fVar x.fType = x := rfl
theorem MBinding.ext' {x y : MBinding} (h0 : x.fVar = y.fVar) (h1 : x.fType = y.fType) : x = y := by
  cases x; cases y; simp_all
abbrev MBinding.v (x : MBinding) : V := .agg [.d (.s x.fVar), .d (.i .i64 x.fType.fKind), .d (.s x.fType.fName), .d (.sl (x.fType.fArgs.map MType.enc))]
theorem MBinding.v_eq (x : MBinding) : .agg (x.enc.map .d) = x.v := by
  simp only [MBinding.enc_eq, MType.enc_eq, List.map_cons, List.map_nil, List.cons_append, List.nil_append, List.map_append]
theorem MBinding.enc_length (x : MBinding) : x.enc.length = 4 := by
  simp only [MBinding.enc_eq, MType.enc_length, List.length_append, List.length_cons, List.length_nil]
def MBinding.sz (x : MBinding) : Nat := szRow x.enc
theorem MBinding.sz_def (x : MBinding) : szRow x.enc = x.sz := rfl
structure MBound where
  fTrait : List UInt8
  fType : MType
def MBound.enc (x : MBound) : List D := [.s x.fTrait] ++ (x.fType.enc)
theorem MBound.enc_eq (x : MBound) : x.enc = [.s x.fTrait] ++ (x.fType.enc) := rfl
theorem MBound.eta (x : MBound) : MBound.mk x.fTrait x.fType = x := rfl
theorem MBound.ext' {x y : MBound} (h0 : x.fTrait = y.fTrait) (h1 : x.fType = y.fType) : x = y := by
  cases x; cases y; simp_all
abbrev MBound.v (x : MBound) : V := .agg [.d (.s x.fTrait), .d (.i .i64 x.fType.fKind), .d (.s x.fType.fName), .d (.sl (x.fType.fArgs.map MType.enc))]
theorem MBound.v_eq (x : MBound) : .agg (x.enc.map .d) = x.v := by
  simp only [MBound.enc_eq, MType.enc_eq, List.map_cons, List.map_nil, List.cons_append, List.nil_append, List.map_append]
theorem MBound.enc_length (x : MBound) : x.enc.length = 4 := by
  simp only [MBound.enc_eq, MType.enc_length, List.length_append, List.length_cons, List.length_nil]
def MBound.sz (x : MBound) : Nat := szRow x.enc
theorem MBound.sz_def (x : MBound) : szRow x.enc = x.sz := rfl
mutual
inductive MExpr where
  | mk (fKind : Int) (fTrait : List UInt8) (fName : List UInt8) (fN : Int) (fType : MType) (fArgs : List MExpr) (fArms : List MArm)
inductive MArm where
  | mk (fConstructor : List UInt8) (fVars : List (List UInt8)) (fBody : MExpr)
end
def MExpr.fKind : MExpr → Int | .mk x _ _ _ _ _ _ => x
def MExpr.fTrait : MExpr → List UInt8 | .mk _ x _ _ _ _ _ => x
def MExpr.fName : MExpr → List UInt8 | .mk _ _ x _ _ _ _ => x
def MExpr.fN : MExpr → Int | .mk _ _ _ x _ _ _ => x
def MExpr.fType : MExpr → MType | .mk _ _ _ _ x _ _ => x
def MExpr.fArgs : MExpr → List MExpr | .mk _ _ _ _ _ x _ => x
def MExpr.fArms : MExpr → List MArm | .mk _ _ _ _ _ _ x => x
theorem MExpr.eta (x : MExpr) : MExpr.mk x.fKind x.fTrait x.fName x.fN x.fType x.fArgs x.fArms = x := by cases x; rfl
theorem MExpr.ext {x y : MExpr} (h0 : x.fKind = y.fKind) (h1 : x.fTrait = y.fTrait) (h2 : x.fName = y.fName) (h3 : x.fN = y.fN) (h4 : x.fType = y.fType) (h5 : x.fArgs = y.fArgs) (h6 : x.fArms = y.fArms) : x = y := by
  rw [← MExpr.eta x, ← MExpr.eta y, h0, h1, h2, h3, h4, h5, h6]
def MArm.fConstructor : MArm → List UInt8 | .mk x _ _ => x
def MArm.fVars : MArm → List (List UInt8) | .mk _ x _ => x
def MArm.fBody : MArm → MExpr | .mk _ _ x => x
theorem MArm.eta (x : MArm) : MArm.mk x.fConstructor x.fVars x.fBody = x := by cases x; rfl
theorem MArm.ext {x y : MArm} (h0 : x.fConstructor = y.fConstructor) (h1 : x.fVars = y.fVars) (h2 : x.fBody = y.fBody) : x = y := by
  rw [← MArm.eta x, ← MArm.eta y, h0, h1, h2]
mutual
def MExpr.enc : MExpr → List D
  | .mk a0 a1 a2 a3 a4 a5 a6 => [.i .i64 a0, .s a1, .s a2, .i .i64 a3] ++ (a4.enc ++ ([.sl (MExpr.encs a5), .sl (MArm.encs a6)]))
def MExpr.encs : List MExpr → List (List D)
  | [] => []
  | x :: xs => x.enc :: MExpr.encs xs
def MArm.enc : MArm → List D
  | .mk a0 a1 a2 => [.s a0, .sl (a1.map encS)] ++ (MExpr.enc a2)
def MArm.encs : List MArm → List (List D)
  | [] => []
  | x :: xs => x.enc :: MArm.encs xs
end
theorem MExpr.encs_map : ∀ l, MExpr.encs l = l.map MExpr.enc
  | [] => rfl
  | x :: xs => by rw [MExpr.encs, List.map_cons, MExpr.encs_map xs]
theorem MArm.encs_map : ∀ l, MArm.encs l = l.map MArm.enc
  | [] => rfl
  | x :: xs => by rw [MArm.encs, List.map_cons, MArm.encs_map xs]
theorem MExpr.enc_eq (x : MExpr) : x.enc = [.i .i64 x.fKind, .s x.fTrait, .s x.fName, .i .i64 x.fN] ++ (x.fType.enc ++ ([.sl (x.fArgs.map MExpr.enc), .sl (x.fArms.map MArm.enc)])) := by
  cases x; simp only [MExpr.enc, MExpr.encs_map, MArm.encs_map, MExpr.fKind, MExpr.fTrait, MExpr.fName, MExpr.fN, MExpr.fType, MExpr.fArgs, MExpr.fArms]
theorem MArm.enc_eq (x : MArm) : x.enc = [.s x.fConstructor, .sl (x.fVars.map encS)] ++ (x.fBody.enc) := by
  cases x; simp only [MArm.enc, MExpr.encs_map, MArm.encs_map, MArm.fConstructor, MArm.fVars, MArm.fBody]
abbrev MExpr.v (x : MExpr) : V := .agg [.d (.i .i64 x.fKind), .d (.s x.fTrait), .d (.s x.fName), .d (.i .i64 x.fN), .d (.i .i64 x.fType.fKind), .d (.s x.fType.fName), .d (.sl (x.fType.fArgs.map MType.enc)), .d (.sl (x.fArgs.map MExpr.enc)), .d (.sl (x.fArms.map MArm.enc))]
theorem MExpr.v_eq (x : MExpr) : .agg (x.enc.map .d) = x.v := by
  simp only [MExpr.enc_eq, MType.enc_eq, List.map_cons, List.map_nil, List.cons_append, List.nil_append, List.map_append]
theorem MExpr.enc_length (x : MExpr) : x.enc.length = 9 := by
  simp only [MExpr.enc_eq, MType.enc_length, List.length_append, List.length_cons, List.length_nil]
def MExpr.sz (x : MExpr) : Nat := szRow x.enc
theorem MExpr.sz_def (x : MExpr) : szRow x.enc = x.sz := rfl
theorem MExpr.lt_Args (x : MExpr) : SizeOf.sizeOf x.fArgs < SizeOf.sizeOf x := by cases x; simp [MExpr.fArgs]; omega
theorem MExpr.lt_Arms (x : MExpr) : SizeOf.sizeOf x.fArms < SizeOf.sizeOf x := by cases x; simp [MExpr.fArms]; omega
abbrev MArm.v (x : MArm) : V := .agg [.d (.s x.fConstructor), .d (.sl (x.fVars.map encS)), .d (.i .i64 x.fBody.fKind), .d (.s x.fBody.fTrait), .d (.s x.fBody.fName), .d (.i .i64 x.fBody.fN), .d (.i .i64 x.fBody.fType.fKind), .d (.s x.fBody.fType.fName), .d (.sl (x.fBody.fType.fArgs.map MType.enc)), .d (.sl (x.fBody.fArgs.map MExpr.enc)), .d (.sl (x.fBody.fArms.map MArm.enc))]
theorem MArm.v_eq (x : MArm) : .agg (x.enc.map .d) = x.v := by
  simp only [MArm.enc_eq, MExpr.enc_eq, MType.enc_eq, List.map_cons, List.map_nil, List.cons_append, List.nil_append, List.map_append]
theorem MArm.enc_length (x : MArm) : x.enc.length = 11 := by
  simp only [MArm.enc_eq, MExpr.enc_length, List.length_append, List.length_cons, List.length_nil]
def MArm.sz (x : MArm) : Nat := szRow x.enc
theorem MArm.sz_def (x : MArm) : szRow x.enc = x.sz := rfl
theorem MArm.lt_Body (x : MArm) : SizeOf.sizeOf x.fBody < SizeOf.sizeOf x := by cases x; simp [MArm.fBody]; omega
inductive MSExpr where
  | mk (fAtom : List UInt8) (fList : List MSExpr)
def MSExpr.fAtom : MSExpr → List UInt8 | .mk x _ => x
def MSExpr.fList : MSExpr → List MSExpr | .mk _ x => x
theorem MSExpr.eta (x : MSExpr) : MSExpr.mk x.fAtom x.fList = x := by cases x; rfl
theorem MSExpr.ext {x y : MSExpr} (h0 : x.fAtom = y.fAtom) (h1 : x.fList = y.fList) : x = y := by
  rw [← MSExpr.eta x, ← MSExpr.eta y, h0, h1]
mutual
def MSExpr.enc : MSExpr → List D
  | .mk a0 a1 => [.s a0, .sl (MSExpr.encs a1)]
def MSExpr.encs : List MSExpr → List (List D)
  | [] => []
  | x :: xs => x.enc :: MSExpr.encs xs
end
theorem MSExpr.encs_map : ∀ l, MSExpr.encs l = l.map MSExpr.enc
  | [] => rfl
  | x :: xs => by rw [MSExpr.encs, List.map_cons, MSExpr.encs_map xs]
theorem MSExpr.enc_eq (x : MSExpr) : x.enc = [.s x.fAtom, .sl (x.fList.map MSExpr.enc)] := by
  cases x; simp only [MSExpr.enc, MSExpr.encs_map, MSExpr.fAtom, MSExpr.fList]
abbrev MSExpr.v (x : MSExpr) : V := .agg [.d (.s x.fAtom), .d (.sl (x.fList.map MSExpr.enc))]
theorem MSExpr.v_eq (x : MSExpr) : .agg (x.enc.map .d) = x.v := by
  simp only [MSExpr.enc_eq, List.map_cons, List.map_nil, List.cons_append, List.nil_append, List.map_append]
theorem MSExpr.enc_length (x : MSExpr) : x.enc.length = 2 := by
  simp only [MSExpr.enc_eq, List.length_append, List.length_cons, List.length_nil]
def MSExpr.sz (x : MSExpr) : Nat := szRow x.enc
theorem MSExpr.sz_def (x : MSExpr) : szRow x.enc = x.sz := rfl
theorem MSExpr.lt_List (x : MSExpr) : SizeOf.sizeOf x.fList < SizeOf.sizeOf x := by cases x; simp [MSExpr.fList]; omega
structure MSignature where
  fName : List UInt8
  fParams : List MType
  fResult : MType
  fHasDefault : Bool
  fVars : List (List UInt8)
  fBody : MExpr
def MSignature.enc (x : MSignature) : List D := [.s x.fName, .sl (x.fParams.map MType.enc)] ++ (x.fResult.enc ++ ([.b x.fHasDefault, .sl (x.fVars.map encS)] ++ (x.fBody.enc)))
theorem MSignature.enc_eq (x : MSignature) : x.enc = [.s x.fName, .sl (x.fParams.map MType.enc)] ++ (x.fResult.enc ++ ([.b x.fHasDefault, .sl (x.fVars.map encS)] ++ (x.fBody.enc))) := rfl
theorem MSignature.eta (x : MSignature) : MSignature.mk x.fName x.fParams x.fResult x.fHasDefault x.fVars x.fBody = x := rfl
theorem MSignature.ext' {x y : MSignature} (h0 : x.fName = y.fName) (h1 : x.fParams = y.fParams) (h2 : x.fResult = y.fResult) (h3 : x.fHasDefault = y.fHasDefault) (h4 : x.fVars = y.fVars) (h5 : x.fBody = y.fBody) : x = y := by
  cases x; cases y; simp_all
abbrev MSignature.v (x : MSignature) : V := .agg [.d (.s x.fName), .d (.sl (x.fParams.map MType.enc)), .d (.i .i64 x.fResult.fKind), .d (.s x.fResult.fName), .d (.sl (x.fResult.fArgs.map MType.enc)), .d (.b x.fHasDefault), .d (.sl (x.fVars.map encS)), .d (.i .i64 x.fBody.fKind), .d (.s x.fBody.fTrait), .d (.s x.fBody.fName), .d (.i .i64 x.fBody.fN), .d (.i .i64 x.fBody.fType.fKind), .d (.s x.fBody.fType.fName), .d (.sl (x.fBody.fType.fArgs.map MType.enc)), .d (.sl (x.fBody.fArgs.map MExpr.enc)), .d (.sl (x.fBody.fArms.map MArm.enc))]
theorem MSignature.v_eq (x : MSignature) : .agg (x.enc.map .d) = x.v := by
  simp only [MSignature.enc_eq, MExpr.enc_eq, MType.enc_eq, List.map_cons, List.map_nil, List.cons_append, List.nil_append, List.map_append]
theorem MSignature.enc_length (x : MSignature) : x.enc.length = 16 := by
  simp only [MSignature.enc_eq, MExpr.enc_length, MType.enc_length, List.length_append, List.length_cons, List.length_nil]
def MSignature.sz (x : MSignature) : Nat := szRow x.enc
theorem MSignature.sz_def (x : MSignature) : szRow x.enc = x.sz := rfl
structure MTrait where
  fName : List UInt8
  fSupertraits : List (List UInt8)
  fAuto : Bool
  fAssoc : Bool
  fSignatures : List MSignature
def MTrait.enc (x : MTrait) : List D := [.s x.fName, .sl (x.fSupertraits.map encS), .b x.fAuto, .b x.fAssoc, .sl (x.fSignatures.map MSignature.enc)]
theorem MTrait.enc_eq (x : MTrait) : x.enc = [.s x.fName, .sl (x.fSupertraits.map encS), .b x.fAuto, .b x.fAssoc, .sl (x.fSignatures.map MSignature.enc)] := rfl
theorem MTrait.eta (x : MTrait) : MTrait.mk x.fName x.fSupertraits x.fAuto x.fAssoc x.fSignatures = x := rfl
theorem MTrait.ext' {x y : MTrait} (h0 : x.fName = y.fName) (h1 : x.fSupertraits = y.fSupertraits) (h2 : x.fAuto = y.fAuto) (h3 : x.fAssoc = y.fAssoc) (h4 : x.fSignatures = y.fSignatures) : x = y := by
  cases x; cases y; simp_all
abbrev MTrait.v (x : MTrait) : V := .agg [.d (.s x.fName), .d (.sl (x.fSupertraits.map encS)), .d (.b x.fAuto), .d (.b x.fAssoc), .d (.sl (x.fSignatures.map MSignature.enc))]
theorem MTrait.v_eq (x : MTrait) : .agg (x.enc.map .d) = x.v := by
  simp only [MTrait.enc_eq, List.map_cons, List.map_nil, List.cons_append, List.nil_append, List.map_append]
theorem MTrait.enc_length (x : MTrait) : x.enc.length = 5 := by
  simp only [MTrait.enc_eq, List.length_append, List.length_cons, List.length_nil]
def MTrait.sz (x : MTrait) : Nat := szRow x.enc
theorem MTrait.sz_def (x : MTrait) : szRow x.enc = x.sz := rfl
structure MConstructor where
  fName : List UInt8
  fFields : List MType
def MConstructor.enc (x : MConstructor) : List D := [.s x.fName, .sl (x.fFields.map MType.enc)]
theorem MConstructor.enc_eq (x : MConstructor) : x.enc = [.s x.fName, .sl (x.fFields.map MType.enc)] := rfl
theorem MConstructor.eta (x : MConstructor) : MConstructor.mk x.fName x.fFields = x := rfl
theorem MConstructor.ext' {x y : MConstructor} (h0 : x.fName = y.fName) (h1 : x.fFields = y.fFields) : x = y := by
  cases x; cases y; simp_all
abbrev MConstructor.v (x : MConstructor) : V := .agg [.d (.s x.fName), .d (.sl (x.fFields.map MType.enc))]
theorem MConstructor.v_eq (x : MConstructor) : .agg (x.enc.map .d) = x.v := by
  simp only [MConstructor.enc_eq, List.map_cons, List.map_nil, List.cons_append, List.nil_append, List.map_append]
theorem MConstructor.enc_length (x : MConstructor) : x.enc.length = 2 := by
  simp only [MConstructor.enc_eq, List.length_append, List.length_cons, List.length_nil]
def MConstructor.sz (x : MConstructor) : Nat := szRow x.enc
theorem MConstructor.sz_def (x : MConstructor) : szRow x.enc = x.sz := rfl
structure MDataType where
  fName : List UInt8
  fVars : List (List UInt8)
  fConstructors : List MConstructor
def MDataType.enc (x : MDataType) : List D := [.s x.fName, .sl (x.fVars.map encS), .sl (x.fConstructors.map MConstructor.enc)]
theorem MDataType.enc_eq (x : MDataType) : x.enc = [.s x.fName, .sl (x.fVars.map encS), .sl (x.fConstructors.map MConstructor.enc)] := rfl
theorem MDataType.eta (x : MDataType) : MDataType.mk x.fName x.fVars x.fConstructors = x := rfl
theorem MDataType.ext' {x y : MDataType} (h0 : x.fName = y.fName) (h1 : x.fVars = y.fVars) (h2 : x.fConstructors = y.fConstructors) : x = y := by
  cases x; cases y; simp_all
abbrev MDataType.v (x : MDataType) : V := .agg [.d (.s x.fName), .d (.sl (x.fVars.map encS)), .d (.sl (x.fConstructors.map MConstructor.enc))]
theorem MDataType.v_eq (x : MDataType) : .agg (x.enc.map .d) = x.v := by
  simp only [MDataType.enc_eq, List.map_cons, List.map_nil, List.cons_append, List.nil_append, List.map_append]
theorem MDataType.enc_length (x : MDataType) : x.enc.length = 3 := by
  simp only [MDataType.enc_eq, List.length_append, List.length_cons, List.length_nil]
def MDataType.sz (x : MDataType) : Nat := szRow x.enc
theorem MDataType.sz_def (x : MDataType) : szRow x.enc = x.sz := rfl
structure MMethod where
  fName : List UInt8
  fVars : List (List UInt8)
  fBody : MExpr
def MMethod.enc (x : MMethod) : List D := [.s x.fName, .sl (x.fVars.map encS)] ++ (x.fBody.enc)
theorem MMethod.enc_eq (x : MMethod) : x.enc = [.s x.fName, .sl (x.fVars.map encS)] ++ (x.fBody.enc) := rfl
theorem MMethod.eta (x : MMethod) : MMethod.mk x.fName x.fVars x.fBody = x := rfl
theorem MMethod.ext' {x y : MMethod} (h0 : x.fName = y.fName) (h1 : x.fVars = y.fVars) (h2 : x.fBody = y.fBody) : x = y := by
  cases x; cases y; simp_all
abbrev MMethod.v (x : MMethod) : V := .agg [.d (.s x.fName), .d (.sl (x.fVars.map encS)), .d (.i .i64 x.fBody.fKind), .d (.s x.fBody.fTrait), .d (.s x.fBody.fName), .d (.i .i64 x.fBody.fN), .d (.i .i64 x.fBody.fType.fKind), .d (.s x.fBody.fType.fName), .d (.sl (x.fBody.fType.fArgs.map MType.enc)), .d (.sl (x.fBody.fArgs.map MExpr.enc)), .d (.sl (x.fBody.fArms.map MArm.enc))]
theorem MMethod.v_eq (x : MMethod) : .agg (x.enc.map .d) = x.v := by
  simp only [MMethod.enc_eq, MExpr.enc_eq, MType.enc_eq, List.map_cons, List.map_nil, List.cons_append, List.nil_append, List.map_append]
theorem MMethod.enc_length (x : MMethod) : x.enc.length = 11 := by
  simp only [MMethod.enc_eq, MExpr.enc_length, List.length_append, List.length_cons, List.length_nil]
def MMethod.sz (x : MMethod) : Nat := szRow x.enc
theorem MMethod.sz_def (x : MMethod) : szRow x.enc = x.sz := rfl
structure MInstance where
  fTrait : List UInt8
  fVars : List (List UInt8)
  fHead : MType
  fWhere : List MBound
  fDefault : Bool
  fHasAssoc : Bool
  fAssoc : MType
  fMethods : List MMethod
def MInstance.enc (x : MInstance) : List D := [.s x.fTrait, .sl (x.fVars.map encS)] ++ (x.fHead.enc ++ ([.sl (x.fWhere.map MBound.enc), .b x.fDefault, .b x.fHasAssoc] ++ (x.fAssoc.enc ++ ([.sl (x.fMethods.map MMethod.enc)]))))
theorem MInstance.enc_eq (x : MInstance) : x.enc = [.s x.fTrait, .sl (x.fVars.map encS)] ++ (x.fHead.enc ++ ([.sl (x.fWhere.map MBound.enc), .b x.fDefault, .b x.fHasAssoc] ++ (x.fAssoc.enc ++ ([.sl (x.fMethods.map MMethod.enc)])))) := rfl
theorem MInstance.eta (x : MInstance) : MInstance.mk x.fTrait x.fVars x.fHead x.fWhere x.fDefault x.fHasAssoc x.fAssoc x.fMethods = x := rfl
theorem MInstance.ext' {x y : MInstance} (h0 : x.fTrait = y.fTrait) (h1 : x.fVars = y.fVars) (h2 : x.fHead = y.fHead) (h3 : x.fWhere = y.fWhere) (h4 : x.fDefault = y.fDefault) (h5 : x.fHasAssoc = y.fHasAssoc) (h6 : x.fAssoc = y.fAssoc) (h7 : x.fMethods = y.fMethods) : x = y := by
  cases x; cases y; simp_all
abbrev MInstance.v (x : MInstance) : V := .agg [.d (.s x.fTrait), .d (.sl (x.fVars.map encS)), .d (.i .i64 x.fHead.fKind), .d (.s x.fHead.fName), .d (.sl (x.fHead.fArgs.map MType.enc)), .d (.sl (x.fWhere.map MBound.enc)), .d (.b x.fDefault), .d (.b x.fHasAssoc), .d (.i .i64 x.fAssoc.fKind), .d (.s x.fAssoc.fName), .d (.sl (x.fAssoc.fArgs.map MType.enc)), .d (.sl (x.fMethods.map MMethod.enc))]
theorem MInstance.v_eq (x : MInstance) : .agg (x.enc.map .d) = x.v := by
  simp only [MInstance.enc_eq, MType.enc_eq, List.map_cons, List.map_nil, List.cons_append, List.nil_append, List.map_append]
theorem MInstance.enc_length (x : MInstance) : x.enc.length = 12 := by
  simp only [MInstance.enc_eq, MType.enc_length, List.length_append, List.length_cons, List.length_nil]
def MInstance.sz (x : MInstance) : Nat := szRow x.enc
theorem MInstance.sz_def (x : MInstance) : szRow x.enc = x.sz := rfl
structure MParam where
  fName : List UInt8
  fType : MType
def MParam.enc (x : MParam) : List D := [.s x.fName] ++ (x.fType.enc)
theorem MParam.enc_eq (x : MParam) : x.enc = [.s x.fName] ++ (x.fType.enc) := rfl
theorem MParam.eta (x : MParam) : MParam.mk x.fName x.fType = x := rfl
theorem MParam.ext' {x y : MParam} (h0 : x.fName = y.fName) (h1 : x.fType = y.fType) : x = y := by
  cases x; cases y; simp_all
abbrev MParam.v (x : MParam) : V := .agg [.d (.s x.fName), .d (.i .i64 x.fType.fKind), .d (.s x.fType.fName), .d (.sl (x.fType.fArgs.map MType.enc))]
theorem MParam.v_eq (x : MParam) : .agg (x.enc.map .d) = x.v := by
  simp only [MParam.enc_eq, MType.enc_eq, List.map_cons, List.map_nil, List.cons_append, List.nil_append, List.map_append]
theorem MParam.enc_length (x : MParam) : x.enc.length = 4 := by
  simp only [MParam.enc_eq, MType.enc_length, List.length_append, List.length_cons, List.length_nil]
def MParam.sz (x : MParam) : Nat := szRow x.enc
theorem MParam.sz_def (x : MParam) : szRow x.enc = x.sz := rfl
structure MFunction where
  fName : List UInt8
  fVars : List (List UInt8)
  fWhere : List MBound
  fParams : List MParam
  fResult : MType
  fBody : MExpr
def MFunction.enc (x : MFunction) : List D := [.s x.fName, .sl (x.fVars.map encS), .sl (x.fWhere.map MBound.enc), .sl (x.fParams.map MParam.enc)] ++ (x.fResult.enc ++ (x.fBody.enc))
theorem MFunction.enc_eq (x : MFunction) : x.enc = [.s x.fName, .sl (x.fVars.map encS), .sl (x.fWhere.map MBound.enc), .sl (x.fParams.map MParam.enc)] ++ (x.fResult.enc ++ (x.fBody.enc)) := rfl
theorem MFunction.eta (x : MFunction) : MFunction.mk x.fName x.fVars x.fWhere x.fParams x.fResult x.fBody = x := rfl
theorem MFunction.ext' {x y : MFunction} (h0 : x.fName = y.fName) (h1 : x.fVars = y.fVars) (h2 : x.fWhere = y.fWhere) (h3 : x.fParams = y.fParams) (h4 : x.fResult = y.fResult) (h5 : x.fBody = y.fBody) : x = y := by
  cases x; cases y; simp_all
abbrev MFunction.v (x : MFunction) : V := .agg [.d (.s x.fName), .d (.sl (x.fVars.map encS)), .d (.sl (x.fWhere.map MBound.enc)), .d (.sl (x.fParams.map MParam.enc)), .d (.i .i64 x.fResult.fKind), .d (.s x.fResult.fName), .d (.sl (x.fResult.fArgs.map MType.enc)), .d (.i .i64 x.fBody.fKind), .d (.s x.fBody.fTrait), .d (.s x.fBody.fName), .d (.i .i64 x.fBody.fN), .d (.i .i64 x.fBody.fType.fKind), .d (.s x.fBody.fType.fName), .d (.sl (x.fBody.fType.fArgs.map MType.enc)), .d (.sl (x.fBody.fArgs.map MExpr.enc)), .d (.sl (x.fBody.fArms.map MArm.enc))]
theorem MFunction.v_eq (x : MFunction) : .agg (x.enc.map .d) = x.v := by
  simp only [MFunction.enc_eq, MExpr.enc_eq, MType.enc_eq, List.map_cons, List.map_nil, List.cons_append, List.nil_append, List.map_append]
theorem MFunction.enc_length (x : MFunction) : x.enc.length = 16 := by
  simp only [MFunction.enc_eq, MExpr.enc_length, MType.enc_length, List.length_append, List.length_cons, List.length_nil]
def MFunction.sz (x : MFunction) : Nat := szRow x.enc
theorem MFunction.sz_def (x : MFunction) : szRow x.enc = x.sz := rfl
structure MPackage where
  fName : List UInt8
  fDeps : List (List UInt8)
  fTraits : List MTrait
  fDataTypes : List MDataType
  fInstances : List MInstance
  fFunctions : List MFunction
def MPackage.enc (x : MPackage) : List D := [.s x.fName, .sl (x.fDeps.map encS), .sl (x.fTraits.map MTrait.enc), .sl (x.fDataTypes.map MDataType.enc), .sl (x.fInstances.map MInstance.enc), .sl (x.fFunctions.map MFunction.enc)]
theorem MPackage.enc_eq (x : MPackage) : x.enc = [.s x.fName, .sl (x.fDeps.map encS), .sl (x.fTraits.map MTrait.enc), .sl (x.fDataTypes.map MDataType.enc), .sl (x.fInstances.map MInstance.enc), .sl (x.fFunctions.map MFunction.enc)] := rfl
theorem MPackage.eta (x : MPackage) : MPackage.mk x.fName x.fDeps x.fTraits x.fDataTypes x.fInstances x.fFunctions = x := rfl
theorem MPackage.ext' {x y : MPackage} (h0 : x.fName = y.fName) (h1 : x.fDeps = y.fDeps) (h2 : x.fTraits = y.fTraits) (h3 : x.fDataTypes = y.fDataTypes) (h4 : x.fInstances = y.fInstances) (h5 : x.fFunctions = y.fFunctions) : x = y := by
  cases x; cases y; simp_all
abbrev MPackage.v (x : MPackage) : V := .agg [.d (.s x.fName), .d (.sl (x.fDeps.map encS)), .d (.sl (x.fTraits.map MTrait.enc)), .d (.sl (x.fDataTypes.map MDataType.enc)), .d (.sl (x.fInstances.map MInstance.enc)), .d (.sl (x.fFunctions.map MFunction.enc))]
theorem MPackage.v_eq (x : MPackage) : .agg (x.enc.map .d) = x.v := by
  simp only [MPackage.enc_eq, List.map_cons, List.map_nil, List.cons_append, List.nil_append, List.map_append]
theorem MPackage.enc_length (x : MPackage) : x.enc.length = 6 := by
  simp only [MPackage.enc_eq, List.length_append, List.length_cons, List.length_nil]
def MPackage.sz (x : MPackage) : Nat := szRow x.enc
theorem MPackage.sz_def (x : MPackage) : szRow x.enc = x.sz := rfl
structure MProgram where
  fPackages : List MPackage
def MProgram.enc (x : MProgram) : List D := [.sl (x.fPackages.map MPackage.enc)]
theorem MProgram.enc_eq (x : MProgram) : x.enc = [.sl (x.fPackages.map MPackage.enc)] := rfl
theorem MProgram.eta (x : MProgram) : MProgram.mk x.fPackages = x := rfl
theorem MProgram.ext' {x y : MProgram} (h0 : x.fPackages = y.fPackages) : x = y := by
  cases x; cases y; simp_all
abbrev MProgram.v (x : MProgram) : V := .agg [.d (.sl (x.fPackages.map MPackage.enc))]
theorem MProgram.v_eq (x : MProgram) : .agg (x.enc.map .d) = x.v := by
  simp only [MProgram.enc_eq, List.map_cons, List.map_nil, List.cons_append, List.nil_append, List.map_append]
theorem MProgram.enc_length (x : MProgram) : x.enc.length = 1 := by
  simp only [MProgram.enc_eq, List.length_append, List.length_cons, List.length_nil]
def MProgram.sz (x : MProgram) : Nat := szRow x.enc
theorem MProgram.sz_def (x : MProgram) : szRow x.enc = x.sz := rfl
structure MInstanceRef where
  fPackage : Int
  fAt : Int
def MInstanceRef.enc (x : MInstanceRef) : List D := [.i .i64 x.fPackage, .i .i64 x.fAt]
theorem MInstanceRef.enc_eq (x : MInstanceRef) : x.enc = [.i .i64 x.fPackage, .i .i64 x.fAt] := rfl
theorem MInstanceRef.eta (x : MInstanceRef) : MInstanceRef.mk x.fPackage x.fAt = x := rfl
theorem MInstanceRef.ext' {x y : MInstanceRef} (h0 : x.fPackage = y.fPackage) (h1 : x.fAt = y.fAt) : x = y := by
  cases x; cases y; simp_all
abbrev MInstanceRef.v (x : MInstanceRef) : V := .agg [.d (.i .i64 x.fPackage), .d (.i .i64 x.fAt)]
theorem MInstanceRef.v_eq (x : MInstanceRef) : .agg (x.enc.map .d) = x.v := by
  simp only [MInstanceRef.enc_eq, List.map_cons, List.map_nil, List.cons_append, List.nil_append, List.map_append]
theorem MInstanceRef.enc_length (x : MInstanceRef) : x.enc.length = 2 := by
  simp only [MInstanceRef.enc_eq, List.length_append, List.length_cons, List.length_nil]
def MInstanceRef.sz (x : MInstanceRef) : Nat := szRow x.enc
theorem MInstanceRef.sz_def (x : MInstanceRef) : szRow x.enc = x.sz := rfl
attribute [go_sem] MType.enc_eq MBinding.enc_eq MBound.enc_eq MExpr.enc_eq MArm.enc_eq MSExpr.enc_eq MSignature.enc_eq MTrait.enc_eq MConstructor.enc_eq MDataType.enc_eq MMethod.enc_eq MInstance.enc_eq MParam.enc_eq MFunction.enc_eq MPackage.enc_eq MProgram.enc_eq MInstanceRef.enc_eq encS encI
end Go.Ab

namespace Go.Ab
def lookupB : List MBinding → List UInt8 → Option MType
  | [], _ => none
  | b :: bs, v => if b.fVar = v then some b.fType else lookupB bs v
mutual
noncomputable def matchT (s : List MBinding) : MType → MType → Option (List MBinding)
  | .mk k n a, t =>
    if k = 1 then
      match lookupB s n with
      | some u => if dec (u = t) = true then some s else none
      | none => some (s ++ [⟨n, t⟩])
    else if k = t.fKind ∧ n = t.fName ∧ a.length = t.fArgs.length then matchL s a t.fArgs else none
noncomputable def matchL (s : List MBinding) : List MType → List MType → Option (List MBinding)
  | [], _ => some s
  | _ :: _, [] => none
  | p :: ps, t :: ts =>
    match matchT s p t with
    | some s' => matchL s' ps ts
    | none => none
end
mutual
def MType.cnt : MType → Nat
  | .mk _ _ a => 1 + MType.cnts a
def MType.cnts : List MType → Nat
  | [] => 0
  | t :: ts => t.cnt + MType.cnts ts
end
theorem MType.cnt_eq (t : MType) : t.cnt = 1 + MType.cnts t.fArgs := by cases t; rw [MType.cnt]; rfl
mutual
theorem cnt_le : ∀ t : MType, t.cnt ≤ 1 + t.sz
  | .mk k n a => by
    have h := cnts_le a
    rw [MType.cnt]
    have e : (MType.mk k n a).sz = n.length + (a.length + szRows (a.map MType.enc)) := by
      simp only [MType.sz, MType.enc_eq, szRow, D.sz, List.length_map, MType.fName, MType.fArgs, Nat.add_zero, Nat.zero_add]
    omega
theorem cnts_le : ∀ ts : List MType, MType.cnts ts ≤ ts.length + szRows (ts.map MType.enc)
  | [] => by simp [MType.cnts]
  | t :: ts => by
    have h1 := cnt_le t
    have h2 := cnts_le ts
    rw [MType.cnts, List.length_cons, List.map_cons, szRows, MType.sz_def]
    omega
end
mutual
theorem matchT_len : ∀ (p : MType) (s : List MBinding) (t : MType) (s' : List MBinding), matchT s p t = some s' → s'.length ≤ s.length + p.cnt
  | .mk k n a, s, t, s', h => by
    rw [matchT] at h
    rw [MType.cnt]
    split at h
    · split at h
      · split at h
        · cases h; omega
        · cases h
      · cases h; simp
    · split at h
      · have := matchL_len a s t.fArgs s' h; omega
      · cases h
theorem matchL_len : ∀ (ps : List MType) (s : List MBinding) (ts : List MType) (s' : List MBinding), matchL s ps ts = some s' → s'.length ≤ s.length + MType.cnts ps
  | [], s, ts, s', h => by rw [matchL] at h; cases h; omega
  | p :: ps, s, [], s', h => by rw [matchL] at h; cases h
  | p :: ps, s, t :: ts, s', h => by
    rw [matchL] at h
    rw [MType.cnts]
    cases hm : matchT s p t with
    | none => rw [hm] at h; cases h
    | some s1 =>
      rw [hm] at h
      have h1 := matchT_len p s t s1 hm
      have h2 := matchL_len ps s1 ts s' h
      omega
end
def Small (s : List MBinding) : Prop := ∀ b ∈ s, b.fType.sz ≤ 4194304
mutual
theorem matchT_small : ∀ (p : MType) (s : List MBinding) (t : MType) (s' : List MBinding), t.sz ≤ 4194304 → Small s → matchT s p t = some s' → Small s'
  | .mk k n a, s, t, s', ht, hs, h => by
    rw [matchT] at h
    split at h
    · split at h
      · split at h
        · cases h; exact hs
        · cases h
      · cases h
        intro b hb
        rcases List.mem_append.1 hb with hb | hb
        · exact hs b hb
        · simp at hb; subst hb; exact ht
    · split at h
      · refine matchL_small a s t.fArgs s' ?_ hs h
        intro x hx
        have h1 := szRows_mem (List.mem_map_of_mem (f := MType.enc) hx)
        have h2 : t.sz = t.fName.length + (t.fArgs.length + szRows (t.fArgs.map MType.enc)) := by
          simp only [MType.sz, MType.enc_eq, szRow, szRow_append, D.sz, List.length_map, Nat.add_zero, Nat.zero_add]
        rw [MType.sz_def] at h1
        omega
      · cases h
theorem matchL_small : ∀ (ps : List MType) (s : List MBinding) (ts : List MType) (s' : List MBinding), (∀ t ∈ ts, t.sz ≤ 4194304) → Small s → matchL s ps ts = some s' → Small s'
  | [], s, ts, s', ht, hs, h => by rw [matchL] at h; cases h; exact hs
  | p :: ps, s, [], s', ht, hs, h => by rw [matchL] at h; cases h
  | p :: ps, s, t :: ts, s', ht, hs, h => by
    rw [matchL] at h
    cases hm : matchT s p t with
    | none => rw [hm] at h; cases h
    | some s1 =>
      rw [hm] at h
      exact matchL_small ps s1 ts s' (fun x hx => ht x (by simp [hx])) (matchT_small p s t s1 (ht t (by simp)) hs hm) h
end
end Go.Ab

namespace Go.Ab
def lowerB (b : UInt8) : Prop := 97 ≤ b.toNat ∧ b.toNat ≤ 122
def digitB (b : UInt8) : Prop := 48 ≤ b.toNat ∧ b.toNat ≤ 57
def nameOk (s : List UInt8) : Prop := ∀ i, i < s.length → lowerB (s.getD i 0) ∨ (i ≠ 0 ∧ digitB (s.getD i 0))
def reserved : List (List UInt8) := [[105, 110, 116], [98, 111, 111, 108], [97, 115, 115, 111, 99], [100, 121, 110], [105, 102], [108, 101, 116], [99, 97, 115, 101], [110, 101, 119], [109, 101, 116, 104, 111, 100], [112, 97, 99, 107], [116, 114, 117, 101], [102, 97, 108, 115, 101]]
noncomputable def validName (s : List UInt8) : Bool := dec ((1 ≤ s.length ∧ s.length ≤ 8) ∧ s ∉ reserved ∧ nameOk s)
noncomputable def builtInB (s : List UInt8) : Bool := dec (s = [105, 110, 116] ∨ s = [98, 111, 111, 108])
noncomputable def indexS (xs : List (List UInt8)) (s : List UInt8) : Int := if s ∈ xs then ((xs.findIdx fun x => dec (x = s) : Nat) : Int) else -1
theorem indexS_here {xs : List (List UInt8)} {s : List UInt8} {i : Nat} (hi : i < xs.length) (hj : ∀ j, j < i → xs.getD j [] ≠ s) (h : xs.getD i [] = s) : indexS xs s = i := by
  have e : ∀ j, ∀ hj : j < xs.length, xs.getD j [] = xs[j] := fun j hj => by simp [List.getD, hj]
  have hm : s ∈ xs := by rw [← h, e i hi]; exact List.getElem_mem hi
  unfold indexS
  rw [if_pos hm]
  congr 1
  rw [List.findIdx_eq hi]
  exact ⟨dec_true (by rw [← e i hi]; exact h), fun j hji => dec_false (by rw [← e j (by omega)]; exact hj j hji)⟩
theorem indexS_no {xs : List (List UInt8)} {s : List UInt8} (hj : ∀ j, j < xs.length → xs.getD j [] ≠ s) : indexS xs s = -1 := by
  unfold indexS
  refine if_neg fun hm => ?_
  obtain ⟨j, h1, h2⟩ := List.getElem_of_mem hm
  exact hj j h1 (by simp [List.getD, h1, h2])
theorem indexS_pos {xs : List (List UInt8)} {s : List UInt8} : decide (indexS xs s ≥ 0) = dec (s ∈ xs) := by
  rw [decide_dec]
  refine dec_congr ?_
  unfold indexS
  split
  · rename_i h; exact ⟨fun _ => h, fun _ => by omega⟩
  · rename_i h; exact ⟨fun x => by omega, fun x => absurd x h⟩
def indexP {α : Type} (p : α → Bool) (xs : List α) : Int := if xs.any p then ((xs.findIdx p : Nat) : Int) else -1
theorem indexP_here {α : Type} {p : α → Bool} {xs : List α} {i : Nat} (hi : i < xs.length) (hj : ∀ j, ∀ hj : j < xs.length, j < i → p xs[j] = false) (h : p xs[i] = true) : indexP p xs = i := by
  unfold indexP
  rw [if_pos (List.any_eq_true.2 ⟨xs[i], List.getElem_mem hi, h⟩)]
  congr 1
  rw [List.findIdx_eq hi]
  exact ⟨h, fun j hji => hj j (by omega) hji⟩
theorem indexP_no {α : Type} {p : α → Bool} {xs : List α} (hj : ∀ j, ∀ hj : j < xs.length, p xs[j] = false) : indexP p xs = -1 := by
  unfold indexP
  refine if_neg fun h => ?_
  obtain ⟨x, hx, hp⟩ := List.any_eq_true.1 h
  obtain ⟨j, h1, h2⟩ := List.getElem_of_mem hx
  rw [← h2, hj j h1] at hp
  cases hp
theorem indexP_pos {α : Type} {p : α → Bool} {xs : List α} : decide (indexP p xs ≥ 0) = xs.any p := by
  unfold indexP
  cases h : xs.any p with
  | true => simp
  | false => simp
noncomputable def fineT (k : Int) (n : List UInt8) (len : Nat) : Bool :=
  dec ((k = 1 ∨ k = 4) ∧ validName n = true ∧ len = 0 ∨ k = 3 ∧ validName n = true ∧ len = 1 ∨ k = 2 ∧ (validName n = true ∧ len ≤ 3 ∨ builtInB n = true ∧ len = 0))
mutual
noncomputable def formed : MType → Bool
  | .mk k n a => fineT k n a.length && formeds a
noncomputable def formeds : List MType → Bool
  | [] => true
  | t :: ts => formed t && formeds ts
end
theorem formed_eq (t : MType) : formed t = (fineT t.fKind t.fName t.fArgs.length && formeds t.fArgs) := by cases t; rw [formed]; rfl
theorem formeds_iff : ∀ {ts : List MType}, formeds ts = true ↔ ∀ t ∈ ts, formed t = true
  | [] => by simp [formeds]
  | t :: ts => by simp [formeds, formeds_iff (ts := ts)]
theorem formeds_any : ∀ {ts : List MType}, (ts.any fun t => !formed t) = !formeds ts
  | [] => rfl
  | t :: ts => by rw [List.any_cons, formeds_any (ts := ts), formeds]; simp
mutual
def depthT : MType → Nat
  | .mk _ _ a => depths a
def depths : List MType → Nat
  | [] => 0
  | t :: ts => max (depthT t + 1) (depths ts)
end
theorem depthT_eq (t : MType) : depthT t = depths t.fArgs := by cases t; rw [depthT]; rfl
mutual
theorem depthT_le : ∀ t : MType, depthT t + 1 ≤ t.cnt
  | .mk k n a => by
    have := depths_le a
    rw [depthT, MType.cnt]; omega
theorem depths_le : ∀ ts : List MType, depths ts ≤ MType.cnts ts
  | [] => by simp [depths]
  | t :: ts => by
    have h1 := depthT_le t
    have h2 := depths_le ts
    rw [depths, MType.cnts]
    omega
end
noncomputable def validType (t : MType) : Bool := dec (formed t = true ∧ depthT t ≤ 6 ∧ t.cnt ≤ 60)
end Go.Ab

namespace Go.Ab
def atomX (s : List UInt8) : MSExpr := .mk s []
def listX (l : List MSExpr) : MSExpr := .mk [] l
def wordsX (l : List (List UInt8)) : List MSExpr := l.map atomX
def zeroX : MSExpr := .mk [] []
theorem fAtom_atom (s : List UInt8) : (atomX s).fAtom = s := rfl
theorem fList_atom (s : List UInt8) : (atomX s).fList = [] := rfl
theorem fAtom_list (l : List MSExpr) : (listX l).fAtom = [] := rfl
theorem fList_list (l : List MSExpr) : (listX l).fList = l := rfl
def wDyn : List UInt8 := [100, 121, 110]
def wAssoc : List UInt8 := [97, 115, 115, 111, 99]
mutual
def sxT : MType → MSExpr
  | .mk k n zs => if k = 1 then atomX ([39] ++ n) else if k = 4 then listX [atomX wDyn, atomX n] else if k = 2 ∧ zs.length = 0 then atomX n else
    listX ((if k = 3 then [atomX wAssoc] else []) ++ [atomX n] ++ sxTs zs)
def sxTs : List MType → List MSExpr
  | [] => []
  | t :: ts => sxT t :: sxTs ts
end
theorem sxTs_map : ∀ l, sxTs l = l.map sxT
  | [] => rfl
  | t :: ts => by rw [sxTs, List.map_cons, sxTs_map ts]
theorem sxT_eq (x : MType) : sxT x = if x.fKind = 1 then atomX ([39] ++ x.fName) else if x.fKind = 4 then listX [atomX wDyn, atomX x.fName] else if x.fKind = 2 ∧ x.fArgs.length = 0 then atomX x.fName else
    listX ((if x.fKind = 3 then [atomX wAssoc] else []) ++ [atomX x.fName] ++ x.fArgs.map sxT) := by
  cases x; rw [sxT, sxTs_map]; rfl
theorem valid_formed {t : MType} (h : validType t = true) : formed t = true := (of_dec h).1
theorem sx_sz (x : MSExpr) : x.sz = x.fAtom.length + (x.fList.length + szRows (x.fList.map MSExpr.enc)) := by
  simp only [MSExpr.sz, MSExpr.enc_eq, szRow, D.sz, List.length_map]; omega
def szX : List MSExpr → Nat
  | [] => 0
  | x :: xs => x.sz + szX xs
theorem szX_rows : ∀ l, szRows (l.map MSExpr.enc) = szX l
  | [] => rfl
  | x :: xs => by rw [List.map_cons, szRows, szX, szX_rows xs]; rfl
theorem szX_append : ∀ a b, szX (a ++ b) = szX a + szX b
  | [], b => by simp [szX]
  | x :: a, b => by rw [List.cons_append, szX, szX, szX_append a b]; omega
theorem szX_mem {x : MSExpr} : ∀ {l : List MSExpr}, x ∈ l → x.sz ≤ szX l
  | y :: l, h => by
    rw [szX]
    rcases List.mem_cons.1 h with rfl | h
    · omega
    · have := szX_mem h; omega
theorem sz_atom (s : List UInt8) : (atomX s).sz = s.length := by rw [sx_sz]; simp [atomX, MSExpr.fAtom, MSExpr.fList, szRows]
theorem sz_list (l : List MSExpr) : (listX l).sz = l.length + szX l := by rw [sx_sz, szX_rows]; simp [listX, MSExpr.fAtom, MSExpr.fList]
theorem szX_words : ∀ l : List (List UInt8), szX (wordsX l) = (l.map List.length).sum
  | [] => rfl
  | s :: l => by rw [wordsX, List.map_cons, szX, sz_atom, ← wordsX, szX_words l, List.map_cons, List.sum_cons]
theorem words_len (l : List (List UInt8)) : (wordsX l).length = l.length := by simp [wordsX]
theorem szRows_encS : ∀ l : List (List UInt8), szRows (l.map encS) = (l.map List.length).sum
  | [] => rfl
  | s :: l => by rw [List.map_cons, szRows, szRows_encS l, List.map_cons, List.sum_cons]; simp [encS, szRow, D.sz]
def szT : List MType → Nat
  | [] => 0
  | x :: xs => x.sz + szT xs
theorem szT_rows : ∀ l, szRows (l.map MType.enc) = szT l
  | [] => rfl
  | x :: xs => by rw [List.map_cons, szRows, szT, szT_rows xs]; rfl
theorem ty_sz_eq (x : MType) : x.sz = x.fName.length + (x.fArgs.length + szT x.fArgs) := by
  rw [← szT_rows]; simp only [MType.sz, MType.enc_eq, szRow, D.sz, List.length_map]; omega
mutual
theorem sxT_le : ∀ x : MType, (sxT x).sz ≤ 12 + 16 * x.sz
  | .mk k n zs => by
    have h := sxTs_le zs
    rw [ty_sz_eq]
    simp only [MType.fName, MType.fArgs]
    rw [sxT]
    split
    · rw [sz_atom]; simp; omega
    · split
      · rw [sz_list]; simp [szX, sz_atom, wDyn]; omega
      · split
        · rw [sz_atom]; omega
        · rw [sz_list, szX_append, szX_append, List.length_append, List.length_append, sxTs_map, List.length_map, ← sxTs_map]
          split <;> simp [szX, sz_atom, wAssoc] <;> omega
theorem sxTs_le : ∀ xs : List MType, szX (sxTs xs) ≤ 12 * xs.length + 16 * szT xs
  | [] => by simp [sxTs, szX]
  | x :: xs => by
    have h1 := sxT_le x
    have h2 := sxTs_le xs
    rw [sxTs, szX, szT, List.length_cons]; omega
end
def atomByte (b : UInt8) : Bool := decide (97 ≤ b.toNat ∧ b.toNat ≤ 122) || decide (48 ≤ b.toNat ∧ b.toNat ≤ 57) || decide (b ∈ ([39, 45, 43, 42, 60, 61, 46] : List UInt8))
def validAtom (s : List UInt8) : Bool := s.all atomByte && decide (1 ≤ s.length ∧ s.length ≤ 12)
mutual
def formX : MSExpr → Bool
  | .mk a l => if a = [] then formXs l else validAtom a && decide (l.length = 0)
def formXs : List MSExpr → Bool
  | [] => true
  | x :: xs => formX x && formXs xs
end
mutual
def depthX : MSExpr → Nat
  | .mk a l => if a = [] then depthXs l + 1 else 0
def depthXs : List MSExpr → Nat
  | [] => 0
  | x :: xs => max (depthX x) (depthXs xs)
end
mutual
def nodeX : MSExpr → Nat
  | .mk _ l => nodeXs l + 1
def nodeXs : List MSExpr → Nat
  | [] => 0
  | x :: xs => nodeX x + nodeXs xs
end
theorem formX_eq (x : MSExpr) : formX x = if x.fAtom = [] then formXs x.fList else validAtom x.fAtom && decide (x.fList.length = 0) := by cases x; rw [formX]; rfl
theorem depthX_eq (x : MSExpr) : depthX x = if x.fAtom = [] then depthXs x.fList + 1 else 0 := by cases x; rw [depthX]; rfl
theorem nodeX_eq (x : MSExpr) : nodeX x = nodeXs x.fList + 1 := by cases x; rw [nodeX]; rfl
theorem formXs_any : ∀ {l : List MSExpr}, (l.any fun t => !formX t) = !formXs l
  | [] => rfl
  | t :: ts => by rw [List.any_cons, formXs_any (l := ts), formXs]; simp
mutual
theorem depthX_node : ∀ x : MSExpr, depthX x ≤ nodeX x
  | .mk a l => by
    have := depthXs_node l
    rw [depthX, nodeX]; split <;> omega
theorem depthXs_node : ∀ l : List MSExpr, depthXs l ≤ nodeXs l
  | [] => by simp [depthXs]
  | x :: xs => by
    have h1 := depthX_node x
    have h2 := depthXs_node xs
    rw [depthXs, nodeXs]; omega
end
mutual
theorem nodeX_sz : ∀ x : MSExpr, nodeX x ≤ x.sz + 1
  | .mk a l => by
    have := nodeXs_sz l
    rw [sx_sz, nodeX, szX_rows]; simp only [MSExpr.fAtom, MSExpr.fList]; omega
theorem nodeXs_sz : ∀ l : List MSExpr, nodeXs l ≤ l.length + szX l
  | [] => by simp [nodeXs]
  | x :: xs => by
    have h1 := nodeX_sz x
    have h2 := nodeXs_sz xs
    rw [nodeXs, szX, List.length_cons]; omega
end
def validX (x : MSExpr) : Bool := formX x && decide (depthX x ≤ 14 ∧ nodeX x ≤ 900)
mutual
theorem formX_sz : ∀ x : MSExpr, formX x = true → x.sz + 1 ≤ 13 * nodeX x
  | .mk a l => fun h => by
    rw [formX] at h
    rw [sx_sz, nodeX, szX_rows]
    simp only [MSExpr.fAtom, MSExpr.fList]
    split at h
    · rename_i ha
      have := formXs_sz l h
      subst ha
      simp only [List.length_nil]; omega
    · rw [Bool.and_eq_true, decide_eq_true_eq] at h
      have h1 := h.1
      unfold validAtom at h1
      rw [Bool.and_eq_true, decide_eq_true_eq] at h1
      have : l = [] := List.eq_nil_of_length_eq_zero h.2
      subst this
      simp [szX]; omega
theorem formXs_sz : ∀ l : List MSExpr, formXs l = true → l.length + szX l ≤ 13 * nodeXs l
  | [], _ => by simp [szX]
  | x :: xs, h => by
    rw [formXs, Bool.and_eq_true] at h
    have h1 := formX_sz x h.1
    have h2 := formXs_sz xs h.2
    rw [szX, nodeXs, List.length_cons]; omega
end
theorem validX_sz {x : MSExpr} (h : validX x = true) : x.sz ≤ 11700 := by
  unfold validX at h
  rw [Bool.and_eq_true, decide_eq_true_eq] at h
  have := formX_sz x h.1
  omega
def ifX (x : MSExpr) : MSExpr := if validX x = true then x else zeroX
def outX : Bool → MSExpr → MSExpr
  | true, x => ifX x
  | false, _ => zeroX
theorem ifX_sz (x : MSExpr) : (ifX x).sz ≤ 11700 := by
  unfold ifX
  split
  · rename_i h; exact validX_sz h
  · rw [sx_sz]; simp [zeroX, MSExpr.fAtom, MSExpr.fList, szRows]
theorem outX_sz (b : Bool) (x : MSExpr) : (outX b x).sz ≤ 11700 := by
  cases b with
  | true => exact ifX_sz x
  | false => rw [outX, sx_sz]; simp [zeroX, MSExpr.fAtom, MSExpr.fList, szRows]
end Go.Ab

namespace Go.Proofs.YtokcpelkieeddaaGreatDoor.Fa
open Go Go.Ab
theorem ty1 : Tryz.prog.cellsOf 1 = 1 ∧ Tryz.prog.bytesOf 1 = 8 ∧ (Tryz.prog.info? 1).isSome = true ∧ zeroCs Tryz.prog 1 = some [.d (.o .nilFunc)] := ⟨by kernel_rfl, by kernel_rfl, by kernel_rfl, by kernel_rfl⟩
theorem ty2 : Tryz.prog.cellsOf 2 = 1 ∧ Tryz.prog.bytesOf 2 = 8 ∧ (Tryz.prog.info? 2).isSome = true ∧ zeroCs Tryz.prog 2 = some [.d (.i .i64 0)] := ⟨by kernel_rfl, by kernel_rfl, by kernel_rfl, by kernel_rfl⟩
theorem ty3 : Tryz.prog.cellsOf 3 = 1 ∧ Tryz.prog.bytesOf 3 = 8 ∧ (Tryz.prog.info? 3).isSome = true ∧ zeroCs Tryz.prog 3 = some [.d (.i .i64 0)] := ⟨by kernel_rfl, by kernel_rfl, by kernel_rfl, by kernel_rfl⟩
theorem ty4 : Tryz.prog.cellsOf 4 = 1 ∧ Tryz.prog.bytesOf 4 = 1 ∧ (Tryz.prog.info? 4).isSome = true ∧ zeroCs Tryz.prog 4 = some [.d (.b false)] := ⟨by kernel_rfl, by kernel_rfl, by kernel_rfl, by kernel_rfl⟩
theorem zval4 : zeroV Tryz.prog 4 = some (.bool false) := by kernel_rfl
theorem ty5 : Tryz.prog.cellsOf 5 = 1 ∧ Tryz.prog.bytesOf 5 = 1 ∧ (Tryz.prog.info? 5).isSome = true ∧ zeroCs Tryz.prog 5 = some [.d (.i .u8 0)] := ⟨by kernel_rfl, by kernel_rfl, by kernel_rfl, by kernel_rfl⟩
theorem ty9 : Tryz.prog.cellsOf 9 = 1 ∧ Tryz.prog.bytesOf 9 = 16 ∧ (Tryz.prog.info? 9).isSome = true ∧ zeroCs Tryz.prog 9 = some [.d (.s [])] := ⟨by kernel_rfl, by kernel_rfl, by kernel_rfl, by kernel_rfl⟩
theorem ty12 : Tryz.prog.cellsOf 12 = 1 ∧ Tryz.prog.bytesOf 12 = 8 ∧ (Tryz.prog.info? 12).isSome = true ∧ zeroCs Tryz.prog 12 = some [.d (.i .u64 0)] := ⟨by kernel_rfl, by kernel_rfl, by kernel_rfl, by kernel_rfl⟩
theorem ty20 : Tryz.prog.cellsOf 20 = 1 ∧ Tryz.prog.bytesOf 20 = 16 ∧ (Tryz.prog.info? 20).isSome = true ∧ zeroCs Tryz.prog 20 = some [.d (.o .nilIface)] := ⟨by kernel_rfl, by kernel_rfl, by kernel_rfl, by kernel_rfl⟩
theorem ty21 : Tryz.prog.cellsOf 21 = 1 ∧ Tryz.prog.bytesOf 21 = 4 ∧ (Tryz.prog.info? 21).isSome = true ∧ zeroCs Tryz.prog 21 = some [.d (.i .i32 0)] := ⟨by kernel_rfl, by kernel_rfl, by kernel_rfl, by kernel_rfl⟩
theorem ty22 : Tryz.prog.cellsOf 22 = 1 ∧ Tryz.prog.bytesOf 22 = 24 ∧ (Tryz.prog.info? 22).isSome = true ∧ zeroCs Tryz.prog 22 = some [.fsl []] := ⟨by kernel_rfl, by kernel_rfl, by kernel_rfl, by kernel_rfl⟩
theorem ty23 : Tryz.prog.cellsOf 23 = 3 ∧ Tryz.prog.bytesOf 23 = 48 ∧ (Tryz.prog.info? 23).isSome = true ∧ zeroCs Tryz.prog 23 = some [.d (.i .i64 0), .d (.s []), .fsl []] := ⟨by kernel_rfl, by kernel_rfl, by kernel_rfl, by kernel_rfl⟩
theorem ty24 : Tryz.prog.cellsOf 24 = 3 ∧ Tryz.prog.bytesOf 24 = 48 ∧ (Tryz.prog.info? 24).isSome = true ∧ zeroCs Tryz.prog 24 = some [.d (.i .i64 0), .d (.s []), .fsl []] := ⟨by kernel_rfl, by kernel_rfl, by kernel_rfl, by kernel_rfl⟩
theorem ty25 : Tryz.prog.cellsOf 25 = 1 ∧ Tryz.prog.bytesOf 25 = 24 ∧ (Tryz.prog.info? 25).isSome = true ∧ zeroCs Tryz.prog 25 = some [.fsl []] := ⟨by kernel_rfl, by kernel_rfl, by kernel_rfl, by kernel_rfl⟩
theorem ty26 : Tryz.prog.cellsOf 26 = 1 ∧ Tryz.prog.bytesOf 26 = 24 ∧ (Tryz.prog.info? 26).isSome = true ∧ zeroCs Tryz.prog 26 = some [.fsl []] := ⟨by kernel_rfl, by kernel_rfl, by kernel_rfl, by kernel_rfl⟩
theorem ty27 : Tryz.prog.cellsOf 27 = 9 ∧ Tryz.prog.bytesOf 27 = 144 ∧ (Tryz.prog.info? 27).isSome = true ∧ zeroCs Tryz.prog 27 = some [.d (.i .i64 0), .d (.s []), .d (.s []), .d (.i .i64 0), .d (.i .i64 0), .d (.s []), .fsl [], .fsl [], .fsl []] := ⟨by kernel_rfl, by kernel_rfl, by kernel_rfl, by kernel_rfl⟩
theorem ty28 : Tryz.prog.cellsOf 28 = 9 ∧ Tryz.prog.bytesOf 28 = 144 ∧ (Tryz.prog.info? 28).isSome = true ∧ zeroCs Tryz.prog 28 = some [.d (.i .i64 0), .d (.s []), .d (.s []), .d (.i .i64 0), .d (.i .i64 0), .d (.s []), .fsl [], .fsl [], .fsl []] := ⟨by kernel_rfl, by kernel_rfl, by kernel_rfl, by kernel_rfl⟩
theorem ty29 : Tryz.prog.cellsOf 29 = 1 ∧ Tryz.prog.bytesOf 29 = 8 ∧ (Tryz.prog.info? 29).isSome = true ∧ zeroCs Tryz.prog 29 = some [.d (.o .nilFunc)] := ⟨by kernel_rfl, by kernel_rfl, by kernel_rfl, by kernel_rfl⟩
theorem ty30 : Tryz.prog.cellsOf 30 = 1 ∧ Tryz.prog.bytesOf 30 = 24 ∧ (Tryz.prog.info? 30).isSome = true ∧ zeroCs Tryz.prog 30 = some [.fsl []] := ⟨by kernel_rfl, by kernel_rfl, by kernel_rfl, by kernel_rfl⟩
theorem ty31 : Tryz.prog.cellsOf 31 = 2 ∧ Tryz.prog.bytesOf 31 = 40 ∧ (Tryz.prog.info? 31).isSome = true ∧ zeroCs Tryz.prog 31 = some [.d (.s []), .fsl []] := ⟨by kernel_rfl, by kernel_rfl, by kernel_rfl, by kernel_rfl⟩
theorem ty32 : Tryz.prog.cellsOf 32 = 2 ∧ Tryz.prog.bytesOf 32 = 40 ∧ (Tryz.prog.info? 32).isSome = true ∧ zeroCs Tryz.prog 32 = some [.d (.s []), .fsl []] := ⟨by kernel_rfl, by kernel_rfl, by kernel_rfl, by kernel_rfl⟩
theorem ty34 : Tryz.prog.cellsOf 34 = 1 ∧ Tryz.prog.bytesOf 34 = 24 ∧ (Tryz.prog.info? 34).isSome = true ∧ zeroCs Tryz.prog 34 = some [.fsl []] := ⟨by kernel_rfl, by kernel_rfl, by kernel_rfl, by kernel_rfl⟩
theorem ty35 : Tryz.prog.cellsOf 35 = 3 ∧ Tryz.prog.bytesOf 35 = 48 ∧ (Tryz.prog.info? 35).isSome = true ∧ zeroCs Tryz.prog 35 = some [.d (.i .i64 0), .d (.s []), .fsl []] := ⟨by kernel_rfl, by kernel_rfl, by kernel_rfl, by kernel_rfl⟩
theorem ty36 : Tryz.prog.cellsOf 36 = 3 ∧ Tryz.prog.bytesOf 36 = 48 ∧ (Tryz.prog.info? 36).isSome = true ∧ zeroCs Tryz.prog 36 = some [.d (.i .i64 0), .d (.s []), .fsl []] := ⟨by kernel_rfl, by kernel_rfl, by kernel_rfl, by kernel_rfl⟩
theorem ty37 : Tryz.prog.cellsOf 37 = 1 ∧ Tryz.prog.bytesOf 37 = 24 ∧ (Tryz.prog.info? 37).isSome = true ∧ zeroCs Tryz.prog 37 = some [.fsl []] := ⟨by kernel_rfl, by kernel_rfl, by kernel_rfl, by kernel_rfl⟩
theorem ty38 : Tryz.prog.cellsOf 38 = 1 ∧ Tryz.prog.bytesOf 38 = 24 ∧ (Tryz.prog.info? 38).isSome = true ∧ zeroCs Tryz.prog 38 = some [.fsl []] := ⟨by kernel_rfl, by kernel_rfl, by kernel_rfl, by kernel_rfl⟩
theorem ty39 : Tryz.prog.cellsOf 39 = 9 ∧ Tryz.prog.bytesOf 39 = 144 ∧ (Tryz.prog.info? 39).isSome = true ∧ zeroCs Tryz.prog 39 = some [.d (.i .i64 0), .d (.s []), .d (.s []), .d (.i .i64 0), .d (.i .i64 0), .d (.s []), .fsl [], .fsl [], .fsl []] := ⟨by kernel_rfl, by kernel_rfl, by kernel_rfl, by kernel_rfl⟩
theorem ty40 : Tryz.prog.cellsOf 40 = 9 ∧ Tryz.prog.bytesOf 40 = 144 ∧ (Tryz.prog.info? 40).isSome = true ∧ zeroCs Tryz.prog 40 = some [.d (.i .i64 0), .d (.s []), .d (.s []), .d (.i .i64 0), .d (.i .i64 0), .d (.s []), .fsl [], .fsl [], .fsl []] := ⟨by kernel_rfl, by kernel_rfl, by kernel_rfl, by kernel_rfl⟩
theorem ty41 : Tryz.prog.cellsOf 41 = 1 ∧ Tryz.prog.bytesOf 41 = 8 ∧ (Tryz.prog.info? 41).isSome = true ∧ zeroCs Tryz.prog 41 = some [.d (.o .nilFunc)] := ⟨by kernel_rfl, by kernel_rfl, by kernel_rfl, by kernel_rfl⟩
theorem ty42 : Tryz.prog.cellsOf 42 = 1 ∧ Tryz.prog.bytesOf 42 = 8 ∧ (Tryz.prog.info? 42).isSome = true ∧ zeroCs Tryz.prog 42 = some [.d (.o .nilFunc)] := ⟨by kernel_rfl, by kernel_rfl, by kernel_rfl, by kernel_rfl⟩
theorem ty43 : Tryz.prog.cellsOf 43 = 1 ∧ Tryz.prog.bytesOf 43 = 8 ∧ (Tryz.prog.info? 43).isSome = true ∧ zeroCs Tryz.prog 43 = some [.d (.o .nilFunc)] := ⟨by kernel_rfl, by kernel_rfl, by kernel_rfl, by kernel_rfl⟩
theorem ty44 : Tryz.prog.cellsOf 44 = 1 ∧ Tryz.prog.bytesOf 44 = 8 ∧ (Tryz.prog.info? 44).isSome = true ∧ zeroCs Tryz.prog 44 = some [.d (.o .nilFunc)] := ⟨by kernel_rfl, by kernel_rfl, by kernel_rfl, by kernel_rfl⟩
theorem ty47 : Tryz.prog.cellsOf 47 = 1 ∧ Tryz.prog.bytesOf 47 = 24 ∧ (Tryz.prog.info? 47).isSome = true ∧ zeroCs Tryz.prog 47 = some [.fsl []] := ⟨by kernel_rfl, by kernel_rfl, by kernel_rfl, by kernel_rfl⟩
theorem ty48 : Tryz.prog.cellsOf 48 = 1 ∧ Tryz.prog.bytesOf 48 = 24 ∧ (Tryz.prog.info? 48).isSome = true ∧ zeroCs Tryz.prog 48 = some [.fsl []] := ⟨by kernel_rfl, by kernel_rfl, by kernel_rfl, by kernel_rfl⟩
theorem ty49 : Tryz.prog.cellsOf 49 = 1 ∧ Tryz.prog.bytesOf 49 = 24 ∧ (Tryz.prog.info? 49).isSome = true ∧ zeroCs Tryz.prog 49 = some [.fsl []] := ⟨by kernel_rfl, by kernel_rfl, by kernel_rfl, by kernel_rfl⟩
theorem ty50 : Tryz.prog.cellsOf 50 = 16 ∧ Tryz.prog.bytesOf 50 = 280 ∧ (Tryz.prog.info? 50).isSome = true ∧ zeroCs Tryz.prog 50 = some [.d (.s []), .fsl [], .fsl [], .fsl [], .d (.i .i64 0), .d (.s []), .fsl [], .d (.i .i64 0), .d (.s []), .d (.s []), .d (.i .i64 0), .d (.i .i64 0), .d (.s []), .fsl [], .fsl [], .fsl []] := ⟨by kernel_rfl, by kernel_rfl, by kernel_rfl, by kernel_rfl⟩
theorem ty51 : Tryz.prog.cellsOf 51 = 16 ∧ Tryz.prog.bytesOf 51 = 280 ∧ (Tryz.prog.info? 51).isSome = true ∧ zeroCs Tryz.prog 51 = some [.d (.s []), .fsl [], .fsl [], .fsl [], .d (.i .i64 0), .d (.s []), .fsl [], .d (.i .i64 0), .d (.s []), .d (.s []), .d (.i .i64 0), .d (.i .i64 0), .d (.s []), .fsl [], .fsl [], .fsl []] := ⟨by kernel_rfl, by kernel_rfl, by kernel_rfl, by kernel_rfl⟩
theorem ty52 : Tryz.prog.cellsOf 52 = 1 ∧ Tryz.prog.bytesOf 52 = 8 ∧ (Tryz.prog.info? 52).isSome = true ∧ zeroCs Tryz.prog 52 = some [.d (.o .nilFunc)] := ⟨by kernel_rfl, by kernel_rfl, by kernel_rfl, by kernel_rfl⟩
theorem ty53 : Tryz.prog.cellsOf 53 = 1 ∧ Tryz.prog.bytesOf 53 = 8 ∧ (Tryz.prog.info? 53).isSome = true ∧ zeroCs Tryz.prog 53 = some [.d (.o .nilFunc)] := ⟨by kernel_rfl, by kernel_rfl, by kernel_rfl, by kernel_rfl⟩
theorem ty54 : Tryz.prog.cellsOf 54 = 1 ∧ Tryz.prog.bytesOf 54 = 24 ∧ (Tryz.prog.info? 54).isSome = true ∧ zeroCs Tryz.prog 54 = some [.fsl []] := ⟨by kernel_rfl, by kernel_rfl, by kernel_rfl, by kernel_rfl⟩
theorem ty55 : Tryz.prog.cellsOf 55 = 1 ∧ Tryz.prog.bytesOf 55 = 24 ∧ (Tryz.prog.info? 55).isSome = true ∧ zeroCs Tryz.prog 55 = some [.fsl []] := ⟨by kernel_rfl, by kernel_rfl, by kernel_rfl, by kernel_rfl⟩
theorem ty56 : Tryz.prog.cellsOf 56 = 16 ∧ Tryz.prog.bytesOf 56 = 280 ∧ (Tryz.prog.info? 56).isSome = true ∧ zeroCs Tryz.prog 56 = some [.d (.s []), .fsl [], .fsl [], .fsl [], .d (.i .i64 0), .d (.s []), .fsl [], .d (.i .i64 0), .d (.s []), .d (.s []), .d (.i .i64 0), .d (.i .i64 0), .d (.s []), .fsl [], .fsl [], .fsl []] := ⟨by kernel_rfl, by kernel_rfl, by kernel_rfl, by kernel_rfl⟩
theorem ty57 : Tryz.prog.cellsOf 57 = 16 ∧ Tryz.prog.bytesOf 57 = 280 ∧ (Tryz.prog.info? 57).isSome = true ∧ zeroCs Tryz.prog 57 = some [.d (.s []), .fsl [], .fsl [], .fsl [], .d (.i .i64 0), .d (.s []), .fsl [], .d (.i .i64 0), .d (.s []), .d (.s []), .d (.i .i64 0), .d (.i .i64 0), .d (.s []), .fsl [], .fsl [], .fsl []] := ⟨by kernel_rfl, by kernel_rfl, by kernel_rfl, by kernel_rfl⟩
theorem ty58 : Tryz.prog.cellsOf 58 = 1 ∧ Tryz.prog.bytesOf 58 = 8 ∧ (Tryz.prog.info? 58).isSome = true ∧ zeroCs Tryz.prog 58 = some [.d (.o .nilFunc)] := ⟨by kernel_rfl, by kernel_rfl, by kernel_rfl, by kernel_rfl⟩
theorem ty62 : Tryz.prog.cellsOf 62 = 1 ∧ Tryz.prog.bytesOf 62 = 24 ∧ (Tryz.prog.info? 62).isSome = true ∧ zeroCs Tryz.prog 62 = some [.fsl []] := ⟨by kernel_rfl, by kernel_rfl, by kernel_rfl, by kernel_rfl⟩
theorem ty63 : Tryz.prog.cellsOf 63 = 5 ∧ Tryz.prog.bytesOf 63 = 72 ∧ (Tryz.prog.info? 63).isSome = true ∧ zeroCs Tryz.prog 63 = some [.d (.s []), .fsl [], .d (.b false), .d (.b false), .fsl []] := ⟨by kernel_rfl, by kernel_rfl, by kernel_rfl, by kernel_rfl⟩
theorem ty64 : Tryz.prog.cellsOf 64 = 5 ∧ Tryz.prog.bytesOf 64 = 72 ∧ (Tryz.prog.info? 64).isSome = true ∧ zeroCs Tryz.prog 64 = some [.d (.s []), .fsl [], .d (.b false), .d (.b false), .fsl []] := ⟨by kernel_rfl, by kernel_rfl, by kernel_rfl, by kernel_rfl⟩
theorem ty65 : Tryz.prog.cellsOf 65 = 1 ∧ Tryz.prog.bytesOf 65 = 8 ∧ (Tryz.prog.info? 65).isSome = true ∧ zeroCs Tryz.prog 65 = some [.d (.o .nilFunc)] := ⟨by kernel_rfl, by kernel_rfl, by kernel_rfl, by kernel_rfl⟩
theorem ty66 : Tryz.prog.cellsOf 66 = 1 ∧ Tryz.prog.bytesOf 66 = 8 ∧ (Tryz.prog.info? 66).isSome = true ∧ zeroCs Tryz.prog 66 = some [.d (.o .nilFunc)] := ⟨by kernel_rfl, by kernel_rfl, by kernel_rfl, by kernel_rfl⟩
theorem ty67 : Tryz.prog.cellsOf 67 = 1 ∧ Tryz.prog.bytesOf 67 = 24 ∧ (Tryz.prog.info? 67).isSome = true ∧ zeroCs Tryz.prog 67 = some [.fsl []] := ⟨by kernel_rfl, by kernel_rfl, by kernel_rfl, by kernel_rfl⟩
theorem ty68 : Tryz.prog.cellsOf 68 = 5 ∧ Tryz.prog.bytesOf 68 = 72 ∧ (Tryz.prog.info? 68).isSome = true ∧ zeroCs Tryz.prog 68 = some [.d (.s []), .fsl [], .d (.b false), .d (.b false), .fsl []] := ⟨by kernel_rfl, by kernel_rfl, by kernel_rfl, by kernel_rfl⟩
theorem ty69 : Tryz.prog.cellsOf 69 = 5 ∧ Tryz.prog.bytesOf 69 = 72 ∧ (Tryz.prog.info? 69).isSome = true ∧ zeroCs Tryz.prog 69 = some [.d (.s []), .fsl [], .d (.b false), .d (.b false), .fsl []] := ⟨by kernel_rfl, by kernel_rfl, by kernel_rfl, by kernel_rfl⟩
theorem ty70 : Tryz.prog.cellsOf 70 = 1 ∧ Tryz.prog.bytesOf 70 = 8 ∧ (Tryz.prog.info? 70).isSome = true ∧ zeroCs Tryz.prog 70 = some [.d (.o .nilFunc)] := ⟨by kernel_rfl, by kernel_rfl, by kernel_rfl, by kernel_rfl⟩
theorem ty71 : Tryz.prog.cellsOf 71 = 1 ∧ Tryz.prog.bytesOf 71 = 8 ∧ (Tryz.prog.info? 71).isSome = true ∧ zeroCs Tryz.prog 71 = some [.d (.o .nilFunc)] := ⟨by kernel_rfl, by kernel_rfl, by kernel_rfl, by kernel_rfl⟩
theorem ty74 : Tryz.prog.cellsOf 74 = 1 ∧ Tryz.prog.bytesOf 74 = 24 ∧ (Tryz.prog.info? 74).isSome = true ∧ zeroCs Tryz.prog 74 = some [.fsl []] := ⟨by kernel_rfl, by kernel_rfl, by kernel_rfl, by kernel_rfl⟩
theorem ty75 : Tryz.prog.cellsOf 75 = 12 ∧ Tryz.prog.bytesOf 75 = 192 ∧ (Tryz.prog.info? 75).isSome = true ∧ zeroCs Tryz.prog 75 = some [.d (.s []), .fsl [], .d (.i .i64 0), .d (.s []), .fsl [], .fsl [], .d (.b false), .d (.b false), .d (.i .i64 0), .d (.s []), .fsl [], .fsl []] := ⟨by kernel_rfl, by kernel_rfl, by kernel_rfl, by kernel_rfl⟩
theorem ty76 : Tryz.prog.cellsOf 76 = 12 ∧ Tryz.prog.bytesOf 76 = 192 ∧ (Tryz.prog.info? 76).isSome = true ∧ zeroCs Tryz.prog 76 = some [.d (.s []), .fsl [], .d (.i .i64 0), .d (.s []), .fsl [], .fsl [], .d (.b false), .d (.b false), .d (.i .i64 0), .d (.s []), .fsl [], .fsl []] := ⟨by kernel_rfl, by kernel_rfl, by kernel_rfl, by kernel_rfl⟩
theorem ty79 : Tryz.prog.cellsOf 79 = 1 ∧ Tryz.prog.bytesOf 79 = 24 ∧ (Tryz.prog.info? 79).isSome = true ∧ zeroCs Tryz.prog 79 = some [.fsl []] := ⟨by kernel_rfl, by kernel_rfl, by kernel_rfl, by kernel_rfl⟩
theorem ty80 : Tryz.prog.cellsOf 80 = 12 ∧ Tryz.prog.bytesOf 80 = 192 ∧ (Tryz.prog.info? 80).isSome = true ∧ zeroCs Tryz.prog 80 = some [.d (.s []), .fsl [], .d (.i .i64 0), .d (.s []), .fsl [], .fsl [], .d (.b false), .d (.b false), .d (.i .i64 0), .d (.s []), .fsl [], .fsl []] := ⟨by kernel_rfl, by kernel_rfl, by kernel_rfl, by kernel_rfl⟩
theorem ty81 : Tryz.prog.cellsOf 81 = 12 ∧ Tryz.prog.bytesOf 81 = 192 ∧ (Tryz.prog.info? 81).isSome = true ∧ zeroCs Tryz.prog 81 = some [.d (.s []), .fsl [], .d (.i .i64 0), .d (.s []), .fsl [], .fsl [], .d (.b false), .d (.b false), .d (.i .i64 0), .d (.s []), .fsl [], .fsl []] := ⟨by kernel_rfl, by kernel_rfl, by kernel_rfl, by kernel_rfl⟩
theorem ty82 : Tryz.prog.cellsOf 82 = 1 ∧ Tryz.prog.bytesOf 82 = 8 ∧ (Tryz.prog.info? 82).isSome = true ∧ zeroCs Tryz.prog 82 = some [.d (.o .nilFunc)] := ⟨by kernel_rfl, by kernel_rfl, by kernel_rfl, by kernel_rfl⟩
theorem ty83 : Tryz.prog.cellsOf 83 = 1 ∧ Tryz.prog.bytesOf 83 = 8 ∧ (Tryz.prog.info? 83).isSome = true ∧ zeroCs Tryz.prog 83 = some [.d (.o .nilFunc)] := ⟨by kernel_rfl, by kernel_rfl, by kernel_rfl, by kernel_rfl⟩
theorem ty84 : Tryz.prog.cellsOf 84 = 1 ∧ Tryz.prog.bytesOf 84 = 8 ∧ (Tryz.prog.info? 84).isSome = true ∧ zeroCs Tryz.prog 84 = some [.d (.o .nilFunc)] := ⟨by kernel_rfl, by kernel_rfl, by kernel_rfl, by kernel_rfl⟩
theorem ty86 : Tryz.prog.cellsOf 86 = 1 ∧ Tryz.prog.bytesOf 86 = 24 ∧ (Tryz.prog.info? 86).isSome = true ∧ zeroCs Tryz.prog 86 = some [.fsl []] := ⟨by kernel_rfl, by kernel_rfl, by kernel_rfl, by kernel_rfl⟩
theorem ty87 : Tryz.prog.cellsOf 87 = 1 ∧ Tryz.prog.bytesOf 87 = 24 ∧ (Tryz.prog.info? 87).isSome = true ∧ zeroCs Tryz.prog 87 = some [.fsl []] := ⟨by kernel_rfl, by kernel_rfl, by kernel_rfl, by kernel_rfl⟩
theorem ty88 : Tryz.prog.cellsOf 88 = 1 ∧ Tryz.prog.bytesOf 88 = 24 ∧ (Tryz.prog.info? 88).isSome = true ∧ zeroCs Tryz.prog 88 = some [.fsl []] := ⟨by kernel_rfl, by kernel_rfl, by kernel_rfl, by kernel_rfl⟩
theorem ty89 : Tryz.prog.cellsOf 89 = 1 ∧ Tryz.prog.bytesOf 89 = 24 ∧ (Tryz.prog.info? 89).isSome = true ∧ zeroCs Tryz.prog 89 = some [.fsl []] := ⟨by kernel_rfl, by kernel_rfl, by kernel_rfl, by kernel_rfl⟩
theorem ty90 : Tryz.prog.cellsOf 90 = 6 ∧ Tryz.prog.bytesOf 90 = 136 ∧ (Tryz.prog.info? 90).isSome = true ∧ zeroCs Tryz.prog 90 = some [.d (.s []), .fsl [], .fsl [], .fsl [], .fsl [], .fsl []] := ⟨by kernel_rfl, by kernel_rfl, by kernel_rfl, by kernel_rfl⟩
theorem ty91 : Tryz.prog.cellsOf 91 = 6 ∧ Tryz.prog.bytesOf 91 = 136 ∧ (Tryz.prog.info? 91).isSome = true ∧ zeroCs Tryz.prog 91 = some [.d (.s []), .fsl [], .fsl [], .fsl [], .fsl [], .fsl []] := ⟨by kernel_rfl, by kernel_rfl, by kernel_rfl, by kernel_rfl⟩
theorem ty92 : Tryz.prog.cellsOf 92 = 1 ∧ Tryz.prog.bytesOf 92 = 8 ∧ (Tryz.prog.info? 92).isSome = true ∧ zeroCs Tryz.prog 92 = some [.d (.o .nilFunc)] := ⟨by kernel_rfl, by kernel_rfl, by kernel_rfl, by kernel_rfl⟩
theorem ty93 : Tryz.prog.cellsOf 93 = 1 ∧ Tryz.prog.bytesOf 93 = 8 ∧ (Tryz.prog.info? 93).isSome = true ∧ zeroCs Tryz.prog 93 = some [.d (.o .nilFunc)] := ⟨by kernel_rfl, by kernel_rfl, by kernel_rfl, by kernel_rfl⟩
theorem ty94 : Tryz.prog.cellsOf 94 = 1 ∧ Tryz.prog.bytesOf 94 = 24 ∧ (Tryz.prog.info? 94).isSome = true ∧ zeroCs Tryz.prog 94 = some [.fsl []] := ⟨by kernel_rfl, by kernel_rfl, by kernel_rfl, by kernel_rfl⟩
theorem ty95 : Tryz.prog.cellsOf 95 = 1 ∧ Tryz.prog.bytesOf 95 = 24 ∧ (Tryz.prog.info? 95).isSome = true ∧ zeroCs Tryz.prog 95 = some [.fsl []] := ⟨by kernel_rfl, by kernel_rfl, by kernel_rfl, by kernel_rfl⟩
theorem ty96 : Tryz.prog.cellsOf 96 = 1 ∧ Tryz.prog.bytesOf 96 = 24 ∧ (Tryz.prog.info? 96).isSome = true ∧ zeroCs Tryz.prog 96 = some [.fsl []] := ⟨by kernel_rfl, by kernel_rfl, by kernel_rfl, by kernel_rfl⟩
theorem ty97 : Tryz.prog.cellsOf 97 = 1 ∧ Tryz.prog.bytesOf 97 = 24 ∧ (Tryz.prog.info? 97).isSome = true ∧ zeroCs Tryz.prog 97 = some [.fsl []] := ⟨by kernel_rfl, by kernel_rfl, by kernel_rfl, by kernel_rfl⟩
theorem ty98 : Tryz.prog.cellsOf 98 = 6 ∧ Tryz.prog.bytesOf 98 = 136 ∧ (Tryz.prog.info? 98).isSome = true ∧ zeroCs Tryz.prog 98 = some [.d (.s []), .fsl [], .fsl [], .fsl [], .fsl [], .fsl []] := ⟨by kernel_rfl, by kernel_rfl, by kernel_rfl, by kernel_rfl⟩
theorem ty99 : Tryz.prog.cellsOf 99 = 6 ∧ Tryz.prog.bytesOf 99 = 136 ∧ (Tryz.prog.info? 99).isSome = true ∧ zeroCs Tryz.prog 99 = some [.d (.s []), .fsl [], .fsl [], .fsl [], .fsl [], .fsl []] := ⟨by kernel_rfl, by kernel_rfl, by kernel_rfl, by kernel_rfl⟩
theorem ty106 : Tryz.prog.cellsOf 106 = 1 ∧ Tryz.prog.bytesOf 106 = 24 ∧ (Tryz.prog.info? 106).isSome = true ∧ zeroCs Tryz.prog 106 = some [.fsl []] := ⟨by kernel_rfl, by kernel_rfl, by kernel_rfl, by kernel_rfl⟩
theorem ty107 : Tryz.prog.cellsOf 107 = 2 ∧ Tryz.prog.bytesOf 107 = 40 ∧ (Tryz.prog.info? 107).isSome = true ∧ zeroCs Tryz.prog 107 = some [.d (.s []), .fsl []] := ⟨by kernel_rfl, by kernel_rfl, by kernel_rfl, by kernel_rfl⟩
theorem ty108 : Tryz.prog.cellsOf 108 = 2 ∧ Tryz.prog.bytesOf 108 = 40 ∧ (Tryz.prog.info? 108).isSome = true ∧ zeroCs Tryz.prog 108 = some [.d (.s []), .fsl []] := ⟨by kernel_rfl, by kernel_rfl, by kernel_rfl, by kernel_rfl⟩
theorem ty117 : Tryz.prog.cellsOf 117 = 1 ∧ Tryz.prog.bytesOf 117 = 8 ∧ (Tryz.prog.info? 117).isSome = true ∧ zeroCs Tryz.prog 117 = some [.d (.o .nilFunc)] := ⟨by kernel_rfl, by kernel_rfl, by kernel_rfl, by kernel_rfl⟩
theorem ty118 : Tryz.prog.cellsOf 118 = 1 ∧ Tryz.prog.bytesOf 118 = 8 ∧ (Tryz.prog.info? 118).isSome = true ∧ zeroCs Tryz.prog 118 = some [.d (.o .nilFunc)] := ⟨by kernel_rfl, by kernel_rfl, by kernel_rfl, by kernel_rfl⟩
theorem ty124 : Tryz.prog.cellsOf 124 = 1 ∧ Tryz.prog.bytesOf 124 = 8 ∧ (Tryz.prog.info? 124).isSome = true ∧ zeroCs Tryz.prog 124 = some [.d (.o .nilFunc)] := ⟨by kernel_rfl, by kernel_rfl, by kernel_rfl, by kernel_rfl⟩
theorem ty127 : Tryz.prog.cellsOf 127 = 1 ∧ Tryz.prog.bytesOf 127 = 8 ∧ (Tryz.prog.info? 127).isSome = true ∧ zeroCs Tryz.prog 127 = some [.d (.o .nilFunc)] := ⟨by kernel_rfl, by kernel_rfl, by kernel_rfl, by kernel_rfl⟩
theorem ty128 : Tryz.prog.cellsOf 128 = 1 ∧ Tryz.prog.bytesOf 128 = 8 ∧ (Tryz.prog.info? 128).isSome = true ∧ zeroCs Tryz.prog 128 = some [.d (.o .nilFunc)] := ⟨by kernel_rfl, by kernel_rfl, by kernel_rfl, by kernel_rfl⟩
theorem ty129 : Tryz.prog.cellsOf 129 = 1 ∧ Tryz.prog.bytesOf 129 = 8 ∧ (Tryz.prog.info? 129).isSome = true ∧ zeroCs Tryz.prog 129 = some [.d (.o .nilFunc)] := ⟨by kernel_rfl, by kernel_rfl, by kernel_rfl, by kernel_rfl⟩
theorem ty137 : Tryz.prog.cellsOf 137 = 4 ∧ Tryz.prog.bytesOf 137 = 64 ∧ (Tryz.prog.info? 137).isSome = true ∧ zeroCs Tryz.prog 137 = some [.d (.s []), .d (.i .i64 0), .d (.s []), .fsl []] := ⟨by kernel_rfl, by kernel_rfl, by kernel_rfl, by kernel_rfl⟩
theorem ty138 : Tryz.prog.cellsOf 138 = 4 ∧ Tryz.prog.bytesOf 138 = 64 ∧ (Tryz.prog.info? 138).isSome = true ∧ zeroCs Tryz.prog 138 = some [.d (.s []), .d (.i .i64 0), .d (.s []), .fsl []] := ⟨by kernel_rfl, by kernel_rfl, by kernel_rfl, by kernel_rfl⟩
theorem ty153 : Tryz.prog.cellsOf 153 = 16 ∧ Tryz.prog.bytesOf 153 = 264 ∧ (Tryz.prog.info? 153).isSome = true ∧ zeroCs Tryz.prog 153 = some [.d (.s []), .fsl [], .d (.i .i64 0), .d (.s []), .fsl [], .d (.b false), .fsl [], .d (.i .i64 0), .d (.s []), .d (.s []), .d (.i .i64 0), .d (.i .i64 0), .d (.s []), .fsl [], .fsl [], .fsl []] := ⟨by kernel_rfl, by kernel_rfl, by kernel_rfl, by kernel_rfl⟩
theorem ty154 : Tryz.prog.cellsOf 154 = 16 ∧ Tryz.prog.bytesOf 154 = 264 ∧ (Tryz.prog.info? 154).isSome = true ∧ zeroCs Tryz.prog 154 = some [.d (.s []), .fsl [], .d (.i .i64 0), .d (.s []), .fsl [], .d (.b false), .fsl [], .d (.i .i64 0), .d (.s []), .d (.s []), .d (.i .i64 0), .d (.i .i64 0), .d (.s []), .fsl [], .fsl [], .fsl []] := ⟨by kernel_rfl, by kernel_rfl, by kernel_rfl, by kernel_rfl⟩
theorem ty161 : Tryz.prog.cellsOf 161 = 11 ∧ Tryz.prog.bytesOf 161 = 184 ∧ (Tryz.prog.info? 161).isSome = true ∧ zeroCs Tryz.prog 161 = some [.d (.s []), .fsl [], .d (.i .i64 0), .d (.s []), .d (.s []), .d (.i .i64 0), .d (.i .i64 0), .d (.s []), .fsl [], .fsl [], .fsl []] := ⟨by kernel_rfl, by kernel_rfl, by kernel_rfl, by kernel_rfl⟩
theorem ty162 : Tryz.prog.cellsOf 162 = 11 ∧ Tryz.prog.bytesOf 162 = 184 ∧ (Tryz.prog.info? 162).isSome = true ∧ zeroCs Tryz.prog 162 = some [.d (.s []), .fsl [], .d (.i .i64 0), .d (.s []), .d (.s []), .d (.i .i64 0), .d (.i .i64 0), .d (.s []), .fsl [], .fsl [], .fsl []] := ⟨by kernel_rfl, by kernel_rfl, by kernel_rfl, by kernel_rfl⟩
theorem ty172 : Tryz.prog.cellsOf 172 = 1 ∧ Tryz.prog.bytesOf 172 = 24 ∧ (Tryz.prog.info? 172).isSome = true ∧ zeroCs Tryz.prog 172 = some [.fsl []] := ⟨by kernel_rfl, by kernel_rfl, by kernel_rfl, by kernel_rfl⟩
theorem ty173 : Tryz.prog.cellsOf 173 = 3 ∧ Tryz.prog.bytesOf 173 = 64 ∧ (Tryz.prog.info? 173).isSome = true ∧ zeroCs Tryz.prog 173 = some [.d (.s []), .fsl [], .fsl []] := ⟨by kernel_rfl, by kernel_rfl, by kernel_rfl, by kernel_rfl⟩
theorem ty174 : Tryz.prog.cellsOf 174 = 3 ∧ Tryz.prog.bytesOf 174 = 64 ∧ (Tryz.prog.info? 174).isSome = true ∧ zeroCs Tryz.prog 174 = some [.d (.s []), .fsl [], .fsl []] := ⟨by kernel_rfl, by kernel_rfl, by kernel_rfl, by kernel_rfl⟩
theorem ty193 : Tryz.prog.cellsOf 193 = 11 ∧ Tryz.prog.bytesOf 193 = 184 ∧ (Tryz.prog.info? 193).isSome = true ∧ zeroCs Tryz.prog 193 = some [.d (.s []), .fsl [], .d (.i .i64 0), .d (.s []), .d (.s []), .d (.i .i64 0), .d (.i .i64 0), .d (.s []), .fsl [], .fsl [], .fsl []] := ⟨by kernel_rfl, by kernel_rfl, by kernel_rfl, by kernel_rfl⟩
theorem ty194 : Tryz.prog.cellsOf 194 = 11 ∧ Tryz.prog.bytesOf 194 = 184 ∧ (Tryz.prog.info? 194).isSome = true ∧ zeroCs Tryz.prog 194 = some [.d (.s []), .fsl [], .d (.i .i64 0), .d (.s []), .d (.s []), .d (.i .i64 0), .d (.i .i64 0), .d (.s []), .fsl [], .fsl [], .fsl []] := ⟨by kernel_rfl, by kernel_rfl, by kernel_rfl, by kernel_rfl⟩
theorem ty197 : Tryz.prog.cellsOf 197 = 11 ∧ Tryz.prog.bytesOf 197 = 184 ∧ (Tryz.prog.info? 197).isSome = true ∧ zeroCs Tryz.prog 197 = some [.d (.s []), .fsl [], .d (.i .i64 0), .d (.s []), .d (.s []), .d (.i .i64 0), .d (.i .i64 0), .d (.s []), .fsl [], .fsl [], .fsl []] := ⟨by kernel_rfl, by kernel_rfl, by kernel_rfl, by kernel_rfl⟩
theorem ty198 : Tryz.prog.cellsOf 198 = 11 ∧ Tryz.prog.bytesOf 198 = 184 ∧ (Tryz.prog.info? 198).isSome = true ∧ zeroCs Tryz.prog 198 = some [.d (.s []), .fsl [], .d (.i .i64 0), .d (.s []), .d (.s []), .d (.i .i64 0), .d (.i .i64 0), .d (.s []), .fsl [], .fsl [], .fsl []] := ⟨by kernel_rfl, by kernel_rfl, by kernel_rfl, by kernel_rfl⟩
theorem ty206 : Tryz.prog.cellsOf 206 = 1 ∧ Tryz.prog.bytesOf 206 = 8 ∧ (Tryz.prog.info? 206).isSome = true ∧ zeroCs Tryz.prog 206 = some [.d (.o .nilFunc)] := ⟨by kernel_rfl, by kernel_rfl, by kernel_rfl, by kernel_rfl⟩
theorem ty209 : Tryz.prog.cellsOf 209 = 4 ∧ Tryz.prog.bytesOf 209 = 64 ∧ (Tryz.prog.info? 209).isSome = true ∧ zeroCs Tryz.prog 209 = some [.d (.s []), .d (.i .i64 0), .d (.s []), .fsl []] := ⟨by kernel_rfl, by kernel_rfl, by kernel_rfl, by kernel_rfl⟩
theorem ty210 : Tryz.prog.cellsOf 210 = 4 ∧ Tryz.prog.bytesOf 210 = 64 ∧ (Tryz.prog.info? 210).isSome = true ∧ zeroCs Tryz.prog 210 = some [.d (.s []), .d (.i .i64 0), .d (.s []), .fsl []] := ⟨by kernel_rfl, by kernel_rfl, by kernel_rfl, by kernel_rfl⟩
theorem ty212 : Tryz.prog.cellsOf 212 = 4 ∧ Tryz.prog.bytesOf 212 = 64 ∧ (Tryz.prog.info? 212).isSome = true ∧ zeroCs Tryz.prog 212 = some [.d (.s []), .d (.i .i64 0), .d (.s []), .fsl []] := ⟨by kernel_rfl, by kernel_rfl, by kernel_rfl, by kernel_rfl⟩
theorem ty213 : Tryz.prog.cellsOf 213 = 4 ∧ Tryz.prog.bytesOf 213 = 64 ∧ (Tryz.prog.info? 213).isSome = true ∧ zeroCs Tryz.prog 213 = some [.d (.s []), .d (.i .i64 0), .d (.s []), .fsl []] := ⟨by kernel_rfl, by kernel_rfl, by kernel_rfl, by kernel_rfl⟩
theorem ty215 : Tryz.prog.cellsOf 215 = 1 ∧ Tryz.prog.bytesOf 215 = 8 ∧ (Tryz.prog.info? 215).isSome = true ∧ zeroCs Tryz.prog 215 = some [.d (.o .nilFunc)] := ⟨by kernel_rfl, by kernel_rfl, by kernel_rfl, by kernel_rfl⟩
theorem ty219 : Tryz.prog.cellsOf 219 = 4 ∧ Tryz.prog.bytesOf 219 = 64 ∧ (Tryz.prog.info? 219).isSome = true ∧ zeroCs Tryz.prog 219 = some [.d (.s []), .d (.i .i64 0), .d (.s []), .fsl []] := ⟨by kernel_rfl, by kernel_rfl, by kernel_rfl, by kernel_rfl⟩
theorem ty220 : Tryz.prog.cellsOf 220 = 4 ∧ Tryz.prog.bytesOf 220 = 64 ∧ (Tryz.prog.info? 220).isSome = true ∧ zeroCs Tryz.prog 220 = some [.d (.s []), .d (.i .i64 0), .d (.s []), .fsl []] := ⟨by kernel_rfl, by kernel_rfl, by kernel_rfl, by kernel_rfl⟩
theorem ty231 : Tryz.prog.cellsOf 231 = 16 ∧ Tryz.prog.bytesOf 231 = 264 ∧ (Tryz.prog.info? 231).isSome = true ∧ zeroCs Tryz.prog 231 = some [.d (.s []), .fsl [], .d (.i .i64 0), .d (.s []), .fsl [], .d (.b false), .fsl [], .d (.i .i64 0), .d (.s []), .d (.s []), .d (.i .i64 0), .d (.i .i64 0), .d (.s []), .fsl [], .fsl [], .fsl []] := ⟨by kernel_rfl, by kernel_rfl, by kernel_rfl, by kernel_rfl⟩
theorem ty232 : Tryz.prog.cellsOf 232 = 16 ∧ Tryz.prog.bytesOf 232 = 264 ∧ (Tryz.prog.info? 232).isSome = true ∧ zeroCs Tryz.prog 232 = some [.d (.s []), .fsl [], .d (.i .i64 0), .d (.s []), .fsl [], .d (.b false), .fsl [], .d (.i .i64 0), .d (.s []), .d (.s []), .d (.i .i64 0), .d (.i .i64 0), .d (.s []), .fsl [], .fsl [], .fsl []] := ⟨by kernel_rfl, by kernel_rfl, by kernel_rfl, by kernel_rfl⟩
theorem ty237 : Tryz.prog.cellsOf 237 = 11 ∧ Tryz.prog.bytesOf 237 = 184 ∧ (Tryz.prog.info? 237).isSome = true ∧ zeroCs Tryz.prog 237 = some [.d (.s []), .fsl [], .d (.i .i64 0), .d (.s []), .d (.s []), .d (.i .i64 0), .d (.i .i64 0), .d (.s []), .fsl [], .fsl [], .fsl []] := ⟨by kernel_rfl, by kernel_rfl, by kernel_rfl, by kernel_rfl⟩
theorem ty238 : Tryz.prog.cellsOf 238 = 11 ∧ Tryz.prog.bytesOf 238 = 184 ∧ (Tryz.prog.info? 238).isSome = true ∧ zeroCs Tryz.prog 238 = some [.d (.s []), .fsl [], .d (.i .i64 0), .d (.s []), .d (.s []), .d (.i .i64 0), .d (.i .i64 0), .d (.s []), .fsl [], .fsl [], .fsl []] := ⟨by kernel_rfl, by kernel_rfl, by kernel_rfl, by kernel_rfl⟩
theorem ty239 : Tryz.prog.cellsOf 239 = 1 ∧ Tryz.prog.bytesOf 239 = 8 ∧ (Tryz.prog.info? 239).isSome = true ∧ zeroCs Tryz.prog 239 = some [.d (.o .nilFunc)] := ⟨by kernel_rfl, by kernel_rfl, by kernel_rfl, by kernel_rfl⟩
theorem ty245 : Tryz.prog.cellsOf 245 = 1 ∧ Tryz.prog.bytesOf 245 = 24 ∧ (Tryz.prog.info? 245).isSome = true ∧ zeroCs Tryz.prog 245 = some [.fsl []] := ⟨by kernel_rfl, by kernel_rfl, by kernel_rfl, by kernel_rfl⟩
theorem ty246 : Tryz.prog.cellsOf 246 = 3 ∧ Tryz.prog.bytesOf 246 = 64 ∧ (Tryz.prog.info? 246).isSome = true ∧ zeroCs Tryz.prog 246 = some [.d (.s []), .fsl [], .fsl []] := ⟨by kernel_rfl, by kernel_rfl, by kernel_rfl, by kernel_rfl⟩
theorem ty247 : Tryz.prog.cellsOf 247 = 3 ∧ Tryz.prog.bytesOf 247 = 64 ∧ (Tryz.prog.info? 247).isSome = true ∧ zeroCs Tryz.prog 247 = some [.d (.s []), .fsl [], .fsl []] := ⟨by kernel_rfl, by kernel_rfl, by kernel_rfl, by kernel_rfl⟩
theorem ty251 : Tryz.prog.cellsOf 251 = 2 ∧ Tryz.prog.bytesOf 251 = 40 ∧ (Tryz.prog.info? 251).isSome = true ∧ zeroCs Tryz.prog 251 = some [.d (.s []), .fsl []] := ⟨by kernel_rfl, by kernel_rfl, by kernel_rfl, by kernel_rfl⟩
theorem ty252 : Tryz.prog.cellsOf 252 = 2 ∧ Tryz.prog.bytesOf 252 = 40 ∧ (Tryz.prog.info? 252).isSome = true ∧ zeroCs Tryz.prog 252 = some [.d (.s []), .fsl []] := ⟨by kernel_rfl, by kernel_rfl, by kernel_rfl, by kernel_rfl⟩
theorem ty257 : Tryz.prog.cellsOf 257 = 1 ∧ Tryz.prog.bytesOf 257 = 24 ∧ (Tryz.prog.info? 257).isSome = true ∧ zeroCs Tryz.prog 257 = some [.fsl []] := ⟨by kernel_rfl, by kernel_rfl, by kernel_rfl, by kernel_rfl⟩
theorem ty261 : Tryz.prog.cellsOf 261 = 1 ∧ Tryz.prog.bytesOf 261 = 8 ∧ (Tryz.prog.info? 261).isSome = true ∧ zeroCs Tryz.prog 261 = some [.d (.o (.pointer none))] := ⟨by kernel_rfl, by kernel_rfl, by kernel_rfl, by kernel_rfl⟩
theorem ty262 : Tryz.prog.cellsOf 262 = 1 ∧ Tryz.prog.bytesOf 262 = 24 ∧ (Tryz.prog.info? 262).isSome = true ∧ zeroCs Tryz.prog 262 = some [.fsl []] := ⟨by kernel_rfl, by kernel_rfl, by kernel_rfl, by kernel_rfl⟩
theorem ty263 : Tryz.prog.cellsOf 263 = 2 ∧ Tryz.prog.bytesOf 263 = 32 ∧ (Tryz.prog.info? 263).isSome = true ∧ zeroCs Tryz.prog 263 = some [.d (.o (.pointer none)), .fsl []] := ⟨by kernel_rfl, by kernel_rfl, by kernel_rfl, by kernel_rfl⟩
theorem ty264 : Tryz.prog.cellsOf 264 = 2 ∧ Tryz.prog.bytesOf 264 = 32 ∧ (Tryz.prog.info? 264).isSome = true ∧ zeroCs Tryz.prog 264 = some [.d (.o (.pointer none)), .fsl []] := ⟨by kernel_rfl, by kernel_rfl, by kernel_rfl, by kernel_rfl⟩
theorem ty280 : Tryz.prog.cellsOf 280 = 1 ∧ Tryz.prog.bytesOf 280 = 8 ∧ (Tryz.prog.info? 280).isSome = true ∧ zeroCs Tryz.prog 280 = some [.d (.o .nilFunc)] := ⟨by kernel_rfl, by kernel_rfl, by kernel_rfl, by kernel_rfl⟩
theorem ty281 : Tryz.prog.cellsOf 281 = 1 ∧ Tryz.prog.bytesOf 281 = 24 ∧ (Tryz.prog.info? 281).isSome = true ∧ zeroCs Tryz.prog 281 = some [.fsl []] := ⟨by kernel_rfl, by kernel_rfl, by kernel_rfl, by kernel_rfl⟩
theorem ty283 : Tryz.prog.cellsOf 283 = 1 ∧ Tryz.prog.bytesOf 283 = 8 ∧ (Tryz.prog.info? 283).isSome = true ∧ zeroCs Tryz.prog 283 = some [.d (.o .nilFunc)] := ⟨by kernel_rfl, by kernel_rfl, by kernel_rfl, by kernel_rfl⟩
theorem ty289 : Tryz.prog.cellsOf 289 = 1 ∧ Tryz.prog.bytesOf 289 = 8 ∧ (Tryz.prog.info? 289).isSome = true ∧ zeroCs Tryz.prog 289 = some [.d (.o (.map none))] := ⟨by kernel_rfl, by kernel_rfl, by kernel_rfl, by kernel_rfl⟩
theorem ty292 : Tryz.prog.cellsOf 292 = 1 ∧ Tryz.prog.bytesOf 292 = 8 ∧ (Tryz.prog.info? 292).isSome = true ∧ zeroCs Tryz.prog 292 = some [.d (.o .nilFunc)] := ⟨by kernel_rfl, by kernel_rfl, by kernel_rfl, by kernel_rfl⟩
theorem ty296 : Tryz.prog.cellsOf 296 = 4 ∧ Tryz.prog.bytesOf 296 = 96 ∧ (Tryz.prog.info? 296).isSome = true ∧ zeroCs Tryz.prog 296 = some [.fsl [], .fsl [], .fsl [], .fsl []] := ⟨by kernel_rfl, by kernel_rfl, by kernel_rfl, by kernel_rfl⟩
theorem ty301 : Tryz.prog.cellsOf 301 = 1 ∧ Tryz.prog.bytesOf 301 = 16 ∧ (Tryz.prog.info? 301).isSome = true ∧ zeroCs Tryz.prog 301 = some [.d (.o .nilIface)] := ⟨by kernel_rfl, by kernel_rfl, by kernel_rfl, by kernel_rfl⟩
theorem ty302 : Tryz.prog.cellsOf 302 = 1 ∧ Tryz.prog.bytesOf 302 = 16 ∧ (Tryz.prog.info? 302).isSome = true ∧ zeroCs Tryz.prog 302 = some [.d (.o .nilIface)] := ⟨by kernel_rfl, by kernel_rfl, by kernel_rfl, by kernel_rfl⟩
theorem ty306 : Tryz.prog.cellsOf 306 = 1 ∧ Tryz.prog.bytesOf 306 = 8 ∧ (Tryz.prog.info? 306).isSome = true ∧ zeroCs Tryz.prog 306 = some [.d (.o (.pointer none))] := ⟨by kernel_rfl, by kernel_rfl, by kernel_rfl, by kernel_rfl⟩
theorem ty328 : Tryz.prog.cellsOf 328 = 2 ∧ Tryz.prog.bytesOf 328 = 40 ∧ (Tryz.prog.info? 328).isSome = true ∧ zeroCs Tryz.prog 328 = some [.d (.s []), .fsl []] := ⟨by kernel_rfl, by kernel_rfl, by kernel_rfl, by kernel_rfl⟩
theorem ty329 : Tryz.prog.cellsOf 329 = 2 ∧ Tryz.prog.bytesOf 329 = 40 ∧ (Tryz.prog.info? 329).isSome = true ∧ zeroCs Tryz.prog 329 = some [.d (.s []), .fsl []] := ⟨by kernel_rfl, by kernel_rfl, by kernel_rfl, by kernel_rfl⟩
theorem ty343 : Tryz.prog.cellsOf 343 = 24 ∧ Tryz.prog.bytesOf 343 = 24 ∧ (Tryz.prog.info? 343).isSome = true ∧ zeroCs Tryz.prog 343 = some [.d (.i .u8 0), .d (.i .u8 0), .d (.i .u8 0), .d (.i .u8 0), .d (.i .u8 0), .d (.i .u8 0), .d (.i .u8 0), .d (.i .u8 0), .d (.i .u8 0), .d (.i .u8 0), .d (.i .u8 0), .d (.i .u8 0), .d (.i .u8 0), .d (.i .u8 0), .d (.i .u8 0), .d (.i .u8 0), .d (.i .u8 0), .d (.i .u8 0), .d (.i .u8 0), .d (.i .u8 0), .d (.i .u8 0), .d (.i .u8 0), .d (.i .u8 0), .d (.i .u8 0)] := ⟨by kernel_rfl, by kernel_rfl, by kernel_rfl, by kernel_rfl⟩
theorem ty344 : Tryz.prog.cellsOf 344 = 1 ∧ Tryz.prog.bytesOf 344 = 8 ∧ (Tryz.prog.info? 344).isSome = true ∧ zeroCs Tryz.prog 344 = some [.d (.i .u64 0)] := ⟨by kernel_rfl, by kernel_rfl, by kernel_rfl, by kernel_rfl⟩
theorem ty349 : Tryz.prog.cellsOf 349 = 1 ∧ Tryz.prog.bytesOf 349 = 24 ∧ (Tryz.prog.info? 349).isSome = true ∧ zeroCs Tryz.prog 349 = some [.fsl []] := ⟨by kernel_rfl, by kernel_rfl, by kernel_rfl, by kernel_rfl⟩
theorem ty360 : Tryz.prog.cellsOf 360 = 20 ∧ Tryz.prog.bytesOf 360 = 160 ∧ (Tryz.prog.info? 360).isSome = true ∧ zeroCs Tryz.prog 360 = some [.d (.i .u64 0), .d (.i .u64 0), .d (.i .u64 0), .d (.i .u64 0), .d (.i .u64 0), .d (.i .u64 0), .d (.i .u64 0), .d (.i .u64 0), .d (.i .u64 0), .d (.i .u64 0), .d (.i .u64 0), .d (.i .u64 0), .d (.i .u64 0), .d (.i .u64 0), .d (.i .u64 0), .d (.i .u64 0), .d (.i .u64 0), .d (.i .u64 0), .d (.i .u64 0), .d (.i .u64 0)] := ⟨by kernel_rfl, by kernel_rfl, by kernel_rfl, by kernel_rfl⟩
theorem ty361 : Tryz.prog.cellsOf 361 = 1 ∧ Tryz.prog.bytesOf 361 = 4 ∧ (Tryz.prog.info? 361).isSome = true ∧ zeroCs Tryz.prog 361 = some [.d (.i .u32 0)] := ⟨by kernel_rfl, by kernel_rfl, by kernel_rfl, by kernel_rfl⟩
theorem ty362 : Tryz.prog.cellsOf 362 = 65 ∧ Tryz.prog.bytesOf 362 = 65 ∧ (Tryz.prog.info? 362).isSome = true ∧ zeroCs Tryz.prog 362 = some [.d (.i .u8 0), .d (.i .u8 0), .d (.i .u8 0), .d (.i .u8 0), .d (.i .u8 0), .d (.i .u8 0), .d (.i .u8 0), .d (.i .u8 0), .d (.i .u8 0), .d (.i .u8 0), .d (.i .u8 0), .d (.i .u8 0), .d (.i .u8 0), .d (.i .u8 0), .d (.i .u8 0), .d (.i .u8 0), .d (.i .u8 0), .d (.i .u8 0), .d (.i .u8 0), .d (.i .u8 0), .d (.i .u8 0), .d (.i .u8 0), .d (.i .u8 0), .d (.i .u8 0), .d (.i .u8 0), .d (.i .u8 0), .d (.i .u8 0), .d (.i .u8 0), .d (.i .u8 0), .d (.i .u8 0), .d (.i .u8 0), .d (.i .u8 0), .d (.i .u8 0), .d (.i .u8 0), .d (.i .u8 0), .d (.i .u8 0), .d (.i .u8 0), .d (.i .u8 0), .d (.i .u8 0), .d (.i .u8 0), .d (.i .u8 0), .d (.i .u8 0), .d (.i .u8 0), .d (.i .u8 0), .d (.i .u8 0), .d (.i .u8 0), .d (.i .u8 0), .d (.i .u8 0), .d (.i .u8 0), .d (.i .u8 0), .d (.i .u8 0), .d (.i .u8 0), .d (.i .u8 0), .d (.i .u8 0), .d (.i .u8 0), .d (.i .u8 0), .d (.i .u8 0), .d (.i .u8 0), .d (.i .u8 0), .d (.i .u8 0), .d (.i .u8 0), .d (.i .u8 0), .d (.i .u8 0), .d (.i .u8 0), .d (.i .u8 0)] := ⟨by kernel_rfl, by kernel_rfl, by kernel_rfl, by kernel_rfl⟩
theorem ty364 : Tryz.prog.cellsOf 364 = 1 ∧ Tryz.prog.bytesOf 364 = 8 ∧ (Tryz.prog.info? 364).isSome = true ∧ zeroCs Tryz.prog 364 = some [.d (.i .u64 0)] := ⟨by kernel_rfl, by kernel_rfl, by kernel_rfl, by kernel_rfl⟩
theorem ty369 : Tryz.prog.cellsOf 369 = 3 ∧ Tryz.prog.bytesOf 369 = 48 ∧ (Tryz.prog.info? 369).isSome = true ∧ zeroCs Tryz.prog 369 = some [.d (.s []), .d (.s []), .d (.o .nilIface)] := ⟨by kernel_rfl, by kernel_rfl, by kernel_rfl, by kernel_rfl⟩
theorem ty375 : Tryz.prog.cellsOf 375 = 1 ∧ Tryz.prog.bytesOf 375 = 16 ∧ (Tryz.prog.info? 375).isSome = true ∧ zeroCs Tryz.prog 375 = some [.d (.s [])] := ⟨by kernel_rfl, by kernel_rfl, by kernel_rfl, by kernel_rfl⟩
theorem ty379 : Tryz.prog.cellsOf 379 = 32 ∧ Tryz.prog.bytesOf 379 = 32 ∧ (Tryz.prog.info? 379).isSome = true ∧ zeroCs Tryz.prog 379 = some [.d (.i .u8 0), .d (.i .u8 0), .d (.i .u8 0), .d (.i .u8 0), .d (.i .u8 0), .d (.i .u8 0), .d (.i .u8 0), .d (.i .u8 0), .d (.i .u8 0), .d (.i .u8 0), .d (.i .u8 0), .d (.i .u8 0), .d (.i .u8 0), .d (.i .u8 0), .d (.i .u8 0), .d (.i .u8 0), .d (.i .u8 0), .d (.i .u8 0), .d (.i .u8 0), .d (.i .u8 0), .d (.i .u8 0), .d (.i .u8 0), .d (.i .u8 0), .d (.i .u8 0), .d (.i .u8 0), .d (.i .u8 0), .d (.i .u8 0), .d (.i .u8 0), .d (.i .u8 0), .d (.i .u8 0), .d (.i .u8 0), .d (.i .u8 0)] := ⟨by kernel_rfl, by kernel_rfl, by kernel_rfl, by kernel_rfl⟩
theorem ty380 : Tryz.prog.cellsOf 380 = 64 ∧ Tryz.prog.bytesOf 380 = 64 ∧ (Tryz.prog.info? 380).isSome = true ∧ zeroCs Tryz.prog 380 = some [.d (.i .u8 0), .d (.i .u8 0), .d (.i .u8 0), .d (.i .u8 0), .d (.i .u8 0), .d (.i .u8 0), .d (.i .u8 0), .d (.i .u8 0), .d (.i .u8 0), .d (.i .u8 0), .d (.i .u8 0), .d (.i .u8 0), .d (.i .u8 0), .d (.i .u8 0), .d (.i .u8 0), .d (.i .u8 0), .d (.i .u8 0), .d (.i .u8 0), .d (.i .u8 0), .d (.i .u8 0), .d (.i .u8 0), .d (.i .u8 0), .d (.i .u8 0), .d (.i .u8 0), .d (.i .u8 0), .d (.i .u8 0), .d (.i .u8 0), .d (.i .u8 0), .d (.i .u8 0), .d (.i .u8 0), .d (.i .u8 0), .d (.i .u8 0), .d (.i .u8 0), .d (.i .u8 0), .d (.i .u8 0), .d (.i .u8 0), .d (.i .u8 0), .d (.i .u8 0), .d (.i .u8 0), .d (.i .u8 0), .d (.i .u8 0), .d (.i .u8 0), .d (.i .u8 0), .d (.i .u8 0), .d (.i .u8 0), .d (.i .u8 0), .d (.i .u8 0), .d (.i .u8 0), .d (.i .u8 0), .d (.i .u8 0), .d (.i .u8 0), .d (.i .u8 0), .d (.i .u8 0), .d (.i .u8 0), .d (.i .u8 0), .d (.i .u8 0), .d (.i .u8 0), .d (.i .u8 0), .d (.i .u8 0), .d (.i .u8 0), .d (.i .u8 0), .d (.i .u8 0), .d (.i .u8 0), .d (.i .u8 0)] := ⟨by kernel_rfl, by kernel_rfl, by kernel_rfl, by kernel_rfl⟩
theorem laidOut : laidOutB Tryz.prog = true := by kernel_rfl
theorem own : ownKnob Tryz.prog.godebug = none := by kernel_rfl
attribute [go_sem] ty1 Tryz.underlying1 ty2 Tryz.underlying2 ty3 Tryz.underlying3 ty4 Tryz.underlying4 zval4 ty5 Tryz.underlying5 ty9 Tryz.underlying9 ty12 Tryz.underlying12 ty20 Tryz.underlying20 ty21 Tryz.underlying21 ty22 Tryz.underlying22 ty23 Tryz.underlying23 ty24 Tryz.underlying24 ty25 Tryz.underlying25 ty26 Tryz.underlying26 ty27 Tryz.underlying27 ty28 Tryz.underlying28 ty29 Tryz.underlying29 ty30 Tryz.underlying30 ty31 Tryz.underlying31 ty32 Tryz.underlying32 ty34 Tryz.underlying34 ty35 Tryz.underlying35 ty36 Tryz.underlying36 ty37 Tryz.underlying37 ty38 Tryz.underlying38 ty39 Tryz.underlying39 ty40 Tryz.underlying40 ty41 Tryz.underlying41 ty42 Tryz.underlying42 ty43 Tryz.underlying43 ty44 Tryz.underlying44 ty47 Tryz.underlying47 ty48 Tryz.underlying48 ty49 Tryz.underlying49 ty50 Tryz.underlying50 ty51 Tryz.underlying51 ty52 Tryz.underlying52 ty53 Tryz.underlying53 ty54 Tryz.underlying54 ty55 Tryz.underlying55 ty56 Tryz.underlying56 ty57 Tryz.underlying57 ty58 Tryz.underlying58 ty62 Tryz.underlying62 ty63 Tryz.underlying63 ty64 Tryz.underlying64 ty65 Tryz.underlying65 ty66 Tryz.underlying66 ty67 Tryz.underlying67 ty68 Tryz.underlying68 ty69 Tryz.underlying69 ty70 Tryz.underlying70 ty71 Tryz.underlying71 ty74 Tryz.underlying74 ty75 Tryz.underlying75 ty76 Tryz.underlying76 ty79 Tryz.underlying79 ty80 Tryz.underlying80 ty81 Tryz.underlying81 ty82 Tryz.underlying82 ty83 Tryz.underlying83 ty84 Tryz.underlying84 ty86 Tryz.underlying86 ty87 Tryz.underlying87 ty88 Tryz.underlying88 ty89 Tryz.underlying89 ty90 Tryz.underlying90 ty91 Tryz.underlying91 ty92 Tryz.underlying92 ty93 Tryz.underlying93 ty94 Tryz.underlying94 ty95 Tryz.underlying95 ty96 Tryz.underlying96 ty97 Tryz.underlying97 ty98 Tryz.underlying98 ty99 Tryz.underlying99 ty106 Tryz.underlying106 ty107 Tryz.underlying107 ty108 Tryz.underlying108 ty117 Tryz.underlying117 ty118 Tryz.underlying118 ty124 Tryz.underlying124 ty127 Tryz.underlying127 ty128 Tryz.underlying128 ty129 Tryz.underlying129 ty137 Tryz.underlying137 ty138 Tryz.underlying138 ty153 Tryz.underlying153 ty154 Tryz.underlying154 ty161 Tryz.underlying161 ty162 Tryz.underlying162 ty172 Tryz.underlying172 ty173 Tryz.underlying173 ty174 Tryz.underlying174 ty193 Tryz.underlying193 ty194 Tryz.underlying194 ty197 Tryz.underlying197 ty198 Tryz.underlying198 ty206 Tryz.underlying206 ty209 Tryz.underlying209 ty210 Tryz.underlying210 ty212 Tryz.underlying212 ty213 Tryz.underlying213 ty215 Tryz.underlying215 ty219 Tryz.underlying219 ty220 Tryz.underlying220 ty231 Tryz.underlying231 ty232 Tryz.underlying232 ty237 Tryz.underlying237 ty238 Tryz.underlying238 ty239 Tryz.underlying239 ty245 Tryz.underlying245 ty246 Tryz.underlying246 ty247 Tryz.underlying247 ty251 Tryz.underlying251 ty252 Tryz.underlying252 ty257 Tryz.underlying257 ty261 Tryz.underlying261 ty262 Tryz.underlying262 ty263 Tryz.underlying263 ty264 Tryz.underlying264 ty280 Tryz.underlying280 ty281 Tryz.underlying281 ty283 Tryz.underlying283 ty289 Tryz.underlying289 ty292 Tryz.underlying292 ty296 Tryz.underlying296 ty301 Tryz.underlying301 ty302 Tryz.underlying302 ty306 Tryz.underlying306 ty328 Tryz.underlying328 ty329 Tryz.underlying329 ty343 Tryz.underlying343 ty344 Tryz.underlying344 ty349 Tryz.underlying349 ty360 Tryz.underlying360 ty361 Tryz.underlying361 ty362 Tryz.underlying362 ty364 Tryz.underlying364 ty369 Tryz.underlying369 ty375 Tryz.underlying375 ty379 Tryz.underlying379 ty380 Tryz.underlying380
end Go.Proofs.YtokcpelkieeddaaGreatDoor.Fa

namespace Go.Proofs.YtokcpelkieeddaaGreatDoor
open Go Go.Ab
theorem szStringS_ok (xs : List (List UInt8)) (left : Int) (h0 : 0 ≤ left) (h1 : left ≤ 1048576) (hf : (D.sl (xs.map encS)).Fit) :
    PCall Tryz.prog 74 [.c (.d (.sl (xs.map encS))), .c (.d (.i .i64 left))] (.c (.d (.i .i64 (sub1 left (xs.length + szRows (xs.map encS)))))) := by
  intro S
  obtain ⟨hf1, hf2⟩ := fit_sl hf
  rw [List.length_map] at hf1
  refine acall_cw (rs := [.tmp 4]) Tryz.checked.mixed Tryz.func74 Tryz.ntmps74 rfl rfl rfl rfl rfl ?_
  simp -implicitDefEqProofs (disch := omega) only [go_sem]
  with_reducible refine split2 (fun hb => ?_) (fun hb => ?_) <;> have h := hb <;> (try simp only [wf_preprocess] at h) <;> simp -implicitDefEqProofs (disch := omega) only [go_sem, hb] <;> (repeat (with_reducible refine And.intro ?_ ?_; focus first | omega | rfl | assumption | exact ⟨_, rfl, rfl⟩ | (simp; omega) | (simp; done)))
  · exact int_eq (sub1_no (by omega)).symm
  refine loop_at (ι := Nat × Int) Tryz.checked.mixed rfl [0, 1, 5] (fun y => [.c (.d (.sl (xs.map encS))), .c (.d (.i .i64 y.2)), .c (.d (.i .i64 y.1))]) (fun _ => [] :: S)
    (fun y => y.1 ≤ xs.length ∧ 0 ≤ y.2 ∧ y.2 ≤ 1048576 ∧ sub1 y.2 (szRows ((xs.map encS).drop y.1)) = sub1 left (xs.length + szRows (xs.map encS))) (fun y => xs.length - y.1) (0, left - xs.length) rfl rfl ⟨by omega, by omega, by omega, ?_⟩ ?_
  · unfold sub1
    rw [List.drop_zero]
    split <;> split <;> omega
  rintro ⟨i, l⟩ ⟨p1, p2, p3, p4⟩
  simp only at p1 p2 p3 p4
  simp -implicitDefEqProofs (disch := omega) only [go_sem]
  with_reducible refine split2 (fun hb => ?_) (fun hb => ?_) <;> have h := hb <;> (try simp only [wf_preprocess] at h) <;> simp -implicitDefEqProofs (disch := omega) only [go_sem, hb] <;> (repeat (with_reducible refine And.intro ?_ ?_; focus first | omega | rfl | assumption | exact ⟨_, rfl, rfl⟩ | (simp; omega) | (simp; done)))
  · have hi : i < xs.length := by omega
    have hl : xs[i].length ≤ 9223372036854775807 := fit_s (hf2 (encS xs[i]) (List.mem_map_of_mem (List.getElem_mem hi)) (.s xs[i]) (by simp [encS]))
    rw [List.drop_eq_getElem_cons (by rw [List.length_map]; exact hi), szRows, List.getElem_map] at p4
    simp only [encS, szRow, D.sz] at p4
    simp -implicitDefEqProofs (disch := omega) only [go_sem]
    (repeat (with_reducible refine And.intro ?_ ?_; focus first | omega | rfl | assumption | exact ⟨_, rfl, rfl⟩ | (simp; omega) | (simp; done)))
    with_reducible refine split2 (fun hb => ?_) (fun hb => ?_) <;> have h := hb <;> (try simp only [wf_preprocess] at h) <;> simp -implicitDefEqProofs (disch := omega) only [go_sem, hb] <;> (repeat (with_reducible refine And.intro ?_ ?_; focus first | omega | rfl | assumption | exact ⟨_, rfl, rfl⟩ | (simp; omega) | (simp; done)))
    · rw [← p4, sub1_no (by omega)]
    · refine inv_at (i + 1, l - xs[i].length) (by simp only; omega) rfl rfl ⟨by simp only; omega, by simp only; omega, by simp only; omega, ?_⟩
      simp only
      rw [← p4]
      unfold sub1
      split <;> split <;> omega
  · have hi : i = xs.length := by omega
    rw [hi, List.drop_of_length_le (by simp), szRows, sub1_yes (by omega)] at p4
    rw [← p4]
    refine int_eq ?_
    omega
theorem toStringS_ok (xs : List (List UInt8)) (hsz : xs.length + szRows (xs.map encS) ≤ 1048576) : PCall Tryz.prog 84 [.c (.d (.sl (xs.map encS)))] (.c (.d (.sl (xs.map encS)))) := by
  intro S
  refine acall_cw (rs := [.tmp 2]) Tryz.checked.mixed Tryz.func84 Tryz.ntmps84 rfl rfl rfl rfl rfl ?_
  simp -implicitDefEqProofs (disch := omega) only [go_sem]
  (repeat (with_reducible refine And.intro ?_ ?_; focus first | omega | rfl | assumption | exact ⟨_, rfl, rfl⟩ | (simp; omega) | (simp; done)))
  refine loop_at (ι := Nat × List (List D)) Tryz.checked.mixed rfl [0, 3, 4] (fun y => [.c (.d (.sl (xs.map encS))), .c (.msl (0, 0)), .c (.d (.i .i64 y.1))]) (fun y => [.mrow 1 y.2] :: S)
    (fun y => y.1 ≤ xs.length ∧ Filled 1 y.1 y.2 (xs.map encS)) (fun y => xs.length - y.1) (0, _) rfl rfl ⟨Nat.zero_le _, Filled.start (by simp) rfl⟩ ?_
  rintro ⟨i, R⟩ ⟨p1, p2⟩
  simp only at p1 p2
  simp -implicitDefEqProofs (disch := omega) only [go_sem]
  with_reducible refine split2 (fun hb => ?_) (fun hb => ?_) <;> have h := hb <;> (try simp only [wf_preprocess] at h) <;> simp -implicitDefEqProofs (disch := omega) only [go_sem, hb] <;> (repeat (with_reducible refine And.intro ?_ ?_; focus first | omega | rfl | assumption | exact ⟨_, rfl, rfl⟩ | (simp; omega) | (simp; done)))
  · have hi : i < xs.length := by omega
    have hR := p2.1
    rw [List.length_map] at hR
    (repeat (with_reducible refine And.intro ?_ ?_; focus first | omega | rfl | assumption | exact ⟨_, rfl, rfl⟩ | (simp; omega) | (simp; done)))
    refine inv_at (i + 1, _) (by simp only; omega) rfl rfl ⟨by simp only; omega, p2.step (by simp [hi, encS]) rfl⟩
  · have hi : i = xs.length := by omega
    rw [p2.done (by rw [List.length_map]; omega)]
theorem eqStringS_ok (xs ys : List (List UInt8)) (hsz : xs.length ≤ 1073741824) : PCall Tryz.prog 89 [.c (.d (.sl (xs.map encS))), .c (.d (.sl (ys.map encS)))] (.c (.d (.b (dec (xs = ys))))) := by
  intro S
  refine acall_cw (rs := [.tmp 4]) Tryz.checked.mixed Tryz.func89 Tryz.ntmps89 rfl rfl rfl rfl rfl ?_
  simp -implicitDefEqProofs (disch := omega) only [go_sem]
  with_reducible refine split2 (fun hb => ?_) (fun hb => ?_) <;> have h := hb <;> (try simp only [wf_preprocess] at h) <;> simp -implicitDefEqProofs (disch := omega) only [go_sem, hb] <;> (repeat (with_reducible refine And.intro ?_ ?_; focus first | omega | rfl | assumption | exact ⟨_, rfl, rfl⟩ | (simp; omega) | (simp; done)))
  · exact bool_eq (dec_false (fun e => h (by rw [e]))).symm
  have hl : xs.length = ys.length := by omega
  refine loop_at (ι := Nat) Tryz.checked.mixed rfl [0, 1, 5] (fun y => [.c (.d (.sl (xs.map encS))), .c (.d (.sl (ys.map encS))), .c (.d (.i .i64 y))]) (fun y => [] :: S)
    (fun i => i ≤ xs.length ∧ ∀ j, j < i → xs[j]? = ys[j]?) (fun y => xs.length - y) 0 rfl rfl ⟨Nat.zero_le _, fun j h => by omega⟩ ?_
  rintro i ⟨p1, p2⟩
  simp -implicitDefEqProofs (disch := omega) only [go_sem]
  with_reducible refine split2 (fun hb => ?_) (fun hb => ?_) <;> have h := hb <;> (try simp only [wf_preprocess] at h) <;> simp -implicitDefEqProofs (disch := omega) only [go_sem, hb] <;> (repeat (with_reducible refine And.intro ?_ ?_; focus first | omega | rfl | assumption | exact ⟨_, rfl, rfl⟩ | (simp; omega) | (simp; done)))
  · have hi : i < xs.length := by omega
    have hi' : i < ys.length := by omega
    (repeat (with_reducible refine And.intro ?_ ?_; focus first | omega | rfl | assumption | exact ⟨_, rfl, rfl⟩ | (simp; omega) | (simp; done)))
    with_reducible refine split2 (fun hb => ?_) (fun hb => ?_) <;> have h := hb <;> (try simp only [wf_preprocess] at h) <;> simp -implicitDefEqProofs (disch := omega) only [go_sem, hb] <;> (repeat (with_reducible refine And.intro ?_ ?_; focus first | omega | rfl | assumption | exact ⟨_, rfl, rfl⟩ | (simp; omega) | (simp; done)))
    · exact bool_eq (dec_false (fun e => h (by simp only [e]))).symm
    refine inv_at (i + 1) (by omega) rfl rfl ⟨by omega, fun j hj => ?_⟩
    by_cases e : j = i
    · subst e
      rw [List.getElem?_eq_getElem hi, List.getElem?_eq_getElem hi', h]
    · exact p2 j (by omega)
  · have hi : i = xs.length := by omega
    refine bool_eq (dec_true (List.ext_getElem? fun j => ?_)).symm
    by_cases hj : j < i
    · exact p2 j hj
    · rw [List.getElem?_eq_none (by omega), List.getElem?_eq_none (by omega)]
end Go.Proofs.YtokcpelkieeddaaGreatDoor

namespace Go.Proofs.YtokcpelkieeddaaGreatDoor
open Go Go.Ab
theorem szType_all : ∀ n : Nat, (∀ x : MType, SizeOf.sizeOf x < n → ∀ left : Int, 0 ≤ left → left ≤ 1048576 → FitL x.enc → PCall Tryz.prog 53 [x.v, .c (.d (.i .i64 left))] (.c (.d (.i .i64 (sub1 left x.sz))))) ∧
    (∀ xs : List MType, SizeOf.sizeOf xs < n → ∀ left : Int, 0 ≤ left → left ≤ 1048576 → (D.sl (xs.map MType.enc)).Fit → PCall Tryz.prog 145 [.c (.d (.sl (xs.map MType.enc))), .c (.d (.i .i64 left))] (.c (.d (.i .i64 (sub1 left (xs.length + szRows (xs.map MType.enc)))))))
  | 0 => ⟨fun x h => by omega, fun x h => by omega⟩
  | n + 1 => by
    obtain ⟨ihType, ihSType⟩ := szType_all n
    refine ⟨fun x hn left h0 h1 hf S => ?_, fun xs hn left h0 h1 hf S => ?_⟩
    · have lArgs := MType.lt_Args x
      simp only [MType.enc_eq, List.cons_append, List.nil_append, fitL_cons, fitL_append, fitL_nil_iff, and_true] at hf
      obtain ⟨fKind, fName, fArgs⟩ := hf
      have hz : x.sz = x.fName.length + ((x.fArgs.length + szRows (x.fArgs.map MType.enc))) := by
        simp only [MType.sz, MType.enc_eq, szRow, szRow_append, D.sz, List.length_map, Nat.add_zero, Nat.zero_add] <;> omega
      refine acall_cw (rs := [.tmp 4]) Tryz.checked.mixed Tryz.func53 Tryz.ntmps53 rfl rfl rfl rfl rfl ?_
      rw [hz]
      have gName := fit_s fName
      simp -implicitDefEqProofs (disch := omega) only [go_sem]
      with_reducible refine split2 (fun hb => ?_) (fun hb => ?_) <;> have h := hb <;> (try simp only [wf_preprocess] at h) <;> simp -implicitDefEqProofs (disch := omega) only [go_sem, hb] <;> (repeat (with_reducible refine And.intro ?_ ?_; focus first | omega | rfl | assumption | exact ⟨_, rfl, rfl⟩ | (simp; omega) | (simp; done)))
      · exact int_eq (sub1_no (by omega)).symm
      refine call_w (ihSType x.fArgs (by omega) _ (by omega) (by omega) fArgs) ?_
      simp -implicitDefEqProofs (disch := omega) only [go_sem]
      with_reducible refine split2 (fun hb => ?_) (fun hb => ?_) <;> have h := hb <;> (try simp only [wf_preprocess] at h) <;> simp -implicitDefEqProofs (disch := omega) only [go_sem, hb] <;> (repeat (with_reducible refine And.intro ?_ ?_; focus first | omega | rfl | assumption | exact ⟨_, rfl, rfl⟩ | (simp; omega) | (simp; done)))
      · have h' := sub1_neg h
        exact int_eq (sub1_no (by omega)).symm
      have hArgs := sub1_nn h
      simp only [hArgs.1]
      refine int_eq ?_
      rw [sub1_yes (by omega)]
      omega
    · obtain ⟨hf1, hf2⟩ := fit_sl hf
      rw [List.length_map] at hf1
      refine acall_cw (rs := [.tmp 4]) Tryz.checked.mixed Tryz.func145 Tryz.ntmps145 rfl rfl rfl rfl rfl ?_
      simp -implicitDefEqProofs (disch := omega) only [go_sem]
      with_reducible refine split2 (fun hb => ?_) (fun hb => ?_) <;> have h := hb <;> (try simp only [wf_preprocess] at h) <;> simp -implicitDefEqProofs (disch := omega) only [go_sem, hb] <;> (repeat (with_reducible refine And.intro ?_ ?_; focus first | omega | rfl | assumption | exact ⟨_, rfl, rfl⟩ | (simp; omega) | (simp; done)))
      · exact int_eq (sub1_no (by omega)).symm
      refine loop_at (ι := Nat × Int) Tryz.checked.mixed rfl [0, 1, 5] (fun y => [.c (.d (.sl (xs.map MType.enc))), .c (.d (.i .i64 y.2)), .c (.d (.i .i64 y.1))]) (fun _ => [] :: S)
        (fun y => y.1 ≤ xs.length ∧ 0 ≤ y.2 ∧ y.2 ≤ 1048576 ∧ sub1 y.2 (szRows ((xs.map MType.enc).drop y.1)) = sub1 left (xs.length + szRows (xs.map MType.enc))) (fun y => xs.length - y.1) (0, left - xs.length) rfl rfl ⟨by omega, by omega, by omega, ?_⟩ ?_
      · unfold sub1
        rw [List.drop_zero]
        split <;> split <;> omega
      rintro ⟨i, l⟩ ⟨p1, p2, p3, p4⟩
      simp only at p1 p2 p3 p4
      simp -implicitDefEqProofs (disch := omega) only [go_sem]
      with_reducible refine split2 (fun hb => ?_) (fun hb => ?_) <;> have h := hb <;> (try simp only [wf_preprocess] at h) <;> simp -implicitDefEqProofs (disch := omega) only [go_sem, hb] <;> (repeat (with_reducible refine And.intro ?_ ?_; focus first | omega | rfl | assumption | exact ⟨_, rfl, rfl⟩ | (simp; omega) | (simp; done)))
      · have hi : i < xs.length := by omega
        rw [List.drop_eq_getElem_cons (by rw [List.length_map]; exact hi), szRows, List.getElem_map, MType.sz_def] at p4
        (repeat (with_reducible refine And.intro ?_ ?_; focus first | omega | rfl | assumption | exact ⟨_, rfl, rfl⟩ | (simp; omega) | (simp; done)))
        refine call_w (ihType xs[i] (by have := List.sizeOf_lt_of_mem (List.getElem_mem hi); omega) _ (by omega) (by omega) (hf2 _ (List.mem_map_of_mem (List.getElem_mem hi)))) ?_
        simp -implicitDefEqProofs (disch := omega) only [go_sem]
        with_reducible refine split2 (fun hb => ?_) (fun hb => ?_) <;> have h := hb <;> (try simp only [wf_preprocess] at h) <;> simp -implicitDefEqProofs (disch := omega) only [go_sem, hb] <;> (repeat (with_reducible refine And.intro ?_ ?_; focus first | omega | rfl | assumption | exact ⟨_, rfl, rfl⟩ | (simp; omega) | (simp; done)))
        · have h' := sub1_neg h
          rw [← p4, sub1_no (by omega)]
        · have h' := sub1_nn h
          refine inv_at (i + 1, sub1 l _) (by simp only; omega) rfl rfl ⟨by simp only; omega, by simp only; omega, by simp only; omega, ?_⟩
          simp only
          rw [← p4, h'.1]
          unfold sub1
          split <;> split <;> omega
      · have hi : i = xs.length := by omega
        rw [hi, List.drop_of_length_le (by simp), szRows, sub1_yes (by omega)] at p4
        rw [← p4]
        refine int_eq ?_
        omega
theorem szType_ok (x : MType) : ∀ left : Int, 0 ≤ left → left ≤ 1048576 → FitL x.enc → PCall Tryz.prog 53 [x.v, .c (.d (.i .i64 left))] (.c (.d (.i .i64 (sub1 left x.sz)))) := (szType_all _).1 x (Nat.lt_succ_self _)
theorem toType_all : ∀ n : Nat, (∀ x : MType, SizeOf.sizeOf x < n → x.sz ≤ 1048576 → PCall Tryz.prog 59 [x.v] x.v) ∧
    (∀ xs : List MType, SizeOf.sizeOf xs < n → xs.length + szRows (xs.map MType.enc) ≤ 1048576 → PCall Tryz.prog 155 [.c (.d (.sl (xs.map MType.enc)))] (.c (.d (.sl (xs.map MType.enc)))))
  | 0 => ⟨fun x h => by omega, fun x h => by omega⟩
  | n + 1 => by
    obtain ⟨ihType, ihSType⟩ := toType_all n
    refine ⟨fun x hn hsz S => ?_, fun xs hn hsz S => ?_⟩
    · have lArgs := MType.lt_Args x
      simp only [MType.sz, MType.enc_eq, szRow, szRow_append, D.sz, List.length_map] at hsz
      refine acall_cw (rs := [.cell 2 36]) Tryz.checked.mixed Tryz.func59 Tryz.ntmps59 rfl rfl rfl rfl rfl ?_
      simp -implicitDefEqProofs (disch := omega) only [go_sem]
      refine call_w (ihSType x.fArgs (by omega) (by omega)) ?_
      simp -implicitDefEqProofs (disch := omega) only [go_sem]
    · refine acall_cw (rs := [.tmp 2]) Tryz.checked.mixed Tryz.func155 Tryz.ntmps155 rfl rfl rfl rfl rfl ?_
      simp -implicitDefEqProofs (disch := omega) only [go_sem]
      (repeat (with_reducible refine And.intro ?_ ?_; focus first | omega | rfl | assumption | exact ⟨_, rfl, rfl⟩ | (simp; omega) | (simp; done)))
      refine loop_at (ι := Nat × List (List D)) Tryz.checked.mixed rfl [0, 3, 4] (fun y => [.c (.d (.sl (xs.map MType.enc))), .c (.msl (0, 0)), .c (.d (.i .i64 y.1))]) (fun y => [.mrow 3 y.2] :: S)
        (fun y => y.1 ≤ xs.length ∧ Filled 3 y.1 y.2 (xs.map MType.enc)) (fun y => xs.length - y.1) (0, _) rfl rfl ⟨Nat.zero_le _, Filled.start (by simp) rfl⟩ ?_
      rintro ⟨i, R⟩ ⟨p1, p2⟩
      simp only at p1 p2
      simp -implicitDefEqProofs (disch := omega) only [go_sem]
      with_reducible refine split2 (fun hb => ?_) (fun hb => ?_) <;> have h := hb <;> (try simp only [wf_preprocess] at h) <;> simp -implicitDefEqProofs (disch := omega) only [go_sem, hb] <;> (repeat (with_reducible refine And.intro ?_ ?_; focus first | omega | rfl | assumption | exact ⟨_, rfl, rfl⟩ | (simp; omega) | (simp; done)))
      · have hi : i < xs.length := by omega
        have hx : xs[i].sz ≤ szRows (xs.map MType.enc) := szRows_mem (List.mem_map_of_mem (List.getElem_mem hi))
        (repeat (with_reducible refine And.intro ?_ ?_; focus first | omega | rfl | assumption | exact ⟨_, rfl, rfl⟩ | (simp; omega) | (simp; done)))
        refine call_w (ihType xs[i] (by have := List.sizeOf_lt_of_mem (List.getElem_mem hi); omega) (by omega)) ?_
        simp -implicitDefEqProofs (disch := omega) only [go_sem]
        have hR := p2.1
        rw [List.length_map] at hR
        (repeat (with_reducible refine And.intro ?_ ?_; focus first | omega | rfl | assumption | exact ⟨_, rfl, rfl⟩ | (simp; omega) | (simp; done)))
        refine inv_at (i + 1, _) (by simp only; omega) rfl rfl ⟨by simp only; omega, p2.step (by simp [hi, MType.enc_eq]) rfl⟩
      · have hi : i = xs.length := by omega
        rw [p2.done (by rw [List.length_map]; omega)]
theorem toType_ok (x : MType) : x.sz ≤ 1048576 → PCall Tryz.prog 59 [x.v] x.v := (toType_all _).1 x (Nat.lt_succ_self _)
theorem eqType_all : ∀ n : Nat, (∀ x : MType, SizeOf.sizeOf x < n → ∀ y : MType, x.sz ≤ 1048576 → PCall Tryz.prog 66 [x.v, y.v] (.c (.d (.b (dec (x = y)))))) ∧
    (∀ xs : List MType, SizeOf.sizeOf xs < n → ∀ ys : List MType, xs.length + szRows (xs.map MType.enc) ≤ 1048576 → PCall Tryz.prog 163 [.c (.d (.sl (xs.map MType.enc))), .c (.d (.sl (ys.map MType.enc)))] (.c (.d (.b (dec (xs = ys))))))
  | 0 => ⟨fun x h => by omega, fun x h => by omega⟩
  | n + 1 => by
    obtain ⟨ihType, ihSType⟩ := eqType_all n
    refine ⟨fun x hn y hsz S => ?_, fun xs hn ys hsz S => ?_⟩
    · have lArgs := MType.lt_Args x
      simp only [MType.sz, MType.enc_eq, szRow, szRow_append, D.sz, List.length_map] at hsz
      refine acall_cw (rs := [.tmp 4]) Tryz.checked.mixed Tryz.func66 Tryz.ntmps66 rfl rfl rfl rfl rfl ?_
      simp -implicitDefEqProofs (disch := omega) only [go_sem]
      with_reducible refine split2 (fun hb => ?_) (fun hb => ?_) <;> have h := hb <;> (try simp only [wf_preprocess] at h) <;> simp -implicitDefEqProofs (disch := omega) only [go_sem, hb] <;> (repeat (with_reducible refine And.intro ?_ ?_; focus first | omega | rfl | assumption | exact ⟨_, rfl, rfl⟩ | (simp; omega) | (simp; done)))
      · exact bool_eq (dec_false (fun e => h (by rw [e]))).symm
      have eKind := h
      clear h
      with_reducible refine split2 (fun hb => ?_) (fun hb => ?_) <;> have h := hb <;> (try simp only [wf_preprocess] at h) <;> simp -implicitDefEqProofs (disch := omega) only [go_sem, hb] <;> (repeat (with_reducible refine And.intro ?_ ?_; focus first | omega | rfl | assumption | exact ⟨_, rfl, rfl⟩ | (simp; omega) | (simp; done)))
      · exact bool_eq (dec_false (fun e => h (by rw [e]))).symm
      have eName := h
      clear h
      refine call_w (ihSType x.fArgs (by omega) _ (by omega)) ?_
      simp -implicitDefEqProofs (disch := omega) only [go_sem]
      with_reducible refine split2 (fun hb => ?_) (fun hb => ?_) <;> have h := hb <;> (try simp only [wf_preprocess] at h) <;> simp -implicitDefEqProofs (disch := omega) only [go_sem, hb] <;> (repeat (with_reducible refine And.intro ?_ ?_; focus first | omega | rfl | assumption | exact ⟨_, rfl, rfl⟩ | (simp; omega) | (simp; done)))
      · exact bool_eq (dec_false (fun e => h (by rw [e]))).symm
      have eArgs := h
      clear h
      exact bool_eq (dec_true (MType.ext eKind eName eArgs)).symm
    · refine acall_cw (rs := [.tmp 4]) Tryz.checked.mixed Tryz.func163 Tryz.ntmps163 rfl rfl rfl rfl rfl ?_
      simp -implicitDefEqProofs (disch := omega) only [go_sem]
      with_reducible refine split2 (fun hb => ?_) (fun hb => ?_) <;> have h := hb <;> (try simp only [wf_preprocess] at h) <;> simp -implicitDefEqProofs (disch := omega) only [go_sem, hb] <;> (repeat (with_reducible refine And.intro ?_ ?_; focus first | omega | rfl | assumption | exact ⟨_, rfl, rfl⟩ | (simp; omega) | (simp; done)))
      · exact bool_eq (dec_false (fun e => h (by rw [e]))).symm
      have hl : xs.length = ys.length := by omega
      refine loop_at (ι := Nat) Tryz.checked.mixed rfl [0, 1, 5] (fun y => [.c (.d (.sl (xs.map MType.enc))), .c (.d (.sl (ys.map MType.enc))), .c (.d (.i .i64 y))]) (fun y => [] :: S)
        (fun i => i ≤ xs.length ∧ ∀ j, j < i → xs[j]? = ys[j]?) (fun y => xs.length - y) 0 rfl rfl ⟨Nat.zero_le _, fun j h => by omega⟩ ?_
      rintro i ⟨p1, p2⟩
      simp -implicitDefEqProofs (disch := omega) only [go_sem]
      with_reducible refine split2 (fun hb => ?_) (fun hb => ?_) <;> have h := hb <;> (try simp only [wf_preprocess] at h) <;> simp -implicitDefEqProofs (disch := omega) only [go_sem, hb] <;> (repeat (with_reducible refine And.intro ?_ ?_; focus first | omega | rfl | assumption | exact ⟨_, rfl, rfl⟩ | (simp; omega) | (simp; done)))
      · have hi : i < xs.length := by omega
        have hi' : i < ys.length := by omega
        have hx : xs[i].sz ≤ szRows (xs.map MType.enc) := szRows_mem (List.mem_map_of_mem (List.getElem_mem hi))
        (repeat (with_reducible refine And.intro ?_ ?_; focus first | omega | rfl | assumption | exact ⟨_, rfl, rfl⟩ | (simp; omega) | (simp; done)))
        refine call_w (ihType xs[i] (by have := List.sizeOf_lt_of_mem (List.getElem_mem hi); omega) ys[i] (by omega)) ?_
        simp -implicitDefEqProofs (disch := omega) only [go_sem]
        with_reducible refine split2 (fun hb => ?_) (fun hb => ?_) <;> have h := hb <;> (try simp only [wf_preprocess] at h) <;> simp -implicitDefEqProofs (disch := omega) only [go_sem, hb] <;> (repeat (with_reducible refine And.intro ?_ ?_; focus first | omega | rfl | assumption | exact ⟨_, rfl, rfl⟩ | (simp; omega) | (simp; done)))
        · exact bool_eq (dec_false (fun e => h (by simp only [e]))).symm
        refine inv_at (i + 1) (by omega) rfl rfl ⟨by omega, fun j hj => ?_⟩
        by_cases e : j = i
        · subst e
          rw [List.getElem?_eq_getElem hi, List.getElem?_eq_getElem hi', h]
        · exact p2 j (by omega)
      · have hi : i = xs.length := by omega
        refine bool_eq (dec_true (List.ext_getElem? fun j => ?_)).symm
        by_cases hj : j < i
        · exact p2 j hj
        · rw [List.getElem?_eq_none (by omega), List.getElem?_eq_none (by omega)]
theorem eqType_ok (x : MType) : ∀ y : MType, x.sz ≤ 1048576 → PCall Tryz.prog 66 [x.v, y.v] (.c (.d (.b (dec (x = y))))) := (eqType_all _).1 x (Nat.lt_succ_self _)
end Go.Proofs.YtokcpelkieeddaaGreatDoor

namespace Go.Proofs.YtokcpelkieeddaaGreatDoor
open Go Go.Ab
end Go.Proofs.YtokcpelkieeddaaGreatDoor

namespace Go.Proofs.YtokcpelkieeddaaGreatDoor
open Go Go.Ab
theorem szBound_ok (x : MBound) : ∀ left : Int, 0 ≤ left → left ≤ 1048576 → FitL x.enc → PCall Tryz.prog 167 [x.v, .c (.d (.i .i64 left))] (.c (.d (.i .i64 (sub1 left x.sz)))) := by
  intro left h0 h1 hf S
  simp only [MBound.enc_eq, List.cons_append, List.nil_append, fitL_cons, fitL_append, fitL_nil_iff, and_true] at hf
  obtain ⟨fTrait, fType⟩ := hf
  have hz : x.sz = x.fTrait.length + (x.fType.sz) := by
    simp only [MBound.sz, MBound.enc_eq, szRow, szRow_append, D.sz, List.length_map, Nat.add_zero, Nat.zero_add, MType.sz_def] <;> omega
  refine acall_cw (rs := [.tmp 4]) Tryz.checked.mixed Tryz.func167 Tryz.ntmps167 rfl rfl rfl rfl rfl ?_
  rw [hz]
  have gTrait := fit_s fTrait
  simp -implicitDefEqProofs (disch := omega) only [go_sem]
  with_reducible refine split2 (fun hb => ?_) (fun hb => ?_) <;> have h := hb <;> (try simp only [wf_preprocess] at h) <;> simp -implicitDefEqProofs (disch := omega) only [go_sem, hb] <;> (repeat (with_reducible refine And.intro ?_ ?_; focus first | omega | rfl | assumption | exact ⟨_, rfl, rfl⟩ | (simp; omega) | (simp; done)))
  · exact int_eq (sub1_no (by omega)).symm
  refine call_w (szType_ok x.fType _ (by omega) (by omega) fType) ?_
  simp -implicitDefEqProofs (disch := omega) only [go_sem]
  with_reducible refine split2 (fun hb => ?_) (fun hb => ?_) <;> have h := hb <;> (try simp only [wf_preprocess] at h) <;> simp -implicitDefEqProofs (disch := omega) only [go_sem, hb] <;> (repeat (with_reducible refine And.intro ?_ ?_; focus first | omega | rfl | assumption | exact ⟨_, rfl, rfl⟩ | (simp; omega) | (simp; done)))
  · have h' := sub1_neg h
    exact int_eq (sub1_no (by omega)).symm
  have hType := sub1_nn h
  simp only [hType.1]
  refine int_eq ?_
  rw [sub1_yes (by omega)]
  omega
theorem szBoundS_ok (xs : List MBound) : ∀ left : Int, 0 ≤ left → left ≤ 1048576 → (D.sl (xs.map MBound.enc)).Fit → PCall Tryz.prog 75 [.c (.d (.sl (xs.map MBound.enc))), .c (.d (.i .i64 left))] (.c (.d (.i .i64 (sub1 left (xs.length + szRows (xs.map MBound.enc)))))) := by
  intro left h0 h1 hf S
  obtain ⟨hf1, hf2⟩ := fit_sl hf
  rw [List.length_map] at hf1
  refine acall_cw (rs := [.tmp 4]) Tryz.checked.mixed Tryz.func75 Tryz.ntmps75 rfl rfl rfl rfl rfl ?_
  simp -implicitDefEqProofs (disch := omega) only [go_sem]
  with_reducible refine split2 (fun hb => ?_) (fun hb => ?_) <;> have h := hb <;> (try simp only [wf_preprocess] at h) <;> simp -implicitDefEqProofs (disch := omega) only [go_sem, hb] <;> (repeat (with_reducible refine And.intro ?_ ?_; focus first | omega | rfl | assumption | exact ⟨_, rfl, rfl⟩ | (simp; omega) | (simp; done)))
  · exact int_eq (sub1_no (by omega)).symm
  refine loop_at (ι := Nat × Int) Tryz.checked.mixed rfl [0, 1, 5] (fun y => [.c (.d (.sl (xs.map MBound.enc))), .c (.d (.i .i64 y.2)), .c (.d (.i .i64 y.1))]) (fun _ => [] :: S)
    (fun y => y.1 ≤ xs.length ∧ 0 ≤ y.2 ∧ y.2 ≤ 1048576 ∧ sub1 y.2 (szRows ((xs.map MBound.enc).drop y.1)) = sub1 left (xs.length + szRows (xs.map MBound.enc))) (fun y => xs.length - y.1) (0, left - xs.length) rfl rfl ⟨by omega, by omega, by omega, ?_⟩ ?_
  · unfold sub1
    rw [List.drop_zero]
    split <;> split <;> omega
  rintro ⟨i, l⟩ ⟨p1, p2, p3, p4⟩
  simp only at p1 p2 p3 p4
  simp -implicitDefEqProofs (disch := omega) only [go_sem]
  with_reducible refine split2 (fun hb => ?_) (fun hb => ?_) <;> have h := hb <;> (try simp only [wf_preprocess] at h) <;> simp -implicitDefEqProofs (disch := omega) only [go_sem, hb] <;> (repeat (with_reducible refine And.intro ?_ ?_; focus first | omega | rfl | assumption | exact ⟨_, rfl, rfl⟩ | (simp; omega) | (simp; done)))
  · have hi : i < xs.length := by omega
    rw [List.drop_eq_getElem_cons (by rw [List.length_map]; exact hi), szRows, List.getElem_map, MBound.sz_def] at p4
    (repeat (with_reducible refine And.intro ?_ ?_; focus first | omega | rfl | assumption | exact ⟨_, rfl, rfl⟩ | (simp; omega) | (simp; done)))
    refine call_w (szBound_ok xs[i] _ (by omega) (by omega) (hf2 _ (List.mem_map_of_mem (List.getElem_mem hi)))) ?_
    simp -implicitDefEqProofs (disch := omega) only [go_sem]
    with_reducible refine split2 (fun hb => ?_) (fun hb => ?_) <;> have h := hb <;> (try simp only [wf_preprocess] at h) <;> simp -implicitDefEqProofs (disch := omega) only [go_sem, hb] <;> (repeat (with_reducible refine And.intro ?_ ?_; focus first | omega | rfl | assumption | exact ⟨_, rfl, rfl⟩ | (simp; omega) | (simp; done)))
    · have h' := sub1_neg h
      rw [← p4, sub1_no (by omega)]
    · have h' := sub1_nn h
      refine inv_at (i + 1, sub1 l _) (by simp only; omega) rfl rfl ⟨by simp only; omega, by simp only; omega, by simp only; omega, ?_⟩
      simp only
      rw [← p4, h'.1]
      unfold sub1
      split <;> split <;> omega
  · have hi : i = xs.length := by omega
    rw [hi, List.drop_of_length_le (by simp), szRows, sub1_yes (by omega)] at p4
    rw [← p4]
    refine int_eq ?_
    omega
theorem toBound_ok (x : MBound) : x.sz ≤ 1048576 → PCall Tryz.prog 174 [x.v] x.v := by
  intro hsz S
  simp only [MBound.sz, MBound.enc_eq, szRow, szRow_append, D.sz, List.length_map, MType.sz_def] at hsz
  refine acall_cw (rs := [.cell 2 220]) Tryz.checked.mixed Tryz.func174 Tryz.ntmps174 rfl rfl rfl rfl rfl ?_
  simp -implicitDefEqProofs (disch := omega) only [go_sem]
  refine call_w (toType_ok x.fType (by omega)) ?_
  simp -implicitDefEqProofs (disch := omega) only [go_sem]
theorem toBoundS_ok (xs : List MBound) : xs.length + szRows (xs.map MBound.enc) ≤ 1048576 → PCall Tryz.prog 85 [.c (.d (.sl (xs.map MBound.enc)))] (.c (.d (.sl (xs.map MBound.enc)))) := by
  intro hsz S
  refine acall_cw (rs := [.tmp 2]) Tryz.checked.mixed Tryz.func85 Tryz.ntmps85 rfl rfl rfl rfl rfl ?_
  simp -implicitDefEqProofs (disch := omega) only [go_sem]
  (repeat (with_reducible refine And.intro ?_ ?_; focus first | omega | rfl | assumption | exact ⟨_, rfl, rfl⟩ | (simp; omega) | (simp; done)))
  refine loop_at (ι := Nat × List (List D)) Tryz.checked.mixed rfl [0, 3, 4] (fun y => [.c (.d (.sl (xs.map MBound.enc))), .c (.msl (0, 0)), .c (.d (.i .i64 y.1))]) (fun y => [.mrow 4 y.2] :: S)
    (fun y => y.1 ≤ xs.length ∧ Filled 4 y.1 y.2 (xs.map MBound.enc)) (fun y => xs.length - y.1) (0, _) rfl rfl ⟨Nat.zero_le _, Filled.start (by simp) rfl⟩ ?_
  rintro ⟨i, R⟩ ⟨p1, p2⟩
  simp only at p1 p2
  simp -implicitDefEqProofs (disch := omega) only [go_sem]
  with_reducible refine split2 (fun hb => ?_) (fun hb => ?_) <;> have h := hb <;> (try simp only [wf_preprocess] at h) <;> simp -implicitDefEqProofs (disch := omega) only [go_sem, hb] <;> (repeat (with_reducible refine And.intro ?_ ?_; focus first | omega | rfl | assumption | exact ⟨_, rfl, rfl⟩ | (simp; omega) | (simp; done)))
  · have hi : i < xs.length := by omega
    have hx : xs[i].sz ≤ szRows (xs.map MBound.enc) := szRows_mem (List.mem_map_of_mem (List.getElem_mem hi))
    (repeat (with_reducible refine And.intro ?_ ?_; focus first | omega | rfl | assumption | exact ⟨_, rfl, rfl⟩ | (simp; omega) | (simp; done)))
    refine call_w (toBound_ok xs[i] (by omega)) ?_
    simp -implicitDefEqProofs (disch := omega) only [go_sem]
    have hR := p2.1
    rw [List.length_map] at hR
    (repeat (with_reducible refine And.intro ?_ ?_; focus first | omega | rfl | assumption | exact ⟨_, rfl, rfl⟩ | (simp; omega) | (simp; done)))
    refine inv_at (i + 1, _) (by simp only; omega) rfl rfl ⟨by simp only; omega, p2.step (by simp [hi, MBound.enc_eq, MType.enc_eq]) rfl⟩
  · have hi : i = xs.length := by omega
    rw [p2.done (by rw [List.length_map]; omega)]
theorem eqBound_ok (x : MBound) : ∀ y : MBound, x.sz ≤ 1048576 → PCall Tryz.prog 185 [x.v, y.v] (.c (.d (.b (dec (x = y))))) := by
  intro y hsz S
  simp only [MBound.sz, MBound.enc_eq, szRow, szRow_append, D.sz, List.length_map, MType.sz_def] at hsz
  refine acall_cw (rs := [.tmp 4]) Tryz.checked.mixed Tryz.func185 Tryz.ntmps185 rfl rfl rfl rfl rfl ?_
  simp -implicitDefEqProofs (disch := omega) only [go_sem]
  with_reducible refine split2 (fun hb => ?_) (fun hb => ?_) <;> have h := hb <;> (try simp only [wf_preprocess] at h) <;> simp -implicitDefEqProofs (disch := omega) only [go_sem, hb] <;> (repeat (with_reducible refine And.intro ?_ ?_; focus first | omega | rfl | assumption | exact ⟨_, rfl, rfl⟩ | (simp; omega) | (simp; done)))
  · exact bool_eq (dec_false (fun e => h (by rw [e]))).symm
  have eTrait := h
  clear h
  refine call_w (eqType_ok x.fType _ (by omega)) ?_
  simp -implicitDefEqProofs (disch := omega) only [go_sem]
  with_reducible refine split2 (fun hb => ?_) (fun hb => ?_) <;> have h := hb <;> (try simp only [wf_preprocess] at h) <;> simp -implicitDefEqProofs (disch := omega) only [go_sem, hb] <;> (repeat (with_reducible refine And.intro ?_ ?_; focus first | omega | rfl | assumption | exact ⟨_, rfl, rfl⟩ | (simp; omega) | (simp; done)))
  · exact bool_eq (dec_false (fun e => h (by rw [e]))).symm
  have eType := h
  clear h
  exact bool_eq (dec_true (MBound.ext' eTrait eType)).symm
theorem eqBoundS_ok (xs : List MBound) : ∀ ys : List MBound, xs.length + szRows (xs.map MBound.enc) ≤ 1048576 → PCall Tryz.prog 90 [.c (.d (.sl (xs.map MBound.enc))), .c (.d (.sl (ys.map MBound.enc)))] (.c (.d (.b (dec (xs = ys))))) := by
  intro ys hsz S
  refine acall_cw (rs := [.tmp 4]) Tryz.checked.mixed Tryz.func90 Tryz.ntmps90 rfl rfl rfl rfl rfl ?_
  simp -implicitDefEqProofs (disch := omega) only [go_sem]
  with_reducible refine split2 (fun hb => ?_) (fun hb => ?_) <;> have h := hb <;> (try simp only [wf_preprocess] at h) <;> simp -implicitDefEqProofs (disch := omega) only [go_sem, hb] <;> (repeat (with_reducible refine And.intro ?_ ?_; focus first | omega | rfl | assumption | exact ⟨_, rfl, rfl⟩ | (simp; omega) | (simp; done)))
  · exact bool_eq (dec_false (fun e => h (by rw [e]))).symm
  have hl : xs.length = ys.length := by omega
  refine loop_at (ι := Nat) Tryz.checked.mixed rfl [0, 1, 5] (fun y => [.c (.d (.sl (xs.map MBound.enc))), .c (.d (.sl (ys.map MBound.enc))), .c (.d (.i .i64 y))]) (fun y => [] :: S)
    (fun i => i ≤ xs.length ∧ ∀ j, j < i → xs[j]? = ys[j]?) (fun y => xs.length - y) 0 rfl rfl ⟨Nat.zero_le _, fun j h => by omega⟩ ?_
  rintro i ⟨p1, p2⟩
  simp -implicitDefEqProofs (disch := omega) only [go_sem]
  with_reducible refine split2 (fun hb => ?_) (fun hb => ?_) <;> have h := hb <;> (try simp only [wf_preprocess] at h) <;> simp -implicitDefEqProofs (disch := omega) only [go_sem, hb] <;> (repeat (with_reducible refine And.intro ?_ ?_; focus first | omega | rfl | assumption | exact ⟨_, rfl, rfl⟩ | (simp; omega) | (simp; done)))
  · have hi : i < xs.length := by omega
    have hi' : i < ys.length := by omega
    have hx : xs[i].sz ≤ szRows (xs.map MBound.enc) := szRows_mem (List.mem_map_of_mem (List.getElem_mem hi))
    (repeat (with_reducible refine And.intro ?_ ?_; focus first | omega | rfl | assumption | exact ⟨_, rfl, rfl⟩ | (simp; omega) | (simp; done)))
    refine call_w (eqBound_ok xs[i] ys[i] (by omega)) ?_
    simp -implicitDefEqProofs (disch := omega) only [go_sem]
    with_reducible refine split2 (fun hb => ?_) (fun hb => ?_) <;> have h := hb <;> (try simp only [wf_preprocess] at h) <;> simp -implicitDefEqProofs (disch := omega) only [go_sem, hb] <;> (repeat (with_reducible refine And.intro ?_ ?_; focus first | omega | rfl | assumption | exact ⟨_, rfl, rfl⟩ | (simp; omega) | (simp; done)))
    · exact bool_eq (dec_false (fun e => h (by simp only [e]))).symm
    refine inv_at (i + 1) (by omega) rfl rfl ⟨by omega, fun j hj => ?_⟩
    by_cases e : j = i
    · subst e
      rw [List.getElem?_eq_getElem hi, List.getElem?_eq_getElem hi', h]
    · exact p2 j (by omega)
  · have hi : i = xs.length := by omega
    refine bool_eq (dec_true (List.ext_getElem? fun j => ?_)).symm
    by_cases hj : j < i
    · exact p2 j hj
    · rw [List.getElem?_eq_none (by omega), List.getElem?_eq_none (by omega)]
end Go.Proofs.YtokcpelkieeddaaGreatDoor

namespace Go.Proofs.YtokcpelkieeddaaGreatDoor
open Go Go.Ab
theorem szExpr_all : ∀ n : Nat, (∀ x : MExpr, SizeOf.sizeOf x < n → ∀ left : Int, 0 ≤ left → left ≤ 1048576 → FitL x.enc → PCall Tryz.prog 11 [x.v, .c (.d (.i .i64 left))] (.c (.d (.i .i64 (sub1 left x.sz))))) ∧
    (∀ xs : List MExpr, SizeOf.sizeOf xs < n → ∀ left : Int, 0 ≤ left → left ≤ 1048576 → (D.sl (xs.map MExpr.enc)).Fit → PCall Tryz.prog 54 [.c (.d (.sl (xs.map MExpr.enc))), .c (.d (.i .i64 left))] (.c (.d (.i .i64 (sub1 left (xs.length + szRows (xs.map MExpr.enc))))))) ∧
    (∀ x : MArm, SizeOf.sizeOf x < n → ∀ left : Int, 0 ≤ left → left ≤ 1048576 → FitL x.enc → PCall Tryz.prog 146 [x.v, .c (.d (.i .i64 left))] (.c (.d (.i .i64 (sub1 left x.sz))))) ∧
    (∀ xs : List MArm, SizeOf.sizeOf xs < n → ∀ left : Int, 0 ≤ left → left ≤ 1048576 → (D.sl (xs.map MArm.enc)).Fit → PCall Tryz.prog 55 [.c (.d (.sl (xs.map MArm.enc))), .c (.d (.i .i64 left))] (.c (.d (.i .i64 (sub1 left (xs.length + szRows (xs.map MArm.enc)))))))
  | 0 => ⟨fun x h => by omega, fun x h => by omega, fun x h => by omega, fun x h => by omega⟩
  | n + 1 => by
    obtain ⟨ihExpr, ihSExpr, ihArm, ihSArm⟩ := szExpr_all n
    refine ⟨fun x hn left h0 h1 hf S => ?_, fun xs hn left h0 h1 hf S => ?_, fun x hn left h0 h1 hf S => ?_, fun xs hn left h0 h1 hf S => ?_⟩
    · have lArgs := MExpr.lt_Args x
      have lArms := MExpr.lt_Arms x
      simp only [MExpr.enc_eq, List.cons_append, List.nil_append, fitL_cons, fitL_append, fitL_nil_iff, and_true] at hf
      obtain ⟨fKind, fTrait, fName, fN, fType, fArgs, fArms⟩ := hf
      have hz : x.sz = x.fTrait.length + (x.fName.length + (x.fType.sz + ((x.fArgs.length + szRows (x.fArgs.map MExpr.enc)) + ((x.fArms.length + szRows (x.fArms.map MArm.enc)))))) := by
        simp only [MExpr.sz, MExpr.enc_eq, szRow, szRow_append, D.sz, List.length_map, Nat.add_zero, Nat.zero_add, MType.sz_def] <;> omega
      refine acall_cw (rs := [.tmp 4]) Tryz.checked.mixed Tryz.func11 Tryz.ntmps11 rfl rfl rfl rfl rfl ?_
      rw [hz]
      have gTrait := fit_s fTrait
      have gName := fit_s fName
      simp -implicitDefEqProofs (disch := omega) only [go_sem]
      with_reducible refine split2 (fun hb => ?_) (fun hb => ?_) <;> have h := hb <;> (try simp only [wf_preprocess] at h) <;> simp -implicitDefEqProofs (disch := omega) only [go_sem, hb] <;> (repeat (with_reducible refine And.intro ?_ ?_; focus first | omega | rfl | assumption | exact ⟨_, rfl, rfl⟩ | (simp; omega) | (simp; done)))
      · exact int_eq (sub1_no (by omega)).symm
      with_reducible refine split2 (fun hb => ?_) (fun hb => ?_) <;> have h := hb <;> (try simp only [wf_preprocess] at h) <;> simp -implicitDefEqProofs (disch := omega) only [go_sem, hb] <;> (repeat (with_reducible refine And.intro ?_ ?_; focus first | omega | rfl | assumption | exact ⟨_, rfl, rfl⟩ | (simp; omega) | (simp; done)))
      · exact int_eq (sub1_no (by omega)).symm
      refine call_w (szType_ok x.fType _ (by omega) (by omega) fType) ?_
      simp -implicitDefEqProofs (disch := omega) only [go_sem]
      with_reducible refine split2 (fun hb => ?_) (fun hb => ?_) <;> have h := hb <;> (try simp only [wf_preprocess] at h) <;> simp -implicitDefEqProofs (disch := omega) only [go_sem, hb] <;> (repeat (with_reducible refine And.intro ?_ ?_; focus first | omega | rfl | assumption | exact ⟨_, rfl, rfl⟩ | (simp; omega) | (simp; done)))
      · have h' := sub1_neg h
        exact int_eq (sub1_no (by omega)).symm
      have hType := sub1_nn h
      simp only [hType.1]
      refine call_w (ihSExpr x.fArgs (by omega) _ (by omega) (by omega) fArgs) ?_
      simp -implicitDefEqProofs (disch := omega) only [go_sem]
      with_reducible refine split2 (fun hb => ?_) (fun hb => ?_) <;> have h := hb <;> (try simp only [wf_preprocess] at h) <;> simp -implicitDefEqProofs (disch := omega) only [go_sem, hb] <;> (repeat (with_reducible refine And.intro ?_ ?_; focus first | omega | rfl | assumption | exact ⟨_, rfl, rfl⟩ | (simp; omega) | (simp; done)))
      · have h' := sub1_neg h
        exact int_eq (sub1_no (by omega)).symm
      have hArgs := sub1_nn h
      simp only [hArgs.1]
      refine call_w (ihSArm x.fArms (by omega) _ (by omega) (by omega) fArms) ?_
      simp -implicitDefEqProofs (disch := omega) only [go_sem]
      with_reducible refine split2 (fun hb => ?_) (fun hb => ?_) <;> have h := hb <;> (try simp only [wf_preprocess] at h) <;> simp -implicitDefEqProofs (disch := omega) only [go_sem, hb] <;> (repeat (with_reducible refine And.intro ?_ ?_; focus first | omega | rfl | assumption | exact ⟨_, rfl, rfl⟩ | (simp; omega) | (simp; done)))
      · have h' := sub1_neg h
        exact int_eq (sub1_no (by omega)).symm
      have hArms := sub1_nn h
      simp only [hArms.1]
      refine int_eq ?_
      rw [sub1_yes (by omega)]
      omega
    · obtain ⟨hf1, hf2⟩ := fit_sl hf
      rw [List.length_map] at hf1
      refine acall_cw (rs := [.tmp 4]) Tryz.checked.mixed Tryz.func54 Tryz.ntmps54 rfl rfl rfl rfl rfl ?_
      simp -implicitDefEqProofs (disch := omega) only [go_sem]
      with_reducible refine split2 (fun hb => ?_) (fun hb => ?_) <;> have h := hb <;> (try simp only [wf_preprocess] at h) <;> simp -implicitDefEqProofs (disch := omega) only [go_sem, hb] <;> (repeat (with_reducible refine And.intro ?_ ?_; focus first | omega | rfl | assumption | exact ⟨_, rfl, rfl⟩ | (simp; omega) | (simp; done)))
      · exact int_eq (sub1_no (by omega)).symm
      refine loop_at (ι := Nat × Int) Tryz.checked.mixed rfl [0, 1, 5] (fun y => [.c (.d (.sl (xs.map MExpr.enc))), .c (.d (.i .i64 y.2)), .c (.d (.i .i64 y.1))]) (fun _ => [] :: S)
        (fun y => y.1 ≤ xs.length ∧ 0 ≤ y.2 ∧ y.2 ≤ 1048576 ∧ sub1 y.2 (szRows ((xs.map MExpr.enc).drop y.1)) = sub1 left (xs.length + szRows (xs.map MExpr.enc))) (fun y => xs.length - y.1) (0, left - xs.length) rfl rfl ⟨by omega, by omega, by omega, ?_⟩ ?_
      · unfold sub1
        rw [List.drop_zero]
        split <;> split <;> omega
      rintro ⟨i, l⟩ ⟨p1, p2, p3, p4⟩
      simp only at p1 p2 p3 p4
      simp -implicitDefEqProofs (disch := omega) only [go_sem]
      with_reducible refine split2 (fun hb => ?_) (fun hb => ?_) <;> have h := hb <;> (try simp only [wf_preprocess] at h) <;> simp -implicitDefEqProofs (disch := omega) only [go_sem, hb] <;> (repeat (with_reducible refine And.intro ?_ ?_; focus first | omega | rfl | assumption | exact ⟨_, rfl, rfl⟩ | (simp; omega) | (simp; done)))
      · have hi : i < xs.length := by omega
        rw [List.drop_eq_getElem_cons (by rw [List.length_map]; exact hi), szRows, List.getElem_map, MExpr.sz_def] at p4
        (repeat (with_reducible refine And.intro ?_ ?_; focus first | omega | rfl | assumption | exact ⟨_, rfl, rfl⟩ | (simp; omega) | (simp; done)))
        refine call_w (ihExpr xs[i] (by have := List.sizeOf_lt_of_mem (List.getElem_mem hi); omega) _ (by omega) (by omega) (hf2 _ (List.mem_map_of_mem (List.getElem_mem hi)))) ?_
        simp -implicitDefEqProofs (disch := omega) only [go_sem]
        with_reducible refine split2 (fun hb => ?_) (fun hb => ?_) <;> have h := hb <;> (try simp only [wf_preprocess] at h) <;> simp -implicitDefEqProofs (disch := omega) only [go_sem, hb] <;> (repeat (with_reducible refine And.intro ?_ ?_; focus first | omega | rfl | assumption | exact ⟨_, rfl, rfl⟩ | (simp; omega) | (simp; done)))
        · have h' := sub1_neg h
          rw [← p4, sub1_no (by omega)]
        · have h' := sub1_nn h
          refine inv_at (i + 1, sub1 l _) (by simp only; omega) rfl rfl ⟨by simp only; omega, by simp only; omega, by simp only; omega, ?_⟩
          simp only
          rw [← p4, h'.1]
          unfold sub1
          split <;> split <;> omega
      · have hi : i = xs.length := by omega
        rw [hi, List.drop_of_length_le (by simp), szRows, sub1_yes (by omega)] at p4
        rw [← p4]
        refine int_eq ?_
        omega
    · have lBody := MArm.lt_Body x
      simp only [MArm.enc_eq, List.cons_append, List.nil_append, fitL_cons, fitL_append, fitL_nil_iff, and_true] at hf
      obtain ⟨fConstructor, fVars, fBody⟩ := hf
      have hz : x.sz = x.fConstructor.length + ((x.fVars.length + szRows (x.fVars.map encS)) + (x.fBody.sz)) := by
        simp only [MArm.sz, MArm.enc_eq, szRow, szRow_append, D.sz, List.length_map, Nat.add_zero, Nat.zero_add, MExpr.sz_def] <;> omega
      refine acall_cw (rs := [.tmp 4]) Tryz.checked.mixed Tryz.func146 Tryz.ntmps146 rfl rfl rfl rfl rfl ?_
      rw [hz]
      have gConstructor := fit_s fConstructor
      simp -implicitDefEqProofs (disch := omega) only [go_sem]
      with_reducible refine split2 (fun hb => ?_) (fun hb => ?_) <;> have h := hb <;> (try simp only [wf_preprocess] at h) <;> simp -implicitDefEqProofs (disch := omega) only [go_sem, hb] <;> (repeat (with_reducible refine And.intro ?_ ?_; focus first | omega | rfl | assumption | exact ⟨_, rfl, rfl⟩ | (simp; omega) | (simp; done)))
      · exact int_eq (sub1_no (by omega)).symm
      refine call_w (szStringS_ok x.fVars _ (by omega) (by omega) fVars) ?_
      simp -implicitDefEqProofs (disch := omega) only [go_sem]
      with_reducible refine split2 (fun hb => ?_) (fun hb => ?_) <;> have h := hb <;> (try simp only [wf_preprocess] at h) <;> simp -implicitDefEqProofs (disch := omega) only [go_sem, hb] <;> (repeat (with_reducible refine And.intro ?_ ?_; focus first | omega | rfl | assumption | exact ⟨_, rfl, rfl⟩ | (simp; omega) | (simp; done)))
      · have h' := sub1_neg h
        exact int_eq (sub1_no (by omega)).symm
      have hVars := sub1_nn h
      simp only [hVars.1]
      refine call_w (ihExpr x.fBody (by omega) _ (by omega) (by omega) fBody) ?_
      simp -implicitDefEqProofs (disch := omega) only [go_sem]
      with_reducible refine split2 (fun hb => ?_) (fun hb => ?_) <;> have h := hb <;> (try simp only [wf_preprocess] at h) <;> simp -implicitDefEqProofs (disch := omega) only [go_sem, hb] <;> (repeat (with_reducible refine And.intro ?_ ?_; focus first | omega | rfl | assumption | exact ⟨_, rfl, rfl⟩ | (simp; omega) | (simp; done)))
      · have h' := sub1_neg h
        exact int_eq (sub1_no (by omega)).symm
      have hBody := sub1_nn h
      simp only [hBody.1]
      refine int_eq ?_
      rw [sub1_yes (by omega)]
      omega
    · obtain ⟨hf1, hf2⟩ := fit_sl hf
      rw [List.length_map] at hf1
      refine acall_cw (rs := [.tmp 4]) Tryz.checked.mixed Tryz.func55 Tryz.ntmps55 rfl rfl rfl rfl rfl ?_
      simp -implicitDefEqProofs (disch := omega) only [go_sem]
      with_reducible refine split2 (fun hb => ?_) (fun hb => ?_) <;> have h := hb <;> (try simp only [wf_preprocess] at h) <;> simp -implicitDefEqProofs (disch := omega) only [go_sem, hb] <;> (repeat (with_reducible refine And.intro ?_ ?_; focus first | omega | rfl | assumption | exact ⟨_, rfl, rfl⟩ | (simp; omega) | (simp; done)))
      · exact int_eq (sub1_no (by omega)).symm
      refine loop_at (ι := Nat × Int) Tryz.checked.mixed rfl [0, 1, 5] (fun y => [.c (.d (.sl (xs.map MArm.enc))), .c (.d (.i .i64 y.2)), .c (.d (.i .i64 y.1))]) (fun _ => [] :: S)
        (fun y => y.1 ≤ xs.length ∧ 0 ≤ y.2 ∧ y.2 ≤ 1048576 ∧ sub1 y.2 (szRows ((xs.map MArm.enc).drop y.1)) = sub1 left (xs.length + szRows (xs.map MArm.enc))) (fun y => xs.length - y.1) (0, left - xs.length) rfl rfl ⟨by omega, by omega, by omega, ?_⟩ ?_
      · unfold sub1
        rw [List.drop_zero]
        split <;> split <;> omega
      rintro ⟨i, l⟩ ⟨p1, p2, p3, p4⟩
      simp only at p1 p2 p3 p4
      simp -implicitDefEqProofs (disch := omega) only [go_sem]
      with_reducible refine split2 (fun hb => ?_) (fun hb => ?_) <;> have h := hb <;> (try simp only [wf_preprocess] at h) <;> simp -implicitDefEqProofs (disch := omega) only [go_sem, hb] <;> (repeat (with_reducible refine And.intro ?_ ?_; focus first | omega | rfl | assumption | exact ⟨_, rfl, rfl⟩ | (simp; omega) | (simp; done)))
      · have hi : i < xs.length := by omega
        rw [List.drop_eq_getElem_cons (by rw [List.length_map]; exact hi), szRows, List.getElem_map, MArm.sz_def] at p4
        (repeat (with_reducible refine And.intro ?_ ?_; focus first | omega | rfl | assumption | exact ⟨_, rfl, rfl⟩ | (simp; omega) | (simp; done)))
        refine call_w (ihArm xs[i] (by have := List.sizeOf_lt_of_mem (List.getElem_mem hi); omega) _ (by omega) (by omega) (hf2 _ (List.mem_map_of_mem (List.getElem_mem hi)))) ?_
        simp -implicitDefEqProofs (disch := omega) only [go_sem]
        with_reducible refine split2 (fun hb => ?_) (fun hb => ?_) <;> have h := hb <;> (try simp only [wf_preprocess] at h) <;> simp -implicitDefEqProofs (disch := omega) only [go_sem, hb] <;> (repeat (with_reducible refine And.intro ?_ ?_; focus first | omega | rfl | assumption | exact ⟨_, rfl, rfl⟩ | (simp; omega) | (simp; done)))
        · have h' := sub1_neg h
          rw [← p4, sub1_no (by omega)]
        · have h' := sub1_nn h
          refine inv_at (i + 1, sub1 l _) (by simp only; omega) rfl rfl ⟨by simp only; omega, by simp only; omega, by simp only; omega, ?_⟩
          simp only
          rw [← p4, h'.1]
          unfold sub1
          split <;> split <;> omega
      · have hi : i = xs.length := by omega
        rw [hi, List.drop_of_length_le (by simp), szRows, sub1_yes (by omega)] at p4
        rw [← p4]
        refine int_eq ?_
        omega
theorem szExpr_ok (x : MExpr) : ∀ left : Int, 0 ≤ left → left ≤ 1048576 → FitL x.enc → PCall Tryz.prog 11 [x.v, .c (.d (.i .i64 left))] (.c (.d (.i .i64 (sub1 left x.sz)))) := (szExpr_all _).1 x (Nat.lt_succ_self _)
theorem toExpr_all : ∀ n : Nat, (∀ x : MExpr, SizeOf.sizeOf x < n → x.sz ≤ 1048576 → PCall Tryz.prog 13 [x.v] x.v) ∧
    (∀ xs : List MExpr, SizeOf.sizeOf xs < n → xs.length + szRows (xs.map MExpr.enc) ≤ 1048576 → PCall Tryz.prog 60 [.c (.d (.sl (xs.map MExpr.enc)))] (.c (.d (.sl (xs.map MExpr.enc))))) ∧
    (∀ x : MArm, SizeOf.sizeOf x < n → x.sz ≤ 1048576 → PCall Tryz.prog 156 [x.v] x.v) ∧
    (∀ xs : List MArm, SizeOf.sizeOf xs < n → xs.length + szRows (xs.map MArm.enc) ≤ 1048576 → PCall Tryz.prog 61 [.c (.d (.sl (xs.map MArm.enc)))] (.c (.d (.sl (xs.map MArm.enc)))))
  | 0 => ⟨fun x h => by omega, fun x h => by omega, fun x h => by omega, fun x h => by omega⟩
  | n + 1 => by
    obtain ⟨ihExpr, ihSExpr, ihArm, ihSArm⟩ := toExpr_all n
    refine ⟨fun x hn hsz S => ?_, fun xs hn hsz S => ?_, fun x hn hsz S => ?_, fun xs hn hsz S => ?_⟩
    · have lArgs := MExpr.lt_Args x
      have lArms := MExpr.lt_Arms x
      simp only [MExpr.sz, MExpr.enc_eq, szRow, szRow_append, D.sz, List.length_map, MType.sz_def] at hsz
      refine acall_cw (rs := [.cell 2 40]) Tryz.checked.mixed Tryz.func13 Tryz.ntmps13 rfl rfl rfl rfl rfl ?_
      simp -implicitDefEqProofs (disch := omega) only [go_sem]
      refine call_w (toType_ok x.fType (by omega)) ?_
      simp -implicitDefEqProofs (disch := omega) only [go_sem]
      refine call_w (ihSExpr x.fArgs (by omega) (by omega)) ?_
      simp -implicitDefEqProofs (disch := omega) only [go_sem]
      refine call_w (ihSArm x.fArms (by omega) (by omega)) ?_
      simp -implicitDefEqProofs (disch := omega) only [go_sem]
    · refine acall_cw (rs := [.tmp 2]) Tryz.checked.mixed Tryz.func60 Tryz.ntmps60 rfl rfl rfl rfl rfl ?_
      simp -implicitDefEqProofs (disch := omega) only [go_sem]
      (repeat (with_reducible refine And.intro ?_ ?_; focus first | omega | rfl | assumption | exact ⟨_, rfl, rfl⟩ | (simp; omega) | (simp; done)))
      refine loop_at (ι := Nat × List (List D)) Tryz.checked.mixed rfl [0, 3, 4] (fun y => [.c (.d (.sl (xs.map MExpr.enc))), .c (.msl (0, 0)), .c (.d (.i .i64 y.1))]) (fun y => [.mrow 9 y.2] :: S)
        (fun y => y.1 ≤ xs.length ∧ Filled 9 y.1 y.2 (xs.map MExpr.enc)) (fun y => xs.length - y.1) (0, _) rfl rfl ⟨Nat.zero_le _, Filled.start (by simp) rfl⟩ ?_
      rintro ⟨i, R⟩ ⟨p1, p2⟩
      simp only at p1 p2
      simp -implicitDefEqProofs (disch := omega) only [go_sem]
      with_reducible refine split2 (fun hb => ?_) (fun hb => ?_) <;> have h := hb <;> (try simp only [wf_preprocess] at h) <;> simp -implicitDefEqProofs (disch := omega) only [go_sem, hb] <;> (repeat (with_reducible refine And.intro ?_ ?_; focus first | omega | rfl | assumption | exact ⟨_, rfl, rfl⟩ | (simp; omega) | (simp; done)))
      · have hi : i < xs.length := by omega
        have hx : xs[i].sz ≤ szRows (xs.map MExpr.enc) := szRows_mem (List.mem_map_of_mem (List.getElem_mem hi))
        (repeat (with_reducible refine And.intro ?_ ?_; focus first | omega | rfl | assumption | exact ⟨_, rfl, rfl⟩ | (simp; omega) | (simp; done)))
        refine call_w (ihExpr xs[i] (by have := List.sizeOf_lt_of_mem (List.getElem_mem hi); omega) (by omega)) ?_
        simp -implicitDefEqProofs (disch := omega) only [go_sem]
        have hR := p2.1
        rw [List.length_map] at hR
        (repeat (with_reducible refine And.intro ?_ ?_; focus first | omega | rfl | assumption | exact ⟨_, rfl, rfl⟩ | (simp; omega) | (simp; done)))
        refine inv_at (i + 1, _) (by simp only; omega) rfl rfl ⟨by simp only; omega, p2.step (by simp [hi, MExpr.enc_eq, MType.enc_eq]) rfl⟩
      · have hi : i = xs.length := by omega
        rw [p2.done (by rw [List.length_map]; omega)]
    · have lBody := MArm.lt_Body x
      simp only [MArm.sz, MArm.enc_eq, szRow, szRow_append, D.sz, List.length_map, MExpr.sz_def] at hsz
      refine acall_cw (rs := [.cell 2 198]) Tryz.checked.mixed Tryz.func156 Tryz.ntmps156 rfl rfl rfl rfl rfl ?_
      simp -implicitDefEqProofs (disch := omega) only [go_sem]
      refine call_w (toStringS_ok x.fVars (by omega)) ?_
      simp -implicitDefEqProofs (disch := omega) only [go_sem]
      refine call_w (ihExpr x.fBody (by omega) (by omega)) ?_
      simp -implicitDefEqProofs (disch := omega) only [go_sem]
    · refine acall_cw (rs := [.tmp 2]) Tryz.checked.mixed Tryz.func61 Tryz.ntmps61 rfl rfl rfl rfl rfl ?_
      simp -implicitDefEqProofs (disch := omega) only [go_sem]
      (repeat (with_reducible refine And.intro ?_ ?_; focus first | omega | rfl | assumption | exact ⟨_, rfl, rfl⟩ | (simp; omega) | (simp; done)))
      refine loop_at (ι := Nat × List (List D)) Tryz.checked.mixed rfl [0, 3, 4] (fun y => [.c (.d (.sl (xs.map MArm.enc))), .c (.msl (0, 0)), .c (.d (.i .i64 y.1))]) (fun y => [.mrow 11 y.2] :: S)
        (fun y => y.1 ≤ xs.length ∧ Filled 11 y.1 y.2 (xs.map MArm.enc)) (fun y => xs.length - y.1) (0, _) rfl rfl ⟨Nat.zero_le _, Filled.start (by simp) rfl⟩ ?_
      rintro ⟨i, R⟩ ⟨p1, p2⟩
      simp only at p1 p2
      simp -implicitDefEqProofs (disch := omega) only [go_sem]
      with_reducible refine split2 (fun hb => ?_) (fun hb => ?_) <;> have h := hb <;> (try simp only [wf_preprocess] at h) <;> simp -implicitDefEqProofs (disch := omega) only [go_sem, hb] <;> (repeat (with_reducible refine And.intro ?_ ?_; focus first | omega | rfl | assumption | exact ⟨_, rfl, rfl⟩ | (simp; omega) | (simp; done)))
      · have hi : i < xs.length := by omega
        have hx : xs[i].sz ≤ szRows (xs.map MArm.enc) := szRows_mem (List.mem_map_of_mem (List.getElem_mem hi))
        (repeat (with_reducible refine And.intro ?_ ?_; focus first | omega | rfl | assumption | exact ⟨_, rfl, rfl⟩ | (simp; omega) | (simp; done)))
        refine call_w (ihArm xs[i] (by have := List.sizeOf_lt_of_mem (List.getElem_mem hi); omega) (by omega)) ?_
        simp -implicitDefEqProofs (disch := omega) only [go_sem]
        have hR := p2.1
        rw [List.length_map] at hR
        (repeat (with_reducible refine And.intro ?_ ?_; focus first | omega | rfl | assumption | exact ⟨_, rfl, rfl⟩ | (simp; omega) | (simp; done)))
        refine inv_at (i + 1, _) (by simp only; omega) rfl rfl ⟨by simp only; omega, p2.step (by simp [hi, MArm.enc_eq, MExpr.enc_eq, MType.enc_eq]) rfl⟩
      · have hi : i = xs.length := by omega
        rw [p2.done (by rw [List.length_map]; omega)]
theorem toExpr_ok (x : MExpr) : x.sz ≤ 1048576 → PCall Tryz.prog 13 [x.v] x.v := (toExpr_all _).1 x (Nat.lt_succ_self _)
theorem eqExpr_all : ∀ n : Nat, (∀ x : MExpr, SizeOf.sizeOf x < n → ∀ y : MExpr, x.sz ≤ 1048576 → PCall Tryz.prog 16 [x.v, y.v] (.c (.d (.b (dec (x = y)))))) ∧
    (∀ xs : List MExpr, SizeOf.sizeOf xs < n → ∀ ys : List MExpr, xs.length + szRows (xs.map MExpr.enc) ≤ 1048576 → PCall Tryz.prog 67 [.c (.d (.sl (xs.map MExpr.enc))), .c (.d (.sl (ys.map MExpr.enc)))] (.c (.d (.b (dec (xs = ys)))))) ∧
    (∀ x : MArm, SizeOf.sizeOf x < n → ∀ y : MArm, x.sz ≤ 1048576 → PCall Tryz.prog 164 [x.v, y.v] (.c (.d (.b (dec (x = y)))))) ∧
    (∀ xs : List MArm, SizeOf.sizeOf xs < n → ∀ ys : List MArm, xs.length + szRows (xs.map MArm.enc) ≤ 1048576 → PCall Tryz.prog 68 [.c (.d (.sl (xs.map MArm.enc))), .c (.d (.sl (ys.map MArm.enc)))] (.c (.d (.b (dec (xs = ys))))))
  | 0 => ⟨fun x h => by omega, fun x h => by omega, fun x h => by omega, fun x h => by omega⟩
  | n + 1 => by
    obtain ⟨ihExpr, ihSExpr, ihArm, ihSArm⟩ := eqExpr_all n
    refine ⟨fun x hn y hsz S => ?_, fun xs hn ys hsz S => ?_, fun x hn y hsz S => ?_, fun xs hn ys hsz S => ?_⟩
    · have lArgs := MExpr.lt_Args x
      have lArms := MExpr.lt_Arms x
      simp only [MExpr.sz, MExpr.enc_eq, szRow, szRow_append, D.sz, List.length_map, MType.sz_def] at hsz
      refine acall_cw (rs := [.tmp 4]) Tryz.checked.mixed Tryz.func16 Tryz.ntmps16 rfl rfl rfl rfl rfl ?_
      simp -implicitDefEqProofs (disch := omega) only [go_sem]
      with_reducible refine split2 (fun hb => ?_) (fun hb => ?_) <;> have h := hb <;> (try simp only [wf_preprocess] at h) <;> simp -implicitDefEqProofs (disch := omega) only [go_sem, hb] <;> (repeat (with_reducible refine And.intro ?_ ?_; focus first | omega | rfl | assumption | exact ⟨_, rfl, rfl⟩ | (simp; omega) | (simp; done)))
      · exact bool_eq (dec_false (fun e => h (by rw [e]))).symm
      have eKind := h
      clear h
      with_reducible refine split2 (fun hb => ?_) (fun hb => ?_) <;> have h := hb <;> (try simp only [wf_preprocess] at h) <;> simp -implicitDefEqProofs (disch := omega) only [go_sem, hb] <;> (repeat (with_reducible refine And.intro ?_ ?_; focus first | omega | rfl | assumption | exact ⟨_, rfl, rfl⟩ | (simp; omega) | (simp; done)))
      · exact bool_eq (dec_false (fun e => h (by rw [e]))).symm
      have eTrait := h
      clear h
      with_reducible refine split2 (fun hb => ?_) (fun hb => ?_) <;> have h := hb <;> (try simp only [wf_preprocess] at h) <;> simp -implicitDefEqProofs (disch := omega) only [go_sem, hb] <;> (repeat (with_reducible refine And.intro ?_ ?_; focus first | omega | rfl | assumption | exact ⟨_, rfl, rfl⟩ | (simp; omega) | (simp; done)))
      · exact bool_eq (dec_false (fun e => h (by rw [e]))).symm
      have eName := h
      clear h
      with_reducible refine split2 (fun hb => ?_) (fun hb => ?_) <;> have h := hb <;> (try simp only [wf_preprocess] at h) <;> simp -implicitDefEqProofs (disch := omega) only [go_sem, hb] <;> (repeat (with_reducible refine And.intro ?_ ?_; focus first | omega | rfl | assumption | exact ⟨_, rfl, rfl⟩ | (simp; omega) | (simp; done)))
      · exact bool_eq (dec_false (fun e => h (by rw [e]))).symm
      have eN := h
      clear h
      refine call_w (eqType_ok x.fType _ (by omega)) ?_
      simp -implicitDefEqProofs (disch := omega) only [go_sem]
      with_reducible refine split2 (fun hb => ?_) (fun hb => ?_) <;> have h := hb <;> (try simp only [wf_preprocess] at h) <;> simp -implicitDefEqProofs (disch := omega) only [go_sem, hb] <;> (repeat (with_reducible refine And.intro ?_ ?_; focus first | omega | rfl | assumption | exact ⟨_, rfl, rfl⟩ | (simp; omega) | (simp; done)))
      · exact bool_eq (dec_false (fun e => h (by rw [e]))).symm
      have eType := h
      clear h
      refine call_w (ihSExpr x.fArgs (by omega) _ (by omega)) ?_
      simp -implicitDefEqProofs (disch := omega) only [go_sem]
      with_reducible refine split2 (fun hb => ?_) (fun hb => ?_) <;> have h := hb <;> (try simp only [wf_preprocess] at h) <;> simp -implicitDefEqProofs (disch := omega) only [go_sem, hb] <;> (repeat (with_reducible refine And.intro ?_ ?_; focus first | omega | rfl | assumption | exact ⟨_, rfl, rfl⟩ | (simp; omega) | (simp; done)))
      · exact bool_eq (dec_false (fun e => h (by rw [e]))).symm
      have eArgs := h
      clear h
      refine call_w (ihSArm x.fArms (by omega) _ (by omega)) ?_
      simp -implicitDefEqProofs (disch := omega) only [go_sem]
      with_reducible refine split2 (fun hb => ?_) (fun hb => ?_) <;> have h := hb <;> (try simp only [wf_preprocess] at h) <;> simp -implicitDefEqProofs (disch := omega) only [go_sem, hb] <;> (repeat (with_reducible refine And.intro ?_ ?_; focus first | omega | rfl | assumption | exact ⟨_, rfl, rfl⟩ | (simp; omega) | (simp; done)))
      · exact bool_eq (dec_false (fun e => h (by rw [e]))).symm
      have eArms := h
      clear h
      exact bool_eq (dec_true (MExpr.ext eKind eTrait eName eN eType eArgs eArms)).symm
    · refine acall_cw (rs := [.tmp 4]) Tryz.checked.mixed Tryz.func67 Tryz.ntmps67 rfl rfl rfl rfl rfl ?_
      simp -implicitDefEqProofs (disch := omega) only [go_sem]
      with_reducible refine split2 (fun hb => ?_) (fun hb => ?_) <;> have h := hb <;> (try simp only [wf_preprocess] at h) <;> simp -implicitDefEqProofs (disch := omega) only [go_sem, hb] <;> (repeat (with_reducible refine And.intro ?_ ?_; focus first | omega | rfl | assumption | exact ⟨_, rfl, rfl⟩ | (simp; omega) | (simp; done)))
      · exact bool_eq (dec_false (fun e => h (by rw [e]))).symm
      have hl : xs.length = ys.length := by omega
      refine loop_at (ι := Nat) Tryz.checked.mixed rfl [0, 1, 5] (fun y => [.c (.d (.sl (xs.map MExpr.enc))), .c (.d (.sl (ys.map MExpr.enc))), .c (.d (.i .i64 y))]) (fun y => [] :: S)
        (fun i => i ≤ xs.length ∧ ∀ j, j < i → xs[j]? = ys[j]?) (fun y => xs.length - y) 0 rfl rfl ⟨Nat.zero_le _, fun j h => by omega⟩ ?_
      rintro i ⟨p1, p2⟩
      simp -implicitDefEqProofs (disch := omega) only [go_sem]
      with_reducible refine split2 (fun hb => ?_) (fun hb => ?_) <;> have h := hb <;> (try simp only [wf_preprocess] at h) <;> simp -implicitDefEqProofs (disch := omega) only [go_sem, hb] <;> (repeat (with_reducible refine And.intro ?_ ?_; focus first | omega | rfl | assumption | exact ⟨_, rfl, rfl⟩ | (simp; omega) | (simp; done)))
      · have hi : i < xs.length := by omega
        have hi' : i < ys.length := by omega
        have hx : xs[i].sz ≤ szRows (xs.map MExpr.enc) := szRows_mem (List.mem_map_of_mem (List.getElem_mem hi))
        (repeat (with_reducible refine And.intro ?_ ?_; focus first | omega | rfl | assumption | exact ⟨_, rfl, rfl⟩ | (simp; omega) | (simp; done)))
        refine call_w (ihExpr xs[i] (by have := List.sizeOf_lt_of_mem (List.getElem_mem hi); omega) ys[i] (by omega)) ?_
        simp -implicitDefEqProofs (disch := omega) only [go_sem]
        with_reducible refine split2 (fun hb => ?_) (fun hb => ?_) <;> have h := hb <;> (try simp only [wf_preprocess] at h) <;> simp -implicitDefEqProofs (disch := omega) only [go_sem, hb] <;> (repeat (with_reducible refine And.intro ?_ ?_; focus first | omega | rfl | assumption | exact ⟨_, rfl, rfl⟩ | (simp; omega) | (simp; done)))
        · exact bool_eq (dec_false (fun e => h (by simp only [e]))).symm
        refine inv_at (i + 1) (by omega) rfl rfl ⟨by omega, fun j hj => ?_⟩
        by_cases e : j = i
        · subst e
          rw [List.getElem?_eq_getElem hi, List.getElem?_eq_getElem hi', h]
        · exact p2 j (by omega)
      · have hi : i = xs.length := by omega
        refine bool_eq (dec_true (List.ext_getElem? fun j => ?_)).symm
        by_cases hj : j < i
        · exact p2 j hj
        · rw [List.getElem?_eq_none (by omega), List.getElem?_eq_none (by omega)]
    · have lBody := MArm.lt_Body x
      simp only [MArm.sz, MArm.enc_eq, szRow, szRow_append, D.sz, List.length_map, MExpr.sz_def] at hsz
      refine acall_cw (rs := [.tmp 4]) Tryz.checked.mixed Tryz.func164 Tryz.ntmps164 rfl rfl rfl rfl rfl ?_
      simp -implicitDefEqProofs (disch := omega) only [go_sem]
      with_reducible refine split2 (fun hb => ?_) (fun hb => ?_) <;> have h := hb <;> (try simp only [wf_preprocess] at h) <;> simp -implicitDefEqProofs (disch := omega) only [go_sem, hb] <;> (repeat (with_reducible refine And.intro ?_ ?_; focus first | omega | rfl | assumption | exact ⟨_, rfl, rfl⟩ | (simp; omega) | (simp; done)))
      · exact bool_eq (dec_false (fun e => h (by rw [e]))).symm
      have eConstructor := h
      clear h
      refine call_w (eqStringS_ok x.fVars _ (by omega)) ?_
      simp -implicitDefEqProofs (disch := omega) only [go_sem]
      with_reducible refine split2 (fun hb => ?_) (fun hb => ?_) <;> have h := hb <;> (try simp only [wf_preprocess] at h) <;> simp -implicitDefEqProofs (disch := omega) only [go_sem, hb] <;> (repeat (with_reducible refine And.intro ?_ ?_; focus first | omega | rfl | assumption | exact ⟨_, rfl, rfl⟩ | (simp; omega) | (simp; done)))
      · exact bool_eq (dec_false (fun e => h (by rw [e]))).symm
      have eVars := h
      clear h
      refine call_w (ihExpr x.fBody (by omega) _ (by omega)) ?_
      simp -implicitDefEqProofs (disch := omega) only [go_sem]
      with_reducible refine split2 (fun hb => ?_) (fun hb => ?_) <;> have h := hb <;> (try simp only [wf_preprocess] at h) <;> simp -implicitDefEqProofs (disch := omega) only [go_sem, hb] <;> (repeat (with_reducible refine And.intro ?_ ?_; focus first | omega | rfl | assumption | exact ⟨_, rfl, rfl⟩ | (simp; omega) | (simp; done)))
      · exact bool_eq (dec_false (fun e => h (by rw [e]))).symm
      have eBody := h
      clear h
      exact bool_eq (dec_true (MArm.ext eConstructor eVars eBody)).symm
    · refine acall_cw (rs := [.tmp 4]) Tryz.checked.mixed Tryz.func68 Tryz.ntmps68 rfl rfl rfl rfl rfl ?_
      simp -implicitDefEqProofs (disch := omega) only [go_sem]
      with_reducible refine split2 (fun hb => ?_) (fun hb => ?_) <;> have h := hb <;> (try simp only [wf_preprocess] at h) <;> simp -implicitDefEqProofs (disch := omega) only [go_sem, hb] <;> (repeat (with_reducible refine And.intro ?_ ?_; focus first | omega | rfl | assumption | exact ⟨_, rfl, rfl⟩ | (simp; omega) | (simp; done)))
      · exact bool_eq (dec_false (fun e => h (by rw [e]))).symm
      have hl : xs.length = ys.length := by omega
      refine loop_at (ι := Nat) Tryz.checked.mixed rfl [0, 1, 5] (fun y => [.c (.d (.sl (xs.map MArm.enc))), .c (.d (.sl (ys.map MArm.enc))), .c (.d (.i .i64 y))]) (fun y => [] :: S)
        (fun i => i ≤ xs.length ∧ ∀ j, j < i → xs[j]? = ys[j]?) (fun y => xs.length - y) 0 rfl rfl ⟨Nat.zero_le _, fun j h => by omega⟩ ?_
      rintro i ⟨p1, p2⟩
      simp -implicitDefEqProofs (disch := omega) only [go_sem]
      with_reducible refine split2 (fun hb => ?_) (fun hb => ?_) <;> have h := hb <;> (try simp only [wf_preprocess] at h) <;> simp -implicitDefEqProofs (disch := omega) only [go_sem, hb] <;> (repeat (with_reducible refine And.intro ?_ ?_; focus first | omega | rfl | assumption | exact ⟨_, rfl, rfl⟩ | (simp; omega) | (simp; done)))
      · have hi : i < xs.length := by omega
        have hi' : i < ys.length := by omega
        have hx : xs[i].sz ≤ szRows (xs.map MArm.enc) := szRows_mem (List.mem_map_of_mem (List.getElem_mem hi))
        (repeat (with_reducible refine And.intro ?_ ?_; focus first | omega | rfl | assumption | exact ⟨_, rfl, rfl⟩ | (simp; omega) | (simp; done)))
        refine call_w (ihArm xs[i] (by have := List.sizeOf_lt_of_mem (List.getElem_mem hi); omega) ys[i] (by omega)) ?_
        simp -implicitDefEqProofs (disch := omega) only [go_sem]
        with_reducible refine split2 (fun hb => ?_) (fun hb => ?_) <;> have h := hb <;> (try simp only [wf_preprocess] at h) <;> simp -implicitDefEqProofs (disch := omega) only [go_sem, hb] <;> (repeat (with_reducible refine And.intro ?_ ?_; focus first | omega | rfl | assumption | exact ⟨_, rfl, rfl⟩ | (simp; omega) | (simp; done)))
        · exact bool_eq (dec_false (fun e => h (by simp only [e]))).symm
        refine inv_at (i + 1) (by omega) rfl rfl ⟨by omega, fun j hj => ?_⟩
        by_cases e : j = i
        · subst e
          rw [List.getElem?_eq_getElem hi, List.getElem?_eq_getElem hi', h]
        · exact p2 j (by omega)
      · have hi : i = xs.length := by omega
        refine bool_eq (dec_true (List.ext_getElem? fun j => ?_)).symm
        by_cases hj : j < i
        · exact p2 j hj
        · rw [List.getElem?_eq_none (by omega), List.getElem?_eq_none (by omega)]
theorem eqExpr_ok (x : MExpr) : ∀ y : MExpr, x.sz ≤ 1048576 → PCall Tryz.prog 16 [x.v, y.v] (.c (.d (.b (dec (x = y))))) := (eqExpr_all _).1 x (Nat.lt_succ_self _)
end Go.Proofs.YtokcpelkieeddaaGreatDoor

namespace Go.Ab
mutual
def MExpr.cnt : MExpr → Nat
  | .mk _ _ _ _ _ a b => 1 + (MExpr.cnts a + MArm.cnts b)
def MExpr.cnts : List MExpr → Nat
  | [] => 0
  | x :: xs => x.cnt + MExpr.cnts xs
def MArm.cnt : MArm → Nat
  | .mk _ _ b => b.cnt
def MArm.cnts : List MArm → Nat
  | [] => 0
  | x :: xs => x.cnt + MArm.cnts xs
end
theorem MExpr.cnt_eq (x : MExpr) : x.cnt = 1 + (MExpr.cnts x.fArgs + MArm.cnts x.fArms) := by cases x; rw [MExpr.cnt]; rfl
theorem MArm.cnt_eq (x : MArm) : x.cnt = x.fBody.cnt := by cases x; rw [MArm.cnt]; rfl
theorem MExpr.cnts_drop {xs : List MExpr} {i : Nat} (hi : i < xs.length) : MExpr.cnts (xs.drop i) = xs[i].cnt + MExpr.cnts (xs.drop (i + 1)) := by rw [List.drop_eq_getElem_cons hi, MExpr.cnts]
theorem MArm.cnts_drop {xs : List MArm} {i : Nat} (hi : i < xs.length) : MArm.cnts (xs.drop i) = xs[i].fBody.cnt + MArm.cnts (xs.drop (i + 1)) := by rw [List.drop_eq_getElem_cons hi, MArm.cnts, MArm.cnt_eq]
theorem MExpr.sz_parts (x : MExpr) : x.fArgs.length + szRows (x.fArgs.map MExpr.enc) ≤ x.sz ∧ x.fArms.length + szRows (x.fArms.map MArm.enc) ≤ x.sz := by
  simp only [MExpr.sz, MExpr.enc_eq, szRow, szRow_append, D.sz, List.length_map]
  omega
theorem MArm.sz_body (x : MArm) : x.fBody.sz ≤ x.sz := by
  simp only [MArm.sz, MArm.enc_eq, MExpr.sz, szRow, szRow_append, D.sz, List.length_map]
  omega
mutual
theorem MExpr.cnt_le : ∀ x : MExpr, x.cnt ≤ 1 + x.sz
  | .mk k t n m ty a b => by
    have h1 := MExpr.cnts_le a
    have h2 := MArm.cnts_le b
    rw [MExpr.cnt]
    simp only [MExpr.sz, MExpr.enc_eq, szRow, szRow_append, D.sz, List.length_map, MExpr.fArgs, MExpr.fArms]
    omega
theorem MExpr.cnts_le : ∀ xs : List MExpr, MExpr.cnts xs ≤ xs.length + szRows (xs.map MExpr.enc)
  | [] => by simp [MExpr.cnts]
  | x :: xs => by
    have h1 := MExpr.cnt_le x
    have h2 := MExpr.cnts_le xs
    rw [MExpr.cnts, List.length_cons, List.map_cons, szRows, MExpr.sz_def]
    omega
theorem MArm.cnt_le : ∀ x : MArm, x.cnt ≤ 1 + x.sz
  | .mk c v b => by
    have h1 := MExpr.cnt_le b
    have h2 := MArm.sz_body (.mk c v b)
    rw [MArm.cnt]
    simp only [MArm.fBody] at h2
    omega
theorem MArm.cnts_le : ∀ xs : List MArm, MArm.cnts xs ≤ xs.length + szRows (xs.map MArm.enc)
  | [] => by simp [MArm.cnts]
  | x :: xs => by
    have h1 := MArm.cnt_le x
    have h2 := MArm.cnts_le xs
    rw [MArm.cnts, List.length_cons, List.map_cons, szRows, MArm.sz_def]
    omega
end
end Go.Ab
namespace Go.Proofs.YtokcpelkieeddaaGreatDoor
open Go Go.Ab
theorem implExprSize_all : ∀ n : Nat, ∀ x : MExpr, SizeOf.sizeOf x < n → x.sz ≤ 4194304 → PCall Tryz.prog 157 [x.v] (.c (.d (.i .i64 x.cnt)))
  | 0 => fun x h => by omega
  | n + 1 => by
    have ih := implExprSize_all n
    intro x hn hsz S
    have lArgs := MExpr.lt_Args x
    have lArms := MExpr.lt_Arms x
    have hp := MExpr.sz_parts x
    have hc := MExpr.cnt_le x
    have he := MExpr.cnt_eq x
    refine acall_cw (rs := [.tmp 2]) Tryz.checked.mixed Tryz.func157 Tryz.ntmps157 rfl rfl rfl rfl rfl ?_
    simp -implicitDefEqProofs (disch := omega) only [go_sem]
    refine loop_at (ι := Nat × Nat) Tryz.checked.mixed rfl [1, 3, 9, 10, 11] (fun y => [.c (.ptr (0, 0) 0), .c (.d (.i .i64 y.2)), .c (.d (.sl (x.fArgs.map MExpr.enc))), .c (.d (.i .i64 x.fArgs.length)), .c (.d (.i .i64 y.1))]) (fun y => [.box (x.enc.map .d)] :: S)
      (fun y => y.1 ≤ x.fArgs.length ∧ x.cnt = y.2 + MExpr.cnts (x.fArgs.drop y.1) + MArm.cnts x.fArms) (fun y => x.fArgs.length - y.1) (0, 1) rfl ?_ ⟨Nat.zero_le _, by simp only [List.drop_zero]; omega⟩ ?_
    · simp -implicitDefEqProofs (disch := omega) only [go_sem]
    rintro ⟨i, c⟩ ⟨p1, p2⟩
    simp only at p1 p2
    simp -implicitDefEqProofs (disch := omega) only [go_sem]
    with_reducible refine split2 (fun hb => ?_) (fun hb => ?_) <;> have h := hb <;> (try simp only [wf_preprocess] at h) <;> simp -implicitDefEqProofs (disch := omega) only [go_sem, hb] <;> (repeat (with_reducible refine And.intro ?_ ?_; focus first | omega | rfl | assumption | exact ⟨_, rfl, rfl⟩ | (simp; omega) | (simp; done)))
    · have hi : i < x.fArgs.length := by omega
      have hx : x.fArgs[i].sz ≤ szRows (x.fArgs.map MExpr.enc) := szRows_mem (List.mem_map_of_mem (List.getElem_mem hi))
      rw [MExpr.cnts_drop hi] at p2
      (repeat (with_reducible refine And.intro ?_ ?_; focus first | omega | rfl | assumption | exact ⟨_, rfl, rfl⟩ | (simp; omega) | (simp; done)))
      refine call_w (ih x.fArgs[i] (by have := List.sizeOf_lt_of_mem (List.getElem_mem hi); omega) (by omega)) ?_
      simp -implicitDefEqProofs (disch := omega) only [go_sem] <;> (repeat (with_reducible refine And.intro ?_ ?_; focus first | omega | rfl | assumption | exact ⟨_, rfl, rfl⟩ | (simp; omega) | (simp; done)))
      rw [show (c : Int) + (x.fArgs[i].cnt : Int) = ((c + x.fArgs[i].cnt : Nat) : Int) by omega]
      exact inv_drop 1 (by decide) (i + 1, c + x.fArgs[i].cnt) (by simp only; omega) rfl rfl rfl rfl ⟨by simp only; omega, by simp only; omega⟩
    have hi : i = x.fArgs.length := by omega
    rw [hi, List.drop_length, MExpr.cnts] at p2
    refine loop_at (ι := Nat × Nat) Tryz.checked.mixed rfl [3, 21, 22, 23] (fun y => [.c (.d (.i .i64 y.2)), .c (.d (.sl (x.fArms.map MArm.enc))), .c (.d (.i .i64 x.fArms.length)), .c (.d (.i .i64 y.1))]) (fun y => [.box (x.enc.map .d)] :: S)
      (fun y => y.1 ≤ x.fArms.length ∧ x.cnt = y.2 + MArm.cnts (x.fArms.drop y.1)) (fun y => x.fArms.length - y.1) (0, c) rfl ?_ ⟨Nat.zero_le _, by simp only [List.drop_zero]; omega⟩ ?_
    · simp -implicitDefEqProofs (disch := omega) only [go_sem]
    clear p1 p2 hb h hi i
    rintro ⟨i, d⟩ ⟨p1, p2⟩
    simp only at p1 p2
    simp -implicitDefEqProofs (disch := omega) only [go_sem]
    with_reducible refine split2 (fun hb => ?_) (fun hb => ?_) <;> have h := hb <;> (try simp only [wf_preprocess] at h) <;> simp -implicitDefEqProofs (disch := omega) only [go_sem, hb] <;> (repeat (with_reducible refine And.intro ?_ ?_; focus first | omega | rfl | assumption | exact ⟨_, rfl, rfl⟩ | (simp; omega) | (simp; done)))
    · have hi : i < x.fArms.length := by omega
      have hx : x.fArms[i].sz ≤ szRows (x.fArms.map MArm.enc) := szRows_mem (List.mem_map_of_mem (List.getElem_mem hi))
      have hy := MArm.sz_body x.fArms[i]
      have hs := List.sizeOf_lt_of_mem (List.getElem_mem hi)
      have hs' := MArm.lt_Body x.fArms[i]
      rw [MArm.cnts_drop hi] at p2
      (repeat (with_reducible refine And.intro ?_ ?_; focus first | omega | rfl | assumption | exact ⟨_, rfl, rfl⟩ | (simp; omega) | (simp; done)))
      refine call_w (ih x.fArms[i].fBody (by omega) (by omega)) ?_
      simp -implicitDefEqProofs (disch := omega) only [go_sem] <;> (repeat (with_reducible refine And.intro ?_ ?_; focus first | omega | rfl | assumption | exact ⟨_, rfl, rfl⟩ | (simp; omega) | (simp; done)))
      rw [show (d : Int) + (x.fArms[i].fBody.cnt : Int) = ((d + x.fArms[i].fBody.cnt : Nat) : Int) by omega]
      exact inv_drop 1 (by decide) (i + 1, d + x.fArms[i].fBody.cnt) (by simp only; omega) rfl rfl rfl rfl ⟨by simp only; omega, by simp only; omega⟩
    · have hi : i = x.fArms.length := by omega
      rw [hi, List.drop_length, MArm.cnts] at p2
      exact int_eq (by omega)
theorem implExprSize_ok (x : MExpr) (hsz : x.sz ≤ 4194304) : PCall Tryz.prog 157 [x.v] (.c (.d (.i .i64 x.cnt))) := implExprSize_all _ x (Nat.lt_succ_self _) hsz
end Go.Proofs.YtokcpelkieeddaaGreatDoor

namespace Go.Ab
mutual
def nodesT : MType → List MType
  | .mk k n a => .mk k n a :: nodesL a
def nodesL : List MType → List MType
  | [] => []
  | t :: ts => nodesT t ++ nodesL ts
end
theorem nodesT_eq (t : MType) : nodesT t = t :: nodesL t.fArgs := by cases t; rw [nodesT]; rfl
theorem nodesL_drop {ts : List MType} {i : Nat} (hi : i < ts.length) : nodesL (ts.drop i) = nodesT ts[i] ++ nodesL (ts.drop (i + 1)) := by rw [List.drop_eq_getElem_cons hi, nodesL]
mutual
theorem nodes_len : ∀ t : MType, (nodesT t).length = t.cnt
  | .mk k n a => by rw [nodesT, List.length_cons, MType.cnt, nodesL_len a]; omega
theorem nodesL_len : ∀ ts : List MType, (nodesL ts).length = MType.cnts ts
  | [] => rfl
  | t :: ts => by rw [nodesL, List.length_append, MType.cnts, nodes_len t, nodesL_len ts]
end
def addV (out : List (List UInt8)) (u : MType) : List (List UInt8) := if u.fKind = 1 ∧ u.fName ∉ out then out ++ [u.fName] else out
def tvars (out : List (List UInt8)) (t : MType) : List (List UInt8) := (nodesT t).foldl addV out
def tvarsL (out : List (List UInt8)) (ts : List MType) : List (List UInt8) := (nodesL ts).foldl addV out
theorem addV_len (out : List (List UInt8)) (u : MType) : (addV out u).length ≤ out.length + 1 := by
  unfold addV
  split <;> simp
theorem foldV_len : ∀ (us : List MType) (out : List (List UInt8)), (us.foldl addV out).length ≤ out.length + us.length
  | [], out => by simp
  | u :: us, out => by
    have h1 := addV_len out u
    have h2 := foldV_len us (addV out u)
    rw [List.foldl_cons, List.length_cons]
    omega
theorem tvars_len (t : MType) (out : List (List UInt8)) : (tvars out t).length ≤ out.length + t.cnt := by
  have := foldV_len (nodesT t) out
  rw [nodes_len] at this
  exact this
theorem tvars_eq (out : List (List UInt8)) (t : MType) : tvars out t = tvarsL (addV out t) t.fArgs := by
  unfold tvars tvarsL
  rw [nodesT_eq, List.foldl_cons]
theorem tvarsL_drop {ts : List MType} {i : Nat} (hi : i < ts.length) (out : List (List UInt8)) : tvarsL out (ts.drop i) = tvarsL (tvars out ts[i]) (ts.drop (i + 1)) := by
  unfold tvarsL tvars
  rw [nodesL_drop hi, List.foldl_append]
def hasProj (t : MType) : Bool := (nodesT t).any fun u => decide (u.fKind = 3)
def hasProjL (ts : List MType) : Bool := (nodesL ts).any fun u => decide (u.fKind = 3)
theorem hasProj_eq (t : MType) : hasProj t = (decide (t.fKind = 3) || hasProjL t.fArgs) := by
  unfold hasProj hasProjL
  rw [nodesT_eq, List.any_cons]
theorem hasProjL_drop {ts : List MType} {i : Nat} (hi : i < ts.length) : hasProjL (ts.drop i) = (hasProj ts[i] || hasProjL (ts.drop (i + 1))) := by
  unfold hasProjL hasProj
  rw [nodesL_drop hi, List.any_append]
theorem hasProj_fold (us : List MType) : ∀ b : Bool, us.foldl (fun b u => b || decide (u.fKind = 3)) b = (b || us.any fun u => decide (u.fKind = 3)) := by
  induction us with
  | nil => intro b; simp
  | cons u us ih => intro b; rw [List.foldl_cons, ih, List.any_cons, Bool.or_assoc]
def isV (v : List UInt8) (u : MType) : Bool := decide (u.fKind = 1 ∧ u.fName = v)
def countV (v : List UInt8) (t : MType) : Nat := (nodesT t).countP (isV v)
def countVL (v : List UInt8) (ts : List MType) : Nat := (nodesL ts).countP (isV v)
theorem countV_eq (v : List UInt8) (t : MType) : countV v t = (if isV v t then 1 else 0) + countVL v t.fArgs := by
  unfold countV countVL
  rw [nodesT_eq, List.countP_cons]
  omega
theorem countVL_drop {v : List UInt8} {ts : List MType} {i : Nat} (hi : i < ts.length) : countVL v (ts.drop i) = countV v ts[i] + countVL v (ts.drop (i + 1)) := by
  unfold countVL countV
  rw [nodesL_drop hi, List.countP_append]
theorem countV_le (v : List UInt8) (t : MType) : countV v t ≤ t.cnt := by
  unfold countV
  rw [← nodes_len]
  exact List.countP_le_length
def occurs (v : List UInt8) (t : MType) : Bool := decide (0 < countV v t)
end Go.Ab

namespace Go.Proofs.YtokcpelkieeddaaGreatDoor
open Go Go.Ab
theorem l1In_ok (n a b : Int) : PCall Tryz.prog 237 [.c (.d (.i .i64 n)), .c (.d (.i .i64 a)), .c (.d (.i .i64 b))] (.c (.d (.b (dec (a ≤ n ∧ n ≤ b))))) := fun S => by
  refine acall_cw (rs := [.tmp 6]) Tryz.checked.mixed Tryz.func237 Tryz.ntmps237 rfl rfl rfl rfl rfl ?_
  simp -implicitDefEqProofs (disch := omega) only [go_sem]
  with_reducible refine split2 (fun hb => ?_) (fun hb => ?_) <;> have h := hb <;> (try simp only [wf_preprocess] at h) <;> simp -implicitDefEqProofs (disch := omega) only [go_sem, hb] <;> (repeat (with_reducible refine And.intro ?_ ?_; focus first | omega | rfl | assumption | exact ⟨_, rfl, rfl⟩ | (simp; omega) | (simp; done)))
  · exact bool_eq (by rw [decide_dec]; exact dec_congr ⟨fun x => ⟨by omega, x⟩, fun x => x.2⟩)
  · exact bool_eq (dec_false (by omega)).symm
theorem l1Has_ok (xs : List (List UInt8)) (s : List UInt8) (hl : xs.length ≤ 1073741824) : PCall Tryz.prog 206 [.c (.d (.sl (xs.map encS))), .c (.d (.s s))] (.c (.d (.b (dec (s ∈ xs))))) := fun S => by
  refine acall_cw (rs := [.tmp 4]) Tryz.checked.mixed Tryz.func206 Tryz.ntmps206 rfl rfl rfl rfl rfl ?_
  simp -implicitDefEqProofs (disch := omega) only [go_sem, encS]
  refine loop_at (ι := Nat) Tryz.checked.mixed rfl [0, 1, 5] (fun i => [.c (.d (.sl (xs.map encS))), .c (.d (.s s)), .c (.d (.i .i64 i))]) (fun _ => [] :: S)
    (fun i => i ≤ xs.length ∧ ∀ j, j < i → ∀ h : j < xs.length, xs[j] ≠ s) (fun i => xs.length - i) 0 rfl rfl ⟨Nat.zero_le _, fun j h => by omega⟩ ?_
  rintro i ⟨p1, p2⟩
  simp -implicitDefEqProofs (disch := omega) only [go_sem, encS]
  with_reducible refine split2 (fun hb => ?_) (fun hb => ?_) <;> have h := hb <;> (try simp only [wf_preprocess] at h) <;> simp -implicitDefEqProofs (disch := omega) only [go_sem, hb, encS] <;> (repeat (with_reducible refine And.intro ?_ ?_; focus first | omega | rfl | assumption | exact ⟨_, rfl, rfl⟩ | (simp; omega) | (simp; done)))
  · have hi : i < xs.length := by omega
    with_reducible refine split2 (fun hb => ?_) (fun hb => ?_) <;> have h := hb <;> (try simp only [wf_preprocess] at h) <;> simp -implicitDefEqProofs (disch := omega) only [go_sem, hb, encS] <;> (repeat (with_reducible refine And.intro ?_ ?_; focus first | omega | rfl | assumption | exact ⟨_, rfl, rfl⟩ | (simp; omega) | (simp; done)))
    · exact bool_eq (dec_true (by rw [← h]; exact List.getElem_mem hi)).symm
    · refine inv_at (i + 1) (by omega) rfl rfl ⟨by omega, fun j hj hl => ?_⟩
      by_cases e : j = i
      · subst e; exact h
      · exact p2 j (by omega) hl
  · refine bool_eq (dec_false fun hm => ?_).symm
    obtain ⟨j, h1, h2⟩ := List.getElem_of_mem hm
    exact p2 j (by omega) h1 h2
theorem indexS_ok (xs : List (List UInt8)) (s : List UInt8) (hl : xs.length ≤ 1073741824) : PCall Tryz.prog 277 [.c (.d (.sl (xs.map encS))), .c (.d (.s s))] (.c (.d (.i .i64 (indexS xs s)))) := fun S => by
  refine acall_cw (rs := [.tmp 4]) Tryz.checked.mixed Tryz.func277 Tryz.ntmps277 rfl rfl rfl rfl rfl ?_
  simp -implicitDefEqProofs (disch := omega) only [go_sem, encS]
  refine loop_at (ι := Nat) Tryz.checked.mixed rfl [0, 1, 7, 8] (fun i => [.c (.d (.sl (xs.map encS))), .c (.d (.s s)), .c (.d (.i .i64 xs.length)), .c (.d (.i .i64 i))]) (fun _ => [] :: S)
    (fun i => i ≤ xs.length ∧ ∀ j, j < i → xs.getD j [] ≠ s) (fun i => xs.length - i) 0 rfl rfl ⟨Nat.zero_le _, fun j h => by omega⟩ ?_
  rintro i ⟨p1, p2⟩
  simp -implicitDefEqProofs (disch := omega) only [go_sem, encS]
  with_reducible refine split2 (fun hb => ?_) (fun hb => ?_) <;> have h := hb <;> (try simp only [wf_preprocess] at h) <;> simp -implicitDefEqProofs (disch := omega) only [go_sem, hb, encS] <;> (repeat (with_reducible refine And.intro ?_ ?_; focus first | omega | rfl | assumption | exact ⟨_, rfl, rfl⟩ | (simp; omega) | (simp; done)))
  · have hi : i < xs.length := by omega
    have e : xs.getD i [] = xs[i] := by simp [List.getD, hi]
    with_reducible refine split2 (fun hb => ?_) (fun hb => ?_) <;> have h := hb <;> (try simp only [wf_preprocess] at h) <;> simp -implicitDefEqProofs (disch := omega) only [go_sem, hb, encS] <;> (repeat (with_reducible refine And.intro ?_ ?_; focus first | omega | rfl | assumption | exact ⟨_, rfl, rfl⟩ | (simp; omega) | (simp; done)))
    · rw [indexS_here hi p2 (by rw [e]; exact h.symm)]
    · refine inv_at (i + 1) (by omega) rfl rfl ⟨by omega, fun j hj => ?_⟩
      by_cases e' : j = i
      · subst e'; rw [e]; exact fun x => h x.symm
      · exact p2 j (by omega)
  · rw [indexS_no (fun j hj => p2 j (by omega))]
theorem containsS_ok (xs : List (List UInt8)) (s : List UInt8) (hl : xs.length ≤ 1073741824) : PCall Tryz.prog 273 [.c (.d (.sl (xs.map encS))), .c (.d (.s s))] (.c (.d (.b (dec (s ∈ xs))))) := fun S => by
  refine acall_cw (rs := [.tmp 4]) Tryz.checked.mixed Tryz.func273 Tryz.ntmps273 rfl rfl rfl rfl rfl ?_
  simp -implicitDefEqProofs (disch := omega) only [go_sem]
  refine call_w (indexS_ok xs s hl) ?_
  simp -implicitDefEqProofs (disch := omega) only [go_sem] <;> (repeat (with_reducible refine And.intro ?_ ?_; focus first | omega | rfl | assumption | exact ⟨_, rfl, rfl⟩ | (simp; omega) | (simp; done)))
  exact bool_eq indexS_pos
theorem specReserved_ok (s : List UInt8) : PCall Tryz.prog 251 [.c (.d (.s s))] (.c (.d (.b (dec (s ∈ reserved))))) := fun S => by
  refine acall_cw (rs := [.tmp 2]) Tryz.checked.mixed Tryz.func251 Tryz.ntmps251 rfl rfl rfl rfl rfl ?_
  simp -implicitDefEqProofs (disch := omega) only [go_sem]
  (repeat (with_reducible refine And.intro ?_ ?_; focus first | omega | rfl | assumption | exact ⟨_, rfl, rfl⟩ | (simp; omega) | (simp; done)))
  refine call_w (l1Has_ok reserved s (by decide)) ?_
  simp -implicitDefEqProofs (disch := omega) only [go_sem] <;> (repeat (with_reducible refine And.intro ?_ ?_; focus first | omega | rfl | assumption | exact ⟨_, rfl, rfl⟩ | (simp; omega) | (simp; done)))
theorem implReserved_ok (s : List UInt8) : PCall Tryz.prog 256 [.c (.d (.s s))] (.c (.d (.b (dec (s ∈ reserved))))) := fun S => by
  refine acall_cw (rs := [.tmp 2]) Tryz.checked.mixed Tryz.func256 Tryz.ntmps256 rfl rfl rfl rfl rfl ?_
  simp -implicitDefEqProofs (disch := omega) only [go_sem]
  (repeat (with_reducible refine And.intro ?_ ?_; focus first | omega | rfl | assumption | exact ⟨_, rfl, rfl⟩ | (simp; omega) | (simp; done)))
  refine call_w (containsS_ok reserved s (by decide)) ?_
  simp -implicitDefEqProofs (disch := omega) only [go_sem] <;> (repeat (with_reducible refine And.intro ?_ ?_; focus first | omega | rfl | assumption | exact ⟨_, rfl, rfl⟩ | (simp; omega) | (simp; done)))
theorem isLower_ok (b : UInt8) : PCall Tryz.prog 254 [.c (.d (.i .u8 b.toNat))] (.c (.d (.b (dec (lowerB b))))) := fun S => by
  refine acall_cw (rs := [.tmp 2]) Tryz.checked.mixed Tryz.func254 Tryz.ntmps254 rfl rfl rfl rfl rfl ?_
  simp -implicitDefEqProofs (disch := omega) only [go_sem]
  with_reducible refine split2 (fun hb => ?_) (fun hb => ?_) <;> have h := hb <;> (try simp only [wf_preprocess] at h) <;> simp -implicitDefEqProofs (disch := omega) only [go_sem, hb] <;> (repeat (with_reducible refine And.intro ?_ ?_; focus first | omega | rfl | assumption | exact ⟨_, rfl, rfl⟩ | (simp; omega) | (simp; done)))
  · exact bool_eq (by rw [decide_dec]; exact dec_congr ⟨fun x => ⟨by omega, by omega⟩, fun x => by have := x.2; omega⟩)
  · exact bool_eq (dec_false fun x => by have := x.1; omega).symm
theorem isDigit_ok (b : UInt8) : PCall Tryz.prog 255 [.c (.d (.i .u8 b.toNat))] (.c (.d (.b (dec (digitB b))))) := fun S => by
  refine acall_cw (rs := [.tmp 2]) Tryz.checked.mixed Tryz.func255 Tryz.ntmps255 rfl rfl rfl rfl rfl ?_
  simp -implicitDefEqProofs (disch := omega) only [go_sem]
  with_reducible refine split2 (fun hb => ?_) (fun hb => ?_) <;> have h := hb <;> (try simp only [wf_preprocess] at h) <;> simp -implicitDefEqProofs (disch := omega) only [go_sem, hb] <;> (repeat (with_reducible refine And.intro ?_ ?_; focus first | omega | rfl | assumption | exact ⟨_, rfl, rfl⟩ | (simp; omega) | (simp; done)))
  · exact bool_eq (by rw [decide_dec]; exact dec_congr ⟨fun x => ⟨by omega, by omega⟩, fun x => by have := x.2; omega⟩)
  · exact bool_eq (dec_false fun x => by have := x.1; omega).symm
theorem implValidName_ok (s : List UInt8) (hl : s.length ≤ 1073741824) : PCall Tryz.prog 176 [.c (.d (.s s))] (.c (.d (.b (validName s)))) := fun S => by
  refine acall_cw (rs := [.tmp 2]) Tryz.checked.mixed Tryz.func176 Tryz.ntmps176 rfl rfl rfl rfl rfl ?_
  simp -implicitDefEqProofs (disch := omega) only [go_sem]
  refine loop_at (ι := Nat) Tryz.checked.mixed rfl [0, 5, 6] (fun i => [.c (.d (.s s)), .c (.d (.i .i64 s.length)), .c (.d (.i .i64 i))]) (fun _ => [] :: S)
    (fun i => i ≤ s.length ∧ ∀ j, j < i → lowerB (s.getD j 0) ∨ (j ≠ 0 ∧ digitB (s.getD j 0))) (fun i => s.length - i) 0 rfl rfl ⟨Nat.zero_le _, fun j h => by omega⟩ ?_
  rintro i ⟨p1, p2⟩
  have next : i < s.length → (lowerB (s.getD i 0) ∨ (i ≠ 0 ∧ digitB (s.getD i 0))) → ∀ j, j < i + 1 → lowerB (s.getD j 0) ∨ (j ≠ 0 ∧ digitB (s.getD j 0)) := fun hi h j hj => by
    by_cases e : j = i
    · subst e; exact h
    · exact p2 j (by omega)
  have bad : i < s.length → ¬ (lowerB (s.getD i 0) ∨ (i ≠ 0 ∧ digitB (s.getD i 0))) → validName s = false := fun hi h => dec_false fun x => h (x.2.2 i hi)
  simp -implicitDefEqProofs (disch := omega) only [go_sem]
  with_reducible refine split2 (fun hb => ?_) (fun hb => ?_) <;> have h := hb <;> (try simp only [wf_preprocess] at h) <;> simp -implicitDefEqProofs (disch := omega) only [go_sem, hb] <;> (repeat (with_reducible refine And.intro ?_ ?_; focus first | omega | rfl | assumption | exact ⟨_, rfl, rfl⟩ | (simp; omega) | (simp; done)))
  · have hi : i < s.length := by omega
    (repeat (with_reducible refine And.intro ?_ ?_; focus first | omega | rfl | assumption | exact ⟨_, rfl, rfl⟩ | (simp; omega) | (simp; done)))
    refine call_w (isLower_ok (s.getD i 0)) ?_
    simp -implicitDefEqProofs (disch := omega) only [go_sem] <;> (repeat (with_reducible refine And.intro ?_ ?_; focus first | omega | rfl | assumption | exact ⟨_, rfl, rfl⟩ | (simp; omega) | (simp; done)))
    with_reducible refine split2 (fun hb => ?_) (fun hb => ?_) <;> have h := hb <;> (try simp only [wf_preprocess] at h) <;> simp -implicitDefEqProofs (disch := omega) only [go_sem, hb] <;> (repeat (with_reducible refine And.intro ?_ ?_; focus first | omega | rfl | assumption | exact ⟨_, rfl, rfl⟩ | (simp; omega) | (simp; done)))
    · have nl := h
      with_reducible refine split2 (fun hb => ?_) (fun hb => ?_) <;> have h := hb <;> (try simp only [wf_preprocess] at h) <;> simp -implicitDefEqProofs (disch := omega) only [go_sem, hb] <;> (repeat (with_reducible refine And.intro ?_ ?_; focus first | omega | rfl | assumption | exact ⟨_, rfl, rfl⟩ | (simp; omega) | (simp; done)))
      · have i0 : i = 0 := by omega
        rw [bad hi (fun x => x.elim nl fun y => y.1 i0)]
      · have ne := h
        (repeat (with_reducible refine And.intro ?_ ?_; focus first | omega | rfl | assumption | exact ⟨_, rfl, rfl⟩ | (simp; omega) | (simp; done)))
        refine call_w (isDigit_ok (s.getD i 0)) ?_
        simp -implicitDefEqProofs (disch := omega) only [go_sem] <;> (repeat (with_reducible refine And.intro ?_ ?_; focus first | omega | rfl | assumption | exact ⟨_, rfl, rfl⟩ | (simp; omega) | (simp; done)))
        with_reducible refine split2 (fun hb => ?_) (fun hb => ?_) <;> have h := hb <;> (try simp only [wf_preprocess] at h) <;> simp -implicitDefEqProofs (disch := omega) only [go_sem, hb] <;> (repeat (with_reducible refine And.intro ?_ ?_; focus first | omega | rfl | assumption | exact ⟨_, rfl, rfl⟩ | (simp; omega) | (simp; done)))
        · rw [bad hi (fun x => x.elim nl fun y => h y.2)]
        · exact inv_at (i + 1) (by omega) rfl rfl ⟨by omega, next hi (.inr ⟨by omega, h⟩)⟩
    · exact inv_at (i + 1) (by omega) rfl rfl ⟨by omega, next hi (.inl h)⟩
  · have hn : nameOk s := fun j hj => p2 j (by omega)
    have h0 : ∀ b, dec (s ∈ reserved) = b → ∀ c, decide ((s.length : Int) ≥ 1) = c → ∀ d, decide ((s.length : Int) ≤ 8) = d → validName s = (c && d && !b) := by
      rintro b rfl c rfl d rfl
      unfold validName
      rw [Bool.eq_iff_iff]
      simp only [dec_eq_true, Bool.and_eq_true, decide_eq_true_eq, Bool.not_eq_true', dec_eq_false]
      exact ⟨fun x => ⟨⟨by omega, by omega⟩, x.2.1⟩, fun x => ⟨⟨by omega, by omega⟩, x.2, hn⟩⟩
    with_reducible refine split2 (fun hb => ?_) (fun hb => ?_) <;> have h := hb <;> (try simp only [wf_preprocess] at h) <;> simp -implicitDefEqProofs (disch := omega) only [go_sem, hb] <;> (repeat (with_reducible refine And.intro ?_ ?_; focus first | omega | rfl | assumption | exact ⟨_, rfl, rfl⟩ | (simp; omega) | (simp; done)))
    · have c1 := hb
      with_reducible refine split2 (fun hb => ?_) (fun hb => ?_) <;> have h := hb <;> (try simp only [wf_preprocess] at h) <;> simp -implicitDefEqProofs (disch := omega) only [go_sem, hb] <;> (repeat (with_reducible refine And.intro ?_ ?_; focus first | omega | rfl | assumption | exact ⟨_, rfl, rfl⟩ | (simp; omega) | (simp; done)))
      · refine call_w (implReserved_ok s) ?_
        simp -implicitDefEqProofs (disch := omega) only [go_sem] <;> (repeat (with_reducible refine And.intro ?_ ?_; focus first | omega | rfl | assumption | exact ⟨_, rfl, rfl⟩ | (simp; omega) | (simp; done)))
        exact bool_eq (by rw [h0 _ rfl _ c1 _ hb]; simp)
      · exact bool_eq (by rw [h0 _ rfl _ c1 _ hb]; simp)
    · exact bool_eq (by rw [h0 _ rfl _ hb _ rfl]; simp)
theorem specValidName_ok (s : List UInt8) (hl : s.length ≤ 1073741824) : PCall Tryz.prog 170 [.c (.d (.s s))] (.c (.d (.b (validName s)))) := fun S => by
  have bad : ¬ nameOk s → validName s = false := fun h => dec_false fun x => h x.2.2
  refine acall_cw (rs := [.tmp 2]) Tryz.checked.mixed Tryz.func170 Tryz.ntmps170 rfl rfl rfl rfl rfl ?_
  simp -implicitDefEqProofs (disch := omega) only [go_sem]
  refine call_w (l1In_ok s.length 1 8) ?_
  simp -implicitDefEqProofs (disch := omega) only [go_sem] <;> (repeat (with_reducible refine And.intro ?_ ?_; focus first | omega | rfl | assumption | exact ⟨_, rfl, rfl⟩ | (simp; omega) | (simp; done)))
  with_reducible refine split2 (fun hb => ?_) (fun hb => ?_) <;> have h := hb <;> (try simp only [wf_preprocess] at h) <;> simp -implicitDefEqProofs (disch := omega) only [go_sem, hb] <;> (repeat (with_reducible refine And.intro ?_ ?_; focus first | omega | rfl | assumption | exact ⟨_, rfl, rfl⟩ | (simp; omega) | (simp; done)))
  · rw [show validName s = false from dec_false fun x => h (by omega)]
  have hlen := h
  refine call_w (specReserved_ok s) ?_
  simp -implicitDefEqProofs (disch := omega) only [go_sem] <;> (repeat (with_reducible refine And.intro ?_ ?_; focus first | omega | rfl | assumption | exact ⟨_, rfl, rfl⟩ | (simp; omega) | (simp; done)))
  with_reducible refine split2 (fun hb => ?_) (fun hb => ?_) <;> have h := hb <;> (try simp only [wf_preprocess] at h) <;> simp -implicitDefEqProofs (disch := omega) only [go_sem, hb] <;> (repeat (with_reducible refine And.intro ?_ ?_; focus first | omega | rfl | assumption | exact ⟨_, rfl, rfl⟩ | (simp; omega) | (simp; done)))
  · rw [show validName s = false from dec_false fun x => x.2.1 h]
  have hres := h
  refine loop_at (ι := Nat) Tryz.checked.mixed rfl [0, 3] (fun i => [.c (.d (.s s)), .c (.d (.i .i64 i))]) (fun _ => [] :: S)
    (fun i => i ≤ s.length ∧ ∀ j, j < i → lowerB (s.getD j 0) ∨ (j ≠ 0 ∧ digitB (s.getD j 0))) (fun i => s.length - i) 0 rfl rfl ⟨Nat.zero_le _, fun j h => by omega⟩ ?_
  rintro i ⟨p1, p2⟩
  have next : i < s.length → (lowerB (s.getD i 0) ∨ (i ≠ 0 ∧ digitB (s.getD i 0))) → ∀ j, j < i + 1 → lowerB (s.getD j 0) ∨ (j ≠ 0 ∧ digitB (s.getD j 0)) := fun hi h j hj => by
    by_cases e : j = i
    · subst e; exact h
    · exact p2 j (by omega)
  simp -implicitDefEqProofs (disch := omega) only [go_sem]
  with_reducible refine split2 (fun hb => ?_) (fun hb => ?_) <;> have h := hb <;> (try simp only [wf_preprocess] at h) <;> simp -implicitDefEqProofs (disch := omega) only [go_sem, hb] <;> (repeat (with_reducible refine And.intro ?_ ?_; focus first | omega | rfl | assumption | exact ⟨_, rfl, rfl⟩ | (simp; omega) | (simp; done)))
  · have hi : i < s.length := by omega
    have bad' : ¬ (lowerB (s.getD i 0) ∨ (i ≠ 0 ∧ digitB (s.getD i 0))) → validName s = false := fun h => bad fun x => h (x i hi)
    have next := next hi
    unfold lowerB digitB at bad' next
    all_goals try (with_reducible refine split2 (fun hb => ?_) (fun hb => ?_) <;> have h := hb <;> (try simp only [wf_preprocess] at h) <;> simp -implicitDefEqProofs (disch := omega) only [go_sem, hb] <;> (repeat (with_reducible refine And.intro ?_ ?_; focus first | omega | rfl | assumption | exact ⟨_, rfl, rfl⟩ | (simp; omega) | (simp; done))))
    all_goals try (with_reducible refine split2 (fun hb => ?_) (fun hb => ?_) <;> have h := hb <;> (try simp only [wf_preprocess] at h) <;> simp -implicitDefEqProofs (disch := omega) only [go_sem, hb] <;> (repeat (with_reducible refine And.intro ?_ ?_; focus first | omega | rfl | assumption | exact ⟨_, rfl, rfl⟩ | (simp; omega) | (simp; done))))
    all_goals try (with_reducible refine split2 (fun hb => ?_) (fun hb => ?_) <;> have h := hb <;> (try simp only [wf_preprocess] at h) <;> simp -implicitDefEqProofs (disch := omega) only [go_sem, hb] <;> (repeat (with_reducible refine And.intro ?_ ?_; focus first | omega | rfl | assumption | exact ⟨_, rfl, rfl⟩ | (simp; omega) | (simp; done))))
    all_goals try (with_reducible refine split2 (fun hb => ?_) (fun hb => ?_) <;> have h := hb <;> (try simp only [wf_preprocess] at h) <;> simp -implicitDefEqProofs (disch := omega) only [go_sem, hb] <;> (repeat (with_reducible refine And.intro ?_ ?_; focus first | omega | rfl | assumption | exact ⟨_, rfl, rfl⟩ | (simp; omega) | (simp; done))))
    all_goals try (with_reducible refine split2 (fun hb => ?_) (fun hb => ?_) <;> have h := hb <;> (try simp only [wf_preprocess] at h) <;> simp -implicitDefEqProofs (disch := omega) only [go_sem, hb] <;> (repeat (with_reducible refine And.intro ?_ ?_; focus first | omega | rfl | assumption | exact ⟨_, rfl, rfl⟩ | (simp; omega) | (simp; done))))
    all_goals try (with_reducible refine split2 (fun hb => ?_) (fun hb => ?_) <;> have h := hb <;> (try simp only [wf_preprocess] at h) <;> simp -implicitDefEqProofs (disch := omega) only [go_sem, hb] <;> (repeat (with_reducible refine And.intro ?_ ?_; focus first | omega | rfl | assumption | exact ⟨_, rfl, rfl⟩ | (simp; omega) | (simp; done))))
    all_goals first
      | exact inv_at (i + 1) (by omega) rfl rfl ⟨by omega, next (by omega)⟩
      | exact bool_eq (bad' (by omega)).symm
  · rw [show validName s = true from dec_true ⟨by omega, hres, fun j hj => p2 j (by omega)⟩]
theorem l4Base_ok (s : List UInt8) : PCall Tryz.prog 325 [.c (.d (.s s))] (.c (.d (.b (builtInB s)))) := fun S => by
  refine acall_cw (rs := [.tmp 2]) Tryz.checked.mixed Tryz.func325 Tryz.ntmps325 rfl rfl rfl rfl rfl ?_
  simp -implicitDefEqProofs (disch := omega) only [go_sem]
  with_reducible refine split2 (fun hb => ?_) (fun hb => ?_) <;> have h := hb <;> (try simp only [wf_preprocess] at h) <;> simp -implicitDefEqProofs (disch := omega) only [go_sem, hb] <;> (repeat (with_reducible refine And.intro ?_ ?_; focus first | omega | rfl | assumption | exact ⟨_, rfl, rfl⟩ | (simp; omega) | (simp; done)))
  · exact bool_eq (dec_true (.inl h)).symm
  · exact bool_eq (by rw [decide_dec]; exact dec_congr ⟨fun x => .inr x, fun x => x.resolve_left h⟩)
theorem isBuiltIn_ok (s : List UInt8) : PCall Tryz.prog 328 [.c (.d (.s s))] (.c (.d (.b (builtInB s)))) := fun S => by
  refine acall_cw (rs := [.tmp 2]) Tryz.checked.mixed Tryz.func328 Tryz.ntmps328 rfl rfl rfl rfl rfl ?_
  simp -implicitDefEqProofs (disch := omega) only [go_sem]
  with_reducible refine split2 (fun hb => ?_) (fun hb => ?_) <;> have h := hb <;> (try simp only [wf_preprocess] at h) <;> simp -implicitDefEqProofs (disch := omega) only [go_sem, hb] <;> (repeat (with_reducible refine And.intro ?_ ?_; focus first | omega | rfl | assumption | exact ⟨_, rfl, rfl⟩ | (simp; omega) | (simp; done)))
  · exact bool_eq (dec_true (.inl h)).symm
  · exact bool_eq (by rw [decide_dec]; exact dec_congr ⟨fun x => .inr x, fun x => x.resolve_left h⟩)
end Go.Proofs.YtokcpelkieeddaaGreatDoor

namespace Go.Proofs.YtokcpelkieeddaaGreatDoor
open Go Go.Ab
theorem arg_szT {x : MType} {i : Nat} (hi : i < x.fArgs.length) (h : x.sz ≤ 4194304) : x.fArgs[i].sz ≤ 4194304 ∧ x.fArgs.length ≤ 4194304 ∧ x.fName.length ≤ 4194304 := by
  have hx : x.fArgs[i].sz ≤ szRows (x.fArgs.map MType.enc) := szRows_mem (List.mem_map_of_mem (List.getElem_mem hi))
  simp only [MType.sz, MType.enc_eq, szRow, D.sz, List.length_map] at h
  omega
theorem ty_szT {x : MType} (h : x.sz ≤ 4194304) : x.fArgs.length ≤ 4194304 ∧ x.fName.length ≤ 4194304 := by
  simp only [MType.sz, MType.enc_eq, szRow, D.sz, List.length_map] at h
  omega
theorem eachType_all : ∀ n : Nat, ∀ t : MType, SizeOf.sizeOf t < n → t.sz ≤ 4194304 → ∀ (g : Nat) (caps : List (Key × Nat)) (α : Type) (st : α → Store) (I : Nat → α → Prop) (f : α → MType → α) (hf : FStep Tryz.prog g caps st I f MType.v (fun u => u.sz ≤ 4194304)) (m : Nat) (a : α), I (m + t.cnt) a →
    I m ((nodesT t).foldl f a) ∧ ACall Tryz.prog 270 [t.v, .c (.fn g caps)] (st a) (fun r S' => r = .tup [] ∧ S' = st ((nodesT t).foldl f a))
  | 0 => fun t h => by omega
  | n + 1 => by
    have ih := eachType_all n
    intro t hn hsz g caps α st I f hf m a ha
    have lArgs := MType.lt_Args t
    have hts := ty_szT hsz
    rw [MType.cnt_eq, show m + (1 + MType.cnts t.fArgs) = (m + MType.cnts t.fArgs) + 1 by omega] at ha
    have h1 := hf _ a t ha hsz
    -- the arguments
    have hI : ∀ (ts : List MType), SizeOf.sizeOf ts < n → (∀ x ∈ ts, x.sz ≤ 4194304) → ∀ a, I (m + MType.cnts ts) a → I m ((nodesL ts).foldl f a) := by
      intro ts
      induction ts with
      | nil => intro _ _ a ha; exact ha
      | cons x xs ihx =>
        intro hs hz a ha
        simp only [List.cons.sizeOf_spec] at hs
        rw [nodesL, List.foldl_append]
        rw [MType.cnts, show m + (x.cnt + MType.cnts xs) = (m + MType.cnts xs) + x.cnt by omega] at ha
        exact ihx (by omega) (fun y hy => hz y (by simp [hy])) _ (ih x (by omega) (hz x (by simp)) g caps α st I f hf _ a ha).1
    have hall : ∀ x ∈ t.fArgs, x.sz ≤ 4194304 := fun x hx => by
      obtain ⟨i, hi, e⟩ := List.getElem_of_mem hx
      rw [← e]; exact (arg_szT hi hsz).1
    refine ⟨by rw [nodesT_eq, List.foldl_cons]; exact hI t.fArgs (by omega) hall _ h1.1, ?_⟩
    refine acall_cw (rs := []) Tryz.checked.mixed Tryz.func270 Tryz.ntmps270 rfl rfl rfl rfl rfl ?_
    simp -implicitDefEqProofs (disch := omega) only [go_sem]
    refine call_d rfl (h1.2 [_]) ?_
    simp -implicitDefEqProofs (disch := omega) only [go_sem]
    refine loop_at (ι := Nat × α) Tryz.checked.mixed rfl [1, 10, 11, 12] (fun y => [.c (.fn g (upCaps 1 caps)), .c (.d (.sl (t.fArgs.map MType.enc))), .c (.d (.i .i64 t.fArgs.length)), .c (.d (.i .i64 y.1))]) (fun y => [.box [.d (.i .i64 t.fKind), .d (.s t.fName), .d (.sl (t.fArgs.map MType.enc))]] :: st y.2)
      (fun y => y.1 ≤ t.fArgs.length ∧ I (m + MType.cnts (t.fArgs.drop y.1)) y.2 ∧ (nodesL (t.fArgs.drop y.1)).foldl f y.2 = (nodesT t).foldl f a) (fun y => t.fArgs.length - y.1) (0, f a t) rfl rfl ⟨Nat.zero_le _, h1.1, by rw [nodesT_eq, List.foldl_cons]; rfl⟩ ?_
    rintro ⟨i, b⟩ ⟨p1, p2, p3⟩
    simp only at p1 p2 p3
    simp -implicitDefEqProofs (disch := omega) only [go_sem]
    with_reducible refine split2 (fun hb => ?_) (fun hb => ?_) <;> have h := hb <;> (try simp only [wf_preprocess] at h) <;> simp -implicitDefEqProofs (disch := omega) only [go_sem, hb] <;> (repeat (with_reducible refine And.intro ?_ ?_; focus first | omega | rfl | assumption | exact ⟨_, rfl, rfl⟩ | (simp; omega) | (simp; done)))
    · have hi : i < t.fArgs.length := by omega
      have hs := List.sizeOf_lt_of_mem (List.getElem_mem hi)
      rw [nodesL_drop hi, List.foldl_append] at p3
      rw [List.drop_eq_getElem_cons hi, MType.cnts, show m + (t.fArgs[i].cnt + MType.cnts (t.fArgs.drop (i + 1))) = (m + MType.cnts (t.fArgs.drop (i + 1))) + t.fArgs[i].cnt by omega] at p2
      have h2 := (ih t.fArgs[i] (by omega) (arg_szT hi hsz).1 g caps α st I f hf _ b p2).1
      (repeat (with_reducible refine And.intro ?_ ?_; focus first | omega | rfl | assumption | exact ⟨_, rfl, rfl⟩ | (simp; omega) | (simp; done)))
      refine call_d rfl (((ih t.fArgs[i] (by omega) (arg_szT hi hsz).1 g (upCaps 1 caps) α (fun a => [.box [.d (.i .i64 t.fKind), .d (.s t.fName), .d (.sl (t.fArgs.map MType.enc))], .box [.d (.i .i64 t.fArgs[i].fKind), .d (.s t.fArgs[i].fName), .d (.sl (t.fArgs[i].fArgs.map MType.enc))]] :: st a) I f (hf.push _) _ b p2)).2) ?_
      simp -implicitDefEqProofs (disch := omega) only [go_sem]
      exact inv_drop 1 (by decide) (i + 1, (nodesT t.fArgs[i]).foldl f b) (by simp only; omega) rfl rfl (by simp only [zipTm, tmRefs, List.all_cons, List.all_nil, V.refs, C.refs, refs_upCaps1, Bool.and_true]) rfl ⟨by simp only; omega, h2, p3⟩
    · have hi : i = t.fArgs.length := by omega
      rw [hi, List.drop_length, nodesL, List.foldl_nil] at p3
      rw [p3]
theorem eachType_ok {t : MType} (hsz : t.sz ≤ 4194304) {g : Nat} {caps : List (Key × Nat)} {α : Type} {st : α → Store} {I : Nat → α → Prop} {f : α → MType → α} (hf : FStep Tryz.prog g caps st I f MType.v (fun u => u.sz ≤ 4194304)) (m : Nat) (a : α) (ha : I (m + t.cnt) a) :
    I m ((nodesT t).foldl f a) ∧ ACall Tryz.prog 270 [t.v, .c (.fn g caps)] (st a) (fun r S' => r = .tup [] ∧ S' = st ((nodesT t).foldl f a)) := eachType_all _ t (Nat.lt_succ_self _) hsz g caps α st I f hf m a ha
theorem variablesOf1_step (rest : List Ab.Obj) (S : Store) : FStep Tryz.prog 316 [((0, 0), 0)] (fun out : List (List UInt8) => (.box [.tsl (0, 1) (out.map encS)] :: .tok 1 (out.map encS) :: rest) :: S) (fun n out => out.length + n ≤ 1073741824) addV MType.v (fun u => u.sz ≤ 4194304) := by
  intro n out u hI hu
  refine ⟨by have := addV_len out u; omega, fun F => ?_⟩
  have hts := ty_szT hu
  refine acall_cw (rs := []) Tryz.checked.mixed Tryz.func316 Tryz.ntmps316 rfl rfl rfl rfl rfl ?_
  simp -implicitDefEqProofs (disch := omega) only [go_sem]
  with_reducible refine split2 (fun hb => ?_) (fun hb => ?_) <;> have h := hb <;> (try simp only [wf_preprocess] at h) <;> simp -implicitDefEqProofs (disch := omega) only [go_sem, hb] <;> (repeat (with_reducible refine And.intro ?_ ?_; focus first | omega | rfl | assumption | exact ⟨_, rfl, rfl⟩ | (simp; omega) | (simp; done)))
  · have h1 := h
    refine call_w (containsS_ok out u.fName (by omega)) ?_
    simp -implicitDefEqProofs (disch := omega) only [go_sem] <;> (repeat (with_reducible refine And.intro ?_ ?_; focus first | omega | rfl | assumption | exact ⟨_, rfl, rfl⟩ | (simp; omega) | (simp; done)))
    with_reducible refine split2 (fun hb => ?_) (fun hb => ?_) <;> have h := hb <;> (try simp only [wf_preprocess] at h) <;> simp -implicitDefEqProofs (disch := omega) only [go_sem, hb] <;> (repeat (with_reducible refine And.intro ?_ ?_; focus first | omega | rfl | assumption | exact ⟨_, rfl, rfl⟩ | (simp; omega) | (simp; done)))
    · (repeat (with_reducible refine And.intro ?_ ?_; focus first | omega | rfl | assumption | exact ⟨_, rfl, rfl⟩ | (simp; omega) | (simp; done)))
      have ha : addV out u = out ++ [u.fName] := if_pos ⟨h1, h⟩
      rw [ha]; simp [encS]
    · have ha : addV out u = out := if_neg fun x => x.2 h
      rw [ha]
  · have ha : addV out u = out := if_neg fun x => h x.1
    rw [ha]
theorem variablesOf_ok (ts : List MType) (hl : ts.length ≤ 4194304) (hz : ∀ t ∈ ts, t.sz ≤ 4194304) (hc : MType.cnts ts ≤ 1073741823) : PCall Tryz.prog 274 [.c (.d (.sl (ts.map MType.enc)))] (.c (.d (.sl ((tvarsL [] ts).map encS)))) := fun S => by
  refine acall_cw (rs := [.tmp 2]) Tryz.checked.mixed Tryz.func274 Tryz.ntmps274 rfl rfl rfl rfl rfl ?_
  simp -implicitDefEqProofs (disch := omega) only [go_sem]
  (repeat (with_reducible refine And.intro ?_ ?_; focus first | omega | rfl | assumption | exact ⟨_, rfl, rfl⟩ | (simp; omega) | (simp; done)))
  refine aw_tokbox 0 0 1 [] [.fsl []] rfl rfl (by simp) ?_
  refine loop_at (ι := Nat × List (List UInt8)) Tryz.checked.mixed rfl [3, 7, 8, 9] (fun y => [.c (.ptr (0, 0) 0), .c (.d (.sl (ts.map MType.enc))), .c (.d (.i .i64 ts.length)), .c (.d (.i .i64 y.1))]) (fun y => [.box [.tsl (0, 1) (y.2.map encS)], .tok 1 (y.2.map encS)] :: S)
    (fun y => y.1 ≤ ts.length ∧ y.2.length + MType.cnts (ts.drop y.1) ≤ 1073741824 ∧ tvarsL y.2 (ts.drop y.1) = tvarsL [] ts) (fun y => ts.length - y.1) (0, []) rfl rfl ⟨Nat.zero_le _, by simp only [List.drop_zero, List.length_nil]; omega, rfl⟩ ?_
  rintro ⟨i, out⟩ ⟨p1, p2, p3⟩
  simp only at p1 p2 p3
  simp -implicitDefEqProofs (disch := omega) only [go_sem]
  with_reducible refine split2 (fun hb => ?_) (fun hb => ?_) <;> have h := hb <;> (try simp only [wf_preprocess] at h) <;> simp -implicitDefEqProofs (disch := omega) only [go_sem, hb] <;> (repeat (with_reducible refine And.intro ?_ ?_; focus first | omega | rfl | assumption | exact ⟨_, rfl, rfl⟩ | (simp; omega) | (simp; done)))
  · have hi : i < ts.length := by omega
    rw [tvarsL_drop hi] at p3
    rw [List.drop_eq_getElem_cons hi, MType.cnts] at p2
    have hlen := tvars_len ts[i] out
    (repeat (with_reducible refine And.intro ?_ ?_; focus first | omega | rfl | assumption | exact ⟨_, rfl, rfl⟩ | (simp; omega) | (simp; done)))
    refine call_d rfl (eachType_ok (hz _ (List.getElem_mem hi)) (variablesOf1_step [Ab.Obj.box [.d (.i .i64 ts[i].fKind), .d (.s ts[i].fName), .d (.sl (ts[i].fArgs.map MType.enc))]] S) (MType.cnts (ts.drop (i + 1))) out (by omega)).2 ?_
    simp -implicitDefEqProofs (disch := omega) only [go_sem]
    exact inv_drop 2 (by decide) (i + 1, tvars out ts[i]) (by simp only; omega) rfl rfl rfl rfl ⟨by simp only; omega, by simp only; omega, p3⟩
  · have hi : i = ts.length := by omega
    rw [hi, List.drop_length] at p3
    rw [← p3]; rfl
theorem implTypeVars_ok (t : MType) (hsz : t.sz ≤ 4194304) : PCall Tryz.prog 201 [t.v] (.c (.d (.sl ((tvars [] t).map encS)))) := fun S => by
  have hc := cnt_le t
  have h0 := variablesOf_ok [t] (by simp) (by simpa using hsz) (by simp [MType.cnts]; omega)
  simp only [List.map_cons, List.map_nil, MType.enc_eq] at h0
  refine acall_cw (rs := [.tmp 2]) Tryz.checked.mixed Tryz.func201 Tryz.ntmps201 rfl rfl rfl rfl rfl ?_
  simp -implicitDefEqProofs (disch := omega) only [go_sem]
  (repeat (with_reducible refine And.intro ?_ ?_; focus first | omega | rfl | assumption | exact ⟨_, rfl, rfl⟩ | (simp; omega) | (simp; done)))
  refine call_w h0 ?_
  simp -implicitDefEqProofs (disch := omega) only [go_sem]
  rw [show tvarsL [] [t] = tvars [] t by simp [tvarsL, tvars, nodesL]]
theorem l4Vars_all : ∀ n : Nat, ∀ t : MType, SizeOf.sizeOf t < n → t.sz ≤ 4194304 → ∀ (out : List (List UInt8)) (l j : Nat) (S : Store), getO S (l, j) = some (.tok 1 (out.map encS)) → out.length + t.cnt ≤ 1073741824 →
    ACall Tryz.prog 305 [t.v, .c (.tsl (l, j) (out.map encS))] S (fun r S' => r = .c (.tsl (l, j) ((tvars out t).map encS)) ∧ S' = setO S (l, j) (.tok 1 ((tvars out t).map encS)))
  | 0 => fun t h => by omega
  | n + 1 => by
    have ih := l4Vars_all n
    intro t hn hsz out l j S hk hc
    have lArgs := MType.lt_Args t
    have hts := ty_szT hsz
    have hcn := MType.cnt_eq t
    -- the loop, from whatever list
    have hkS : ∀ x : Ab.Obj, getO (setO S (l, j) x) (l, j) = some x := fun x => getO_setO_eq _ _ _ _ hk
    have hS0 : setO S (l, j) (.tok 1 (out.map encS)) = S := setO_self _ _ hk
    have fin : tvars out t = tvarsL (addV out t) t.fArgs := tvars_eq out t
    have hal := addV_len out t
    have e0 : (out ++ [t.fName]).map encS = out.map encS ++ [[D.s t.fName]] := by simp [encS]
    refine acall_cw (rs := [.tmp 4]) Tryz.checked.mixed Tryz.func305 Tryz.ntmps305 rfl rfl rfl rfl rfl ?_
    simp -implicitDefEqProofs (disch := omega) only [go_sem, hk]
    repeat' (first
      | (with_reducible refine split2 (fun hb => ?_) (fun hb => ?_) <;> have h := hb <;> (try simp only [wf_preprocess] at h) <;> simp -implicitDefEqProofs (disch := omega) only [go_sem, hb, hk] <;> (repeat (with_reducible refine And.intro ?_ ?_; focus first | omega | rfl | assumption | exact ⟨_, rfl, rfl⟩ | (simp; omega) | (simp; done))))
      | (refine call_w (l1Has_ok out t.fName (by omega)) ?_; simp -implicitDefEqProofs (disch := omega) only [go_sem, hk]; (repeat (with_reducible refine And.intro ?_ ?_; focus first | omega | rfl | assumption | exact ⟨_, rfl, rfl⟩ | (simp; omega) | (simp; done)))))
    all_goals first
      | (have ha : addV out t = out ++ [t.fName] := if_pos ⟨by assumption, by assumption⟩)
      | (have ha : addV out t = out := if_neg (fun x => by have := x.1; have := x.2; contradiction))
    all_goals
      refine loop_at (ι := Nat × List (List UInt8)) Tryz.checked.mixed rfl [1, 2, 5] (fun y => [.c (.tsl (1 + l, j) (y.2.map encS)), .c (.ptr (0, 0) 0), .c (.d (.i .i64 y.1))]) (fun y => [.box [.d (.i .i64 t.fKind), .d (.s t.fName), .d (.sl (t.fArgs.map MType.enc))]] :: setO S (l, j) (.tok 1 (y.2.map encS)))
        (fun y => y.1 ≤ t.fArgs.length ∧ y.2.length + MType.cnts (t.fArgs.drop y.1) ≤ 1073741824 ∧ tvarsL y.2 (t.fArgs.drop y.1) = tvars out t) (fun y => t.fArgs.length - y.1) (0, addV out t) (by first | (rw [ha, e0]; rfl) | (rw [ha]; rfl)) (by first | (simp only [ha, e0]; done) | (simp only [ha, hS0]; done)) ⟨Nat.zero_le _, by simp only [List.drop_zero]; omega, by rw [fin]; rfl⟩ ?_
      rintro ⟨i, b⟩ ⟨p1, p2, p3⟩
      simp only at p1 p2 p3
      simp -implicitDefEqProofs (disch := omega) only [go_sem]
      with_reducible refine split2 (fun hb => ?_) (fun hb => ?_) <;> have h := hb <;> (try simp only [wf_preprocess] at h) <;> simp -implicitDefEqProofs (disch := omega) only [go_sem, hb] <;> (repeat (with_reducible refine And.intro ?_ ?_; focus first | omega | rfl | assumption | exact ⟨_, rfl, rfl⟩ | (simp; omega) | (simp; done)))
      · have hi : i < t.fArgs.length := by omega
        have hs := List.sizeOf_lt_of_mem (List.getElem_mem hi)
        rw [tvarsL_drop hi] at p3
        rw [List.drop_eq_getElem_cons hi, MType.cnts] at p2
        have hlen := tvars_len t.fArgs[i] b
        (repeat (with_reducible refine And.intro ?_ ?_; focus first | omega | rfl | assumption | exact ⟨_, rfl, rfl⟩ | (simp; omega) | (simp; done)))
        refine call_d rfl (ih t.fArgs[i] (by omega) (arg_szT hi hsz).1 b (1 + l) j _ (by rw [getO_up1]; exact hkS _) (by omega)) ?_
        simp -implicitDefEqProofs (disch := omega) only [go_sem, setO_twice]
        exact inv_at (i + 1, tvars b t.fArgs[i]) (by simp only; omega) rfl rfl ⟨by simp only; omega, by simp only; omega, p3⟩
      · have hi : i = t.fArgs.length := by omega
        rw [hi, List.drop_length] at p3
        rw [← p3]
        exact ⟨rfl, rfl⟩
theorem specTypeVars_ok (t : MType) (hsz : t.sz ≤ 4194304) : PCall Tryz.prog 250 [t.v] (.c (.d (.sl ((tvars [] t).map encS)))) := fun S => by
  have hc := cnt_le t
  have h0 : ∀ S, ACall Tryz.prog 305 [t.v, .c (.fsl [])] S (fun r S' => r = .c (.d (.sl ((tvars [] t).map encS))) ∧ S' = S) := fun S => by
    refine ACall.tok0 1 (es := []) (esz := 1) rfl (by simp) (l4Vars_all _ t (Nat.lt_succ_self _) hsz [] 0 0 ([.tok 1 []] :: S) rfl (by simp; omega)) ?_
    rintro r fr S' ⟨rfl, h2⟩
    injection h2 with h2 h3
    exact ⟨_, rfl, rfl, h3⟩
  refine acall_cw (rs := [.tmp 2]) Tryz.checked.mixed Tryz.func250 Tryz.ntmps250 rfl rfl rfl rfl rfl ?_
  simp -implicitDefEqProofs (disch := omega) only [go_sem]
  (repeat (with_reducible refine And.intro ?_ ?_; focus first | omega | rfl | assumption | exact ⟨_, rfl, rfl⟩ | (simp; omega) | (simp; done)))
  refine call_m [true, true] rfl (h0 _) ?_
  simp -implicitDefEqProofs (disch := omega) only [go_sem]
theorem specHasProj_all : ∀ n : Nat, ∀ t : MType, SizeOf.sizeOf t < n → t.sz ≤ 4194304 → PCall Tryz.prog 195 [t.v] (.c (.d (.b (hasProj t))))
  | 0 => fun t h => by omega
  | n + 1 => by
    have ih := specHasProj_all n
    intro t hn hsz S
    have lArgs := MType.lt_Args t
    have hts := ty_szT hsz
    refine acall_cw (rs := [.tmp 2]) Tryz.checked.mixed Tryz.func195 Tryz.ntmps195 rfl rfl rfl rfl rfl ?_
    simp -implicitDefEqProofs (disch := omega) only [go_sem]
    refine loop_at (ι := Nat) Tryz.checked.mixed rfl [1, 3] (fun i => [.c (.ptr (0, 0) 0), .c (.d (.i .i64 i))]) (fun _ => [.box [.d (.i .i64 t.fKind), .d (.s t.fName), .d (.sl (t.fArgs.map MType.enc))]] :: S)
      (fun i => i ≤ t.fArgs.length ∧ hasProjL (t.fArgs.drop i) = hasProjL t.fArgs) (fun i => t.fArgs.length - i) 0 rfl rfl ⟨Nat.zero_le _, rfl⟩ ?_
    rintro i ⟨p1, p2⟩
    simp -implicitDefEqProofs (disch := omega) only [go_sem]
    with_reducible refine split2 (fun hb => ?_) (fun hb => ?_) <;> have h := hb <;> (try simp only [wf_preprocess] at h) <;> simp -implicitDefEqProofs (disch := omega) only [go_sem, hb] <;> (repeat (with_reducible refine And.intro ?_ ?_; focus first | omega | rfl | assumption | exact ⟨_, rfl, rfl⟩ | (simp; omega) | (simp; done)))
    · have hi : i < t.fArgs.length := by omega
      rw [hasProjL_drop hi] at p2
      (repeat (with_reducible refine And.intro ?_ ?_; focus first | omega | rfl | assumption | exact ⟨_, rfl, rfl⟩ | (simp; omega) | (simp; done)))
      refine call_w (ih t.fArgs[i] (by have := List.sizeOf_lt_of_mem (List.getElem_mem hi); omega) (arg_szT hi hsz).1) ?_
      simp -implicitDefEqProofs (disch := omega) only [go_sem] <;> (repeat (with_reducible refine And.intro ?_ ?_; focus first | omega | rfl | assumption | exact ⟨_, rfl, rfl⟩ | (simp; omega) | (simp; done)))
      with_reducible refine split2 (fun hb => ?_) (fun hb => ?_) <;> have h := hb <;> (try simp only [wf_preprocess] at h) <;> simp -implicitDefEqProofs (disch := omega) only [go_sem, hb] <;> (repeat (with_reducible refine And.intro ?_ ?_; focus first | omega | rfl | assumption | exact ⟨_, rfl, rfl⟩ | (simp; omega) | (simp; done)))
      · rw [hasProj_eq, ← p2, h]; simp
      · exact inv_at (i + 1) (by omega) rfl rfl ⟨by omega, by rw [← p2, h]; rfl⟩
    · have hi : i = t.fArgs.length := by omega
      rw [hi, List.drop_length] at p2
      rw [hasProj_eq, ← p2]
      exact bool_eq (by simp [hasProjL, nodesL])
theorem specHasProj_ok (t : MType) (hsz : t.sz ≤ 4194304) : PCall Tryz.prog 195 [t.v] (.c (.d (.b (hasProj t)))) := specHasProj_all _ t (Nat.lt_succ_self _) hsz
theorem hasProj1_step (rest : List Ab.Obj) (cs : List C) (S : Store) : FStep Tryz.prog 271 [((0, 1), 0)] (fun b : Bool => (.box cs :: .box [.d (.b b)] :: rest) :: S) (fun _ _ => True) (fun b u => b || decide (u.fKind = 3)) MType.v (fun u => u.sz ≤ 4194304) := by
  intro n b u _ hu
  refine ⟨trivial, fun F => ?_⟩
  refine acall_cw (rs := []) Tryz.checked.mixed Tryz.func271 Tryz.ntmps271 rfl rfl rfl rfl rfl ?_
  simp -implicitDefEqProofs (disch := omega) only [go_sem]
  cases b with
  | true =>
    simp -implicitDefEqProofs (disch := omega) only [go_sem]
    rfl
  | false =>
    simp -implicitDefEqProofs (disch := omega) only [go_sem]
    rfl
theorem implHasProj_ok (t : MType) (hsz : t.sz ≤ 4194304) : PCall Tryz.prog 199 [t.v] (.c (.d (.b (hasProj t)))) := fun S => by
  refine acall_cw (rs := [.tmp 2]) Tryz.checked.mixed Tryz.func199 Tryz.ntmps199 rfl rfl rfl rfl rfl ?_
  simp -implicitDefEqProofs (disch := omega) only [go_sem]
  (repeat (with_reducible refine And.intro ?_ ?_; focus first | omega | rfl | assumption | exact ⟨_, rfl, rfl⟩ | (simp; omega) | (simp; done)))
  refine call_d rfl (eachType_ok hsz (hasProj1_step [] [.d (.i .i64 t.fKind), .d (.s t.fName), .d (.sl (t.fArgs.map MType.enc))] S) 0 false trivial).2 ?_
  simp -implicitDefEqProofs (disch := omega) only [go_sem]
  rw [hasProj_fold]
  rfl
end Go.Proofs.YtokcpelkieeddaaGreatDoor

namespace Go.Proofs.YtokcpelkieeddaaGreatDoor
open Go Go.Ab
theorem arg_sz {x : MType} {i : Nat} (hi : i < x.fArgs.length) (h : x.sz ≤ 4194304) : x.fArgs[i].sz ≤ 4194304 ∧ x.fArgs.length ≤ 4194304 ∧ x.fName.length ≤ 4194304 := by
  have hx : x.fArgs[i].sz ≤ szRows (x.fArgs.map MType.enc) := szRows_mem (List.mem_map_of_mem (List.getElem_mem hi))
  simp only [MType.sz, MType.enc_eq, szRow, D.sz, List.length_map] at h
  omega
theorem ty_sz {x : MType} (h : x.sz ≤ 4194304) : x.fArgs.length ≤ 4194304 ∧ x.fName.length ≤ 4194304 := by
  simp only [MType.sz, MType.enc_eq, szRow, D.sz, List.length_map] at h
  omega
theorem cnts_drop : ∀ {ts : List MType} {i : Nat} (hi : i < ts.length), MType.cnts (ts.drop i) = ts[i].cnt + MType.cnts (ts.drop (i + 1)) := fun {ts} {i} hi => by
  rw [List.drop_eq_getElem_cons hi, MType.cnts]
theorem depths_drop : ∀ {ts : List MType} {i : Nat} (hi : i < ts.length), depths (ts.drop i) = max (depthT ts[i] + 1) (depths (ts.drop (i + 1))) := fun {ts} {i} hi => by
  rw [List.drop_eq_getElem_cons hi, depths]
theorem formeds_drop : ∀ {ts : List MType} {i : Nat} (hi : i < ts.length), formeds (ts.drop i) = (formed ts[i] && formeds (ts.drop (i + 1))) := fun {ts} {i} hi => by
  rw [List.drop_eq_getElem_cons hi, formeds]
theorem l4Left_all : ∀ n : Nat, ∀ x : MType, SizeOf.sizeOf x < n → ∀ l : Int, 0 ≤ l → l ≤ 1073741824 → x.sz ≤ 4194304 → PCall Tryz.prog 296 [x.v, .c (.d (.i .i64 l))] (.c (.d (.i .i64 (sub1 l x.cnt))))
  | 0 => fun x h => by omega
  | n + 1 => by
    have ih := l4Left_all n
    intro x hn l h0 h1 hsz S
    have lArgs := MType.lt_Args x
    have hts := ty_sz hsz
    have hcn := MType.cnt_eq x
    refine acall_cw (rs := [.tmp 4]) Tryz.checked.mixed Tryz.func296 Tryz.ntmps296 rfl rfl rfl rfl rfl ?_
    simp -implicitDefEqProofs (disch := omega) only [go_sem]
    refine loop_at (ι := Nat × Int) Tryz.checked.mixed rfl [1, 2, 5] (fun y => [.c (.d (.i .i64 y.2)), .c (.ptr (0, 0) 0), .c (.d (.i .i64 y.1))]) (fun y => [.box [.d (.i .i64 x.fKind), .d (.s x.fName), .d (.sl (x.fArgs.map MType.enc))]] :: S)
      (fun y => y.1 ≤ x.fArgs.length ∧ -1 ≤ y.2 ∧ y.2 ≤ 1073741824 ∧ (0 ≤ y.2 → sub1 l x.cnt = sub1 y.2 (MType.cnts (x.fArgs.drop y.1))) ∧ (y.2 < 0 → sub1 l x.cnt = -1)) (fun y => x.fArgs.length - y.1) (0, l - 1) rfl rfl ⟨Nat.zero_le _, by simp only; omega, by simp only; omega, fun h => ?_, fun h => ?_⟩ ?_
    · simp only [List.drop_zero] at h ⊢
      unfold sub1
      rw [hcn]
      split <;> split <;> omega
    · simp only at h
      exact sub1_no (by omega)
    rintro ⟨i, c⟩ ⟨p1, p2, p3, p4, p5⟩
    simp only at p1 p2 p3 p4 p5
    simp -implicitDefEqProofs (disch := omega) only [go_sem]
    with_reducible refine split2 (fun hb => ?_) (fun hb => ?_) <;> have h := hb <;> (try simp only [wf_preprocess] at h) <;> simp -implicitDefEqProofs (disch := omega) only [go_sem, hb] <;> (repeat (with_reducible refine And.intro ?_ ?_; focus first | omega | rfl | assumption | exact ⟨_, rfl, rfl⟩ | (simp; omega) | (simp; done)))
    · have hi : i < x.fArgs.length := by omega
      with_reducible refine split2 (fun hb => ?_) (fun hb => ?_) <;> have h := hb <;> (try simp only [wf_preprocess] at h) <;> simp -implicitDefEqProofs (disch := omega) only [go_sem, hb] <;> (repeat (with_reducible refine And.intro ?_ ?_; focus first | omega | rfl | assumption | exact ⟨_, rfl, rfl⟩ | (simp; omega) | (simp; done)))
      · have hsz' := arg_sz hi hsz
        have p6 := p4 h
        rw [cnts_drop hi] at p6
        (repeat (with_reducible refine And.intro ?_ ?_; focus first | omega | rfl | assumption | exact ⟨_, rfl, rfl⟩ | (simp; omega) | (simp; done)))
        refine call_w (ih x.fArgs[i] (by have := List.sizeOf_lt_of_mem (List.getElem_mem hi); omega) c (by omega) (by omega) (by omega)) ?_
        simp -implicitDefEqProofs (disch := omega) only [go_sem] <;> (repeat (with_reducible refine And.intro ?_ ?_; focus first | omega | rfl | assumption | exact ⟨_, rfl, rfl⟩ | (simp; omega) | (simp; done)))
        refine inv_at (i + 1, sub1 c _) (by simp only; omega) rfl rfl ⟨by simp only; omega, ?_, ?_, fun h => ?_, fun h => ?_⟩
        · simp only; unfold sub1; split <;> omega
        · simp only; unfold sub1; split <;> omega
        · simp only at h ⊢
          rw [p6]
          have := sub1_nn (l := c) (a := x.fArgs[i].cnt) (by omega)
          rw [this.1]
          unfold sub1
          split <;> split <;> omega
        · simp only at h ⊢
          rw [p6]
          have := sub1_neg h
          exact sub1_no (by omega)
      · have hc : c = -1 := by omega
        rw [p5 (by omega), hc]
    · have hi : i = x.fArgs.length := by omega
      by_cases hc : 0 ≤ c
      · rw [p4 hc, hi, List.drop_length, MType.cnts, sub1_yes (by omega)]
        exact int_eq (by simp)
      · rw [p5 (by omega)]
        exact int_eq (by omega)
theorem l4Left_ok (x : MType) (l : Int) (h0 : 0 ≤ l) (h1 : l ≤ 1073741824) (hsz : x.sz ≤ 4194304) : PCall Tryz.prog 296 [x.v, .c (.d (.i .i64 l))] (.c (.d (.i .i64 (sub1 l x.cnt)))) := l4Left_all _ x (Nat.lt_succ_self _) l h0 h1 hsz
theorem l1Max_ok (a b : Int) : PCall Tryz.prog 242 [.c (.d (.i .i64 a)), .c (.d (.i .i64 b))] (.c (.d (.i .i64 (max a b)))) := fun S => by
  refine acall_cw (rs := [.tmp 4]) Tryz.checked.mixed Tryz.func242 Tryz.ntmps242 rfl rfl rfl rfl rfl ?_
  simp -implicitDefEqProofs (disch := omega) only [go_sem]
  with_reducible refine split2 (fun hb => ?_) (fun hb => ?_) <;> have h := hb <;> (try simp only [wf_preprocess] at h) <;> simp -implicitDefEqProofs (disch := omega) only [go_sem, hb] <;> (repeat (with_reducible refine And.intro ?_ ?_; focus first | omega | rfl | assumption | exact ⟨_, rfl, rfl⟩ | (simp; omega) | (simp; done)))
  · exact int_eq (by omega)
  · exact int_eq (by omega)
theorem specDepth_all : ∀ n : Nat, ∀ x : MType, SizeOf.sizeOf x < n → x.sz ≤ 4194304 → PCall Tryz.prog 297 [x.v] (.c (.d (.i .i64 (depthT x))))
  | 0 => fun x h => by omega
  | n + 1 => by
    have ih := specDepth_all n
    intro x hn hsz S
    have lArgs := MType.lt_Args x
    have hts := ty_sz hsz
    have hd1 := depthT_le x
    have hd2 := cnt_le x
    refine acall_cw (rs := [.tmp 2]) Tryz.checked.mixed Tryz.func297 Tryz.ntmps297 rfl rfl rfl rfl rfl ?_
    simp -implicitDefEqProofs (disch := omega) only [go_sem]
    refine loop_at (ι := Nat × Nat) Tryz.checked.mixed rfl [1, 3, 4] (fun y => [.c (.ptr (0, 0) 0), .c (.d (.i .i64 y.2)), .c (.d (.i .i64 y.1))]) (fun y => [.box [.d (.i .i64 x.fKind), .d (.s x.fName), .d (.sl (x.fArgs.map MType.enc))]] :: S)
      (fun y => y.1 ≤ x.fArgs.length ∧ depthT x = max y.2 (depths (x.fArgs.drop y.1))) (fun y => x.fArgs.length - y.1) (0, 0) rfl rfl ⟨Nat.zero_le _, by simp [depthT_eq]⟩ ?_
    rintro ⟨i, c⟩ ⟨p1, p2⟩
    simp only at p1 p2
    simp -implicitDefEqProofs (disch := omega) only [go_sem]
    with_reducible refine split2 (fun hb => ?_) (fun hb => ?_) <;> have h := hb <;> (try simp only [wf_preprocess] at h) <;> simp -implicitDefEqProofs (disch := omega) only [go_sem, hb] <;> (repeat (with_reducible refine And.intro ?_ ?_; focus first | omega | rfl | assumption | exact ⟨_, rfl, rfl⟩ | (simp; omega) | (simp; done)))
    · have hi : i < x.fArgs.length := by omega
      have hsz' := arg_sz hi hsz
      rw [depths_drop hi] at p2
      have hd3 := depthT_le x.fArgs[i]
      have hd4 := cnt_le x.fArgs[i]
      (repeat (with_reducible refine And.intro ?_ ?_; focus first | omega | rfl | assumption | exact ⟨_, rfl, rfl⟩ | (simp; omega) | (simp; done)))
      refine call_w (ih x.fArgs[i] (by have := List.sizeOf_lt_of_mem (List.getElem_mem hi); omega) (by omega)) ?_
      simp -implicitDefEqProofs (disch := omega) only [go_sem] <;> (repeat (with_reducible refine And.intro ?_ ?_; focus first | omega | rfl | assumption | exact ⟨_, rfl, rfl⟩ | (simp; omega) | (simp; done)))
      refine call_w (l1Max_ok _ _) ?_
      simp -implicitDefEqProofs (disch := omega) only [go_sem] <;> (repeat (with_reducible refine And.intro ?_ ?_; focus first | omega | rfl | assumption | exact ⟨_, rfl, rfl⟩ | (simp; omega) | (simp; done)))
      rw [show max (c : Int) (1 + (depthT x.fArgs[i] : Int)) = ((max c (1 + depthT x.fArgs[i]) : Nat) : Int) by omega]
      exact inv_at (i + 1, max c (1 + depthT x.fArgs[i])) (by simp only; omega) rfl rfl ⟨by simp only; omega, by simp only; omega⟩
    · have hi : i = x.fArgs.length := by omega
      rw [hi, List.drop_length, depths] at p2
      exact int_eq (by omega)
theorem specDepth_ok (x : MType) (hsz : x.sz ≤ 4194304) : PCall Tryz.prog 297 [x.v] (.c (.d (.i .i64 (depthT x)))) := specDepth_all _ x (Nat.lt_succ_self _) hsz
theorem implDepth_all : ∀ n : Nat, ∀ x : MType, SizeOf.sizeOf x < n → x.sz ≤ 4194304 → PCall Tryz.prog 311 [x.v] (.c (.d (.i .i64 (depthT x))))
  | 0 => fun x h => by omega
  | n + 1 => by
    have ih := implDepth_all n
    intro x hn hsz S
    have lArgs := MType.lt_Args x
    have hts := ty_sz hsz
    have hd1 := depthT_le x
    have hd2 := cnt_le x
    refine acall_cw (rs := [.tmp 2]) Tryz.checked.mixed Tryz.func311 Tryz.ntmps311 rfl rfl rfl rfl rfl ?_
    simp -implicitDefEqProofs (disch := omega) only [go_sem]
    refine loop_at (ι := Nat × Nat) Tryz.checked.mixed rfl [3, 7, 8, 9] (fun y => [.c (.d (.i .i64 y.2)), .c (.d (.sl (x.fArgs.map MType.enc))), .c (.d (.i .i64 x.fArgs.length)), .c (.d (.i .i64 y.1))]) (fun y => [.box [.d (.i .i64 x.fKind), .d (.s x.fName), .d (.sl (x.fArgs.map MType.enc))]] :: S)
      (fun y => y.1 ≤ x.fArgs.length ∧ depthT x = max y.2 (depths (x.fArgs.drop y.1))) (fun y => x.fArgs.length - y.1) (0, 0) rfl rfl ⟨Nat.zero_le _, by simp [depthT_eq]⟩ ?_
    rintro ⟨i, c⟩ ⟨p1, p2⟩
    simp only at p1 p2
    simp -implicitDefEqProofs (disch := omega) only [go_sem]
    with_reducible refine split2 (fun hb => ?_) (fun hb => ?_) <;> have h := hb <;> (try simp only [wf_preprocess] at h) <;> simp -implicitDefEqProofs (disch := omega) only [go_sem, hb] <;> (repeat (with_reducible refine And.intro ?_ ?_; focus first | omega | rfl | assumption | exact ⟨_, rfl, rfl⟩ | (simp; omega) | (simp; done)))
    · have hi : i < x.fArgs.length := by omega
      have hsz' := arg_sz hi hsz
      rw [depths_drop hi] at p2
      have hd3 := depthT_le x.fArgs[i]
      have hd4 := cnt_le x.fArgs[i]
      (repeat (with_reducible refine And.intro ?_ ?_; focus first | omega | rfl | assumption | exact ⟨_, rfl, rfl⟩ | (simp; omega) | (simp; done)))
      refine call_w (ih x.fArgs[i] (by have := List.sizeOf_lt_of_mem (List.getElem_mem hi); omega) (by omega)) ?_
      simp -implicitDefEqProofs (disch := omega) only [go_sem] <;> (repeat (with_reducible refine And.intro ?_ ?_; focus first | omega | rfl | assumption | exact ⟨_, rfl, rfl⟩ | (simp; omega) | (simp; done)))
      rw [show max (c : Int) ((depthT x.fArgs[i] : Int) + 1) = ((max c (depthT x.fArgs[i] + 1) : Nat) : Int) by omega]
      exact inv_drop 1 (by decide) (i + 1, max c (depthT x.fArgs[i] + 1)) (by simp only; omega) rfl rfl rfl rfl ⟨by simp only; omega, by simp only; omega⟩
    · have hi : i = x.fArgs.length := by omega
      rw [hi, List.drop_length, depths] at p2
      exact int_eq (by omega)
theorem implDepth_ok (x : MType) (hsz : x.sz ≤ 4194304) : PCall Tryz.prog 311 [x.v] (.c (.d (.i .i64 (depthT x)))) := implDepth_all _ x (Nat.lt_succ_self _) hsz
theorem typeSize_all : ∀ n : Nat, ∀ x : MType, SizeOf.sizeOf x < n → x.sz ≤ 4194304 → PCall Tryz.prog 312 [x.v] (.c (.d (.i .i64 x.cnt)))
  | 0 => fun x h => by omega
  | n + 1 => by
    have ih := typeSize_all n
    intro x hn hsz S
    have lArgs := MType.lt_Args x
    have hts := ty_sz hsz
    have hd2 := cnt_le x
    refine acall_cw (rs := [.tmp 2]) Tryz.checked.mixed Tryz.func312 Tryz.ntmps312 rfl rfl rfl rfl rfl ?_
    simp -implicitDefEqProofs (disch := omega) only [go_sem]
    refine loop_at (ι := Nat × Nat) Tryz.checked.mixed rfl [3, 7, 8, 9] (fun y => [.c (.d (.i .i64 y.2)), .c (.d (.sl (x.fArgs.map MType.enc))), .c (.d (.i .i64 x.fArgs.length)), .c (.d (.i .i64 y.1))]) (fun y => [.box [.d (.i .i64 x.fKind), .d (.s x.fName), .d (.sl (x.fArgs.map MType.enc))]] :: S)
      (fun y => y.1 ≤ x.fArgs.length ∧ x.cnt = y.2 + MType.cnts (x.fArgs.drop y.1)) (fun y => x.fArgs.length - y.1) (0, 1) rfl rfl ⟨Nat.zero_le _, by simp [MType.cnt_eq]⟩ ?_
    rintro ⟨i, c⟩ ⟨p1, p2⟩
    simp only at p1 p2
    simp -implicitDefEqProofs (disch := omega) only [go_sem]
    with_reducible refine split2 (fun hb => ?_) (fun hb => ?_) <;> have h := hb <;> (try simp only [wf_preprocess] at h) <;> simp -implicitDefEqProofs (disch := omega) only [go_sem, hb] <;> (repeat (with_reducible refine And.intro ?_ ?_; focus first | omega | rfl | assumption | exact ⟨_, rfl, rfl⟩ | (simp; omega) | (simp; done)))
    · have hi : i < x.fArgs.length := by omega
      have hsz' := arg_sz hi hsz
      rw [cnts_drop hi] at p2
      (repeat (with_reducible refine And.intro ?_ ?_; focus first | omega | rfl | assumption | exact ⟨_, rfl, rfl⟩ | (simp; omega) | (simp; done)))
      refine call_w (ih x.fArgs[i] (by have := List.sizeOf_lt_of_mem (List.getElem_mem hi); omega) (by omega)) ?_
      simp -implicitDefEqProofs (disch := omega) only [go_sem] <;> (repeat (with_reducible refine And.intro ?_ ?_; focus first | omega | rfl | assumption | exact ⟨_, rfl, rfl⟩ | (simp; omega) | (simp; done)))
      rw [show (c : Int) + (x.fArgs[i].cnt : Int) = ((c + x.fArgs[i].cnt : Nat) : Int) by omega]
      exact inv_drop 1 (by decide) (i + 1, c + x.fArgs[i].cnt) (by simp only; omega) rfl rfl rfl rfl ⟨by simp only; omega, by simp only; omega⟩
    · have hi : i = x.fArgs.length := by omega
      rw [hi, List.drop_length, MType.cnts] at p2
      exact int_eq (by omega)
theorem typeSize_ok (x : MType) (hsz : x.sz ≤ 4194304) : PCall Tryz.prog 312 [x.v] (.c (.d (.i .i64 x.cnt))) := typeSize_all _ x (Nat.lt_succ_self _) hsz
theorem isFormed_all : ∀ n : Nat, (∀ x : MType, SizeOf.sizeOf x < n → x.sz ≤ 4194304 → PCall Tryz.prog 310 [x.v] (.c (.d (.b (formed x))))) ∧
    (∀ xs : List MType, SizeOf.sizeOf xs < n → xs.length ≤ 4194304 → (∀ t ∈ xs, t.sz ≤ 4194304) → PCall Tryz.prog 262 [.c (.d (.sl (xs.map MType.enc))), .c (.fn 329 [])] (.c (.d (.b (!formeds xs)))))
  | 0 => ⟨fun x h => by omega, fun x h => by omega⟩
  | n + 1 => by
    obtain ⟨ih, ihS⟩ := isFormed_all n
    refine ⟨fun x hn hsz S => ?_, fun xs hn hlen hsz S => ?_⟩
    · have lArgs := MType.lt_Args x
      have hts := ty_sz hsz
      have fin : ∀ b, fineT x.fKind x.fName x.fArgs.length = b → formed x = (b && formeds x.fArgs) := fun b hb => by rw [← hb]; exact formed_eq x
      have hall : ∀ t ∈ x.fArgs, t.sz ≤ 4194304 := fun t ht => by
        obtain ⟨i, hi, e⟩ := List.getElem_of_mem ht
        rw [← e]; exact (arg_sz hi hsz).1
      have tail := ihS x.fArgs (by omega) hts.1 hall
      have yes : fineT x.fKind x.fName x.fArgs.length = true → formed x = !(!formeds x.fArgs) := fun h => by rw [fin _ h]; simp
      have no : fineT x.fKind x.fName x.fArgs.length = false → formed x = false := fun h => by rw [fin _ h]; simp
      have shut : ¬ ((x.fKind = 1 ∨ x.fKind = 4) ∧ validName x.fName = true ∧ x.fArgs.length = 0 ∨ x.fKind = 3 ∧ validName x.fName = true ∧ x.fArgs.length = 1 ∨ x.fKind = 2 ∧ (validName x.fName = true ∧ x.fArgs.length ≤ 3 ∨ builtInB x.fName = true ∧ x.fArgs.length = 0)) → V.c (.d (.b false)) = V.c (.d (.b (formed x))) := fun h => bool_eq (no (dec_false h)).symm
      have open_ : ((x.fKind = 1 ∨ x.fKind = 4) ∧ validName x.fName = true ∧ x.fArgs.length = 0 ∨ x.fKind = 3 ∧ validName x.fName = true ∧ x.fArgs.length = 1 ∨ x.fKind = 2 ∧ (validName x.fName = true ∧ x.fArgs.length ≤ 3 ∨ builtInB x.fName = true ∧ x.fArgs.length = 0)) → V.c (.d (.b (!(!formeds x.fArgs)))) = V.c (.d (.b (formed x))) := fun h => bool_eq (yes (dec_true h)).symm
      clear yes no fin
      refine acall_cw (rs := [.tmp 2]) Tryz.checked.mixed Tryz.func310 Tryz.ntmps310 rfl rfl rfl rfl rfl ?_
      simp -implicitDefEqProofs (disch := omega) only [go_sem]
      repeat' (first
        | (with_reducible refine split2 (fun hb => ?_) (fun hb => ?_) <;> have h := hb <;> (try simp only [wf_preprocess] at h) <;> simp -implicitDefEqProofs (disch := omega) only [go_sem, hb] <;> (repeat (with_reducible refine And.intro ?_ ?_; focus first | omega | rfl | assumption | exact ⟨_, rfl, rfl⟩ | (simp; omega) | (simp; done))))
        | (refine call_w (implValidName_ok x.fName (by omega)) ?_; simp -implicitDefEqProofs (disch := omega) only [go_sem])
        | (refine call_w (isBuiltIn_ok x.fName) ?_; simp -implicitDefEqProofs (disch := omega) only [go_sem])
        | (refine call_w tail ?_; simp -implicitDefEqProofs (disch := omega) only [go_sem]))
      all_goals first
        | (refine shut (fun y => ?_); rcases y with ⟨_, _, _⟩ | ⟨_, _, _⟩ | ⟨_, ⟨_, _⟩ | ⟨_, _⟩⟩ <;> first | omega | (simp_all; done))
        | (refine open_ ?_; first
            | exact .inl ⟨by omega, by assumption, by omega⟩
            | exact .inr (.inl ⟨by omega, by assumption, by omega⟩)
            | exact .inr (.inr ⟨by omega, .inl ⟨by assumption, by omega⟩⟩)
            | exact .inr (.inr ⟨by omega, .inr ⟨by assumption, by omega⟩⟩))
    · have hcl : ∀ y ∈ xs, PCall Tryz.prog 329 [y.v] (.c (.d (.b (!formed y)))) := fun y hy S => by
        have hys := List.sizeOf_lt_of_mem hy
        refine acall_cw (rs := [.tmp 2]) Tryz.checked.mixed Tryz.func329 Tryz.ntmps329 rfl rfl rfl rfl rfl ?_
        simp -implicitDefEqProofs (disch := omega) only [go_sem]
        refine call_w (ih y (by omega) (hsz y hy)) ?_
        simp -implicitDefEqProofs (disch := omega) only [go_sem] <;> (repeat (with_reducible refine And.intro ?_ ?_; focus first | omega | rfl | assumption | exact ⟨_, rfl, rfl⟩ | (simp; omega) | (simp; done)))
      have hidx : PCall Tryz.prog 309 [.c (.d (.sl (xs.map MType.enc))), .c (.fn 329 [])] (.c (.d (.i .i64 (indexP (fun y => !formed y) xs)))) := fun S => by
        refine acall_cw (rs := [.tmp 4]) Tryz.checked.mixed Tryz.func309 Tryz.ntmps309 rfl rfl rfl rfl rfl ?_
        simp -implicitDefEqProofs (disch := omega) only [go_sem]
        refine loop_at (ι := Nat) Tryz.checked.mixed rfl [0, 1, 7, 8] (fun i => [.c (.d (.sl (xs.map MType.enc))), .c (.fn 329 []), .c (.d (.i .i64 xs.length)), .c (.d (.i .i64 i))]) (fun _ => [] :: S)
          (fun i => i ≤ xs.length ∧ ∀ j, ∀ hj : j < xs.length, j < i → formed xs[j] = true) (fun i => xs.length - i) 0 rfl rfl ⟨Nat.zero_le _, fun j _ h => by omega⟩ ?_
        rintro i ⟨p1, p2⟩
        simp -implicitDefEqProofs (disch := omega) only [go_sem]
        with_reducible refine split2 (fun hb => ?_) (fun hb => ?_) <;> have h := hb <;> (try simp only [wf_preprocess] at h) <;> simp -implicitDefEqProofs (disch := omega) only [go_sem, hb] <;> (repeat (with_reducible refine And.intro ?_ ?_; focus first | omega | rfl | assumption | exact ⟨_, rfl, rfl⟩ | (simp; omega) | (simp; done)))
        · have hi : i < xs.length := by omega
          (repeat (with_reducible refine And.intro ?_ ?_; focus first | omega | rfl | assumption | exact ⟨_, rfl, rfl⟩ | (simp; omega) | (simp; done)))
          refine call_w (hcl xs[i] (List.getElem_mem hi)) ?_
          simp -implicitDefEqProofs (disch := omega) only [go_sem] <;> (repeat (with_reducible refine And.intro ?_ ?_; focus first | omega | rfl | assumption | exact ⟨_, rfl, rfl⟩ | (simp; omega) | (simp; done)))
          with_reducible refine split2 (fun hb => ?_) (fun hb => ?_) <;> have h := hb <;> (try simp only [wf_preprocess] at h) <;> simp -implicitDefEqProofs (disch := omega) only [go_sem, hb] <;> (repeat (with_reducible refine And.intro ?_ ?_; focus first | omega | rfl | assumption | exact ⟨_, rfl, rfl⟩ | (simp; omega) | (simp; done)))
          · rw [indexP_here hi (fun j hj hji => by rw [p2 j hj hji]; rfl) (by rw [h]; rfl)]
          · refine inv_at (i + 1) (by omega) rfl rfl ⟨by omega, fun j hj hji => ?_⟩
            by_cases e : j = i
            · subst e; exact h
            · exact p2 j hj (by omega)
        · rw [indexP_no (fun j hj => by rw [p2 j hj (by omega)]; rfl)]
      refine acall_cw (rs := [.tmp 4]) Tryz.checked.mixed Tryz.func262 Tryz.ntmps262 rfl rfl rfl rfl rfl ?_
      simp -implicitDefEqProofs (disch := omega) only [go_sem]
      refine call_w (hidx) ?_
      simp -implicitDefEqProofs (disch := omega) only [go_sem] <;> (repeat (with_reducible refine And.intro ?_ ?_; focus first | omega | rfl | assumption | exact ⟨_, rfl, rfl⟩ | (simp; omega) | (simp; done)))
      rw [← formeds_any]
      exact bool_eq indexP_pos
theorem isFormed_ok (x : MType) (hsz : x.sz ≤ 4194304) : PCall Tryz.prog 310 [x.v] (.c (.d (.b (formed x)))) := (isFormed_all _).1 x (Nat.lt_succ_self _) hsz
theorem implValidType_ok (x : MType) (hsz : x.sz ≤ 4194304) : PCall Tryz.prog 264 [x.v] (.c (.d (.b (validType x)))) := fun S => by
  refine acall_cw (rs := [.tmp 2]) Tryz.checked.mixed Tryz.func264 Tryz.ntmps264 rfl rfl rfl rfl rfl ?_
  simp -implicitDefEqProofs (disch := omega) only [go_sem]
  refine call_w (isFormed_ok x hsz) ?_
  simp -implicitDefEqProofs (disch := omega) only [go_sem] <;> (repeat (with_reducible refine And.intro ?_ ?_; focus first | omega | rfl | assumption | exact ⟨_, rfl, rfl⟩ | (simp; omega) | (simp; done)))
  with_reducible refine split2 (fun hb => ?_) (fun hb => ?_) <;> have h := hb <;> (try simp only [wf_preprocess] at h) <;> simp -implicitDefEqProofs (disch := omega) only [go_sem, hb] <;> (repeat (with_reducible refine And.intro ?_ ?_; focus first | omega | rfl | assumption | exact ⟨_, rfl, rfl⟩ | (simp; omega) | (simp; done)))
  · have h1 := h
    refine call_w (implDepth_ok x hsz) ?_
    simp -implicitDefEqProofs (disch := omega) only [go_sem] <;> (repeat (with_reducible refine And.intro ?_ ?_; focus first | omega | rfl | assumption | exact ⟨_, rfl, rfl⟩ | (simp; omega) | (simp; done)))
    with_reducible refine split2 (fun hb => ?_) (fun hb => ?_) <;> have h := hb <;> (try simp only [wf_preprocess] at h) <;> simp -implicitDefEqProofs (disch := omega) only [go_sem, hb] <;> (repeat (with_reducible refine And.intro ?_ ?_; focus first | omega | rfl | assumption | exact ⟨_, rfl, rfl⟩ | (simp; omega) | (simp; done)))
    · refine call_w (typeSize_ok x hsz) ?_
      simp -implicitDefEqProofs (disch := omega) only [go_sem] <;> (repeat (with_reducible refine And.intro ?_ ?_; focus first | omega | rfl | assumption | exact ⟨_, rfl, rfl⟩ | (simp; omega) | (simp; done)))
      exact bool_eq (by rw [decide_dec]; exact dec_congr ⟨fun y => ⟨h1, by omega, by omega⟩, fun y => by have := y.2.2; omega⟩)
    · exact bool_eq (dec_false fun y => by have := y.2.1; omega).symm
  · exact bool_eq (dec_false fun y => by rw [y.1] at h; cases h).symm
set_option maxHeartbeats 1000000 in
theorem l4Form_all : ∀ n : Nat, ∀ x : MType, SizeOf.sizeOf x < n → x.sz ≤ 4194304 → PCall Tryz.prog 298 [x.v] (.c (.d (.b (formed x))))
  | 0 => fun x h => by omega
  | n + 1 => by
    have ih := l4Form_all n
    intro x hn hsz S
    have lArgs := MType.lt_Args x
    have hts := ty_sz hsz
    have shut : ¬ ((x.fKind = 1 ∨ x.fKind = 4) ∧ validName x.fName = true ∧ x.fArgs.length = 0 ∨ x.fKind = 3 ∧ validName x.fName = true ∧ x.fArgs.length = 1 ∨ x.fKind = 2 ∧ (validName x.fName = true ∧ x.fArgs.length ≤ 3 ∨ builtInB x.fName = true ∧ x.fArgs.length = 0)) → V.c (.d (.b false)) = V.c (.d (.b (formed x))) := fun h => bool_eq (by rw [formed_eq, show fineT x.fKind x.fName x.fArgs.length = false from dec_false h]; rfl)
    have fine0 : ∀ b : Bool, (b = true ↔ ((x.fKind = 1 ∨ x.fKind = 4) ∧ validName x.fName = true ∧ x.fArgs.length = 0 ∨ x.fKind = 3 ∧ validName x.fName = true ∧ x.fArgs.length = 1 ∨ x.fKind = 2 ∧ (validName x.fName = true ∧ x.fArgs.length ≤ 3 ∨ builtInB x.fName = true ∧ x.fArgs.length = 0))) → b = fineT x.fKind x.fName x.fArgs.length := fun b h => by
      rw [Bool.eq_iff_iff, h]
      unfold fineT
      rw [dec_eq_true]
    refine acall_cw (rs := [.tmp 2]) Tryz.checked.mixed Tryz.func298 Tryz.ntmps298 rfl rfl rfl rfl rfl ?_
    simp -implicitDefEqProofs (disch := omega) only [go_sem]
    refine call_w (specValidName_ok x.fName (by omega)) ?_
    simp -implicitDefEqProofs (disch := omega) only [go_sem] <;> (repeat (with_reducible refine And.intro ?_ ?_; focus first | omega | rfl | assumption | exact ⟨_, rfl, rfl⟩ | (simp; omega) | (simp; done)))
    repeat' (first
      | (with_reducible refine split2 (fun hb => ?_) (fun hb => ?_) <;> have h := hb <;> (try simp only [wf_preprocess] at h) <;> simp -implicitDefEqProofs (disch := omega) only [go_sem, hb] <;> (repeat (with_reducible refine And.intro ?_ ?_; focus first | omega | rfl | assumption | exact ⟨_, rfl, rfl⟩ | (simp; omega) | (simp; done))))
      | (refine call_w (l4Base_ok x.fName) ?_; simp -implicitDefEqProofs (disch := omega) only [go_sem]))
    all_goals first
      | (refine shut (fun y => ?_); rcases y with ⟨_, _, _⟩ | ⟨_, _, _⟩ | ⟨_, ⟨_, _⟩ | ⟨_, _⟩⟩ <;> first | omega | (simp_all; done))
      | skip
    all_goals
      refine loop_at (ι := Nat × Bool) Tryz.checked.mixed rfl [1, 3, 4] (fun y => [.c (.ptr (0, 0) 0), .c (.d (.b y.2)), .c (.d (.i .i64 y.1))]) (fun y => [.box [.d (.i .i64 x.fKind), .d (.s x.fName), .d (.sl (x.fArgs.map MType.enc))]] :: S)
        (fun y => y.1 ≤ x.fArgs.length ∧ (y.2 && formeds (x.fArgs.drop y.1)) = formed x) (fun y => x.fArgs.length - y.1) (0, fineT x.fKind x.fName x.fArgs.length) ?_ rfl ⟨Nat.zero_le _, by rw [formed_eq]; rfl⟩ ?_
      · simp only [List.map_cons, List.map_nil]
        simp -implicitDefEqProofs (disch := omega) only [go_sem, List.cons.injEq, V.c.injEq, C.d.injEq, D.b.injEq, Int.natCast_zero]
        refine fine0 _ ⟨fun y => ?_, fun y => ?_⟩
        · (try simp only [decide_eq_true_eq, Bool.false_eq_true] at y) <;> first
            | exact .inl ⟨by omega, by assumption, by omega⟩
            | exact .inr (.inl ⟨by omega, by assumption, by omega⟩)
            | exact .inr (.inr ⟨by omega, .inl ⟨by assumption, by omega⟩⟩)
            | exact .inr (.inr ⟨by omega, .inr ⟨by assumption, by omega⟩⟩)
        · rcases y with ⟨_, _, _⟩ | ⟨_, _, _⟩ | ⟨_, ⟨_, _⟩ | ⟨_, _⟩⟩ <;> first | omega | (simp only [decide_eq_true_eq]; omega) | (simp_all; done)
      rintro ⟨i, c⟩ ⟨p1, p2⟩
      simp only at p1 p2
      simp -implicitDefEqProofs (disch := omega) only [go_sem]
      with_reducible refine split2 (fun hb => ?_) (fun hb => ?_) <;> have h := hb <;> (try simp only [wf_preprocess] at h) <;> simp -implicitDefEqProofs (disch := omega) only [go_sem, hb] <;> (repeat (with_reducible refine And.intro ?_ ?_; focus first | omega | rfl | assumption | exact ⟨_, rfl, rfl⟩ | (simp; omega) | (simp; done)))
      · have hi : i < x.fArgs.length := by omega
        have hsz' := arg_sz hi hsz
        rw [formeds_drop hi] at p2
        with_reducible refine split2 (fun hb => ?_) (fun hb => ?_) <;> have h := hb <;> (try simp only [wf_preprocess] at h) <;> simp -implicitDefEqProofs (disch := omega) only [go_sem, hb] <;> (repeat (with_reducible refine And.intro ?_ ?_; focus first | omega | rfl | assumption | exact ⟨_, rfl, rfl⟩ | (simp; omega) | (simp; done)))
        · refine call_w (ih x.fArgs[i] (by have := List.sizeOf_lt_of_mem (List.getElem_mem hi); omega) (by omega)) ?_
          simp -implicitDefEqProofs (disch := omega) only [go_sem]
          exact inv_at (i + 1, formed x.fArgs[i]) (by simp only; omega) rfl rfl ⟨by simp only; omega, by rw [← p2, h]; rfl⟩
        · exact inv_at (i + 1, false) (by simp only; omega) rfl rfl ⟨by simp only; omega, by rw [← p2, h]; rfl⟩
      · have hi : i = x.fArgs.length := by omega
        rw [hi, List.drop_length, formeds, Bool.and_true] at p2
        rw [p2]
theorem l4Form_ok (x : MType) (hsz : x.sz ≤ 4194304) : PCall Tryz.prog 298 [x.v] (.c (.d (.b (formed x)))) := l4Form_all _ x (Nat.lt_succ_self _) hsz
theorem specValidType_ok (x : MType) (hsz : x.sz ≤ 4194304) : PCall Tryz.prog 239 [x.v] (.c (.d (.b (validType x)))) := fun S => by
  refine acall_cw (rs := [.tmp 2]) Tryz.checked.mixed Tryz.func239 Tryz.ntmps239 rfl rfl rfl rfl rfl ?_
  simp -implicitDefEqProofs (disch := omega) only [go_sem]
  refine call_w (l4Left_ok x 60 (by omega) (by omega) hsz) ?_
  simp -implicitDefEqProofs (disch := omega) only [go_sem] <;> (repeat (with_reducible refine And.intro ?_ ?_; focus first | omega | rfl | assumption | exact ⟨_, rfl, rfl⟩ | (simp; omega) | (simp; done)))
  with_reducible refine split2 (fun hb => ?_) (fun hb => ?_) <;> have h := hb <;> (try simp only [wf_preprocess] at h) <;> simp -implicitDefEqProofs (disch := omega) only [go_sem, hb] <;> (repeat (with_reducible refine And.intro ?_ ?_; focus first | omega | rfl | assumption | exact ⟨_, rfl, rfl⟩ | (simp; omega) | (simp; done)))
  · have h1 := (sub1_nn (l := 60) (a := x.cnt) (by omega)).2
    refine call_w (specDepth_ok x hsz) ?_
    simp -implicitDefEqProofs (disch := omega) only [go_sem] <;> (repeat (with_reducible refine And.intro ?_ ?_; focus first | omega | rfl | assumption | exact ⟨_, rfl, rfl⟩ | (simp; omega) | (simp; done)))
    with_reducible refine split2 (fun hb => ?_) (fun hb => ?_) <;> have h := hb <;> (try simp only [wf_preprocess] at h) <;> simp -implicitDefEqProofs (disch := omega) only [go_sem, hb] <;> (repeat (with_reducible refine And.intro ?_ ?_; focus first | omega | rfl | assumption | exact ⟨_, rfl, rfl⟩ | (simp; omega) | (simp; done)))
    · refine call_w (l4Form_ok x hsz) ?_
      simp -implicitDefEqProofs (disch := omega) only [go_sem] <;> (repeat (with_reducible refine And.intro ?_ ?_; focus first | omega | rfl | assumption | exact ⟨_, rfl, rfl⟩ | (simp; omega) | (simp; done)))
      refine bool_eq ?_
      cases hf : formed x with
      | false => exact (dec_false fun y => by rw [hf] at y; cases y.1).symm
      | true => exact (dec_true ⟨hf, by omega, by omega⟩).symm
    · exact bool_eq (dec_false fun y => by have := y.2.1; omega).symm
  · have h1 := sub1_neg (l := 60) (a := x.cnt) (by omega)
    exact bool_eq (dec_false fun y => by have := y.2.2; omega).symm
theorem specValidBound_ok (x : MBound) (hn : x.fTrait.length ≤ 1073741824) (hsz : x.fType.sz ≤ 4194304) : PCall Tryz.prog 252 [x.v] (.c (.d (.b (validName x.fTrait && validType x.fType)))) := fun S => by
  refine acall_cw (rs := [.tmp 2]) Tryz.checked.mixed Tryz.func252 Tryz.ntmps252 rfl rfl rfl rfl rfl ?_
  simp -implicitDefEqProofs (disch := omega) only [go_sem]
  refine call_w (specValidName_ok x.fTrait hn) ?_
  simp -implicitDefEqProofs (disch := omega) only [go_sem] <;> (repeat (with_reducible refine And.intro ?_ ?_; focus first | omega | rfl | assumption | exact ⟨_, rfl, rfl⟩ | (simp; omega) | (simp; done)))
  with_reducible refine split2 (fun hb => ?_) (fun hb => ?_) <;> have h := hb <;> (try simp only [wf_preprocess] at h) <;> simp -implicitDefEqProofs (disch := omega) only [go_sem, hb] <;> (repeat (with_reducible refine And.intro ?_ ?_; focus first | omega | rfl | assumption | exact ⟨_, rfl, rfl⟩ | (simp; omega) | (simp; done)))
  · refine call_w (specValidType_ok x.fType hsz) ?_
    simp -implicitDefEqProofs (disch := omega) only [go_sem] <;> (repeat (with_reducible refine And.intro ?_ ?_; focus first | omega | rfl | assumption | exact ⟨_, rfl, rfl⟩ | (simp; omega) | (simp; done)))
  · rfl
theorem implValidBound_ok (x : MBound) (hn : x.fTrait.length ≤ 1073741824) (hsz : x.fType.sz ≤ 4194304) : PCall Tryz.prog 261 [x.v] (.c (.d (.b (validName x.fTrait && validType x.fType)))) := fun S => by
  refine acall_cw (rs := [.tmp 2]) Tryz.checked.mixed Tryz.func261 Tryz.ntmps261 rfl rfl rfl rfl rfl ?_
  simp -implicitDefEqProofs (disch := omega) only [go_sem]
  refine call_w (implValidName_ok x.fTrait hn) ?_
  simp -implicitDefEqProofs (disch := omega) only [go_sem] <;> (repeat (with_reducible refine And.intro ?_ ?_; focus first | omega | rfl | assumption | exact ⟨_, rfl, rfl⟩ | (simp; omega) | (simp; done)))
  with_reducible refine split2 (fun hb => ?_) (fun hb => ?_) <;> have h := hb <;> (try simp only [wf_preprocess] at h) <;> simp -implicitDefEqProofs (disch := omega) only [go_sem, hb] <;> (repeat (with_reducible refine And.intro ?_ ?_; focus first | omega | rfl | assumption | exact ⟨_, rfl, rfl⟩ | (simp; omega) | (simp; done)))
  · refine call_w (implValidType_ok x.fType hsz) ?_
    simp -implicitDefEqProofs (disch := omega) only [go_sem] <;> (repeat (with_reducible refine And.intro ?_ ?_; focus first | omega | rfl | assumption | exact ⟨_, rfl, rfl⟩ | (simp; omega) | (simp; done)))
  · rfl
end Go.Proofs.YtokcpelkieeddaaGreatDoor

namespace Go.Proofs.YtokcpelkieeddaaGreatDoor
open Go Go.Ab
theorem indexFuncExpr_ok (g : Nat) (caps : List (Key × Nat)) (S : Store) (xs : List MExpr) (p : MExpr → Bool) (hl : xs.length ≤ 1073741824) (hp : ∀ x ∈ xs, FPure Tryz.prog g caps S [x.v] (.c (.d (.b (p x))))) :
    ACall Tryz.prog 302 [.c (.d (.sl (xs.map MExpr.enc))), .c (.fn g caps)] S (fun r S' => r = .c (.d (.i .i64 (indexP p xs))) ∧ S' = S) := by
  refine acall_cw (rs := [.tmp 4]) Tryz.checked.mixed Tryz.func302 Tryz.ntmps302 rfl rfl rfl rfl rfl ?_
  simp -implicitDefEqProofs (disch := omega) only [go_sem]
  refine loop_at (ι := Nat) Tryz.checked.mixed rfl [0, 1, 7, 8] (fun i => [.c (.d (.sl (xs.map MExpr.enc))), .c (.fn g (upCaps 1 caps)), .c (.d (.i .i64 xs.length)), .c (.d (.i .i64 i))]) (fun _ => [] :: S)
    (fun i => i ≤ xs.length ∧ ∀ j, ∀ hj : j < xs.length, j < i → p xs[j] = false) (fun i => xs.length - i) 0 rfl rfl ⟨Nat.zero_le _, fun j _ h => by omega⟩ ?_
  rintro i ⟨p1, p2⟩
  simp -implicitDefEqProofs (disch := omega) only [go_sem]
  with_reducible refine split2 (fun hb => ?_) (fun hb => ?_) <;> have h := hb <;> (try simp only [wf_preprocess] at h) <;> simp -implicitDefEqProofs (disch := omega) only [go_sem, hb] <;> (repeat (with_reducible refine And.intro ?_ ?_; focus first | omega | rfl | assumption | exact ⟨_, rfl, rfl⟩ | (simp; omega) | (simp; done)))
  · have hi : i < xs.length := by omega
    (repeat (with_reducible refine And.intro ?_ ?_; focus first | omega | rfl | assumption | exact ⟨_, rfl, rfl⟩ | (simp; omega) | (simp; done)))
    refine call_d rfl (hp xs[i] (List.getElem_mem hi) [_]) ?_
    simp -implicitDefEqProofs (disch := omega) only [go_sem]
    with_reducible refine split2 (fun hb => ?_) (fun hb => ?_) <;> have h := hb <;> (try simp only [wf_preprocess] at h) <;> simp -implicitDefEqProofs (disch := omega) only [go_sem, hb] <;> (repeat (with_reducible refine And.intro ?_ ?_; focus first | omega | rfl | assumption | exact ⟨_, rfl, rfl⟩ | (simp; omega) | (simp; done)))
    · rw [indexP_here hi p2 h]
    · refine inv_at (i + 1) (by omega) rfl rfl ⟨by omega, fun j hj hji => ?_⟩
      by_cases e : j = i
      · subst e; exact h
      · exact p2 j hj (by omega)
  · rw [indexP_no (fun j hj => p2 j hj (by omega))]
theorem containsFuncExpr_ok (g : Nat) (caps : List (Key × Nat)) (S : Store) (xs : List MExpr) (p : MExpr → Bool) (hl : xs.length ≤ 1073741824) (hp : ∀ x ∈ xs, FPure Tryz.prog g caps S [x.v] (.c (.d (.b (p x))))) :
    ACall Tryz.prog 244 [.c (.d (.sl (xs.map MExpr.enc))), .c (.fn g caps)] S (fun r S' => r = .c (.d (.b (xs.any p))) ∧ S' = S) := by
  refine acall_cw (rs := [.tmp 4]) Tryz.checked.mixed Tryz.func244 Tryz.ntmps244 rfl rfl rfl rfl rfl ?_
  simp -implicitDefEqProofs (disch := omega) only [go_sem]
  refine call_d rfl (indexFuncExpr_ok g (upCaps 1 caps) _ xs p hl fun x hx => (hp x hx).push _) ?_
  simp -implicitDefEqProofs (disch := omega) only [go_sem]
  exact bool_eq indexP_pos
theorem indexFuncArm_ok (g : Nat) (caps : List (Key × Nat)) (S : Store) (xs : List MArm) (p : MArm → Bool) (hl : xs.length ≤ 1073741824) (hp : ∀ x ∈ xs, FPure Tryz.prog g caps S [x.v] (.c (.d (.b (p x))))) :
    ACall Tryz.prog 303 [.c (.d (.sl (xs.map MArm.enc))), .c (.fn g caps)] S (fun r S' => r = .c (.d (.i .i64 (indexP p xs))) ∧ S' = S) := by
  refine acall_cw (rs := [.tmp 4]) Tryz.checked.mixed Tryz.func303 Tryz.ntmps303 rfl rfl rfl rfl rfl ?_
  simp -implicitDefEqProofs (disch := omega) only [go_sem]
  refine loop_at (ι := Nat) Tryz.checked.mixed rfl [0, 1, 7, 8] (fun i => [.c (.d (.sl (xs.map MArm.enc))), .c (.fn g (upCaps 1 caps)), .c (.d (.i .i64 xs.length)), .c (.d (.i .i64 i))]) (fun _ => [] :: S)
    (fun i => i ≤ xs.length ∧ ∀ j, ∀ hj : j < xs.length, j < i → p xs[j] = false) (fun i => xs.length - i) 0 rfl rfl ⟨Nat.zero_le _, fun j _ h => by omega⟩ ?_
  rintro i ⟨p1, p2⟩
  simp -implicitDefEqProofs (disch := omega) only [go_sem]
  with_reducible refine split2 (fun hb => ?_) (fun hb => ?_) <;> have h := hb <;> (try simp only [wf_preprocess] at h) <;> simp -implicitDefEqProofs (disch := omega) only [go_sem, hb] <;> (repeat (with_reducible refine And.intro ?_ ?_; focus first | omega | rfl | assumption | exact ⟨_, rfl, rfl⟩ | (simp; omega) | (simp; done)))
  · have hi : i < xs.length := by omega
    (repeat (with_reducible refine And.intro ?_ ?_; focus first | omega | rfl | assumption | exact ⟨_, rfl, rfl⟩ | (simp; omega) | (simp; done)))
    refine call_d rfl (hp xs[i] (List.getElem_mem hi) [_]) ?_
    simp -implicitDefEqProofs (disch := omega) only [go_sem]
    with_reducible refine split2 (fun hb => ?_) (fun hb => ?_) <;> have h := hb <;> (try simp only [wf_preprocess] at h) <;> simp -implicitDefEqProofs (disch := omega) only [go_sem, hb] <;> (repeat (with_reducible refine And.intro ?_ ?_; focus first | omega | rfl | assumption | exact ⟨_, rfl, rfl⟩ | (simp; omega) | (simp; done)))
    · rw [indexP_here hi p2 h]
    · refine inv_at (i + 1) (by omega) rfl rfl ⟨by omega, fun j hj hji => ?_⟩
      by_cases e : j = i
      · subst e; exact h
      · exact p2 j hj (by omega)
  · rw [indexP_no (fun j hj => p2 j hj (by omega))]
theorem containsFuncArm_ok (g : Nat) (caps : List (Key × Nat)) (S : Store) (xs : List MArm) (p : MArm → Bool) (hl : xs.length ≤ 1073741824) (hp : ∀ x ∈ xs, FPure Tryz.prog g caps S [x.v] (.c (.d (.b (p x))))) :
    ACall Tryz.prog 246 [.c (.d (.sl (xs.map MArm.enc))), .c (.fn g caps)] S (fun r S' => r = .c (.d (.b (xs.any p))) ∧ S' = S) := by
  refine acall_cw (rs := [.tmp 4]) Tryz.checked.mixed Tryz.func246 Tryz.ntmps246 rfl rfl rfl rfl rfl ?_
  simp -implicitDefEqProofs (disch := omega) only [go_sem]
  refine call_d rfl (indexFuncArm_ok g (upCaps 1 caps) _ xs p hl fun x hx => (hp x hx).push _) ?_
  simp -implicitDefEqProofs (disch := omega) only [go_sem]
  exact bool_eq indexP_pos
theorem indexFuncBound_ok (g : Nat) (caps : List (Key × Nat)) (S : Store) (xs : List MBound) (p : MBound → Bool) (hl : xs.length ≤ 1073741824) (hp : ∀ x ∈ xs, FPure Tryz.prog g caps S [x.v] (.c (.d (.b (p x))))) :
    ACall Tryz.prog 308 [.c (.d (.sl (xs.map MBound.enc))), .c (.fn g caps)] S (fun r S' => r = .c (.d (.i .i64 (indexP p xs))) ∧ S' = S) := by
  refine acall_cw (rs := [.tmp 4]) Tryz.checked.mixed Tryz.func308 Tryz.ntmps308 rfl rfl rfl rfl rfl ?_
  simp -implicitDefEqProofs (disch := omega) only [go_sem]
  refine loop_at (ι := Nat) Tryz.checked.mixed rfl [0, 1, 7, 8] (fun i => [.c (.d (.sl (xs.map MBound.enc))), .c (.fn g (upCaps 1 caps)), .c (.d (.i .i64 xs.length)), .c (.d (.i .i64 i))]) (fun _ => [] :: S)
    (fun i => i ≤ xs.length ∧ ∀ j, ∀ hj : j < xs.length, j < i → p xs[j] = false) (fun i => xs.length - i) 0 rfl rfl ⟨Nat.zero_le _, fun j _ h => by omega⟩ ?_
  rintro i ⟨p1, p2⟩
  simp -implicitDefEqProofs (disch := omega) only [go_sem]
  with_reducible refine split2 (fun hb => ?_) (fun hb => ?_) <;> have h := hb <;> (try simp only [wf_preprocess] at h) <;> simp -implicitDefEqProofs (disch := omega) only [go_sem, hb] <;> (repeat (with_reducible refine And.intro ?_ ?_; focus first | omega | rfl | assumption | exact ⟨_, rfl, rfl⟩ | (simp; omega) | (simp; done)))
  · have hi : i < xs.length := by omega
    (repeat (with_reducible refine And.intro ?_ ?_; focus first | omega | rfl | assumption | exact ⟨_, rfl, rfl⟩ | (simp; omega) | (simp; done)))
    refine call_d rfl (hp xs[i] (List.getElem_mem hi) [_]) ?_
    simp -implicitDefEqProofs (disch := omega) only [go_sem]
    with_reducible refine split2 (fun hb => ?_) (fun hb => ?_) <;> have h := hb <;> (try simp only [wf_preprocess] at h) <;> simp -implicitDefEqProofs (disch := omega) only [go_sem, hb] <;> (repeat (with_reducible refine And.intro ?_ ?_; focus first | omega | rfl | assumption | exact ⟨_, rfl, rfl⟩ | (simp; omega) | (simp; done)))
    · rw [indexP_here hi p2 h]
    · refine inv_at (i + 1) (by omega) rfl rfl ⟨by omega, fun j hj hji => ?_⟩
      by_cases e : j = i
      · subst e; exact h
      · exact p2 j hj (by omega)
  · rw [indexP_no (fun j hj => p2 j hj (by omega))]
theorem containsFuncBound_ok (g : Nat) (caps : List (Key × Nat)) (S : Store) (xs : List MBound) (p : MBound → Bool) (hl : xs.length ≤ 1073741824) (hp : ∀ x ∈ xs, FPure Tryz.prog g caps S [x.v] (.c (.d (.b (p x))))) :
    ACall Tryz.prog 259 [.c (.d (.sl (xs.map MBound.enc))), .c (.fn g caps)] S (fun r S' => r = .c (.d (.b (xs.any p))) ∧ S' = S) := by
  refine acall_cw (rs := [.tmp 4]) Tryz.checked.mixed Tryz.func259 Tryz.ntmps259 rfl rfl rfl rfl rfl ?_
  simp -implicitDefEqProofs (disch := omega) only [go_sem]
  refine call_d rfl (indexFuncBound_ok g (upCaps 1 caps) _ xs p hl fun x hx => (hp x hx).push _) ?_
  simp -implicitDefEqProofs (disch := omega) only [go_sem]
  exact bool_eq indexP_pos
theorem indexFuncstring_ok (g : Nat) (caps : List (Key × Nat)) (S : Store) (xs : List (List UInt8)) (p : (List UInt8) → Bool) (hl : xs.length ≤ 1073741824) (hp : ∀ x ∈ xs, FPure Tryz.prog g caps S [.c (.d (.s x))] (.c (.d (.b (p x))))) :
    ACall Tryz.prog 307 [.c (.d (.sl (xs.map encS))), .c (.fn g caps)] S (fun r S' => r = .c (.d (.i .i64 (indexP p xs))) ∧ S' = S) := by
  refine acall_cw (rs := [.tmp 4]) Tryz.checked.mixed Tryz.func307 Tryz.ntmps307 rfl rfl rfl rfl rfl ?_
  simp -implicitDefEqProofs (disch := omega) only [go_sem, encS]
  refine loop_at (ι := Nat) Tryz.checked.mixed rfl [0, 1, 7, 8] (fun i => [.c (.d (.sl (xs.map encS))), .c (.fn g (upCaps 1 caps)), .c (.d (.i .i64 xs.length)), .c (.d (.i .i64 i))]) (fun _ => [] :: S)
    (fun i => i ≤ xs.length ∧ ∀ j, ∀ hj : j < xs.length, j < i → p xs[j] = false) (fun i => xs.length - i) 0 rfl rfl ⟨Nat.zero_le _, fun j _ h => by omega⟩ ?_
  rintro i ⟨p1, p2⟩
  simp -implicitDefEqProofs (disch := omega) only [go_sem, encS]
  with_reducible refine split2 (fun hb => ?_) (fun hb => ?_) <;> have h := hb <;> (try simp only [wf_preprocess] at h) <;> simp -implicitDefEqProofs (disch := omega) only [go_sem, hb, encS] <;> (repeat (with_reducible refine And.intro ?_ ?_; focus first | omega | rfl | assumption | exact ⟨_, rfl, rfl⟩ | (simp; omega) | (simp; done)))
  · have hi : i < xs.length := by omega
    (repeat (with_reducible refine And.intro ?_ ?_; focus first | omega | rfl | assumption | exact ⟨_, rfl, rfl⟩ | (simp; omega) | (simp; done)))
    refine call_d rfl (hp xs[i] (List.getElem_mem hi) [_]) ?_
    simp -implicitDefEqProofs (disch := omega) only [go_sem, encS]
    with_reducible refine split2 (fun hb => ?_) (fun hb => ?_) <;> have h := hb <;> (try simp only [wf_preprocess] at h) <;> simp -implicitDefEqProofs (disch := omega) only [go_sem, hb, encS] <;> (repeat (with_reducible refine And.intro ?_ ?_; focus first | omega | rfl | assumption | exact ⟨_, rfl, rfl⟩ | (simp; omega) | (simp; done)))
    · rw [indexP_here hi p2 h]
    · refine inv_at (i + 1) (by omega) rfl rfl ⟨by omega, fun j hj hji => ?_⟩
      by_cases e : j = i
      · subst e; exact h
      · exact p2 j hj (by omega)
  · rw [indexP_no (fun j hj => p2 j hj (by omega))]
theorem containsFuncstring_ok (g : Nat) (caps : List (Key × Nat)) (S : Store) (xs : List (List UInt8)) (p : (List UInt8) → Bool) (hl : xs.length ≤ 1073741824) (hp : ∀ x ∈ xs, FPure Tryz.prog g caps S [.c (.d (.s x))] (.c (.d (.b (p x))))) :
    ACall Tryz.prog 257 [.c (.d (.sl (xs.map encS))), .c (.fn g caps)] S (fun r S' => r = .c (.d (.b (xs.any p))) ∧ S' = S) := by
  refine acall_cw (rs := [.tmp 4]) Tryz.checked.mixed Tryz.func257 Tryz.ntmps257 rfl rfl rfl rfl rfl ?_
  simp -implicitDefEqProofs (disch := omega) only [go_sem, encS]
  refine call_d rfl (indexFuncstring_ok g (upCaps 1 caps) _ xs p hl fun x hx => (hp x hx).push _) ?_
  simp -implicitDefEqProofs (disch := omega) only [go_sem, encS]
  exact bool_eq indexP_pos
end Go.Proofs.YtokcpelkieeddaaGreatDoor

