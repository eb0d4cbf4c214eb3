/-
  THE DATA TYPES OF THE PROGRAM AS LEAN TYPES, and the cells in which each lies. Printed by program (wip/tool/types.py). No program in sight.
-/
import Derived.Test.YtjfhgcnoielpfaaDb
set_option linter.unusedSimpArgs false
set_option linter.unusedVariables false
namespace Go.Ab

def encS (s : List UInt8) : List D := [.s s]
def encI (n : Int) : List D := [.i .i64 n]

inductive MType where
  | mk (fKind : Int) (fName : List UInt8) (fArgs : List MType)
def MType.fKind : MType → Int | .mk x _ _ => x
def MType.fName : MType → List UInt8 | .mk _ x _ => x
def MType.fArgs : MType → List MType | .mk _ _ x => x
theorem MType.eta (x : MType) : MType.mk x.fKind x.fName x.fArgs = x := by cases x; rfl
theorem MType.ext {x y : MType} (h0 : x.fKind = y.fKind) (h1 : x.fName = y.fName) (h2 : x.fArgs = y.fArgs) : x = y := by
  rw [← MType.eta x, ← MType.eta y, h0, h1, h2]
mutual
def MType.enc : MType → List D
  | .mk a0 a1 a2 => [.i .i64 a0, .s a1, .sl (MType.encs a2)]
def MType.encs : List MType → List (List D)
  | [] => []
  | x :: xs => x.enc :: MType.encs xs
end
theorem MType.encs_map : ∀ l, MType.encs l = l.map MType.enc
  | [] => rfl
  | x :: xs => by rw [MType.encs, List.map_cons, MType.encs_map xs]
theorem MType.enc_eq (x : MType) : x.enc = [.i .i64 x.fKind, .s x.fName, .sl (x.fArgs.map MType.enc)] := by
  cases x; simp only [MType.enc, MType.encs_map, MType.fKind, MType.fName, MType.fArgs]
abbrev MType.v (x : MType) : V := .agg [.d (.i .i64 x.fKind), .d (.s x.fName), .d (.sl (x.fArgs.map MType.enc))]
theorem MType.v_eq (x : MType) : .agg (x.enc.map .d) = x.v := by
  simp only [MType.enc_eq, List.map_cons, List.map_nil, List.cons_append, List.nil_append, List.map_append]
theorem MType.enc_length (x : MType) : x.enc.length = 3 := by
  simp only [MType.enc_eq, List.length_append, List.length_cons, List.length_nil]
def MType.sz (x : MType) : Nat := szRow x.enc
theorem MType.sz_def (x : MType) : szRow x.enc = x.sz := rfl
theorem MType.lt_Args (x : MType) : SizeOf.sizeOf x.fArgs < SizeOf.sizeOf x := by cases x; simp [MType.fArgs]; omega

structure MBinding where
  fVar : List UInt8
  fType : MType
def MBinding.enc (x : MBinding) : List D := [.s x.fVar] ++ (x.fType.enc)
theorem MBinding.enc_eq (x : MBinding) : x.enc = [.s x.fVar] ++ (x.fType.enc) := rfl
theorem MBinding.eta (x : MBinding) : MBinding.mk x.fVar x.fType = x := rfl
theorem MBinding.ext' {x y : MBinding} (h0 : x.fVar = y.fVar) (h1 : x.fType = y.fType) : x = y := by
  cases x; cases y; simp_all
abbrev MBinding.v (x : MBinding) : V := .agg [.d (.s x.fVar), .d (.i .i64 x.fType.fKind), .d (.s x.fType.fName), .d (.sl (x.fType.fArgs.map MType.enc))]
theorem MBinding.v_eq (x : MBinding) : .agg (x.enc.map .d) = x.v := by
  simp only [MBinding.enc_eq, MType.enc_eq, List.map_cons, List.map_nil, List.cons_append, List.nil_append, List.map_append]
theorem MBinding.enc_length (x : MBinding) : x.enc.length = 4 := by
  simp only [MBinding.enc_eq, MType.enc_length, List.length_append, List.length_cons, List.length_nil]
def MBinding.sz (x : MBinding) : Nat := szRow x.enc
theorem MBinding.sz_def (x : MBinding) : szRow x.enc = x.sz := rfl

structure MBound where
  fTrait : List UInt8
  fType : MType
def MBound.enc (x : MBound) : List D := [.s x.fTrait] ++ (x.fType.enc)
theorem MBound.enc_eq (x : MBound) : x.enc = [.s x.fTrait] ++ (x.fType.enc) := rfl
theorem MBound.eta (x : MBound) : MBound.mk x.fTrait x.fType = x := rfl
theorem MBound.ext' {x y : MBound} (h0 : x.fTrait = y.fTrait) (h1 : x.fType = y.fType) : x = y := by
  cases x; cases y; simp_all
abbrev MBound.v (x : MBound) : V := .agg [.d (.s x.fTrait), .d (.i .i64 x.fType.fKind), .d (.s x.fType.fName), .d (.sl (x.fType.fArgs.map MType.enc))]
theorem MBound.v_eq (x : MBound) : .agg (x.enc.map .d) = x.v := by
  simp only [MBound.enc_eq, MType.enc_eq, List.map_cons, List.map_nil, List.cons_append, List.nil_append, List.map_append]
theorem MBound.enc_length (x : MBound) : x.enc.length = 4 := by
  simp only [MBound.enc_eq, MType.enc_length, List.length_append, List.length_cons, List.length_nil]
def MBound.sz (x : MBound) : Nat := szRow x.enc
theorem MBound.sz_def (x : MBound) : szRow x.enc = x.sz := rfl

mutual
inductive MExpr where
  | mk (fKind : Int) (fTrait : List UInt8) (fName : List UInt8) (fN : Int) (fType : MType) (fArgs : List MExpr) (fArms : List MArm)
inductive MArm where
  | mk (fConstructor : List UInt8) (fVars : List (List UInt8)) (fBody : MExpr)
end
def MExpr.fKind : MExpr → Int | .mk x _ _ _ _ _ _ => x
def MExpr.fTrait : MExpr → List UInt8 | .mk _ x _ _ _ _ _ => x
def MExpr.fName : MExpr → List UInt8 | .mk _ _ x _ _ _ _ => x
def MExpr.fN : MExpr → Int | .mk _ _ _ x _ _ _ => x
def MExpr.fType : MExpr → MType | .mk _ _ _ _ x _ _ => x
def MExpr.fArgs : MExpr → List MExpr | .mk _ _ _ _ _ x _ => x
def MExpr.fArms : MExpr → List MArm | .mk _ _ _ _ _ _ x => x
theorem MExpr.eta (x : MExpr) : MExpr.mk x.fKind x.fTrait x.fName x.fN x.fType x.fArgs x.fArms = x := by cases x; rfl
theorem MExpr.ext {x y : MExpr} (h0 : x.fKind = y.fKind) (h1 : x.fTrait = y.fTrait) (h2 : x.fName = y.fName) (h3 : x.fN = y.fN) (h4 : x.fType = y.fType) (h5 : x.fArgs = y.fArgs) (h6 : x.fArms = y.fArms) : x = y := by
  rw [← MExpr.eta x, ← MExpr.eta y, h0, h1, h2, h3, h4, h5, h6]
def MArm.fConstructor : MArm → List UInt8 | .mk x _ _ => x
def MArm.fVars : MArm → List (List UInt8) | .mk _ x _ => x
def MArm.fBody : MArm → MExpr | .mk _ _ x => x
theorem MArm.eta (x : MArm) : MArm.mk x.fConstructor x.fVars x.fBody = x := by cases x; rfl
theorem MArm.ext {x y : MArm} (h0 : x.fConstructor = y.fConstructor) (h1 : x.fVars = y.fVars) (h2 : x.fBody = y.fBody) : x = y := by
  rw [← MArm.eta x, ← MArm.eta y, h0, h1, h2]
mutual
def MExpr.enc : MExpr → List D
  | .mk a0 a1 a2 a3 a4 a5 a6 => [.i .i64 a0, .s a1, .s a2, .i .i64 a3] ++ (a4.enc ++ ([.sl (MExpr.encs a5), .sl (MArm.encs a6)]))
def MExpr.encs : List MExpr → List (List D)
  | [] => []
  | x :: xs => x.enc :: MExpr.encs xs
def MArm.enc : MArm → List D
  | .mk a0 a1 a2 => [.s a0, .sl (a1.map encS)] ++ (MExpr.enc a2)
def MArm.encs : List MArm → List (List D)
  | [] => []
  | x :: xs => x.enc :: MArm.encs xs
end
theorem MExpr.encs_map : ∀ l, MExpr.encs l = l.map MExpr.enc
  | [] => rfl
  | x :: xs => by rw [MExpr.encs, List.map_cons, MExpr.encs_map xs]
theorem MArm.encs_map : ∀ l, MArm.encs l = l.map MArm.enc
  | [] => rfl
  | x :: xs => by rw [MArm.encs, List.map_cons, MArm.encs_map xs]
theorem MExpr.enc_eq (x : MExpr) : x.enc = [.i .i64 x.fKind, .s x.fTrait, .s x.fName, .i .i64 x.fN] ++ (x.fType.enc ++ ([.sl (x.fArgs.map MExpr.enc), .sl (x.fArms.map MArm.enc)])) := by
  cases x; simp only [MExpr.enc, MExpr.encs_map, MArm.encs_map, MExpr.fKind, MExpr.fTrait, MExpr.fName, MExpr.fN, MExpr.fType, MExpr.fArgs, MExpr.fArms]
theorem MArm.enc_eq (x : MArm) : x.enc = [.s x.fConstructor, .sl (x.fVars.map encS)] ++ (x.fBody.enc) := by
  cases x; simp only [MArm.enc, MExpr.encs_map, MArm.encs_map, MArm.fConstructor, MArm.fVars, MArm.fBody]
abbrev MExpr.v (x : MExpr) : V := .agg [.d (.i .i64 x.fKind), .d (.s x.fTrait), .d (.s x.fName), .d (.i .i64 x.fN), .d (.i .i64 x.fType.fKind), .d (.s x.fType.fName), .d (.sl (x.fType.fArgs.map MType.enc)), .d (.sl (x.fArgs.map MExpr.enc)), .d (.sl (x.fArms.map MArm.enc))]
theorem MExpr.v_eq (x : MExpr) : .agg (x.enc.map .d) = x.v := by
  simp only [MExpr.enc_eq, MType.enc_eq, List.map_cons, List.map_nil, List.cons_append, List.nil_append, List.map_append]
theorem MExpr.enc_length (x : MExpr) : x.enc.length = 9 := by
  simp only [MExpr.enc_eq, MType.enc_length, List.length_append, List.length_cons, List.length_nil]
def MExpr.sz (x : MExpr) : Nat := szRow x.enc
theorem MExpr.sz_def (x : MExpr) : szRow x.enc = x.sz := rfl
theorem MExpr.lt_Args (x : MExpr) : SizeOf.sizeOf x.fArgs < SizeOf.sizeOf x := by cases x; simp [MExpr.fArgs]; omega
theorem MExpr.lt_Arms (x : MExpr) : SizeOf.sizeOf x.fArms < SizeOf.sizeOf x := by cases x; simp [MExpr.fArms]; omega
abbrev MArm.v (x : MArm) : V := .agg [.d (.s x.fConstructor), .d (.sl (x.fVars.map encS)), .d (.i .i64 x.fBody.fKind), .d (.s x.fBody.fTrait), .d (.s x.fBody.fName), .d (.i .i64 x.fBody.fN), .d (.i .i64 x.fBody.fType.fKind), .d (.s x.fBody.fType.fName), .d (.sl (x.fBody.fType.fArgs.map MType.enc)), .d (.sl (x.fBody.fArgs.map MExpr.enc)), .d (.sl (x.fBody.fArms.map MArm.enc))]
theorem MArm.v_eq (x : MArm) : .agg (x.enc.map .d) = x.v := by
  simp only [MArm.enc_eq, MExpr.enc_eq, MType.enc_eq, List.map_cons, List.map_nil, List.cons_append, List.nil_append, List.map_append]
theorem MArm.enc_length (x : MArm) : x.enc.length = 11 := by
  simp only [MArm.enc_eq, MExpr.enc_length, List.length_append, List.length_cons, List.length_nil]
def MArm.sz (x : MArm) : Nat := szRow x.enc
theorem MArm.sz_def (x : MArm) : szRow x.enc = x.sz := rfl
theorem MArm.lt_Body (x : MArm) : SizeOf.sizeOf x.fBody < SizeOf.sizeOf x := by cases x; simp [MArm.fBody]; omega

inductive MSExpr where
  | mk (fAtom : List UInt8) (fList : List MSExpr)
def MSExpr.fAtom : MSExpr → List UInt8 | .mk x _ => x
def MSExpr.fList : MSExpr → List MSExpr | .mk _ x => x
theorem MSExpr.eta (x : MSExpr) : MSExpr.mk x.fAtom x.fList = x := by cases x; rfl
theorem MSExpr.ext {x y : MSExpr} (h0 : x.fAtom = y.fAtom) (h1 : x.fList = y.fList) : x = y := by
  rw [← MSExpr.eta x, ← MSExpr.eta y, h0, h1]
mutual
def MSExpr.enc : MSExpr → List D
  | .mk a0 a1 => [.s a0, .sl (MSExpr.encs a1)]
def MSExpr.encs : List MSExpr → List (List D)
  | [] => []
  | x :: xs => x.enc :: MSExpr.encs xs
end
theorem MSExpr.encs_map : ∀ l, MSExpr.encs l = l.map MSExpr.enc
  | [] => rfl
  | x :: xs => by rw [MSExpr.encs, List.map_cons, MSExpr.encs_map xs]
theorem MSExpr.enc_eq (x : MSExpr) : x.enc = [.s x.fAtom, .sl (x.fList.map MSExpr.enc)] := by
  cases x; simp only [MSExpr.enc, MSExpr.encs_map, MSExpr.fAtom, MSExpr.fList]
abbrev MSExpr.v (x : MSExpr) : V := .agg [.d (.s x.fAtom), .d (.sl (x.fList.map MSExpr.enc))]
theorem MSExpr.v_eq (x : MSExpr) : .agg (x.enc.map .d) = x.v := by
  simp only [MSExpr.enc_eq, List.map_cons, List.map_nil, List.cons_append, List.nil_append, List.map_append]
theorem MSExpr.enc_length (x : MSExpr) : x.enc.length = 2 := by
  simp only [MSExpr.enc_eq, List.length_append, List.length_cons, List.length_nil]
def MSExpr.sz (x : MSExpr) : Nat := szRow x.enc
theorem MSExpr.sz_def (x : MSExpr) : szRow x.enc = x.sz := rfl
theorem MSExpr.lt_List (x : MSExpr) : SizeOf.sizeOf x.fList < SizeOf.sizeOf x := by cases x; simp [MSExpr.fList]; omega

structure MSignature where
  fName : List UInt8
  fParams : List MType
  fResult : MType
  fHasDefault : Bool
  fVars : List (List UInt8)
  fBody : MExpr
def MSignature.enc (x : MSignature) : List D := [.s x.fName, .sl (x.fParams.map MType.enc)] ++ (x.fResult.enc ++ ([.b x.fHasDefault, .sl (x.fVars.map encS)] ++ (x.fBody.enc)))
theorem MSignature.enc_eq (x : MSignature) : x.enc = [.s x.fName, .sl (x.fParams.map MType.enc)] ++ (x.fResult.enc ++ ([.b x.fHasDefault, .sl (x.fVars.map encS)] ++ (x.fBody.enc))) := rfl
theorem MSignature.eta (x : MSignature) : MSignature.mk x.fName x.fParams x.fResult x.fHasDefault x.fVars x.fBody = x := rfl
theorem MSignature.ext' {x y : MSignature} (h0 : x.fName = y.fName) (h1 : x.fParams = y.fParams) (h2 : x.fResult = y.fResult) (h3 : x.fHasDefault = y.fHasDefault) (h4 : x.fVars = y.fVars) (h5 : x.fBody = y.fBody) : x = y := by
  cases x; cases y; simp_all
abbrev MSignature.v (x : MSignature) : V := .agg [.d (.s x.fName), .d (.sl (x.fParams.map MType.enc)), .d (.i .i64 x.fResult.fKind), .d (.s x.fResult.fName), .d (.sl (x.fResult.fArgs.map MType.enc)), .d (.b x.fHasDefault), .d (.sl (x.fVars.map encS)), .d (.i .i64 x.fBody.fKind), .d (.s x.fBody.fTrait), .d (.s x.fBody.fName), .d (.i .i64 x.fBody.fN), .d (.i .i64 x.fBody.fType.fKind), .d (.s x.fBody.fType.fName), .d (.sl (x.fBody.fType.fArgs.map MType.enc)), .d (.sl (x.fBody.fArgs.map MExpr.enc)), .d (.sl (x.fBody.fArms.map MArm.enc))]
theorem MSignature.v_eq (x : MSignature) : .agg (x.enc.map .d) = x.v := by
  simp only [MSignature.enc_eq, MExpr.enc_eq, MType.enc_eq, List.map_cons, List.map_nil, List.cons_append, List.nil_append, List.map_append]
theorem MSignature.enc_length (x : MSignature) : x.enc.length = 16 := by
  simp only [MSignature.enc_eq, MExpr.enc_length, MType.enc_length, List.length_append, List.length_cons, List.length_nil]
def MSignature.sz (x : MSignature) : Nat := szRow x.enc
theorem MSignature.sz_def (x : MSignature) : szRow x.enc = x.sz := rfl

structure MTrait where
  fName : List UInt8
  fSupertraits : List (List UInt8)
  fAuto : Bool
  fAssoc : Bool
  fSignatures : List MSignature
def MTrait.enc (x : MTrait) : List D := [.s x.fName, .sl (x.fSupertraits.map encS), .b x.fAuto, .b x.fAssoc, .sl (x.fSignatures.map MSignature.enc)]
theorem MTrait.enc_eq (x : MTrait) : x.enc = [.s x.fName, .sl (x.fSupertraits.map encS), .b x.fAuto, .b x.fAssoc, .sl (x.fSignatures.map MSignature.enc)] := rfl
theorem MTrait.eta (x : MTrait) : MTrait.mk x.fName x.fSupertraits x.fAuto x.fAssoc x.fSignatures = x := rfl
theorem MTrait.ext' {x y : MTrait} (h0 : x.fName = y.fName) (h1 : x.fSupertraits = y.fSupertraits) (h2 : x.fAuto = y.fAuto) (h3 : x.fAssoc = y.fAssoc) (h4 : x.fSignatures = y.fSignatures) : x = y := by
  cases x; cases y; simp_all
abbrev MTrait.v (x : MTrait) : V := .agg [.d (.s x.fName), .d (.sl (x.fSupertraits.map encS)), .d (.b x.fAuto), .d (.b x.fAssoc), .d (.sl (x.fSignatures.map MSignature.enc))]
theorem MTrait.v_eq (x : MTrait) : .agg (x.enc.map .d) = x.v := by
  simp only [MTrait.enc_eq, List.map_cons, List.map_nil, List.cons_append, List.nil_append, List.map_append]
theorem MTrait.enc_length (x : MTrait) : x.enc.length = 5 := by
  simp only [MTrait.enc_eq, List.length_append, List.length_cons, List.length_nil]
def MTrait.sz (x : MTrait) : Nat := szRow x.enc
theorem MTrait.sz_def (x : MTrait) : szRow x.enc = x.sz := rfl

structure MConstructor where
  fName : List UInt8
  fFields : List MType
def MConstructor.enc (x : MConstructor) : List D := [.s x.fName, .sl (x.fFields.map MType.enc)]
theorem MConstructor.enc_eq (x : MConstructor) : x.enc = [.s x.fName, .sl (x.fFields.map MType.enc)] := rfl
theorem MConstructor.eta (x : MConstructor) : MConstructor.mk x.fName x.fFields = x := rfl
theorem MConstructor.ext' {x y : MConstructor} (h0 : x.fName = y.fName) (h1 : x.fFields = y.fFields) : x = y := by
  cases x; cases y; simp_all
abbrev MConstructor.v (x : MConstructor) : V := .agg [.d (.s x.fName), .d (.sl (x.fFields.map MType.enc))]
theorem MConstructor.v_eq (x : MConstructor) : .agg (x.enc.map .d) = x.v := by
  simp only [MConstructor.enc_eq, List.map_cons, List.map_nil, List.cons_append, List.nil_append, List.map_append]
theorem MConstructor.enc_length (x : MConstructor) : x.enc.length = 2 := by
  simp only [MConstructor.enc_eq, List.length_append, List.length_cons, List.length_nil]
def MConstructor.sz (x : MConstructor) : Nat := szRow x.enc
theorem MConstructor.sz_def (x : MConstructor) : szRow x.enc = x.sz := rfl

structure MDataType where
  fName : List UInt8
  fVars : List (List UInt8)
  fConstructors : List MConstructor
def MDataType.enc (x : MDataType) : List D := [.s x.fName, .sl (x.fVars.map encS), .sl (x.fConstructors.map MConstructor.enc)]
theorem MDataType.enc_eq (x : MDataType) : x.enc = [.s x.fName, .sl (x.fVars.map encS), .sl (x.fConstructors.map MConstructor.enc)] := rfl
theorem MDataType.eta (x : MDataType) : MDataType.mk x.fName x.fVars x.fConstructors = x := rfl
theorem MDataType.ext' {x y : MDataType} (h0 : x.fName = y.fName) (h1 : x.fVars = y.fVars) (h2 : x.fConstructors = y.fConstructors) : x = y := by
  cases x; cases y; simp_all
abbrev MDataType.v (x : MDataType) : V := .agg [.d (.s x.fName), .d (.sl (x.fVars.map encS)), .d (.sl (x.fConstructors.map MConstructor.enc))]
theorem MDataType.v_eq (x : MDataType) : .agg (x.enc.map .d) = x.v := by
  simp only [MDataType.enc_eq, List.map_cons, List.map_nil, List.cons_append, List.nil_append, List.map_append]
theorem MDataType.enc_length (x : MDataType) : x.enc.length = 3 := by
  simp only [MDataType.enc_eq, List.length_append, List.length_cons, List.length_nil]
def MDataType.sz (x : MDataType) : Nat := szRow x.enc
theorem MDataType.sz_def (x : MDataType) : szRow x.enc = x.sz := rfl

structure MMethod where
  fName : List UInt8
  fVars : List (List UInt8)
  fBody : MExpr
def MMethod.enc (x : MMethod) : List D := [.s x.fName, .sl (x.fVars.map encS)] ++ (x.fBody.enc)
theorem MMethod.enc_eq (x : MMethod) : x.enc = [.s x.fName, .sl (x.fVars.map encS)] ++ (x.fBody.enc) := rfl
theorem MMethod.eta (x : MMethod) : MMethod.mk x.fName x.fVars x.fBody = x := rfl
theorem MMethod.ext' {x y : MMethod} (h0 : x.fName = y.fName) (h1 : x.fVars = y.fVars) (h2 : x.fBody = y.fBody) : x = y := by
  cases x; cases y; simp_all
abbrev MMethod.v (x : MMethod) : V := .agg [.d (.s x.fName), .d (.sl (x.fVars.map encS)), .d (.i .i64 x.fBody.fKind), .d (.s x.fBody.fTrait), .d (.s x.fBody.fName), .d (.i .i64 x.fBody.fN), .d (.i .i64 x.fBody.fType.fKind), .d (.s x.fBody.fType.fName), .d (.sl (x.fBody.fType.fArgs.map MType.enc)), .d (.sl (x.fBody.fArgs.map MExpr.enc)), .d (.sl (x.fBody.fArms.map MArm.enc))]
theorem MMethod.v_eq (x : MMethod) : .agg (x.enc.map .d) = x.v := by
  simp only [MMethod.enc_eq, MExpr.enc_eq, MType.enc_eq, List.map_cons, List.map_nil, List.cons_append, List.nil_append, List.map_append]
theorem MMethod.enc_length (x : MMethod) : x.enc.length = 11 := by
  simp only [MMethod.enc_eq, MExpr.enc_length, List.length_append, List.length_cons, List.length_nil]
def MMethod.sz (x : MMethod) : Nat := szRow x.enc
theorem MMethod.sz_def (x : MMethod) : szRow x.enc = x.sz := rfl

structure MInstance where
  fTrait : List UInt8
  fVars : List (List UInt8)
  fHead : MType
  fWhere : List MBound
  fDefault : Bool
  fHasAssoc : Bool
  fAssoc : MType
  fMethods : List MMethod
def MInstance.enc (x : MInstance) : List D := [.s x.fTrait, .sl (x.fVars.map encS)] ++ (x.fHead.enc ++ ([.sl (x.fWhere.map MBound.enc), .b x.fDefault, .b x.fHasAssoc] ++ (x.fAssoc.enc ++ ([.sl (x.fMethods.map MMethod.enc)]))))
theorem MInstance.enc_eq (x : MInstance) : x.enc = [.s x.fTrait, .sl (x.fVars.map encS)] ++ (x.fHead.enc ++ ([.sl (x.fWhere.map MBound.enc), .b x.fDefault, .b x.fHasAssoc] ++ (x.fAssoc.enc ++ ([.sl (x.fMethods.map MMethod.enc)])))) := rfl
theorem MInstance.eta (x : MInstance) : MInstance.mk x.fTrait x.fVars x.fHead x.fWhere x.fDefault x.fHasAssoc x.fAssoc x.fMethods = x := rfl
theorem MInstance.ext' {x y : MInstance} (h0 : x.fTrait = y.fTrait) (h1 : x.fVars = y.fVars) (h2 : x.fHead = y.fHead) (h3 : x.fWhere = y.fWhere) (h4 : x.fDefault = y.fDefault) (h5 : x.fHasAssoc = y.fHasAssoc) (h6 : x.fAssoc = y.fAssoc) (h7 : x.fMethods = y.fMethods) : x = y := by
  cases x; cases y; simp_all
abbrev MInstance.v (x : MInstance) : V := .agg [.d (.s x.fTrait), .d (.sl (x.fVars.map encS)), .d (.i .i64 x.fHead.fKind), .d (.s x.fHead.fName), .d (.sl (x.fHead.fArgs.map MType.enc)), .d (.sl (x.fWhere.map MBound.enc)), .d (.b x.fDefault), .d (.b x.fHasAssoc), .d (.i .i64 x.fAssoc.fKind), .d (.s x.fAssoc.fName), .d (.sl (x.fAssoc.fArgs.map MType.enc)), .d (.sl (x.fMethods.map MMethod.enc))]
theorem MInstance.v_eq (x : MInstance) : .agg (x.enc.map .d) = x.v := by
  simp only [MInstance.enc_eq, MType.enc_eq, List.map_cons, List.map_nil, List.cons_append, List.nil_append, List.map_append]
theorem MInstance.enc_length (x : MInstance) : x.enc.length = 12 := by
  simp only [MInstance.enc_eq, MType.enc_length, List.length_append, List.length_cons, List.length_nil]
def MInstance.sz (x : MInstance) : Nat := szRow x.enc
theorem MInstance.sz_def (x : MInstance) : szRow x.enc = x.sz := rfl

structure MParam where
  fName : List UInt8
  fType : MType
def MParam.enc (x : MParam) : List D := [.s x.fName] ++ (x.fType.enc)
theorem MParam.enc_eq (x : MParam) : x.enc = [.s x.fName] ++ (x.fType.enc) := rfl
theorem MParam.eta (x : MParam) : MParam.mk x.fName x.fType = x := rfl
theorem MParam.ext' {x y : MParam} (h0 : x.fName = y.fName) (h1 : x.fType = y.fType) : x = y := by
  cases x; cases y; simp_all
abbrev MParam.v (x : MParam) : V := .agg [.d (.s x.fName), .d (.i .i64 x.fType.fKind), .d (.s x.fType.fName), .d (.sl (x.fType.fArgs.map MType.enc))]
theorem MParam.v_eq (x : MParam) : .agg (x.enc.map .d) = x.v := by
  simp only [MParam.enc_eq, MType.enc_eq, List.map_cons, List.map_nil, List.cons_append, List.nil_append, List.map_append]
theorem MParam.enc_length (x : MParam) : x.enc.length = 4 := by
  simp only [MParam.enc_eq, MType.enc_length, List.length_append, List.length_cons, List.length_nil]
def MParam.sz (x : MParam) : Nat := szRow x.enc
theorem MParam.sz_def (x : MParam) : szRow x.enc = x.sz := rfl

structure MFunction where
  fName : List UInt8
  fVars : List (List UInt8)
  fWhere : List MBound
  fParams : List MParam
  fResult : MType
  fBody : MExpr
def MFunction.enc (x : MFunction) : List D := [.s x.fName, .sl (x.fVars.map encS), .sl (x.fWhere.map MBound.enc), .sl (x.fParams.map MParam.enc)] ++ (x.fResult.enc ++ (x.fBody.enc))
theorem MFunction.enc_eq (x : MFunction) : x.enc = [.s x.fName, .sl (x.fVars.map encS), .sl (x.fWhere.map MBound.enc), .sl (x.fParams.map MParam.enc)] ++ (x.fResult.enc ++ (x.fBody.enc)) := rfl
theorem MFunction.eta (x : MFunction) : MFunction.mk x.fName x.fVars x.fWhere x.fParams x.fResult x.fBody = x := rfl
theorem MFunction.ext' {x y : MFunction} (h0 : x.fName = y.fName) (h1 : x.fVars = y.fVars) (h2 : x.fWhere = y.fWhere) (h3 : x.fParams = y.fParams) (h4 : x.fResult = y.fResult) (h5 : x.fBody = y.fBody) : x = y := by
  cases x; cases y; simp_all
abbrev MFunction.v (x : MFunction) : V := .agg [.d (.s x.fName), .d (.sl (x.fVars.map encS)), .d (.sl (x.fWhere.map MBound.enc)), .d (.sl (x.fParams.map MParam.enc)), .d (.i .i64 x.fResult.fKind), .d (.s x.fResult.fName), .d (.sl (x.fResult.fArgs.map MType.enc)), .d (.i .i64 x.fBody.fKind), .d (.s x.fBody.fTrait), .d (.s x.fBody.fName), .d (.i .i64 x.fBody.fN), .d (.i .i64 x.fBody.fType.fKind), .d (.s x.fBody.fType.fName), .d (.sl (x.fBody.fType.fArgs.map MType.enc)), .d (.sl (x.fBody.fArgs.map MExpr.enc)), .d (.sl (x.fBody.fArms.map MArm.enc))]
theorem MFunction.v_eq (x : MFunction) : .agg (x.enc.map .d) = x.v := by
  simp only [MFunction.enc_eq, MExpr.enc_eq, MType.enc_eq, List.map_cons, List.map_nil, List.cons_append, List.nil_append, List.map_append]
theorem MFunction.enc_length (x : MFunction) : x.enc.length = 16 := by
  simp only [MFunction.enc_eq, MExpr.enc_length, MType.enc_length, List.length_append, List.length_cons, List.length_nil]
def MFunction.sz (x : MFunction) : Nat := szRow x.enc
theorem MFunction.sz_def (x : MFunction) : szRow x.enc = x.sz := rfl

structure MPackage where
  fName : List UInt8
  fDeps : List (List UInt8)
  fTraits : List MTrait
  fDataTypes : List MDataType
  fInstances : List MInstance
  fFunctions : List MFunction
def MPackage.enc (x : MPackage) : List D := [.s x.fName, .sl (x.fDeps.map encS), .sl (x.fTraits.map MTrait.enc), .sl (x.fDataTypes.map MDataType.enc), .sl (x.fInstances.map MInstance.enc), .sl (x.fFunctions.map MFunction.enc)]
theorem MPackage.enc_eq (x : MPackage) : x.enc = [.s x.fName, .sl (x.fDeps.map encS), .sl (x.fTraits.map MTrait.enc), .sl (x.fDataTypes.map MDataType.enc), .sl (x.fInstances.map MInstance.enc), .sl (x.fFunctions.map MFunction.enc)] := rfl
theorem MPackage.eta (x : MPackage) : MPackage.mk x.fName x.fDeps x.fTraits x.fDataTypes x.fInstances x.fFunctions = x := rfl
theorem MPackage.ext' {x y : MPackage} (h0 : x.fName = y.fName) (h1 : x.fDeps = y.fDeps) (h2 : x.fTraits = y.fTraits) (h3 : x.fDataTypes = y.fDataTypes) (h4 : x.fInstances = y.fInstances) (h5 : x.fFunctions = y.fFunctions) : x = y := by
  cases x; cases y; simp_all
abbrev MPackage.v (x : MPackage) : V := .agg [.d (.s x.fName), .d (.sl (x.fDeps.map encS)), .d (.sl (x.fTraits.map MTrait.enc)), .d (.sl (x.fDataTypes.map MDataType.enc)), .d (.sl (x.fInstances.map MInstance.enc)), .d (.sl (x.fFunctions.map MFunction.enc))]
theorem MPackage.v_eq (x : MPackage) : .agg (x.enc.map .d) = x.v := by
  simp only [MPackage.enc_eq, List.map_cons, List.map_nil, List.cons_append, List.nil_append, List.map_append]
theorem MPackage.enc_length (x : MPackage) : x.enc.length = 6 := by
  simp only [MPackage.enc_eq, List.length_append, List.length_cons, List.length_nil]
def MPackage.sz (x : MPackage) : Nat := szRow x.enc
theorem MPackage.sz_def (x : MPackage) : szRow x.enc = x.sz := rfl

structure MProgram where
  fPackages : List MPackage
def MProgram.enc (x : MProgram) : List D := [.sl (x.fPackages.map MPackage.enc)]
theorem MProgram.enc_eq (x : MProgram) : x.enc = [.sl (x.fPackages.map MPackage.enc)] := rfl
theorem MProgram.eta (x : MProgram) : MProgram.mk x.fPackages = x := rfl
theorem MProgram.ext' {x y : MProgram} (h0 : x.fPackages = y.fPackages) : x = y := by
  cases x; cases y; simp_all
abbrev MProgram.v (x : MProgram) : V := .agg [.d (.sl (x.fPackages.map MPackage.enc))]
theorem MProgram.v_eq (x : MProgram) : .agg (x.enc.map .d) = x.v := by
  simp only [MProgram.enc_eq, List.map_cons, List.map_nil, List.cons_append, List.nil_append, List.map_append]
theorem MProgram.enc_length (x : MProgram) : x.enc.length = 1 := by
  simp only [MProgram.enc_eq, List.length_append, List.length_cons, List.length_nil]
def MProgram.sz (x : MProgram) : Nat := szRow x.enc
theorem MProgram.sz_def (x : MProgram) : szRow x.enc = x.sz := rfl

structure MInstanceRef where
  fPackage : Int
  fAt : Int
def MInstanceRef.enc (x : MInstanceRef) : List D := [.i .i64 x.fPackage, .i .i64 x.fAt]
theorem MInstanceRef.enc_eq (x : MInstanceRef) : x.enc = [.i .i64 x.fPackage, .i .i64 x.fAt] := rfl
theorem MInstanceRef.eta (x : MInstanceRef) : MInstanceRef.mk x.fPackage x.fAt = x := rfl
theorem MInstanceRef.ext' {x y : MInstanceRef} (h0 : x.fPackage = y.fPackage) (h1 : x.fAt = y.fAt) : x = y := by
  cases x; cases y; simp_all
abbrev MInstanceRef.v (x : MInstanceRef) : V := .agg [.d (.i .i64 x.fPackage), .d (.i .i64 x.fAt)]
theorem MInstanceRef.v_eq (x : MInstanceRef) : .agg (x.enc.map .d) = x.v := by
  simp only [MInstanceRef.enc_eq, List.map_cons, List.map_nil, List.cons_append, List.nil_append, List.map_append]
theorem MInstanceRef.enc_length (x : MInstanceRef) : x.enc.length = 2 := by
  simp only [MInstanceRef.enc_eq, List.length_append, List.length_cons, List.length_nil]
def MInstanceRef.sz (x : MInstanceRef) : Nat := szRow x.enc
theorem MInstanceRef.sz_def (x : MInstanceRef) : szRow x.enc = x.sz := rfl

attribute [go_sem] MType.enc_eq MBinding.enc_eq MBound.enc_eq MExpr.enc_eq MArm.enc_eq MSExpr.enc_eq MSignature.enc_eq MTrait.enc_eq MConstructor.enc_eq MDataType.enc_eq MMethod.enc_eq MInstance.enc_eq MParam.enc_eq MFunction.enc_eq MPackage.enc_eq MProgram.enc_eq MInstanceRef.enc_eq encS encI
end Go.Ab
