/-
  SEVERAL TEXTS IN ONE (merged by program): contracts and models, each with its own heading.
-/
import Derived.Test.YtlmhknhlmicmeaaGreatDoorPartRobB
import Derived.Test.YtlmhknhlmicmeaaGreatDoorChecked
import Derived.Eval
import Derived.KernelRfl
set_option linter.unusedSimpArgs false
set_option linter.unusedVariables false
set_option maxRecDepth 4000
namespace Go.Ab
def encS(s:List UInt8):List D:=[.s s]
def encI(n:Int):List D:=[.i .i64 n]
inductive aj where
 |mk (aH:Int) (fName:List UInt8) (fArgs:List aj)
def aj.aH:aj→Int| .mk x _ _=>x
def aj.fName:aj→List UInt8| .mk _ x _=>x
def aj.fArgs:aj→List aj| .mk _ _ x=>x
theorem aj.eta(x:aj):aj.mk x.aH x.fName x.fArgs=x:=by cases x;rfl
theorem aj.ext{x y:aj}(h0:x.aH=y.aH)(h1:x.fName=y.fName)(h2:x.fArgs=y.fArgs):x=y:=by
 rw[←aj.eta x,←aj.eta y,h0,h1,h2]
mutual
def aj.enc:aj→List D
 | .mk a0 a1 a2=>[.i .i64 a0,.s a1,.sl (aj.encs a2)]
def aj.encs:List aj→List (List D)
 |[]=>[]
 |x::xs=>x.enc::aj.encs xs
end
theorem aj.iK:∀l,aj.encs l=l.map aj.enc
 |[]=>rfl
 |x::xs=>by rw[aj.encs,List.map_cons,aj.iK xs]
theorem aj.aG(x:aj):x.enc=[.i .i64 x.aH,.s x.fName,.sl (x.fArgs.map aj.enc)]:=by
 cases x;simp only[aj.enc,aj.iK,aj.aH,aj.fName,aj.fArgs]
abbrev aj.v (x:aj):V:=.agg [.d (.i .i64 x.aH),.d (.s x.fName),.d (.sl (x.fArgs.map aj.enc))]
theorem aj.qz(x:aj): .agg (x.enc.map .d)=x.v:=by
 simp only[aj.aG,List.map_cons,List.map_nil,List.cons_append,List.nil_append,List.map_append]
theorem aj.bH(x:aj):x.enc.length=3:=by
 simp only[aj.aG,List.length_append,List.length_cons,List.length_nil]
def aj.sz(x:aj):Nat:=bQ x.enc
theorem aj.dP(x:aj):bQ x.enc=x.sz:=rfl
theorem aj.fF(x:aj):SizeOf.sizeOf x.fArgs<SizeOf.sizeOf x:=by cases x;simp[aj.fArgs];omega
structure dn where
 fVar:List UInt8
 fType:aj
def dn.enc(x:dn):List D:=[.s x.fVar]++(x.fType.enc)
theorem dn.aG(x:dn):x.enc=[.s x.fVar]++(x.fType.enc):=rfl
theorem dn.eta(x:dn):dn.mk x.fVar x.fType=x:=rfl
theorem dn.ext'{x y:dn}(h0:x.fVar=y.fVar)(h1:x.fType=y.fType):x=y:=by
 cases x;cases y;simp_all
abbrev dn.v (x:dn):V:=.agg [.d (.s x.fVar),.d (.i .i64 x.fType.aH),.d (.s x.fType.fName),.d (.sl (x.fType.fArgs.map aj.enc))]
theorem dn.qz(x:dn): .agg (x.enc.map .d)=x.v:=by
 simp only[dn.aG,aj.aG,List.map_cons,List.map_nil,List.cons_append,List.nil_append,List.map_append]
theorem dn.bH(x:dn):x.enc.length=4:=by
 simp only[dn.aG,aj.bH,List.length_append,List.length_cons,List.length_nil]
def dn.sz(x:dn):Nat:=bQ x.enc
theorem dn.dP(x:dn):bQ x.enc=x.sz:=rfl
structure aO where
 aW:List UInt8
 fType:aj
def aO.enc(x:aO):List D:=[.s x.aW]++(x.fType.enc)
theorem aO.aG(x:aO):x.enc=[.s x.aW]++(x.fType.enc):=rfl
theorem aO.eta(x:aO):aO.mk x.aW x.fType=x:=rfl
theorem aO.ext'{x y:aO}(h0:x.aW=y.aW)(h1:x.fType=y.fType):x=y:=by
 cases x;cases y;simp_all
abbrev aO.v (x:aO):V:=.agg [.d (.s x.aW),.d (.i .i64 x.fType.aH),.d (.s x.fType.fName),.d (.sl (x.fType.fArgs.map aj.enc))]
theorem aO.qz(x:aO): .agg (x.enc.map .d)=x.v:=by
 simp only[aO.aG,aj.aG,List.map_cons,List.map_nil,List.cons_append,List.nil_append,List.map_append]
theorem aO.bH(x:aO):x.enc.length=4:=by
 simp only[aO.aG,aj.bH,List.length_append,List.length_cons,List.length_nil]
def aO.sz(x:aO):Nat:=bQ x.enc
theorem aO.dP(x:aO):bQ x.enc=x.sz:=rfl
mutual
inductive ay where
 |mk (aH:Int) (aW:List UInt8) (fName:List UInt8) (fN:Int) (fType:aj) (fArgs:List ay) (aL:List aJ)
inductive aJ where
 |mk (bR:List UInt8) (aC:List (List UInt8)) (fBody:ay)
end
def ay.aH:ay→Int| .mk x _ _ _ _ _ _=>x
def ay.aW:ay→List UInt8| .mk _ x _ _ _ _ _=>x
def ay.fName:ay→List UInt8| .mk _ _ x _ _ _ _=>x
def ay.fN:ay→Int| .mk _ _ _ x _ _ _=>x
def ay.fType:ay→aj| .mk _ _ _ _ x _ _=>x
def ay.fArgs:ay→List ay| .mk _ _ _ _ _ x _=>x
def ay.aL:ay→List aJ| .mk _ _ _ _ _ _ x=>x
theorem ay.eta(x:ay):ay.mk x.aH x.aW x.fName x.fN x.fType x.fArgs x.aL=x:=by cases x;rfl
theorem ay.ext{x y:ay}(h0:x.aH=y.aH)(h1:x.aW=y.aW)(h2:x.fName=y.fName)(h3:x.fN=y.fN)(h4:x.fType=y.fType)(h5:x.fArgs=y.fArgs)(h6:x.aL=y.aL):x=y:=by
 rw[←ay.eta x,←ay.eta y,h0,h1,h2,h3,h4,h5,h6]
def aJ.bR:aJ→List UInt8| .mk x _ _=>x
def aJ.aC:aJ→List (List UInt8)| .mk _ x _=>x
def aJ.fBody:aJ→ay| .mk _ _ x=>x
theorem aJ.eta(x:aJ):aJ.mk x.bR x.aC x.fBody=x:=by cases x;rfl
theorem aJ.ext{x y:aJ}(h0:x.bR=y.bR)(h1:x.aC=y.aC)(h2:x.fBody=y.fBody):x=y:=by
 rw[←aJ.eta x,←aJ.eta y,h0,h1,h2]
mutual
def ay.enc:ay→List D
 | .mk a0 a1 a2 a3 a4 a5 a6=>[.i .i64 a0,.s a1,.s a2,.i .i64 a3]++(a4.enc++([.sl (ay.encs a5),.sl (aJ.encs a6)]))
def ay.encs:List ay→List (List D)
 |[]=>[]
 |x::xs=>x.enc::ay.encs xs
def aJ.enc:aJ→List D
 | .mk a0 a1 a2=>[.s a0,.sl (a1.map encS)]++(ay.enc a2)
def aJ.encs:List aJ→List (List D)
 |[]=>[]
 |x::xs=>x.enc::aJ.encs xs
end
theorem ay.iK:∀l,ay.encs l=l.map ay.enc
 |[]=>rfl
 |x::xs=>by rw[ay.encs,List.map_cons,ay.iK xs]
theorem aJ.iK:∀l,aJ.encs l=l.map aJ.enc
 |[]=>rfl
 |x::xs=>by rw[aJ.encs,List.map_cons,aJ.iK xs]
theorem ay.aG(x:ay):x.enc=[.i .i64 x.aH,.s x.aW,.s x.fName,.i .i64 x.fN]++(x.fType.enc++([.sl (x.fArgs.map ay.enc),.sl (x.aL.map aJ.enc)])):=by
 cases x;simp only[ay.enc,ay.iK,aJ.iK,ay.aH,ay.aW,ay.fName,ay.fN,ay.fType,ay.fArgs,ay.aL]
theorem aJ.aG(x:aJ):x.enc=[.s x.bR,.sl (x.aC.map encS)]++(x.fBody.enc):=by
 cases x;simp only[aJ.enc,ay.iK,aJ.iK,aJ.bR,aJ.aC,aJ.fBody]
abbrev ay.v (x:ay):V:=.agg [.d (.i .i64 x.aH),.d (.s x.aW),.d (.s x.fName),.d (.i .i64 x.fN),.d (.i .i64 x.fType.aH),.d (.s x.fType.fName),.d (.sl (x.fType.fArgs.map aj.enc)),.d (.sl (x.fArgs.map ay.enc)),.d (.sl (x.aL.map aJ.enc))]
theorem ay.qz(x:ay): .agg (x.enc.map .d)=x.v:=by
 simp only[ay.aG,aj.aG,List.map_cons,List.map_nil,List.cons_append,List.nil_append,List.map_append]
theorem ay.bH(x:ay):x.enc.length=9:=by
 simp only[ay.aG,aj.bH,List.length_append,List.length_cons,List.length_nil]
def ay.sz(x:ay):Nat:=bQ x.enc
theorem ay.dP(x:ay):bQ x.enc=x.sz:=rfl
theorem ay.fF(x:ay):SizeOf.sizeOf x.fArgs<SizeOf.sizeOf x:=by cases x;simp[ay.fArgs];omega
theorem ay.mK(x:ay):SizeOf.sizeOf x.aL<SizeOf.sizeOf x:=by cases x;simp[ay.aL];omega
abbrev aJ.v (x:aJ):V:=.agg [.d (.s x.bR),.d (.sl (x.aC.map encS)),.d (.i .i64 x.fBody.aH),.d (.s x.fBody.aW),.d (.s x.fBody.fName),.d (.i .i64 x.fBody.fN),.d (.i .i64 x.fBody.fType.aH),.d (.s x.fBody.fType.fName),.d (.sl (x.fBody.fType.fArgs.map aj.enc)),.d (.sl (x.fBody.fArgs.map ay.enc)),.d (.sl (x.fBody.aL.map aJ.enc))]
theorem aJ.qz(x:aJ): .agg (x.enc.map .d)=x.v:=by
 simp only[aJ.aG,ay.aG,aj.aG,List.map_cons,List.map_nil,List.cons_append,List.nil_append,List.map_append]
theorem aJ.bH(x:aJ):x.enc.length=11:=by
 simp only[aJ.aG,ay.bH,List.length_append,List.length_cons,List.length_nil]
def aJ.sz(x:aJ):Nat:=bQ x.enc
theorem aJ.dP(x:aJ):bQ x.enc=x.sz:=rfl
theorem aJ.lU(x:aJ):SizeOf.sizeOf x.fBody<SizeOf.sizeOf x:=by cases x;simp[aJ.fBody];omega
inductive ah where
 |mk (aU:List UInt8) (ak:List ah)
def ah.aU:ah→List UInt8| .mk x _=>x
def ah.ak:ah→List ah| .mk _ x=>x
theorem ah.eta(x:ah):ah.mk x.aU x.ak=x:=by cases x;rfl
theorem ah.ext{x y:ah}(h0:x.aU=y.aU)(h1:x.ak=y.ak):x=y:=by
 rw[←ah.eta x,←ah.eta y,h0,h1]
mutual
def ah.enc:ah→List D
 | .mk a0 a1=>[.s a0,.sl (ah.encs a1)]
def ah.encs:List ah→List (List D)
 |[]=>[]
 |x::xs=>x.enc::ah.encs xs
end
theorem ah.iK:∀l,ah.encs l=l.map ah.enc
 |[]=>rfl
 |x::xs=>by rw[ah.encs,List.map_cons,ah.iK xs]
theorem ah.aG(x:ah):x.enc=[.s x.aU,.sl (x.ak.map ah.enc)]:=by
 cases x;simp only[ah.enc,ah.iK,ah.aU,ah.ak]
abbrev ah.v (x:ah):V:=.agg [.d (.s x.aU),.d (.sl (x.ak.map ah.enc))]
theorem ah.qz(x:ah): .agg (x.enc.map .d)=x.v:=by
 simp only[ah.aG,List.map_cons,List.map_nil,List.cons_append,List.nil_append,List.map_append]
theorem ah.bH(x:ah):x.enc.length=2:=by
 simp only[ah.aG,List.length_append,List.length_cons,List.length_nil]
def ah.sz(x:ah):Nat:=bQ x.enc
theorem ah.dP(x:ah):bQ x.enc=x.sz:=rfl
theorem ah.kV(x:ah):SizeOf.sizeOf x.ak<SizeOf.sizeOf x:=by cases x;simp[ah.ak];omega
structure bU where
 fName:List UInt8
 gM:List aj
 fG:aj
 qh:Bool
 aC:List (List UInt8)
 fBody:ay
def bU.enc(x:bU):List D:=[.s x.fName,.sl (x.gM.map aj.enc)]++(x.fG.enc++([.b x.qh,.sl (x.aC.map encS)]++(x.fBody.enc)))
theorem bU.aG(x:bU):x.enc=[.s x.fName,.sl (x.gM.map aj.enc)]++(x.fG.enc++([.b x.qh,.sl (x.aC.map encS)]++(x.fBody.enc))):=rfl
theorem bU.eta(x:bU):bU.mk x.fName x.gM x.fG x.qh x.aC x.fBody=x:=rfl
theorem bU.ext'{x y:bU}(h0:x.fName=y.fName)(h1:x.gM=y.gM)(h2:x.fG=y.fG)(h3:x.qh=y.qh)(h4:x.aC=y.aC)(h5:x.fBody=y.fBody):x=y:=by
 cases x;cases y;simp_all
abbrev bU.v (x:bU):V:=.agg [.d (.s x.fName),.d (.sl (x.gM.map aj.enc)),.d (.i .i64 x.fG.aH),.d (.s x.fG.fName),.d (.sl (x.fG.fArgs.map aj.enc)),.d (.b x.qh),.d (.sl (x.aC.map encS)),.d (.i .i64 x.fBody.aH),.d (.s x.fBody.aW),.d (.s x.fBody.fName),.d (.i .i64 x.fBody.fN),.d (.i .i64 x.fBody.fType.aH),.d (.s x.fBody.fType.fName),.d (.sl (x.fBody.fType.fArgs.map aj.enc)),.d (.sl (x.fBody.fArgs.map ay.enc)),.d (.sl (x.fBody.aL.map aJ.enc))]
theorem bU.qz(x:bU): .agg (x.enc.map .d)=x.v:=by
 simp only[bU.aG,ay.aG,aj.aG,List.map_cons,List.map_nil,List.cons_append,List.nil_append,List.map_append]
theorem bU.bH(x:bU):x.enc.length=16:=by
 simp only[bU.aG,ay.bH,aj.bH,List.length_append,List.length_cons,List.length_nil]
def bU.sz(x:bU):Nat:=bQ x.enc
theorem bU.dP(x:bU):bQ x.enc=x.sz:=rfl
structure fA where
 fName:List UInt8
 lF:List (List UInt8)
 D7:Bool
 aY:Bool
 mG:List bU
def fA.enc(x:fA):List D:=[.s x.fName,.sl (x.lF.map encS),.b x.D7,.b x.aY,.sl (x.mG.map bU.enc)]
theorem fA.aG(x:fA):x.enc=[.s x.fName,.sl (x.lF.map encS),.b x.D7,.b x.aY,.sl (x.mG.map bU.enc)]:=rfl
theorem fA.eta(x:fA):fA.mk x.fName x.lF x.D7 x.aY x.mG=x:=rfl
theorem fA.ext'{x y:fA}(h0:x.fName=y.fName)(h1:x.lF=y.lF)(h2:x.D7=y.D7)(h3:x.aY=y.aY)(h4:x.mG=y.mG):x=y:=by
 cases x;cases y;simp_all
abbrev fA.v (x:fA):V:=.agg [.d (.s x.fName),.d (.sl (x.lF.map encS)),.d (.b x.D7),.d (.b x.aY),.d (.sl (x.mG.map bU.enc))]
theorem fA.qz(x:fA): .agg (x.enc.map .d)=x.v:=by
 simp only[fA.aG,List.map_cons,List.map_nil,List.cons_append,List.nil_append,List.map_append]
theorem fA.bH(x:fA):x.enc.length=5:=by
 simp only[fA.aG,List.length_append,List.length_cons,List.length_nil]
def fA.sz(x:fA):Nat:=bQ x.enc
theorem fA.dP(x:fA):bQ x.enc=x.sz:=rfl
structure bM where
 fName:List UInt8
 oz:List aj
def bM.enc(x:bM):List D:=[.s x.fName,.sl (x.oz.map aj.enc)]
theorem bM.aG(x:bM):x.enc=[.s x.fName,.sl (x.oz.map aj.enc)]:=rfl
theorem bM.eta(x:bM):bM.mk x.fName x.oz=x:=rfl
theorem bM.ext'{x y:bM}(h0:x.fName=y.fName)(h1:x.oz=y.oz):x=y:=by
 cases x;cases y;simp_all
abbrev bM.v (x:bM):V:=.agg [.d (.s x.fName),.d (.sl (x.oz.map aj.enc))]
theorem bM.qz(x:bM): .agg (x.enc.map .d)=x.v:=by
 simp only[bM.aG,List.map_cons,List.map_nil,List.cons_append,List.nil_append,List.map_append]
theorem bM.bH(x:bM):x.enc.length=2:=by
 simp only[bM.aG,List.length_append,List.length_cons,List.length_nil]
def bM.sz(x:bM):Nat:=bQ x.enc
theorem bM.dP(x:bM):bQ x.enc=x.sz:=rfl
structure cK where
 fName:List UInt8
 aC:List (List UInt8)
 jv:List bM
def cK.enc(x:cK):List D:=[.s x.fName,.sl (x.aC.map encS),.sl (x.jv.map bM.enc)]
theorem cK.aG(x:cK):x.enc=[.s x.fName,.sl (x.aC.map encS),.sl (x.jv.map bM.enc)]:=rfl
theorem cK.eta(x:cK):cK.mk x.fName x.aC x.jv=x:=rfl
theorem cK.ext'{x y:cK}(h0:x.fName=y.fName)(h1:x.aC=y.aC)(h2:x.jv=y.jv):x=y:=by
 cases x;cases y;simp_all
abbrev cK.v (x:cK):V:=.agg [.d (.s x.fName),.d (.sl (x.aC.map encS)),.d (.sl (x.jv.map bM.enc))]
theorem cK.qz(x:cK): .agg (x.enc.map .d)=x.v:=by
 simp only[cK.aG,List.map_cons,List.map_nil,List.cons_append,List.nil_append,List.map_append]
theorem cK.bH(x:cK):x.enc.length=3:=by
 simp only[cK.aG,List.length_append,List.length_cons,List.length_nil]
def cK.sz(x:cK):Nat:=bQ x.enc
theorem cK.dP(x:cK):bQ x.enc=x.sz:=rfl
structure aS where
 fName:List UInt8
 aC:List (List UInt8)
 fBody:ay
def aS.enc(x:aS):List D:=[.s x.fName,.sl (x.aC.map encS)]++(x.fBody.enc)
theorem aS.aG(x:aS):x.enc=[.s x.fName,.sl (x.aC.map encS)]++(x.fBody.enc):=rfl
theorem aS.eta(x:aS):aS.mk x.fName x.aC x.fBody=x:=rfl
theorem aS.ext'{x y:aS}(h0:x.fName=y.fName)(h1:x.aC=y.aC)(h2:x.fBody=y.fBody):x=y:=by
 cases x;cases y;simp_all
abbrev aS.v (x:aS):V:=.agg [.d (.s x.fName),.d (.sl (x.aC.map encS)),.d (.i .i64 x.fBody.aH),.d (.s x.fBody.aW),.d (.s x.fBody.fName),.d (.i .i64 x.fBody.fN),.d (.i .i64 x.fBody.fType.aH),.d (.s x.fBody.fType.fName),.d (.sl (x.fBody.fType.fArgs.map aj.enc)),.d (.sl (x.fBody.fArgs.map ay.enc)),.d (.sl (x.fBody.aL.map aJ.enc))]
theorem aS.qz(x:aS): .agg (x.enc.map .d)=x.v:=by
 simp only[aS.aG,ay.aG,aj.aG,List.map_cons,List.map_nil,List.cons_append,List.nil_append,List.map_append]
theorem aS.bH(x:aS):x.enc.length=11:=by
 simp only[aS.aG,ay.bH,List.length_append,List.length_cons,List.length_nil]
def aS.sz(x:aS):Nat:=bQ x.enc
theorem aS.dP(x:aS):bQ x.enc=x.sz:=rfl
structure aT where
 aW:List UInt8
 aC:List (List UInt8)
 aX:aj
 bE:List aO
 dW:Bool
 bX:Bool
 aY:aj
 aF:List aS
def aT.enc(x:aT):List D:=[.s x.aW,.sl (x.aC.map encS)]++(x.aX.enc++([.sl (x.bE.map aO.enc),.b x.dW,.b x.bX]++(x.aY.enc++([.sl (x.aF.map aS.enc)]))))
theorem aT.aG(x:aT):x.enc=[.s x.aW,.sl (x.aC.map encS)]++(x.aX.enc++([.sl (x.bE.map aO.enc),.b x.dW,.b x.bX]++(x.aY.enc++([.sl (x.aF.map aS.enc)])))):=rfl
theorem aT.eta(x:aT):aT.mk x.aW x.aC x.aX x.bE x.dW x.bX x.aY x.aF=x:=rfl
theorem aT.ext'{x y:aT}(h0:x.aW=y.aW)(h1:x.aC=y.aC)(h2:x.aX=y.aX)(h3:x.bE=y.bE)(h4:x.dW=y.dW)(h5:x.bX=y.bX)(h6:x.aY=y.aY)(h7:x.aF=y.aF):x=y:=by
 cases x;cases y;simp_all
abbrev aT.v (x:aT):V:=.agg [.d (.s x.aW),.d (.sl (x.aC.map encS)),.d (.i .i64 x.aX.aH),.d (.s x.aX.fName),.d (.sl (x.aX.fArgs.map aj.enc)),.d (.sl (x.bE.map aO.enc)),.d (.b x.dW),.d (.b x.bX),.d (.i .i64 x.aY.aH),.d (.s x.aY.fName),.d (.sl (x.aY.fArgs.map aj.enc)),.d (.sl (x.aF.map aS.enc))]
theorem aT.qz(x:aT): .agg (x.enc.map .d)=x.v:=by
 simp only[aT.aG,aj.aG,List.map_cons,List.map_nil,List.cons_append,List.nil_append,List.map_append]
theorem aT.bH(x:aT):x.enc.length=12:=by
 simp only[aT.aG,aj.bH,List.length_append,List.length_cons,List.length_nil]
def aT.sz(x:aT):Nat:=bQ x.enc
theorem aT.dP(x:aT):bQ x.enc=x.sz:=rfl
structure dX where
 fName:List UInt8
 fType:aj
def dX.enc(x:dX):List D:=[.s x.fName]++(x.fType.enc)
theorem dX.aG(x:dX):x.enc=[.s x.fName]++(x.fType.enc):=rfl
theorem dX.eta(x:dX):dX.mk x.fName x.fType=x:=rfl
theorem dX.ext'{x y:dX}(h0:x.fName=y.fName)(h1:x.fType=y.fType):x=y:=by
 cases x;cases y;simp_all
abbrev dX.v (x:dX):V:=.agg [.d (.s x.fName),.d (.i .i64 x.fType.aH),.d (.s x.fType.fName),.d (.sl (x.fType.fArgs.map aj.enc))]
theorem dX.qz(x:dX): .agg (x.enc.map .d)=x.v:=by
 simp only[dX.aG,aj.aG,List.map_cons,List.map_nil,List.cons_append,List.nil_append,List.map_append]
theorem dX.bH(x:dX):x.enc.length=4:=by
 simp only[dX.aG,aj.bH,List.length_append,List.length_cons,List.length_nil]
def dX.sz(x:dX):Nat:=bQ x.enc
theorem dX.dP(x:dX):bQ x.enc=x.sz:=rfl
structure bW where
 fName:List UInt8
 aC:List (List UInt8)
 bE:List aO
 gM:List dX
 fG:aj
 fBody:ay
def bW.enc(x:bW):List D:=[.s x.fName,.sl (x.aC.map encS),.sl (x.bE.map aO.enc),.sl (x.gM.map dX.enc)]++(x.fG.enc++(x.fBody.enc))
theorem bW.aG(x:bW):x.enc=[.s x.fName,.sl (x.aC.map encS),.sl (x.bE.map aO.enc),.sl (x.gM.map dX.enc)]++(x.fG.enc++(x.fBody.enc)):=rfl
theorem bW.eta(x:bW):bW.mk x.fName x.aC x.bE x.gM x.fG x.fBody=x:=rfl
theorem bW.ext'{x y:bW}(h0:x.fName=y.fName)(h1:x.aC=y.aC)(h2:x.bE=y.bE)(h3:x.gM=y.gM)(h4:x.fG=y.fG)(h5:x.fBody=y.fBody):x=y:=by
 cases x;cases y;simp_all
abbrev bW.v (x:bW):V:=.agg [.d (.s x.fName),.d (.sl (x.aC.map encS)),.d (.sl (x.bE.map aO.enc)),.d (.sl (x.gM.map dX.enc)),.d (.i .i64 x.fG.aH),.d (.s x.fG.fName),.d (.sl (x.fG.fArgs.map aj.enc)),.d (.i .i64 x.fBody.aH),.d (.s x.fBody.aW),.d (.s x.fBody.fName),.d (.i .i64 x.fBody.fN),.d (.i .i64 x.fBody.fType.aH),.d (.s x.fBody.fType.fName),.d (.sl (x.fBody.fType.fArgs.map aj.enc)),.d (.sl (x.fBody.fArgs.map ay.enc)),.d (.sl (x.fBody.aL.map aJ.enc))]
theorem bW.qz(x:bW): .agg (x.enc.map .d)=x.v:=by
 simp only[bW.aG,ay.aG,aj.aG,List.map_cons,List.map_nil,List.cons_append,List.nil_append,List.map_append]
theorem bW.bH(x:bW):x.enc.length=16:=by
 simp only[bW.aG,ay.bH,aj.bH,List.length_append,List.length_cons,List.length_nil]
def bW.sz(x:bW):Nat:=bQ x.enc
theorem bW.dP(x:bW):bQ x.enc=x.sz:=rfl
structure dL where
 fName:List UInt8
 za:List (List UInt8)
 tK:List fA
 nJ:List cK
 nK:List aT
 nL:List bW
def dL.enc(x:dL):List D:=[.s x.fName,.sl (x.za.map encS),.sl (x.tK.map fA.enc),.sl (x.nJ.map cK.enc),.sl (x.nK.map aT.enc),.sl (x.nL.map bW.enc)]
theorem dL.aG(x:dL):x.enc=[.s x.fName,.sl (x.za.map encS),.sl (x.tK.map fA.enc),.sl (x.nJ.map cK.enc),.sl (x.nK.map aT.enc),.sl (x.nL.map bW.enc)]:=rfl
theorem dL.eta(x:dL):dL.mk x.fName x.za x.tK x.nJ x.nK x.nL=x:=rfl
theorem dL.ext'{x y:dL}(h0:x.fName=y.fName)(h1:x.za=y.za)(h2:x.tK=y.tK)(h3:x.nJ=y.nJ)(h4:x.nK=y.nK)(h5:x.nL=y.nL):x=y:=by
 cases x;cases y;simp_all
abbrev dL.v (x:dL):V:=.agg [.d (.s x.fName),.d (.sl (x.za.map encS)),.d (.sl (x.tK.map fA.enc)),.d (.sl (x.nJ.map cK.enc)),.d (.sl (x.nK.map aT.enc)),.d (.sl (x.nL.map bW.enc))]
theorem dL.qz(x:dL): .agg (x.enc.map .d)=x.v:=by
 simp only[dL.aG,List.map_cons,List.map_nil,List.cons_append,List.nil_append,List.map_append]
theorem dL.bH(x:dL):x.enc.length=6:=by
 simp only[dL.aG,List.length_append,List.length_cons,List.length_nil]
def dL.sz(x:dL):Nat:=bQ x.enc
theorem dL.dP(x:dL):bQ x.enc=x.sz:=rfl
structure eT where
 oL:List dL
def eT.enc(x:eT):List D:=[.sl (x.oL.map dL.enc)]
theorem eT.aG(x:eT):x.enc=[.sl (x.oL.map dL.enc)]:=rfl
theorem eT.eta(x:eT):eT.mk x.oL=x:=rfl
theorem eT.ext'{x y:eT}(h0:x.oL=y.oL):x=y:=by
 cases x;cases y;simp_all
abbrev eT.v (x:eT):V:=.agg [.d (.sl (x.oL.map dL.enc))]
theorem eT.qz(x:eT): .agg (x.enc.map .d)=x.v:=by
 simp only[eT.aG,List.map_cons,List.map_nil,List.cons_append,List.nil_append,List.map_append]
theorem eT.bH(x:eT):x.enc.length=1:=by
 simp only[eT.aG,List.length_append,List.length_cons,List.length_nil]
def eT.sz(x:eT):Nat:=bQ x.enc
theorem eT.dP(x:eT):bQ x.enc=x.sz:=rfl
structure cB where
 vC:Int
 Qm:Int
def cB.enc(x:cB):List D:=[.i .i64 x.vC,.i .i64 x.Qm]
theorem cB.aG(x:cB):x.enc=[.i .i64 x.vC,.i .i64 x.Qm]:=rfl
theorem cB.eta(x:cB):cB.mk x.vC x.Qm=x:=rfl
theorem cB.ext'{x y:cB}(h0:x.vC=y.vC)(h1:x.Qm=y.Qm):x=y:=by
 cases x;cases y;simp_all
abbrev cB.v (x:cB):V:=.agg [.d (.i .i64 x.vC),.d (.i .i64 x.Qm)]
theorem cB.qz(x:cB): .agg (x.enc.map .d)=x.v:=by
 simp only[cB.aG,List.map_cons,List.map_nil,List.cons_append,List.nil_append,List.map_append]
theorem cB.bH(x:cB):x.enc.length=2:=by
 simp only[cB.aG,List.length_append,List.length_cons,List.length_nil]
def cB.sz(x:cB):Nat:=bQ x.enc
theorem cB.dP(x:cB):bQ x.enc=x.sz:=rfl
attribute [go_sem] aj.aG dn.aG aO.aG ay.aG aJ.aG ah.aG bU.aG fA.aG bM.aG cK.aG aS.aG aT.aG dX.aG bW.aG dL.aG eT.aG cB.aG encS encI
end Go.Ab
namespace Go.Ab
def Qn:List dn→List UInt8→Option aj
 |[],_=>none
 |b::bs,v=>if b.fVar=v then some b.fType else Qn bs v
mutual
noncomputable def yD(s:List dn):aj→aj→Option (List dn)
 | .mk k n a,t=>
   if k=1 then
    match Qn s n with
    |some u=>if dec (u=t)=true then some s else none
    |none=>some (s++[⟨n,t⟩])
   else if k=t.aH∧n=t.fName∧a.length=t.fArgs.length then sj s a t.fArgs else none
noncomputable def sj(s:List dn):List aj→List aj→Option (List dn)
 |[],_=>some s
 |_::_,[]=>none
 |p::ps,t::ts=>
  match yD s p t with
  |some s'=>sj s' ps ts
  |none=>none
end
mutual
def aj.cnt:aj→Nat
 | .mk _ _ a=>1+aj.dh a
def aj.dh:List aj→Nat
 |[]=>0
 |t::ts=>t.cnt+aj.dh ts
end
theorem aj.l9(t:aj):t.cnt=1+aj.dh t.fArgs:=by cases t;rw[aj.cnt];rfl
mutual
theorem ji:∀t:aj,t.cnt≤1+t.sz
 | .mk k n a=>by
   have h:=tL a
   rw[aj.cnt]
   have e:(aj.mk k n a).sz=n.length+(a.length+bG (a.map aj.enc)):=by
    simp only[aj.sz,aj.aG,bQ,D.sz,List.length_map,aj.fName,aj.fArgs,Nat.add_zero,Nat.zero_add]
   omega
theorem tL:∀ts:List aj,aj.dh ts≤ts.length+bG (ts.map aj.enc)
 |[]=>by simp[aj.dh]
 |t::ts=>by
  have h1:=ji t
  have h2:=tL ts
  rw[aj.dh,List.length_cons,List.map_cons,bG,aj.dP]
  omega
end
mutual
theorem R8:∀(p:aj) (s:List dn) (t:aj) (s':List dn),yD s p t=some s'→s'.length≤s.length+p.cnt
 | .mk k n a,s,t,s',h=>by
   rw[yD] at h
   rw[aj.cnt]
   split at h
   ·split at h
    ·split at h
     ·cases h;omega
     ·cases h
    ·cases h;simp
   ·split at h
    ·have:=Gu a s t.fArgs s' h;omega
    ·cases h
theorem Gu:∀(ps:List aj) (s:List dn) (ts:List aj) (s':List dn),sj s ps ts=some s'→s'.length≤s.length+aj.dh ps
 |[],s,ts,s',h=>by rw[sj] at h;cases h;omega
 |p::ps,s,[],s',h=>by rw[sj] at h;cases h
 |p::ps,s,t::ts,s',h=>by
  rw[sj] at h
  rw[aj.dh]
  cases hm:yD s p t with
  |none=>rw[hm] at h;cases h
  |some s1=>
   rw[hm] at h
   have h1:=R8 p s t s1 hm
   have h2:=Gu ps s1 ts s' h
   omega
end
def Small(s:List dn):Prop:=∀b∈s,b.fType.sz≤4194304
mutual
theorem ML:∀(p:aj) (s:List dn) (t:aj) (s':List dn),t.sz≤4194304→Small s→yD s p t=some s'→Small s'
 | .mk k n a,s,t,s',ht,hs,h=>by
   rw[yD] at h
   split at h
   ·split at h
    ·split at h
     ·cases h;exact hs
     ·cases h
    ·cases h
     intro b hb
     rcases List.mem_append.1 hb with hb|hb
     ·exact hs b hb
     ·simp at hb;subst hb;exact ht
   ·split at h
    ·refine Cz a s t.fArgs s' ?_ hs h
     intro x hx
     have h1:=eP (List.mem_map_of_mem (f:=aj.enc) hx)
     have h2:t.sz=t.fName.length+(t.fArgs.length+bG (t.fArgs.map aj.enc)):=by
      simp only[aj.sz,aj.aG,bQ,bP,D.sz,List.length_map,Nat.add_zero,Nat.zero_add]
     rw[aj.dP] at h1
     omega
    ·cases h
theorem Cz:∀(ps:List aj) (s:List dn) (ts:List aj) (s':List dn),(∀t∈ts,t.sz≤4194304)→Small s→sj s ps ts=some s'→Small s'
 |[],s,ts,s',ht,hs,h=>by rw[sj] at h;cases h;exact hs
 |p::ps,s,[],s',ht,hs,h=>by rw[sj] at h;cases h
 |p::ps,s,t::ts,s',ht,hs,h=>by
  rw[sj] at h
  cases hm:yD s p t with
  |none=>rw[hm] at h;cases h
  |some s1=>
   rw[hm] at h
   exact Cz ps s1 ts s' (fun x hx=>ht x (by simp[hx])) (ML p s t s1 (ht t (by simp)) hs hm) h
end
end Go.Ab
namespace Go.Ab
def lowerB(b:UInt8):Prop:=97≤b.toNat∧b.toNat≤122
def nM(b:UInt8):Prop:=48≤b.toNat∧b.toNat≤57
def MN(s:List UInt8):Prop:=∀i,i<s.length→lowerB (s.getD i 0)∨(i≠0∧nM (s.getD i 0))
def reserved:List (List UInt8):=[[105,110,116],[98,111,111,108],[97,115,115,111,99],[100,121,110],[105,102],[108,101,116],[99,97,115,101],[110,101,119],[109,101,116,104,111,100],[112,97,99,107],[116,114,117,101],[102,97,108,115,101]]
noncomputable def validName(s:List UInt8):Bool:=dec ((1≤s.length∧s.length≤8)∧s∉reserved∧MN s)
noncomputable def sP(s:List UInt8):Bool:=dec (s=[105,110,116]∨s=[98,111,111,108])
noncomputable def yE(xs:List (List UInt8))(s:List UInt8):Int:=if s∈xs then((xs.findIdx fun x=>dec (x=s):Nat):Int) else -1
theorem Pf{xs:List (List UInt8)}{s:List UInt8}{i:Nat}(hi:i<xs.length)(hj:∀j,j<i→xs.getD j []≠s)(h:xs.getD i []=s):yE xs s=i:=by
 have e:∀j,∀hj:j<xs.length,xs.getD j []=xs[j]:=fun j hj=>by simp[List.getD,hj]
 have hm:s∈xs:=by rw[←h,e i hi];exact List.getElem_mem hi
 unfold yE
 rw[if_pos hm]
 congr 1
 rw[List.findIdx_eq hi]
 exact⟨bK (by rw[←e i hi];exact h),fun j hji=>aQ (by rw[←e j (by omega)];exact hj j hji)⟩
theorem U5{xs:List (List UInt8)}{s:List UInt8}(hj:∀j,j<xs.length→xs.getD j []≠s):yE xs s= -1:=by
 unfold yE
 refine if_neg fun hm=> ?_
 obtain⟨j,h1,h2⟩:=List.getElem_of_mem hm
 exact hj j h1 (by simp[List.getD,h1,h2])
theorem R9{xs:List (List UInt8)}{s:List UInt8}:decide (yE xs s≥0)=dec (s∈xs):=by
 rw[jW]
 refine iY ?_
 unfold yE
 split
 ·rename_i h;exact⟨fun _=>h,fun _=>by omega⟩
 ·rename_i h;exact⟨fun x=>by omega,fun x=>absurd x h⟩
def pO{α:Type}(p:α→Bool)(xs:List α):Int:=if xs.any p then((xs.findIdx p:Nat):Int) else -1
theorem qj{α:Type}{p:α→Bool}{xs:List α}{i:Nat}(hi:i<xs.length)(hj:∀j,∀hj:j<xs.length,j<i→p xs[j]=false)(h:p xs[i]=true):pO p xs=i:=by
 unfold pO
 rw[if_pos (List.any_eq_true.2 ⟨xs[i],List.getElem_mem hi,h⟩)]
 congr 1
 rw[List.findIdx_eq hi]
 exact⟨h,fun j hji=>hj j (by omega) hji⟩
theorem tO{α:Type}{p:α→Bool}{xs:List α}(hj:∀j,∀hj:j<xs.length,p xs[j]=false):pO p xs= -1:=by
 unfold pO
 refine if_neg fun h=> ?_
 obtain⟨x,hx,hp⟩:=List.any_eq_true.1 h
 obtain⟨j,h1,h2⟩:=List.getElem_of_mem hx
 rw[←h2,hj j h1] at hp
 cases hp
theorem rF{α:Type}{p:α→Bool}{xs:List α}:decide (pO p xs≥0)=xs.any p:=by
 unfold pO
 cases h:xs.any p with
 |true=>simp
 |false=>simp
noncomputable def xI(k:Int)(n:List UInt8)(len:Nat):Bool:=
 dec ((k=1∨k=4)∧validName n=true∧len=0∨k=3∧validName n=true∧len=1∨k=2∧(validName n=true∧len≤3∨sP n=true∧len=0))
mutual
noncomputable def formed:aj→Bool
 | .mk k n a=>xI k n a.length&&iE a
noncomputable def iE:List aj→Bool
 |[]=>true
 |t::ts=>formed t&&iE ts
end
theorem tQ(t:aj):formed t=(xI t.aH t.fName t.fArgs.length&&iE t.fArgs):=by cases t;rw[formed];rfl
theorem zL:∀{ts:List aj},iE ts=true↔∀t∈ts,formed t=true
 |[]=>by simp[iE]
 |t::ts=>by simp[iE,zL (ts:=ts)]
theorem EC:∀{ts:List aj},(ts.any fun t=> !formed t)= !iE ts
 |[]=>rfl
 |t::ts=>by rw[List.any_cons,EC (ts:=ts),iE];simp
mutual
def jX:aj→Nat
 | .mk _ _ a=>depths a
def depths:List aj→Nat
 |[]=>0
 |t::ts=>max (jX t+1) (depths ts)
end
theorem JI(t:aj):jX t=depths t.fArgs:=by cases t;rw[jX];rfl
mutual
theorem wG:∀t:aj,jX t+1≤t.cnt
 | .mk k n a=>by
   have:=JJ a
   rw[jX,aj.cnt];omega
theorem JJ:∀ts:List aj,depths ts≤aj.dh ts
 |[]=>by simp[depths]
 |t::ts=>by
  have h1:=wG t
  have h2:=JJ ts
  rw[depths,aj.dh]
  omega
end
noncomputable def kC(t:aj):Bool:=dec (formed t=true∧jX t≤6∧t.cnt≤60)
end Go.Ab
namespace Go.Ab
def bq(s:List UInt8):ah:=.mk s []
def bS(l:List ah):ah:=.mk [] l
def aN(l:List (List UInt8)):List ah:=l.map bq
def fu:ah:=.mk [] []
theorem uH(s:List UInt8):(bq s).aU=s:=rfl
theorem uI(s:List UInt8):(bq s).ak=[]:=rfl
theorem dY(l:List ah):(bS l).aU=[]:=rfl
theorem dI(l:List ah):(bS l).ak=l:=rfl
def Bh:List UInt8:=[100,121,110]
def mh:List UInt8:=[97,115,115,111,99]
mutual
def dx:aj→ah
 | .mk k n zs=>if k=1 then bq ([39]++n) else if k=4 then bS [bq Bh,bq n] else if k=2∧zs.length=0 then bq n else
   bS ((if k=3 then [bq mh] else [])++[bq n]++yF zs)
def yF:List aj→List ah
 |[]=>[]
 |t::ts=>dx t::yF ts
end
theorem vD:∀l,yF l=l.map dx
 |[]=>rfl
 |t::ts=>by rw[yF,List.map_cons,vD ts]
theorem U6(x:aj):dx x=if x.aH=1 then bq ([39]++x.fName) else if x.aH=4 then bS [bq Bh,bq x.fName] else if x.aH=2∧x.fArgs.length=0 then bq x.fName else
 bS ((if x.aH=3 then [bq mh] else [])++[bq x.fName]++x.fArgs.map dx):=by
 cases x;rw[dx,vD];rfl
theorem uJ{t:aj}(h:kC t=true):formed t=true:=(gq h).1
theorem jP(x:ah):x.sz=x.aU.length+(x.ak.length+bG (x.ak.map ah.enc)):=by
 simp only[ah.sz,ah.aG,bQ,D.sz,List.length_map];omega
def dN:List ah→Nat
 |[]=>0
 |x::xs=>x.sz+dN xs
theorem l6:∀l,bG (l.map ah.enc)=dN l
 |[]=>rfl
 |x::xs=>by rw[List.map_cons,bG,dN,l6 xs];rfl
theorem mD:∀a b,dN (a++b)=dN a+dN b
 |[],b=>by simp[dN]
 |x::a,b=>by rw[List.cons_append,dN,dN,mD a b];omega
theorem kg{x:ah}:∀{l:List ah},x∈l→x.sz≤dN l
 |y::l,h=>by
  rw[dN]
  rcases List.mem_cons.1 h with rfl|h
  ·omega
  ·have:=kg h;omega
theorem lV(s:List UInt8):(bq s).sz=s.length:=by rw[jP];simp[bq,ah.aU,ah.ak,bG]
theorem rG(l:List ah):(bS l).sz=l.length+dN l:=by rw[jP,l6];simp[bS,ah.aU,ah.ak]
theorem ze:∀l:List (List UInt8),dN (aN l)=(l.map List.length).sum
 |[]=>rfl
 |s::l=>by rw[aN,List.map_cons,dN,lV,←aN,ze l,List.map_cons,List.sum_cons]
theorem jI(l:List (List UInt8)):(aN l).length=l.length:=by simp[aN]
theorem fV:∀l:List (List UInt8),bG (l.map encS)=(l.map List.length).sum
 |[]=>rfl
 |s::l=>by rw[List.map_cons,bG,fV l,List.map_cons,List.sum_cons];simp[encS,bQ,D.sz]
def qQ:List aj→Nat
 |[]=>0
 |x::xs=>x.sz+qQ xs
theorem MO:∀l,bG (l.map aj.enc)=qQ l
 |[]=>rfl
 |x::xs=>by rw[List.map_cons,bG,qQ,MO xs];rfl
theorem qR(x:aj):x.sz=x.fName.length+(x.fArgs.length+qQ x.fArgs):=by
 rw[←MO];simp only[aj.sz,aj.aG,bQ,D.sz,List.length_map];omega
mutual
theorem CB:∀x:aj,(dx x).sz≤12+16*x.sz
 | .mk k n zs=>by
   have h:=Qo zs
   rw[qR]
   simp only[aj.fName,aj.fArgs]
   rw[dx]
   split
   ·rw[lV];simp;omega
   ·split
    ·rw[rG];simp[dN,lV,Bh];omega
    ·split
     ·rw[lV];omega
     ·rw[rG,mD,mD,List.length_append,List.length_append,vD,List.length_map,←vD]
      split<;>simp[dN,lV,mh]<;>omega
theorem Qo:∀xs:List aj,dN (yF xs)≤12*xs.length+16*qQ xs
 |[]=>by simp[yF,dN]
 |x::xs=>by
  have h1:=CB x
  have h2:=Qo xs
  rw[yF,dN,qQ,List.length_cons];omega
end
def iU(b:UInt8):Bool:=decide (97≤b.toNat∧b.toNat≤122)||decide (48≤b.toNat∧b.toNat≤57)||decide (b∈([39,45,43,42,60,61,46]:List UInt8))
def validAtom(s:List UInt8):Bool:=s.all iU&&decide (1≤s.length∧s.length≤12)
mutual
def iB:ah→Bool
 | .mk a l=>if a=[] then iC l else validAtom a&&decide (l.length=0)
def iC:List ah→Bool
 |[]=>true
 |x::xs=>iB x&&iC xs
end
mutual
def jY:ah→Nat
 | .mk a l=>if a=[] then mM l+1 else 0
def mM:List ah→Nat
 |[]=>0
 |x::xs=>max (jY x) (mM xs)
end
mutual
def jw:ah→Nat
 | .mk _ l=>lG l+1
def lG:List ah→Nat
 |[]=>0
 |x::xs=>jw x+lG xs
end
theorem yG(x:ah):iB x=if x.aU=[] then iC x.ak else validAtom x.aU&&decide (x.ak.length=0):=by cases x;rw[iB];rfl
theorem JK(x:ah):jY x=if x.aU=[] then mM x.ak+1 else 0:=by cases x;rw[jY];rfl
theorem MP(x:ah):jw x=lG x.ak+1:=by cases x;rw[jw];rfl
theorem Gv:∀{l:List ah},(l.any fun t=> !iB t)= !iC l
 |[]=>rfl
 |t::ts=>by rw[List.any_cons,Gv (l:=ts),iC];simp
theorem xJ:∀{l:List ah},iC l=true↔∀t∈l,iB t=true
 |[]=>by simp[iC]
 |t::ts=>by simp[iC,xJ (l:=ts)]
mutual
theorem zM:∀x:ah,jY x≤jw x
 | .mk a l=>by
   have:=CF l
   rw[jY,jw];split<;>omega
theorem CF:∀l:List ah,mM l≤lG l
 |[]=>by simp[mM]
 |x::xs=>by
  have h1:=zM x
  have h2:=CF xs
  rw[mM,lG];omega
end
mutual
theorem MQ:∀x:ah,jw x≤x.sz+1
 | .mk a l=>by
   have:=JL l
   rw[jP,jw,l6];simp only[ah.aU,ah.ak];omega
theorem JL:∀l:List ah,lG l≤l.length+dN l
 |[]=>by simp[lG]
 |x::xs=>by
  have h1:=MQ x
  have h2:=JL xs
  rw[lG,dN,List.length_cons];omega
end
def iL(x:ah):Bool:=iB x&&decide (jY x≤14∧jw x≤900)
mutual
theorem MR:∀x:ah,iB x=true→x.sz+1≤13*jw x
 | .mk a l=>fun h=>by
   rw[iB] at h
   rw[jP,jw,l6]
   simp only[ah.aU,ah.ak]
   split at h
   ·rename_i ha
    have:=JM l h
    subst ha
    simp only[List.length_nil];omega
   ·rw[Bool.and_eq_true,decide_eq_true_eq] at h
    have h1:=h.1
    unfold validAtom at h1
    rw[Bool.and_eq_true,decide_eq_true_eq] at h1
    have:l=[]:=List.eq_nil_of_length_eq_zero h.2
    subst this
    simp[dN];omega
theorem JM:∀l:List ah,iC l=true→l.length+dN l≤13*lG l
 |[],_=>by simp[dN]
 |x::xs,h=>by
  rw[iC,Bool.and_eq_true] at h
  have h1:=MR x h.1
  have h2:=JM xs h.2
  rw[dN,lG,List.length_cons];omega
end
theorem JN{x:ah}(h:iL x=true):x.sz≤11700:=by
 unfold iL at h
 rw[Bool.and_eq_true,decide_eq_true_eq] at h
 have:=MR x h.1
 omega
def CG(x:ah):ah:=if iL x=true then x else fu
def zN:Bool→ah→ah
 |true,x=>CG x
 |false,_=>fu
theorem abN(x:ah):(CG x).sz≤11700:=by
 unfold CG
 split
 ·rename_i h;exact JN h
 ·rw[jP];simp[fu,ah.aU,ah.ak,bG]
theorem aad(b:Bool)(x:ah):(zN b x).sz≤11700:=by
 cases b with
 |true=>exact abN x
 |false=>rw[zN,jP];simp[fu,ah.aU,ah.ak,bG]
end Go.Ab
namespace Go.Ab
def Ag(n:Nat):Key→Key
 |(0,j)=>(0,n+j)
 |(l+1,j)=>(l,j)
def C.mg(n:Nat):C→C
 | .d x=>.d x
 | .any=>.any
 | .bI k es=>.bI (Ag n k) es
 | .aM es=>.aM es
 | .ptr k off=>.ptr (Ag n k) off
 | .jS cs=>.jS cs
 | .kH k i off=>.kH (Ag n k) i off
 | .ku k=>.ku (Ag n k)
 | .fn f caps=>.fn f (caps.map fun x=>(Ag n x.1,x.2))
 | .mp k=>.mp (Ag n k)
 | .iO m es=>.iO m es
 | .xp k r p=>.xp (Ag n k) r p
 | .xq k r p z i off=>.xq (Ag n k) r p z i off
def V.mg(n:Nat):V→V
 | .c x=>.c (x.mg n)
 | .agg cs=>.agg (cs.map (C.mg n))
 | .d9 xs=>.d9 (xs.map fun y=>(y.1,y.2.map (C.mg n)))
 | .any=>.any
def Obj.mg(n:Nat):Obj→Obj
 | .box cs=>.box (cs.map (C.mg n))
 |o=>o
section
variable {P:Program} {w:World} {σ:Nat→Nat} {own bg:List Obj} {Ω:Store} {bo nN:List Value} {bΩ:Hs}
theorem I8{n:Nat}{o:Obj}{h:Value}{b:Nat}:owns (o.mg n) h b↔owns o h b:=by
 cases o with
 |box cs=>
  cases h with
  |pointer a=>cases a<;>exact Iff.rfl
  |_=>exact Iff.rfl
 |_=>exact Iff.rfl
theorem zf{k:Key}{o:Obj}(h:aV (own::bg::Ω) k=some o):
 aV ((bg++own.map (Obj.mg bg.length))::Ω) (Ag bg.length k)=some (if k.1=0 then o.mg bg.length else o):=by
 obtain⟨l,j⟩:=k
 cases l with
 |zero=>
  rw[bn] at h
  show aV _ (0,bg.length+j)=_
  rw[bn,List.getElem?_append_right (by omega),show bg.length+j-bg.length=j by omega,List.getElem?_map,h]
  rfl
 |succ l=>
  rw[bJ] at h
  show aV _ (l,j)=some o
  cases l with
  |zero=>
   rw[bn] at h ⊢
   rw[List.getElem?_append_left (List.getElem?_eq_some_iff.1 h).1]
   exact h
  |succ l=>rw[bJ] at h ⊢;exact h
theorem zh(hl:nN.length=bg.length){k:Key}{h:Value}(e:aV (bo::nN::bΩ) k=some h):aV ((nN++bo)::bΩ) (Ag bg.length k)=some h:=by
 obtain⟨l,j⟩:=k
 cases l with
 |zero=>
  rw[bn] at e
  show aV _ (0,bg.length+j)=_
  rw[bn,List.getElem?_append_right (by omega),show bg.length+j-nN.length=j by omega,e]
 |succ l=>
  rw[bJ] at e
  show aV _ (l,j)=some h
  cases l with
  |zero=>
   rw[bn] at e ⊢
   rw[List.getElem?_append_left (List.getElem?_eq_some_iff.1 e).1]
   exact e
  |succ l=>rw[bJ] at e ⊢;exact e
theorem D8(hl:nN.length=bg.length)(hlo:bo.length=own.length){k:Key}{o:Obj}(h:aV ((bg++own.map (Obj.mg bg.length))::Ω) k=some o):
 ∃k0 o0,Ag bg.length k0=k∧aV (own::bg::Ω) k0=some o0∧o=(if k0.1=0 then o0.mg bg.length else o0)∧aV ((nN++bo)::bΩ) k=aV (bo::nN::bΩ) k0:=by
 obtain⟨l,j⟩:=k
 cases l with
 |zero=>
  rw[bn] at h
  by_cases hj:j<bg.length
  ·rw[List.getElem?_append_left hj] at h
   refine⟨(1,j),o,rfl,by rw[bJ,bn];exact h,rfl,?_⟩
   rw[bn,bJ,bn,List.getElem?_append_left (by omega)]
  ·rw[List.getElem?_append_right (by omega),List.getElem?_map] at h
   cases hx:own[j-bg.length]? with
   |none=>rw[hx] at h;cases h
   |some x=>
    rw[hx] at h;cases h
    refine⟨(0,j-bg.length),x,?_,by rw[bn];exact hx,rfl,?_⟩
    ·show(0,bg.length+(j-bg.length))=(0,j)
     rw[show bg.length+(j-bg.length)=j by omega]
    ·rw[bn,bn,List.getElem?_append_right (by omega),hl]
 |succ l=>
  rw[bJ] at h
  exact⟨(l+2,j),o,rfl,by rw[bJ,bJ];exact h,rfl,by rw[bJ,bJ,bJ]⟩
theorem tT{n:Nat}{k:Key}{o:Obj}:(∀aR es,oQ (if k.1=0 then o.mg n else o) aR es→oQ o aR es)∧(∀aR es,(if k.1=0 then o.mg n else o)=.fH aR es→o=.fH aR es)∧
 (∀m,(if k.1=0 then o.mg n else o)=.mp m→o=.mp m)∧(∀cs,(if k.1=0 then o.mg n else o)=.box cs→∃cs',o=.box cs')∧(∀rs,(if k.1=0 then o.mg n else o)=.xf rs→o=.xf rs):=by
 by_cases e:k.1=0
 ·simp only[if_pos e]
  cases o<;>simp[Obj.mg,oQ]
 ·simp only[if_neg e]
  exact⟨fun _ _ h=>h,fun _ _ h=>h,fun _ h=>h,fun cs h=>⟨cs,h⟩,fun _ h=>h⟩
theorem XV(hl:nN.length=bg.length){c:C}{v:Value}(h:fU w σ (own::bg::Ω) (bo::nN::bΩ) c v):
 fU w σ ((bg++own.map (Obj.mg bg.length))::Ω) ((nN++bo)::bΩ) (c.mg bg.length) v:=by
 cases c with
 |d x=>exact h
 |any=>exact trivial
 |aM es=>exact h
 |jS cs=>exact h
 |iO m es=>exact h
 |xp k r p=>
  obtain⟨o,ho,h2⟩:=h
  refine⟨_,zf ho,fun rs e=> ?_⟩
  obtain⟨hh,q1,q2⟩:=h2 rs (tT.2.2.2.2 _ e)
  exact⟨hh,zh hl q1,q2⟩
 |xq k r p z i off=>
  obtain⟨o,ho,h2⟩:=h
  refine⟨_,zf ho,fun rs e=> ?_⟩
  obtain⟨hh,b,a,n,cap,q1,q2⟩:=h2 rs (tT.2.2.2.2 _ e)
  exact⟨hh,b,a,n,cap,zh hl q1,q2⟩
 |bI k es=>
  obtain⟨h1,o,ho,h2⟩:=h
  refine⟨h1,_,zf ho,fun aR es' e=> ?_⟩
  obtain⟨q1,q2⟩:=h2 aR es' (tT.1 _ _ e)
  exact⟨q1,fun e'=>zh hl (q2 e')⟩
 |ptr k off=>
  obtain⟨o,ho,h2⟩:=h
  refine⟨_,zf ho,fun cs e=> ?_⟩
  obtain⟨cs',e'⟩:=tT.2.2.2.1 _ e
  obtain⟨b,q1,q2⟩:=h2 cs' e'
  exact⟨b,zh hl q1,q2⟩
 |kH k i off=>
  obtain⟨o,ho,h2⟩:=h
  refine⟨_,zf ho,fun aR es e=> ?_⟩
  obtain⟨b,n,cap,q1,q2⟩:=h2 aR es (tT.2.1 _ _ e)
  exact⟨b,n,cap,zh hl q1,q2⟩
 |ku k=>
  obtain⟨o,ho,h2⟩:=h
  exact⟨_,zf ho,fun aR es e=>zh hl (h2 aR es (tT.2.1 _ _ e))⟩
 |mp k=>
  obtain⟨o,ho,h2⟩:=h
  exact⟨_,zf ho,fun m e=>zh hl (h2 m (tT.2.2.1 _ e))⟩
 |fn f caps=>
  obtain⟨vs,e,hsz,hc⟩:=h
  refine⟨vs,e,by rw[hsz,List.length_map],fun j k off hj=> ?_⟩
  rw[List.getElem?_map] at hj
  cases hx:caps[j]? with
  |none=>rw[hx] at hj;cases hj
  |some y=>
   rw[hx] at hj
   injection hj with hj
   injection hj with e1 e2
   obtain⟨u,q1,q2,o,q3,q4⟩:=hc j y.1 y.2 hx
   refine⟨u,q1,q2,_,by rw[←e1];exact zf q3,fun cs e=> ?_⟩
   obtain⟨cs',e'⟩:=tT.2.2.2.1 _ e
   obtain⟨b,q5,q6⟩:=q4 cs' e'
   exact⟨b,by rw[←e1];exact zh hl q5,by rw[←e2];exact q6⟩
theorem Sb(hl:nN.length=bg.length){cs:List C}{vs:List Value}(h:eX w σ (own::bg::Ω) (bo::nN::bΩ) cs vs):
 eX w σ ((bg++own.map (Obj.mg bg.length))::Ω) ((nN++bo)::bΩ) (cs.map (C.mg bg.length)) vs:=by
 refine⟨by rw[List.length_map];exact h.1,fun j x hj=> ?_⟩
 rw[List.getElem?_map] at hj
 cases hx:cs[j]? with
 |none=>rw[hx] at hj;cases hj
 |some y=>
  rw[hx] at hj;cases hj
  obtain⟨v,h1,h2,h3⟩:=h.2 j y hx
  exact⟨v,h1,XV hl h2,h3⟩
theorem ae3(hl:nN.length=bg.length){x:V}{v:Value}(h:bV w σ (own::bg::Ω) (bo::nN::bΩ) x v):
 bV w σ ((bg++own.map (Obj.mg bg.length))::Ω) ((nN++bo)::bΩ) (x.mg bg.length) v:=by
 cases x with
 |c x=>exact⟨XV hl h.1,h.2⟩
 |agg cs=>obtain⟨a,ha,hc⟩:=h;exact⟨a,ha,Sb hl hc⟩
 |any=>exact trivial
 |d9 xs=>
  obtain⟨a,ha,hlen,hc⟩:=h
  refine⟨a,ha,by rw[List.length_map];exact hlen,fun j y hj=> ?_⟩
  rw[List.getElem?_map] at hj
  cases hx:xs[j]? with
  |none=>rw[hx] at hj;cases hj
  |some z=>
   rw[hx] at hj;cases hj
   obtain⟨u,hu,hr⟩:=hc j z hx
   refine⟨u,hu,?_⟩
   obtain⟨b,cs⟩:=z
   cases b with
   |true=>obtain⟨a',e,hcs⟩:=hr;exact⟨a',e,Sb hl hcs⟩
   |false=>obtain⟨x1,e,hx1,ho⟩:=hr;subst e;exact⟨_,rfl,XV hl hx1,ho⟩
theorem Qp(hl:nN.length=bg.length):Keep (bg::Ω) (nN::bΩ) ((bg++own.map (Obj.mg bg.length))::Ω) ((nN++bo)::bΩ):=by
 rintro⟨l,j⟩ o h
 cases l with
 |zero=>
  rw[bn] at h
  have hj:=(List.getElem?_eq_some_iff.1 h).1
  refine⟨o,by rw[bn,List.getElem?_append_left hj];exact h,?_⟩
  rw[bn,bn,List.getElem?_append_left (by omega)]
  exact jO.refl _ _
 |succ l=>
  rw[bJ] at h
  exact⟨o,by rw[bJ];exact h,by rw[bJ,bJ];exact jO.refl _ _⟩
theorem ae4(hS:dH w σ (own::bg::Ω) (bo::nN::bΩ)):dH w σ ((bg++own.map (Obj.mg bg.length))::Ω) ((nN++bo)::bΩ):=by
 have hlo:bo.length=own.length:=by
  obtain⟨gr,h1,h2⟩:=hS.shape.2 0 own rfl
  simp at h1;rw[h1];exact h2
 have hl:nN.length=bg.length:=by
  obtain⟨gr,h1,h2⟩:=hS.shape.2 1 bg rfl
  simp at h1;rw[h1];exact h2
 have hn:eF w σ w σ:=eF.refl _ _
 refine⟨fun k o ho=> ?_,fun k k' o o' h h' b e1 e2 e3 e4 e5 e6=> ?_,⟨by have:=hS.shape.1;simpa using this,fun l fr hfr=> ?_⟩,hS.live,hS.qp⟩
 ·obtain⟨k0,o0,hk,ho0,rfl,hh⟩:=D8 (bo:=bo) (bΩ:=bΩ) hl hlo ho
  obtain⟨h,h1,h2⟩:=hS.obj k0 o0 ho0
  refine⟨h,by rw[hh];exact h1,?_⟩
  obtain⟨l0,j0⟩:=k0
  cases l0 with
  |zero=>
   subst hk
   have h2:gB w σ (own::bg::Ω) (bo::nN::bΩ) o0 h:=h2
   show gB w σ ((bg++own.map (Obj.mg bg.length))::Ω) ((nN++bo)::bΩ) (o0.mg bg.length) h
   cases o0 with
   |box cs=>
    obtain⟨b,c,t,e,q1,q2,q3⟩:=h2
    exact⟨b,c,t,e,q1,q2,Sb hl q3⟩
   |dead=>exact trivial
   |tok aR es=>exact h2
   |fH aR es=>exact h2
   |mp m=>exact h2
   |dZ n aR es=>exact h2
   |seed n=>exact trivial
   |xf rs=>exact h2
  |succ l0=>
   have hk':k=(l0,j0):=hk.symm
   subst hk'
   have h2:gB w σ ((bg::Ω).drop l0) ((nN::bΩ).drop l0) o0 h:=h2
   exact h2.mono hn ((Qp hl).drop l0) fun _ _=>⟨rfl,rfl⟩
 ·obtain⟨k0,o0,hk,ho0,ho,hh⟩:=D8 (bo:=bo) (bΩ:=bΩ) hl hlo e1
  obtain⟨k1,o1,hk1,ho1,ho',BR⟩:=D8 (bo:=bo) (bΩ:=bΩ) hl hlo e4
  rw[hh] at e2
  rw[BR] at e5
  have b0:owns o0 h b:=by
   rw[ho] at e3
   split at e3
   ·rw[I8] at e3;exact e3
   ·exact e3
  have b1:owns o1 h' b:=by
   rw[ho'] at e6
   split at e6
   ·rw[I8] at e6;exact e6
   ·exact e6
  have:=hS.apart k0 k1 o0 o1 h h' b ho0 e2 b0 ho1 e5 b1
  rw[←hk,←hk1,this]
 ·cases l with
  |zero=>
   simp at hfr
   exact⟨_,rfl,by rw[←hfr];simp[hl,hlo]⟩
  |succ l=>exact hS.shape.2 (l+2) fr (by simpa using hfr)
theorem abO(hS:dH w σ (own::bg::Ω) (bo::nN::bΩ)){b:Nat}(h:Own ((bg++own.map (Obj.mg bg.length))::Ω) ((nN++bo)::bΩ) b):Own (own::bg::Ω) (bo::nN::bΩ) b:=by
 have hlo:bo.length=own.length:=by
  obtain⟨gr,h1,h2⟩:=hS.shape.2 0 own rfl
  simp at h1;rw[h1];exact h2
 have hl:nN.length=bg.length:=by
  obtain⟨gr,h1,h2⟩:=hS.shape.2 1 bg rfl
  simp at h1;rw[h1];exact h2
 obtain⟨k,o,hv,e1,e2,e3⟩:=h
 obtain⟨k0,o0,hk,ho0,ho,hh⟩:=D8 (bo:=bo) (bΩ:=bΩ) hl hlo e1
 rw[hh] at e2
 refine⟨k0,o0,hv,ho0,e2,?_⟩
 rw[ho] at e3
 split at e3
 ·rw[I8] at e3;exact e3
 ·exact e3
end
def MS(P:Program)(rs:List ResultVar)(post:V→Store→Prop)(e:Exit)(s:St):Prop:=
 match e with
 | .normal| .ret=>(qx P rs s).1∧match s.st with
   |own::bg::Ω=>post ((qx P rs s).2.mg bg.length) ((bg++own.map (Obj.mg bg.length))::Ω)
   |_=>False
 |_=>False
section
variable {P:Program} {N:Nat} {s:St}
theorem JO{f:FuncId}{fn:Func}{c:Code}{args:List V}{bg:List Obj}{Ω:Store}{post:V→Store→Prop}(hf:P.funcs[f]? =some fn)(hb:fn.body=some c)(hn:(fn.name== "runtime.NumGoroutine")=false)
 (hl:args.length≤fn.ntmps) (h:AW P fn.ntmps c (MS P fn.results.toList post) ⟨nH (args.map (V.up 1)) 0,[]::bg::Ω⟩):bD P f args (bg::Ω) post:=by
 refine⟨⟨fn,hf,hn,by simp[hb]⟩,fun w σ β vs hS hargs=> ?_⟩
 refine calls_of_wp hf hb ?_
 have hlen:vs.length=args.length:=hargs.1.symm
 have Wv:iX fn.ntmps ⟨nH (args.map (V.up 1)) 0,[]::bg::Ω⟩ {tmps:=vs.toArray++Array.replicate (fn.ntmps-vs.toArray.size) undef,defers:=[]} w σ ([]::β):=by
  refine⟨by simp;omega,rfl,hS.up1,fun t=> ?_⟩
  show bV w σ ([]::bg::Ω) ([]::β) (look (nH (args.map (V.up 1)) 0) t) _
  rw[AV,if_pos (Nat.zero_le _),Nat.sub_zero,List.getElem?_map]
  cases ha:args[t]? with
  |none=>exact trivial
  |some x=>
   obtain⟨v,hv,hr⟩:=hargs.2 t x ha
   have ht:=(List.getElem?_eq_some_iff.1 hv).1
   have:(vs.toArray++Array.replicate (fn.ntmps-vs.toArray.size) undef).getD t undef=v:=by
    rw[Array.getD_eq_getD_getElem?,Array.getElem?_append_left (by simpa using ht)]
    simp[hv]
   rw[this]
   exact IK (S:=[]::bg::Ω) (β:=[]::β) 1 hr
 refine wp_mono (h _ w σ ([]::β) Wv) ?_
 rintro e a' w' ⟨s',σ',β',hR,hst,hkp,hq⟩
 have main:((qx P fn.results.toList s').1∧match s'.st with
  |own::bg::Ω=>post ((qx P fn.results.toList s').2.mg bg.length) ((bg++own.map (Obj.mg bg.length))::Ω)
  |_=>False)→
   a'.defers=[]∧∃v,(results fn a'.tmps).run P w'=.ok v w'∧∃v_1 r S' σ' β',Ending.returned v=Ending.returned v_1∧dH w' σ' S' β'∧Keep (bg::Ω) β S' β'∧Step (bg::Ω) β σ w S' β' σ' w'∧bV w' σ' S' β' r v_1∧post r S':=by
  rintro⟨q1,q2⟩
  obtain⟨v,hv,hrep⟩:=JC (fn:=fn) hR q1
  obtain⟨tm,st⟩:=s'
  simp only at q2
  split at q2
  ·rename_i own Sc Ω1
   obtain⟨bo,bΩ',rfl,hlo⟩:=frames hR
   cases bΩ' with
   |nil=>have:=hR.S.shape.1;simp at this
   |cons bo1 bΩ1=>
    have hl1:bo1.length=Sc.length:=by
     obtain⟨gr,h1,h2⟩:=hR.S.shape.2 1 Sc rfl
     simp at h1;rw[h1];exact h2
    have vg:Keep (bg::Ω) β (Sc::Ω1) (bo1::bΩ1):=hkp
    have hst':Step ([]::bg::Ω) ([]::β) σ w (own::Sc::Ω1) (bo::bo1::bΩ1) σ' w':=hst
    exact⟨hR.defers,v,hv,v,_,_,σ',_,rfl,ae4 hR.S,vg.trans (Qp hl1),⟨hst'.size,hst'.os,hst'.output,fun b hb ho=>hst'.far b hb (fun x=>ho (DX x)),hst'.near,fun b hb=>(hst'.own b (abO hR.S hb)).imp DX id⟩,ae3 hl1 hrep,q2⟩
  ·exact q2.elim
 cases e with
 |normal=>exact main hq
 |ret=>exact main hq
 |_=>exact hq.elim
def MU(P:Program)(rs:List ResultVar)(post:V→Store→Prop)(s:St)(r:R):Prop:=r.1∧match s.st with
 |own::bg::Ω=>post (r.2.mg bg.length) ((bg++own.map (Obj.mg bg.length))::Ω)
 |_=>False
@[congr] theorem ac5 {rs:List ResultVar} {post:V→Store→Prop} {s s':St} {r r':R} (h1:s=s') (h2:r=r'):MU P rs post s r=MU P rs post s' r':=by rw[h1,h2]
theorem XW{rs:List ResultVar}{post:V→Store→Prop}{tm:List (Nat×V)}{S:Store}:MS P rs post .ret ⟨tm,S⟩=MU P rs post ⟨tm,S⟩ (qx P rs ⟨tm,S⟩):=rfl
theorem Pg{rs:List ResultVar}{post:V→Store→Prop}{tm:List (Nat×V)}{S:Store}:MS P rs post .normal ⟨tm,S⟩=MU P rs post ⟨tm,S⟩ (qx P rs ⟨tm,S⟩):=rfl
theorem aae{rs:List ResultVar}{post:V→Store→Prop}{tm:List (Nat×V)}{own bg:List Obj}{Ω:Store}{p:Prop}{v:V}:
 MU P rs post ⟨tm,own::bg::Ω⟩ (p,v)=(p∧post (v.mg bg.length) ((bg++own.map (Obj.mg bg.length))::Ω)):=rfl
theorem JQ{f:FuncId}{fn:Func}{c:Code}{args:List V}{bg:List Obj}{Ω:Store}{post:V→Store→Prop}{rs:List ResultVar}(iI:P.follows .mixedOrders=true)(hf:P.funcs[f]? =some fn)(hN:fn.ntmps=N)
 (hb:fn.body=some c) (hn:(fn.name== "runtime.NumGoroutine")=false) (hr:fn.results.toList=rs) (hl:Nat.ble args.length N=true) (hok:codeOk N c=true)
 (h:CW P N c (MS P rs post) ⟨nH (args.map (V.up 1)) 0,[]::bg::Ω⟩):bD P f args (bg::Ω) post:=by
 subst hN
 subst hr
 exact JO hf hb hn (Nat.le_of_ble_eq_true hl) (kU iI c _ _ hok h)
theorem mgK_0{n j:Nat}:Ag n (0,j)=(0,n+j):=rfl
theorem mgK_1{n l j:Nat}:Ag n (1+l,j)=(l,j):=by rw[Nat.add_comm];rfl
end
attribute [go_sem ↓] XW Pg
attribute [go_sem] aae V.mg C.mg Obj.mg mgK_0 mgK_1
end Go.Ab
namespace Go.Ab
mutual
def nZ:D→Nat
 | .sl es=>jy es+1
 | .ol _ _=>0
 | .b _=>0
 | .i _ _=>0
 | .s _=>0
 | .o _=>0
def oC:List D→Nat
 |[]=>0
 |d::ds=>nZ d+oC ds
def jy:List (List D)→Nat
 |[]=>0
 |r::rs=>oC r+jy rs
end
mutual
def lH:D→Nat→D
 | .sl es,n=>.ol n (eG es (n+1))
 | .ol m es,_=>.ol m es
 | .b x,_=>.b x
 | .i k x,_=>.i k x
 | .s l,_=>.s l
 | .o v,_=>.o v
def eB:List D→Nat→List D
 |[],_=>[]
 |d::ds,n=>lH d n::eB ds (n+nZ d)
def eG:List (List D)→Nat→List (List D)
 |[],_=>[]
 |r::rs,n=>eB r n::eG rs (n+oC r)
end
mutual
def oM:D→Bool
 | .sl es=>iR es
 | .ol _ _=>false
 | .b _=>true
 | .i _ _=>true
 | .s _=>true
 | .o _=>false
def iD:List D→Bool
 |[]=>true
 |d::ds=>oM d&&iD ds
def iR:List (List D)→Bool
 |[]=>true
 |r::rs=>iD r&&iR rs
end
theorem ED:∀a b n,eB (a++b) n=eB a n++eB b (n+oC a)
 |[],b,n=>by simp[eB,oC]
 |d::ds,b,n=>by rw[List.cons_append,eB,eB,ED ds b,oC,Nat.add_assoc];rfl
theorem oD:∀a b n,eG (a++b) n=eG a n++eG b (n+jy a)
 |[],b,n=>by simp[eG,jy]
 |d::ds,b,n=>by rw[List.cons_append,eG,eG,oD ds b,jy,Nat.add_assoc];rfl
theorem fZ:∀r n,(eB r n).length=r.length
 |[],_=>rfl
 |d::ds,n=>by rw[eB,List.length_cons,fZ ds,List.length_cons]
theorem jk:∀rs n,(eG rs n).length=rs.length
 |[],_=>rfl
 |r::rs,n=>by rw[eG,List.length_cons,jk rs,List.length_cons]
theorem xK{z:Nat}:∀{rs:List (List D)} {n:Nat},(∀r∈rs,r.length=z)→∀r∈eG rs n,r.length=z
 |[],_,_,r,h=>by rw[eG] at h;cases h
 |a::rs,n,ha,r,h=>by
  rw[eG] at h
  rcases List.mem_cons.1 h with e|h
  ·rw[e,fZ];exact ha a (by simp)
  ·exact xK (fun r hr=>ha r (by simp[hr])) r h
theorem fP:∀a b,iD (a++b)=(iD a&&iD b)
 |[],b=>by simp[iD]
 |d::ds,b=>by rw[List.cons_append,iD,iD,fP ds b,Bool.and_assoc]
theorem jA{α:Type}{f:α→List D}:∀{xs:List α},(∀x∈xs,iD (f x)=true)→iR (xs.map f)=true
 |[],_=>rfl
 |x::xs,h=>by
  rw[List.map_cons,iR,h x (by simp),jA fun y hy=>h y (by simp[hy])];rfl
section
variable {P:Program} {w:World} {σ σ':Nat→Nat} {S:Store} {β:Hs} {N:Nat} {s:St}
mutual
theorem XY:∀(d:D) (n:Nat) (v:Value),bZ w σ (lH d n) v→bZ w σ d v
 | .sl es,n,v,h=>by
   rw[lH] at h
   have hl:=jk es (n+1)
   have hrec:=Zb es (n+1)
   generalize eG es (n+1)=q at h hl hrec
   cases h with
   |qF n a cap=>
    have:es=[]:=List.eq_nil_of_length_eq_zero (by simpa using hl.symm)
    subst this
    exact .nil a cap
   |ol n b off cap aR q vals c t hcap hlen hb hσ hfit hc hv=>
    obtain⟨r1,r2⟩:=hrec vals hv
    rw[hl] at hcap hfit hc ⊢
    refine .sl b off cap aR es vals c t (0,0) hcap (fun e he=> ?_) hb (by omega) hc r2
    obtain⟨e',h1,h2⟩:=r1 e he
    rw[←h2];exact hlen e' h1
 | .ol m es,n,v,h=>h
 | .b x,n,v,h=>h
 | .i k x,n,v,h=>h
 | .s l,n,v,h=>h
 | .o u,n,v,h=>h
theorem abQ:∀(r:List D) (n:Nat) (vals:Nat→Value),(∀j d,(eB r n)[j]? =some d→bZ w σ d (vals j))→∀(j:Nat) d,r[j]? =some d→bZ w σ d (vals j)
 |[],n,vals,h,j,d,hd=>by simp at hd
 |a::r,n,vals,h,j,d,hd=>by
  cases j with
  |zero=>
   simp at hd;subst hd
   exact XY a n _ (h 0 _ rfl)
  |succ j=>exact abQ r (n+nZ a) (fun i=>vals (i+1)) (fun i d hi=>h (i+1) d (by rw[eB];exact hi)) j d hd
theorem Zb:∀(rs:List (List D)) (n:Nat) (vals:Nat→Value),(∀j d,(eG rs n).flatten[j]? =some d→bZ w σ d (vals j))→
 (∀e∈rs,∃e'∈eG rs n,e'.length=e.length)∧∀(j:Nat) d,rs.flatten[j]? =some d→bZ w σ d (vals j)
 |[],n,vals,h=>⟨fun e he=>(by cases he),fun j d hd=>(by simp at hd)⟩
 |r::rs,n,vals,h=>by
  rw[eG,List.flatten_cons] at h
  have h1:=abQ r n vals fun j d hd=>h j d (by rw[List.getElem?_append_left (List.getElem?_eq_some_iff.1 hd).1];exact hd)
  obtain⟨h2,h3⟩:=Zb rs (n+oC r) (fun i=>vals (r.length+i)) fun j d hd=>h (r.length+j) d (by rw[List.getElem?_append_right (by rw[fZ];omega),fZ,Nat.add_sub_cancel_left];exact hd)
  refine⟨fun e he=> ?_,fun j d hd=> ?_⟩
  ·rcases List.mem_cons.1 he with e1|he
   ·subst e1;exact⟨_,by rw[eG];exact List.mem_cons_self ..,fZ _ _⟩
   ·obtain⟨e',q1,q2⟩:=h2 e he
    exact⟨e',by rw[eG];exact List.mem_cons_of_mem _ q1,q2⟩
  ·rw[List.flatten_cons] at hd
   by_cases hj:j<r.length
   ·rw[List.getElem?_append_left hj] at hd;exact h1 j d hd
   ·rw[List.getElem?_append_right (by omega)] at hd
    have:=h3 (j-r.length) d hd
    rwa [show r.length+(j-r.length)=j by omega] at this
end
theorem MV{r:List D}{n:Nat}:Less (.agg ((eB r n).map .d)) (.agg (r.map .d)):=by
 rintro w σ S β v ⟨a,ha,hl,hc⟩
 rw[List.length_map,fZ] at hl
 refine⟨a,ha,by rw[List.length_map];exact hl,?_⟩
 have key:∀(r:List D) (n:Nat) (vs:List Value),(∀(j:Nat) (x:C),((eB r n).map C.d)[j]? =some x→∃v:Value,vs[j]? =some v∧fU w σ S β x v∧v.oneCell'=true)→
  ∀(j:Nat) (x:C),(r.map C.d)[j]? =some x→∃v:Value,vs[j]? =some v∧fU w σ S β x v∧v.oneCell'=true:=by
  intro r
  induction r with
  |nil=>intro n vs h j x hx;simp at hx
  |cons d ds ih=>
   intro n vs h j x hx
   cases j with
   |zero=>
    simp at hx;subst hx
    obtain⟨v,h1,h2,h3⟩:=h 0 (.d (lH d n)) rfl
    exact⟨v,h1,XY d n v h2,h3⟩
   |succ j=>
    have:=ih (n+nZ d) vs.tail (fun i y hy=>by
     obtain⟨v,h1,h2⟩:=h (i+1) y (by rw[eB,List.map_cons];exact hy)
     refine⟨v,?_,h2⟩
     cases vs with
     |nil=>simp at h1
     |cons a b=>exact h1) j x hx
    obtain⟨v,h1,h2⟩:=this
    refine⟨v,?_,h2⟩
    cases vs with
    |nil=>simp at h1
    |cons a b=>exact h1
 exact key r n _ hc
theorem U7{r:List D}{n:Nat}{w:World}{σ:Nat→Nat}{S:Store}{β:Hs}{vs:List Value}(h:eX w σ S β ((eB r n).map .d) vs):eX w σ S β (r.map .d) vs:=by
 obtain⟨a,ha,hc⟩:=MV w σ S β (.agg vs.toArray) ⟨vs.toArray,rfl,by simpa using h⟩
 cases ha
 simpa using hc
inductive pQ:List V→List V→Prop
 |nil:pQ [] []
 |cons {x y:V} {xs ys:List V}:Less x y→pQ xs ys→pQ (x::xs) (y::ys)
theorem pQ.length:∀{xs ys:List V},pQ xs ys→xs.length=ys.length
 |_,_,.nil=>rfl
 |_,_,.cons _ h=>by rw[List.length_cons,List.length_cons,pQ.length h]
theorem pQ.at:∀{xs ys:List V},pQ xs ys→∀(j:Nat) (x y:V),xs[j]? =some x→ys[j]? =some y→Less x y
 |_,_,.nil,j,x,y,h,_=>by simp at h
 |_,_,.cons a h,0,x,y,h1,h2=>by simp at h1 h2;subst h1;subst h2;exact a
 |_,_,.cons a h,j+1,x,y,h1,h2=>pQ.at h j x y (by simpa using h1) (by simpa using h2)
theorem aI.args{f:FuncId}{args args':List V}{r:V}(h:aI P f args' r)(hl:pQ args args'):aI P f args r:=fun S=>(h S).weaken hl.length fun j x y hx hy w σ β v hr=>hl.at j x y hx hy w σ S β v hr
theorem yH{dr:Option Nat}{f:FuncId}{args args':List V}{dst:Option Nat}{K:St→Prop}{r:V}(h:aI P f args' r)(hl:pQ (args.map V.qD) args')(hK:K (s.put dst r)):fO P dr f args s dst K:=au (h.args hl) hK
def XZ(row:Bool)(j n:Nat)(es:List (List D))(tm:List (Nat×V)):List (Nat×V):=tm.map fun x=>(x.1,x.2.jg (C.lab row j n es))
theorem U8{row:Bool}{j n:Nat}{es:List (List D)}{tm:List (Nat×V)}{t:Nat}:look (XZ row j n es tm) t=(look tm t).jg (C.lab row j n es):=Bb (f:=V.jg (C.lab row j n es)) rfl tm t
def Sd(j n:Nat)(tm:List (Nat×V))(own:List Obj)(Ω:Store):Option Obj→St
 |some (.fH _ es)=>⟨XZ true j n es tm,(own.map (Obj.jg (C.lab true j n es))).set j .dead::Ω⟩
 |some (.dZ m _ es)=>⟨XZ false j m es tm,(own.map (Obj.jg (C.lab false j m es))).set j .dead::Ω⟩
 |_=>⟨tm,own::Ω⟩
def K9(j n:Nat)(s:St):St:=
 match s.st with
 |own::Ω=>Sd j n s.tm own Ω (own[j]?)
 |[]=>s
def Gw:Nat→Nat→St→St
 |0,_,s=>s
 |k+1,n,s=>Gw k n (K9 k n s)
def Ah(n:Nat)(s:St):St:=
 match s.st with
 |own::_=>Gw own.length n s
 |[]=>s
theorem Ph(j n:Nat)(s:St):fK N s (K9 j n s):=by
 obtain⟨tm,st⟩:=s
 cases st with
 |nil=>exact fK.refl _ _
 |cons own Ω=>
  show fK N ⟨tm,own::Ω⟩ (Sd j n tm own Ω (own[j]?))
  cases ho:own[j]? with
  |none=>exact fK.refl _ _
  |some o=>
   cases o with
   |fH z es=>exact fun a w σ β hR=>Qi j n z es true ho hR
   |dZ m z es=>exact fun a w σ β hR=>Qi j m z es false ho hR
   |_=>exact fK.refl _ _
theorem EF:∀(k n:Nat) (s:St),fK N s (Gw k n s)
 |0,n,s=>fK.refl _ _
 |k+1,n,s=>(Ph k n s).trans (EF k n _)
theorem yI(n:Nat)(s:St):fK N s (Ah n s):=by
 unfold Ah
 split
 ·exact EF _ _ _
 ·exact fK.refl _ _
theorem X0{j n:Nat}{tm:List (Nat×V)}{own:List Obj}{Ω:Store}:K9 j n ⟨tm,own::Ω⟩=Sd j n tm own Ω (own[j]?):=rfl
theorem U9{n:Nat}{tm:List (Nat×V)}{own:List Obj}{Ω:Store}:Ah n ⟨tm,own::Ω⟩=Gw own.length n ⟨tm,own::Ω⟩:=rfl
def MW(P:Program)(n:Nat)(rs:List ResultVar)(post:V→Store→Prop)(e:Exit)(s:St):Prop:=Wt P rs post e (Ah n s)
theorem X3{n:Nat}{rs:List ResultVar}{post:V→Store→Prop}:MW P n rs post .ret s=ME P rs post (Ah n s):=rfl
theorem Pj{n:Nat}{rs:List ResultVar}{post:V→Store→Prop}:MW P n rs post .normal s=ME P rs post (Ah n s):=rfl
theorem kD(n:Nat){f:FuncId}{fn:Func}{c:Code}{args:List V}{post:V→Store→Prop}{rs:List ResultVar}(iI:P.follows .mixedOrders=true)(hf:P.funcs[f]? =some fn)(hN:fn.ntmps=N)
 (hb:fn.body=some c) (hn:(fn.name== "runtime.NumGoroutine")=false) (hr:fn.results.toList=rs) (hl:Nat.ble args.length N=true) (hok:codeOk N c=true)
 (h:CW P N c (MW P n rs post) ⟨nH (args.map (V.up 1)) 0,[.seed n]::S⟩):bD P f args S post:=by
 subst hN
 subst hr
 exact vQ hf hb hn (Nat.le_of_ble_eq_true hl) (IU n (Gn (yI n) (kU iI c _ _ hok h)))
theorem X4{row:Bool}{j n l i:Nat}{es es':List (List D)}:C.lab row j n es (.bI (1+l,i) es')=.bI (1+l,i) es':=by rw[Nat.add_comm];rfl
theorem X5{row:Bool}{j n i:Nat}{es es':List (List D)}:C.lab row j n es (.bI (0,i) es')=if i=j∧row=false∧es'.length=es.length then .d (.ol n es) else .bI (0,i) es':=rfl
theorem X6{row:Bool}{j n l i:Nat}{es:List (List D)}:C.lab row j n es (.ku (1+l,i))=.ku (1+l,i):=by rw[Nat.add_comm];rfl
theorem X7{row:Bool}{j n i:Nat}{es:List (List D)}:C.lab row j n es (.ku (0,i))=if i=j∧row=true then .d (.ol n es) else .ku (0,i):=rfl
theorem ac6{row:Bool}{j n:Nat}{es:List (List D)}{x:D}:C.lab row j n es (.d x)=.d x:=rfl
theorem aaf{row:Bool}{j n:Nat}{es:List (List D)}:C.lab row j n es .any=.any:=rfl
theorem aag{row:Bool}{j n:Nat}{es es':List (List D)}:C.lab row j n es (.aM es')=.aM es':=rfl
theorem aah{row:Bool}{j n m:Nat}{es es':List (List D)}:C.lab row j n es (.iO m es')=.iO m es':=rfl
theorem aai{row:Bool}{j n off:Nat}{es:List (List D)}{k:Key}:C.lab row j n es (.ptr k off)=.ptr k off:=rfl
theorem abR{row:Bool}{j n f:Nat}{es:List (List D)}{caps:List (Key×Nat)}:C.lab row j n es (.fn f caps)=.fn f caps:=rfl
theorem X8{row:Bool}{j n:Nat}{es:List (List D)}{cs:List D}:C.lab row j n es (.jS cs)=.jS cs:=rfl
theorem MX{ι:Type}{ts:List Nat}{f:ι→List V}{g:ι→Store}{p:ι→Prop}{μ:ι→Nat}{i:ι}{tm:List (Nat×V)}{own:List Obj}{Ω:Store}{m:Nat}(m' n:Nat)(hnd:ts.Nodup)(j:ι)(h1:μ j<μ i)(h2:ts.map (look tm)=f j)(h3:(Obj.seed m'::own.take n)::Ω=g j)
 (hr:l8 (n+1) (iP ts (f j))=true) (ho:(own.take n).all (Obj.refs (n+1))=true) (h4:p j):Inv N ts f g p μ i ⟨tm,(.seed m::own)::Ω⟩:=by
 refine⟨j,⟨iP ts (f j),(.seed m'::own.take n)::Ω⟩,h1,?_,?_,h3,h4⟩
 ·have hg:fK N ⟨tm,(.seed m::own)::Ω⟩ ⟨iP ts (f j),(.seed m::own)::Ω⟩:=by
   rw[←h2]
   exact Fj fun t=>yB _ ts t
  refine hg.trans ((Gi (n+1) hr ?_).trans (yw m'))
  rw[List.take_succ_cons,List.all_cons,ho];rfl
 ·exact yC ts (f j) hnd (by rw[←h2];simp)
end
attribute [go_sem ↓] X3 Pj U9
attribute [go_sem] Gw X0 Sd U8 V.jg Obj.jg X4 X5 X6 X7 ac6 aaf aag aah aai abR X8
end Go.Ab
namespace Go.Ab
section
variable {P:Program} {N:Nat} {S:Store} {s:St} {tm:List (Nat×V)}
def D9(E:Md)(R:Array Oper)(K:St→Prop)(s:St):Prop:=K5 E R s.tm=true∧K s
@[congr] theorem acC {E:Md} {R:Array Oper} {K:St→Prop} {s s':St} (h2:s=s'):D9 E R K s=D9 E R K s':=by rw[h2]
def xw(P:Program)(N:Nat):Code→(Exit→St→Prop)→St→Prop
 | .seq x y,Q,s=>xw P N x (kJ (xw P N y Q) Q) s
 | .region _ R true,Q,s=>nY P (wB R N) R R.toList s (D9 (wB R N) R (Q .normal))
 | .region id R false,Q,s=>CW P N (.region id R false) Q s
 | .cond c x y,Q,s=>CW P N (.cond c x y) Q s
 | .block id c,Q,s=>CW P N (.block id c) Q s
 | .exit id,Q,s=>CW P N (.exit id) Q s
 | .ret,Q,s=>CW P N .ret Q s
 | .skip,Q,s=>CW P N .skip Q s
 | .loop c,Q,s=>CW P N (.loop c) Q s
 |_,_,_=>False
theorem aaj{x y:Code}{Q:Exit→St→Prop}:xw P N (.seq x y) Q s=xw P N x (kJ (xw P N y Q) Q) s:=by rw[xw]
theorem X9{id:Nat}{l:List Oper}{Q:Exit→St→Prop}:xw P N (.region id ⟨l⟩ true) Q s=nY P (wB ⟨l⟩ N) ⟨l⟩ l s (D9 (wB ⟨l⟩ N) ⟨l⟩ (Q .normal)):=by rw[xw]
theorem Sg{id:Nat}{l:List Oper}{Q:Exit→St→Prop}:xw P N (.region id ⟨l⟩ false) Q s=CW P N (.region id ⟨l⟩ false) Q s:=by rw[xw]
theorem Ya{c:Operand}{x y:Code}{Q:Exit→St→Prop}:xw P N (.cond c x y) Q s=CW P N (.cond c x y) Q s:=by rw[xw]
theorem aak{Q:Exit→St→Prop}:xw P N .ret Q s=CW P N .ret Q s:=by rw[xw]
theorem Yb{Q:Exit→St→Prop}:xw P N .skip Q s=CW P N .skip Q s:=by rw[xw]
end
attribute [go_sem ↓] aaj X9 Sg Ya aak Yb
end Go.Ab
namespace Go.Ab
section
variable {P:Program} {N:Nat} {S:Store} {s:St} {tm:List (Nat×V)}
def oq(P:Program)(N:Nat):Code→(Exit→St→Prop)→St→Prop
 | .seq x y,Q,s=>oq P N x (kJ (oq P N y Q) Q) s
 | .region _ R true,Q,s=>nY P (wB R N) R R.toList s (D9 (wB R N) R (Q .normal))
 | .region id R false,Q,s=>CW P N (.region id R false) Q s
 | .cond c x y,Q,s=>D6 (ev s.tm c) (oq P N x Q) (oq P N y Q) s
 | .block id c,Q,s=>oq P N c (xG id Q) s
 | .exit id,Q,s=>CW P N (.exit id) Q s
 | .ret,Q,s=>CW P N .ret Q s
 | .skip,Q,s=>CW P N .skip Q s
 | .loop c,Q,s=>CW P N (.loop c) Q s
 |_,_,_=>False
theorem aal{x y:Code}{Q:Exit→St→Prop}:oq P N (.seq x y) Q s=oq P N x (kJ (oq P N y Q) Q) s:=by rw[oq]
theorem Yc{id:Nat}{l:List Oper}{Q:Exit→St→Prop}:oq P N (.region id ⟨l⟩ true) Q s=nY P (wB ⟨l⟩ N) ⟨l⟩ l s (D9 (wB ⟨l⟩ N) ⟨l⟩ (Q .normal)):=by rw[oq]
theorem Si{id:Nat}{l:List Oper}{Q:Exit→St→Prop}:oq P N (.region id ⟨l⟩ false) Q s=CW P N (.region id ⟨l⟩ false) Q s:=by rw[oq]
theorem Yd{c:Operand}{x y:Code}{Q:Exit→St→Prop}:oq P N (.cond c x y) Q s=D6 (ev s.tm c) (oq P N x Q) (oq P N y Q) s:=by rw[oq]
theorem Va{id:Nat}{c:Code}{Q:Exit→St→Prop}:oq P N (.block id c) Q s=oq P N c (xG id Q) s:=by rw[oq]
theorem Ye{id:Nat}{Q:Exit→St→Prop}:oq P N (.exit id) Q s=CW P N (.exit id) Q s:=by rw[oq]
theorem aam{Q:Exit→St→Prop}:oq P N .ret Q s=CW P N .ret Q s:=by rw[oq]
theorem Yf{Q:Exit→St→Prop}:oq P N .skip Q s=CW P N .skip Q s:=by rw[oq]
theorem Yg{c:Code}{Q:Exit→St→Prop}:oq P N (.loop c) Q s=CW P N (.loop c) Q s:=by rw[oq]
end
attribute [go_sem ↓] aal Yc Si Yd Va Ye aam Yf Yg
end Go.Ab
namespace Go.Ab
section
variable {P:Program} {N:Nat} {S:Store} {s:St} {tm:List (Nat×V)}
end
end Go.Ab
namespace Go.Ab
theorem Sj{P:Program}{N:Nat}(n:Nat){f:FuncId}{fn:Func}{c:Code}{args:List V}{bg:List Obj}{Ω:Store}{post:V→Store→Prop}{rs:List ResultVar}(iI:P.follows .mixedOrders=true)(hf:P.funcs[f]? =some fn)(hN:fn.ntmps=N)
 (hb:fn.body=some c) (hn:(fn.name== "runtime.NumGoroutine")=false) (hr:fn.results.toList=rs) (hl:Nat.ble args.length N=true) (hok:codeOk N c=true)
 (h:CW P N c (MS P rs post) ⟨nH (args.map (V.up 1)) 0,[.seed n]::bg::Ω⟩):bD P f args (bg::Ω) post:=by
 subst hN
 subst hr
 exact JO hf hb hn (Nat.le_of_ble_eq_true hl) (IU n (kU iI c _ _ hok h))
theorem MZ{P:Program}{N:Nat}{c:Code}{Q:Exit→St→Prop}{tm:List (Nat×V)}{Ω:Store}(n k:Nat)(h:AW P N c Q ⟨tm,[.seed n,.seed k]::Ω⟩):AW P N c Q ⟨tm,[]::Ω⟩:=by
 refine IU n (kS h fun a w σ β hR=> ?_)
 obtain⟨bo,bΩ,rfl,hlen⟩:=frames hR
 obtain⟨hS',hk,hst⟩:=hR.S.push (o:=.seed k) (h:=undef) (Grow.refl hR.S.live) hlen trivial (fun b hb=>by cases hb)
 exact⟨σ,_,⟨hR.size,hR.defers,hS',fun u=>(hR.T u).mono (eF.refl _ _) hk⟩,hst,Keep.refl _ _⟩
section
variable {P:Program} {N:Nat} {S:Store}
theorem Gx(n k:Nat){f:FuncId}{fn:Func}{c:Code}{args:List V}{post:V→Store→Prop}{rs:List ResultVar}(iI:P.follows .mixedOrders=true)(hf:P.funcs[f]? =some fn)(hN:fn.ntmps=N)
 (hb:fn.body=some c) (hn:(fn.name== "runtime.NumGoroutine")=false) (hr:fn.results.toList=rs) (hl:Nat.ble args.length N=true) (hok:codeOk N c=true)
 (h:CW P N c (MW P n rs post) ⟨nH (args.map (V.up 1)) 0,[.seed n,.seed k]::S⟩):bD P f args S post:=by
 subst hN
 subst hr
 exact vQ hf hb hn (Nat.le_of_ble_eq_true hl) (MZ n k (Gn (yI n) (kU iI c _ _ hok h)))
end
end Go.Ab
namespace Go.Ab
section
variable {P:Program} {w w':World} {σ σ':Nat→Nat} {S:Store} {β:Hs}
def oF(w:World)(σ:Nat→Nat)(lo hi b:Nat):Prop:=∃c t fz m,w.heap[b]? =some (.cells c t fz)∧σ b=c.size+1+m∧lo≤m∧m<hi
theorem oF.mono{lo hi lo' hi' b:Nat}(h:oF w σ lo hi b)(h1:lo'≤lo)(h2:hi≤hi'):oF w σ lo' hi' b:=by
 obtain⟨c,t,fz,m,a1,a2,a3,a4⟩:=h
 exact⟨c,t,fz,m,a1,a2,by omega,by omega⟩
theorem oF.apart{lo hi lo' hi' b:Nat}(h:oF w σ lo hi b)(h':oF w σ lo' hi' b)(ho:hi≤lo'):False:=by
 obtain⟨c,t,fz,m,a1,a2,a3,a4⟩:=h
 obtain⟨c',t',LC,m',b1,b2,b3,b4⟩:=h'
 rw[a1] at b1;cases b1
 omega
abbrev Kids:=List (List (Option Value))
def kK(rows:Kids)(i o:Nat):Option Value:=((rows[i]?).bind fun r=>r[o]?).bind id
def Zc(rows:Kids):Array Value:=(rows.map fun r=>Value.tuple (r.map fun u=>u.getD (.bool false)).toArray).toArray
def mkT(v:Value)(rows:Kids):Value:=.tuple #[v,.tuple (Zc rows)]
theorem Qq{v:Value}{rows:Kids}:hdr (mkT v rows)=some v:=rfl
def IsT(v:Value):Prop:=∃a,v=.tuple a
theorem I9{v:Value}{rows:Kids}(h:∀i o u,kK rows i o=some u→IsT u)(i o:Nat):kid (mkT v rows) i o=kK rows i o:=by
 have h':=h i o
 unfold kid mkT Zc kK at *
 simp only[List.getElem?_toArray,List.getElem?_cons_succ,List.getElem?_cons_zero,List.getElem?_map]
 cases hr:rows[i]? with
 |none=>rfl
 |some r=>
  rw[hr] at h'
  simp only[Option.map_some,List.getElem?_toArray,List.getElem?_map]
  cases hu:r[o]? with
  |none=>simp[hu]
  |some u=>
   simp only[Option.bind_some,hu,id] at h'
   cases u with
   |none=>simp[hu]
   |some u=>
    obtain⟨a,rfl⟩:=h' u rfl
    simp[hu]
def La(w:World)(d:D)(v:Value)(u:Option Value):Prop:=
 match d with
 | .sl es=>∃T,u=some T∧IsT T∧hdr T=some v∧mZ w es T
 |d=>u=none∧SD d v
theorem M0{z:Nat}:∀{rs:List (List D)} {n:Nat},(∀r∈eG rs n,r.length=z)→∀r∈rs,r.length=z
 |[],_,_,r,h=>by cases h
 |a::rs,n,ha,r,h=>by
  rw[eG] at ha
  rcases List.mem_cons.1 h with e|h
  ·subst e;rw[←fZ r n];exact ha _ (by simp)
  ·exact M0 (n:=n+oC a) (fun r hr=>ha r (by simp[hr])) r h
structure ae5 (w:World) (σ:Nat→Nat) (r:List D) (n m:Nat) (vals:Nat→Value) (us:List (Option Value)):Prop where
 len:us.length=r.length
 cell:∀(j:Nat) (d:D),r[j]? =some d→∃u,us[j]? =some u∧La w d (vals j) u
 own:∀(j:Nat) (u:Value),us[j]? =some (some u)→∀b,jT u b→oF w σ n m b
 apart:∀(j j':Nat) (u u':Value) (b:Nat),j≠j'→us[j]? =some (some u)→us[j']? =some (some u')→jT u b→jT u' b→False
structure ac7 (w:World) (σ:Nat→Nat) (z:Nat) (rs:List (List D)) (n m:Nat) (vals:Nat→Value) (U:Kids):Prop where
 cell:∀(i o:Nat) (d:D),cellAt rs i o=some d→∃u,((U[i]?).bind fun r=>r[o]?)=some u∧La w d (vals (i*z+o)) u
 kid:∀(i o:Nat) (u:Value),kK U i o=some u→∃es,cellAt rs i o=some (.sl es)
 own:∀(i o:Nat) (u:Value),kK U i o=some u→∀b,jT u b→oF w σ n m b
 apart:∀(i o i' o':Nat) (u u':Value) (b:Nat),(i,o)≠(i',o')→kK U i o=some u→kK U i' o'=some u'→jT u b→jT u' b→False
theorem uK{us:List (Option Value)}{U:Kids}{o:Nat}{u:Value}:kK (us::U) 0 o=some u↔us[o]? =some (some u):=by
 show(us[o]?).bind id=some u↔_
 cases us[o]? with
 |none=>simp
 |some x=>simp
mutual
theorem ac8:∀(d:D) (n:Nat) (v:Value),oM d=true→bZ w σ (lH d n) v→∃u,La w d v u∧∀T,u=some T→∀b,jT T b→oF w σ n (n+nZ d) b
 | .sl es,n,v,hp,h=>by
   rw[lH] at h
   have hl:=jk es (n+1)
   have hrec:=Vb es (n+1)
   have hrow:=fun z=>M0 (z:=z) (rs:=es) (n:=n+1)
   generalize eG es (n+1)=q at h hl hrec hrow
   have hempty:∀a cap,es=[]→v=.slice a 0 cap→∃u,La w (.sl es) v u∧∀T,u=some T→∀b,jT T b→oF w σ n (n+nZ (.sl es)) b:=by
    rintro a cap rfl rfl
    have hk:∀i o,kid (mkT (.slice a 0 cap) []) i o=none:=fun i o=>by rw[I9 (fun i o u h=>by simp[kK] at h)];simp[kK]
    refine⟨some (mkT (.slice a 0 cap) []),⟨_,rfl,⟨_,rfl⟩,rfl,.nil a cap _ rfl hk⟩,fun T hT b hb=> ?_⟩
    cases hT
    exfalso
    cases hb with
    |here h1 h2=>rw[Qq] at h1;cases h1;omega
    |kid h1 h2=>rw[hk] at h1;cases h1
   cases h with
   |qF n a cap=>exact hempty a cap (List.eq_nil_of_length_eq_zero (by simpa using hl.symm)) rfl
   |ol n b off cap z q vals c t hcap hlen hb hσ hfit hc hv=>
    by_cases hne:es=[]
    ·subst hne
     have hq0:q.length=0:=by simpa using hl
     exact hempty _ _ rfl (by rw[hq0])
    rw[hl] at hcap hfit hc ⊢
    obtain⟨U,hU⟩:=hrec z vals (hrow z hlen) (by simpa [oM] using hp) hv
    have hrl:=hrow z hlen
    have hT:∀i o u,kK U i o=some u→IsT u:=fun i o u hu=>by
     obtain⟨es',he⟩:=hU.kid i o u hu
     obtain⟨u',h1,h2⟩:=hU.cell i o _ he
     obtain⟨T,h3,h4,_⟩:=h2
     unfold kK at hu
     rw[h1,h3] at hu
     cases hu;exact h4
    have qo:∀i o,kid (mkT (.slice (some ⟨b,off,none⟩) es.length cap) U) i o=kK U i o:=I9 hT
    have hcell:∀i o es',cellAt es i o=some (.sl es')→∃T,kK U i o=some T∧hdr T=some (vals (i*z+o))∧mZ w es' T:=fun i o es' he=>by
     obtain⟨u',h1,T,h3,h4,h5,h6⟩:=hU.cell i o _ he
     refine⟨T,?_,h5,h6⟩
     unfold kK
     rw[h1,h3];rfl
    have hself:∀x,oF w σ (n+1) (n+1+jy es) x→x≠b:=by
     rintro x ⟨c',t',LC,m,a1,a2,a3,a4⟩ rfl
     rw[hb] at a1;cases a1
     omega
    refine⟨some (mkT (.slice (some ⟨b,off,none⟩) es.length cap) U),⟨_,rfl,⟨_,rfl⟩,rfl,?_⟩,fun T hT' x hx=> ?_⟩
    ·refine .mk b off cap z es _ c t (fun i o=>vals (i*z+o)) (fun i o=>(kK U i o).getD undef) rfl hne hcap hrl hb hfit (fun i o d hd=> ?_) (fun i o d hd=> ?_) (fun i o es' he=> ?_) (fun i o es' he=> ?_) (fun i o u hu hb'=> ?_) (fun i o i' o' u u' x Zd hu hu' h1 h2=> ?_) (fun i o u hu=> ?_)
     ·obtain⟨hi,ho⟩:=u6 hd
      rw[hrl _ (List.getElem_mem hi)] at ho
      refine hc _ ?_
      have:(i+1)*z≤es.length*z:=Nat.mul_le_mul_right _ hi
      rw[Nat.add_mul,Nat.one_mul] at this
      omega
     ·obtain⟨u,h1,h2⟩:=hU.cell i o d hd
      cases d<;>first|exact .inl ⟨_,rfl⟩|exact .inr h2.2
     ·obtain⟨T,h1,h2,h3⟩:=hcell i o es' he
      rw[qo,h1]
      exact⟨rfl,h2⟩
     ·obtain⟨T,h1,h2,h3⟩:=hcell i o es' he
      rw[h1];exact h3
     ·rw[qo] at hu
      exact hself b (hU.own i o u hu b hb') rfl
     ·rw[qo] at hu hu'
      exact hU.apart i o i' o' u u' x Zd hu hu' h1 h2
     ·rw[qo] at hu
      exact hU.kid i o u hu
    ·cases hT'
     cases hx with
     |here h1 h2=>rw[Qq] at h1;cases h1;exact⟨c,t,(0,0),n,hb,hσ,Nat.le_refl _,by rw[nZ];omega⟩
     |kid h1 h2=>
      rw[qo] at h1
      exact(hU.own _ _ _ h1 _ h2).mono (by omega) (by rw[nZ];omega)
 | .ol m es,n,v,hp,h=>by simp[oM] at hp
 | .b x,n,v,hp,h=>by rw[lH] at h;cases h;exact⟨none,⟨rfl,rfl⟩,fun T h=>by cases h⟩
 | .i k x,n,v,hp,h=>by rw[lH] at h;cases h;exact⟨none,⟨rfl,rfl⟩,fun T h=>by cases h⟩
 | .s l,n,v,hp,h=>by rw[lH] at h;cases h;exact⟨none,⟨rfl,rfl⟩,fun T h=>by cases h⟩
 | .o u,n,v,hp,h=>by simp[oM] at hp
theorem Lb:∀(r:List D) (n:Nat) (vals:Nat→Value),iD r=true→(∀(j:Nat) (d:D),(eB r n)[j]? =some d→bZ w σ d (vals j))→∃us,ae5 w σ r n (n+oC r) vals us
 |[],n,vals,hp,h=>⟨[],rfl,fun j d h=>by simp at h,fun j u h=>by simp at h,fun j j' u u' b _ h=>by simp at h⟩
 |d::r,n,vals,hp,h=>by
  rw[iD,Bool.and_eq_true] at hp
  rw[eB] at h
  obtain⟨u,h1,h2⟩:=ac8 d n (vals 0) hp.1 (h 0 _ rfl)
  obtain⟨us,qE⟩:=Lb r (n+nZ d) (fun j=>vals (j+1)) hp.2 fun j x hx=>h (j+1) x hx
  rw[oC]
  have hown:∀(j:Nat) (T:Value),us[j]? =some (some T)→∀b,jT T b→oF w σ (n+nZ d) (n+nZ d+oC r) b:=qE.own
  refine⟨u::us,by rw[List.length_cons,List.length_cons,qE.len],fun j x hx=> ?_,fun j T hT b hb=> ?_,fun j j' T T' b hj hT hT' hb hb'=> ?_⟩
  ·cases j with
   |zero=>simp at hx;subst hx;exact⟨u,rfl,h1⟩
   |succ j=>exact qE.cell j x hx
  ·cases j with
   |zero=>simp at hT;exact(h2 T hT b hb).mono (Nat.le_refl _) (by omega)
   |succ j=>exact(hown j T hT b hb).mono (by omega) (by omega)
  ·cases j with
   |zero=>
    cases j' with
    |zero=>exact hj rfl
    |succ j'=>simp at hT;exact(h2 T hT b hb).apart (hown j' T' hT' b hb') (Nat.le_refl _)
   |succ j=>
    cases j' with
    |zero=>simp at hT';exact(h2 T' hT' b hb').apart (hown j T hT b hb) (Nat.le_refl _)
    |succ j'=>exact qE.apart j j' T T' b (by omega) hT hT' hb hb'
theorem Vb:∀(rs:List (List D)) (n z:Nat) (vals:Nat→Value),(∀r∈rs,r.length=z)→iR rs=true→(∀(j:Nat) (d:D),(eG rs n).flatten[j]? =some d→bZ w σ d (vals j))→∃U,ac7 w σ z rs n (n+jy rs) vals U
 |[],n,z,vals,hz,hp,h=>⟨[],fun i o d h=>by simp[cellAt] at h,fun i o u h=>by simp[kK] at h,fun i o u h=>by simp[kK] at h,fun i o i' o' u u' b _ h=>by simp[kK] at h⟩
 |r::rs,n,z,vals,hz,hp,h=>by
  rw[iR,Bool.and_eq_true] at hp
  rw[eG,List.flatten_cons] at h
  have hrz:r.length=z:=hz r (by simp)
  obtain⟨us,qE⟩:=Lb r n vals hp.1 fun j d hd=>h j d (by rw[List.getElem?_append_left (List.getElem?_eq_some_iff.1 hd).1];exact hd)
  obtain⟨U,hU⟩:=Vb rs (n+oC r) z (fun j=>vals (z+j)) (fun r hr=>hz r (by simp[hr])) hp.2 fun j d hd=>h (z+j) d (by
   rw[List.getElem?_append_right (by rw[fZ];omega),fZ,hrz,Nat.add_sub_cancel_left];exact hd)
  rw[jy]
  have hown:∀(i o:Nat) (T:Value),kK U i o=some T→∀b,jT T b→oF w σ (n+oC r) (n+oC r+jy rs) b:=hU.own
  refine⟨us::U,fun i o d hd=> ?_,fun i o u hu=> ?_,fun i o T hT b hb=> ?_,fun i o i' o' T T' b Zd hT hT' hb hb'=> ?_⟩
  ·cases i with
   |zero=>
    obtain⟨u,h1,h2⟩:=qE.cell o d hd
    exact⟨u,h1,by rw[Nat.zero_mul,Nat.zero_add];exact h2⟩
   |succ i=>
    obtain⟨u,h1,h2⟩:=hU.cell i o d hd
    exact⟨u,h1,by rw[show(i+1)*z+o=z+(i*z+o) by rw[Nat.add_mul];omega];exact h2⟩
  ·cases i with
   |zero=>
    rw[uK] at hu
    have ho:o<r.length:=by rw[←qE.len];exact(List.getElem?_eq_some_iff.1 hu).1
    obtain⟨u',h1,h2⟩:=qE.cell o r[o] (List.getElem?_eq_getElem ho)
    rw[hu] at h1;cases h1
    have hc:cellAt (r::rs) 0 o=some r[o]:=List.getElem?_eq_getElem ho
    rw[hc]
    generalize r[o]=d at h2
    cases d<;>first|exact⟨_,rfl⟩|(cases h2.1)
   |succ i=>exact hU.kid i o u hu
  ·cases i with
   |zero=>rw[uK] at hT;exact(qE.own o T hT b hb).mono (Nat.le_refl _) (by omega)
   |succ i=>exact(hown i o T hT b hb).mono (by omega) (by omega)
  ·cases i with
   |zero=>
    rw[uK] at hT
    cases i' with
    |zero=>rw[uK] at hT';exact qE.apart o o' T T' b (fun e=>Zd (by rw[e])) hT hT' hb hb'
    |succ i'=>exact(qE.own o T hT b hb).apart (hown i' o' T' hT' b hb') (Nat.le_refl _)
   |succ i=>
    cases i' with
    |zero=>rw[uK] at hT';exact(qE.own o' T' hT' b hb').apart (hown i o T hT b hb) (Nat.le_refl _)
    |succ i'=>exact hU.apart i o i' o' T T' b (fun e=>Zd (by cases e;rfl)) hT hT' hb hb'
end
end
end Go.Ab
namespace Go.Ab
section
variable {P:Program} {w w':World} {σ σ':Nat→Nat} {S:Store} {β:Hs}
def sG:D→List (List D)
 | .sl es=>es
 |_=>[]
def Lc(k:Key)(j:Nat):D→C
 | .sl _=>.xp k j []
 |d=>.d d
def zO(k:Key):Nat→List D→List C
 |_,[]=>[]
 |j,d::ds=>Lc k j d::zO k (j+1) ds
theorem su{k:Key}:∀(j:Nat) (r:List D),(zO k j r).length=r.length
 |_,[]=>rfl
 |j,d::ds=>by rw[zO,List.length_cons,su,List.length_cons]
theorem Ja{k:Key}:∀(r:List D) (j i:Nat),(zO k j r)[i]? =(r[i]?).map (Lc k (j+i))
 |[],j,i=>by simp[zO]
 |d::ds,j,0=>rfl
 |d::ds,j,i+1=>by
  rw[zO,List.getElem?_cons_succ,List.getElem?_cons_succ,Ja ds (j+1) i,show j+1+i=j+(i+1) by omega]
def Sk:C→C
 | .d x=>.d x
 | .aM es=>.d (.sl es)
 | .bI _ es=>.d (.sl es)
 | .iO n es=>.d (.ol n es)
 | .jS cs=>.jS cs
 |_=>.any
def Sl:V→V
 | .c x=>.c (Sk x)
 | .agg cs=>.agg (cs.map Sk)
 |_=>.any
theorem JR{c:C}{v:Value}(h:fU w σ S β c v)(S':Store)(β':Hs):fU w σ S' β' (Sk c) v:=by
 cases c with
 |d x=>exact h
 |aM es=>exact h.1
 |bI k es=>exact h.1
 |iO n es=>exact h.1
 |jS cs=>exact h
 |_=>trivial
theorem Yh{x:V}{v:Value}(h:bV w σ S β x v)(S':Store)(β':Hs):bV w σ S' β' (Sl x) v:=by
 cases x with
 |c x=>exact⟨JR h.1 _ _,h.2⟩
 |agg cs=>
  obtain⟨a,ha,hl,hc⟩:=h
  refine⟨a,ha,by rw[List.length_map];exact hl,fun i x hx=> ?_⟩
  rw[List.getElem?_map] at hx
  cases hi:cs[i]? with
  |none=>rw[hi] at hx;cases hx
  |some y=>
   rw[hi] at hx;cases hx
   obtain⟨u,q1,q2,q3⟩:=hc i y hi
   exact⟨u,q1,JR q2 _ _,q3⟩
 |_=>trivial
theorem Bj(hl:∀b,b<w.heap.size∨σ b=0)(hg:zG w σ):dH w σ [] [] where
 qp:=hg
 obj:=fun k o h=>by rw[l5] at h;cases h
 apart:=fun k k' o o' h h' b h1=>by rw[l5] at h1;cases h1
 shape:=⟨rfl,fun l fr h=>by simp at h⟩
 live:=hl
theorem xP{β:Hs}{b:Nat}:¬Own [] β b:=fun⟨k,o,h,h1,_⟩=>by rw[l5] at h1;cases h1
def Gy(mk:List C→V)(m:Nat):Prop:=∀w σ S β cs v,cs.length=m→bV w σ S β (mk cs) v→∃vs,eX w σ S β cs vs∧∀w' σ' S' β' cs',cs'.length=m→eX w' σ' S' β' cs' vs→bV w' σ' S' β' (mk cs') v
theorem Sm{m:Nat}:Gy V.agg m:=fun w σ S β cs v _ ⟨a,ha,hc⟩=>⟨a.toList,hc,fun w' σ' S' β' cs' _ hc'=>⟨a,ha,hc'⟩⟩
def M4:C→Bool
 | .d d=>dD d
 |_=>false
theorem Gz{c:C}{v:Value}(h:M4 c=true)(hr:fU w σ S β c v)(w':World)(σ':Nat→Nat)(S':Store)(β':Hs):fU w' σ' S' β' c v:=by
 cases c with
 |d d=>cases d<;>first|(cases h;done)|(cases hr;constructor)
 |_=>cases h
theorem Sn{m:Nat}(xs:List C)(h:xs.all M4=true):Gy (fun cs=>.d9 ((true,cs)::xs.map fun x=>(false,[x]))) m:=by
 rintro w σ S β cs v _ ⟨a,ha,hl,hc⟩
 obtain⟨u,hu,a',rfl,hcs⟩:=hc 0 _ rfl
 refine⟨a'.toList,hcs,fun w' σ' S' β' cs' _ hc'=>⟨a,ha,hl,fun j y hy=> ?_⟩⟩
 cases j with
 |zero=>simp at hy;subst hy;exact⟨_,hu,a',rfl,hc'⟩
 |succ j=>
  rw[List.getElem?_cons_succ] at hy
  obtain⟨u,h1,h2⟩:=hc (j+1) y (by rw[List.getElem?_cons_succ];exact hy)
  refine⟨u,h1,?_⟩
  rw[List.getElem?_map] at hy
  cases hx:xs[j]? with
  |none=>rw[hx] at hy;cases hy
  |some x=>
   rw[hx] at hy;cases hy
   obtain⟨x',e,h3,h4⟩:=h2
   cases e
   exact⟨x,rfl,Gz (List.all_eq_true.1 h x (List.mem_of_getElem? hx)) h3 _ _ _ _,h4⟩
def qU:Value:=mkT (.slice none 0 0) []
theorem CJ(i o:Nat):kid qU i o=none:=by
 unfold qU
 rw[I9 (fun i o u h=>by simp[kK] at h)];simp[kK]
theorem rH{b:Nat}:¬jT qU b:=fun h=>by
 cases h with
 |here h1 h2=>cases h1
 |kid h1 h2=>rw[CJ] at h1;cases h1
theorem Fu(σ:Nat→Nat):∀n:Nat,∃m,∀b,b<n→σ b≤m
 |0=>⟨0,fun b h=>by omega⟩
 |n+1=>by
  obtain⟨m,hm⟩:=Fu σ n
  refine⟨max m (σ n),fun b hb=> ?_⟩
  by_cases e:b=n
  ·subst e;omega
  ·have:=hm b (by omega);omega
open Classical in
theorem bD.own{f:FuncId}{args:List V}{bg:List Obj}{Ω:Store}{mk:List C→V}{r:List D}(hm:Gy mk r.length)(hp:iD r=true)
 (h:∀n,aI P f (args.map Sl) (mk ((eB r n).map .d))):
 bD P f args (bg::Ω) (fun r' S'=>r'=mk (zO (0,bg.length) 0 r)∧S'=(bg++[.xf (r.map sG)])::Ω):=by
 refine⟨(h 0 []).1,fun w σ β vs hS hargs=> ?_⟩
 obtain⟨n,hn⟩:=Fu σ w.heap.size
 have Vd:lS w σ [] [] (args.map Sl) vs:=by
  refine⟨by rw[List.length_map];exact hargs.1,fun j x hx=> ?_⟩
  rw[List.getElem?_map] at hx
  cases ha:args[j]? with
  |none=>rw[ha] at hx;cases hx
  |some y=>
   rw[ha] at hx;cases hx
   obtain⟨v,h1,h2⟩:=hargs.2 j y ha
   exact⟨v,h1,Yh h2 _ _⟩
 refine((h n []).2 w σ [] vs (Bj hS.live hS.qp) Vd).mono fun e w' ⟨v,r',S',σ',β',he,hS',hk,hst,hv,hr',hS2⟩=> ?_
 subst hr';subst hS2
 obtain⟨M5,hcs,hback⟩:=hm w' σ' _ β' _ v (by rw[List.length_map,fZ]) hv
 have Yi:M5.length=r.length:=by rw[←hcs.1,List.length_map,fZ]
 obtain⟨us,qE⟩:=Lb r n (fun j=>M5.getD j undef) hp (fun j d hd=>by
  obtain⟨u,h1,h2,_⟩:=hcs.2 j (.d d) (by rw[List.getElem?_map,hd];rfl)
  simp only[List.getD_eq_getElem?_getD,h1,Option.getD_some]
  exact h2)
 let h0:Value:=.tuple (us.map fun u=>u.getD qU).toArray
 have hroot:∀j,qG h0 j=(us[j]?).map fun u=>u.getD qU:=fun j=>by simp[h0,qG]
 have hfresh:∀b,gP h0 b→w.heap.size≤b:=by
  rintro b ⟨j,T,h1,h2⟩
  rw[hroot] at h1
  cases hu:us[j]? with
  |none=>rw[hu] at h1;cases h1
  |some u=>
   rw[hu] at h1
   simp only[Option.map_some,Option.some.injEq] at h1
   cases u with
   |none=>subst h1;exact absurd h2 rH
   |some u=>
    simp at h1;subst h1
    obtain⟨c,t,fz,m,a1,a2,a3,a4⟩:=qE.own j u hu b h2
    refine Nat.le_of_not_lt fun hlt=> ?_
    have h1:=(hst.far b hlt xP).2
    have h2:=hn b hlt
    omega
 let σ2:Nat→Nat:=fun b=>if gP h0 b then 0 else σ' b
 have hg:Grow w σ w' σ2:=⟨hst.size,hst.os,hst.output,fun b hb=>by
  obtain⟨h1,h2⟩:=hst.far b hb xP
  exact⟨h1,(if_neg fun hx=>by have:=hfresh b hx;omega).trans h2⟩,fun b=>by
  rcases hS'.live b with hb|hb
  ·exact .inl hb
  ·right;show(if gP h0 b then 0 else σ' b)=0;rw[hb];split<;>rfl⟩
 cases β with
 |nil=>have:=hS.shape.1;simp at this
 |cons bo bΩ=>
 have hlen:bo.length=bg.length:=by
  obtain⟨gr,g1,g2⟩:=hS.shape.2 0 bg rfl
  simp at g1;rw[g1];exact g2
 obtain⟨hS3,hk3,Yj⟩:=hS.push (o:=.xf (r.map sG)) (h:=h0) hg hlen (by
  refine⟨fun j es hj=> ?_,fun j T hT=> ?_,fun b hb=>if_pos hb,fun j j' T T' x hjj hT hT' hx hx'=> ?_⟩
  ·rw[List.getElem?_map] at hj
   cases hd:r[j]? with
   |none=>rw[hd] at hj;cases hj
   |some d=>
    rw[hd] at hj
    simp only[Option.map_some,Option.some.injEq] at hj
    subst hj
    obtain⟨u,h1,h2⟩:=qE.cell j d hd
    rw[hroot,h1]
    have hsc:(∀es,d≠ .sl es)→∃T,Option.map (fun u=>Option.getD u qU) (some u)=some T∧mZ w' (sG d) T:=fun hne=>by
     have hu:u=none:=by cases d<;>first|exact absurd rfl (hne _)|exact h2.1
     have hr0:sG d=[]:=by cases d<;>first|exact absurd rfl (hne _)|rfl
     subst hu
     rw[hr0]
     exact⟨qU,rfl,.nil none 0 _ rfl CJ⟩
    cases d with
    |sl es=>obtain⟨T,rfl,_,_,h6⟩:=h2;exact⟨T,rfl,h6⟩
    |_=>exact hsc (fun es e=>by cases e)
  ·rw[List.length_map]
   rw[hroot] at hT
   cases hu:us[j]? with
   |none=>rw[hu] at hT;cases hT
   |some u=>rw[←qE.len];exact(List.getElem?_eq_some_iff.1 hu).1
  ·rw[hroot] at hT hT'
   cases hu:us[j]? with
   |none=>rw[hu] at hT;cases hT
   |some u=>
    cases hu':us[j']? with
    |none=>rw[hu'] at hT';cases hT'
    |some u'=>
     rw[hu] at hT;rw[hu'] at hT'
     simp only[Option.map_some,Option.some.injEq] at hT hT'
     cases u with
     |none=>subst hT;exact rH hx
     |some u=>
      cases u' with
      |none=>subst hT';exact rH hx'
      |some u'=>simp at hT hT';subst hT;subst hT';exact qE.apart j j' u u' x hjj hu hu' hx hx') (fun b hb=>hfresh b hb)
 refine⟨v,_,_,σ2,(bo++[h0])::bΩ,he,hS3,hk3,Yj,?_,rfl,rfl⟩
 refine hback _ _ _ _ _ (by rw[su]) ⟨by rw[su,Yi],fun j x hx=> ?_⟩
 rw[Ja,Nat.zero_add] at hx
 cases hd:r[j]? with
 |none=>rw[hd] at hx;cases hx
 |some d=>
  rw[hd] at hx
  simp only[Option.map_some,Option.some.injEq] at hx
  obtain⟨u,h1,h2⟩:=qE.cell j d hd
  have hjl:j<(eB r n).length:=by rw[fZ];exact(List.getElem?_eq_some_iff.1 hd).1
  obtain⟨v0,h3,_,h4⟩:=hcs.2 j (.d (eB r n)[j]) (by rw[List.getElem?_map,List.getElem?_eq_getElem hjl];rfl)
  have hv0:M5.getD j undef=v0:=by rw[List.getD_eq_getElem?_getD,h3];rfl
  simp only[hv0] at h2
  refine⟨v0,h3,?_,h4⟩
  have hsc:(∀es,d≠ .sl es)→fU w' σ2 ((bg++[.xf (r.map sG)])::Ω) ((bo++[h0])::bΩ) (.d d) v0:=fun hne=>by
   have:SD d v0:=by cases d<;>first|exact absurd rfl (hne _)|exact h2.2
   exact FU this
  cases d with
  |sl es=>
   subst hx
   obtain⟨T,rfl,_,h5,_⟩:=h2
   refine⟨_,bN _ _ _,fun rs _=>⟨h0,by rw[←hlen,bN],?_⟩⟩
   unfold xB
   rw[hroot,h1]
   exact h5
  |_=>subst hx;exact hsc (fun es e=>by cases e)
end
end Go.Ab
namespace Go.Ab
section
variable {P:Program} {w w':World} {σ σ':Nat→Nat} {S:Store} {β:Hs}
def abU(r:V):Prop:=∀w σ σ2 S β S2 β2 v,(∀b c t fz,w.heap[b]? =some (.cells c t fz)→c.size<σ b→σ2 b=σ b)→bV w σ S β r v→bV w σ2 S2 β2 r v
mutual
theorem ae6{σ2:Nat→Nat}(hs:∀b c t fz,w.heap[b]? =some (.cells c t fz)→c.size<σ b→σ2 b=σ b):∀(d:D) (n:Nat) (v:Value),oM d=true→bZ w σ (lH d n) v→bZ w σ2 (lH d n) v
 | .sl es,n,v,hp,h=>by
   rw[lH] at h ⊢
   have hrec:=Ze hs es (n+1)
   generalize eG es (n+1)=q at h hrec ⊢
   cases h with
   |qF n a cap=>exact .qF n a cap
   |ol n b off cap z q vals c t hcap hlen hb hσ hfit hc hv=>exact .ol n b off cap z q vals c t hcap hlen hb ((hs b c t _ hb (by omega)).trans hσ) hfit hc (hrec vals (by simpa [oM] using hp) hv)
 | .ol m es,n,v,hp,h=>by simp[oM] at hp
 | .b x,n,v,hp,h=>by rw[lH] at h ⊢;cases h;constructor
 | .i k x,n,v,hp,h=>by rw[lH] at h ⊢;cases h;constructor
 | .s l,n,v,hp,h=>by rw[lH] at h ⊢;cases h;constructor
 | .o u,n,v,hp,h=>by simp[oM] at hp
theorem abV{σ2:Nat→Nat}(hs:∀b c t fz,w.heap[b]? =some (.cells c t fz)→c.size<σ b→σ2 b=σ b):∀(r:List D) (n:Nat) (vals:Nat→Value),iD r=true→(∀(j:Nat) (d:D),(eB r n)[j]? =some d→bZ w σ d (vals j))→
 ∀(j:Nat) (d:D),(eB r n)[j]? =some d→bZ w σ2 d (vals j)
 |[],n,vals,hp,h,j,d,hd=>by simp[eB] at hd
 |a::r,n,vals,hp,h,j,d,hd=>by
  rw[iD,Bool.and_eq_true] at hp
  rw[eB] at h hd
  cases j with
  |zero=>
   simp at hd;subst hd
   exact ae6 hs a n _ hp.1 (h 0 _ rfl)
  |succ j=>exact abV hs r (n+nZ a) (fun i=>vals (i+1)) hp.2 (fun i d hi=>h (i+1) d hi) j d hd
theorem Ze{σ2:Nat→Nat}(hs:∀b c t fz,w.heap[b]? =some (.cells c t fz)→c.size<σ b→σ2 b=σ b):∀(rs:List (List D)) (n:Nat) (vals:Nat→Value),iR rs=true→(∀(j:Nat) (d:D),(eG rs n).flatten[j]? =some d→bZ w σ d (vals j))→
 ∀(j:Nat) (d:D),(eG rs n).flatten[j]? =some d→bZ w σ2 d (vals j)
 |[],n,vals,hp,h,j,d,hd=>by simp[eG] at hd
 |r::rs,n,vals,hp,h,j,d,hd=>by
  rw[iR,Bool.and_eq_true] at hp
  rw[eG,List.flatten_cons] at h hd
  by_cases hj:j<(eB r n).length
  ·rw[List.getElem?_append_left hj] at hd
   exact abV hs r n vals hp.1 (fun j d hd=>h j d (by rw[List.getElem?_append_left (List.getElem?_eq_some_iff.1 hd).1];exact hd)) j d hd
  ·rw[List.getElem?_append_right (by omega)] at hd
   have:=Ze hs rs (n+oC r) (fun i=>vals ((eB r n).length+i)) hp.2 (fun j d hd=>h _ d (by rw[List.getElem?_append_right (by omega),Nat.add_sub_cancel_left];exact hd)) (j-(eB r n).length) d hd
   rwa [show(eB r n).length+(j-(eB r n).length)=j by omega] at this
end
theorem Bl{c:C}(h:M4 c=true):abU (.c c):=fun w σ σ2 S β S2 β2 v _ hv=>⟨Gz h hv.1 _ _ _ _,hv.2⟩
theorem mZ.data{es:List (List D)}{T v:Value}(h:mZ w es T)(hv:hdr T=some v)(hσ:∀b c t fz,jT T b→w.heap[b]? =some (.cells c t fz)→c.size≤σ b):bZ w σ (.sl es) v:=by
 induction h generalizing v with
 |nil a cap T h hk=>rw[h] at hv;cases hv;exact .nil a cap
 |mk b off cap z es T c t vals kids hh hne hcap hlen hb hfit hc hs hk hx hself hap qo ih=>
  rw[hh] at hv;cases hv
  have hpos:0<es.length:=List.length_pos_iff.2 hne
  have hfl:=jU es z hlen
  have hidx:∀j,j<es.length*z→∃hi:j/z<es.length,j % z<z∧j/z*z+j % z=j:=fun j hj=>by
   have hz:0<z:=by rcases Nat.eq_zero_or_pos z with h|h;·rw[h] at hj;simp at hj
                   ·exact h
   exact⟨(Nat.div_lt_iff_lt_mul hz).2 hj,Nat.mod_lt _ hz,by rw[Nat.mul_comm];exact Nat.div_add_mod j z⟩
  have hcell:∀j d,es.flatten[j]? =some d→∃hi:j/z<es.length,cellAt es (j/z) (j % z)=some d∧j/z*z+j % z=j:=fun j d hd=>by
   have hj:j<es.length*z:=by rw[←hfl];exact(List.getElem?_eq_some_iff.1 hd).1
   obtain⟨hi,hm,he⟩:=hidx j hj
   refine⟨hi,?_,he⟩
   have:=flat_get es z hlen (j/z) (j % z) hi hm
   rw[he,hd] at this
   unfold cellAt
   rw[List.getElem?_eq_getElem hi]
   exact this.symm
  refine .sl b off cap z es (fun j=>vals (j/z) (j % z)) c t (0,0) hcap hlen hb (Nat.le_trans hfit (hσ b c t _ (.here hh hpos) hb)) (fun j hj=> ?_) (fun j d hd=> ?_)
  ·obtain⟨hi,hce,he⟩:=hcell j _ (List.getElem?_eq_getElem (by rw[hfl];exact hj))
   have:=hc _ _ _ hce
   rwa [he] at this
  ·obtain⟨hi,hce,he⟩:=hcell j d hd
   rcases hs _ _ _ hce with⟨es',rfl⟩|hsd
   ·obtain⟨k1,k2⟩:=hk _ _ _ hce
    exact ih _ _ _ hce k2 fun b' c' t' LC ho hb'=>hσ b' c' t' LC (.kid k1 ho) hb'
   ·exact FU hsd
def Ea(k:Key)(rs:List (List (List D))):C→C
 | .xp k' r []=>if k'=k then(match rs[r]? with|some es=>.d (.sl es)|none=>.any) else .any
 | .d x=>.d x
 |_=>.any
def GA(k:Key)(rs:List (List (List D))):V→V
 | .c x=>.c (Ea k rs x)
 | .agg cs=>.agg (cs.map (Ea k rs))
 |_=>.any
open Classical in
theorem bD.lend{f:FuncId}{args:List V}{k:Key}{rs:List (List (List D))}{r:V}(hk:aV S k=some (.xf rs))(hr:abU r)(h:aI P f (args.map (GA k rs)) r):bD P f args S (fun r' S'=>r'=r∧S'=S):=by
 refine⟨(h S).1,fun w σ β vs hS hargs=> ?_⟩
 obtain⟨hh,hb,wV⟩:=hS.obj k _ hk
 obtain⟨hX1,hX2,BN,Qd⟩:=wV
 let wH:Nat→Nat:=fun b=>match w.heap[b]? with
  |some (.cells c _ _)=>c.size
  |_=>0
 have M6:∀b c t fz,w.heap[b]? =some (.cells c t fz)→wH b=c.size:=fun b c t fz e=>by simp[wH,e]
 have hXlt:∀b,gP hh b→b<w.heap.size:=fun b hb'=>uW (o:=.xf rs) (S:=S) (β:=β) ⟨hX1,hX2,BN,Qd⟩ hb'
 let σ1:Nat→Nat:=fun b=>if gP hh b then wH b else σ b
 have hn1:eF w σ w σ1:=fun b c t fz e=>by
  refine⟨?_,fun hlt=> ?_,c,e,rfl,fun _ _=>rfl⟩
  ·show σ b≤if gP hh b then wH b else σ b
   split
   ·rename_i hx;rw[BN b hx];exact Nat.zero_le _
   ·exact Nat.le_refl _
  ·show(if gP hh b then wH b else σ b)=σ b
   rw[if_neg fun hx=>by have:=BN b hx;omega]
 have hS1:dH w σ1 [] []:=by
  refine Bj (fun b=> ?_) (hS.qp.near hn1)
  by_cases hx:gP hh b
  ·exact .inl (hXlt b hx)
  ·rcases hS.live b with h'|h'
   ·exact .inl h'
   ·right;show(if gP hh b then wH b else σ b)=0;rw[if_neg hx];exact h'
 have hlc:∀c v,fU w σ S β c v→fU w σ1 [] [] (Ea k rs c) v:=by
  intro c v hc
  unfold Ea
  split
  ·rename_i k' r'
   split
   ·rename_i e
    subst e
    split
    ·rename_i es hes
     obtain⟨o,ho,h2⟩:=hc
     rw[hk] at ho;cases ho
     obtain⟨h',e1,e2⟩:=h2 rs rfl
     rw[hb] at e1;cases e1
     obtain⟨T,q1,q2⟩:=hX1 r' es hes
     unfold xB at e2
     rw[q1] at e2
     refine q2.data e2 fun b c t fz ho hb'=> ?_
     show c.size≤if gP hh b then wH b else σ b
     rw[if_pos ⟨r',T,q1,ho⟩,M6 b c t fz hb']
     exact Nat.le_refl _
    ·trivial
   ·trivial
  ·exact bZ.mono hn1 hc
  ·trivial
 have CK:lS w σ1 [] [] (args.map (GA k rs)) vs:=by
  refine⟨by rw[List.length_map];exact hargs.1,fun j x hx=> ?_⟩
  rw[List.getElem?_map] at hx
  cases ha:args[j]? with
  |none=>rw[ha] at hx;cases hx
  |some y=>
   rw[ha] at hx;cases hx
   obtain⟨v,h1,h2⟩:=hargs.2 j y ha
   refine⟨v,h1,?_⟩
   cases y with
   |c x=>exact⟨hlc x v h2.1,h2.2⟩
   |agg cs=>
    obtain⟨a,e,hl,hc⟩:=h2
    refine⟨a,e,by rw[List.length_map];exact hl,fun i x hx=> ?_⟩
    rw[List.getElem?_map] at hx
    cases hi:cs[i]? with
    |none=>rw[hi] at hx;cases hx
    |some y=>
     rw[hi] at hx;cases hx
     obtain⟨u,q1,q2,q3⟩:=hc i y hi
     exact⟨u,q1,hlc y u q2,q3⟩
   |_=>trivial
 refine((h []).2 w σ1 [] vs hS1 CK).mono fun e w' ⟨v,r',S',σ',β',he,hS',hk',hst,hv,hr',hS2⟩=> ?_
 subst hr';subst hS2
 let σ2:Nat→Nat:=fun b=>if gP hh b then 0 else σ' b
 have hg:Grow w σ w' σ2:=⟨hst.size,hst.os,hst.output,fun b hlt=>by
  obtain⟨h1,h2⟩:=hst.far b hlt xP
  refine⟨h1,?_⟩
  show(if gP hh b then 0 else σ' b)=σ b
  by_cases hx:gP hh b
  ·rw[if_pos hx,BN b hx]
  ·rw[if_neg hx,h2]
   exact if_neg hx,fun b=>by
  rcases hS'.live b with h'|h'
  ·exact .inl h'
  ·right;show(if gP hh b then 0 else σ' b)=0;rw[h'];split<;>rfl⟩
 refine⟨v,_,_,σ2,β,he,hS.grow hg,Keep.refl _ _,Step.kP hg,?_,rfl,rfl⟩
 refine hr w' σ' σ2 _ _ _ _ v (fun b c t fz e hlt=> ?_) hv
 by_cases hx:gP hh b
 ·obtain⟨h1,h2⟩:=hst.far b (hXlt b hx) xP
  rw[h1] at e
  have:σ1 b=wH b:=if_pos hx
  rw[h2,this,M6 b c t fz e] at hlt
  omega
 ·exact if_neg hx
end
end Go.Ab
namespace Go.Ab
section
variable {P:Program} {w w':World} {σ σ':Nat→Nat} {S:Store} {β:Hs}
open Classical in
theorem Sq{args:List V}{k:Key}{rs:List (List (List D))}(hk:aV S k=some (.xf rs)){vs:List Value}(hS:dH w σ S β)(hargs:lS w σ S β args vs):
 ∃(σ1:Nat→Nat) (X:Nat→Prop),(∀b,¬X b→σ1 b=σ b)∧(∀b,X b→σ b=0∧b<w.heap.size)∧(∀b c t fz,X b→w.heap[b]? =some (.cells c t fz)→σ1 b≤c.size)∧dH w σ1 [] []∧lS w σ1 [] [] (args.map (GA k rs)) vs:=by
 obtain⟨hh,hb,wV⟩:=hS.obj k _ hk
 obtain⟨hX1,hX2,BN,Qd⟩:=wV
 let wH:Nat→Nat:=fun b=>match w.heap[b]? with
  |some (.cells c _ _)=>c.size
  |_=>0
 have M6:∀b c t fz,w.heap[b]? =some (.cells c t fz)→wH b=c.size:=fun b c t fz e=>by simp[wH,e]
 have hXlt:∀b,gP hh b→b<w.heap.size:=fun b hb'=>uW (o:=.xf rs) (S:=S) (β:=β) ⟨hX1,hX2,BN,Qd⟩ hb'
 let σ1:Nat→Nat:=fun b=>if gP hh b then wH b else σ b
 have hn1:eF w σ w σ1:=fun b c t fz e=>by
  refine⟨?_,fun hlt=> ?_,c,e,rfl,fun _ _=>rfl⟩
  ·show σ b≤if gP hh b then wH b else σ b
   split
   ·rename_i hx;rw[BN b hx];exact Nat.zero_le _
   ·exact Nat.le_refl _
  ·show(if gP hh b then wH b else σ b)=σ b
   rw[if_neg fun hx=>by have:=BN b hx;omega]
 have hS1:dH w σ1 [] []:=by
  refine Bj (fun b=> ?_) (hS.qp.near hn1)
  by_cases hx:gP hh b
  ·exact .inl (hXlt b hx)
  ·rcases hS.live b with h'|h'
   ·exact .inl h'
   ·right;show(if gP hh b then wH b else σ b)=0;rw[if_neg hx];exact h'
 have hlc:∀c v,fU w σ S β c v→fU w σ1 [] [] (Ea k rs c) v:=by
  intro c v hc
  unfold Ea
  split
  ·rename_i k' r'
   split
   ·rename_i e
    subst e
    split
    ·rename_i es hes
     obtain⟨o,ho,h2⟩:=hc
     rw[hk] at ho;cases ho
     obtain⟨h',e1,e2⟩:=h2 rs rfl
     rw[hb] at e1;cases e1
     obtain⟨T,q1,q2⟩:=hX1 r' es hes
     unfold xB at e2
     rw[q1] at e2
     refine q2.data e2 fun b c t fz ho hb'=> ?_
     show c.size≤if gP hh b then wH b else σ b
     rw[if_pos ⟨r',T,q1,ho⟩,M6 b c t fz hb']
     exact Nat.le_refl _
    ·trivial
   ·trivial
  ·exact bZ.mono hn1 hc
  ·trivial
 have CK:lS w σ1 [] [] (args.map (GA k rs)) vs:=by
  refine⟨by rw[List.length_map];exact hargs.1,fun j x hx=> ?_⟩
  rw[List.getElem?_map] at hx
  cases ha:args[j]? with
  |none=>rw[ha] at hx;cases hx
  |some y=>
   rw[ha] at hx;cases hx
   obtain⟨v,h1,h2⟩:=hargs.2 j y ha
   refine⟨v,h1,?_⟩
   cases y with
   |c x=>exact⟨hlc x v h2.1,h2.2⟩
   |agg cs=>
    obtain⟨a,e,hl,hc⟩:=h2
    refine⟨a,e,by rw[List.length_map];exact hl,fun i x hx=> ?_⟩
    rw[List.getElem?_map] at hx
    cases hi:cs[i]? with
    |none=>rw[hi] at hx;cases hx
    |some y=>
     rw[hi] at hx;cases hx
     obtain⟨u,q1,q2,q3⟩:=hc i y hi
     exact⟨u,q1,hlc y u q2,q3⟩
   |_=>trivial
 exact⟨σ1,fun b=>gP hh b,fun b hx=>if_neg hx,fun b hx=>⟨BN b hx,hXlt b hx⟩,fun b c t fz hx e=>by
  show(if gP hh b then wH b else σ b)≤c.size
  rw[if_pos hx,M6 b c t fz e]
  exact Nat.le_refl _,hS1,CK⟩
open Classical in
theorem bD.ae7{f:FuncId}{args:List V}{bg:List Obj}{Ω:Store}{mk:List C→V}{r:List D}{k:Key}{rs:List (List (List D))}(hk:aV (bg::Ω) k=some (.xf rs))(hm:Gy mk r.length)(hp:iD r=true)
 (h:∀n,aI P f (args.map (GA k rs)) (mk ((eB r n).map .d))):
 bD P f args (bg::Ω) (fun r' S'=>r'=mk (zO (0,bg.length) 0 r)∧S'=(bg++[.xf (r.map sG)])::Ω):=by
 refine⟨(h 0 []).1,fun w σ β vs hS hargs=> ?_⟩
 obtain⟨σ1,X,hl1,hl2,hl3,hS1,CK⟩:=Sq hk hS hargs
 obtain⟨n,hn⟩:=Fu σ1 w.heap.size
 refine((h n []).2 w σ1 [] vs hS1 CK).mono fun e w' ⟨v,r',S',σ',β',he,hS',hk,hst,hv,hr',hS2⟩=> ?_
 subst hr';subst hS2
 obtain⟨M5,hcs,hback⟩:=hm w' σ' _ β' _ v (by rw[List.length_map,fZ]) hv
 have Yi:M5.length=r.length:=by rw[←hcs.1,List.length_map,fZ]
 obtain⟨us,qE⟩:=Lb r n (fun j=>M5.getD j undef) hp (fun j d hd=>by
  obtain⟨u,h1,h2,_⟩:=hcs.2 j (.d d) (by rw[List.getElem?_map,hd];rfl)
  simp only[List.getD_eq_getElem?_getD,h1,Option.getD_some]
  exact h2)
 let h0:Value:=.tuple (us.map fun u=>u.getD qU).toArray
 have hroot:∀j,qG h0 j=(us[j]?).map fun u=>u.getD qU:=fun j=>by simp[h0,qG]
 have hfresh:∀b,gP h0 b→w.heap.size≤b:=by
  rintro b ⟨j,T,h1,h2⟩
  rw[hroot] at h1
  cases hu:us[j]? with
  |none=>rw[hu] at h1;cases h1
  |some u=>
   rw[hu] at h1
   simp only[Option.map_some,Option.some.injEq] at h1
   cases u with
   |none=>subst h1;exact absurd h2 rH
   |some u=>
    simp at h1;subst h1
    obtain⟨c,t,fz,m,a1,a2,a3,a4⟩:=qE.own j u hu b h2
    refine Nat.le_of_not_lt fun hlt=> ?_
    have h1:=(hst.far b hlt xP).2
    have h2:=hn b hlt
    omega
 let σ2:Nat→Nat:=fun b=>if gP h0 b then 0 else if X b then 0 else σ' b
 have hg:Grow w σ w' σ2:=⟨hst.size,hst.os,hst.output,fun b hb=>by
  obtain⟨h1,h2⟩:=hst.far b hb xP
  refine⟨h1,(if_neg fun hx=>by have:=hfresh b hx;omega).trans ?_⟩
  by_cases hx:X b
  ·rw[if_pos hx,(hl2 b hx).1]
  ·rw[if_neg hx,h2,hl1 b hx],fun b=>by
  rcases hS'.live b with hb|hb
  ·exact .inl hb
  ·right;show(if gP h0 b then 0 else if X b then 0 else σ' b)=0;rw[hb];split<;>first|rfl|(split<;>rfl)⟩
 cases β with
 |nil=>have:=hS.shape.1;simp at this
 |cons bo bΩ=>
 have hlen:bo.length=bg.length:=by
  obtain⟨gr,g1,g2⟩:=hS.shape.2 0 bg rfl
  simp at g1;rw[g1];exact g2
 obtain⟨hS3,hk3,Yj⟩:=hS.push (o:=.xf (r.map sG)) (h:=h0) hg hlen (by
  refine⟨fun j es hj=> ?_,fun j T hT=> ?_,fun b hb=>if_pos hb,fun j j' T T' x hjj hT hT' hx hx'=> ?_⟩
  ·rw[List.getElem?_map] at hj
   cases hd:r[j]? with
   |none=>rw[hd] at hj;cases hj
   |some d=>
    rw[hd] at hj
    simp only[Option.map_some,Option.some.injEq] at hj
    subst hj
    obtain⟨u,h1,h2⟩:=qE.cell j d hd
    rw[hroot,h1]
    have hsc:(∀es,d≠ .sl es)→∃T,Option.map (fun u=>Option.getD u qU) (some u)=some T∧mZ w' (sG d) T:=fun hne=>by
     have hu:u=none:=by cases d<;>first|exact absurd rfl (hne _)|exact h2.1
     have hr0:sG d=[]:=by cases d<;>first|exact absurd rfl (hne _)|rfl
     subst hu
     rw[hr0]
     exact⟨qU,rfl,.nil none 0 _ rfl CJ⟩
    cases d with
    |sl es=>obtain⟨T,rfl,_,_,h6⟩:=h2;exact⟨T,rfl,h6⟩
    |_=>exact hsc (fun es e=>by cases e)
  ·rw[List.length_map]
   rw[hroot] at hT
   cases hu:us[j]? with
   |none=>rw[hu] at hT;cases hT
   |some u=>rw[←qE.len];exact(List.getElem?_eq_some_iff.1 hu).1
  ·rw[hroot] at hT hT'
   cases hu:us[j]? with
   |none=>rw[hu] at hT;cases hT
   |some u=>
    cases hu':us[j']? with
    |none=>rw[hu'] at hT';cases hT'
    |some u'=>
     rw[hu] at hT;rw[hu'] at hT'
     simp only[Option.map_some,Option.some.injEq] at hT hT'
     cases u with
     |none=>subst hT;exact rH hx
     |some u=>
      cases u' with
      |none=>subst hT';exact rH hx'
      |some u'=>simp at hT hT';subst hT;subst hT';exact qE.apart j j' u u' x hjj hu hu' hx hx') (fun b hb=>hfresh b hb)
 refine⟨v,_,_,σ2,(bo++[h0])::bΩ,he,hS3,hk3,Yj,?_,rfl,rfl⟩
 refine hback _ _ _ _ _ (by rw[su]) ⟨by rw[su,Yi],fun j x hx=> ?_⟩
 rw[Ja,Nat.zero_add] at hx
 cases hd:r[j]? with
 |none=>rw[hd] at hx;cases hx
 |some d=>
  rw[hd] at hx
  simp only[Option.map_some,Option.some.injEq] at hx
  obtain⟨u,h1,h2⟩:=qE.cell j d hd
  have hjl:j<(eB r n).length:=by rw[fZ];exact(List.getElem?_eq_some_iff.1 hd).1
  obtain⟨v0,h3,_,h4⟩:=hcs.2 j (.d (eB r n)[j]) (by rw[List.getElem?_map,List.getElem?_eq_getElem hjl];rfl)
  have hv0:M5.getD j undef=v0:=by rw[List.getD_eq_getElem?_getD,h3];rfl
  simp only[hv0] at h2
  refine⟨v0,h3,?_,h4⟩
  have hsc:(∀es,d≠ .sl es)→fU w' σ2 ((bg++[.xf (r.map sG)])::Ω) ((bo++[h0])::bΩ) (.d d) v0:=fun hne=>by
   have:SD d v0:=by cases d<;>first|exact absurd rfl (hne _)|exact h2.2
   exact FU this
  cases d with
  |sl es=>
   subst hx
   obtain⟨T,rfl,_,h5,_⟩:=h2
   refine⟨_,bN _ _ _,fun rs _=>⟨h0,by rw[←hlen,bN],?_⟩⟩
   unfold xB
   rw[hroot,h1]
   exact h5
  |_=>subst hx;exact hsc (fun es e=>by cases e)
theorem M7:∀{p:List (Nat×Nat)} {es old new:List (List D)},rR es p=some old→rR (nW es p new) p=some new
 |[],_,_,_,_=>rfl
 |(i,o)::p,es,old,new,h=>by
  rw[rR] at h
  rw[nW]
  cases hc:cellAt es i o with
  |none=>rw[hc] at h;cases h
  |some d=>
   rw[hc] at h
   cases d with
   |sl es'=>
    simp only at h ⊢
    have hi:i<es.length∧o<(es.getD i []).length:=by
     unfold cellAt at hc
     cases he:es[i]? with
     |none=>rw[he] at hc;cases hc
     |some r=>
      rw[he] at hc
      refine⟨(List.getElem?_eq_some_iff.1 he).1,?_⟩
      rw[List.getD_eq_getElem?_getD,he]
      exact(List.getElem?_eq_some_iff.1 hc).1
    have h2:cellAt (es.set i ((es.getD i []).set o (.sl (nW es' p new)))) i o=some (.sl (nW es' p new)):=by
     unfold cellAt
     rw[List.getElem?_set_self hi.1,Option.bind_some,List.getElem?_set_self hi.2]
    rw[rR,h2]
    exact M7 h
   |_=>cases h
theorem vE{es es' new:List (List D)}{i o:Nat}{p:List (Nat×Nat)}(h:cellAt es i o=some (.sl es')):nW es ((i,o)::p) new=es.set i ((es.getD i []).set o (.sl (nW es' p new))):=by
 rw[nW,h]
theorem JU:∀{p:List (Nat×Nat)} {es old a b:List (List D)},rR es p=some old→nW (nW es p a) p b=nW es p b
 |[],_,_,_,_,_=>rfl
 |(i,o)::p,es,old,a,b,h=>by
  rw[rR] at h
  cases hc:cellAt es i o with
  |none=>rw[hc] at h;cases h
  |some d=>
   rw[hc] at h
   cases d with
   |sl es'=>
    simp only at h ⊢
    have hi:i<es.length∧o<(es.getD i []).length:=by
     unfold cellAt at hc
     cases he:es[i]? with
     |none=>rw[he] at hc;cases hc
     |some r=>
      rw[he] at hc
      refine⟨(List.getElem?_eq_some_iff.1 he).1,?_⟩
      rw[List.getD_eq_getElem?_getD,he]
      exact(List.getElem?_eq_some_iff.1 hc).1
    have h2:cellAt (es.set i ((es.getD i []).set o (.sl (nW es' p a)))) i o=some (.sl (nW es' p a)):=by
     unfold cellAt
     rw[List.getElem?_set_self hi.1,Option.bind_some,List.getElem?_set_self hi.2]
    rw[vE hc,vE hc,vE h2,JU h,List.set_set]
    congr 1
    rw[List.getD_eq_getElem?_getD,List.getElem?_set_self hi.1,Option.getD_some,List.set_set]
   |_=>cases h
theorem M8:∀{p:List (Nat×Nat)} {es old es':List (List D)} {i o:Nat},rR es p=some old→cellAt old i o=some (.sl es')→rR es (p++[(i,o)])=some es'
 |[],es,old,es',i,o,h,hc=>by cases h;rw[List.nil_append,rR,hc];rfl
 |(i',o')::p,es,old,es',i,o,h,hc=>by
  rw[List.cons_append,rR]
  rw[rR] at h
  cases hd:cellAt es i' o' with
  |none=>rw[hd] at h;cases h
  |some d=>
   rw[hd] at h
   cases d with
   |sl e=>exact M8 h hc
   |_=>cases h
theorem JV:∀{p:List (Nat×Nat)} {es old es' new:List (List D)} {i o:Nat},rR es p=some old→cellAt old i o=some (.sl es')→nW es (p++[(i,o)]) new=nW es p (old.set i ((old.getD i []).set o (.sl new)))
 |[],es,old,es',new,i,o,h,hc=>by cases h;rw[List.nil_append,vE hc];rfl
 |(i',o')::p,es,old,es',new,i,o,h,hc=>by
  rw[List.cons_append]
  rw[rR] at h
  cases hd:cellAt es i' o' with
  |none=>rw[hd] at h;cases h
  |some d=>
   rw[hd] at h
   cases d with
   |sl e=>simp only at h;rw[vE hd,vE hd,JV h hc]
   |_=>cases h
theorem CO{rs:List (List (List D))}{r:Nat}{p:List (Nat×Nat)}{old:List (List D)}(h:atR rs r p=some old):∃hr:r<rs.length,rR rs[r] p=some old:=by
 unfold atR at h
 cases hr:rs[r]? with
 |none=>rw[hr] at h;cases h
 |some es=>
  rw[hr] at h
  obtain⟨h1,h2⟩:=List.getElem?_eq_some_iff.1 hr
  exact⟨h1,by rw[h2];exact h⟩
theorem pF{rs:List (List (List D))}{r:Nat}{p:List (Nat×Nat)}{old new:List (List D)}(h:atR rs r p=some old):atR (dB rs r p new) r p=some new:=by
 obtain⟨hr,h⟩:=CO h
 unfold atR dB
 rw[List.getElem?_set_self hr,Option.bind_some,List.getD_eq_getElem?_getD,List.getElem?_eq_getElem hr,Option.getD_some]
 exact M7 h
theorem oN{rs:List (List (List D))}{r:Nat}{p:List (Nat×Nat)}{old a b:List (List D)}(h:atR rs r p=some old):dB (dB rs r p a) r p b=dB rs r p b:=by
 obtain⟨hr,h⟩:=CO h
 unfold dB
 rw[List.set_set,List.getD_eq_getElem?_getD,List.getElem?_set_self hr,List.getD_eq_getElem?_getD,List.getElem?_eq_getElem hr,Option.getD_some,Option.getD_some,JU h]
theorem JW:∀{p:List (Nat×Nat)} {es old:List (List D)},rR es p=some old→nW es p old=es
 |[],_,_,h=>by cases h;rfl
 |(i,o)::p,es,old,h=>by
  rw[rR] at h
  cases hc:cellAt es i o with
  |none=>rw[hc] at h;cases h
  |some d=>
   rw[hc] at h
   cases d with
   |sl es'=>
    simp only at h
    rw[vE hc,JW h]
    unfold cellAt at hc
    cases he:es[i]? with
    |none=>rw[he] at hc;cases hc
    |some r=>
     rw[he] at hc
     obtain⟨h1,h2⟩:=List.getElem?_eq_some_iff.1 he
     obtain⟨h3,h4⟩:=List.getElem?_eq_some_iff.1 hc
     rw[List.getD_eq_getElem?_getD,he,Option.getD_some,←h4,List.set_getElem_self,←h2,List.set_getElem_self]
   |_=>cases h
theorem qV{rs:List (List (List D))}{r:Nat}{p:List (Nat×Nat)}{old:List (List D)}(h:atR rs r p=some old):dB rs r p old=rs:=by
 obtain⟨hr,h⟩:=CO h
 unfold dB
 rw[List.getD_eq_getElem?_getD,List.getElem?_eq_getElem hr,Option.getD_some,JW h,List.set_getElem_self]
theorem jZ{rs:List (List (List D))}{r i o:Nat}{p:List (Nat×Nat)}{old es':List (List D)}(h:atR rs r p=some old)(hc:cellAt old i o=some (.sl es')):atR rs r (p++[(i,o)])=some es':=by
 obtain⟨hr,h⟩:=CO h
 unfold atR
 rw[List.getElem?_eq_getElem hr,Option.bind_some]
 exact M8 h hc
theorem Ve{rs:List (List (List D))}{r i o:Nat}{p:List (Nat×Nat)}{old es' new:List (List D)}(h:atR rs r p=some old)(hc:cellAt old i o=some (.sl es')):
 dB rs r (p++[(i,o)]) new=dB rs r p (old.set i ((old.getD i []).set o (.sl new))):=by
 obtain⟨hr,h⟩:=CO h
 unfold dB
 rw[List.getD_eq_getElem?_getD,List.getElem?_eq_getElem hr,Option.getD_some,JV h hc]
theorem oG{rs:List (List (List D))}{r r':Nat}{p p':List (Nat×Nat)}{new:List (List D)}(h:r≠r'):atR (dB rs r p new) r' p'=atR rs r' p':=by
 unfold atR dB
 rw[List.getElem?_set_ne h]
end
end Go.Ab
namespace Go.Proofs.YtlmhknhlmicmeaaGreatDoor.Fa
open Go Go.Ab
theorem ty1:Tryz.prog.cellsOf 1=1∧Tryz.prog.bytesOf 1=8∧(Tryz.prog.info? 1).isSome=true∧aP Tryz.prog 1=some [.d (.o .nilFunc)]:=⟨by kernel_rfl,by kernel_rfl,by kernel_rfl,by kernel_rfl⟩
theorem ty2:Tryz.prog.cellsOf 2=1∧Tryz.prog.bytesOf 2=8∧(Tryz.prog.info? 2).isSome=true∧aP Tryz.prog 2=some [.d (.i .i64 0)]:=⟨by kernel_rfl,by kernel_rfl,by kernel_rfl,by kernel_rfl⟩
theorem ty3:Tryz.prog.cellsOf 3=1∧Tryz.prog.bytesOf 3=8∧(Tryz.prog.info? 3).isSome=true∧aP Tryz.prog 3=some [.d (.i .i64 0)]:=⟨by kernel_rfl,by kernel_rfl,by kernel_rfl,by kernel_rfl⟩
theorem ty4:Tryz.prog.cellsOf 4=1∧Tryz.prog.bytesOf 4=1∧(Tryz.prog.info? 4).isSome=true∧aP Tryz.prog 4=some [.d (.b false)]:=⟨by kernel_rfl,by kernel_rfl,by kernel_rfl,by kernel_rfl⟩
theorem ac9:zeroV Tryz.prog 4=some (.bool false):=by kernel_rfl
theorem ty5:Tryz.prog.cellsOf 5=1∧Tryz.prog.bytesOf 5=1∧(Tryz.prog.info? 5).isSome=true∧aP Tryz.prog 5=some [.d (.i .u8 0)]:=⟨by kernel_rfl,by kernel_rfl,by kernel_rfl,by kernel_rfl⟩
theorem ty9:Tryz.prog.cellsOf 9=1∧Tryz.prog.bytesOf 9=16∧(Tryz.prog.info? 9).isSome=true∧aP Tryz.prog 9=some [.d (.s [])]:=⟨by kernel_rfl,by kernel_rfl,by kernel_rfl,by kernel_rfl⟩
theorem ae8:Tryz.prog.cellsOf 12=1∧Tryz.prog.bytesOf 12=8∧(Tryz.prog.info? 12).isSome=true∧aP Tryz.prog 12=some [.d (.i .u64 0)]:=⟨by kernel_rfl,by kernel_rfl,by kernel_rfl,by kernel_rfl⟩
theorem ae9:Tryz.prog.cellsOf 20=1∧Tryz.prog.bytesOf 20=16∧(Tryz.prog.info? 20).isSome=true∧aP Tryz.prog 20=some [.d (.o .nilIface)]:=⟨by kernel_rfl,by kernel_rfl,by kernel_rfl,by kernel_rfl⟩
theorem afa:Tryz.prog.cellsOf 21=1∧Tryz.prog.bytesOf 21=4∧(Tryz.prog.info? 21).isSome=true∧aP Tryz.prog 21=some [.d (.i .i32 0)]:=⟨by kernel_rfl,by kernel_rfl,by kernel_rfl,by kernel_rfl⟩
theorem afb:Tryz.prog.cellsOf 22=1∧Tryz.prog.bytesOf 22=24∧(Tryz.prog.info? 22).isSome=true∧aP Tryz.prog 22=some [.aM []]:=⟨by kernel_rfl,by kernel_rfl,by kernel_rfl,by kernel_rfl⟩
theorem afc:Tryz.prog.cellsOf 23=1∧Tryz.prog.bytesOf 23=24∧(Tryz.prog.info? 23).isSome=true∧aP Tryz.prog 23=some [.aM []]:=⟨by kernel_rfl,by kernel_rfl,by kernel_rfl,by kernel_rfl⟩
theorem afd:Tryz.prog.cellsOf 24=1∧Tryz.prog.bytesOf 24=24∧(Tryz.prog.info? 24).isSome=true∧aP Tryz.prog 24=some [.aM []]:=⟨by kernel_rfl,by kernel_rfl,by kernel_rfl,by kernel_rfl⟩
theorem afe:Tryz.prog.cellsOf 25=1∧Tryz.prog.bytesOf 25=24∧(Tryz.prog.info? 25).isSome=true∧aP Tryz.prog 25=some [.aM []]:=⟨by kernel_rfl,by kernel_rfl,by kernel_rfl,by kernel_rfl⟩
theorem aff:Tryz.prog.cellsOf 26=1∧Tryz.prog.bytesOf 26=24∧(Tryz.prog.info? 26).isSome=true∧aP Tryz.prog 26=some [.aM []]:=⟨by kernel_rfl,by kernel_rfl,by kernel_rfl,by kernel_rfl⟩
theorem afg:Tryz.prog.cellsOf 27=6∧Tryz.prog.bytesOf 27=136∧(Tryz.prog.info? 27).isSome=true∧aP Tryz.prog 27=some [.d (.s []),.aM [],.aM [],.aM [],.aM [],.aM []]:=⟨by kernel_rfl,by kernel_rfl,by kernel_rfl,by kernel_rfl⟩
theorem afh:Tryz.prog.cellsOf 28=6∧Tryz.prog.bytesOf 28=136∧(Tryz.prog.info? 28).isSome=true∧aP Tryz.prog 28=some [.d (.s []),.aM [],.aM [],.aM [],.aM [],.aM []]:=⟨by kernel_rfl,by kernel_rfl,by kernel_rfl,by kernel_rfl⟩
theorem afi:Tryz.prog.cellsOf 29=1∧Tryz.prog.bytesOf 29=8∧(Tryz.prog.info? 29).isSome=true∧aP Tryz.prog 29=some [.d (.o .nilFunc)]:=⟨by kernel_rfl,by kernel_rfl,by kernel_rfl,by kernel_rfl⟩
theorem afj:Tryz.prog.cellsOf 30=1∧Tryz.prog.bytesOf 30=24∧(Tryz.prog.info? 30).isSome=true∧aP Tryz.prog 30=some [.aM []]:=⟨by kernel_rfl,by kernel_rfl,by kernel_rfl,by kernel_rfl⟩
theorem afk:Tryz.prog.cellsOf 31=2∧Tryz.prog.bytesOf 31=40∧(Tryz.prog.info? 31).isSome=true∧aP Tryz.prog 31=some [.d (.s []),.aM []]:=⟨by kernel_rfl,by kernel_rfl,by kernel_rfl,by kernel_rfl⟩
theorem afl:Tryz.prog.cellsOf 32=2∧Tryz.prog.bytesOf 32=40∧(Tryz.prog.info? 32).isSome=true∧aP Tryz.prog 32=some [.d (.s []),.aM []]:=⟨by kernel_rfl,by kernel_rfl,by kernel_rfl,by kernel_rfl⟩
theorem afm:Tryz.prog.cellsOf 34=1∧Tryz.prog.bytesOf 34=24∧(Tryz.prog.info? 34).isSome=true∧aP Tryz.prog 34=some [.aM []]:=⟨by kernel_rfl,by kernel_rfl,by kernel_rfl,by kernel_rfl⟩
theorem afn:Tryz.prog.cellsOf 35=1∧Tryz.prog.bytesOf 35=24∧(Tryz.prog.info? 35).isSome=true∧aP Tryz.prog 35=some [.aM []]:=⟨by kernel_rfl,by kernel_rfl,by kernel_rfl,by kernel_rfl⟩
theorem afo:Tryz.prog.cellsOf 36=1∧Tryz.prog.bytesOf 36=24∧(Tryz.prog.info? 36).isSome=true∧aP Tryz.prog 36=some [.aM []]:=⟨by kernel_rfl,by kernel_rfl,by kernel_rfl,by kernel_rfl⟩
theorem afp:Tryz.prog.cellsOf 37=1∧Tryz.prog.bytesOf 37=24∧(Tryz.prog.info? 37).isSome=true∧aP Tryz.prog 37=some [.aM []]:=⟨by kernel_rfl,by kernel_rfl,by kernel_rfl,by kernel_rfl⟩
theorem afq:Tryz.prog.cellsOf 38=6∧Tryz.prog.bytesOf 38=136∧(Tryz.prog.info? 38).isSome=true∧aP Tryz.prog 38=some [.d (.s []),.aM [],.aM [],.aM [],.aM [],.aM []]:=⟨by kernel_rfl,by kernel_rfl,by kernel_rfl,by kernel_rfl⟩
theorem afr:Tryz.prog.cellsOf 39=6∧Tryz.prog.bytesOf 39=136∧(Tryz.prog.info? 39).isSome=true∧aP Tryz.prog 39=some [.d (.s []),.aM [],.aM [],.aM [],.aM [],.aM []]:=⟨by kernel_rfl,by kernel_rfl,by kernel_rfl,by kernel_rfl⟩
theorem afs:Tryz.prog.cellsOf 40=1∧Tryz.prog.bytesOf 40=8∧(Tryz.prog.info? 40).isSome=true∧aP Tryz.prog 40=some [.d (.o .nilFunc)]:=⟨by kernel_rfl,by kernel_rfl,by kernel_rfl,by kernel_rfl⟩
theorem aft:Tryz.prog.cellsOf 41=1∧Tryz.prog.bytesOf 41=8∧(Tryz.prog.info? 41).isSome=true∧aP Tryz.prog 41=some [.d (.o .nilFunc)]:=⟨by kernel_rfl,by kernel_rfl,by kernel_rfl,by kernel_rfl⟩
theorem afu:Tryz.prog.cellsOf 42=1∧Tryz.prog.bytesOf 42=8∧(Tryz.prog.info? 42).isSome=true∧aP Tryz.prog 42=some [.d (.o .nilFunc)]:=⟨by kernel_rfl,by kernel_rfl,by kernel_rfl,by kernel_rfl⟩
theorem afv:Tryz.prog.cellsOf 43=1∧Tryz.prog.bytesOf 43=8∧(Tryz.prog.info? 43).isSome=true∧aP Tryz.prog 43=some [.d (.o .nilFunc)]:=⟨by kernel_rfl,by kernel_rfl,by kernel_rfl,by kernel_rfl⟩
theorem afw:Tryz.prog.cellsOf 44=1∧Tryz.prog.bytesOf 44=8∧(Tryz.prog.info? 44).isSome=true∧aP Tryz.prog 44=some [.d (.o .nilFunc)]:=⟨by kernel_rfl,by kernel_rfl,by kernel_rfl,by kernel_rfl⟩
theorem afx:Tryz.prog.cellsOf 46=1∧Tryz.prog.bytesOf 46=24∧(Tryz.prog.info? 46).isSome=true∧aP Tryz.prog 46=some [.aM []]:=⟨by kernel_rfl,by kernel_rfl,by kernel_rfl,by kernel_rfl⟩
theorem afy:Tryz.prog.cellsOf 47=3∧Tryz.prog.bytesOf 47=48∧(Tryz.prog.info? 47).isSome=true∧aP Tryz.prog 47=some [.d (.i .i64 0),.d (.s []),.aM []]:=⟨by kernel_rfl,by kernel_rfl,by kernel_rfl,by kernel_rfl⟩
theorem afz:Tryz.prog.cellsOf 48=3∧Tryz.prog.bytesOf 48=48∧(Tryz.prog.info? 48).isSome=true∧aP Tryz.prog 48=some [.d (.i .i64 0),.d (.s []),.aM []]:=⟨by kernel_rfl,by kernel_rfl,by kernel_rfl,by kernel_rfl⟩
theorem afA:Tryz.prog.cellsOf 49=1∧Tryz.prog.bytesOf 49=24∧(Tryz.prog.info? 49).isSome=true∧aP Tryz.prog 49=some [.aM []]:=⟨by kernel_rfl,by kernel_rfl,by kernel_rfl,by kernel_rfl⟩
theorem afB:Tryz.prog.cellsOf 50=1∧Tryz.prog.bytesOf 50=24∧(Tryz.prog.info? 50).isSome=true∧aP Tryz.prog 50=some [.aM []]:=⟨by kernel_rfl,by kernel_rfl,by kernel_rfl,by kernel_rfl⟩
theorem afC:Tryz.prog.cellsOf 51=9∧Tryz.prog.bytesOf 51=144∧(Tryz.prog.info? 51).isSome=true∧aP Tryz.prog 51=some [.d (.i .i64 0),.d (.s []),.d (.s []),.d (.i .i64 0),.d (.i .i64 0),.d (.s []),.aM [],.aM [],.aM []]:=⟨by kernel_rfl,by kernel_rfl,by kernel_rfl,by kernel_rfl⟩
theorem afD:Tryz.prog.cellsOf 52=9∧Tryz.prog.bytesOf 52=144∧(Tryz.prog.info? 52).isSome=true∧aP Tryz.prog 52=some [.d (.i .i64 0),.d (.s []),.d (.s []),.d (.i .i64 0),.d (.i .i64 0),.d (.s []),.aM [],.aM [],.aM []]:=⟨by kernel_rfl,by kernel_rfl,by kernel_rfl,by kernel_rfl⟩
theorem afE:Tryz.prog.cellsOf 53=1∧Tryz.prog.bytesOf 53=8∧(Tryz.prog.info? 53).isSome=true∧aP Tryz.prog 53=some [.d (.o .nilFunc)]:=⟨by kernel_rfl,by kernel_rfl,by kernel_rfl,by kernel_rfl⟩
theorem afF:Tryz.prog.cellsOf 54=1∧Tryz.prog.bytesOf 54=8∧(Tryz.prog.info? 54).isSome=true∧aP Tryz.prog 54=some [.d (.o .nilFunc)]:=⟨by kernel_rfl,by kernel_rfl,by kernel_rfl,by kernel_rfl⟩
theorem afG:Tryz.prog.cellsOf 55=1∧Tryz.prog.bytesOf 55=24∧(Tryz.prog.info? 55).isSome=true∧aP Tryz.prog 55=some [.aM []]:=⟨by kernel_rfl,by kernel_rfl,by kernel_rfl,by kernel_rfl⟩
theorem afH:Tryz.prog.cellsOf 56=3∧Tryz.prog.bytesOf 56=48∧(Tryz.prog.info? 56).isSome=true∧aP Tryz.prog 56=some [.d (.i .i64 0),.d (.s []),.aM []]:=⟨by kernel_rfl,by kernel_rfl,by kernel_rfl,by kernel_rfl⟩
theorem afI:Tryz.prog.cellsOf 57=3∧Tryz.prog.bytesOf 57=48∧(Tryz.prog.info? 57).isSome=true∧aP Tryz.prog 57=some [.d (.i .i64 0),.d (.s []),.aM []]:=⟨by kernel_rfl,by kernel_rfl,by kernel_rfl,by kernel_rfl⟩
theorem afJ:Tryz.prog.cellsOf 58=1∧Tryz.prog.bytesOf 58=24∧(Tryz.prog.info? 58).isSome=true∧aP Tryz.prog 58=some [.aM []]:=⟨by kernel_rfl,by kernel_rfl,by kernel_rfl,by kernel_rfl⟩
theorem afK:Tryz.prog.cellsOf 59=1∧Tryz.prog.bytesOf 59=24∧(Tryz.prog.info? 59).isSome=true∧aP Tryz.prog 59=some [.aM []]:=⟨by kernel_rfl,by kernel_rfl,by kernel_rfl,by kernel_rfl⟩
theorem afL:Tryz.prog.cellsOf 60=9∧Tryz.prog.bytesOf 60=144∧(Tryz.prog.info? 60).isSome=true∧aP Tryz.prog 60=some [.d (.i .i64 0),.d (.s []),.d (.s []),.d (.i .i64 0),.d (.i .i64 0),.d (.s []),.aM [],.aM [],.aM []]:=⟨by kernel_rfl,by kernel_rfl,by kernel_rfl,by kernel_rfl⟩
theorem afM:Tryz.prog.cellsOf 61=9∧Tryz.prog.bytesOf 61=144∧(Tryz.prog.info? 61).isSome=true∧aP Tryz.prog 61=some [.d (.i .i64 0),.d (.s []),.d (.s []),.d (.i .i64 0),.d (.i .i64 0),.d (.s []),.aM [],.aM [],.aM []]:=⟨by kernel_rfl,by kernel_rfl,by kernel_rfl,by kernel_rfl⟩
theorem afN:Tryz.prog.cellsOf 63=1∧Tryz.prog.bytesOf 63=8∧(Tryz.prog.info? 63).isSome=true∧aP Tryz.prog 63=some [.d (.o .nilFunc)]:=⟨by kernel_rfl,by kernel_rfl,by kernel_rfl,by kernel_rfl⟩
theorem afO:Tryz.prog.cellsOf 64=1∧Tryz.prog.bytesOf 64=8∧(Tryz.prog.info? 64).isSome=true∧aP Tryz.prog 64=some [.d (.o .nilFunc)]:=⟨by kernel_rfl,by kernel_rfl,by kernel_rfl,by kernel_rfl⟩
theorem afP:Tryz.prog.cellsOf 65=1∧Tryz.prog.bytesOf 65=8∧(Tryz.prog.info? 65).isSome=true∧aP Tryz.prog 65=some [.d (.o .nilFunc)]:=⟨by kernel_rfl,by kernel_rfl,by kernel_rfl,by kernel_rfl⟩
theorem afQ:Tryz.prog.cellsOf 66=1∧Tryz.prog.bytesOf 66=24∧(Tryz.prog.info? 66).isSome=true∧aP Tryz.prog 66=some [.aM []]:=⟨by kernel_rfl,by kernel_rfl,by kernel_rfl,by kernel_rfl⟩
theorem afR:Tryz.prog.cellsOf 67=2∧Tryz.prog.bytesOf 67=40∧(Tryz.prog.info? 67).isSome=true∧aP Tryz.prog 67=some [.d (.s []),.aM []]:=⟨by kernel_rfl,by kernel_rfl,by kernel_rfl,by kernel_rfl⟩
theorem afS:Tryz.prog.cellsOf 68=2∧Tryz.prog.bytesOf 68=40∧(Tryz.prog.info? 68).isSome=true∧aP Tryz.prog 68=some [.d (.s []),.aM []]:=⟨by kernel_rfl,by kernel_rfl,by kernel_rfl,by kernel_rfl⟩
theorem afT:Tryz.prog.cellsOf 69=1∧Tryz.prog.bytesOf 69=8∧(Tryz.prog.info? 69).isSome=true∧aP Tryz.prog 69=some [.d (.o .nilFunc)]:=⟨by kernel_rfl,by kernel_rfl,by kernel_rfl,by kernel_rfl⟩
theorem afU:Tryz.prog.cellsOf 71=1∧Tryz.prog.bytesOf 71=8∧(Tryz.prog.info? 71).isSome=true∧aP Tryz.prog 71=some [.d (.o .nilFunc)]:=⟨by kernel_rfl,by kernel_rfl,by kernel_rfl,by kernel_rfl⟩
theorem afV:Tryz.prog.cellsOf 75=1∧Tryz.prog.bytesOf 75=24∧(Tryz.prog.info? 75).isSome=true∧aP Tryz.prog 75=some [.aM []]:=⟨by kernel_rfl,by kernel_rfl,by kernel_rfl,by kernel_rfl⟩
theorem afW:Tryz.prog.cellsOf 76=1∧Tryz.prog.bytesOf 76=24∧(Tryz.prog.info? 76).isSome=true∧aP Tryz.prog 76=some [.aM []]:=⟨by kernel_rfl,by kernel_rfl,by kernel_rfl,by kernel_rfl⟩
theorem afX:Tryz.prog.cellsOf 77=16∧Tryz.prog.bytesOf 77=280∧(Tryz.prog.info? 77).isSome=true∧aP Tryz.prog 77=some [.d (.s []),.aM [],.aM [],.aM [],.d (.i .i64 0),.d (.s []),.aM [],.d (.i .i64 0),.d (.s []),.d (.s []),.d (.i .i64 0),.d (.i .i64 0),.d (.s []),.aM [],.aM [],.aM []]:=⟨by kernel_rfl,by kernel_rfl,by kernel_rfl,by kernel_rfl⟩
theorem afY:Tryz.prog.cellsOf 78=16∧Tryz.prog.bytesOf 78=280∧(Tryz.prog.info? 78).isSome=true∧aP Tryz.prog 78=some [.d (.s []),.aM [],.aM [],.aM [],.d (.i .i64 0),.d (.s []),.aM [],.d (.i .i64 0),.d (.s []),.d (.s []),.d (.i .i64 0),.d (.i .i64 0),.d (.s []),.aM [],.aM [],.aM []]:=⟨by kernel_rfl,by kernel_rfl,by kernel_rfl,by kernel_rfl⟩
theorem afZ:Tryz.prog.cellsOf 80=1∧Tryz.prog.bytesOf 80=8∧(Tryz.prog.info? 80).isSome=true∧aP Tryz.prog 80=some [.d (.o .nilFunc)]:=⟨by kernel_rfl,by kernel_rfl,by kernel_rfl,by kernel_rfl⟩
theorem af0:Tryz.prog.cellsOf 81=1∧Tryz.prog.bytesOf 81=8∧(Tryz.prog.info? 81).isSome=true∧aP Tryz.prog 81=some [.d (.o .nilFunc)]:=⟨by kernel_rfl,by kernel_rfl,by kernel_rfl,by kernel_rfl⟩
theorem af2:Tryz.prog.cellsOf 82=1∧Tryz.prog.bytesOf 82=8∧(Tryz.prog.info? 82).isSome=true∧aP Tryz.prog 82=some [.d (.o .nilFunc)]:=⟨by kernel_rfl,by kernel_rfl,by kernel_rfl,by kernel_rfl⟩
theorem af3:Tryz.prog.cellsOf 83=1∧Tryz.prog.bytesOf 83=24∧(Tryz.prog.info? 83).isSome=true∧aP Tryz.prog 83=some [.aM []]:=⟨by kernel_rfl,by kernel_rfl,by kernel_rfl,by kernel_rfl⟩
theorem af4:Tryz.prog.cellsOf 84=5∧Tryz.prog.bytesOf 84=72∧(Tryz.prog.info? 84).isSome=true∧aP Tryz.prog 84=some [.d (.s []),.aM [],.d (.b false),.d (.b false),.aM []]:=⟨by kernel_rfl,by kernel_rfl,by kernel_rfl,by kernel_rfl⟩
theorem af5:Tryz.prog.cellsOf 85=5∧Tryz.prog.bytesOf 85=72∧(Tryz.prog.info? 85).isSome=true∧aP Tryz.prog 85=some [.d (.s []),.aM [],.d (.b false),.d (.b false),.aM []]:=⟨by kernel_rfl,by kernel_rfl,by kernel_rfl,by kernel_rfl⟩
theorem af6:Tryz.prog.cellsOf 90=1∧Tryz.prog.bytesOf 90=24∧(Tryz.prog.info? 90).isSome=true∧aP Tryz.prog 90=some [.aM []]:=⟨by kernel_rfl,by kernel_rfl,by kernel_rfl,by kernel_rfl⟩
theorem af7:Tryz.prog.cellsOf 91=12∧Tryz.prog.bytesOf 91=192∧(Tryz.prog.info? 91).isSome=true∧aP Tryz.prog 91=some [.d (.s []),.aM [],.d (.i .i64 0),.d (.s []),.aM [],.aM [],.d (.b false),.d (.b false),.d (.i .i64 0),.d (.s []),.aM [],.aM []]:=⟨by kernel_rfl,by kernel_rfl,by kernel_rfl,by kernel_rfl⟩
theorem af8:Tryz.prog.cellsOf 92=12∧Tryz.prog.bytesOf 92=192∧(Tryz.prog.info? 92).isSome=true∧aP Tryz.prog 92=some [.d (.s []),.aM [],.d (.i .i64 0),.d (.s []),.aM [],.aM [],.d (.b false),.d (.b false),.d (.i .i64 0),.d (.s []),.aM [],.aM []]:=⟨by kernel_rfl,by kernel_rfl,by kernel_rfl,by kernel_rfl⟩
theorem af9:Tryz.prog.cellsOf 95=1∧Tryz.prog.bytesOf 95=8∧(Tryz.prog.info? 95).isSome=true∧aP Tryz.prog 95=some [.d (.o .nilFunc)]:=⟨by kernel_rfl,by kernel_rfl,by kernel_rfl,by kernel_rfl⟩
theorem aga:Tryz.prog.cellsOf 96=1∧Tryz.prog.bytesOf 96=8∧(Tryz.prog.info? 96).isSome=true∧aP Tryz.prog 96=some [.d (.o .nilFunc)]:=⟨by kernel_rfl,by kernel_rfl,by kernel_rfl,by kernel_rfl⟩
theorem agb:Tryz.prog.cellsOf 97=1∧Tryz.prog.bytesOf 97=8∧(Tryz.prog.info? 97).isSome=true∧aP Tryz.prog 97=some [.d (.o .nilFunc)]:=⟨by kernel_rfl,by kernel_rfl,by kernel_rfl,by kernel_rfl⟩
theorem ada:Tryz.prog.cellsOf 108=1∧Tryz.prog.bytesOf 108=24∧(Tryz.prog.info? 108).isSome=true∧aP Tryz.prog 108=some [.aM []]:=⟨by kernel_rfl,by kernel_rfl,by kernel_rfl,by kernel_rfl⟩
theorem adb:Tryz.prog.cellsOf 109=3∧Tryz.prog.bytesOf 109=64∧(Tryz.prog.info? 109).isSome=true∧aP Tryz.prog 109=some [.d (.s []),.aM [],.aM []]:=⟨by kernel_rfl,by kernel_rfl,by kernel_rfl,by kernel_rfl⟩
theorem ade:Tryz.prog.cellsOf 110=3∧Tryz.prog.bytesOf 110=64∧(Tryz.prog.info? 110).isSome=true∧aP Tryz.prog 110=some [.d (.s []),.aM [],.aM []]:=⟨by kernel_rfl,by kernel_rfl,by kernel_rfl,by kernel_rfl⟩
theorem adf:Tryz.prog.cellsOf 119=1∧Tryz.prog.bytesOf 119=8∧(Tryz.prog.info? 119).isSome=true∧aP Tryz.prog 119=some [.d (.o .nilFunc)]:=⟨by kernel_rfl,by kernel_rfl,by kernel_rfl,by kernel_rfl⟩
theorem adg:Tryz.prog.cellsOf 127=1∧Tryz.prog.bytesOf 127=8∧(Tryz.prog.info? 127).isSome=true∧aP Tryz.prog 127=some [.d (.o .nilFunc)]:=⟨by kernel_rfl,by kernel_rfl,by kernel_rfl,by kernel_rfl⟩
theorem adh:Tryz.prog.cellsOf 128=1∧Tryz.prog.bytesOf 128=8∧(Tryz.prog.info? 128).isSome=true∧aP Tryz.prog 128=some [.d (.o .nilFunc)]:=⟨by kernel_rfl,by kernel_rfl,by kernel_rfl,by kernel_rfl⟩
theorem adi:Tryz.prog.cellsOf 129=1∧Tryz.prog.bytesOf 129=8∧(Tryz.prog.info? 129).isSome=true∧aP Tryz.prog 129=some [.d (.o .nilFunc)]:=⟨by kernel_rfl,by kernel_rfl,by kernel_rfl,by kernel_rfl⟩
theorem adj:Tryz.prog.cellsOf 140=1∧Tryz.prog.bytesOf 140=8∧(Tryz.prog.info? 140).isSome=true∧aP Tryz.prog 140=some [.d (.o .nilFunc)]:=⟨by kernel_rfl,by kernel_rfl,by kernel_rfl,by kernel_rfl⟩
theorem adk:Tryz.prog.cellsOf 145=1∧Tryz.prog.bytesOf 145=8∧(Tryz.prog.info? 145).isSome=true∧aP Tryz.prog 145=some [.d (.o .nilFunc)]:=⟨by kernel_rfl,by kernel_rfl,by kernel_rfl,by kernel_rfl⟩
theorem adl:Tryz.prog.cellsOf 154=4∧Tryz.prog.bytesOf 154=64∧(Tryz.prog.info? 154).isSome=true∧aP Tryz.prog 154=some [.d (.s []),.d (.i .i64 0),.d (.s []),.aM []]:=⟨by kernel_rfl,by kernel_rfl,by kernel_rfl,by kernel_rfl⟩
theorem adn:Tryz.prog.cellsOf 155=4∧Tryz.prog.bytesOf 155=64∧(Tryz.prog.info? 155).isSome=true∧aP Tryz.prog 155=some [.d (.s []),.d (.i .i64 0),.d (.s []),.aM []]:=⟨by kernel_rfl,by kernel_rfl,by kernel_rfl,by kernel_rfl⟩
theorem ado:Tryz.prog.cellsOf 165=16∧Tryz.prog.bytesOf 165=264∧(Tryz.prog.info? 165).isSome=true∧aP Tryz.prog 165=some [.d (.s []),.aM [],.d (.i .i64 0),.d (.s []),.aM [],.d (.b false),.aM [],.d (.i .i64 0),.d (.s []),.d (.s []),.d (.i .i64 0),.d (.i .i64 0),.d (.s []),.aM [],.aM [],.aM []]:=⟨by kernel_rfl,by kernel_rfl,by kernel_rfl,by kernel_rfl⟩
theorem adp:Tryz.prog.cellsOf 166=16∧Tryz.prog.bytesOf 166=264∧(Tryz.prog.info? 166).isSome=true∧aP Tryz.prog 166=some [.d (.s []),.aM [],.d (.i .i64 0),.d (.s []),.aM [],.d (.b false),.aM [],.d (.i .i64 0),.d (.s []),.d (.s []),.d (.i .i64 0),.d (.i .i64 0),.d (.s []),.aM [],.aM [],.aM []]:=⟨by kernel_rfl,by kernel_rfl,by kernel_rfl,by kernel_rfl⟩
theorem adq:Tryz.prog.cellsOf 171=11∧Tryz.prog.bytesOf 171=184∧(Tryz.prog.info? 171).isSome=true∧aP Tryz.prog 171=some [.d (.s []),.aM [],.d (.i .i64 0),.d (.s []),.d (.s []),.d (.i .i64 0),.d (.i .i64 0),.d (.s []),.aM [],.aM [],.aM []]:=⟨by kernel_rfl,by kernel_rfl,by kernel_rfl,by kernel_rfl⟩
theorem adr:Tryz.prog.cellsOf 172=11∧Tryz.prog.bytesOf 172=184∧(Tryz.prog.info? 172).isSome=true∧aP Tryz.prog 172=some [.d (.s []),.aM [],.d (.i .i64 0),.d (.s []),.d (.s []),.d (.i .i64 0),.d (.i .i64 0),.d (.s []),.aM [],.aM [],.aM []]:=⟨by kernel_rfl,by kernel_rfl,by kernel_rfl,by kernel_rfl⟩
theorem ads:Tryz.prog.cellsOf 177=1∧Tryz.prog.bytesOf 177=24∧(Tryz.prog.info? 177).isSome=true∧aP Tryz.prog 177=some [.aM []]:=⟨by kernel_rfl,by kernel_rfl,by kernel_rfl,by kernel_rfl⟩
theorem adt:Tryz.prog.cellsOf 178=5∧Tryz.prog.bytesOf 178=72∧(Tryz.prog.info? 178).isSome=true∧aP Tryz.prog 178=some [.d (.s []),.aM [],.d (.b false),.d (.b false),.aM []]:=⟨by kernel_rfl,by kernel_rfl,by kernel_rfl,by kernel_rfl⟩
theorem adu:Tryz.prog.cellsOf 179=5∧Tryz.prog.bytesOf 179=72∧(Tryz.prog.info? 179).isSome=true∧aP Tryz.prog 179=some [.d (.s []),.aM [],.d (.b false),.d (.b false),.aM []]:=⟨by kernel_rfl,by kernel_rfl,by kernel_rfl,by kernel_rfl⟩
theorem adv:Tryz.prog.cellsOf 181=1∧Tryz.prog.bytesOf 181=24∧(Tryz.prog.info? 181).isSome=true∧aP Tryz.prog 181=some [.aM []]:=⟨by kernel_rfl,by kernel_rfl,by kernel_rfl,by kernel_rfl⟩
theorem adw:Tryz.prog.cellsOf 182=3∧Tryz.prog.bytesOf 182=64∧(Tryz.prog.info? 182).isSome=true∧aP Tryz.prog 182=some [.d (.s []),.aM [],.aM []]:=⟨by kernel_rfl,by kernel_rfl,by kernel_rfl,by kernel_rfl⟩
theorem adx:Tryz.prog.cellsOf 183=3∧Tryz.prog.bytesOf 183=64∧(Tryz.prog.info? 183).isSome=true∧aP Tryz.prog 183=some [.d (.s []),.aM [],.aM []]:=⟨by kernel_rfl,by kernel_rfl,by kernel_rfl,by kernel_rfl⟩
theorem ady:Tryz.prog.cellsOf 185=1∧Tryz.prog.bytesOf 185=24∧(Tryz.prog.info? 185).isSome=true∧aP Tryz.prog 185=some [.aM []]:=⟨by kernel_rfl,by kernel_rfl,by kernel_rfl,by kernel_rfl⟩
theorem adz:Tryz.prog.cellsOf 186=1∧Tryz.prog.bytesOf 186=24∧(Tryz.prog.info? 186).isSome=true∧aP Tryz.prog 186=some [.aM []]:=⟨by kernel_rfl,by kernel_rfl,by kernel_rfl,by kernel_rfl⟩
theorem adA:Tryz.prog.cellsOf 187=12∧Tryz.prog.bytesOf 187=192∧(Tryz.prog.info? 187).isSome=true∧aP Tryz.prog 187=some [.d (.s []),.aM [],.d (.i .i64 0),.d (.s []),.aM [],.aM [],.d (.b false),.d (.b false),.d (.i .i64 0),.d (.s []),.aM [],.aM []]:=⟨by kernel_rfl,by kernel_rfl,by kernel_rfl,by kernel_rfl⟩
theorem adB:Tryz.prog.cellsOf 188=12∧Tryz.prog.bytesOf 188=192∧(Tryz.prog.info? 188).isSome=true∧aP Tryz.prog 188=some [.d (.s []),.aM [],.d (.i .i64 0),.d (.s []),.aM [],.aM [],.d (.b false),.d (.b false),.d (.i .i64 0),.d (.s []),.aM [],.aM []]:=⟨by kernel_rfl,by kernel_rfl,by kernel_rfl,by kernel_rfl⟩
theorem adC:Tryz.prog.cellsOf 190=1∧Tryz.prog.bytesOf 190=24∧(Tryz.prog.info? 190).isSome=true∧aP Tryz.prog 190=some [.aM []]:=⟨by kernel_rfl,by kernel_rfl,by kernel_rfl,by kernel_rfl⟩
theorem adD:Tryz.prog.cellsOf 191=16∧Tryz.prog.bytesOf 191=280∧(Tryz.prog.info? 191).isSome=true∧aP Tryz.prog 191=some [.d (.s []),.aM [],.aM [],.aM [],.d (.i .i64 0),.d (.s []),.aM [],.d (.i .i64 0),.d (.s []),.d (.s []),.d (.i .i64 0),.d (.i .i64 0),.d (.s []),.aM [],.aM [],.aM []]:=⟨by kernel_rfl,by kernel_rfl,by kernel_rfl,by kernel_rfl⟩
theorem adE:Tryz.prog.cellsOf 192=16∧Tryz.prog.bytesOf 192=280∧(Tryz.prog.info? 192).isSome=true∧aP Tryz.prog 192=some [.d (.s []),.aM [],.aM [],.aM [],.d (.i .i64 0),.d (.s []),.aM [],.d (.i .i64 0),.d (.s []),.d (.s []),.d (.i .i64 0),.d (.i .i64 0),.d (.s []),.aM [],.aM [],.aM []]:=⟨by kernel_rfl,by kernel_rfl,by kernel_rfl,by kernel_rfl⟩
theorem adF:Tryz.prog.cellsOf 195=1∧Tryz.prog.bytesOf 195=8∧(Tryz.prog.info? 195).isSome=true∧aP Tryz.prog 195=some [.d (.o .nilFunc)]:=⟨by kernel_rfl,by kernel_rfl,by kernel_rfl,by kernel_rfl⟩
theorem adG:Tryz.prog.cellsOf 201=2∧Tryz.prog.bytesOf 201=40∧(Tryz.prog.info? 201).isSome=true∧aP Tryz.prog 201=some [.d (.s []),.aM []]:=⟨by kernel_rfl,by kernel_rfl,by kernel_rfl,by kernel_rfl⟩
theorem adH:Tryz.prog.cellsOf 202=2∧Tryz.prog.bytesOf 202=40∧(Tryz.prog.info? 202).isSome=true∧aP Tryz.prog 202=some [.d (.s []),.aM []]:=⟨by kernel_rfl,by kernel_rfl,by kernel_rfl,by kernel_rfl⟩
theorem adI:Tryz.prog.cellsOf 211=1∧Tryz.prog.bytesOf 211=24∧(Tryz.prog.info? 211).isSome=true∧aP Tryz.prog 211=some [.aM []]:=⟨by kernel_rfl,by kernel_rfl,by kernel_rfl,by kernel_rfl⟩
theorem adJ:Tryz.prog.cellsOf 219=11∧Tryz.prog.bytesOf 219=184∧(Tryz.prog.info? 219).isSome=true∧aP Tryz.prog 219=some [.d (.s []),.aM [],.d (.i .i64 0),.d (.s []),.d (.s []),.d (.i .i64 0),.d (.i .i64 0),.d (.s []),.aM [],.aM [],.aM []]:=⟨by kernel_rfl,by kernel_rfl,by kernel_rfl,by kernel_rfl⟩
theorem adK:Tryz.prog.cellsOf 220=11∧Tryz.prog.bytesOf 220=184∧(Tryz.prog.info? 220).isSome=true∧aP Tryz.prog 220=some [.d (.s []),.aM [],.d (.i .i64 0),.d (.s []),.d (.s []),.d (.i .i64 0),.d (.i .i64 0),.d (.s []),.aM [],.aM [],.aM []]:=⟨by kernel_rfl,by kernel_rfl,by kernel_rfl,by kernel_rfl⟩
theorem adL:Tryz.prog.cellsOf 222=11∧Tryz.prog.bytesOf 222=184∧(Tryz.prog.info? 222).isSome=true∧aP Tryz.prog 222=some [.d (.s []),.aM [],.d (.i .i64 0),.d (.s []),.d (.s []),.d (.i .i64 0),.d (.i .i64 0),.d (.s []),.aM [],.aM [],.aM []]:=⟨by kernel_rfl,by kernel_rfl,by kernel_rfl,by kernel_rfl⟩
theorem adM:Tryz.prog.cellsOf 223=11∧Tryz.prog.bytesOf 223=184∧(Tryz.prog.info? 223).isSome=true∧aP Tryz.prog 223=some [.d (.s []),.aM [],.d (.i .i64 0),.d (.s []),.d (.s []),.d (.i .i64 0),.d (.i .i64 0),.d (.s []),.aM [],.aM [],.aM []]:=⟨by kernel_rfl,by kernel_rfl,by kernel_rfl,by kernel_rfl⟩
theorem adN:Tryz.prog.cellsOf 226=1∧Tryz.prog.bytesOf 226=8∧(Tryz.prog.info? 226).isSome=true∧aP Tryz.prog 226=some [.d (.o (.pointer none))]:=⟨by kernel_rfl,by kernel_rfl,by kernel_rfl,by kernel_rfl⟩
theorem adO:Tryz.prog.cellsOf 227=1∧Tryz.prog.bytesOf 227=24∧(Tryz.prog.info? 227).isSome=true∧aP Tryz.prog 227=some [.aM []]:=⟨by kernel_rfl,by kernel_rfl,by kernel_rfl,by kernel_rfl⟩
theorem adP:Tryz.prog.cellsOf 228=2∧Tryz.prog.bytesOf 228=32∧(Tryz.prog.info? 228).isSome=true∧aP Tryz.prog 228=some [.d (.o (.pointer none)),.aM []]:=⟨by kernel_rfl,by kernel_rfl,by kernel_rfl,by kernel_rfl⟩
theorem adQ:Tryz.prog.cellsOf 229=2∧Tryz.prog.bytesOf 229=32∧(Tryz.prog.info? 229).isSome=true∧aP Tryz.prog 229=some [.d (.o (.pointer none)),.aM []]:=⟨by kernel_rfl,by kernel_rfl,by kernel_rfl,by kernel_rfl⟩
theorem adR:Tryz.prog.cellsOf 233=1∧Tryz.prog.bytesOf 233=8∧(Tryz.prog.info? 233).isSome=true∧aP Tryz.prog 233=some [.d (.o .nilFunc)]:=⟨by kernel_rfl,by kernel_rfl,by kernel_rfl,by kernel_rfl⟩
theorem adS:Tryz.prog.cellsOf 246=4∧Tryz.prog.bytesOf 246=64∧(Tryz.prog.info? 246).isSome=true∧aP Tryz.prog 246=some [.d (.s []),.d (.i .i64 0),.d (.s []),.aM []]:=⟨by kernel_rfl,by kernel_rfl,by kernel_rfl,by kernel_rfl⟩
theorem adT:Tryz.prog.cellsOf 247=4∧Tryz.prog.bytesOf 247=64∧(Tryz.prog.info? 247).isSome=true∧aP Tryz.prog 247=some [.d (.s []),.d (.i .i64 0),.d (.s []),.aM []]:=⟨by kernel_rfl,by kernel_rfl,by kernel_rfl,by kernel_rfl⟩
theorem adU:Tryz.prog.cellsOf 262=1∧Tryz.prog.bytesOf 262=8∧(Tryz.prog.info? 262).isSome=true∧aP Tryz.prog 262=some [.d (.o .nilFunc)]:=⟨by kernel_rfl,by kernel_rfl,by kernel_rfl,by kernel_rfl⟩
theorem adV:Tryz.prog.cellsOf 280=4∧Tryz.prog.bytesOf 280=96∧(Tryz.prog.info? 280).isSome=true∧aP Tryz.prog 280=some [.aM [],.aM [],.aM [],.aM []]:=⟨by kernel_rfl,by kernel_rfl,by kernel_rfl,by kernel_rfl⟩
theorem adW:Tryz.prog.cellsOf 285=1∧Tryz.prog.bytesOf 285=16∧(Tryz.prog.info? 285).isSome=true∧aP Tryz.prog 285=some [.d (.o .nilIface)]:=⟨by kernel_rfl,by kernel_rfl,by kernel_rfl,by kernel_rfl⟩
theorem adX:Tryz.prog.cellsOf 286=1∧Tryz.prog.bytesOf 286=16∧(Tryz.prog.info? 286).isSome=true∧aP Tryz.prog 286=some [.d (.o .nilIface)]:=⟨by kernel_rfl,by kernel_rfl,by kernel_rfl,by kernel_rfl⟩
theorem adY:Tryz.prog.cellsOf 290=1∧Tryz.prog.bytesOf 290=8∧(Tryz.prog.info? 290).isSome=true∧aP Tryz.prog 290=some [.d (.o (.pointer none))]:=⟨by kernel_rfl,by kernel_rfl,by kernel_rfl,by kernel_rfl⟩
theorem adZ:Tryz.prog.cellsOf 297=1∧Tryz.prog.bytesOf 297=8∧(Tryz.prog.info? 297).isSome=true∧aP Tryz.prog 297=some [.d (.o .nilFunc)]:=⟨by kernel_rfl,by kernel_rfl,by kernel_rfl,by kernel_rfl⟩
theorem ad1:Tryz.prog.cellsOf 298=1∧Tryz.prog.bytesOf 298=24∧(Tryz.prog.info? 298).isSome=true∧aP Tryz.prog 298=some [.aM []]:=⟨by kernel_rfl,by kernel_rfl,by kernel_rfl,by kernel_rfl⟩
theorem ad2:Tryz.prog.cellsOf 301=1∧Tryz.prog.bytesOf 301=8∧(Tryz.prog.info? 301).isSome=true∧aP Tryz.prog 301=some [.d (.o .nilFunc)]:=⟨by kernel_rfl,by kernel_rfl,by kernel_rfl,by kernel_rfl⟩
theorem ad3:Tryz.prog.cellsOf 304=1∧Tryz.prog.bytesOf 304=8∧(Tryz.prog.info? 304).isSome=true∧aP Tryz.prog 304=some [.d (.o (.map none))]:=⟨by kernel_rfl,by kernel_rfl,by kernel_rfl,by kernel_rfl⟩
theorem ad4:Tryz.prog.cellsOf 306=1∧Tryz.prog.bytesOf 306=8∧(Tryz.prog.info? 306).isSome=true∧aP Tryz.prog 306=some [.d (.o .nilFunc)]:=⟨by kernel_rfl,by kernel_rfl,by kernel_rfl,by kernel_rfl⟩
theorem ad5:Tryz.prog.cellsOf 309=16∧Tryz.prog.bytesOf 309=264∧(Tryz.prog.info? 309).isSome=true∧aP Tryz.prog 309=some [.d (.s []),.aM [],.d (.i .i64 0),.d (.s []),.aM [],.d (.b false),.aM [],.d (.i .i64 0),.d (.s []),.d (.s []),.d (.i .i64 0),.d (.i .i64 0),.d (.s []),.aM [],.aM [],.aM []]:=⟨by kernel_rfl,by kernel_rfl,by kernel_rfl,by kernel_rfl⟩
theorem ad6:Tryz.prog.cellsOf 310=16∧Tryz.prog.bytesOf 310=264∧(Tryz.prog.info? 310).isSome=true∧aP Tryz.prog 310=some [.d (.s []),.aM [],.d (.i .i64 0),.d (.s []),.aM [],.d (.b false),.aM [],.d (.i .i64 0),.d (.s []),.d (.s []),.d (.i .i64 0),.d (.i .i64 0),.d (.s []),.aM [],.aM [],.aM []]:=⟨by kernel_rfl,by kernel_rfl,by kernel_rfl,by kernel_rfl⟩
theorem ad7:Tryz.prog.cellsOf 312=2∧Tryz.prog.bytesOf 312=40∧(Tryz.prog.info? 312).isSome=true∧aP Tryz.prog 312=some [.d (.s []),.aM []]:=⟨by kernel_rfl,by kernel_rfl,by kernel_rfl,by kernel_rfl⟩
theorem ad8:Tryz.prog.cellsOf 313=2∧Tryz.prog.bytesOf 313=40∧(Tryz.prog.info? 313).isSome=true∧aP Tryz.prog 313=some [.d (.s []),.aM []]:=⟨by kernel_rfl,by kernel_rfl,by kernel_rfl,by kernel_rfl⟩
theorem ad9:Tryz.prog.cellsOf 315=4∧Tryz.prog.bytesOf 315=64∧(Tryz.prog.info? 315).isSome=true∧aP Tryz.prog 315=some [.d (.s []),.d (.i .i64 0),.d (.s []),.aM []]:=⟨by kernel_rfl,by kernel_rfl,by kernel_rfl,by kernel_rfl⟩
theorem aea:Tryz.prog.cellsOf 316=4∧Tryz.prog.bytesOf 316=64∧(Tryz.prog.info? 316).isSome=true∧aP Tryz.prog 316=some [.d (.s []),.d (.i .i64 0),.d (.s []),.aM []]:=⟨by kernel_rfl,by kernel_rfl,by kernel_rfl,by kernel_rfl⟩
theorem aeb:Tryz.prog.cellsOf 318=11∧Tryz.prog.bytesOf 318=184∧(Tryz.prog.info? 318).isSome=true∧aP Tryz.prog 318=some [.d (.s []),.aM [],.d (.i .i64 0),.d (.s []),.d (.s []),.d (.i .i64 0),.d (.i .i64 0),.d (.s []),.aM [],.aM [],.aM []]:=⟨by kernel_rfl,by kernel_rfl,by kernel_rfl,by kernel_rfl⟩
theorem aec:Tryz.prog.cellsOf 319=11∧Tryz.prog.bytesOf 319=184∧(Tryz.prog.info? 319).isSome=true∧aP Tryz.prog 319=some [.d (.s []),.aM [],.d (.i .i64 0),.d (.s []),.d (.s []),.d (.i .i64 0),.d (.i .i64 0),.d (.s []),.aM [],.aM [],.aM []]:=⟨by kernel_rfl,by kernel_rfl,by kernel_rfl,by kernel_rfl⟩
theorem aed:Tryz.prog.cellsOf 321=4∧Tryz.prog.bytesOf 321=64∧(Tryz.prog.info? 321).isSome=true∧aP Tryz.prog 321=some [.d (.s []),.d (.i .i64 0),.d (.s []),.aM []]:=⟨by kernel_rfl,by kernel_rfl,by kernel_rfl,by kernel_rfl⟩
theorem aee:Tryz.prog.cellsOf 322=4∧Tryz.prog.bytesOf 322=64∧(Tryz.prog.info? 322).isSome=true∧aP Tryz.prog 322=some [.d (.s []),.d (.i .i64 0),.d (.s []),.aM []]:=⟨by kernel_rfl,by kernel_rfl,by kernel_rfl,by kernel_rfl⟩
theorem aef:Tryz.prog.cellsOf 358=24∧Tryz.prog.bytesOf 358=24∧(Tryz.prog.info? 358).isSome=true∧aP Tryz.prog 358=some [.d (.i .u8 0),.d (.i .u8 0),.d (.i .u8 0),.d (.i .u8 0),.d (.i .u8 0),.d (.i .u8 0),.d (.i .u8 0),.d (.i .u8 0),.d (.i .u8 0),.d (.i .u8 0),.d (.i .u8 0),.d (.i .u8 0),.d (.i .u8 0),.d (.i .u8 0),.d (.i .u8 0),.d (.i .u8 0),.d (.i .u8 0),.d (.i .u8 0),.d (.i .u8 0),.d (.i .u8 0),.d (.i .u8 0),.d (.i .u8 0),.d (.i .u8 0),.d (.i .u8 0)]:=⟨by kernel_rfl,by kernel_rfl,by kernel_rfl,by kernel_rfl⟩
theorem aeg:Tryz.prog.cellsOf 359=1∧Tryz.prog.bytesOf 359=8∧(Tryz.prog.info? 359).isSome=true∧aP Tryz.prog 359=some [.d (.i .u64 0)]:=⟨by kernel_rfl,by kernel_rfl,by kernel_rfl,by kernel_rfl⟩
theorem aeh:Tryz.prog.cellsOf 364=1∧Tryz.prog.bytesOf 364=24∧(Tryz.prog.info? 364).isSome=true∧aP Tryz.prog 364=some [.aM []]:=⟨by kernel_rfl,by kernel_rfl,by kernel_rfl,by kernel_rfl⟩
theorem aei:Tryz.prog.cellsOf 369=1∧Tryz.prog.bytesOf 369=8∧(Tryz.prog.info? 369).isSome=true∧aP Tryz.prog 369=some [.d (.i .u64 0)]:=⟨by kernel_rfl,by kernel_rfl,by kernel_rfl,by kernel_rfl⟩
theorem aej:Tryz.prog.cellsOf 371=3∧Tryz.prog.bytesOf 371=48∧(Tryz.prog.info? 371).isSome=true∧aP Tryz.prog 371=some [.d (.s []),.d (.s []),.d (.o .nilIface)]:=⟨by kernel_rfl,by kernel_rfl,by kernel_rfl,by kernel_rfl⟩
theorem aek:Tryz.prog.cellsOf 376=20∧Tryz.prog.bytesOf 376=160∧(Tryz.prog.info? 376).isSome=true∧aP Tryz.prog 376=some [.d (.i .u64 0),.d (.i .u64 0),.d (.i .u64 0),.d (.i .u64 0),.d (.i .u64 0),.d (.i .u64 0),.d (.i .u64 0),.d (.i .u64 0),.d (.i .u64 0),.d (.i .u64 0),.d (.i .u64 0),.d (.i .u64 0),.d (.i .u64 0),.d (.i .u64 0),.d (.i .u64 0),.d (.i .u64 0),.d (.i .u64 0),.d (.i .u64 0),.d (.i .u64 0),.d (.i .u64 0)]:=⟨by kernel_rfl,by kernel_rfl,by kernel_rfl,by kernel_rfl⟩
theorem ael:Tryz.prog.cellsOf 377=1∧Tryz.prog.bytesOf 377=4∧(Tryz.prog.info? 377).isSome=true∧aP Tryz.prog 377=some [.d (.i .u32 0)]:=⟨by kernel_rfl,by kernel_rfl,by kernel_rfl,by kernel_rfl⟩
theorem aem:Tryz.prog.cellsOf 378=65∧Tryz.prog.bytesOf 378=65∧(Tryz.prog.info? 378).isSome=true∧aP Tryz.prog 378=some [.d (.i .u8 0),.d (.i .u8 0),.d (.i .u8 0),.d (.i .u8 0),.d (.i .u8 0),.d (.i .u8 0),.d (.i .u8 0),.d (.i .u8 0),.d (.i .u8 0),.d (.i .u8 0),.d (.i .u8 0),.d (.i .u8 0),.d (.i .u8 0),.d (.i .u8 0),.d (.i .u8 0),.d (.i .u8 0),.d (.i .u8 0),.d (.i .u8 0),.d (.i .u8 0),.d (.i .u8 0),.d (.i .u8 0),.d (.i .u8 0),.d (.i .u8 0),.d (.i .u8 0),.d (.i .u8 0),.d (.i .u8 0),.d (.i .u8 0),.d (.i .u8 0),.d (.i .u8 0),.d (.i .u8 0),.d (.i .u8 0),.d (.i .u8 0),.d (.i .u8 0),.d (.i .u8 0),.d (.i .u8 0),.d (.i .u8 0),.d (.i .u8 0),.d (.i .u8 0),.d (.i .u8 0),.d (.i .u8 0),.d (.i .u8 0),.d (.i .u8 0),.d (.i .u8 0),.d (.i .u8 0),.d (.i .u8 0),.d (.i .u8 0),.d (.i .u8 0),.d (.i .u8 0),.d (.i .u8 0),.d (.i .u8 0),.d (.i .u8 0),.d (.i .u8 0),.d (.i .u8 0),.d (.i .u8 0),.d (.i .u8 0),.d (.i .u8 0),.d (.i .u8 0),.d (.i .u8 0),.d (.i .u8 0),.d (.i .u8 0),.d (.i .u8 0),.d (.i .u8 0),.d (.i .u8 0),.d (.i .u8 0),.d (.i .u8 0)]:=⟨by kernel_rfl,by kernel_rfl,by kernel_rfl,by kernel_rfl⟩
theorem aen:Tryz.prog.cellsOf 383=1∧Tryz.prog.bytesOf 383=16∧(Tryz.prog.info? 383).isSome=true∧aP Tryz.prog 383=some [.d (.s [])]:=⟨by kernel_rfl,by kernel_rfl,by kernel_rfl,by kernel_rfl⟩
theorem aeo:Tryz.prog.cellsOf 388=32∧Tryz.prog.bytesOf 388=32∧(Tryz.prog.info? 388).isSome=true∧aP Tryz.prog 388=some [.d (.i .u8 0),.d (.i .u8 0),.d (.i .u8 0),.d (.i .u8 0),.d (.i .u8 0),.d (.i .u8 0),.d (.i .u8 0),.d (.i .u8 0),.d (.i .u8 0),.d (.i .u8 0),.d (.i .u8 0),.d (.i .u8 0),.d (.i .u8 0),.d (.i .u8 0),.d (.i .u8 0),.d (.i .u8 0),.d (.i .u8 0),.d (.i .u8 0),.d (.i .u8 0),.d (.i .u8 0),.d (.i .u8 0),.d (.i .u8 0),.d (.i .u8 0),.d (.i .u8 0),.d (.i .u8 0),.d (.i .u8 0),.d (.i .u8 0),.d (.i .u8 0),.d (.i .u8 0),.d (.i .u8 0),.d (.i .u8 0),.d (.i .u8 0)]:=⟨by kernel_rfl,by kernel_rfl,by kernel_rfl,by kernel_rfl⟩
theorem aep:Tryz.prog.cellsOf 389=64∧Tryz.prog.bytesOf 389=64∧(Tryz.prog.info? 389).isSome=true∧aP Tryz.prog 389=some [.d (.i .u8 0),.d (.i .u8 0),.d (.i .u8 0),.d (.i .u8 0),.d (.i .u8 0),.d (.i .u8 0),.d (.i .u8 0),.d (.i .u8 0),.d (.i .u8 0),.d (.i .u8 0),.d (.i .u8 0),.d (.i .u8 0),.d (.i .u8 0),.d (.i .u8 0),.d (.i .u8 0),.d (.i .u8 0),.d (.i .u8 0),.d (.i .u8 0),.d (.i .u8 0),.d (.i .u8 0),.d (.i .u8 0),.d (.i .u8 0),.d (.i .u8 0),.d (.i .u8 0),.d (.i .u8 0),.d (.i .u8 0),.d (.i .u8 0),.d (.i .u8 0),.d (.i .u8 0),.d (.i .u8 0),.d (.i .u8 0),.d (.i .u8 0),.d (.i .u8 0),.d (.i .u8 0),.d (.i .u8 0),.d (.i .u8 0),.d (.i .u8 0),.d (.i .u8 0),.d (.i .u8 0),.d (.i .u8 0),.d (.i .u8 0),.d (.i .u8 0),.d (.i .u8 0),.d (.i .u8 0),.d (.i .u8 0),.d (.i .u8 0),.d (.i .u8 0),.d (.i .u8 0),.d (.i .u8 0),.d (.i .u8 0),.d (.i .u8 0),.d (.i .u8 0),.d (.i .u8 0),.d (.i .u8 0),.d (.i .u8 0),.d (.i .u8 0),.d (.i .u8 0),.d (.i .u8 0),.d (.i .u8 0),.d (.i .u8 0),.d (.i .u8 0),.d (.i .u8 0),.d (.i .u8 0),.d (.i .u8 0)]:=⟨by kernel_rfl,by kernel_rfl,by kernel_rfl,by kernel_rfl⟩
theorem laidOut:laidOutB Tryz.prog=true:=by kernel_rfl
theorem own:ownKnob Tryz.prog.godebug=none:=by kernel_rfl
attribute [go_sem] ty1 Tryz.underlying1 ty2 Tryz.underlying2 ty3 Tryz.underlying3 ty4 Tryz.underlying4 ac9 ty5 Tryz.underlying5 ty9 Tryz.underlying9 ae8 Tryz.underlying12 ae9 Tryz.underlying20 afa Tryz.underlying21 afb Tryz.underlying22 afc Tryz.underlying23 afd Tryz.underlying24 afe Tryz.underlying25 aff Tryz.underlying26 afg Tryz.underlying27 afh Tryz.underlying28 afi Tryz.underlying29 afj Tryz.underlying30 afk Tryz.underlying31 afl Tryz.underlying32 afm Tryz.underlying34 afn Tryz.underlying35 afo Tryz.underlying36 afp Tryz.underlying37 afq Tryz.underlying38 afr Tryz.underlying39 afs Tryz.underlying40 aft Tryz.underlying41 afu Tryz.underlying42 afv Tryz.underlying43 afw Tryz.underlying44 afx Tryz.underlying46 afy Tryz.underlying47 afz Tryz.underlying48 afA Tryz.underlying49 afB Tryz.underlying50 afC Tryz.underlying51 afD Tryz.underlying52 afE Tryz.underlying53 afF Tryz.underlying54 afG Tryz.underlying55 afH Tryz.underlying56 afI Tryz.underlying57 afJ Tryz.underlying58 afK Tryz.underlying59 afL Tryz.underlying60 afM Tryz.underlying61 afN Tryz.underlying63 afO Tryz.underlying64 afP Tryz.underlying65 afQ Tryz.underlying66 afR Tryz.underlying67 afS Tryz.underlying68 afT Tryz.underlying69 afU Tryz.underlying71 afV Tryz.underlying75 afW Tryz.underlying76 afX Tryz.underlying77 afY Tryz.underlying78 afZ Tryz.underlying80 af0 Tryz.underlying81 af2 Tryz.underlying82 af3 Tryz.underlying83 af4 Tryz.underlying84 af5 Tryz.underlying85 af6 Tryz.underlying90 af7 Tryz.underlying91 af8 Tryz.underlying92 af9 Tryz.underlying95 aga Tryz.underlying96 agb Tryz.underlying97 ada Tryz.underlying108 adb Tryz.underlying109 ade Tryz.underlying110 adf Tryz.underlying119 adg Tryz.underlying127 adh Tryz.underlying128 adi Tryz.underlying129 adj Tryz.underlying140 adk Tryz.underlying145 adl Tryz.underlying154 adn Tryz.underlying155 ado Tryz.underlying165 adp Tryz.underlying166 adq Tryz.underlying171 adr Tryz.underlying172 ads Tryz.underlying177 adt Tryz.underlying178 adu Tryz.underlying179 adv Tryz.underlying181 adw Tryz.underlying182 adx Tryz.underlying183 ady Tryz.underlying185 adz Tryz.underlying186 adA Tryz.underlying187 adB Tryz.underlying188 adC Tryz.underlying190 adD Tryz.underlying191 adE Tryz.underlying192 adF Tryz.underlying195 adG Tryz.underlying201 adH Tryz.underlying202 adI Tryz.underlying211 adJ Tryz.underlying219 adK Tryz.underlying220 adL Tryz.underlying222 adM Tryz.underlying223 adN Tryz.underlying226 adO Tryz.underlying227 adP Tryz.underlying228 adQ Tryz.underlying229 adR Tryz.underlying233 adS Tryz.underlying246 adT Tryz.underlying247 adU Tryz.underlying262 adV Tryz.underlying280 adW Tryz.underlying285 adX Tryz.underlying286 adY Tryz.underlying290 adZ Tryz.underlying297 ad1 Tryz.underlying298 ad2 Tryz.underlying301 ad3 Tryz.underlying304 ad4 Tryz.underlying306 ad5 Tryz.underlying309 ad6 Tryz.underlying310 ad7 Tryz.underlying312 ad8 Tryz.underlying313 ad9 Tryz.underlying315 aea Tryz.underlying316 aeb Tryz.underlying318 aec Tryz.underlying319 aed Tryz.underlying321 aee Tryz.underlying322 aef Tryz.underlying358 aeg Tryz.underlying359 aeh Tryz.underlying364 aei Tryz.underlying369 aej Tryz.underlying371 aek Tryz.underlying376 ael Tryz.underlying377 aem Tryz.underlying378 aen Tryz.underlying383 aeo Tryz.underlying388 aep Tryz.underlying389
end Go.Proofs.YtlmhknhlmicmeaaGreatDoor.Fa
namespace Go.Proofs.YtlmhknhlmicmeaaGreatDoor
open Go Go.Ab
theorem yJ(xs ys:List (List UInt8))(hsz:xs.length≤1073741824):aI Tryz.prog 77 [.c (.d (.sl (xs.map encS))),.c (.d (.sl (ys.map encS)))] (.c (.d (.b (dec (xs=ys))))):=by
 intro S
 refine aD (rs:=[.tmp 4]) Tryz.checked.mixed Tryz.func77 Tryz.ntmps77 rfl rfl rfl rfl rfl ?_
 simp -implicitDefEqProofs (disch:=omega) only[go_sem]
 with_reducible refine aA (fun hb=> ?_) (fun hb=> ?_)<;>have h:=hb<;>(try simp only[wf_preprocess] at h)<;>simp -implicitDefEqProofs (disch:=omega) only[go_sem,hb]<;>(repeat(with_reducible refine And.intro ?_ ?_;focus first|omega|rfl|assumption|exact⟨_,rfl,rfl⟩|(simp;omega)|(simp;done)))
 ·exact aK (aQ (fun e=>h (by rw[e]))).symm
 have hl:xs.length=ys.length:=by omega
 refine aZ (ι:=Nat) Tryz.checked.mixed rfl [0,1,5] (fun y=>[.c (.d (.sl (xs.map encS))),.c (.d (.sl (ys.map encS))),.c (.d (.i .i64 y))]) (fun y=>[]::S)
  (fun i=>i≤xs.length∧∀j,j<i→xs[j]? =ys[j]?) (fun y=>xs.length-y) 0 rfl rfl ⟨Nat.zero_le _,fun j h=>by omega⟩ ?_
 rintro i ⟨p1,p2⟩
 simp -implicitDefEqProofs (disch:=omega) only[go_sem]
 with_reducible refine aA (fun hb=> ?_) (fun hb=> ?_)<;>have h:=hb<;>(try simp only[wf_preprocess] at h)<;>simp -implicitDefEqProofs (disch:=omega) only[go_sem,hb]<;>(repeat(with_reducible refine And.intro ?_ ?_;focus first|omega|rfl|assumption|exact⟨_,rfl,rfl⟩|(simp;omega)|(simp;done)))
 ·have hi:i<xs.length:=by omega
  have hi':i<ys.length:=by omega
  (repeat(with_reducible refine And.intro ?_ ?_;focus first|omega|rfl|assumption|exact⟨_,rfl,rfl⟩|(simp;omega)|(simp;done)))
  with_reducible refine aA (fun hb=> ?_) (fun hb=> ?_)<;>have h:=hb<;>(try simp only[wf_preprocess] at h)<;>simp -implicitDefEqProofs (disch:=omega) only[go_sem,hb]<;>(repeat(with_reducible refine And.intro ?_ ?_;focus first|omega|rfl|assumption|exact⟨_,rfl,rfl⟩|(simp;omega)|(simp;done)))
  ·exact aK (aQ (fun e=>h (by simp only[e]))).symm
  refine bL (i+1) (by omega) rfl rfl ⟨by omega,fun j hj=> ?_⟩
  by_cases e:j=i
  ·subst e
   rw[List.getElem?_eq_getElem hi,List.getElem?_eq_getElem hi',h]
  ·exact p2 j (by omega)
 ·have hi:i=xs.length:=by omega
  refine aK (bK (List.ext_getElem? fun j=> ?_)).symm
  by_cases hj:j<i
  ·exact p2 j hj
  ·rw[List.getElem?_eq_none (by omega),List.getElem?_eq_none (by omega)]
end Go.Proofs.YtlmhknhlmicmeaaGreatDoor
namespace Go.Ab
def Bn(n:Nat)(out:List UInt8):List UInt8:=if h:n=0 then out else Bn (n/10) (UInt8.ofNat (48+n % 10)::out)
termination_by n
decreasing_by omega
def gG(k:Int):List UInt8:=if k≤0 then [109,48] else 109::Bn k.toNat []
theorem Vf{out:List UInt8}:Bn 0 out=out:=by rw[Bn];simp
theorem Yk{n:Nat}{out:List UInt8}(h:n≠0):Bn n out=Bn (n/10) (UInt8.ofNat (48+n % 10)::out):=by rw[Bn];simp[h]
mutual
def kL:D→Nat
 | .sl es=>aB es
 | .b _=>1
 | .i _ _=>1
 | .s _=>1
 | .o _=>0
 | .ol _ _=>0
def kM:List D→Nat
 |[]=>0
 |d::ds=>kL d+kM ds
def aB:List (List D)→Nat
 |[]=>0
 |r::rs=>kM r+aB rs
end
mutual
def zi:D→Int→D
 | .sl es,k=>.sl (cu es k)
 | .b _,k=>.b (decide (k.tmod 3=0))
 | .i kd _,k=>.i kd k
 | .s _,k=>.s (gG k)
 | .o v,_=>.o v
 | .ol n es,_=>.ol n es
def ng:List D→Int→List D
 |[],_=>[]
 |d::ds,k=>zi d k::ng ds (k+kL d)
def cu:List (List D)→Int→List (List D)
 |[],_=>[]
 |r::rs,k=>ng r k::cu rs (k+kM r)
end
mutual
def tV:D→Bool
 | .sl es=>jl es
 | .b _=>true
 | .i _ _=>true
 | .s _=>true
 | .o _=>true
 | .ol _ _=>true
def iT:List D→Bool
 |[]=>true
 |d::ds=>tV d&&iT ds
def jl:List (List D)→Bool
 |[]=>true
 |r::rs=>decide (r.length≤32)&&iT r&&jl rs
end
mutual
theorem aer:∀d:D,tV d=true→kL d≤32*d.sz+1
 | .sl es,h=>by
   have:=Vg es (by simpa [tV] using h)
   simp only[kL,D.sz];omega
 | .b _,_=>by simp[kL]
 | .i _ _,_=>by simp[kL]
 | .s _,_=>by simp[kL]
 | .o _,_=>by simp[kL]
 | .ol _ _,_=>by simp[kL]
theorem GD:∀r:List D,iT r=true→kM r≤32*bQ r+r.length
 |[],_=>by simp[kM]
 |d::ds,h=>by
  rw[iT,Bool.and_eq_true] at h
  have h1:=aer d h.1
  have h2:=GD ds h.2
  simp only[kM,bQ,List.length_cons];omega
theorem Vg:∀rs:List (List D),jl rs=true→aB rs≤32*(rs.length+bG rs)
 |[],_=>by simp[aB]
 |r::rs,h=>by
  rw[jl,Bool.and_eq_true,Bool.and_eq_true,decide_eq_true_eq] at h
  have h1:=GD r h.1.2
  have h2:=Vg rs h.2
  simp only[aB,bG,List.length_cons];omega
end
theorem fQ:∀a b,iT (a++b)=(iT a&&iT b)
 |[],b=>by simp[iT]
 |d::ds,b=>by rw[List.cons_append,iT,iT,fQ ds b,Bool.and_assoc]
theorem jB{α:Type}{f:α→List D}:∀{xs:List α},(∀x∈xs,iT (f x)=true∧(f x).length≤32)→jl (xs.map f)=true
 |[],_=>rfl
 |x::xs,h=>by
  rw[List.map_cons,jl,(h x (by simp)).1,jB fun y hy=>h y (by simp[hy]),decide_eq_true (h x (by simp)).2];rfl
theorem zP:∀a b,aB (a++b)=aB a+aB b
 |[],b=>by simp[aB]
 |d::ds,b=>by rw[List.cons_append,aB,aB,zP ds b];omega
theorem EG:∀a b k,cu (a++b) k=cu a k++cu b (k+aB a)
 |[],b,k=>by simp[cu,aB]
 |d::ds,b,k=>by rw[List.cons_append,cu,cu,EG ds b,aB];simp only[List.cons_append,Int.natCast_add,Int.add_assoc]
theorem bB:∀rs k,(cu rs k).length=rs.length
 |[],_=>rfl
 |r::rs,k=>by rw[cu,List.length_cons,bB rs,List.length_cons]
theorem M9{rows:List (List D)}{i:Nat}(hi:i<rows.length):rows.take (i+1)=rows.take i++[rows[i]]:=List.take_succ_eq_append_getElem hi
theorem jJ{rows:List (List D)}{i:Nat}(hi:i<rows.length):aB (rows.take (i+1))=aB (rows.take i)+kM rows[i]:=by
 rw[M9 hi,zP];simp[aB]
theorem mO{rows:List (List D)}{i:Nat}:aB (rows.take i)≤aB rows:=by
 have:=zP (rows.take i) (rows.drop i)
 rw[List.take_append_drop] at this
 omega
def ny(rows:List (List D))(k:Int)(i:Nat):List (List D):=cu (rows.take i) k++rows.drop i
theorem qW{rows:List (List D)}{k:Int}:ny rows k 0=rows:=by simp[ny,cu]
theorem sQ{rows:List (List D)}{k:Int}{i:Nat}(h:rows.length≤i):ny rows k i=cu rows k:=by
 unfold ny;rw[List.take_of_length_le h,List.drop_of_length_le h,List.append_nil]
theorem jm{rows:List (List D)}{k:Int}{i:Nat}:(ny rows k i).length=rows.length:=by
 unfold ny;rw[List.length_append,bB,List.length_take,List.length_drop];omega
theorem Yl{rows:List (List D)}{k:Int}{i:Nat}(hi:i<rows.length):(ny rows k i).getD i []=rows[i]:=by
 unfold ny
 rw[List.getD_eq_getElem?_getD,List.getElem?_append_right (by rw[bB,List.length_take];omega),bB,List.length_take,List.getElem?_drop]
 rw[show i+(i-min i rows.length)=i by omega,List.getElem?_eq_getElem hi];rfl
theorem Ym{rows:List (List D)}{k:Int}{i:Nat}(hi:i<rows.length):(ny rows k i).set i (ng rows[i] (k+aB (rows.take i)))=ny rows k (i+1):=by
 unfold ny
 have hl:(cu (rows.take i) k).length=i:=by rw[bB,List.length_take];omega
 rw[List.set_append_right _ _ (by omega),hl,Nat.sub_self,List.drop_eq_getElem_cons hi,List.set_cons_zero,M9 hi,EG,List.append_assoc]
 rfl
def jC(rows:List (List D))(k:Int)(i:Nat)(row:List D):List (List D):=(ny rows k i).set i row
theorem bT{rows:List (List D)}{k:Int}{i:Nat}{row:List D}:(jC rows k i row).length=rows.length:=by unfold jC;rw[List.length_set,jm]
theorem qX{rows:List (List D)}{k:Int}{i:Nat}{row:List D}(hi:i<rows.length):(jC rows k i row).getD i []=row:=by
 unfold jC
 rw[List.getD_eq_getElem?_getD,List.getElem?_set_self (by rw[jm];exact hi)];rfl
theorem nO{rows:List (List D)}{k:Int}{i o:Nat}{row:List D}(hi:i<rows.length):cellAt (jC rows k i row) i o=row[o]? :=by
 unfold jC cellAt
 rw[List.getElem?_set_self (by rw[jm];exact hi),Option.bind_some]
theorem dG{rows:List (List D)}{k:Int}{i:Nat}{row row':List D}:(jC rows k i row).set i row'=jC rows k i row':=by unfold jC;rw[List.set_set]
theorem vF{rows:List (List D)}{k:Int}{i:Nat}(hi:i<rows.length):ny rows k i=jC rows k i rows[i]:=by
 have h:=Yl (k:=k) hi
 have hl:i<(ny rows k i).length:=by rw[jm];exact hi
 rw[List.getD_eq_getElem?_getD,List.getElem?_eq_getElem hl,Option.getD_some] at h
 unfold jC
 rw[←h,List.set_getElem_self]
theorem vG{rows:List (List D)}{k:Int}{i:Nat}(hi:i<rows.length):jC rows k i (ng rows[i] (k+aB (rows.take i)))=ny rows k (i+1):=Ym hi
theorem aan{rs:List (List (List D))}{r:Nat}{p:List (Nat×Nat)}{rows es:List (List D)}{k:Int}{i o:Nat}{row:List D}(hp:atR rs r p=some rows)(hi:i<rows.length)(h:row[o]? =some (.sl es)):
 atR (dB rs r p (jC rows k i row)) r (p++[(i,o)])=some es:=jZ (pF hp) (by rw[nO hi,h])
theorem Yn{rs:List (List (List D))}{r:Nat}{p:List (Nat×Nat)}{rows es new:List (List D)}{k:Int}{i o:Nat}{row:List D}(hp:atR rs r p=some rows)(hi:i<rows.length)(h:row[o]? =some (.sl es)):
 dB (dB rs r p (jC rows k i row)) r (p++[(i,o)]) new=dB rs r p (jC rows k i (row.set o (.sl new))):=by
 rw[Ve (pF hp) (by rw[nO hi,h]),oN hp,qX hi,dG]
theorem kW:∀{rows:List (List D)} {k:Int} {i:Nat} (hi:i<rows.length),(cu rows k).getD i []=ng rows[i] (k+aB (rows.take i))
 |r::rows,k,0,_=>by simp[cu,aB]
 |r::rows,k,i+1,hi=>by
  have:=kW (rows:=rows) (k:=k+kM r) (i:=i) (by simpa using hi)
  rw[cu,List.getD_cons_succ,this,List.getElem_cons_succ,List.take_succ_cons,aB,Int.natCast_add,Int.add_assoc]
theorem nP{α:Type}{f:α→List D}(h:∀x,1≤kM (f x)):∀xs:List α,xs.length≤aB (xs.map f)
 |[]=>Nat.zero_le _
 |x::xs=>by
  have h1:=h x
  have h2:=nP h xs
  rw[List.map_cons,aB,List.length_cons]
  omega
theorem nQ{P:Program}{f:FuncId}{S:Store}{l j r i o:Nat}{p:List (Nat×Nat)}{rs:List (List (List D))}{rows es new:List (List D)}{row:List D}{k:Int}{args:List V}{R:V}
 (hS:aV S (l,j)=some (.xf rs)) (hp:atR rs r p=some rows) (hi:i<rows.length) (h:row[o]? =some (.sl es))
 (hA:∀(S':Store) (rs':List (List (List D))),aV S' (1+l,j)=some (.xf rs')→atR rs' r (p++[(i,o)])=some es→bD P f args S' (fun res BL=>res=R∧BL=bf S' (1+l,j) (.xf (dB rs' r (p++[(i,o)]) new)))):
 bD P f args ([]::bf S (l,j) (.xf (dB rs r p (jC rows k i row)))) (fun res BL=>res=R∧BL=[]::bf S (l,j) (.xf (dB rs r p (jC rows k i (row.set o (.sl new)))))):=by
 refine(hA _ _ (by rw[eY];exact bY _ _ _ _ hS) (aan (k:=k) hp hi h)).mono fun res BL ⟨h1,h2⟩=>⟨h1,?_⟩
 rw[h2,pz,bF,Yn hp hi h]
theorem Na:∀{rows:List (List D)} {n i:Nat} (hi:i<rows.length),(eG rows n)[i]? =some (eB rows[i] (n+jy (rows.take i)))
 |r::rows,n,0,_=>by simp[eG,jy]
 |r::rows,n,i+1,hi=>by
  have:=Na (rows:=rows) (n:=n+oC r) (i:=i) (by simpa using hi)
  rw[eG,List.getElem?_cons_succ,this,List.getElem_cons_succ,List.take_succ_cons,jy,Nat.add_assoc]
theorem Nb:∀row:List D,(row.map C.d).mapM FQ=some row
 |[]=>rfl
 |d::row=>by
  have:=Nb row
  rw[List.map_cons,List.mapM_cons,this];rfl
theorem gU{a:Int}(h:0≤a):decide (a<0)=false:=decide_eq_false (by omega)
end Go.Ab
namespace Go.Proofs.YtlmhknhlmicmeaaGreatDoor
open Go Go.Ab
theorem dw(k:Int)(hk: -9223372036854775808≤k∧k≤4611686018427387904):aI Tryz.prog 181 [.c (.d (.i .i64 k))] (.c (.d (.s (gG k)))):=fun S=>by
 refine aD (rs:=[.tmp 2]) Tryz.checked.mixed Tryz.func181 Tryz.ntmps181 rfl rfl rfl rfl rfl ?_
 simp -implicitDefEqProofs (disch:=omega) only[go_sem]
 with_reducible refine aA (fun hb=> ?_) (fun hb=> ?_)<;>have h:=hb<;>(try simp only[wf_preprocess] at h)<;>simp -implicitDefEqProofs (disch:=omega) only[go_sem,hb]<;>(repeat(with_reducible refine And.intro ?_ ?_;focus first|omega|rfl|assumption|exact⟨_,rfl,rfl⟩|(simp;omega)|(simp;done)))
 ·unfold gG;rw[if_pos h]
 have hpos:¬k≤0:=h
 refine aZ (ι:=Int×List UInt8) Tryz.checked.mixed rfl [0,3] (fun y=>[.c (.d (.i .i64 y.1)),.c (.d (.s y.2))]) (fun _=>[]::S)
  (fun y=>0≤y.1∧Bn y.1.toNat y.2=Bn k.toNat []∧y.1≤k∧y.1.toNat*2^y.2.length≤4611686018427387904∧y.2.length≤63) (fun y=>y.1.toNat) (k,[]) rfl rfl ⟨by simp only;omega,rfl,by simp only;omega,by simp only[List.length_nil];omega,by simp⟩ ?_
 rintro⟨n,out⟩ ⟨p1,p2,p3,p4,p5⟩
 simp only at p1 p2 p3 p4 p5
 simp -implicitDefEqProofs (disch:=omega) only[go_sem]
 with_reducible refine aA (fun hb=> ?_) (fun hb=> ?_)<;>have h:=hb<;>(try simp only[wf_preprocess] at h)<;>simp -implicitDefEqProofs (disch:=omega) only[go_sem,hb]<;>(repeat(with_reducible refine And.intro ?_ ?_;focus first|omega|rfl|assumption|exact⟨_,rfl,rfl⟩|(simp;omega)|(simp;done)))
 ·have hn:n.toNat≠0:=by omega
  have hm:=Int.tmod_nonneg 10 p1
  have hm2:=Int.tmod_lt_of_pos n (show(0:Int)<10 by omega)
  have hm3:n.tmod 10=(n.toNat % 10:Nat):=by
   rw[Int.tmod_eq_emod_of_nonneg p1]
   omega
  have hq:n.tdiv 10=(n.toNat/10:Nat):=by
   rw[Int.tdiv_eq_ediv_of_nonneg p1]
   omega
  have hlen:out.length≤62:=by
   refine Nat.le_of_not_lt fun hgt=> ?_
   have h1:2^63≤2^out.length:=Nat.pow_le_pow_right (by omega) (by omega)
   have h2:1*2^out.length≤n.toNat*2^out.length:=Nat.mul_le_mul_right _ (by omega)
   omega
  simp -implicitDefEqProofs (disch:=omega) only[go_sem]
  have hc:UInt8.ofNat (IntKind.u8.wrap (48+n.tmod 10)).toNat=UInt8.ofNat (48+n.toNat % 10):=by
   rw[wrap_u8 _ (by omega),hm3]
   congr 1
  refine bL (ι:=Int×List UInt8) (n.tdiv 10,UInt8.ofNat (48+n.toNat % 10)::out) (by simp only;omega) (by rw[←hc];rfl) rfl ?_
  have hq2:(n.tdiv 10).toNat=n.toNat/10:=by omega
  refine⟨by simp only;omega,?_,by simp only;omega,?_,by simp only[List.length_cons];omega⟩
  ·simp only
   rw[hq2,←Yk hn,p2]
  ·simp only[List.length_cons]
   rw[hq2,Nat.pow_succ]
   have:n.toNat/10*2≤n.toNat:=by omega
   calc n.toNat/10*(2^out.length*2)=n.toNat/10*2*2^out.length:=by rw[Nat.mul_comm (2^out.length) 2,Nat.mul_assoc]
    _≤n.toNat*2^out.length:=Nat.mul_le_mul_right _ this
    _≤_:=p4
 ·have:n.toNat=0:=by omega
  rw[this,Vf] at p2
  unfold gG
  rw[if_neg hpos,p2]
end Go.Proofs.YtlmhknhlmicmeaaGreatDoor
namespace Go.Ab
theorem tX(xs:List (List UInt8)):iR (xs.map encS)=true:=jA fun _ _=>rfl
theorem tY(xs:List (List UInt8)):jl (xs.map encS)=true:=jB fun _ _=>⟨rfl,by simp[encS]⟩
theorem Bo:∀(xs:List (List UInt8)) (n:Nat),eG (xs.map encS) n=xs.map encS
 |[],_=>rfl
 |x::xs,n=>by rw[List.map_cons,eG,Bo xs];rfl
mutual
theorem aj.eZ:∀x:aj,iD x.enc=true∧iT x.enc=true
 | .mk a0 a1 a2=>by simp only[aj.enc,iD,oM,iT,tV,fP,fQ,Bool.and_true,Bool.true_and,Bool.and_self,and_self,and_true,true_and,(aj.mQ a2).1,(aj.mQ a2).2]
theorem aj.mQ:∀xs:List aj,iR (aj.encs xs)=true∧jl (aj.encs xs)=true
 |[]=>⟨rfl,rfl⟩
 |x::xs=>by
  have h:decide ((aj.enc x).length≤32)=true:=by rw[aj.bH];rfl
  simp only[aj.encs,iR,jl,h,(aj.eZ x).1,(aj.eZ x).2,(aj.mQ xs).1,(aj.mQ xs).2,Bool.and_self,and_self]
end
theorem aj.gK(xs:List aj):iR (xs.map aj.enc)=true∧jl (xs.map aj.enc)=true:=by rw[←aj.iK];exact aj.mQ xs
theorem dn.eZ(x:dn):iD x.enc=true∧iT x.enc=true:=by
 rw[dn.aG];simp only[List.cons_append,List.nil_append,iD,oM,iT,tV,fP,fQ,Bool.and_true,Bool.true_and,Bool.and_self,and_self,and_true,true_and,(aj.eZ x.fType).1,(aj.eZ x.fType).2]
theorem dn.gK(xs:List dn):iR (xs.map dn.enc)=true∧jl (xs.map dn.enc)=true:=⟨jA fun x _=>x.eZ.1,jB fun x _=>⟨x.eZ.2,by rw[dn.bH];decide⟩⟩
theorem aO.eZ(x:aO):iD x.enc=true∧iT x.enc=true:=by
 rw[aO.aG];simp only[List.cons_append,List.nil_append,iD,oM,iT,tV,fP,fQ,Bool.and_true,Bool.true_and,Bool.and_self,and_self,and_true,true_and,(aj.eZ x.fType).1,(aj.eZ x.fType).2]
theorem aO.gK(xs:List aO):iR (xs.map aO.enc)=true∧jl (xs.map aO.enc)=true:=⟨jA fun x _=>x.eZ.1,jB fun x _=>⟨x.eZ.2,by rw[aO.bH];decide⟩⟩
mutual
theorem ay.eZ:∀x:ay,iD x.enc=true∧iT x.enc=true
 | .mk a0 a1 a2 a3 a4 a5 a6=>by simp only[ay.enc,iD,oM,iT,tV,fP,fQ,Bool.and_true,Bool.true_and,Bool.and_self,and_self,and_true,true_and,(aj.eZ a4).1,(aj.eZ a4).2,(ay.mQ a5).1,(ay.mQ a5).2,(aJ.mQ a6).1,(aJ.mQ a6).2]
theorem ay.mQ:∀xs:List ay,iR (ay.encs xs)=true∧jl (ay.encs xs)=true
 |[]=>⟨rfl,rfl⟩
 |x::xs=>by
  have h:decide ((ay.enc x).length≤32)=true:=by rw[ay.bH];rfl
  simp only[ay.encs,iR,jl,h,(ay.eZ x).1,(ay.eZ x).2,(ay.mQ xs).1,(ay.mQ xs).2,Bool.and_self,and_self]
theorem aJ.eZ:∀x:aJ,iD x.enc=true∧iT x.enc=true
 | .mk a0 a1 a2=>by simp only[aJ.enc,iD,oM,iT,tV,fP,fQ,Bool.and_true,Bool.true_and,Bool.and_self,and_self,and_true,true_and,tX a1,tY a1,(ay.eZ a2).1,(ay.eZ a2).2]
theorem aJ.mQ:∀xs:List aJ,iR (aJ.encs xs)=true∧jl (aJ.encs xs)=true
 |[]=>⟨rfl,rfl⟩
 |x::xs=>by
  have h:decide ((aJ.enc x).length≤32)=true:=by rw[aJ.bH];rfl
  simp only[aJ.encs,iR,jl,h,(aJ.eZ x).1,(aJ.eZ x).2,(aJ.mQ xs).1,(aJ.mQ xs).2,Bool.and_self,and_self]
end
theorem ay.gK(xs:List ay):iR (xs.map ay.enc)=true∧jl (xs.map ay.enc)=true:=by rw[←ay.iK];exact ay.mQ xs
theorem aJ.gK(xs:List aJ):iR (xs.map aJ.enc)=true∧jl (xs.map aJ.enc)=true:=by rw[←aJ.iK];exact aJ.mQ xs
mutual
theorem ah.eZ:∀x:ah,iD x.enc=true∧iT x.enc=true
 | .mk a0 a1=>by simp only[ah.enc,iD,oM,iT,tV,fP,fQ,Bool.and_true,Bool.true_and,Bool.and_self,and_self,and_true,true_and,(ah.mQ a1).1,(ah.mQ a1).2]
theorem ah.mQ:∀xs:List ah,iR (ah.encs xs)=true∧jl (ah.encs xs)=true
 |[]=>⟨rfl,rfl⟩
 |x::xs=>by
  have h:decide ((ah.enc x).length≤32)=true:=by rw[ah.bH];rfl
  simp only[ah.encs,iR,jl,h,(ah.eZ x).1,(ah.eZ x).2,(ah.mQ xs).1,(ah.mQ xs).2,Bool.and_self,and_self]
end
theorem ah.gK(xs:List ah):iR (xs.map ah.enc)=true∧jl (xs.map ah.enc)=true:=by rw[←ah.iK];exact ah.mQ xs
theorem bU.eZ(x:bU):iD x.enc=true∧iT x.enc=true:=by
 rw[bU.aG];simp only[List.cons_append,List.nil_append,iD,oM,iT,tV,fP,fQ,Bool.and_true,Bool.true_and,Bool.and_self,and_self,and_true,true_and,(aj.gK x.gM).1,(aj.gK x.gM).2,(aj.eZ x.fG).1,(aj.eZ x.fG).2,tX x.aC,tY x.aC,(ay.eZ x.fBody).1,(ay.eZ x.fBody).2]
theorem bU.gK(xs:List bU):iR (xs.map bU.enc)=true∧jl (xs.map bU.enc)=true:=⟨jA fun x _=>x.eZ.1,jB fun x _=>⟨x.eZ.2,by rw[bU.bH];decide⟩⟩
theorem fA.eZ(x:fA):iD x.enc=true∧iT x.enc=true:=by
 rw[fA.aG];simp only[List.cons_append,List.nil_append,iD,oM,iT,tV,fP,fQ,Bool.and_true,Bool.true_and,Bool.and_self,and_self,and_true,true_and,tX x.lF,tY x.lF,(bU.gK x.mG).1,(bU.gK x.mG).2]
theorem fA.gK(xs:List fA):iR (xs.map fA.enc)=true∧jl (xs.map fA.enc)=true:=⟨jA fun x _=>x.eZ.1,jB fun x _=>⟨x.eZ.2,by rw[fA.bH];decide⟩⟩
theorem bM.eZ(x:bM):iD x.enc=true∧iT x.enc=true:=by
 rw[bM.aG];simp only[List.cons_append,List.nil_append,iD,oM,iT,tV,fP,fQ,Bool.and_true,Bool.true_and,Bool.and_self,and_self,and_true,true_and,(aj.gK x.oz).1,(aj.gK x.oz).2]
theorem bM.gK(xs:List bM):iR (xs.map bM.enc)=true∧jl (xs.map bM.enc)=true:=⟨jA fun x _=>x.eZ.1,jB fun x _=>⟨x.eZ.2,by rw[bM.bH];decide⟩⟩
theorem cK.eZ(x:cK):iD x.enc=true∧iT x.enc=true:=by
 rw[cK.aG];simp only[List.cons_append,List.nil_append,iD,oM,iT,tV,fP,fQ,Bool.and_true,Bool.true_and,Bool.and_self,and_self,and_true,true_and,tX x.aC,tY x.aC,(bM.gK x.jv).1,(bM.gK x.jv).2]
theorem cK.gK(xs:List cK):iR (xs.map cK.enc)=true∧jl (xs.map cK.enc)=true:=⟨jA fun x _=>x.eZ.1,jB fun x _=>⟨x.eZ.2,by rw[cK.bH];decide⟩⟩
theorem aS.eZ(x:aS):iD x.enc=true∧iT x.enc=true:=by
 rw[aS.aG];simp only[List.cons_append,List.nil_append,iD,oM,iT,tV,fP,fQ,Bool.and_true,Bool.true_and,Bool.and_self,and_self,and_true,true_and,tX x.aC,tY x.aC,(ay.eZ x.fBody).1,(ay.eZ x.fBody).2]
theorem aS.gK(xs:List aS):iR (xs.map aS.enc)=true∧jl (xs.map aS.enc)=true:=⟨jA fun x _=>x.eZ.1,jB fun x _=>⟨x.eZ.2,by rw[aS.bH];decide⟩⟩
theorem aT.eZ(x:aT):iD x.enc=true∧iT x.enc=true:=by
 rw[aT.aG];simp only[List.cons_append,List.nil_append,iD,oM,iT,tV,fP,fQ,Bool.and_true,Bool.true_and,Bool.and_self,and_self,and_true,true_and,tX x.aC,tY x.aC,(aj.eZ x.aX).1,(aj.eZ x.aX).2,(aO.gK x.bE).1,(aO.gK x.bE).2,(aj.eZ x.aY).1,(aj.eZ x.aY).2,(aS.gK x.aF).1,(aS.gK x.aF).2]
theorem aT.gK(xs:List aT):iR (xs.map aT.enc)=true∧jl (xs.map aT.enc)=true:=⟨jA fun x _=>x.eZ.1,jB fun x _=>⟨x.eZ.2,by rw[aT.bH];decide⟩⟩
theorem dX.eZ(x:dX):iD x.enc=true∧iT x.enc=true:=by
 rw[dX.aG];simp only[List.cons_append,List.nil_append,iD,oM,iT,tV,fP,fQ,Bool.and_true,Bool.true_and,Bool.and_self,and_self,and_true,true_and,(aj.eZ x.fType).1,(aj.eZ x.fType).2]
theorem dX.gK(xs:List dX):iR (xs.map dX.enc)=true∧jl (xs.map dX.enc)=true:=⟨jA fun x _=>x.eZ.1,jB fun x _=>⟨x.eZ.2,by rw[dX.bH];decide⟩⟩
theorem bW.eZ(x:bW):iD x.enc=true∧iT x.enc=true:=by
 rw[bW.aG];simp only[List.cons_append,List.nil_append,iD,oM,iT,tV,fP,fQ,Bool.and_true,Bool.true_and,Bool.and_self,and_self,and_true,true_and,tX x.aC,tY x.aC,(aO.gK x.bE).1,(aO.gK x.bE).2,(dX.gK x.gM).1,(dX.gK x.gM).2,(aj.eZ x.fG).1,(aj.eZ x.fG).2,(ay.eZ x.fBody).1,(ay.eZ x.fBody).2]
theorem bW.gK(xs:List bW):iR (xs.map bW.enc)=true∧jl (xs.map bW.enc)=true:=⟨jA fun x _=>x.eZ.1,jB fun x _=>⟨x.eZ.2,by rw[bW.bH];decide⟩⟩
theorem dL.eZ(x:dL):iD x.enc=true∧iT x.enc=true:=by
 rw[dL.aG];simp only[List.cons_append,List.nil_append,iD,oM,iT,tV,fP,fQ,Bool.and_true,Bool.true_and,Bool.and_self,and_self,and_true,true_and,tX x.za,tY x.za,(fA.gK x.tK).1,(fA.gK x.tK).2,(cK.gK x.nJ).1,(cK.gK x.nJ).2,(aT.gK x.nK).1,(aT.gK x.nK).2,(bW.gK x.nL).1,(bW.gK x.nL).2]
theorem dL.gK(xs:List dL):iR (xs.map dL.enc)=true∧jl (xs.map dL.enc)=true:=⟨jA fun x _=>x.eZ.1,jB fun x _=>⟨x.eZ.2,by rw[dL.bH];decide⟩⟩
theorem eT.eZ(x:eT):iD x.enc=true∧iT x.enc=true:=by
 rw[eT.aG];simp only[List.cons_append,List.nil_append,iD,oM,iT,tV,fP,fQ,Bool.and_true,Bool.true_and,Bool.and_self,and_self,and_true,true_and,(dL.gK x.oL).1,(dL.gK x.oL).2]
theorem eT.gK(xs:List eT):iR (xs.map eT.enc)=true∧jl (xs.map eT.enc)=true:=⟨jA fun x _=>x.eZ.1,jB fun x _=>⟨x.eZ.2,by rw[eT.bH];decide⟩⟩
theorem cB.eZ(x:cB):iD x.enc=true∧iT x.enc=true:=by
 rw[cB.aG];simp only[List.cons_append,List.nil_append,iD,oM,iT,tV,fP,fQ,Bool.and_true,Bool.true_and,Bool.and_self,and_self,and_true,true_and]
theorem cB.gK(xs:List cB):iR (xs.map cB.enc)=true∧jl (xs.map cB.enc)=true:=⟨jA fun x _=>x.eZ.1,jB fun x _=>⟨x.eZ.2,by rw[cB.bH];decide⟩⟩
end Go.Ab
namespace Go.Proofs.YtlmhknhlmicmeaaGreatDoor
open Go Go.Ab
theorem GH:∀n:Nat,(∀x:aj,SizeOf.sizeOf x<n→∀y:aj,x.sz≤1048576→aI Tryz.prog 100 [x.v,y.v] (.c (.d (.b (dec (x=y))))))∧
 (∀xs:List aj,SizeOf.sizeOf xs<n→∀ys:List aj,xs.length+bG (xs.map aj.enc)≤1048576→aI Tryz.prog 192 [.c (.d (.sl (xs.map aj.enc))),.c (.d (.sl (ys.map aj.enc)))] (.c (.d (.b (dec (xs=ys))))))
 |0=>⟨fun x h=>by omega,fun x h=>by omega⟩
 |n+1=>by
  obtain⟨CP,aao⟩:=GH n
  refine⟨fun x hn y hsz S=> ?_,fun xs hn ys hsz S=> ?_⟩
  ·have iF:=aj.fF x
   simp only[aj.sz,aj.aG,bQ,bP,D.sz,List.length_map] at hsz
   refine aD (rs:=[.tmp 4]) Tryz.checked.mixed Tryz.func100 Tryz.ntmps100 rfl rfl rfl rfl rfl ?_
   simp -implicitDefEqProofs (disch:=omega) only[go_sem]
   with_reducible refine aA (fun hb=> ?_) (fun hb=> ?_)<;>have h:=hb<;>(try simp only[wf_preprocess] at h)<;>simp -implicitDefEqProofs (disch:=omega) only[go_sem,hb]<;>(repeat(with_reducible refine And.intro ?_ ?_;focus first|omega|rfl|assumption|exact⟨_,rfl,rfl⟩|(simp;omega)|(simp;done)))
   ·exact aK (aQ (fun e=>h (by rw[e]))).symm
   have Sr:=h
   clear h
   with_reducible refine aA (fun hb=> ?_) (fun hb=> ?_)<;>have h:=hb<;>(try simp only[wf_preprocess] at h)<;>simp -implicitDefEqProofs (disch:=omega) only[go_sem,hb]<;>(repeat(with_reducible refine And.intro ?_ ?_;focus first|omega|rfl|assumption|exact⟨_,rfl,rfl⟩|(simp;omega)|(simp;done)))
   ·exact aK (aQ (fun e=>h (by rw[e]))).symm
   have GI:=h
   clear h
   refine au (aao x.fArgs (by omega) _ (by omega)) ?_
   simp -implicitDefEqProofs (disch:=omega) only[go_sem]
   with_reducible refine aA (fun hb=> ?_) (fun hb=> ?_)<;>have h:=hb<;>(try simp only[wf_preprocess] at h)<;>simp -implicitDefEqProofs (disch:=omega) only[go_sem,hb]<;>(repeat(with_reducible refine And.intro ?_ ?_;focus first|omega|rfl|assumption|exact⟨_,rfl,rfl⟩|(simp;omega)|(simp;done)))
   ·exact aK (aQ (fun e=>h (by rw[e]))).symm
   have eArgs:=h
   clear h
   exact aK (bK (aj.ext Sr GI eArgs)).symm
  ·refine aD (rs:=[.tmp 4]) Tryz.checked.mixed Tryz.func192 Tryz.ntmps192 rfl rfl rfl rfl rfl ?_
   simp -implicitDefEqProofs (disch:=omega) only[go_sem]
   with_reducible refine aA (fun hb=> ?_) (fun hb=> ?_)<;>have h:=hb<;>(try simp only[wf_preprocess] at h)<;>simp -implicitDefEqProofs (disch:=omega) only[go_sem,hb]<;>(repeat(with_reducible refine And.intro ?_ ?_;focus first|omega|rfl|assumption|exact⟨_,rfl,rfl⟩|(simp;omega)|(simp;done)))
   ·exact aK (aQ (fun e=>h (by rw[e]))).symm
   have hl:xs.length=ys.length:=by omega
   refine aZ (ι:=Nat) Tryz.checked.mixed rfl [0,1,5] (fun y=>[.c (.d (.sl (xs.map aj.enc))),.c (.d (.sl (ys.map aj.enc))),.c (.d (.i .i64 y))]) (fun y=>[]::S)
    (fun i=>i≤xs.length∧∀j,j<i→xs[j]? =ys[j]?) (fun y=>xs.length-y) 0 rfl rfl ⟨Nat.zero_le _,fun j h=>by omega⟩ ?_
   rintro i ⟨p1,p2⟩
   simp -implicitDefEqProofs (disch:=omega) only[go_sem]
   with_reducible refine aA (fun hb=> ?_) (fun hb=> ?_)<;>have h:=hb<;>(try simp only[wf_preprocess] at h)<;>simp -implicitDefEqProofs (disch:=omega) only[go_sem,hb]<;>(repeat(with_reducible refine And.intro ?_ ?_;focus first|omega|rfl|assumption|exact⟨_,rfl,rfl⟩|(simp;omega)|(simp;done)))
   ·have hi:i<xs.length:=by omega
    have hi':i<ys.length:=by omega
    have hx:xs[i].sz≤bG (xs.map aj.enc):=eP (List.mem_map_of_mem (List.getElem_mem hi))
    (repeat(with_reducible refine And.intro ?_ ?_;focus first|omega|rfl|assumption|exact⟨_,rfl,rfl⟩|(simp;omega)|(simp;done)))
    refine au (CP xs[i] (by have:=List.sizeOf_lt_of_mem (List.getElem_mem hi);omega) ys[i] (by omega)) ?_
    simp -implicitDefEqProofs (disch:=omega) only[go_sem]
    with_reducible refine aA (fun hb=> ?_) (fun hb=> ?_)<;>have h:=hb<;>(try simp only[wf_preprocess] at h)<;>simp -implicitDefEqProofs (disch:=omega) only[go_sem,hb]<;>(repeat(with_reducible refine And.intro ?_ ?_;focus first|omega|rfl|assumption|exact⟨_,rfl,rfl⟩|(simp;omega)|(simp;done)))
    ·exact aK (aQ (fun e=>h (by simp only[e]))).symm
    refine bL (i+1) (by omega) rfl rfl ⟨by omega,fun j hj=> ?_⟩
    by_cases e:j=i
    ·subst e
     rw[List.getElem?_eq_getElem hi,List.getElem?_eq_getElem hi',h]
    ·exact p2 j (by omega)
   ·have hi:i=xs.length:=by omega
    refine aK (bK (List.ext_getElem? fun j=> ?_)).symm
    by_cases hj:j<i
    ·exact p2 j hj
    ·rw[List.getElem?_eq_none (by omega),List.getElem?_eq_none (by omega)]
theorem zk(x:aj):∀y:aj,x.sz≤1048576→aI Tryz.prog 100 [x.v,y.v] (.c (.d (.b (dec (x=y))))):=(GH _).1 x (Nat.lt_succ_self _)
end Go.Proofs.YtlmhknhlmicmeaaGreatDoor
namespace Go.Proofs.YtlmhknhlmicmeaaGreatDoor
open Go Go.Ab
end Go.Proofs.YtlmhknhlmicmeaaGreatDoor
namespace Go.Proofs.YtlmhknhlmicmeaaGreatDoor
open Go Go.Ab
theorem Sv(x:aO):∀y:aO,x.sz≤1048576→aI Tryz.prog 229 [x.v,y.v] (.c (.d (.b (dec (x=y))))):=by
 intro y hsz S
 simp only[aO.sz,aO.aG,bQ,bP,D.sz,List.length_map,aj.dP] at hsz
 refine aD (rs:=[.tmp 4]) Tryz.checked.mixed Tryz.func229 Tryz.ntmps229 rfl rfl rfl rfl rfl ?_
 simp -implicitDefEqProofs (disch:=omega) only[go_sem]
 with_reducible refine aA (fun hb=> ?_) (fun hb=> ?_)<;>have h:=hb<;>(try simp only[wf_preprocess] at h)<;>simp -implicitDefEqProofs (disch:=omega) only[go_sem,hb]<;>(repeat(with_reducible refine And.intro ?_ ?_;focus first|omega|rfl|assumption|exact⟨_,rfl,rfl⟩|(simp;omega)|(simp;done)))
 ·exact aK (aQ (fun e=>h (by rw[e]))).symm
 have CQ:=h
 clear h
 refine au (zk x.fType _ (by omega)) ?_
 simp -implicitDefEqProofs (disch:=omega) only[go_sem]
 with_reducible refine aA (fun hb=> ?_) (fun hb=> ?_)<;>have h:=hb<;>(try simp only[wf_preprocess] at h)<;>simp -implicitDefEqProofs (disch:=omega) only[go_sem,hb]<;>(repeat(with_reducible refine And.intro ?_ ?_;focus first|omega|rfl|assumption|exact⟨_,rfl,rfl⟩|(simp;omega)|(simp;done)))
 ·exact aK (aQ (fun e=>h (by rw[e]))).symm
 have eType:=h
 clear h
 exact aK (bK (aO.ext' CQ eType)).symm
theorem Pk(xs:List aO):∀ys:List aO,xs.length+bG (xs.map aO.enc)≤1048576→aI Tryz.prog 128 [.c (.d (.sl (xs.map aO.enc))),.c (.d (.sl (ys.map aO.enc)))] (.c (.d (.b (dec (xs=ys))))):=by
 intro ys hsz S
 refine aD (rs:=[.tmp 4]) Tryz.checked.mixed Tryz.func128 Tryz.ntmps128 rfl rfl rfl rfl rfl ?_
 simp -implicitDefEqProofs (disch:=omega) only[go_sem]
 with_reducible refine aA (fun hb=> ?_) (fun hb=> ?_)<;>have h:=hb<;>(try simp only[wf_preprocess] at h)<;>simp -implicitDefEqProofs (disch:=omega) only[go_sem,hb]<;>(repeat(with_reducible refine And.intro ?_ ?_;focus first|omega|rfl|assumption|exact⟨_,rfl,rfl⟩|(simp;omega)|(simp;done)))
 ·exact aK (aQ (fun e=>h (by rw[e]))).symm
 have hl:xs.length=ys.length:=by omega
 refine aZ (ι:=Nat) Tryz.checked.mixed rfl [0,1,5] (fun y=>[.c (.d (.sl (xs.map aO.enc))),.c (.d (.sl (ys.map aO.enc))),.c (.d (.i .i64 y))]) (fun y=>[]::S)
  (fun i=>i≤xs.length∧∀j,j<i→xs[j]? =ys[j]?) (fun y=>xs.length-y) 0 rfl rfl ⟨Nat.zero_le _,fun j h=>by omega⟩ ?_
 rintro i ⟨p1,p2⟩
 simp -implicitDefEqProofs (disch:=omega) only[go_sem]
 with_reducible refine aA (fun hb=> ?_) (fun hb=> ?_)<;>have h:=hb<;>(try simp only[wf_preprocess] at h)<;>simp -implicitDefEqProofs (disch:=omega) only[go_sem,hb]<;>(repeat(with_reducible refine And.intro ?_ ?_;focus first|omega|rfl|assumption|exact⟨_,rfl,rfl⟩|(simp;omega)|(simp;done)))
 ·have hi:i<xs.length:=by omega
  have hi':i<ys.length:=by omega
  have hx:xs[i].sz≤bG (xs.map aO.enc):=eP (List.mem_map_of_mem (List.getElem_mem hi))
  (repeat(with_reducible refine And.intro ?_ ?_;focus first|omega|rfl|assumption|exact⟨_,rfl,rfl⟩|(simp;omega)|(simp;done)))
  refine au (Sv xs[i] ys[i] (by omega)) ?_
  simp -implicitDefEqProofs (disch:=omega) only[go_sem]
  with_reducible refine aA (fun hb=> ?_) (fun hb=> ?_)<;>have h:=hb<;>(try simp only[wf_preprocess] at h)<;>simp -implicitDefEqProofs (disch:=omega) only[go_sem,hb]<;>(repeat(with_reducible refine And.intro ?_ ?_;focus first|omega|rfl|assumption|exact⟨_,rfl,rfl⟩|(simp;omega)|(simp;done)))
  ·exact aK (aQ (fun e=>h (by simp only[e]))).symm
  refine bL (i+1) (by omega) rfl rfl ⟨by omega,fun j hj=> ?_⟩
  by_cases e:j=i
  ·subst e
   rw[List.getElem?_eq_getElem hi,List.getElem?_eq_getElem hi',h]
  ·exact p2 j (by omega)
 ·have hi:i=xs.length:=by omega
  refine aK (bK (List.ext_getElem? fun j=> ?_)).symm
  by_cases hj:j<i
  ·exact p2 j hj
  ·rw[List.getElem?_eq_none (by omega),List.getElem?_eq_none (by omega)]
end Go.Proofs.YtlmhknhlmicmeaaGreatDoor
namespace Go.Proofs.YtlmhknhlmicmeaaGreatDoor
open Go Go.Ab
theorem GJ:∀n:Nat,(∀x:ay,SizeOf.sizeOf x<n→∀y:ay,x.sz≤1048576→aI Tryz.prog 23 [x.v,y.v] (.c (.d (.b (dec (x=y))))))∧
 (∀xs:List ay,SizeOf.sizeOf xs<n→∀ys:List ay,xs.length+bG (xs.map ay.enc)≤1048576→aI Tryz.prog 101 [.c (.d (.sl (xs.map ay.enc))),.c (.d (.sl (ys.map ay.enc)))] (.c (.d (.b (dec (xs=ys))))))∧
 (∀x:aJ,SizeOf.sizeOf x<n→∀y:aJ,x.sz≤1048576→aI Tryz.prog 193 [x.v,y.v] (.c (.d (.b (dec (x=y))))))∧
 (∀xs:List aJ,SizeOf.sizeOf xs<n→∀ys:List aJ,xs.length+bG (xs.map aJ.enc)≤1048576→aI Tryz.prog 102 [.c (.d (.sl (xs.map aJ.enc))),.c (.d (.sl (ys.map aJ.enc)))] (.c (.d (.b (dec (xs=ys))))))
 |0=>⟨fun x h=>by omega,fun x h=>by omega,fun x h=>by omega,fun x h=>by omega⟩
 |n+1=>by
  obtain⟨wI,oH,Bp,abX⟩:=GJ n
  refine⟨fun x hn y hsz S=> ?_,fun xs hn ys hsz S=> ?_,fun x hn y hsz S=> ?_,fun xs hn ys hsz S=> ?_⟩
  ·have iF:=ay.fF x
   have zl:=ay.mK x
   simp only[ay.sz,ay.aG,bQ,bP,D.sz,List.length_map,aj.dP] at hsz
   refine aD (rs:=[.tmp 4]) Tryz.checked.mixed Tryz.func23 Tryz.ntmps23 rfl rfl rfl rfl rfl ?_
   simp -implicitDefEqProofs (disch:=omega) only[go_sem]
   with_reducible refine aA (fun hb=> ?_) (fun hb=> ?_)<;>have h:=hb<;>(try simp only[wf_preprocess] at h)<;>simp -implicitDefEqProofs (disch:=omega) only[go_sem,hb]<;>(repeat(with_reducible refine And.intro ?_ ?_;focus first|omega|rfl|assumption|exact⟨_,rfl,rfl⟩|(simp;omega)|(simp;done)))
   ·exact aK (aQ (fun e=>h (by rw[e]))).symm
   have Sr:=h
   clear h
   with_reducible refine aA (fun hb=> ?_) (fun hb=> ?_)<;>have h:=hb<;>(try simp only[wf_preprocess] at h)<;>simp -implicitDefEqProofs (disch:=omega) only[go_sem,hb]<;>(repeat(with_reducible refine And.intro ?_ ?_;focus first|omega|rfl|assumption|exact⟨_,rfl,rfl⟩|(simp;omega)|(simp;done)))
   ·exact aK (aQ (fun e=>h (by rw[e]))).symm
   have CQ:=h
   clear h
   with_reducible refine aA (fun hb=> ?_) (fun hb=> ?_)<;>have h:=hb<;>(try simp only[wf_preprocess] at h)<;>simp -implicitDefEqProofs (disch:=omega) only[go_sem,hb]<;>(repeat(with_reducible refine And.intro ?_ ?_;focus first|omega|rfl|assumption|exact⟨_,rfl,rfl⟩|(simp;omega)|(simp;done)))
   ·exact aK (aQ (fun e=>h (by rw[e]))).symm
   have GI:=h
   clear h
   with_reducible refine aA (fun hb=> ?_) (fun hb=> ?_)<;>have h:=hb<;>(try simp only[wf_preprocess] at h)<;>simp -implicitDefEqProofs (disch:=omega) only[go_sem,hb]<;>(repeat(with_reducible refine And.intro ?_ ?_;focus first|omega|rfl|assumption|exact⟨_,rfl,rfl⟩|(simp;omega)|(simp;done)))
   ·exact aK (aQ (fun e=>h (by rw[e]))).symm
   have eN:=h
   clear h
   refine au (zk x.fType _ (by omega)) ?_
   simp -implicitDefEqProofs (disch:=omega) only[go_sem]
   with_reducible refine aA (fun hb=> ?_) (fun hb=> ?_)<;>have h:=hb<;>(try simp only[wf_preprocess] at h)<;>simp -implicitDefEqProofs (disch:=omega) only[go_sem,hb]<;>(repeat(with_reducible refine And.intro ?_ ?_;focus first|omega|rfl|assumption|exact⟨_,rfl,rfl⟩|(simp;omega)|(simp;done)))
   ·exact aK (aQ (fun e=>h (by rw[e]))).symm
   have eType:=h
   clear h
   refine au (oH x.fArgs (by omega) _ (by omega)) ?_
   simp -implicitDefEqProofs (disch:=omega) only[go_sem]
   with_reducible refine aA (fun hb=> ?_) (fun hb=> ?_)<;>have h:=hb<;>(try simp only[wf_preprocess] at h)<;>simp -implicitDefEqProofs (disch:=omega) only[go_sem,hb]<;>(repeat(with_reducible refine And.intro ?_ ?_;focus first|omega|rfl|assumption|exact⟨_,rfl,rfl⟩|(simp;omega)|(simp;done)))
   ·exact aK (aQ (fun e=>h (by rw[e]))).symm
   have eArgs:=h
   clear h
   refine au (abX x.aL (by omega) _ (by omega)) ?_
   simp -implicitDefEqProofs (disch:=omega) only[go_sem]
   with_reducible refine aA (fun hb=> ?_) (fun hb=> ?_)<;>have h:=hb<;>(try simp only[wf_preprocess] at h)<;>simp -implicitDefEqProofs (disch:=omega) only[go_sem,hb]<;>(repeat(with_reducible refine And.intro ?_ ?_;focus first|omega|rfl|assumption|exact⟨_,rfl,rfl⟩|(simp;omega)|(simp;done)))
   ·exact aK (aQ (fun e=>h (by rw[e]))).symm
   have aes:=h
   clear h
   exact aK (bK (ay.ext Sr CQ GI eN eType eArgs aes)).symm
  ·refine aD (rs:=[.tmp 4]) Tryz.checked.mixed Tryz.func101 Tryz.ntmps101 rfl rfl rfl rfl rfl ?_
   simp -implicitDefEqProofs (disch:=omega) only[go_sem]
   with_reducible refine aA (fun hb=> ?_) (fun hb=> ?_)<;>have h:=hb<;>(try simp only[wf_preprocess] at h)<;>simp -implicitDefEqProofs (disch:=omega) only[go_sem,hb]<;>(repeat(with_reducible refine And.intro ?_ ?_;focus first|omega|rfl|assumption|exact⟨_,rfl,rfl⟩|(simp;omega)|(simp;done)))
   ·exact aK (aQ (fun e=>h (by rw[e]))).symm
   have hl:xs.length=ys.length:=by omega
   refine aZ (ι:=Nat) Tryz.checked.mixed rfl [0,1,5] (fun y=>[.c (.d (.sl (xs.map ay.enc))),.c (.d (.sl (ys.map ay.enc))),.c (.d (.i .i64 y))]) (fun y=>[]::S)
    (fun i=>i≤xs.length∧∀j,j<i→xs[j]? =ys[j]?) (fun y=>xs.length-y) 0 rfl rfl ⟨Nat.zero_le _,fun j h=>by omega⟩ ?_
   rintro i ⟨p1,p2⟩
   simp -implicitDefEqProofs (disch:=omega) only[go_sem]
   with_reducible refine aA (fun hb=> ?_) (fun hb=> ?_)<;>have h:=hb<;>(try simp only[wf_preprocess] at h)<;>simp -implicitDefEqProofs (disch:=omega) only[go_sem,hb]<;>(repeat(with_reducible refine And.intro ?_ ?_;focus first|omega|rfl|assumption|exact⟨_,rfl,rfl⟩|(simp;omega)|(simp;done)))
   ·have hi:i<xs.length:=by omega
    have hi':i<ys.length:=by omega
    have hx:xs[i].sz≤bG (xs.map ay.enc):=eP (List.mem_map_of_mem (List.getElem_mem hi))
    (repeat(with_reducible refine And.intro ?_ ?_;focus first|omega|rfl|assumption|exact⟨_,rfl,rfl⟩|(simp;omega)|(simp;done)))
    refine au (wI xs[i] (by have:=List.sizeOf_lt_of_mem (List.getElem_mem hi);omega) ys[i] (by omega)) ?_
    simp -implicitDefEqProofs (disch:=omega) only[go_sem]
    with_reducible refine aA (fun hb=> ?_) (fun hb=> ?_)<;>have h:=hb<;>(try simp only[wf_preprocess] at h)<;>simp -implicitDefEqProofs (disch:=omega) only[go_sem,hb]<;>(repeat(with_reducible refine And.intro ?_ ?_;focus first|omega|rfl|assumption|exact⟨_,rfl,rfl⟩|(simp;omega)|(simp;done)))
    ·exact aK (aQ (fun e=>h (by simp only[e]))).symm
    refine bL (i+1) (by omega) rfl rfl ⟨by omega,fun j hj=> ?_⟩
    by_cases e:j=i
    ·subst e
     rw[List.getElem?_eq_getElem hi,List.getElem?_eq_getElem hi',h]
    ·exact p2 j (by omega)
   ·have hi:i=xs.length:=by omega
    refine aK (bK (List.ext_getElem? fun j=> ?_)).symm
    by_cases hj:j<i
    ·exact p2 j hj
    ·rw[List.getElem?_eq_none (by omega),List.getElem?_eq_none (by omega)]
  ·have ag3:=aJ.lU x
   simp only[aJ.sz,aJ.aG,bQ,bP,D.sz,List.length_map,ay.dP] at hsz
   refine aD (rs:=[.tmp 4]) Tryz.checked.mixed Tryz.func193 Tryz.ntmps193 rfl rfl rfl rfl rfl ?_
   simp -implicitDefEqProofs (disch:=omega) only[go_sem]
   with_reducible refine aA (fun hb=> ?_) (fun hb=> ?_)<;>have h:=hb<;>(try simp only[wf_preprocess] at h)<;>simp -implicitDefEqProofs (disch:=omega) only[go_sem,hb]<;>(repeat(with_reducible refine And.intro ?_ ?_;focus first|omega|rfl|assumption|exact⟨_,rfl,rfl⟩|(simp;omega)|(simp;done)))
   ·exact aK (aQ (fun e=>h (by rw[e]))).symm
   have Nc:=h
   clear h
   refine au (yJ x.aC _ (by omega)) ?_
   simp -implicitDefEqProofs (disch:=omega) only[go_sem]
   with_reducible refine aA (fun hb=> ?_) (fun hb=> ?_)<;>have h:=hb<;>(try simp only[wf_preprocess] at h)<;>simp -implicitDefEqProofs (disch:=omega) only[go_sem,hb]<;>(repeat(with_reducible refine And.intro ?_ ?_;focus first|omega|rfl|assumption|exact⟨_,rfl,rfl⟩|(simp;omega)|(simp;done)))
   ·exact aK (aQ (fun e=>h (by rw[e]))).symm
   have GK:=h
   clear h
   refine au (wI x.fBody (by omega) _ (by omega)) ?_
   simp -implicitDefEqProofs (disch:=omega) only[go_sem]
   with_reducible refine aA (fun hb=> ?_) (fun hb=> ?_)<;>have h:=hb<;>(try simp only[wf_preprocess] at h)<;>simp -implicitDefEqProofs (disch:=omega) only[go_sem,hb]<;>(repeat(with_reducible refine And.intro ?_ ?_;focus first|omega|rfl|assumption|exact⟨_,rfl,rfl⟩|(simp;omega)|(simp;done)))
   ·exact aK (aQ (fun e=>h (by rw[e]))).symm
   have Sw:=h
   clear h
   exact aK (bK (aJ.ext Nc GK Sw)).symm
  ·refine aD (rs:=[.tmp 4]) Tryz.checked.mixed Tryz.func102 Tryz.ntmps102 rfl rfl rfl rfl rfl ?_
   simp -implicitDefEqProofs (disch:=omega) only[go_sem]
   with_reducible refine aA (fun hb=> ?_) (fun hb=> ?_)<;>have h:=hb<;>(try simp only[wf_preprocess] at h)<;>simp -implicitDefEqProofs (disch:=omega) only[go_sem,hb]<;>(repeat(with_reducible refine And.intro ?_ ?_;focus first|omega|rfl|assumption|exact⟨_,rfl,rfl⟩|(simp;omega)|(simp;done)))
   ·exact aK (aQ (fun e=>h (by rw[e]))).symm
   have hl:xs.length=ys.length:=by omega
   refine aZ (ι:=Nat) Tryz.checked.mixed rfl [0,1,5] (fun y=>[.c (.d (.sl (xs.map aJ.enc))),.c (.d (.sl (ys.map aJ.enc))),.c (.d (.i .i64 y))]) (fun y=>[]::S)
    (fun i=>i≤xs.length∧∀j,j<i→xs[j]? =ys[j]?) (fun y=>xs.length-y) 0 rfl rfl ⟨Nat.zero_le _,fun j h=>by omega⟩ ?_
   rintro i ⟨p1,p2⟩
   simp -implicitDefEqProofs (disch:=omega) only[go_sem]
   with_reducible refine aA (fun hb=> ?_) (fun hb=> ?_)<;>have h:=hb<;>(try simp only[wf_preprocess] at h)<;>simp -implicitDefEqProofs (disch:=omega) only[go_sem,hb]<;>(repeat(with_reducible refine And.intro ?_ ?_;focus first|omega|rfl|assumption|exact⟨_,rfl,rfl⟩|(simp;omega)|(simp;done)))
   ·have hi:i<xs.length:=by omega
    have hi':i<ys.length:=by omega
    have hx:xs[i].sz≤bG (xs.map aJ.enc):=eP (List.mem_map_of_mem (List.getElem_mem hi))
    (repeat(with_reducible refine And.intro ?_ ?_;focus first|omega|rfl|assumption|exact⟨_,rfl,rfl⟩|(simp;omega)|(simp;done)))
    refine au (Bp xs[i] (by have:=List.sizeOf_lt_of_mem (List.getElem_mem hi);omega) ys[i] (by omega)) ?_
    simp -implicitDefEqProofs (disch:=omega) only[go_sem]
    with_reducible refine aA (fun hb=> ?_) (fun hb=> ?_)<;>have h:=hb<;>(try simp only[wf_preprocess] at h)<;>simp -implicitDefEqProofs (disch:=omega) only[go_sem,hb]<;>(repeat(with_reducible refine And.intro ?_ ?_;focus first|omega|rfl|assumption|exact⟨_,rfl,rfl⟩|(simp;omega)|(simp;done)))
    ·exact aK (aQ (fun e=>h (by simp only[e]))).symm
    refine bL (i+1) (by omega) rfl rfl ⟨by omega,fun j hj=> ?_⟩
    by_cases e:j=i
    ·subst e
     rw[List.getElem?_eq_getElem hi,List.getElem?_eq_getElem hi',h]
    ·exact p2 j (by omega)
   ·have hi:i=xs.length:=by omega
    refine aK (bK (List.ext_getElem? fun j=> ?_)).symm
    by_cases hj:j<i
    ·exact p2 j hj
    ·rw[List.getElem?_eq_none (by omega),List.getElem?_eq_none (by omega)]
theorem Vh(x:ay):∀y:ay,x.sz≤1048576→aI Tryz.prog 23 [x.v,y.v] (.c (.d (.b (dec (x=y))))):=(GJ _).1 x (Nat.lt_succ_self _)
end Go.Proofs.YtlmhknhlmicmeaaGreatDoor
namespace Go.Proofs.YtlmhknhlmicmeaaGreatDoor
open Go Go.Ab
theorem EH:∀n:Nat,(∀x:ah,SizeOf.sizeOf x<n→∀left:Int,0≤left→left≤1048576→rW x.enc→aI Tryz.prog 26 [x.v,.c (.d (.i .i64 left))] (.c (.d (.i .i64 (iJ left x.sz)))))∧
 (∀xs:List ah,SizeOf.sizeOf xs<n→∀left:Int,0≤left→left≤1048576→(D.sl (xs.map ah.enc)).Fit→aI Tryz.prog 103 [.c (.d (.sl (xs.map ah.enc))),.c (.d (.i .i64 left))] (.c (.d (.i .i64 (iJ left (xs.length+bG (xs.map ah.enc)))))))
 |0=>⟨fun x h=>by omega,fun x h=>by omega⟩
 |n+1=>by
  obtain⟨oH,sS⟩:=EH n
  refine⟨fun x hn left h0 h1 hf S=> ?_,fun xs hn left h0 h1 hf S=> ?_⟩
  ·have GL:=ah.kV x
   simp only[ah.aG,List.cons_append,List.nil_append,wF,EA,MJ,and_true] at hf
   obtain⟨aU,ak⟩:=hf
   have hz:x.sz=x.aU.length+((x.ak.length+bG (x.ak.map ah.enc))):=by
    simp only[ah.sz,ah.aG,bQ,bP,D.sz,List.length_map,Nat.add_zero,Nat.zero_add]<;>omega
   refine aD (rs:=[.tmp 4]) Tryz.checked.mixed Tryz.func26 Tryz.ntmps26 rfl rfl rfl rfl rfl ?_
   rw[hz]
   have ag4:=ac2 aU
   simp -implicitDefEqProofs (disch:=omega) only[go_sem]
   with_reducible refine aA (fun hb=> ?_) (fun hb=> ?_)<;>have h:=hb<;>(try simp only[wf_preprocess] at h)<;>simp -implicitDefEqProofs (disch:=omega) only[go_sem,hb]<;>(repeat(with_reducible refine And.intro ?_ ?_;focus first|omega|rfl|assumption|exact⟨_,rfl,rfl⟩|(simp;omega)|(simp;done)))
   ·exact int_eq (tJ (by omega)).symm
   refine au (sS x.ak (by omega) _ (by omega) (by omega) ak) ?_
   simp -implicitDefEqProofs (disch:=omega) only[go_sem]
   with_reducible refine aA (fun hb=> ?_) (fun hb=> ?_)<;>have h:=hb<;>(try simp only[wf_preprocess] at h)<;>simp -implicitDefEqProofs (disch:=omega) only[go_sem,hb]<;>(repeat(with_reducible refine And.intro ?_ ?_;focus first|omega|rfl|assumption|exact⟨_,rfl,rfl⟩|(simp;omega)|(simp;done)))
   ·have h':=vB h
    exact int_eq (tJ (by omega)).symm
   have aeu:=vw h
   simp only[aeu.1]
   refine int_eq ?_
   rw[Bg (by omega)]
   omega
  ·obtain⟨hf1,hf2⟩:=abK hf
   rw[List.length_map] at hf1
   refine aD (rs:=[.tmp 4]) Tryz.checked.mixed Tryz.func103 Tryz.ntmps103 rfl rfl rfl rfl rfl ?_
   simp -implicitDefEqProofs (disch:=omega) only[go_sem]
   with_reducible refine aA (fun hb=> ?_) (fun hb=> ?_)<;>have h:=hb<;>(try simp only[wf_preprocess] at h)<;>simp -implicitDefEqProofs (disch:=omega) only[go_sem,hb]<;>(repeat(with_reducible refine And.intro ?_ ?_;focus first|omega|rfl|assumption|exact⟨_,rfl,rfl⟩|(simp;omega)|(simp;done)))
   ·exact int_eq (tJ (by omega)).symm
   refine aZ (ι:=Nat×Int) Tryz.checked.mixed rfl [0,1,5] (fun y=>[.c (.d (.sl (xs.map ah.enc))),.c (.d (.i .i64 y.2)),.c (.d (.i .i64 y.1))]) (fun _=>[]::S)
    (fun y=>y.1≤xs.length∧0≤y.2∧y.2≤1048576∧iJ y.2 (bG ((xs.map ah.enc).drop y.1))=iJ left (xs.length+bG (xs.map ah.enc))) (fun y=>xs.length-y.1) (0,left-xs.length) rfl rfl ⟨by omega,by omega,by omega,?_⟩ ?_
   ·unfold iJ
    rw[List.drop_zero]
    split<;>split<;>omega
   rintro⟨i,l⟩ ⟨p1,p2,p3,p4⟩
   simp only at p1 p2 p3 p4
   simp -implicitDefEqProofs (disch:=omega) only[go_sem]
   with_reducible refine aA (fun hb=> ?_) (fun hb=> ?_)<;>have h:=hb<;>(try simp only[wf_preprocess] at h)<;>simp -implicitDefEqProofs (disch:=omega) only[go_sem,hb]<;>(repeat(with_reducible refine And.intro ?_ ?_;focus first|omega|rfl|assumption|exact⟨_,rfl,rfl⟩|(simp;omega)|(simp;done)))
   ·have hi:i<xs.length:=by omega
    rw[List.drop_eq_getElem_cons (by rw[List.length_map];exact hi),bG,List.getElem_map,ah.dP] at p4
    (repeat(with_reducible refine And.intro ?_ ?_;focus first|omega|rfl|assumption|exact⟨_,rfl,rfl⟩|(simp;omega)|(simp;done)))
    refine au (oH xs[i] (by have:=List.sizeOf_lt_of_mem (List.getElem_mem hi);omega) _ (by omega) (by omega) (hf2 _ (List.mem_map_of_mem (List.getElem_mem hi)))) ?_
    simp -implicitDefEqProofs (disch:=omega) only[go_sem]
    with_reducible refine aA (fun hb=> ?_) (fun hb=> ?_)<;>have h:=hb<;>(try simp only[wf_preprocess] at h)<;>simp -implicitDefEqProofs (disch:=omega) only[go_sem,hb]<;>(repeat(with_reducible refine And.intro ?_ ?_;focus first|omega|rfl|assumption|exact⟨_,rfl,rfl⟩|(simp;omega)|(simp;done)))
    ·have h':=vB h
     rw[←p4,tJ (by omega)]
    ·have h':=vw h
     refine bL (i+1,iJ l _) (by simp only;omega) rfl rfl ⟨by simp only;omega,by simp only;omega,by simp only;omega,?_⟩
     simp only
     rw[←p4,h'.1]
     unfold iJ
     split<;>split<;>omega
   ·have hi:i=xs.length:=by omega
    rw[hi,List.drop_of_length_le (by simp),bG,Bg (by omega)] at p4
    rw[←p4]
    refine int_eq ?_
    omega
theorem Sy(x:ah):∀left:Int,0≤left→left≤1048576→rW x.enc→aI Tryz.prog 26 [x.v,.c (.d (.i .i64 left))] (.c (.d (.i .i64 (iJ left x.sz)))):=(EH _).1 x (Nat.lt_succ_self _)
theorem EI:∀n:Nat,(∀x:ah,SizeOf.sizeOf x<n→x.sz≤1048576→aI Tryz.prog 28 [x.v] x.v)∧
 (∀xs:List ah,SizeOf.sizeOf xs<n→xs.length+bG (xs.map ah.enc)≤1048576→aI Tryz.prog 109 [.c (.d (.sl (xs.map ah.enc)))] (.c (.d (.sl (xs.map ah.enc)))))
 |0=>⟨fun x h=>by omega,fun x h=>by omega⟩
 |n+1=>by
  obtain⟨oH,sS⟩:=EI n
  refine⟨fun x hn hsz S=> ?_,fun xs hn hsz S=> ?_⟩
  ·have GL:=ah.kV x
   simp only[ah.sz,ah.aG,bQ,bP,D.sz,List.length_map] at hsz
   refine aD (rs:=[.cell 2 32]) Tryz.checked.mixed Tryz.func28 Tryz.ntmps28 rfl rfl rfl rfl rfl ?_
   simp -implicitDefEqProofs (disch:=omega) only[go_sem]
   refine au (sS x.ak (by omega) (by omega)) ?_
   simp -implicitDefEqProofs (disch:=omega) only[go_sem]
  ·refine aD (rs:=[.tmp 2]) Tryz.checked.mixed Tryz.func109 Tryz.ntmps109 rfl rfl rfl rfl rfl ?_
   simp -implicitDefEqProofs (disch:=omega) only[go_sem]
   (repeat(with_reducible refine And.intro ?_ ?_;focus first|omega|rfl|assumption|exact⟨_,rfl,rfl⟩|(simp;omega)|(simp;done)))
   refine aZ (ι:=Nat×List (List D)) Tryz.checked.mixed rfl [0,3,4] (fun y=>[.c (.d (.sl (xs.map ah.enc))),.c (.ku (0,0)),.c (.d (.i .i64 y.1))]) (fun y=>[.fH 2 y.2]::S)
    (fun y=>y.1≤xs.length∧qP 2 y.1 y.2 (xs.map ah.enc)) (fun y=>xs.length-y.1) (0,_) rfl rfl ⟨Nat.zero_le _,qP.start (by simp) rfl⟩ ?_
   rintro⟨i,R⟩ ⟨p1,p2⟩
   simp only at p1 p2
   simp -implicitDefEqProofs (disch:=omega) only[go_sem]
   with_reducible refine aA (fun hb=> ?_) (fun hb=> ?_)<;>have h:=hb<;>(try simp only[wf_preprocess] at h)<;>simp -implicitDefEqProofs (disch:=omega) only[go_sem,hb]<;>(repeat(with_reducible refine And.intro ?_ ?_;focus first|omega|rfl|assumption|exact⟨_,rfl,rfl⟩|(simp;omega)|(simp;done)))
   ·have hi:i<xs.length:=by omega
    have hx:xs[i].sz≤bG (xs.map ah.enc):=eP (List.mem_map_of_mem (List.getElem_mem hi))
    (repeat(with_reducible refine And.intro ?_ ?_;focus first|omega|rfl|assumption|exact⟨_,rfl,rfl⟩|(simp;omega)|(simp;done)))
    refine au (oH xs[i] (by have:=List.sizeOf_lt_of_mem (List.getElem_mem hi);omega) (by omega)) ?_
    simp -implicitDefEqProofs (disch:=omega) only[go_sem]
    have hR:=p2.1
    rw[List.length_map] at hR
    (repeat(with_reducible refine And.intro ?_ ?_;focus first|omega|rfl|assumption|exact⟨_,rfl,rfl⟩|(simp;omega)|(simp;done)))
    refine bL (i+1,_) (by simp only;omega) rfl rfl ⟨by simp only;omega,p2.step (by simp[hi,ah.aG]) rfl⟩
   ·have hi:i=xs.length:=by omega
    rw[p2.done (by rw[List.length_map];omega)]
theorem Bq(x:ah):x.sz≤1048576→aI Tryz.prog 28 [x.v] x.v:=(EI _).1 x (Nat.lt_succ_self _)
theorem EJ:∀n:Nat,(∀x:ah,SizeOf.sizeOf x<n→∀y:ah,x.sz≤1048576→aI Tryz.prog 14 [x.v,y.v] (.c (.d (.b (dec (x=y))))))∧
 (∀xs:List ah,SizeOf.sizeOf xs<n→∀ys:List ah,xs.length+bG (xs.map ah.enc)≤1048576→aI Tryz.prog 76 [.c (.d (.sl (xs.map ah.enc))),.c (.d (.sl (ys.map ah.enc)))] (.c (.d (.b (dec (xs=ys))))))
 |0=>⟨fun x h=>by omega,fun x h=>by omega⟩
 |n+1=>by
  obtain⟨oH,sS⟩:=EJ n
  refine⟨fun x hn y hsz S=> ?_,fun xs hn ys hsz S=> ?_⟩
  ·have GL:=ah.kV x
   simp only[ah.sz,ah.aG,bQ,bP,D.sz,List.length_map] at hsz
   refine aD (rs:=[.tmp 4]) Tryz.checked.mixed Tryz.func14 Tryz.ntmps14 rfl rfl rfl rfl rfl ?_
   simp -implicitDefEqProofs (disch:=omega) only[go_sem]
   with_reducible refine aA (fun hb=> ?_) (fun hb=> ?_)<;>have h:=hb<;>(try simp only[wf_preprocess] at h)<;>simp -implicitDefEqProofs (disch:=omega) only[go_sem,hb]<;>(repeat(with_reducible refine And.intro ?_ ?_;focus first|omega|rfl|assumption|exact⟨_,rfl,rfl⟩|(simp;omega)|(simp;done)))
   ·exact aK (aQ (fun e=>h (by rw[e]))).symm
   have aev:=h
   clear h
   refine au (sS x.ak (by omega) _ (by omega)) ?_
   simp -implicitDefEqProofs (disch:=omega) only[go_sem]
   with_reducible refine aA (fun hb=> ?_) (fun hb=> ?_)<;>have h:=hb<;>(try simp only[wf_preprocess] at h)<;>simp -implicitDefEqProofs (disch:=omega) only[go_sem,hb]<;>(repeat(with_reducible refine And.intro ?_ ?_;focus first|omega|rfl|assumption|exact⟨_,rfl,rfl⟩|(simp;omega)|(simp;done)))
   ·exact aK (aQ (fun e=>h (by rw[e]))).symm
   have eList:=h
   clear h
   exact aK (bK (ah.ext aev eList)).symm
  ·refine aD (rs:=[.tmp 4]) Tryz.checked.mixed Tryz.func76 Tryz.ntmps76 rfl rfl rfl rfl rfl ?_
   simp -implicitDefEqProofs (disch:=omega) only[go_sem]
   with_reducible refine aA (fun hb=> ?_) (fun hb=> ?_)<;>have h:=hb<;>(try simp only[wf_preprocess] at h)<;>simp -implicitDefEqProofs (disch:=omega) only[go_sem,hb]<;>(repeat(with_reducible refine And.intro ?_ ?_;focus first|omega|rfl|assumption|exact⟨_,rfl,rfl⟩|(simp;omega)|(simp;done)))
   ·exact aK (aQ (fun e=>h (by rw[e]))).symm
   have hl:xs.length=ys.length:=by omega
   refine aZ (ι:=Nat) Tryz.checked.mixed rfl [0,1,5] (fun y=>[.c (.d (.sl (xs.map ah.enc))),.c (.d (.sl (ys.map ah.enc))),.c (.d (.i .i64 y))]) (fun y=>[]::S)
    (fun i=>i≤xs.length∧∀j,j<i→xs[j]? =ys[j]?) (fun y=>xs.length-y) 0 rfl rfl ⟨Nat.zero_le _,fun j h=>by omega⟩ ?_
   rintro i ⟨p1,p2⟩
   simp -implicitDefEqProofs (disch:=omega) only[go_sem]
   with_reducible refine aA (fun hb=> ?_) (fun hb=> ?_)<;>have h:=hb<;>(try simp only[wf_preprocess] at h)<;>simp -implicitDefEqProofs (disch:=omega) only[go_sem,hb]<;>(repeat(with_reducible refine And.intro ?_ ?_;focus first|omega|rfl|assumption|exact⟨_,rfl,rfl⟩|(simp;omega)|(simp;done)))
   ·have hi:i<xs.length:=by omega
    have hi':i<ys.length:=by omega
    have hx:xs[i].sz≤bG (xs.map ah.enc):=eP (List.mem_map_of_mem (List.getElem_mem hi))
    (repeat(with_reducible refine And.intro ?_ ?_;focus first|omega|rfl|assumption|exact⟨_,rfl,rfl⟩|(simp;omega)|(simp;done)))
    refine au (oH xs[i] (by have:=List.sizeOf_lt_of_mem (List.getElem_mem hi);omega) ys[i] (by omega)) ?_
    simp -implicitDefEqProofs (disch:=omega) only[go_sem]
    with_reducible refine aA (fun hb=> ?_) (fun hb=> ?_)<;>have h:=hb<;>(try simp only[wf_preprocess] at h)<;>simp -implicitDefEqProofs (disch:=omega) only[go_sem,hb]<;>(repeat(with_reducible refine And.intro ?_ ?_;focus first|omega|rfl|assumption|exact⟨_,rfl,rfl⟩|(simp;omega)|(simp;done)))
    ·exact aK (aQ (fun e=>h (by simp only[e]))).symm
    refine bL (i+1) (by omega) rfl rfl ⟨by omega,fun j hj=> ?_⟩
    by_cases e:j=i
    ·subst e
     rw[List.getElem?_eq_getElem hi,List.getElem?_eq_getElem hi',h]
    ·exact p2 j (by omega)
   ·have hi:i=xs.length:=by omega
    refine aK (bK (List.ext_getElem? fun j=> ?_)).symm
    by_cases hj:j<i
    ·exact p2 j hj
    ·rw[List.getElem?_eq_none (by omega),List.getElem?_eq_none (by omega)]
theorem Sz(x:ah):∀y:ah,x.sz≤1048576→aI Tryz.prog 14 [x.v,y.v] (.c (.d (.b (dec (x=y))))):=(EJ _).1 x (Nat.lt_succ_self _)
end Go.Proofs.YtlmhknhlmicmeaaGreatDoor
namespace Go.Proofs.YtlmhknhlmicmeaaGreatDoor
open Go Go.Ab
end Go.Proofs.YtlmhknhlmicmeaaGreatDoor
namespace Go.Proofs.YtlmhknhlmicmeaaGreatDoor
open Go Go.Ab
end Go.Proofs.YtlmhknhlmicmeaaGreatDoor
namespace Go.Proofs.YtlmhknhlmicmeaaGreatDoor
open Go Go.Ab
end Go.Proofs.YtlmhknhlmicmeaaGreatDoor
namespace Go.Proofs.YtlmhknhlmicmeaaGreatDoor
open Go Go.Ab
end Go.Proofs.YtlmhknhlmicmeaaGreatDoor
namespace Go.Proofs.YtlmhknhlmicmeaaGreatDoor
open Go Go.Ab
end Go.Proofs.YtlmhknhlmicmeaaGreatDoor
