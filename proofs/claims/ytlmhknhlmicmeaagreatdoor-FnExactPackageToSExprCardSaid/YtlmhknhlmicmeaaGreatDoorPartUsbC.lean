/-
  SEVERAL TEXTS IN ONE (merged by program): contracts and models, each with its own heading.
-/
import Derived.Test.YtlmhknhlmicmeaaGreatDoorPartUsbB
import Derived.Test.YtlmhknhlmicmeaaGreatDoorChecked
import Derived.Eval
import Derived.KernelRfl
import Derived.Lib.ItoaNum
set_option linter.unusedSimpArgs false
set_option linter.unusedVariables false
set_option maxRecDepth 4000
namespace Go.Ab
def encS(s:List UInt8):List D:=[.s s]
def encI(n:Int):List D:=[.i .i64 n]
inductive aj where
 |mk (aX:Int) (fName:List UInt8) (fArgs:List aj)
def aj.aX:aj→Int| .mk x _ _=>x
def aj.fName:aj→List UInt8| .mk _ x _=>x
def aj.fArgs:aj→List aj| .mk _ _ x=>x
theorem aj.eta(x:aj):aj.mk x.aX x.fName x.fArgs=x:=by cases x;rfl
theorem aj.ext{x y:aj}(h0:x.aX=y.aX)(h1:x.fName=y.fName)(h2:x.fArgs=y.fArgs):x=y:=by
 rw[←aj.eta x,←aj.eta y,h0,h1,h2]
mutual
def aj.enc:aj→List D
 | .mk a0 a1 a2=>[.i .i64 a0,.s a1,.sl (aj.encs a2)]
def aj.encs:List aj→List (List D)
 |[]=>[]
 |x::xs=>x.enc::aj.encs xs
end
theorem aj.jN:∀l,aj.encs l=l.map aj.enc
 |[]=>rfl
 |x::xs=>by rw[aj.encs,List.map_cons,aj.jN xs]
theorem aj.aC(x:aj):x.enc=[.i .i64 x.aX,.s x.fName,.sl (x.fArgs.map aj.enc)]:=by
 cases x;simp only[aj.enc,aj.jN,aj.aX,aj.fName,aj.fArgs]
abbrev aj.v (x:aj):V:=.agg [.d (.i .i64 x.aX),.d (.s x.fName),.d (.sl (x.fArgs.map aj.enc))]
theorem aj.qL(x:aj): .agg (x.enc.map .d)=x.v:=by
 simp only[aj.aC,List.map_cons,List.map_nil,List.cons_append,List.nil_append,List.map_append]
theorem aj.cK(x:aj):x.enc.length=3:=by
 simp only[aj.aC,List.length_append,List.length_cons,List.length_nil]
def aj.sz(x:aj):Nat:=bP x.enc
theorem aj.dw(x:aj):bP x.enc=x.sz:=rfl
theorem aj.fI(x:aj):SizeOf.sizeOf x.fArgs<SizeOf.sizeOf x:=by cases x;simp[aj.fArgs];omega
structure eF where
 fVar:List UInt8
 fType:aj
def eF.enc(x:eF):List D:=[.s x.fVar]++(x.fType.enc)
theorem eF.aC(x:eF):x.enc=[.s x.fVar]++(x.fType.enc):=rfl
theorem eF.eta(x:eF):eF.mk x.fVar x.fType=x:=rfl
theorem eF.ext'{x y:eF}(h0:x.fVar=y.fVar)(h1:x.fType=y.fType):x=y:=by
 cases x;cases y;simp_all
abbrev eF.v (x:eF):V:=.agg [.d (.s x.fVar),.d (.i .i64 x.fType.aX),.d (.s x.fType.fName),.d (.sl (x.fType.fArgs.map aj.enc))]
theorem eF.qL(x:eF): .agg (x.enc.map .d)=x.v:=by
 simp only[eF.aC,aj.aC,List.map_cons,List.map_nil,List.cons_append,List.nil_append,List.map_append]
theorem eF.cK(x:eF):x.enc.length=4:=by
 simp only[eF.aC,aj.cK,List.length_append,List.length_cons,List.length_nil]
def eF.sz(x:eF):Nat:=bP x.enc
theorem eF.dw(x:eF):bP x.enc=x.sz:=rfl
structure bq where
 bR:List UInt8
 fType:aj
def bq.enc(x:bq):List D:=[.s x.bR]++(x.fType.enc)
theorem bq.aC(x:bq):x.enc=[.s x.bR]++(x.fType.enc):=rfl
theorem bq.eta(x:bq):bq.mk x.bR x.fType=x:=rfl
theorem bq.ext'{x y:bq}(h0:x.bR=y.bR)(h1:x.fType=y.fType):x=y:=by
 cases x;cases y;simp_all
abbrev bq.v (x:bq):V:=.agg [.d (.s x.bR),.d (.i .i64 x.fType.aX),.d (.s x.fType.fName),.d (.sl (x.fType.fArgs.map aj.enc))]
theorem bq.qL(x:bq): .agg (x.enc.map .d)=x.v:=by
 simp only[bq.aC,aj.aC,List.map_cons,List.map_nil,List.cons_append,List.nil_append,List.map_append]
theorem bq.cK(x:bq):x.enc.length=4:=by
 simp only[bq.aC,aj.cK,List.length_append,List.length_cons,List.length_nil]
def bq.sz(x:bq):Nat:=bP x.enc
theorem bq.dw(x:bq):bP x.enc=x.sz:=rfl
mutual
inductive au where
 |mk (aX:Int) (bR:List UInt8) (fName:List UInt8) (fN:Int) (fType:aj) (fArgs:List au) (aZ:List aW)
inductive aW where
 |mk (dK:List UInt8) (aF:List (List UInt8)) (fBody:au)
end
def au.aX:au→Int| .mk x _ _ _ _ _ _=>x
def au.bR:au→List UInt8| .mk _ x _ _ _ _ _=>x
def au.fName:au→List UInt8| .mk _ _ x _ _ _ _=>x
def au.fN:au→Int| .mk _ _ _ x _ _ _=>x
def au.fType:au→aj| .mk _ _ _ _ x _ _=>x
def au.fArgs:au→List au| .mk _ _ _ _ _ x _=>x
def au.aZ:au→List aW| .mk _ _ _ _ _ _ x=>x
theorem au.eta(x:au):au.mk x.aX x.bR x.fName x.fN x.fType x.fArgs x.aZ=x:=by cases x;rfl
theorem au.ext{x y:au}(h0:x.aX=y.aX)(h1:x.bR=y.bR)(h2:x.fName=y.fName)(h3:x.fN=y.fN)(h4:x.fType=y.fType)(h5:x.fArgs=y.fArgs)(h6:x.aZ=y.aZ):x=y:=by
 rw[←au.eta x,←au.eta y,h0,h1,h2,h3,h4,h5,h6]
def aW.dK:aW→List UInt8| .mk x _ _=>x
def aW.aF:aW→List (List UInt8)| .mk _ x _=>x
def aW.fBody:aW→au| .mk _ _ x=>x
theorem aW.eta(x:aW):aW.mk x.dK x.aF x.fBody=x:=by cases x;rfl
theorem aW.ext{x y:aW}(h0:x.dK=y.dK)(h1:x.aF=y.aF)(h2:x.fBody=y.fBody):x=y:=by
 rw[←aW.eta x,←aW.eta y,h0,h1,h2]
mutual
def au.enc:au→List D
 | .mk a0 a1 a2 a3 a4 a5 a6=>[.i .i64 a0,.s a1,.s a2,.i .i64 a3]++(a4.enc++([.sl (au.encs a5),.sl (aW.encs a6)]))
def au.encs:List au→List (List D)
 |[]=>[]
 |x::xs=>x.enc::au.encs xs
def aW.enc:aW→List D
 | .mk a0 a1 a2=>[.s a0,.sl (a1.map encS)]++(au.enc a2)
def aW.encs:List aW→List (List D)
 |[]=>[]
 |x::xs=>x.enc::aW.encs xs
end
theorem au.jN:∀l,au.encs l=l.map au.enc
 |[]=>rfl
 |x::xs=>by rw[au.encs,List.map_cons,au.jN xs]
theorem aW.jN:∀l,aW.encs l=l.map aW.enc
 |[]=>rfl
 |x::xs=>by rw[aW.encs,List.map_cons,aW.jN xs]
theorem au.aC(x:au):x.enc=[.i .i64 x.aX,.s x.bR,.s x.fName,.i .i64 x.fN]++(x.fType.enc++([.sl (x.fArgs.map au.enc),.sl (x.aZ.map aW.enc)])):=by
 cases x;simp only[au.enc,au.jN,aW.jN,au.aX,au.bR,au.fName,au.fN,au.fType,au.fArgs,au.aZ]
theorem aW.aC(x:aW):x.enc=[.s x.dK,.sl (x.aF.map encS)]++(x.fBody.enc):=by
 cases x;simp only[aW.enc,au.jN,aW.jN,aW.dK,aW.aF,aW.fBody]
abbrev au.v (x:au):V:=.agg [.d (.i .i64 x.aX),.d (.s x.bR),.d (.s x.fName),.d (.i .i64 x.fN),.d (.i .i64 x.fType.aX),.d (.s x.fType.fName),.d (.sl (x.fType.fArgs.map aj.enc)),.d (.sl (x.fArgs.map au.enc)),.d (.sl (x.aZ.map aW.enc))]
theorem au.qL(x:au): .agg (x.enc.map .d)=x.v:=by
 simp only[au.aC,aj.aC,List.map_cons,List.map_nil,List.cons_append,List.nil_append,List.map_append]
theorem au.cK(x:au):x.enc.length=9:=by
 simp only[au.aC,aj.cK,List.length_append,List.length_cons,List.length_nil]
def au.sz(x:au):Nat:=bP x.enc
theorem au.dw(x:au):bP x.enc=x.sz:=rfl
theorem au.fI(x:au):SizeOf.sizeOf x.fArgs<SizeOf.sizeOf x:=by cases x;simp[au.fArgs];omega
theorem au.mo(x:au):SizeOf.sizeOf x.aZ<SizeOf.sizeOf x:=by cases x;simp[au.aZ];omega
abbrev aW.v (x:aW):V:=.agg [.d (.s x.dK),.d (.sl (x.aF.map encS)),.d (.i .i64 x.fBody.aX),.d (.s x.fBody.bR),.d (.s x.fBody.fName),.d (.i .i64 x.fBody.fN),.d (.i .i64 x.fBody.fType.aX),.d (.s x.fBody.fType.fName),.d (.sl (x.fBody.fType.fArgs.map aj.enc)),.d (.sl (x.fBody.fArgs.map au.enc)),.d (.sl (x.fBody.aZ.map aW.enc))]
theorem aW.qL(x:aW): .agg (x.enc.map .d)=x.v:=by
 simp only[aW.aC,au.aC,aj.aC,List.map_cons,List.map_nil,List.cons_append,List.nil_append,List.map_append]
theorem aW.cK(x:aW):x.enc.length=11:=by
 simp only[aW.aC,au.cK,List.length_append,List.length_cons,List.length_nil]
def aW.sz(x:aW):Nat:=bP x.enc
theorem aW.dw(x:aW):bP x.enc=x.sz:=rfl
theorem aW.kW(x:aW):SizeOf.sizeOf x.fBody<SizeOf.sizeOf x:=by cases x;simp[aW.fBody];omega
inductive ak where
 |mk (dI:List UInt8) (bF:List ak)
def ak.dI:ak→List UInt8| .mk x _=>x
def ak.bF:ak→List ak| .mk _ x=>x
theorem ak.eta(x:ak):ak.mk x.dI x.bF=x:=by cases x;rfl
theorem ak.ext{x y:ak}(h0:x.dI=y.dI)(h1:x.bF=y.bF):x=y:=by
 rw[←ak.eta x,←ak.eta y,h0,h1]
mutual
def ak.enc:ak→List D
 | .mk a0 a1=>[.s a0,.sl (ak.encs a1)]
def ak.encs:List ak→List (List D)
 |[]=>[]
 |x::xs=>x.enc::ak.encs xs
end
theorem ak.jN:∀l,ak.encs l=l.map ak.enc
 |[]=>rfl
 |x::xs=>by rw[ak.encs,List.map_cons,ak.jN xs]
theorem ak.aC(x:ak):x.enc=[.s x.dI,.sl (x.bF.map ak.enc)]:=by
 cases x;simp only[ak.enc,ak.jN,ak.dI,ak.bF]
abbrev ak.v (x:ak):V:=.agg [.d (.s x.dI),.d (.sl (x.bF.map ak.enc))]
theorem ak.qL(x:ak): .agg (x.enc.map .d)=x.v:=by
 simp only[ak.aC,List.map_cons,List.map_nil,List.cons_append,List.nil_append,List.map_append]
theorem ak.cK(x:ak):x.enc.length=2:=by
 simp only[ak.aC,List.length_append,List.length_cons,List.length_nil]
def ak.sz(x:ak):Nat:=bP x.enc
theorem ak.dw(x:ak):bP x.enc=x.sz:=rfl
theorem ak.Av(x:ak):SizeOf.sizeOf x.bF<SizeOf.sizeOf x:=by cases x;simp[ak.bF];omega
structure aR where
 fName:List UInt8
 aY:List aj
 bO:aj
 iD:Bool
 aF:List (List UInt8)
 fBody:au
def aR.enc(x:aR):List D:=[.s x.fName,.sl (x.aY.map aj.enc)]++(x.bO.enc++([.b x.iD,.sl (x.aF.map encS)]++(x.fBody.enc)))
theorem aR.aC(x:aR):x.enc=[.s x.fName,.sl (x.aY.map aj.enc)]++(x.bO.enc++([.b x.iD,.sl (x.aF.map encS)]++(x.fBody.enc))):=rfl
theorem aR.eta(x:aR):aR.mk x.fName x.aY x.bO x.iD x.aF x.fBody=x:=rfl
theorem aR.ext'{x y:aR}(h0:x.fName=y.fName)(h1:x.aY=y.aY)(h2:x.bO=y.bO)(h3:x.iD=y.iD)(h4:x.aF=y.aF)(h5:x.fBody=y.fBody):x=y:=by
 cases x;cases y;simp_all
abbrev aR.v (x:aR):V:=.agg [.d (.s x.fName),.d (.sl (x.aY.map aj.enc)),.d (.i .i64 x.bO.aX),.d (.s x.bO.fName),.d (.sl (x.bO.fArgs.map aj.enc)),.d (.b x.iD),.d (.sl (x.aF.map encS)),.d (.i .i64 x.fBody.aX),.d (.s x.fBody.bR),.d (.s x.fBody.fName),.d (.i .i64 x.fBody.fN),.d (.i .i64 x.fBody.fType.aX),.d (.s x.fBody.fType.fName),.d (.sl (x.fBody.fType.fArgs.map aj.enc)),.d (.sl (x.fBody.fArgs.map au.enc)),.d (.sl (x.fBody.aZ.map aW.enc))]
theorem aR.qL(x:aR): .agg (x.enc.map .d)=x.v:=by
 simp only[aR.aC,au.aC,aj.aC,List.map_cons,List.map_nil,List.cons_append,List.nil_append,List.map_append]
theorem aR.cK(x:aR):x.enc.length=16:=by
 simp only[aR.aC,au.cK,aj.cK,List.length_append,List.length_cons,List.length_nil]
def aR.sz(x:aR):Nat:=bP x.enc
theorem aR.dw(x:aR):bP x.enc=x.sz:=rfl
structure bn where
 fName:List UInt8
 bN:List (List UInt8)
 ou:Bool
 bY:Bool
 aD:List aR
def bn.enc(x:bn):List D:=[.s x.fName,.sl (x.bN.map encS),.b x.ou,.b x.bY,.sl (x.aD.map aR.enc)]
theorem bn.aC(x:bn):x.enc=[.s x.fName,.sl (x.bN.map encS),.b x.ou,.b x.bY,.sl (x.aD.map aR.enc)]:=rfl
theorem bn.eta(x:bn):bn.mk x.fName x.bN x.ou x.bY x.aD=x:=rfl
theorem bn.ext'{x y:bn}(h0:x.fName=y.fName)(h1:x.bN=y.bN)(h2:x.ou=y.ou)(h3:x.bY=y.bY)(h4:x.aD=y.aD):x=y:=by
 cases x;cases y;simp_all
abbrev bn.v (x:bn):V:=.agg [.d (.s x.fName),.d (.sl (x.bN.map encS)),.d (.b x.ou),.d (.b x.bY),.d (.sl (x.aD.map aR.enc))]
theorem bn.qL(x:bn): .agg (x.enc.map .d)=x.v:=by
 simp only[bn.aC,List.map_cons,List.map_nil,List.cons_append,List.nil_append,List.map_append]
theorem bn.cK(x:bn):x.enc.length=5:=by
 simp only[bn.aC,List.length_append,List.length_cons,List.length_nil]
def bn.sz(x:bn):Nat:=bP x.enc
theorem bn.dw(x:bn):bP x.enc=x.sz:=rfl
structure aK where
 fName:List UInt8
 fA:List aj
def aK.enc(x:aK):List D:=[.s x.fName,.sl (x.fA.map aj.enc)]
theorem aK.aC(x:aK):x.enc=[.s x.fName,.sl (x.fA.map aj.enc)]:=rfl
theorem aK.eta(x:aK):aK.mk x.fName x.fA=x:=rfl
theorem aK.ext'{x y:aK}(h0:x.fName=y.fName)(h1:x.fA=y.fA):x=y:=by
 cases x;cases y;simp_all
abbrev aK.v (x:aK):V:=.agg [.d (.s x.fName),.d (.sl (x.fA.map aj.enc))]
theorem aK.qL(x:aK): .agg (x.enc.map .d)=x.v:=by
 simp only[aK.aC,List.map_cons,List.map_nil,List.cons_append,List.nil_append,List.map_append]
theorem aK.cK(x:aK):x.enc.length=2:=by
 simp only[aK.aC,List.length_append,List.length_cons,List.length_nil]
def aK.sz(x:aK):Nat:=bP x.enc
theorem aK.dw(x:aK):bP x.enc=x.sz:=rfl
structure aL where
 fName:List UInt8
 aF:List (List UInt8)
 aJ:List aK
def aL.enc(x:aL):List D:=[.s x.fName,.sl (x.aF.map encS),.sl (x.aJ.map aK.enc)]
theorem aL.aC(x:aL):x.enc=[.s x.fName,.sl (x.aF.map encS),.sl (x.aJ.map aK.enc)]:=rfl
theorem aL.eta(x:aL):aL.mk x.fName x.aF x.aJ=x:=rfl
theorem aL.ext'{x y:aL}(h0:x.fName=y.fName)(h1:x.aF=y.aF)(h2:x.aJ=y.aJ):x=y:=by
 cases x;cases y;simp_all
abbrev aL.v (x:aL):V:=.agg [.d (.s x.fName),.d (.sl (x.aF.map encS)),.d (.sl (x.aJ.map aK.enc))]
theorem aL.qL(x:aL): .agg (x.enc.map .d)=x.v:=by
 simp only[aL.aC,List.map_cons,List.map_nil,List.cons_append,List.nil_append,List.map_append]
theorem aL.cK(x:aL):x.enc.length=3:=by
 simp only[aL.aC,List.length_append,List.length_cons,List.length_nil]
def aL.sz(x:aL):Nat:=bP x.enc
theorem aL.dw(x:aL):bP x.enc=x.sz:=rfl
structure bB where
 fName:List UInt8
 aF:List (List UInt8)
 fBody:au
def bB.enc(x:bB):List D:=[.s x.fName,.sl (x.aF.map encS)]++(x.fBody.enc)
theorem bB.aC(x:bB):x.enc=[.s x.fName,.sl (x.aF.map encS)]++(x.fBody.enc):=rfl
theorem bB.eta(x:bB):bB.mk x.fName x.aF x.fBody=x:=rfl
theorem bB.ext'{x y:bB}(h0:x.fName=y.fName)(h1:x.aF=y.aF)(h2:x.fBody=y.fBody):x=y:=by
 cases x;cases y;simp_all
abbrev bB.v (x:bB):V:=.agg [.d (.s x.fName),.d (.sl (x.aF.map encS)),.d (.i .i64 x.fBody.aX),.d (.s x.fBody.bR),.d (.s x.fBody.fName),.d (.i .i64 x.fBody.fN),.d (.i .i64 x.fBody.fType.aX),.d (.s x.fBody.fType.fName),.d (.sl (x.fBody.fType.fArgs.map aj.enc)),.d (.sl (x.fBody.fArgs.map au.enc)),.d (.sl (x.fBody.aZ.map aW.enc))]
theorem bB.qL(x:bB): .agg (x.enc.map .d)=x.v:=by
 simp only[bB.aC,au.aC,aj.aC,List.map_cons,List.map_nil,List.cons_append,List.nil_append,List.map_append]
theorem bB.cK(x:bB):x.enc.length=11:=by
 simp only[bB.aC,au.cK,List.length_append,List.length_cons,List.length_nil]
def bB.sz(x:bB):Nat:=bP x.enc
theorem bB.dw(x:bB):bP x.enc=x.sz:=rfl
structure aN where
 bR:List UInt8
 aF:List (List UInt8)
 bZ:aj
 bX:List bq
 iX:Bool
 fO:Bool
 bY:aj
 aT:List bB
def aN.enc(x:aN):List D:=[.s x.bR,.sl (x.aF.map encS)]++(x.bZ.enc++([.sl (x.bX.map bq.enc),.b x.iX,.b x.fO]++(x.bY.enc++([.sl (x.aT.map bB.enc)]))))
theorem aN.aC(x:aN):x.enc=[.s x.bR,.sl (x.aF.map encS)]++(x.bZ.enc++([.sl (x.bX.map bq.enc),.b x.iX,.b x.fO]++(x.bY.enc++([.sl (x.aT.map bB.enc)])))):=rfl
theorem aN.eta(x:aN):aN.mk x.bR x.aF x.bZ x.bX x.iX x.fO x.bY x.aT=x:=rfl
theorem aN.ext'{x y:aN}(h0:x.bR=y.bR)(h1:x.aF=y.aF)(h2:x.bZ=y.bZ)(h3:x.bX=y.bX)(h4:x.iX=y.iX)(h5:x.fO=y.fO)(h6:x.bY=y.bY)(h7:x.aT=y.aT):x=y:=by
 cases x;cases y;simp_all
abbrev aN.v (x:aN):V:=.agg [.d (.s x.bR),.d (.sl (x.aF.map encS)),.d (.i .i64 x.bZ.aX),.d (.s x.bZ.fName),.d (.sl (x.bZ.fArgs.map aj.enc)),.d (.sl (x.bX.map bq.enc)),.d (.b x.iX),.d (.b x.fO),.d (.i .i64 x.bY.aX),.d (.s x.bY.fName),.d (.sl (x.bY.fArgs.map aj.enc)),.d (.sl (x.aT.map bB.enc))]
theorem aN.qL(x:aN): .agg (x.enc.map .d)=x.v:=by
 simp only[aN.aC,aj.aC,List.map_cons,List.map_nil,List.cons_append,List.nil_append,List.map_append]
theorem aN.cK(x:aN):x.enc.length=12:=by
 simp only[aN.aC,aj.cK,List.length_append,List.length_cons,List.length_nil]
def aN.sz(x:aN):Nat:=bP x.enc
theorem aN.dw(x:aN):bP x.enc=x.sz:=rfl
structure bG where
 fName:List UInt8
 fType:aj
def bG.enc(x:bG):List D:=[.s x.fName]++(x.fType.enc)
theorem bG.aC(x:bG):x.enc=[.s x.fName]++(x.fType.enc):=rfl
theorem bG.eta(x:bG):bG.mk x.fName x.fType=x:=rfl
theorem bG.ext'{x y:bG}(h0:x.fName=y.fName)(h1:x.fType=y.fType):x=y:=by
 cases x;cases y;simp_all
abbrev bG.v (x:bG):V:=.agg [.d (.s x.fName),.d (.i .i64 x.fType.aX),.d (.s x.fType.fName),.d (.sl (x.fType.fArgs.map aj.enc))]
theorem bG.qL(x:bG): .agg (x.enc.map .d)=x.v:=by
 simp only[bG.aC,aj.aC,List.map_cons,List.map_nil,List.cons_append,List.nil_append,List.map_append]
theorem bG.cK(x:bG):x.enc.length=4:=by
 simp only[bG.aC,aj.cK,List.length_append,List.length_cons,List.length_nil]
def bG.sz(x:bG):Nat:=bP x.enc
theorem bG.dw(x:bG):bP x.enc=x.sz:=rfl
structure aQ where
 fName:List UInt8
 aF:List (List UInt8)
 bX:List bq
 aY:List bG
 bO:aj
 fBody:au
def aQ.enc(x:aQ):List D:=[.s x.fName,.sl (x.aF.map encS),.sl (x.bX.map bq.enc),.sl (x.aY.map bG.enc)]++(x.bO.enc++(x.fBody.enc))
theorem aQ.aC(x:aQ):x.enc=[.s x.fName,.sl (x.aF.map encS),.sl (x.bX.map bq.enc),.sl (x.aY.map bG.enc)]++(x.bO.enc++(x.fBody.enc)):=rfl
theorem aQ.eta(x:aQ):aQ.mk x.fName x.aF x.bX x.aY x.bO x.fBody=x:=rfl
theorem aQ.ext'{x y:aQ}(h0:x.fName=y.fName)(h1:x.aF=y.aF)(h2:x.bX=y.bX)(h3:x.aY=y.aY)(h4:x.bO=y.bO)(h5:x.fBody=y.fBody):x=y:=by
 cases x;cases y;simp_all
abbrev aQ.v (x:aQ):V:=.agg [.d (.s x.fName),.d (.sl (x.aF.map encS)),.d (.sl (x.bX.map bq.enc)),.d (.sl (x.aY.map bG.enc)),.d (.i .i64 x.bO.aX),.d (.s x.bO.fName),.d (.sl (x.bO.fArgs.map aj.enc)),.d (.i .i64 x.fBody.aX),.d (.s x.fBody.bR),.d (.s x.fBody.fName),.d (.i .i64 x.fBody.fN),.d (.i .i64 x.fBody.fType.aX),.d (.s x.fBody.fType.fName),.d (.sl (x.fBody.fType.fArgs.map aj.enc)),.d (.sl (x.fBody.fArgs.map au.enc)),.d (.sl (x.fBody.aZ.map aW.enc))]
theorem aQ.qL(x:aQ): .agg (x.enc.map .d)=x.v:=by
 simp only[aQ.aC,au.aC,aj.aC,List.map_cons,List.map_nil,List.cons_append,List.nil_append,List.map_append]
theorem aQ.cK(x:aQ):x.enc.length=16:=by
 simp only[aQ.aC,au.cK,aj.cK,List.length_append,List.length_cons,List.length_nil]
def aQ.sz(x:aQ):Nat:=bP x.enc
theorem aQ.dw(x:aQ):bP x.enc=x.sz:=rfl
structure bg where
 fName:List UInt8
 dP:List (List UInt8)
 aO:List bn
 ay:List aL
 aM:List aN
 aU:List aQ
def bg.enc(x:bg):List D:=[.s x.fName,.sl (x.dP.map encS),.sl (x.aO.map bn.enc),.sl (x.ay.map aL.enc),.sl (x.aM.map aN.enc),.sl (x.aU.map aQ.enc)]
theorem bg.aC(x:bg):x.enc=[.s x.fName,.sl (x.dP.map encS),.sl (x.aO.map bn.enc),.sl (x.ay.map aL.enc),.sl (x.aM.map aN.enc),.sl (x.aU.map aQ.enc)]:=rfl
theorem bg.eta(x:bg):bg.mk x.fName x.dP x.aO x.ay x.aM x.aU=x:=rfl
theorem bg.ext'{x y:bg}(h0:x.fName=y.fName)(h1:x.dP=y.dP)(h2:x.aO=y.aO)(h3:x.ay=y.ay)(h4:x.aM=y.aM)(h5:x.aU=y.aU):x=y:=by
 cases x;cases y;simp_all
abbrev bg.v (x:bg):V:=.agg [.d (.s x.fName),.d (.sl (x.dP.map encS)),.d (.sl (x.aO.map bn.enc)),.d (.sl (x.ay.map aL.enc)),.d (.sl (x.aM.map aN.enc)),.d (.sl (x.aU.map aQ.enc))]
theorem bg.qL(x:bg): .agg (x.enc.map .d)=x.v:=by
 simp only[bg.aC,List.map_cons,List.map_nil,List.cons_append,List.nil_append,List.map_append]
theorem bg.cK(x:bg):x.enc.length=6:=by
 simp only[bg.aC,List.length_append,List.length_cons,List.length_nil]
def bg.sz(x:bg):Nat:=bP x.enc
theorem bg.dw(x:bg):bP x.enc=x.sz:=rfl
structure fE where
 pE:List bg
def fE.enc(x:fE):List D:=[.sl (x.pE.map bg.enc)]
theorem fE.aC(x:fE):x.enc=[.sl (x.pE.map bg.enc)]:=rfl
theorem fE.eta(x:fE):fE.mk x.pE=x:=rfl
theorem fE.ext'{x y:fE}(h0:x.pE=y.pE):x=y:=by
 cases x;cases y;simp_all
abbrev fE.v (x:fE):V:=.agg [.d (.sl (x.pE.map bg.enc))]
theorem fE.qL(x:fE): .agg (x.enc.map .d)=x.v:=by
 simp only[fE.aC,List.map_cons,List.map_nil,List.cons_append,List.nil_append,List.map_append]
theorem fE.cK(x:fE):x.enc.length=1:=by
 simp only[fE.aC,List.length_append,List.length_cons,List.length_nil]
def fE.sz(x:fE):Nat:=bP x.enc
theorem fE.dw(x:fE):bP x.enc=x.sz:=rfl
structure dY where
 wB:Int
 Rq:Int
def dY.enc(x:dY):List D:=[.i .i64 x.wB,.i .i64 x.Rq]
theorem dY.aC(x:dY):x.enc=[.i .i64 x.wB,.i .i64 x.Rq]:=rfl
theorem dY.eta(x:dY):dY.mk x.wB x.Rq=x:=rfl
theorem dY.ext'{x y:dY}(h0:x.wB=y.wB)(h1:x.Rq=y.Rq):x=y:=by
 cases x;cases y;simp_all
abbrev dY.v (x:dY):V:=.agg [.d (.i .i64 x.wB),.d (.i .i64 x.Rq)]
theorem dY.qL(x:dY): .agg (x.enc.map .d)=x.v:=by
 simp only[dY.aC,List.map_cons,List.map_nil,List.cons_append,List.nil_append,List.map_append]
theorem dY.cK(x:dY):x.enc.length=2:=by
 simp only[dY.aC,List.length_append,List.length_cons,List.length_nil]
def dY.sz(x:dY):Nat:=bP x.enc
theorem dY.dw(x:dY):bP x.enc=x.sz:=rfl
attribute [go_sem] aj.aC eF.aC bq.aC au.aC aW.aC ak.aC aR.aC bn.aC aK.aC aL.aC bB.aC aN.aC bG.aC aQ.aC bg.aC fE.aC dY.aC encS encI
end Go.Ab
namespace Go.Ab
def Rs:List eF→List UInt8→Option aj
 |[],_=>none
 |b::bs,v=>if b.fVar=v then some b.fType else Rs bs v
mutual
noncomputable def y8(s:List eF):aj→aj→Option (List eF)
 | .mk k n a,t=>
   if k=1 then
    match Rs s n with
    |some u=>if dec (u=t)=true then some s else none
    |none=>some (s++[⟨n,t⟩])
   else if k=t.aX∧n=t.fName∧a.length=t.fArgs.length then tZ s a t.fArgs else none
noncomputable def tZ(s:List eF):List aj→List aj→Option (List eF)
 |[],_=>some s
 |_::_,[]=>none
 |p::ps,t::ts=>
  match y8 s p t with
  |some s'=>tZ s' ps ts
  |none=>none
end
mutual
def aj.cnt:aj→Nat
 | .mk _ _ a=>1+aj.eB a
def aj.eB:List aj→Nat
 |[]=>0
 |t::ts=>t.cnt+aj.eB ts
end
theorem aj.nZ(t:aj):t.cnt=1+aj.eB t.fArgs:=by cases t;rw[aj.cnt];rfl
mutual
theorem kJ:∀t:aj,t.cnt≤1+t.sz
 | .mk k n a=>by
   have h:=uM a
   rw[aj.cnt]
   have e:(aj.mk k n a).sz=n.length+(a.length+aI (a.map aj.enc)):=by
    simp only[aj.sz,aj.aC,bP,D.sz,List.length_map,aj.fName,aj.fArgs,Nat.add_zero,Nat.zero_add]
   omega
theorem uM:∀ts:List aj,aj.eB ts≤ts.length+aI (ts.map aj.enc)
 |[]=>by simp[aj.eB]
 |t::ts=>by
  have h1:=kJ t
  have h2:=uM ts
  rw[aj.eB,List.length_cons,List.map_cons,aI,aj.dw]
  omega
end
mutual
theorem Tp:∀(p:aj) (s:List eF) (t:aj) (s':List eF),y8 s p t=some s'→s'.length≤s.length+p.cnt
 | .mk k n a,s,t,s',h=>by
   rw[y8] at h
   rw[aj.cnt]
   split at h
   ·split at h
    ·split at h
     ·cases h;omega
     ·cases h
    ·cases h;simp
   ·split at h
    ·have:=He a s t.fArgs s' h;omega
    ·cases h
theorem He:∀(ps:List aj) (s:List eF) (ts:List aj) (s':List eF),tZ s ps ts=some s'→s'.length≤s.length+aj.eB ps
 |[],s,ts,s',h=>by rw[tZ] at h;cases h;omega
 |p::ps,s,[],s',h=>by rw[tZ] at h;cases h
 |p::ps,s,t::ts,s',h=>by
  rw[tZ] at h
  rw[aj.eB]
  cases hm:y8 s p t with
  |none=>rw[hm] at h;cases h
  |some s1=>
   rw[hm] at h
   have h1:=Tp p s t s1 hm
   have h2:=He ps s1 ts s' h
   omega
end
def Small(s:List eF):Prop:=∀b∈s,b.fType.sz≤4194304
mutual
theorem Od:∀(p:aj) (s:List eF) (t:aj) (s':List eF),t.sz≤4194304→Small s→y8 s p t=some s'→Small s'
 | .mk k n a,s,t,s',ht,hs,h=>by
   rw[y8] at h
   split at h
   ·split at h
    ·split at h
     ·cases h;exact hs
     ·cases h
    ·cases h
     intro b hb
     rcases List.mem_append.1 hb with hb|hb
     ·exact hs b hb
     ·simp at hb;subst hb;exact ht
   ·split at h
    ·refine CX a s t.fArgs s' ?_ hs h
     intro x hx
     have h1:=bI (List.mem_map_of_mem (f:=aj.enc) hx)
     have h2:t.sz=t.fName.length+(t.fArgs.length+aI (t.fArgs.map aj.enc)):=by
      simp only[aj.sz,aj.aC,bP,bA,D.sz,List.length_map,Nat.add_zero,Nat.zero_add]
     rw[aj.dw] at h1
     omega
    ·cases h
theorem CX:∀(ps:List aj) (s:List eF) (ts:List aj) (s':List eF),(∀t∈ts,t.sz≤4194304)→Small s→tZ s ps ts=some s'→Small s'
 |[],s,ts,s',ht,hs,h=>by rw[tZ] at h;cases h;exact hs
 |p::ps,s,[],s',ht,hs,h=>by rw[tZ] at h;cases h
 |p::ps,s,t::ts,s',ht,hs,h=>by
  rw[tZ] at h
  cases hm:y8 s p t with
  |none=>rw[hm] at h;cases h
  |some s1=>
   rw[hm] at h
   exact CX ps s1 ts s' (fun x hx=>ht x (by simp[hx])) (Od p s t s1 (ht t (by simp)) hs hm) h
end
end Go.Ab
namespace Go.Ab
def lowerB(b:UInt8):Prop:=97≤b.toNat∧b.toNat≤122
def qm(b:UInt8):Prop:=48≤b.toNat∧b.toNat≤57
def Oe(s:List UInt8):Prop:=∀i,i<s.length→lowerB (s.getD i 0)∨(i≠0∧qm (s.getD i 0))
def reserved:List (List UInt8):=[[105,110,116],[98,111,111,108],[97,115,115,111,99],[100,121,110],[105,102],[108,101,116],[99,97,115,101],[110,101,119],[109,101,116,104,111,100],[112,97,99,107],[116,114,117,101],[102,97,108,115,101]]
noncomputable def validName(s:List UInt8):Bool:=dec ((1≤s.length∧s.length≤8)∧s∉reserved∧Oe s)
noncomputable def uD(s:List UInt8):Bool:=dec (s=[105,110,116]∨s=[98,111,111,108])
noncomputable def uf(xs:List (List UInt8))(s:List UInt8):Int:=if s∈xs then((xs.findIdx fun x=>dec (x=s):Nat):Int) else -1
theorem Qn{xs:List (List UInt8)}{s:List UInt8}{i:Nat}(hi:i<xs.length)(hj:∀j,j<i→xs.getD j []≠s)(h:xs.getD i []=s):uf xs s=i:=by
 have e:∀j,∀hj:j<xs.length,xs.getD j []=xs[j]:=fun j hj=>by simp[List.getD,hj]
 have hm:s∈xs:=by rw[←h,e i hi];exact List.getElem_mem hi
 unfold uf
 rw[if_pos hm]
 congr 1
 rw[List.findIdx_eq hi]
 exact⟨bJ (by rw[←e i hi];exact h),fun j hji=>aH (by rw[←e j (by omega)];exact hj j hji)⟩
theorem VX{xs:List (List UInt8)}{s:List UInt8}(hj:∀j,j<xs.length→xs.getD j []≠s):uf xs s= -1:=by
 unfold uf
 refine if_neg fun hm=> ?_
 obtain⟨j,h1,h2⟩:=List.getElem_of_mem hm
 exact hj j h1 (by simp[List.getD,h1,h2])
theorem Hf{xs:List (List UInt8)}{s:List UInt8}:decide (uf xs s≥0)=dec (s∈xs):=by
 rw[ny]
 refine iJ ?_
 unfold uf
 split
 ·rename_i h;exact⟨fun _=>h,fun _=>by omega⟩
 ·rename_i h;exact⟨fun x=>by omega,fun x=>absurd x h⟩
def qo{α:Type}(p:α→Bool)(xs:List α):Int:=if xs.any p then((xs.findIdx p:Nat):Int) else -1
theorem pU{α:Type}{p:α→Bool}{xs:List α}{i:Nat}(hi:i<xs.length)(hj:∀j,∀hj:j<xs.length,j<i→p xs[j]=false)(h:p xs[i]=true):qo p xs=i:=by
 unfold qo
 rw[if_pos (List.any_eq_true.2 ⟨xs[i],List.getElem_mem hi,h⟩)]
 congr 1
 rw[List.findIdx_eq hi]
 exact⟨h,fun j hji=>hj j (by omega) hji⟩
theorem sG{α:Type}{p:α→Bool}{xs:List α}(hj:∀j,∀hj:j<xs.length,p xs[j]=false):qo p xs= -1:=by
 unfold qo
 refine if_neg fun h=> ?_
 obtain⟨x,hx,hp⟩:=List.any_eq_true.1 h
 obtain⟨j,h1,h2⟩:=List.getElem_of_mem hx
 rw[←h2,hj j h1] at hp
 cases hp
theorem qM{α:Type}{p:α→Bool}{xs:List α}:decide (qo p xs≥0)=xs.any p:=by
 unfold qo
 cases h:xs.any p with
 |true=>simp
 |false=>simp
noncomputable def yx(k:Int)(n:List UInt8)(len:Nat):Bool:=
 dec ((k=1∨k=4)∧validName n=true∧len=0∨k=3∧validName n=true∧len=1∨k=2∧(validName n=true∧len≤3∨uD n=true∧len=0))
mutual
noncomputable def formed:aj→Bool
 | .mk k n a=>yx k n a.length&&jm a
noncomputable def jm:List aj→Bool
 |[]=>true
 |t::ts=>formed t&&jm ts
end
theorem uN(t:aj):formed t=(yx t.aX t.fName t.fArgs.length&&jm t.fArgs):=by cases t;rw[formed];rfl
theorem ug:∀{ts:List aj},jm ts=true↔∀t∈ts,formed t=true
 |[]=>by simp[jm]
 |t::ts=>by simp[jm,ug (ts:=ts)]
theorem EP:∀{ts:List aj},(ts.any fun t=> !formed t)= !jm ts
 |[]=>rfl
 |t::ts=>by rw[List.any_cons,EP (ts:=ts),jm];simp
mutual
def lV:aj→Nat
 | .mk _ _ a=>depths a
def depths:List aj→Nat
 |[]=>0
 |t::ts=>max (lV t+1) (depths ts)
end
theorem KQ(t:aj):lV t=depths t.fArgs:=by cases t;rw[lV];rfl
mutual
theorem xB:∀t:aj,lV t+1≤t.cnt
 | .mk k n a=>by
   have:=KR a
   rw[lV,aj.cnt];omega
theorem KR:∀ts:List aj,depths ts≤aj.eB ts
 |[]=>by simp[depths]
 |t::ts=>by
  have h1:=xB t
  have h2:=KR ts
  rw[depths,aj.eB]
  omega
end
noncomputable def mF(t:aj):Bool:=dec (formed t=true∧lV t≤6∧t.cnt≤60)
end Go.Ab
namespace Go.Ab
def cu(s:List UInt8):ak:=.mk s []
def cO(l:List ak):ak:=.mk [] l
def bf(l:List (List UInt8)):List ak:=l.map cu
def Hg:ak:=.mk [] []
theorem jG(s:List UInt8):(cu s).dI=s:=rfl
theorem jH(s:List UInt8):(cu s).bF=[]:=rfl
theorem dX(l:List ak):(cO l).dI=[]:=rfl
theorem dF(l:List ak):(cO l).bF=l:=rfl
def Tq:List UInt8:=[100,121,110]
def kX:List UInt8:=[97,115,115,111,99]
mutual
def dA:aj→ak
 | .mk k n zs=>if k=1 then cu ([39]++n) else if k=4 then cO [cu Tq,cu n] else if k=2∧zs.length=0 then cu n else
   cO ((if k=3 then [cu kX] else [])++[cu n]++FE zs)
def FE:List aj→List ak
 |[]=>[]
 |t::ts=>dA t::FE ts
end
theorem y9:∀l,FE l=l.map dA
 |[]=>rfl
 |t::ts=>by rw[FE,List.map_cons,y9 ts]
theorem VY(x:aj):dA x=if x.aX=1 then cu ([39]++x.fName) else if x.aX=4 then cO [cu Tq,cu x.fName] else if x.aX=2∧x.fArgs.length=0 then cu x.fName else
 cO ((if x.aX=3 then [cu kX] else [])++[cu x.fName]++x.fArgs.map dA):=by
 cases x;rw[dA,y9];rfl
theorem vD{t:aj}(h:mF t=true):formed t=true:=(ji h).1
theorem zH(x:ak):x.sz=x.dI.length+(x.bF.length+aI (x.bF.map ak.enc)):=by
 simp only[ak.sz,ak.aC,bP,D.sz,List.length_map];omega
def gq:List ak→Nat
 |[]=>0
 |x::xs=>x.sz+gq xs
theorem wC:∀l,aI (l.map ak.enc)=gq l
 |[]=>rfl
 |x::xs=>by rw[List.map_cons,aI,gq,wC xs];rfl
theorem gZ:∀a b,gq (a++b)=gq a+gq b
 |[],b=>by simp[gq]
 |x::a,b=>by rw[List.cons_append,gq,gq,gZ a b];omega
theorem Ej{x:ak}:∀{l:List ak},x∈l→x.sz≤gq l
 |y::l,h=>by
  rw[gq]
  rcases List.mem_cons.1 h with rfl|h
  ·omega
  ·have:=Ej h;omega
theorem jo(s:List UInt8):(cu s).sz=s.length:=by rw[zH];simp[cu,ak.dI,ak.bF,aI]
theorem iY(l:List ak):(cO l).sz=l.length+gq l:=by rw[zH,wC];simp[cO,ak.dI,ak.bF]
theorem oD:∀l:List (List UInt8),gq (bf l)=(l.map List.length).sum
 |[]=>rfl
 |s::l=>by rw[bf,List.map_cons,gq,jo,←bf,oD l,List.map_cons,List.sum_cons]
theorem iR(l:List (List UInt8)):(bf l).length=l.length:=by simp[bf]
theorem dM:∀l:List (List UInt8),aI (l.map encS)=(l.map List.length).sum
 |[]=>rfl
 |s::l=>by rw[List.map_cons,aI,dM l,List.map_cons,List.sum_cons];simp[encS,bP,D.sz]
def Hl:List aj→Nat
 |[]=>0
 |x::xs=>x.sz+Hl xs
theorem za:∀l,aI (l.map aj.enc)=Hl l
 |[]=>rfl
 |x::xs=>by rw[List.map_cons,aI,Hl,za xs];rfl
theorem Yw(x:aj):x.sz=x.fName.length+(x.fArgs.length+Hl x.fArgs):=by
 rw[←za];simp only[aj.sz,aj.aC,bP,D.sz,List.length_map];omega
mutual
theorem xC:∀x:aj,(dA x).sz≤12+16*x.sz
 | .mk k n zs=>by
   have h:=JI zs
   rw[Yw]
   simp only[aj.fName,aj.fArgs]
   rw[dA]
   split
   ·rw[jo];simp;omega
   ·split
    ·rw[iY];simp[gq,jo,Tq];omega
    ·split
     ·rw[jo];omega
     ·rw[iY,gZ,gZ,List.length_append,List.length_append,y9,List.length_map,←y9]
      split<;>simp[gq,jo,kX]<;>omega
theorem JI:∀xs:List aj,gq (FE xs)≤12*xs.length+16*Hl xs
 |[]=>by simp[FE,gq]
 |x::xs=>by
  have h1:=xC x
  have h2:=JI xs
  rw[FE,gq,Hl,List.length_cons];omega
end
theorem Ho(xs:List aj):gq (xs.map dA)≤12*xs.length+16*Hl xs:=by rw[←y9];exact JI xs
def jY(b:UInt8):Bool:=decide (97≤b.toNat∧b.toNat≤122)||decide (48≤b.toNat∧b.toNat≤57)||decide (b∈([39,45,43,42,60,61,46]:List UInt8))
def validAtom(s:List UInt8):Bool:=s.all jY&&decide (1≤s.length∧s.length≤12)
mutual
def qb:ak→Bool
 | .mk a l=>if a=[] then qp l else validAtom a&&decide (l.length=0)
def qp:List ak→Bool
 |[]=>true
 |x::xs=>qb x&&qp xs
end
mutual
def lW:ak→Nat
 | .mk a l=>if a=[] then oH l+1 else 0
def oH:List ak→Nat
 |[]=>0
 |x::xs=>max (lW x) (oH xs)
end
mutual
def kP:ak→Nat
 | .mk _ l=>nG l+1
def nG:List ak→Nat
 |[]=>0
 |x::xs=>kP x+nG xs
end
theorem Og(x:ak):qb x=if x.dI=[] then qp x.bF else validAtom x.dI&&decide (x.bF.length=0):=by cases x;rw[qb];rfl
theorem KT(x:ak):lW x=if x.dI=[] then oH x.bF+1 else 0:=by cases x;rw[lW];rfl
theorem Oh(x:ak):kP x=nG x.bF+1:=by cases x;rw[kP];rfl
theorem Hq:∀{l:List ak},(l.any fun t=> !qb t)= !qp l
 |[]=>rfl
 |t::ts=>by rw[List.any_cons,Hq (l:=ts),qp];simp
mutual
theorem zW:∀x:ak,lW x≤kP x
 | .mk a l=>by
   have:=CY l
   rw[lW,kP];split<;>omega
theorem CY:∀l:List ak,oH l≤nG l
 |[]=>by simp[oH]
 |x::xs=>by
  have h1:=zW x
  have h2:=CY xs
  rw[oH,nG];omega
end
mutual
theorem Oi:∀x:ak,kP x≤x.sz+1
 | .mk a l=>by
   have:=KU l
   rw[zH,kP,wC];simp only[ak.dI,ak.bF];omega
theorem KU:∀l:List ak,nG l≤l.length+gq l
 |[]=>by simp[nG]
 |x::xs=>by
  have h1:=Oi x
  have h2:=KU xs
  rw[nG,gq,List.length_cons];omega
end
def jI(x:ak):Bool:=qb x&&decide (lW x≤14∧kP x≤900)
mutual
theorem Oj:∀x:ak,qb x=true→x.sz+1≤13*kP x
 | .mk a l=>fun h=>by
   rw[qb] at h
   rw[zH,kP,wC]
   simp only[ak.dI,ak.bF]
   split at h
   ·rename_i ha
    have:=KV l h
    subst ha
    simp only[List.length_nil];omega
   ·rw[Bool.and_eq_true,decide_eq_true_eq] at h
    have h1:=h.1
    unfold validAtom at h1
    rw[Bool.and_eq_true,decide_eq_true_eq] at h1
    have:l=[]:=List.eq_nil_of_length_eq_zero h.2
    subst this
    simp[gq];omega
theorem KV:∀l:List ak,qp l=true→l.length+gq l≤13*nG l
 |[],_=>by simp[gq]
 |x::xs,h=>by
  rw[qp,Bool.and_eq_true] at h
  have h1:=Oj x h.1
  have h2:=KV xs h.2
  rw[gq,nG,List.length_cons];omega
end
theorem VZ{x:ak}(h:jI x=true):x.sz≤11700:=by
 unfold jI at h
 rw[Bool.and_eq_true,decide_eq_true_eq] at h
 have:=Oj x h.1
 omega
def rV(x:ak):ak:=if jI x=true then x else Hg
def sH:Bool→ak→ak
 |true,x=>rV x
 |false,_=>Hg
theorem ab2(x:ak):(rV x).sz≤11700:=by
 unfold rV
 split
 ·rename_i h;exact VZ h
 ·rw[zH];simp[Hg,ak.dI,ak.bF,aI]
theorem aaI(b:Bool)(x:ak):(sH b x).sz≤11700:=by
 cases b with
 |true=>exact ab2 x
 |false=>rw[sH,zH];simp[Hg,ak.dI,ak.bF,aI]
end Go.Ab
namespace Go.Proofs.YtlmhknhlmicmeaaGreatDoor.Fa
open Go Go.Ab
theorem ty1:Tryz.prog.cellsOf 1=1∧Tryz.prog.bytesOf 1=8∧(Tryz.prog.info? 1).isSome=true∧bE Tryz.prog 1=some [.d (.o .nilFunc)]:=⟨by kernel_rfl,by kernel_rfl,by kernel_rfl,by kernel_rfl⟩
theorem ty2:Tryz.prog.cellsOf 2=1∧Tryz.prog.bytesOf 2=8∧(Tryz.prog.info? 2).isSome=true∧bE Tryz.prog 2=some [.d (.i .i64 0)]:=⟨by kernel_rfl,by kernel_rfl,by kernel_rfl,by kernel_rfl⟩
theorem ty3:Tryz.prog.cellsOf 3=1∧Tryz.prog.bytesOf 3=8∧(Tryz.prog.info? 3).isSome=true∧bE Tryz.prog 3=some [.d (.i .i64 0)]:=⟨by kernel_rfl,by kernel_rfl,by kernel_rfl,by kernel_rfl⟩
theorem ty4:Tryz.prog.cellsOf 4=1∧Tryz.prog.bytesOf 4=1∧(Tryz.prog.info? 4).isSome=true∧bE Tryz.prog 4=some [.d (.b false)]:=⟨by kernel_rfl,by kernel_rfl,by kernel_rfl,by kernel_rfl⟩
theorem adi:zeroV Tryz.prog 4=some (.bool false):=by kernel_rfl
theorem ty5:Tryz.prog.cellsOf 5=1∧Tryz.prog.bytesOf 5=1∧(Tryz.prog.info? 5).isSome=true∧bE Tryz.prog 5=some [.d (.i .u8 0)]:=⟨by kernel_rfl,by kernel_rfl,by kernel_rfl,by kernel_rfl⟩
theorem ty9:Tryz.prog.cellsOf 9=1∧Tryz.prog.bytesOf 9=16∧(Tryz.prog.info? 9).isSome=true∧bE Tryz.prog 9=some [.d (.s [])]:=⟨by kernel_rfl,by kernel_rfl,by kernel_rfl,by kernel_rfl⟩
theorem afg:Tryz.prog.cellsOf 12=1∧Tryz.prog.bytesOf 12=8∧(Tryz.prog.info? 12).isSome=true∧bE Tryz.prog 12=some [.d (.i .u64 0)]:=⟨by kernel_rfl,by kernel_rfl,by kernel_rfl,by kernel_rfl⟩
theorem afh:Tryz.prog.cellsOf 20=1∧Tryz.prog.bytesOf 20=16∧(Tryz.prog.info? 20).isSome=true∧bE Tryz.prog 20=some [.d (.o .nilIface)]:=⟨by kernel_rfl,by kernel_rfl,by kernel_rfl,by kernel_rfl⟩
theorem afi:Tryz.prog.cellsOf 21=1∧Tryz.prog.bytesOf 21=4∧(Tryz.prog.info? 21).isSome=true∧bE Tryz.prog 21=some [.d (.i .i32 0)]:=⟨by kernel_rfl,by kernel_rfl,by kernel_rfl,by kernel_rfl⟩
theorem afj:Tryz.prog.cellsOf 22=1∧Tryz.prog.bytesOf 22=24∧(Tryz.prog.info? 22).isSome=true∧bE Tryz.prog 22=some [.bD []]:=⟨by kernel_rfl,by kernel_rfl,by kernel_rfl,by kernel_rfl⟩
theorem afk:Tryz.prog.cellsOf 23=1∧Tryz.prog.bytesOf 23=24∧(Tryz.prog.info? 23).isSome=true∧bE Tryz.prog 23=some [.bD []]:=⟨by kernel_rfl,by kernel_rfl,by kernel_rfl,by kernel_rfl⟩
theorem afl:Tryz.prog.cellsOf 24=1∧Tryz.prog.bytesOf 24=24∧(Tryz.prog.info? 24).isSome=true∧bE Tryz.prog 24=some [.bD []]:=⟨by kernel_rfl,by kernel_rfl,by kernel_rfl,by kernel_rfl⟩
theorem afm:Tryz.prog.cellsOf 25=1∧Tryz.prog.bytesOf 25=24∧(Tryz.prog.info? 25).isSome=true∧bE Tryz.prog 25=some [.bD []]:=⟨by kernel_rfl,by kernel_rfl,by kernel_rfl,by kernel_rfl⟩
theorem afn:Tryz.prog.cellsOf 26=1∧Tryz.prog.bytesOf 26=24∧(Tryz.prog.info? 26).isSome=true∧bE Tryz.prog 26=some [.bD []]:=⟨by kernel_rfl,by kernel_rfl,by kernel_rfl,by kernel_rfl⟩
theorem afo:Tryz.prog.cellsOf 27=6∧Tryz.prog.bytesOf 27=136∧(Tryz.prog.info? 27).isSome=true∧bE Tryz.prog 27=some [.d (.s []),.bD [],.bD [],.bD [],.bD [],.bD []]:=⟨by kernel_rfl,by kernel_rfl,by kernel_rfl,by kernel_rfl⟩
theorem afp:Tryz.prog.cellsOf 28=6∧Tryz.prog.bytesOf 28=136∧(Tryz.prog.info? 28).isSome=true∧bE Tryz.prog 28=some [.d (.s []),.bD [],.bD [],.bD [],.bD [],.bD []]:=⟨by kernel_rfl,by kernel_rfl,by kernel_rfl,by kernel_rfl⟩
theorem afq:Tryz.prog.cellsOf 29=1∧Tryz.prog.bytesOf 29=8∧(Tryz.prog.info? 29).isSome=true∧bE Tryz.prog 29=some [.d (.o .nilFunc)]:=⟨by kernel_rfl,by kernel_rfl,by kernel_rfl,by kernel_rfl⟩
theorem afr:Tryz.prog.cellsOf 30=1∧Tryz.prog.bytesOf 30=24∧(Tryz.prog.info? 30).isSome=true∧bE Tryz.prog 30=some [.bD []]:=⟨by kernel_rfl,by kernel_rfl,by kernel_rfl,by kernel_rfl⟩
theorem afs:Tryz.prog.cellsOf 31=2∧Tryz.prog.bytesOf 31=40∧(Tryz.prog.info? 31).isSome=true∧bE Tryz.prog 31=some [.d (.s []),.bD []]:=⟨by kernel_rfl,by kernel_rfl,by kernel_rfl,by kernel_rfl⟩
theorem aft:Tryz.prog.cellsOf 32=2∧Tryz.prog.bytesOf 32=40∧(Tryz.prog.info? 32).isSome=true∧bE Tryz.prog 32=some [.d (.s []),.bD []]:=⟨by kernel_rfl,by kernel_rfl,by kernel_rfl,by kernel_rfl⟩
theorem afu:Tryz.prog.cellsOf 34=1∧Tryz.prog.bytesOf 34=24∧(Tryz.prog.info? 34).isSome=true∧bE Tryz.prog 34=some [.bD []]:=⟨by kernel_rfl,by kernel_rfl,by kernel_rfl,by kernel_rfl⟩
theorem afv:Tryz.prog.cellsOf 35=1∧Tryz.prog.bytesOf 35=24∧(Tryz.prog.info? 35).isSome=true∧bE Tryz.prog 35=some [.bD []]:=⟨by kernel_rfl,by kernel_rfl,by kernel_rfl,by kernel_rfl⟩
theorem afw:Tryz.prog.cellsOf 36=1∧Tryz.prog.bytesOf 36=24∧(Tryz.prog.info? 36).isSome=true∧bE Tryz.prog 36=some [.bD []]:=⟨by kernel_rfl,by kernel_rfl,by kernel_rfl,by kernel_rfl⟩
theorem afx:Tryz.prog.cellsOf 37=1∧Tryz.prog.bytesOf 37=24∧(Tryz.prog.info? 37).isSome=true∧bE Tryz.prog 37=some [.bD []]:=⟨by kernel_rfl,by kernel_rfl,by kernel_rfl,by kernel_rfl⟩
theorem afy:Tryz.prog.cellsOf 38=6∧Tryz.prog.bytesOf 38=136∧(Tryz.prog.info? 38).isSome=true∧bE Tryz.prog 38=some [.d (.s []),.bD [],.bD [],.bD [],.bD [],.bD []]:=⟨by kernel_rfl,by kernel_rfl,by kernel_rfl,by kernel_rfl⟩
theorem afz:Tryz.prog.cellsOf 39=6∧Tryz.prog.bytesOf 39=136∧(Tryz.prog.info? 39).isSome=true∧bE Tryz.prog 39=some [.d (.s []),.bD [],.bD [],.bD [],.bD [],.bD []]:=⟨by kernel_rfl,by kernel_rfl,by kernel_rfl,by kernel_rfl⟩
theorem afA:Tryz.prog.cellsOf 40=1∧Tryz.prog.bytesOf 40=8∧(Tryz.prog.info? 40).isSome=true∧bE Tryz.prog 40=some [.d (.o .nilFunc)]:=⟨by kernel_rfl,by kernel_rfl,by kernel_rfl,by kernel_rfl⟩
theorem afB:Tryz.prog.cellsOf 41=1∧Tryz.prog.bytesOf 41=8∧(Tryz.prog.info? 41).isSome=true∧bE Tryz.prog 41=some [.d (.o .nilFunc)]:=⟨by kernel_rfl,by kernel_rfl,by kernel_rfl,by kernel_rfl⟩
theorem afC:Tryz.prog.cellsOf 42=1∧Tryz.prog.bytesOf 42=8∧(Tryz.prog.info? 42).isSome=true∧bE Tryz.prog 42=some [.d (.o .nilFunc)]:=⟨by kernel_rfl,by kernel_rfl,by kernel_rfl,by kernel_rfl⟩
theorem afD:Tryz.prog.cellsOf 43=1∧Tryz.prog.bytesOf 43=8∧(Tryz.prog.info? 43).isSome=true∧bE Tryz.prog 43=some [.d (.o .nilFunc)]:=⟨by kernel_rfl,by kernel_rfl,by kernel_rfl,by kernel_rfl⟩
theorem afE:Tryz.prog.cellsOf 44=1∧Tryz.prog.bytesOf 44=8∧(Tryz.prog.info? 44).isSome=true∧bE Tryz.prog 44=some [.d (.o .nilFunc)]:=⟨by kernel_rfl,by kernel_rfl,by kernel_rfl,by kernel_rfl⟩
theorem afF:Tryz.prog.cellsOf 46=1∧Tryz.prog.bytesOf 46=24∧(Tryz.prog.info? 46).isSome=true∧bE Tryz.prog 46=some [.bD []]:=⟨by kernel_rfl,by kernel_rfl,by kernel_rfl,by kernel_rfl⟩
theorem afG:Tryz.prog.cellsOf 47=3∧Tryz.prog.bytesOf 47=48∧(Tryz.prog.info? 47).isSome=true∧bE Tryz.prog 47=some [.d (.i .i64 0),.d (.s []),.bD []]:=⟨by kernel_rfl,by kernel_rfl,by kernel_rfl,by kernel_rfl⟩
theorem afH:Tryz.prog.cellsOf 48=3∧Tryz.prog.bytesOf 48=48∧(Tryz.prog.info? 48).isSome=true∧bE Tryz.prog 48=some [.d (.i .i64 0),.d (.s []),.bD []]:=⟨by kernel_rfl,by kernel_rfl,by kernel_rfl,by kernel_rfl⟩
theorem afI:Tryz.prog.cellsOf 49=1∧Tryz.prog.bytesOf 49=24∧(Tryz.prog.info? 49).isSome=true∧bE Tryz.prog 49=some [.bD []]:=⟨by kernel_rfl,by kernel_rfl,by kernel_rfl,by kernel_rfl⟩
theorem afJ:Tryz.prog.cellsOf 50=1∧Tryz.prog.bytesOf 50=24∧(Tryz.prog.info? 50).isSome=true∧bE Tryz.prog 50=some [.bD []]:=⟨by kernel_rfl,by kernel_rfl,by kernel_rfl,by kernel_rfl⟩
theorem afK:Tryz.prog.cellsOf 51=9∧Tryz.prog.bytesOf 51=144∧(Tryz.prog.info? 51).isSome=true∧bE Tryz.prog 51=some [.d (.i .i64 0),.d (.s []),.d (.s []),.d (.i .i64 0),.d (.i .i64 0),.d (.s []),.bD [],.bD [],.bD []]:=⟨by kernel_rfl,by kernel_rfl,by kernel_rfl,by kernel_rfl⟩
theorem afL:Tryz.prog.cellsOf 52=9∧Tryz.prog.bytesOf 52=144∧(Tryz.prog.info? 52).isSome=true∧bE Tryz.prog 52=some [.d (.i .i64 0),.d (.s []),.d (.s []),.d (.i .i64 0),.d (.i .i64 0),.d (.s []),.bD [],.bD [],.bD []]:=⟨by kernel_rfl,by kernel_rfl,by kernel_rfl,by kernel_rfl⟩
theorem afM:Tryz.prog.cellsOf 53=1∧Tryz.prog.bytesOf 53=8∧(Tryz.prog.info? 53).isSome=true∧bE Tryz.prog 53=some [.d (.o .nilFunc)]:=⟨by kernel_rfl,by kernel_rfl,by kernel_rfl,by kernel_rfl⟩
theorem afN:Tryz.prog.cellsOf 54=1∧Tryz.prog.bytesOf 54=8∧(Tryz.prog.info? 54).isSome=true∧bE Tryz.prog 54=some [.d (.o .nilFunc)]:=⟨by kernel_rfl,by kernel_rfl,by kernel_rfl,by kernel_rfl⟩
theorem afO:Tryz.prog.cellsOf 55=1∧Tryz.prog.bytesOf 55=24∧(Tryz.prog.info? 55).isSome=true∧bE Tryz.prog 55=some [.bD []]:=⟨by kernel_rfl,by kernel_rfl,by kernel_rfl,by kernel_rfl⟩
theorem afP:Tryz.prog.cellsOf 56=3∧Tryz.prog.bytesOf 56=48∧(Tryz.prog.info? 56).isSome=true∧bE Tryz.prog 56=some [.d (.i .i64 0),.d (.s []),.bD []]:=⟨by kernel_rfl,by kernel_rfl,by kernel_rfl,by kernel_rfl⟩
theorem afQ:Tryz.prog.cellsOf 57=3∧Tryz.prog.bytesOf 57=48∧(Tryz.prog.info? 57).isSome=true∧bE Tryz.prog 57=some [.d (.i .i64 0),.d (.s []),.bD []]:=⟨by kernel_rfl,by kernel_rfl,by kernel_rfl,by kernel_rfl⟩
theorem afR:Tryz.prog.cellsOf 58=1∧Tryz.prog.bytesOf 58=24∧(Tryz.prog.info? 58).isSome=true∧bE Tryz.prog 58=some [.bD []]:=⟨by kernel_rfl,by kernel_rfl,by kernel_rfl,by kernel_rfl⟩
theorem afS:Tryz.prog.cellsOf 59=1∧Tryz.prog.bytesOf 59=24∧(Tryz.prog.info? 59).isSome=true∧bE Tryz.prog 59=some [.bD []]:=⟨by kernel_rfl,by kernel_rfl,by kernel_rfl,by kernel_rfl⟩
theorem afT:Tryz.prog.cellsOf 60=9∧Tryz.prog.bytesOf 60=144∧(Tryz.prog.info? 60).isSome=true∧bE Tryz.prog 60=some [.d (.i .i64 0),.d (.s []),.d (.s []),.d (.i .i64 0),.d (.i .i64 0),.d (.s []),.bD [],.bD [],.bD []]:=⟨by kernel_rfl,by kernel_rfl,by kernel_rfl,by kernel_rfl⟩
theorem afU:Tryz.prog.cellsOf 61=9∧Tryz.prog.bytesOf 61=144∧(Tryz.prog.info? 61).isSome=true∧bE Tryz.prog 61=some [.d (.i .i64 0),.d (.s []),.d (.s []),.d (.i .i64 0),.d (.i .i64 0),.d (.s []),.bD [],.bD [],.bD []]:=⟨by kernel_rfl,by kernel_rfl,by kernel_rfl,by kernel_rfl⟩
theorem afV:Tryz.prog.cellsOf 63=1∧Tryz.prog.bytesOf 63=8∧(Tryz.prog.info? 63).isSome=true∧bE Tryz.prog 63=some [.d (.o .nilFunc)]:=⟨by kernel_rfl,by kernel_rfl,by kernel_rfl,by kernel_rfl⟩
theorem afW:Tryz.prog.cellsOf 64=1∧Tryz.prog.bytesOf 64=8∧(Tryz.prog.info? 64).isSome=true∧bE Tryz.prog 64=some [.d (.o .nilFunc)]:=⟨by kernel_rfl,by kernel_rfl,by kernel_rfl,by kernel_rfl⟩
theorem afX:Tryz.prog.cellsOf 65=1∧Tryz.prog.bytesOf 65=8∧(Tryz.prog.info? 65).isSome=true∧bE Tryz.prog 65=some [.d (.o .nilFunc)]:=⟨by kernel_rfl,by kernel_rfl,by kernel_rfl,by kernel_rfl⟩
theorem afY:Tryz.prog.cellsOf 66=1∧Tryz.prog.bytesOf 66=24∧(Tryz.prog.info? 66).isSome=true∧bE Tryz.prog 66=some [.bD []]:=⟨by kernel_rfl,by kernel_rfl,by kernel_rfl,by kernel_rfl⟩
theorem afZ:Tryz.prog.cellsOf 67=2∧Tryz.prog.bytesOf 67=40∧(Tryz.prog.info? 67).isSome=true∧bE Tryz.prog 67=some [.d (.s []),.bD []]:=⟨by kernel_rfl,by kernel_rfl,by kernel_rfl,by kernel_rfl⟩
theorem af0:Tryz.prog.cellsOf 68=2∧Tryz.prog.bytesOf 68=40∧(Tryz.prog.info? 68).isSome=true∧bE Tryz.prog 68=some [.d (.s []),.bD []]:=⟨by kernel_rfl,by kernel_rfl,by kernel_rfl,by kernel_rfl⟩
theorem af2:Tryz.prog.cellsOf 69=1∧Tryz.prog.bytesOf 69=8∧(Tryz.prog.info? 69).isSome=true∧bE Tryz.prog 69=some [.d (.o .nilFunc)]:=⟨by kernel_rfl,by kernel_rfl,by kernel_rfl,by kernel_rfl⟩
theorem af3:Tryz.prog.cellsOf 71=1∧Tryz.prog.bytesOf 71=8∧(Tryz.prog.info? 71).isSome=true∧bE Tryz.prog 71=some [.d (.o .nilFunc)]:=⟨by kernel_rfl,by kernel_rfl,by kernel_rfl,by kernel_rfl⟩
theorem af4:Tryz.prog.cellsOf 75=1∧Tryz.prog.bytesOf 75=24∧(Tryz.prog.info? 75).isSome=true∧bE Tryz.prog 75=some [.bD []]:=⟨by kernel_rfl,by kernel_rfl,by kernel_rfl,by kernel_rfl⟩
theorem af5:Tryz.prog.cellsOf 76=1∧Tryz.prog.bytesOf 76=24∧(Tryz.prog.info? 76).isSome=true∧bE Tryz.prog 76=some [.bD []]:=⟨by kernel_rfl,by kernel_rfl,by kernel_rfl,by kernel_rfl⟩
theorem af6:Tryz.prog.cellsOf 77=16∧Tryz.prog.bytesOf 77=280∧(Tryz.prog.info? 77).isSome=true∧bE Tryz.prog 77=some [.d (.s []),.bD [],.bD [],.bD [],.d (.i .i64 0),.d (.s []),.bD [],.d (.i .i64 0),.d (.s []),.d (.s []),.d (.i .i64 0),.d (.i .i64 0),.d (.s []),.bD [],.bD [],.bD []]:=⟨by kernel_rfl,by kernel_rfl,by kernel_rfl,by kernel_rfl⟩
theorem af7:Tryz.prog.cellsOf 78=16∧Tryz.prog.bytesOf 78=280∧(Tryz.prog.info? 78).isSome=true∧bE Tryz.prog 78=some [.d (.s []),.bD [],.bD [],.bD [],.d (.i .i64 0),.d (.s []),.bD [],.d (.i .i64 0),.d (.s []),.d (.s []),.d (.i .i64 0),.d (.i .i64 0),.d (.s []),.bD [],.bD [],.bD []]:=⟨by kernel_rfl,by kernel_rfl,by kernel_rfl,by kernel_rfl⟩
theorem af8:Tryz.prog.cellsOf 80=1∧Tryz.prog.bytesOf 80=8∧(Tryz.prog.info? 80).isSome=true∧bE Tryz.prog 80=some [.d (.o .nilFunc)]:=⟨by kernel_rfl,by kernel_rfl,by kernel_rfl,by kernel_rfl⟩
theorem af9:Tryz.prog.cellsOf 81=1∧Tryz.prog.bytesOf 81=8∧(Tryz.prog.info? 81).isSome=true∧bE Tryz.prog 81=some [.d (.o .nilFunc)]:=⟨by kernel_rfl,by kernel_rfl,by kernel_rfl,by kernel_rfl⟩
theorem aga:Tryz.prog.cellsOf 82=1∧Tryz.prog.bytesOf 82=8∧(Tryz.prog.info? 82).isSome=true∧bE Tryz.prog 82=some [.d (.o .nilFunc)]:=⟨by kernel_rfl,by kernel_rfl,by kernel_rfl,by kernel_rfl⟩
theorem agb:Tryz.prog.cellsOf 83=1∧Tryz.prog.bytesOf 83=24∧(Tryz.prog.info? 83).isSome=true∧bE Tryz.prog 83=some [.bD []]:=⟨by kernel_rfl,by kernel_rfl,by kernel_rfl,by kernel_rfl⟩
theorem agc:Tryz.prog.cellsOf 84=5∧Tryz.prog.bytesOf 84=72∧(Tryz.prog.info? 84).isSome=true∧bE Tryz.prog 84=some [.d (.s []),.bD [],.d (.b false),.d (.b false),.bD []]:=⟨by kernel_rfl,by kernel_rfl,by kernel_rfl,by kernel_rfl⟩
theorem agd:Tryz.prog.cellsOf 85=5∧Tryz.prog.bytesOf 85=72∧(Tryz.prog.info? 85).isSome=true∧bE Tryz.prog 85=some [.d (.s []),.bD [],.d (.b false),.d (.b false),.bD []]:=⟨by kernel_rfl,by kernel_rfl,by kernel_rfl,by kernel_rfl⟩
theorem agf:Tryz.prog.cellsOf 90=1∧Tryz.prog.bytesOf 90=24∧(Tryz.prog.info? 90).isSome=true∧bE Tryz.prog 90=some [.bD []]:=⟨by kernel_rfl,by kernel_rfl,by kernel_rfl,by kernel_rfl⟩
theorem agh:Tryz.prog.cellsOf 91=12∧Tryz.prog.bytesOf 91=192∧(Tryz.prog.info? 91).isSome=true∧bE Tryz.prog 91=some [.d (.s []),.bD [],.d (.i .i64 0),.d (.s []),.bD [],.bD [],.d (.b false),.d (.b false),.d (.i .i64 0),.d (.s []),.bD [],.bD []]:=⟨by kernel_rfl,by kernel_rfl,by kernel_rfl,by kernel_rfl⟩
theorem agi:Tryz.prog.cellsOf 92=12∧Tryz.prog.bytesOf 92=192∧(Tryz.prog.info? 92).isSome=true∧bE Tryz.prog 92=some [.d (.s []),.bD [],.d (.i .i64 0),.d (.s []),.bD [],.bD [],.d (.b false),.d (.b false),.d (.i .i64 0),.d (.s []),.bD [],.bD []]:=⟨by kernel_rfl,by kernel_rfl,by kernel_rfl,by kernel_rfl⟩
theorem agj:Tryz.prog.cellsOf 95=1∧Tryz.prog.bytesOf 95=8∧(Tryz.prog.info? 95).isSome=true∧bE Tryz.prog 95=some [.d (.o .nilFunc)]:=⟨by kernel_rfl,by kernel_rfl,by kernel_rfl,by kernel_rfl⟩
theorem agk:Tryz.prog.cellsOf 96=1∧Tryz.prog.bytesOf 96=8∧(Tryz.prog.info? 96).isSome=true∧bE Tryz.prog 96=some [.d (.o .nilFunc)]:=⟨by kernel_rfl,by kernel_rfl,by kernel_rfl,by kernel_rfl⟩
theorem agl:Tryz.prog.cellsOf 97=1∧Tryz.prog.bytesOf 97=8∧(Tryz.prog.info? 97).isSome=true∧bE Tryz.prog 97=some [.d (.o .nilFunc)]:=⟨by kernel_rfl,by kernel_rfl,by kernel_rfl,by kernel_rfl⟩
theorem adj:Tryz.prog.cellsOf 108=1∧Tryz.prog.bytesOf 108=24∧(Tryz.prog.info? 108).isSome=true∧bE Tryz.prog 108=some [.bD []]:=⟨by kernel_rfl,by kernel_rfl,by kernel_rfl,by kernel_rfl⟩
theorem adk:Tryz.prog.cellsOf 109=3∧Tryz.prog.bytesOf 109=64∧(Tryz.prog.info? 109).isSome=true∧bE Tryz.prog 109=some [.d (.s []),.bD [],.bD []]:=⟨by kernel_rfl,by kernel_rfl,by kernel_rfl,by kernel_rfl⟩
theorem adl:Tryz.prog.cellsOf 110=3∧Tryz.prog.bytesOf 110=64∧(Tryz.prog.info? 110).isSome=true∧bE Tryz.prog 110=some [.d (.s []),.bD [],.bD []]:=⟨by kernel_rfl,by kernel_rfl,by kernel_rfl,by kernel_rfl⟩
theorem adn:Tryz.prog.cellsOf 119=1∧Tryz.prog.bytesOf 119=8∧(Tryz.prog.info? 119).isSome=true∧bE Tryz.prog 119=some [.d (.o .nilFunc)]:=⟨by kernel_rfl,by kernel_rfl,by kernel_rfl,by kernel_rfl⟩
theorem ado:Tryz.prog.cellsOf 127=1∧Tryz.prog.bytesOf 127=8∧(Tryz.prog.info? 127).isSome=true∧bE Tryz.prog 127=some [.d (.o .nilFunc)]:=⟨by kernel_rfl,by kernel_rfl,by kernel_rfl,by kernel_rfl⟩
theorem adp:Tryz.prog.cellsOf 128=1∧Tryz.prog.bytesOf 128=8∧(Tryz.prog.info? 128).isSome=true∧bE Tryz.prog 128=some [.d (.o .nilFunc)]:=⟨by kernel_rfl,by kernel_rfl,by kernel_rfl,by kernel_rfl⟩
theorem adq:Tryz.prog.cellsOf 129=1∧Tryz.prog.bytesOf 129=8∧(Tryz.prog.info? 129).isSome=true∧bE Tryz.prog 129=some [.d (.o .nilFunc)]:=⟨by kernel_rfl,by kernel_rfl,by kernel_rfl,by kernel_rfl⟩
theorem adr:Tryz.prog.cellsOf 140=1∧Tryz.prog.bytesOf 140=8∧(Tryz.prog.info? 140).isSome=true∧bE Tryz.prog 140=some [.d (.o .nilFunc)]:=⟨by kernel_rfl,by kernel_rfl,by kernel_rfl,by kernel_rfl⟩
theorem ads:Tryz.prog.cellsOf 145=1∧Tryz.prog.bytesOf 145=8∧(Tryz.prog.info? 145).isSome=true∧bE Tryz.prog 145=some [.d (.o .nilFunc)]:=⟨by kernel_rfl,by kernel_rfl,by kernel_rfl,by kernel_rfl⟩
theorem adt:Tryz.prog.cellsOf 154=4∧Tryz.prog.bytesOf 154=64∧(Tryz.prog.info? 154).isSome=true∧bE Tryz.prog 154=some [.d (.s []),.d (.i .i64 0),.d (.s []),.bD []]:=⟨by kernel_rfl,by kernel_rfl,by kernel_rfl,by kernel_rfl⟩
theorem adu:Tryz.prog.cellsOf 155=4∧Tryz.prog.bytesOf 155=64∧(Tryz.prog.info? 155).isSome=true∧bE Tryz.prog 155=some [.d (.s []),.d (.i .i64 0),.d (.s []),.bD []]:=⟨by kernel_rfl,by kernel_rfl,by kernel_rfl,by kernel_rfl⟩
theorem adv:Tryz.prog.cellsOf 165=16∧Tryz.prog.bytesOf 165=264∧(Tryz.prog.info? 165).isSome=true∧bE Tryz.prog 165=some [.d (.s []),.bD [],.d (.i .i64 0),.d (.s []),.bD [],.d (.b false),.bD [],.d (.i .i64 0),.d (.s []),.d (.s []),.d (.i .i64 0),.d (.i .i64 0),.d (.s []),.bD [],.bD [],.bD []]:=⟨by kernel_rfl,by kernel_rfl,by kernel_rfl,by kernel_rfl⟩
theorem adw:Tryz.prog.cellsOf 166=16∧Tryz.prog.bytesOf 166=264∧(Tryz.prog.info? 166).isSome=true∧bE Tryz.prog 166=some [.d (.s []),.bD [],.d (.i .i64 0),.d (.s []),.bD [],.d (.b false),.bD [],.d (.i .i64 0),.d (.s []),.d (.s []),.d (.i .i64 0),.d (.i .i64 0),.d (.s []),.bD [],.bD [],.bD []]:=⟨by kernel_rfl,by kernel_rfl,by kernel_rfl,by kernel_rfl⟩
theorem adx:Tryz.prog.cellsOf 171=11∧Tryz.prog.bytesOf 171=184∧(Tryz.prog.info? 171).isSome=true∧bE Tryz.prog 171=some [.d (.s []),.bD [],.d (.i .i64 0),.d (.s []),.d (.s []),.d (.i .i64 0),.d (.i .i64 0),.d (.s []),.bD [],.bD [],.bD []]:=⟨by kernel_rfl,by kernel_rfl,by kernel_rfl,by kernel_rfl⟩
theorem ady:Tryz.prog.cellsOf 172=11∧Tryz.prog.bytesOf 172=184∧(Tryz.prog.info? 172).isSome=true∧bE Tryz.prog 172=some [.d (.s []),.bD [],.d (.i .i64 0),.d (.s []),.d (.s []),.d (.i .i64 0),.d (.i .i64 0),.d (.s []),.bD [],.bD [],.bD []]:=⟨by kernel_rfl,by kernel_rfl,by kernel_rfl,by kernel_rfl⟩
theorem adz:Tryz.prog.cellsOf 177=1∧Tryz.prog.bytesOf 177=24∧(Tryz.prog.info? 177).isSome=true∧bE Tryz.prog 177=some [.bD []]:=⟨by kernel_rfl,by kernel_rfl,by kernel_rfl,by kernel_rfl⟩
theorem adA:Tryz.prog.cellsOf 178=5∧Tryz.prog.bytesOf 178=72∧(Tryz.prog.info? 178).isSome=true∧bE Tryz.prog 178=some [.d (.s []),.bD [],.d (.b false),.d (.b false),.bD []]:=⟨by kernel_rfl,by kernel_rfl,by kernel_rfl,by kernel_rfl⟩
theorem adB:Tryz.prog.cellsOf 179=5∧Tryz.prog.bytesOf 179=72∧(Tryz.prog.info? 179).isSome=true∧bE Tryz.prog 179=some [.d (.s []),.bD [],.d (.b false),.d (.b false),.bD []]:=⟨by kernel_rfl,by kernel_rfl,by kernel_rfl,by kernel_rfl⟩
theorem adC:Tryz.prog.cellsOf 181=1∧Tryz.prog.bytesOf 181=24∧(Tryz.prog.info? 181).isSome=true∧bE Tryz.prog 181=some [.bD []]:=⟨by kernel_rfl,by kernel_rfl,by kernel_rfl,by kernel_rfl⟩
theorem adD:Tryz.prog.cellsOf 182=3∧Tryz.prog.bytesOf 182=64∧(Tryz.prog.info? 182).isSome=true∧bE Tryz.prog 182=some [.d (.s []),.bD [],.bD []]:=⟨by kernel_rfl,by kernel_rfl,by kernel_rfl,by kernel_rfl⟩
theorem adE:Tryz.prog.cellsOf 183=3∧Tryz.prog.bytesOf 183=64∧(Tryz.prog.info? 183).isSome=true∧bE Tryz.prog 183=some [.d (.s []),.bD [],.bD []]:=⟨by kernel_rfl,by kernel_rfl,by kernel_rfl,by kernel_rfl⟩
theorem adF:Tryz.prog.cellsOf 185=1∧Tryz.prog.bytesOf 185=24∧(Tryz.prog.info? 185).isSome=true∧bE Tryz.prog 185=some [.bD []]:=⟨by kernel_rfl,by kernel_rfl,by kernel_rfl,by kernel_rfl⟩
theorem adG:Tryz.prog.cellsOf 186=1∧Tryz.prog.bytesOf 186=24∧(Tryz.prog.info? 186).isSome=true∧bE Tryz.prog 186=some [.bD []]:=⟨by kernel_rfl,by kernel_rfl,by kernel_rfl,by kernel_rfl⟩
theorem adH:Tryz.prog.cellsOf 187=12∧Tryz.prog.bytesOf 187=192∧(Tryz.prog.info? 187).isSome=true∧bE Tryz.prog 187=some [.d (.s []),.bD [],.d (.i .i64 0),.d (.s []),.bD [],.bD [],.d (.b false),.d (.b false),.d (.i .i64 0),.d (.s []),.bD [],.bD []]:=⟨by kernel_rfl,by kernel_rfl,by kernel_rfl,by kernel_rfl⟩
theorem adI:Tryz.prog.cellsOf 188=12∧Tryz.prog.bytesOf 188=192∧(Tryz.prog.info? 188).isSome=true∧bE Tryz.prog 188=some [.d (.s []),.bD [],.d (.i .i64 0),.d (.s []),.bD [],.bD [],.d (.b false),.d (.b false),.d (.i .i64 0),.d (.s []),.bD [],.bD []]:=⟨by kernel_rfl,by kernel_rfl,by kernel_rfl,by kernel_rfl⟩
theorem adJ:Tryz.prog.cellsOf 190=1∧Tryz.prog.bytesOf 190=24∧(Tryz.prog.info? 190).isSome=true∧bE Tryz.prog 190=some [.bD []]:=⟨by kernel_rfl,by kernel_rfl,by kernel_rfl,by kernel_rfl⟩
theorem adK:Tryz.prog.cellsOf 191=16∧Tryz.prog.bytesOf 191=280∧(Tryz.prog.info? 191).isSome=true∧bE Tryz.prog 191=some [.d (.s []),.bD [],.bD [],.bD [],.d (.i .i64 0),.d (.s []),.bD [],.d (.i .i64 0),.d (.s []),.d (.s []),.d (.i .i64 0),.d (.i .i64 0),.d (.s []),.bD [],.bD [],.bD []]:=⟨by kernel_rfl,by kernel_rfl,by kernel_rfl,by kernel_rfl⟩
theorem adL:Tryz.prog.cellsOf 192=16∧Tryz.prog.bytesOf 192=280∧(Tryz.prog.info? 192).isSome=true∧bE Tryz.prog 192=some [.d (.s []),.bD [],.bD [],.bD [],.d (.i .i64 0),.d (.s []),.bD [],.d (.i .i64 0),.d (.s []),.d (.s []),.d (.i .i64 0),.d (.i .i64 0),.d (.s []),.bD [],.bD [],.bD []]:=⟨by kernel_rfl,by kernel_rfl,by kernel_rfl,by kernel_rfl⟩
theorem adM:Tryz.prog.cellsOf 195=1∧Tryz.prog.bytesOf 195=8∧(Tryz.prog.info? 195).isSome=true∧bE Tryz.prog 195=some [.d (.o .nilFunc)]:=⟨by kernel_rfl,by kernel_rfl,by kernel_rfl,by kernel_rfl⟩
theorem adN:Tryz.prog.cellsOf 201=2∧Tryz.prog.bytesOf 201=40∧(Tryz.prog.info? 201).isSome=true∧bE Tryz.prog 201=some [.d (.s []),.bD []]:=⟨by kernel_rfl,by kernel_rfl,by kernel_rfl,by kernel_rfl⟩
theorem adO:Tryz.prog.cellsOf 202=2∧Tryz.prog.bytesOf 202=40∧(Tryz.prog.info? 202).isSome=true∧bE Tryz.prog 202=some [.d (.s []),.bD []]:=⟨by kernel_rfl,by kernel_rfl,by kernel_rfl,by kernel_rfl⟩
theorem adP:Tryz.prog.cellsOf 211=1∧Tryz.prog.bytesOf 211=24∧(Tryz.prog.info? 211).isSome=true∧bE Tryz.prog 211=some [.bD []]:=⟨by kernel_rfl,by kernel_rfl,by kernel_rfl,by kernel_rfl⟩
theorem adQ:Tryz.prog.cellsOf 219=11∧Tryz.prog.bytesOf 219=184∧(Tryz.prog.info? 219).isSome=true∧bE Tryz.prog 219=some [.d (.s []),.bD [],.d (.i .i64 0),.d (.s []),.d (.s []),.d (.i .i64 0),.d (.i .i64 0),.d (.s []),.bD [],.bD [],.bD []]:=⟨by kernel_rfl,by kernel_rfl,by kernel_rfl,by kernel_rfl⟩
theorem adR:Tryz.prog.cellsOf 220=11∧Tryz.prog.bytesOf 220=184∧(Tryz.prog.info? 220).isSome=true∧bE Tryz.prog 220=some [.d (.s []),.bD [],.d (.i .i64 0),.d (.s []),.d (.s []),.d (.i .i64 0),.d (.i .i64 0),.d (.s []),.bD [],.bD [],.bD []]:=⟨by kernel_rfl,by kernel_rfl,by kernel_rfl,by kernel_rfl⟩
theorem adS:Tryz.prog.cellsOf 222=11∧Tryz.prog.bytesOf 222=184∧(Tryz.prog.info? 222).isSome=true∧bE Tryz.prog 222=some [.d (.s []),.bD [],.d (.i .i64 0),.d (.s []),.d (.s []),.d (.i .i64 0),.d (.i .i64 0),.d (.s []),.bD [],.bD [],.bD []]:=⟨by kernel_rfl,by kernel_rfl,by kernel_rfl,by kernel_rfl⟩
theorem adT:Tryz.prog.cellsOf 223=11∧Tryz.prog.bytesOf 223=184∧(Tryz.prog.info? 223).isSome=true∧bE Tryz.prog 223=some [.d (.s []),.bD [],.d (.i .i64 0),.d (.s []),.d (.s []),.d (.i .i64 0),.d (.i .i64 0),.d (.s []),.bD [],.bD [],.bD []]:=⟨by kernel_rfl,by kernel_rfl,by kernel_rfl,by kernel_rfl⟩
theorem adU:Tryz.prog.cellsOf 226=1∧Tryz.prog.bytesOf 226=8∧(Tryz.prog.info? 226).isSome=true∧bE Tryz.prog 226=some [.d (.o (.pointer none))]:=⟨by kernel_rfl,by kernel_rfl,by kernel_rfl,by kernel_rfl⟩
theorem adV:Tryz.prog.cellsOf 227=1∧Tryz.prog.bytesOf 227=24∧(Tryz.prog.info? 227).isSome=true∧bE Tryz.prog 227=some [.bD []]:=⟨by kernel_rfl,by kernel_rfl,by kernel_rfl,by kernel_rfl⟩
theorem adW:Tryz.prog.cellsOf 228=2∧Tryz.prog.bytesOf 228=32∧(Tryz.prog.info? 228).isSome=true∧bE Tryz.prog 228=some [.d (.o (.pointer none)),.bD []]:=⟨by kernel_rfl,by kernel_rfl,by kernel_rfl,by kernel_rfl⟩
theorem adX:Tryz.prog.cellsOf 229=2∧Tryz.prog.bytesOf 229=32∧(Tryz.prog.info? 229).isSome=true∧bE Tryz.prog 229=some [.d (.o (.pointer none)),.bD []]:=⟨by kernel_rfl,by kernel_rfl,by kernel_rfl,by kernel_rfl⟩
theorem adY:Tryz.prog.cellsOf 233=1∧Tryz.prog.bytesOf 233=8∧(Tryz.prog.info? 233).isSome=true∧bE Tryz.prog 233=some [.d (.o .nilFunc)]:=⟨by kernel_rfl,by kernel_rfl,by kernel_rfl,by kernel_rfl⟩
theorem adZ:Tryz.prog.cellsOf 246=4∧Tryz.prog.bytesOf 246=64∧(Tryz.prog.info? 246).isSome=true∧bE Tryz.prog 246=some [.d (.s []),.d (.i .i64 0),.d (.s []),.bD []]:=⟨by kernel_rfl,by kernel_rfl,by kernel_rfl,by kernel_rfl⟩
theorem ad1:Tryz.prog.cellsOf 247=4∧Tryz.prog.bytesOf 247=64∧(Tryz.prog.info? 247).isSome=true∧bE Tryz.prog 247=some [.d (.s []),.d (.i .i64 0),.d (.s []),.bD []]:=⟨by kernel_rfl,by kernel_rfl,by kernel_rfl,by kernel_rfl⟩
theorem ad2:Tryz.prog.cellsOf 262=1∧Tryz.prog.bytesOf 262=8∧(Tryz.prog.info? 262).isSome=true∧bE Tryz.prog 262=some [.d (.o .nilFunc)]:=⟨by kernel_rfl,by kernel_rfl,by kernel_rfl,by kernel_rfl⟩
theorem ad3:Tryz.prog.cellsOf 280=4∧Tryz.prog.bytesOf 280=96∧(Tryz.prog.info? 280).isSome=true∧bE Tryz.prog 280=some [.bD [],.bD [],.bD [],.bD []]:=⟨by kernel_rfl,by kernel_rfl,by kernel_rfl,by kernel_rfl⟩
theorem ad4:Tryz.prog.cellsOf 285=1∧Tryz.prog.bytesOf 285=16∧(Tryz.prog.info? 285).isSome=true∧bE Tryz.prog 285=some [.d (.o .nilIface)]:=⟨by kernel_rfl,by kernel_rfl,by kernel_rfl,by kernel_rfl⟩
theorem ad5:Tryz.prog.cellsOf 286=1∧Tryz.prog.bytesOf 286=16∧(Tryz.prog.info? 286).isSome=true∧bE Tryz.prog 286=some [.d (.o .nilIface)]:=⟨by kernel_rfl,by kernel_rfl,by kernel_rfl,by kernel_rfl⟩
theorem ad6:Tryz.prog.cellsOf 290=1∧Tryz.prog.bytesOf 290=8∧(Tryz.prog.info? 290).isSome=true∧bE Tryz.prog 290=some [.d (.o (.pointer none))]:=⟨by kernel_rfl,by kernel_rfl,by kernel_rfl,by kernel_rfl⟩
theorem ad7:Tryz.prog.cellsOf 297=1∧Tryz.prog.bytesOf 297=8∧(Tryz.prog.info? 297).isSome=true∧bE Tryz.prog 297=some [.d (.o .nilFunc)]:=⟨by kernel_rfl,by kernel_rfl,by kernel_rfl,by kernel_rfl⟩
theorem ad8:Tryz.prog.cellsOf 298=1∧Tryz.prog.bytesOf 298=24∧(Tryz.prog.info? 298).isSome=true∧bE Tryz.prog 298=some [.bD []]:=⟨by kernel_rfl,by kernel_rfl,by kernel_rfl,by kernel_rfl⟩
theorem ad9:Tryz.prog.cellsOf 301=1∧Tryz.prog.bytesOf 301=8∧(Tryz.prog.info? 301).isSome=true∧bE Tryz.prog 301=some [.d (.o .nilFunc)]:=⟨by kernel_rfl,by kernel_rfl,by kernel_rfl,by kernel_rfl⟩
theorem aea:Tryz.prog.cellsOf 304=1∧Tryz.prog.bytesOf 304=8∧(Tryz.prog.info? 304).isSome=true∧bE Tryz.prog 304=some [.d (.o (.map none))]:=⟨by kernel_rfl,by kernel_rfl,by kernel_rfl,by kernel_rfl⟩
theorem aeb:Tryz.prog.cellsOf 306=1∧Tryz.prog.bytesOf 306=8∧(Tryz.prog.info? 306).isSome=true∧bE Tryz.prog 306=some [.d (.o .nilFunc)]:=⟨by kernel_rfl,by kernel_rfl,by kernel_rfl,by kernel_rfl⟩
theorem aec:Tryz.prog.cellsOf 309=16∧Tryz.prog.bytesOf 309=264∧(Tryz.prog.info? 309).isSome=true∧bE Tryz.prog 309=some [.d (.s []),.bD [],.d (.i .i64 0),.d (.s []),.bD [],.d (.b false),.bD [],.d (.i .i64 0),.d (.s []),.d (.s []),.d (.i .i64 0),.d (.i .i64 0),.d (.s []),.bD [],.bD [],.bD []]:=⟨by kernel_rfl,by kernel_rfl,by kernel_rfl,by kernel_rfl⟩
theorem aed:Tryz.prog.cellsOf 310=16∧Tryz.prog.bytesOf 310=264∧(Tryz.prog.info? 310).isSome=true∧bE Tryz.prog 310=some [.d (.s []),.bD [],.d (.i .i64 0),.d (.s []),.bD [],.d (.b false),.bD [],.d (.i .i64 0),.d (.s []),.d (.s []),.d (.i .i64 0),.d (.i .i64 0),.d (.s []),.bD [],.bD [],.bD []]:=⟨by kernel_rfl,by kernel_rfl,by kernel_rfl,by kernel_rfl⟩
theorem aee:Tryz.prog.cellsOf 312=2∧Tryz.prog.bytesOf 312=40∧(Tryz.prog.info? 312).isSome=true∧bE Tryz.prog 312=some [.d (.s []),.bD []]:=⟨by kernel_rfl,by kernel_rfl,by kernel_rfl,by kernel_rfl⟩
theorem aef:Tryz.prog.cellsOf 313=2∧Tryz.prog.bytesOf 313=40∧(Tryz.prog.info? 313).isSome=true∧bE Tryz.prog 313=some [.d (.s []),.bD []]:=⟨by kernel_rfl,by kernel_rfl,by kernel_rfl,by kernel_rfl⟩
theorem aeg:Tryz.prog.cellsOf 315=4∧Tryz.prog.bytesOf 315=64∧(Tryz.prog.info? 315).isSome=true∧bE Tryz.prog 315=some [.d (.s []),.d (.i .i64 0),.d (.s []),.bD []]:=⟨by kernel_rfl,by kernel_rfl,by kernel_rfl,by kernel_rfl⟩
theorem aeh:Tryz.prog.cellsOf 316=4∧Tryz.prog.bytesOf 316=64∧(Tryz.prog.info? 316).isSome=true∧bE Tryz.prog 316=some [.d (.s []),.d (.i .i64 0),.d (.s []),.bD []]:=⟨by kernel_rfl,by kernel_rfl,by kernel_rfl,by kernel_rfl⟩
theorem aei:Tryz.prog.cellsOf 318=11∧Tryz.prog.bytesOf 318=184∧(Tryz.prog.info? 318).isSome=true∧bE Tryz.prog 318=some [.d (.s []),.bD [],.d (.i .i64 0),.d (.s []),.d (.s []),.d (.i .i64 0),.d (.i .i64 0),.d (.s []),.bD [],.bD [],.bD []]:=⟨by kernel_rfl,by kernel_rfl,by kernel_rfl,by kernel_rfl⟩
theorem aej:Tryz.prog.cellsOf 319=11∧Tryz.prog.bytesOf 319=184∧(Tryz.prog.info? 319).isSome=true∧bE Tryz.prog 319=some [.d (.s []),.bD [],.d (.i .i64 0),.d (.s []),.d (.s []),.d (.i .i64 0),.d (.i .i64 0),.d (.s []),.bD [],.bD [],.bD []]:=⟨by kernel_rfl,by kernel_rfl,by kernel_rfl,by kernel_rfl⟩
theorem aek:Tryz.prog.cellsOf 321=4∧Tryz.prog.bytesOf 321=64∧(Tryz.prog.info? 321).isSome=true∧bE Tryz.prog 321=some [.d (.s []),.d (.i .i64 0),.d (.s []),.bD []]:=⟨by kernel_rfl,by kernel_rfl,by kernel_rfl,by kernel_rfl⟩
theorem ael:Tryz.prog.cellsOf 322=4∧Tryz.prog.bytesOf 322=64∧(Tryz.prog.info? 322).isSome=true∧bE Tryz.prog 322=some [.d (.s []),.d (.i .i64 0),.d (.s []),.bD []]:=⟨by kernel_rfl,by kernel_rfl,by kernel_rfl,by kernel_rfl⟩
theorem aem:Tryz.prog.cellsOf 358=24∧Tryz.prog.bytesOf 358=24∧(Tryz.prog.info? 358).isSome=true∧bE Tryz.prog 358=some [.d (.i .u8 0),.d (.i .u8 0),.d (.i .u8 0),.d (.i .u8 0),.d (.i .u8 0),.d (.i .u8 0),.d (.i .u8 0),.d (.i .u8 0),.d (.i .u8 0),.d (.i .u8 0),.d (.i .u8 0),.d (.i .u8 0),.d (.i .u8 0),.d (.i .u8 0),.d (.i .u8 0),.d (.i .u8 0),.d (.i .u8 0),.d (.i .u8 0),.d (.i .u8 0),.d (.i .u8 0),.d (.i .u8 0),.d (.i .u8 0),.d (.i .u8 0),.d (.i .u8 0)]:=⟨by kernel_rfl,by kernel_rfl,by kernel_rfl,by kernel_rfl⟩
theorem aen:Tryz.prog.cellsOf 359=1∧Tryz.prog.bytesOf 359=8∧(Tryz.prog.info? 359).isSome=true∧bE Tryz.prog 359=some [.d (.i .u64 0)]:=⟨by kernel_rfl,by kernel_rfl,by kernel_rfl,by kernel_rfl⟩
theorem aeo:Tryz.prog.cellsOf 364=1∧Tryz.prog.bytesOf 364=24∧(Tryz.prog.info? 364).isSome=true∧bE Tryz.prog 364=some [.bD []]:=⟨by kernel_rfl,by kernel_rfl,by kernel_rfl,by kernel_rfl⟩
theorem aep:Tryz.prog.cellsOf 369=1∧Tryz.prog.bytesOf 369=8∧(Tryz.prog.info? 369).isSome=true∧bE Tryz.prog 369=some [.d (.i .u64 0)]:=⟨by kernel_rfl,by kernel_rfl,by kernel_rfl,by kernel_rfl⟩
theorem aer:Tryz.prog.cellsOf 371=3∧Tryz.prog.bytesOf 371=48∧(Tryz.prog.info? 371).isSome=true∧bE Tryz.prog 371=some [.d (.s []),.d (.s []),.d (.o .nilIface)]:=⟨by kernel_rfl,by kernel_rfl,by kernel_rfl,by kernel_rfl⟩
theorem aes:Tryz.prog.cellsOf 376=20∧Tryz.prog.bytesOf 376=160∧(Tryz.prog.info? 376).isSome=true∧bE Tryz.prog 376=some [.d (.i .u64 0),.d (.i .u64 0),.d (.i .u64 0),.d (.i .u64 0),.d (.i .u64 0),.d (.i .u64 0),.d (.i .u64 0),.d (.i .u64 0),.d (.i .u64 0),.d (.i .u64 0),.d (.i .u64 0),.d (.i .u64 0),.d (.i .u64 0),.d (.i .u64 0),.d (.i .u64 0),.d (.i .u64 0),.d (.i .u64 0),.d (.i .u64 0),.d (.i .u64 0),.d (.i .u64 0)]:=⟨by kernel_rfl,by kernel_rfl,by kernel_rfl,by kernel_rfl⟩
theorem aeu:Tryz.prog.cellsOf 377=1∧Tryz.prog.bytesOf 377=4∧(Tryz.prog.info? 377).isSome=true∧bE Tryz.prog 377=some [.d (.i .u32 0)]:=⟨by kernel_rfl,by kernel_rfl,by kernel_rfl,by kernel_rfl⟩
theorem aev:Tryz.prog.cellsOf 378=65∧Tryz.prog.bytesOf 378=65∧(Tryz.prog.info? 378).isSome=true∧bE Tryz.prog 378=some [.d (.i .u8 0),.d (.i .u8 0),.d (.i .u8 0),.d (.i .u8 0),.d (.i .u8 0),.d (.i .u8 0),.d (.i .u8 0),.d (.i .u8 0),.d (.i .u8 0),.d (.i .u8 0),.d (.i .u8 0),.d (.i .u8 0),.d (.i .u8 0),.d (.i .u8 0),.d (.i .u8 0),.d (.i .u8 0),.d (.i .u8 0),.d (.i .u8 0),.d (.i .u8 0),.d (.i .u8 0),.d (.i .u8 0),.d (.i .u8 0),.d (.i .u8 0),.d (.i .u8 0),.d (.i .u8 0),.d (.i .u8 0),.d (.i .u8 0),.d (.i .u8 0),.d (.i .u8 0),.d (.i .u8 0),.d (.i .u8 0),.d (.i .u8 0),.d (.i .u8 0),.d (.i .u8 0),.d (.i .u8 0),.d (.i .u8 0),.d (.i .u8 0),.d (.i .u8 0),.d (.i .u8 0),.d (.i .u8 0),.d (.i .u8 0),.d (.i .u8 0),.d (.i .u8 0),.d (.i .u8 0),.d (.i .u8 0),.d (.i .u8 0),.d (.i .u8 0),.d (.i .u8 0),.d (.i .u8 0),.d (.i .u8 0),.d (.i .u8 0),.d (.i .u8 0),.d (.i .u8 0),.d (.i .u8 0),.d (.i .u8 0),.d (.i .u8 0),.d (.i .u8 0),.d (.i .u8 0),.d (.i .u8 0),.d (.i .u8 0),.d (.i .u8 0),.d (.i .u8 0),.d (.i .u8 0),.d (.i .u8 0),.d (.i .u8 0)]:=⟨by kernel_rfl,by kernel_rfl,by kernel_rfl,by kernel_rfl⟩
theorem aew:Tryz.prog.cellsOf 383=1∧Tryz.prog.bytesOf 383=16∧(Tryz.prog.info? 383).isSome=true∧bE Tryz.prog 383=some [.d (.s [])]:=⟨by kernel_rfl,by kernel_rfl,by kernel_rfl,by kernel_rfl⟩
theorem aex:Tryz.prog.cellsOf 388=32∧Tryz.prog.bytesOf 388=32∧(Tryz.prog.info? 388).isSome=true∧bE Tryz.prog 388=some [.d (.i .u8 0),.d (.i .u8 0),.d (.i .u8 0),.d (.i .u8 0),.d (.i .u8 0),.d (.i .u8 0),.d (.i .u8 0),.d (.i .u8 0),.d (.i .u8 0),.d (.i .u8 0),.d (.i .u8 0),.d (.i .u8 0),.d (.i .u8 0),.d (.i .u8 0),.d (.i .u8 0),.d (.i .u8 0),.d (.i .u8 0),.d (.i .u8 0),.d (.i .u8 0),.d (.i .u8 0),.d (.i .u8 0),.d (.i .u8 0),.d (.i .u8 0),.d (.i .u8 0),.d (.i .u8 0),.d (.i .u8 0),.d (.i .u8 0),.d (.i .u8 0),.d (.i .u8 0),.d (.i .u8 0),.d (.i .u8 0),.d (.i .u8 0)]:=⟨by kernel_rfl,by kernel_rfl,by kernel_rfl,by kernel_rfl⟩
theorem aey:Tryz.prog.cellsOf 389=64∧Tryz.prog.bytesOf 389=64∧(Tryz.prog.info? 389).isSome=true∧bE Tryz.prog 389=some [.d (.i .u8 0),.d (.i .u8 0),.d (.i .u8 0),.d (.i .u8 0),.d (.i .u8 0),.d (.i .u8 0),.d (.i .u8 0),.d (.i .u8 0),.d (.i .u8 0),.d (.i .u8 0),.d (.i .u8 0),.d (.i .u8 0),.d (.i .u8 0),.d (.i .u8 0),.d (.i .u8 0),.d (.i .u8 0),.d (.i .u8 0),.d (.i .u8 0),.d (.i .u8 0),.d (.i .u8 0),.d (.i .u8 0),.d (.i .u8 0),.d (.i .u8 0),.d (.i .u8 0),.d (.i .u8 0),.d (.i .u8 0),.d (.i .u8 0),.d (.i .u8 0),.d (.i .u8 0),.d (.i .u8 0),.d (.i .u8 0),.d (.i .u8 0),.d (.i .u8 0),.d (.i .u8 0),.d (.i .u8 0),.d (.i .u8 0),.d (.i .u8 0),.d (.i .u8 0),.d (.i .u8 0),.d (.i .u8 0),.d (.i .u8 0),.d (.i .u8 0),.d (.i .u8 0),.d (.i .u8 0),.d (.i .u8 0),.d (.i .u8 0),.d (.i .u8 0),.d (.i .u8 0),.d (.i .u8 0),.d (.i .u8 0),.d (.i .u8 0),.d (.i .u8 0),.d (.i .u8 0),.d (.i .u8 0),.d (.i .u8 0),.d (.i .u8 0),.d (.i .u8 0),.d (.i .u8 0),.d (.i .u8 0),.d (.i .u8 0),.d (.i .u8 0),.d (.i .u8 0),.d (.i .u8 0),.d (.i .u8 0)]:=⟨by kernel_rfl,by kernel_rfl,by kernel_rfl,by kernel_rfl⟩
theorem laidOut:laidOutB Tryz.prog=true:=by kernel_rfl
theorem own:ownKnob Tryz.prog.godebug=none:=by kernel_rfl
attribute [go_sem] ty1 Tryz.underlying1 ty2 Tryz.underlying2 ty3 Tryz.underlying3 ty4 Tryz.underlying4 adi ty5 Tryz.underlying5 ty9 Tryz.underlying9 afg Tryz.underlying12 afh Tryz.underlying20 afi Tryz.underlying21 afj Tryz.underlying22 afk Tryz.underlying23 afl Tryz.underlying24 afm Tryz.underlying25 afn Tryz.underlying26 afo Tryz.underlying27 afp Tryz.underlying28 afq Tryz.underlying29 afr Tryz.underlying30 afs Tryz.underlying31 aft Tryz.underlying32 afu Tryz.underlying34 afv Tryz.underlying35 afw Tryz.underlying36 afx Tryz.underlying37 afy Tryz.underlying38 afz Tryz.underlying39 afA Tryz.underlying40 afB Tryz.underlying41 afC Tryz.underlying42 afD Tryz.underlying43 afE Tryz.underlying44 afF Tryz.underlying46 afG Tryz.underlying47 afH Tryz.underlying48 afI Tryz.underlying49 afJ Tryz.underlying50 afK Tryz.underlying51 afL Tryz.underlying52 afM Tryz.underlying53 afN Tryz.underlying54 afO Tryz.underlying55 afP Tryz.underlying56 afQ Tryz.underlying57 afR Tryz.underlying58 afS Tryz.underlying59 afT Tryz.underlying60 afU Tryz.underlying61 afV Tryz.underlying63 afW Tryz.underlying64 afX Tryz.underlying65 afY Tryz.underlying66 afZ Tryz.underlying67 af0 Tryz.underlying68 af2 Tryz.underlying69 af3 Tryz.underlying71 af4 Tryz.underlying75 af5 Tryz.underlying76 af6 Tryz.underlying77 af7 Tryz.underlying78 af8 Tryz.underlying80 af9 Tryz.underlying81 aga Tryz.underlying82 agb Tryz.underlying83 agc Tryz.underlying84 agd Tryz.underlying85 agf Tryz.underlying90 agh Tryz.underlying91 agi Tryz.underlying92 agj Tryz.underlying95 agk Tryz.underlying96 agl Tryz.underlying97 adj Tryz.underlying108 adk Tryz.underlying109 adl Tryz.underlying110 adn Tryz.underlying119 ado Tryz.underlying127 adp Tryz.underlying128 adq Tryz.underlying129 adr Tryz.underlying140 ads Tryz.underlying145 adt Tryz.underlying154 adu Tryz.underlying155 adv Tryz.underlying165 adw Tryz.underlying166 adx Tryz.underlying171 ady Tryz.underlying172 adz Tryz.underlying177 adA Tryz.underlying178 adB Tryz.underlying179 adC Tryz.underlying181 adD Tryz.underlying182 adE Tryz.underlying183 adF Tryz.underlying185 adG Tryz.underlying186 adH Tryz.underlying187 adI Tryz.underlying188 adJ Tryz.underlying190 adK Tryz.underlying191 adL Tryz.underlying192 adM Tryz.underlying195 adN Tryz.underlying201 adO Tryz.underlying202 adP Tryz.underlying211 adQ Tryz.underlying219 adR Tryz.underlying220 adS Tryz.underlying222 adT Tryz.underlying223 adU Tryz.underlying226 adV Tryz.underlying227 adW Tryz.underlying228 adX Tryz.underlying229 adY Tryz.underlying233 adZ Tryz.underlying246 ad1 Tryz.underlying247 ad2 Tryz.underlying262 ad3 Tryz.underlying280 ad4 Tryz.underlying285 ad5 Tryz.underlying286 ad6 Tryz.underlying290 ad7 Tryz.underlying297 ad8 Tryz.underlying298 ad9 Tryz.underlying301 aea Tryz.underlying304 aeb Tryz.underlying306 aec Tryz.underlying309 aed Tryz.underlying310 aee Tryz.underlying312 aef Tryz.underlying313 aeg Tryz.underlying315 aeh Tryz.underlying316 aei Tryz.underlying318 aej Tryz.underlying319 aek Tryz.underlying321 ael Tryz.underlying322 aem Tryz.underlying358 aen Tryz.underlying359 aeo Tryz.underlying364 aep Tryz.underlying369 aer Tryz.underlying371 aes Tryz.underlying376 aeu Tryz.underlying377 aev Tryz.underlying378 aew Tryz.underlying383 aex Tryz.underlying388 aey Tryz.underlying389
end Go.Proofs.YtlmhknhlmicmeaaGreatDoor.Fa
namespace Go.Proofs.YtlmhknhlmicmeaaGreatDoor
open Go Go.Ab
theorem nH(xs:List (List UInt8))(left:Int)(h0:0≤left)(h1:left≤1048576)(hf:(D.sl (xs.map encS)).Fit):
 aG Tryz.prog 47 [.c (.d (.sl (xs.map encS))),.c (.d (.i .i64 left))] (.c (.d (.i .i64 (dD left (xs.length+aI (xs.map encS)))))):=by
 intro S
 obtain⟨hf1,hf2⟩:=qj hf
 rw[List.length_map] at hf1
 refine aA (rs:=[.tmp 4]) Tryz.checked.mixed Tryz.func47 Tryz.ntmps47 rfl rfl rfl rfl rfl ?_
 first|refine W1 ?_|exact Z1
 first|refine S0 (fun hb h=>?_) (fun hb h=>?_)|refine S1 fun hb h=>?_|refine S2 fun hb h=>?_|exact S3
 ·exact int_eq (dn (by omega)).symm
 refine aV (ι:=Nat×Int) Tryz.checked.mixed rfl [0,1,5] (fun y=>[.c (.d (.sl (xs.map encS))),.c (.d (.i .i64 y.2)),.c (.d (.i .i64 y.1))]) (fun _=>[]::S)
  (fun y=>y.1≤xs.length∧0≤y.2∧y.2≤1048576∧dD y.2 (aI ((xs.map encS).drop y.1))=dD left (xs.length+aI (xs.map encS))) (fun y=>xs.length-y.1) (0,left-xs.length) rfl rfl ⟨by omega,by omega,by omega,?_⟩ ?_
 ·unfold dD
  rw[List.drop_zero]
  split<;>split<;>omega
 rintro⟨i,l⟩ ⟨p1,p2,p3,p4⟩
 simp only at p1 p2 p3 p4
 first|refine W1 ?_|exact Z1
 with_reducible refine aS (fun hb=> ?_) (fun hb=> ?_)<;>have h:=hb<;>(try simp only[wf_preprocess] at h)<;>simp -implicitDefEqProofs (disch:=omega) only[go_sem,hb]<;>(repeat(with_reducible refine And.intro ?_ ?_;focus first|omega|rfl|assumption|exact⟨_,rfl,rfl⟩|(simp;omega)|(simp;done)))
 ·have hi:i<xs.length:=by omega
  have hl:xs[i].length≤9223372036854775807:=qK (hf2 (encS xs[i]) (List.mem_map_of_mem (List.getElem_mem hi)) (.s xs[i]) (by simp[encS]))
  rw[List.drop_eq_getElem_cons (by rw[List.length_map];exact hi),aI,List.getElem_map] at p4
  simp only[encS,bP,D.sz] at p4
  first|refine W1 ?_|exact Z1
  refine W3 ?_
  first|refine S0 (fun hb h=>?_) (fun hb h=>?_)|refine S1 fun hb h=>?_|refine S2 fun hb h=>?_|exact S3
  ·rw[←p4,dn (by omega)]
  ·refine bL (i+1,l-xs[i].length) (by simp only;omega) rfl rfl ⟨by simp only;omega,by simp only;omega,by simp only;omega,?_⟩
   simp only
   rw[←p4]
   unfold dD
   split<;>split<;>omega
 ·have hi:i=xs.length:=by omega
  rw[hi,List.drop_of_length_le (by simp),aI,fU (by omega)] at p4
  rw[←p4]
  refine int_eq ?_
  omega
theorem nI(xs:List (List UInt8))(hsz:xs.length+aI (xs.map encS)≤1048576):aG Tryz.prog 61 [.c (.d (.sl (xs.map encS)))] (.c (.d (.sl (xs.map encS)))):=by
 intro S
 refine aA (rs:=[.tmp 2]) Tryz.checked.mixed Tryz.func61 Tryz.ntmps61 rfl rfl rfl rfl rfl ?_
 first|refine W1 ?_|exact Z1
 (repeat(with_reducible refine And.intro ?_ ?_;focus first|omega|rfl|assumption|exact⟨_,rfl,rfl⟩|(simp;omega)|(simp;done)))
 refine aV (ι:=Nat×List (List D)) Tryz.checked.mixed rfl [0,3,4] (fun y=>[.c (.d (.sl (xs.map encS))),.c (.iy (0,0)),.c (.d (.i .i64 y.1))]) (fun y=>[.eZ 1 y.2]::S)
  (fun y=>y.1≤xs.length∧eD 1 y.1 y.2 (xs.map encS)) (fun y=>xs.length-y.1) (0,_) rfl rfl ⟨Nat.zero_le _,eD.start (by simp) rfl⟩ ?_
 rintro⟨i,R⟩ ⟨p1,p2⟩
 simp only at p1 p2
 first|refine W1 ?_|exact Z1
 with_reducible refine aS (fun hb=> ?_) (fun hb=> ?_)<;>have h:=hb<;>(try simp only[wf_preprocess] at h)<;>simp -implicitDefEqProofs (disch:=omega) only[go_sem,hb]<;>(repeat(with_reducible refine And.intro ?_ ?_;focus first|omega|rfl|assumption|exact⟨_,rfl,rfl⟩|(simp;omega)|(simp;done)))
 ·have hi:i<xs.length:=by omega
  have hR:=p2.1
  rw[List.length_map] at hR
  (repeat(with_reducible refine And.intro ?_ ?_;focus first|omega|rfl|assumption|exact⟨_,rfl,rfl⟩|(simp;omega)|(simp;done)))
  refine bL (i+1,_) (by simp only;omega) rfl rfl ⟨by simp only;omega,p2.step (by simp[hi,encS]) rfl⟩
 ·have hi:i=xs.length:=by omega
  rw[p2.done (by rw[List.length_map];omega)]
theorem nJ(xs ys:List (List UInt8))(hsz:xs.length≤1073741824):aG Tryz.prog 77 [.c (.d (.sl (xs.map encS))),.c (.d (.sl (ys.map encS)))] (.c (.d (.b (dec (xs=ys))))):=by
 intro S
 refine aA (rs:=[.tmp 4]) Tryz.checked.mixed Tryz.func77 Tryz.ntmps77 rfl rfl rfl rfl rfl ?_
 first|refine W1 ?_|exact Z1
 first|refine S0 (fun hb h=>?_) (fun hb h=>?_)|refine S1 fun hb h=>?_|refine S2 fun hb h=>?_|exact S3
 ·exact aB (aH (fun e=>h (by rw[e]))).symm
 have hl:xs.length=ys.length:=by omega
 refine aV (ι:=Nat) Tryz.checked.mixed rfl [0,1,5] (fun y=>[.c (.d (.sl (xs.map encS))),.c (.d (.sl (ys.map encS))),.c (.d (.i .i64 y))]) (fun y=>[]::S)
  (fun i=>i≤xs.length∧∀j,j<i→xs[j]? =ys[j]?) (fun y=>xs.length-y) 0 rfl rfl ⟨Nat.zero_le _,fun j h=>by omega⟩ ?_
 rintro i ⟨p1,p2⟩
 first|refine W1 ?_|exact Z1
 with_reducible refine aS (fun hb=> ?_) (fun hb=> ?_)<;>have h:=hb<;>(try simp only[wf_preprocess] at h)<;>simp -implicitDefEqProofs (disch:=omega) only[go_sem,hb]<;>(repeat(with_reducible refine And.intro ?_ ?_;focus first|omega|rfl|assumption|exact⟨_,rfl,rfl⟩|(simp;omega)|(simp;done)))
 ·have hi:i<xs.length:=by omega
  have hi':i<ys.length:=by omega
  refine W3 ?_
  first|refine S0 (fun hb h=>?_) (fun hb h=>?_)|refine S1 fun hb h=>?_|refine S2 fun hb h=>?_|exact S3
  ·exact aB (aH (fun e=>h (by simp only[e]))).symm
  refine bL (i+1) (by omega) rfl rfl ⟨by omega,fun j hj=> ?_⟩
  by_cases e:j=i
  ·subst e
   rw[List.getElem?_eq_getElem hi,List.getElem?_eq_getElem hi',h]
  ·exact p2 j (by omega)
 ·have hi:i=xs.length:=by omega
  refine aB (bJ (List.ext_getElem? fun j=> ?_)).symm
  by_cases hj:j<i
  ·exact p2 j hj
  ·rw[List.getElem?_eq_none (by omega),List.getElem?_eq_none (by omega)]
end Go.Proofs.YtlmhknhlmicmeaaGreatDoor
namespace Go.Proofs.YtlmhknhlmicmeaaGreatDoor
open Go Go.Ab
theorem Bv:∀n:Nat,(∀x:aj,SizeOf.sizeOf x<n→∀left:Int,0≤left→left≤1048576→lU x.enc→aG Tryz.prog 89 [x.v,.c (.d (.i .i64 left))] (.c (.d (.i .i64 (dD left x.sz)))))∧
 (∀xs:List aj,SizeOf.sizeOf xs<n→∀left:Int,0≤left→left≤1048576→(D.sl (xs.map aj.enc)).Fit→aG Tryz.prog 184 [.c (.d (.sl (xs.map aj.enc))),.c (.d (.i .i64 left))] (.c (.d (.i .i64 (dD left (xs.length+aI (xs.map aj.enc)))))))
 |0=>⟨fun x h=>by omega,fun x h=>by omega⟩
 |n+1=>by
  obtain⟨vE,wD⟩:=Bv n
  refine⟨fun x hn left h0 h1 hf S=> ?_,fun xs hn left h0 h1 hf S=> ?_⟩
  ·have jf:=aj.fI x
   simp only[aj.aC,List.cons_append,List.nil_append,jh,je,iV,and_true] at hf
   obtain⟨aX,fName,fArgs⟩:=hf
   have hz:x.sz=x.fName.length+((x.fArgs.length+aI (x.fArgs.map aj.enc))):=by
    simp only[aj.sz,aj.aC,bP,bA,D.sz,List.length_map,Nat.add_zero,Nat.zero_add]<;>omega
   refine aA (rs:=[.tmp 4]) Tryz.checked.mixed Tryz.func89 Tryz.ntmps89 rfl rfl rfl rfl rfl ?_
   rw[hz]
   have yA:=qK fName
   first|refine W1 ?_|exact Z1
   first|refine S0 (fun hb h=>?_) (fun hb h=>?_)|refine S1 fun hb h=>?_|refine S2 fun hb h=>?_|exact S3
   ·exact int_eq (dn (by omega)).symm
   refine ah (wD x.fArgs (by omega) _ (by omega) (by omega) fArgs) ?_
   first|refine W1 ?_|exact Z1
   first|refine S0 (fun hb h=>?_) (fun hb h=>?_)|refine S1 fun hb h=>?_|refine S2 fun hb h=>?_|exact S3
   ·have h':=dO h
    exact int_eq (dn (by omega)).symm
   have Tt:=eu h
   simp only[Tt.1]
   refine int_eq ?_
   rw[fU (by omega)]
   omega
  ·obtain⟨hf1,hf2⟩:=qj hf
   rw[List.length_map] at hf1
   refine aA (rs:=[.tmp 4]) Tryz.checked.mixed Tryz.func184 Tryz.ntmps184 rfl rfl rfl rfl rfl ?_
   first|refine W1 ?_|exact Z1
   first|refine S0 (fun hb h=>?_) (fun hb h=>?_)|refine S1 fun hb h=>?_|refine S2 fun hb h=>?_|exact S3
   ·exact int_eq (dn (by omega)).symm
   refine aV (ι:=Nat×Int) Tryz.checked.mixed rfl [0,1,5] (fun y=>[.c (.d (.sl (xs.map aj.enc))),.c (.d (.i .i64 y.2)),.c (.d (.i .i64 y.1))]) (fun _=>[]::S)
    (fun y=>y.1≤xs.length∧0≤y.2∧y.2≤1048576∧dD y.2 (aI ((xs.map aj.enc).drop y.1))=dD left (xs.length+aI (xs.map aj.enc))) (fun y=>xs.length-y.1) (0,left-xs.length) rfl rfl ⟨by omega,by omega,by omega,?_⟩ ?_
   ·unfold dD
    rw[List.drop_zero]
    split<;>split<;>omega
   rintro⟨i,l⟩ ⟨p1,p2,p3,p4⟩
   simp only at p1 p2 p3 p4
   first|refine W1 ?_|exact Z1
   with_reducible refine aS (fun hb=> ?_) (fun hb=> ?_)<;>have h:=hb<;>(try simp only[wf_preprocess] at h)<;>simp -implicitDefEqProofs (disch:=omega) only[go_sem,hb]<;>(repeat(with_reducible refine And.intro ?_ ?_;focus first|omega|rfl|assumption|exact⟨_,rfl,rfl⟩|(simp;omega)|(simp;done)))
   ·have hi:i<xs.length:=by omega
    rw[List.drop_eq_getElem_cons (by rw[List.length_map];exact hi),aI,List.getElem_map,aj.dw] at p4
    refine W3 ?_
    refine ah (vE xs[i] (by have:=List.sizeOf_lt_of_mem (List.getElem_mem hi);omega) _ (by omega) (by omega) (hf2 _ (List.mem_map_of_mem (List.getElem_mem hi)))) ?_
    first|refine W1 ?_|exact Z1
    first|refine S0 (fun hb h=>?_) (fun hb h=>?_)|refine S1 fun hb h=>?_|refine S2 fun hb h=>?_|exact S3
    ·have h':=dO h
     rw[←p4,dn (by omega)]
    ·have h':=eu h
     refine bL (i+1,dD l _) (by simp only;omega) rfl rfl ⟨by simp only;omega,by simp only;omega,by simp only;omega,?_⟩
     simp only
     rw[←p4,h'.1]
     unfold dD
     split<;>split<;>omega
   ·have hi:i=xs.length:=by omega
    rw[hi,List.drop_of_length_le (by simp),aI,fU (by omega)] at p4
    rw[←p4]
    refine int_eq ?_
    omega
theorem sI(x:aj):∀left:Int,0≤left→left≤1048576→lU x.enc→aG Tryz.prog 89 [x.v,.c (.d (.i .i64 left))] (.c (.d (.i .i64 (dD left x.sz)))):=(Bv _).1 x (Nat.lt_succ_self _)
theorem Hr(xs:List aj):∀left:Int,0≤left→left≤1048576→(D.sl (xs.map aj.enc)).Fit→aG Tryz.prog 184 [.c (.d (.sl (xs.map aj.enc))),.c (.d (.i .i64 left))] (.c (.d (.i .i64 (dD left (xs.length+aI (xs.map aj.enc)))))):=(Bv _).2 xs (Nat.lt_succ_self _)
theorem Bw:∀n:Nat,(∀x:aj,SizeOf.sizeOf x<n→x.sz≤1048576→aG Tryz.prog 94 [x.v] x.v)∧
 (∀xs:List aj,SizeOf.sizeOf xs<n→xs.length+aI (xs.map aj.enc)≤1048576→aG Tryz.prog 187 [.c (.d (.sl (xs.map aj.enc)))] (.c (.d (.sl (xs.map aj.enc)))))
 |0=>⟨fun x h=>by omega,fun x h=>by omega⟩
 |n+1=>by
  obtain⟨vE,wD⟩:=Bw n
  refine⟨fun x hn hsz S=> ?_,fun xs hn hsz S=> ?_⟩
  ·have jf:=aj.fI x
   simp only[aj.sz,aj.aC,bP,bA,D.sz,List.length_map] at hsz
   refine aA (rs:=[.cell 2 57]) Tryz.checked.mixed Tryz.func94 Tryz.ntmps94 rfl rfl rfl rfl rfl ?_
   first|refine W1 ?_|exact Z1
   refine ah (wD x.fArgs (by omega) (by omega)) ?_
   first|refine W1 ?_|exact Z1
  ·refine aA (rs:=[.tmp 2]) Tryz.checked.mixed Tryz.func187 Tryz.ntmps187 rfl rfl rfl rfl rfl ?_
   first|refine W1 ?_|exact Z1
   (repeat(with_reducible refine And.intro ?_ ?_;focus first|omega|rfl|assumption|exact⟨_,rfl,rfl⟩|(simp;omega)|(simp;done)))
   refine aV (ι:=Nat×List (List D)) Tryz.checked.mixed rfl [0,3,4] (fun y=>[.c (.d (.sl (xs.map aj.enc))),.c (.iy (0,0)),.c (.d (.i .i64 y.1))]) (fun y=>[.eZ 3 y.2]::S)
    (fun y=>y.1≤xs.length∧eD 3 y.1 y.2 (xs.map aj.enc)) (fun y=>xs.length-y.1) (0,_) rfl rfl ⟨Nat.zero_le _,eD.start (by simp) rfl⟩ ?_
   rintro⟨i,R⟩ ⟨p1,p2⟩
   simp only at p1 p2
   first|refine W1 ?_|exact Z1
   with_reducible refine aS (fun hb=> ?_) (fun hb=> ?_)<;>have h:=hb<;>(try simp only[wf_preprocess] at h)<;>simp -implicitDefEqProofs (disch:=omega) only[go_sem,hb]<;>(repeat(with_reducible refine And.intro ?_ ?_;focus first|omega|rfl|assumption|exact⟨_,rfl,rfl⟩|(simp;omega)|(simp;done)))
   ·have hi:i<xs.length:=by omega
    have hx:xs[i].sz≤aI (xs.map aj.enc):=bI (List.mem_map_of_mem (List.getElem_mem hi))
    refine W3 ?_
    refine ah (vE xs[i] (by have:=List.sizeOf_lt_of_mem (List.getElem_mem hi);omega) (by omega)) ?_
    first|refine W1 ?_|exact Z1
    have hR:=p2.1
    rw[List.length_map] at hR
    (repeat(with_reducible refine And.intro ?_ ?_;focus first|omega|rfl|assumption|exact⟨_,rfl,rfl⟩|(simp;omega)|(simp;done)))
    refine bL (i+1,_) (by simp only;omega) rfl rfl ⟨by simp only;omega,p2.step (by simp[hi,aj.aC]) rfl⟩
   ·have hi:i=xs.length:=by omega
    rw[p2.done (by rw[List.length_map];omega)]
theorem sJ(x:aj):x.sz≤1048576→aG Tryz.prog 94 [x.v] x.v:=(Bw _).1 x (Nat.lt_succ_self _)
theorem Ht(xs:List aj):xs.length+aI (xs.map aj.enc)≤1048576→aG Tryz.prog 187 [.c (.d (.sl (xs.map aj.enc)))] (.c (.d (.sl (xs.map aj.enc)))):=(Bw _).2 xs (Nat.lt_succ_self _)
theorem Bz:∀n:Nat,(∀x:aj,SizeOf.sizeOf x<n→∀y:aj,x.sz≤1048576→aG Tryz.prog 100 [x.v,y.v] (.c (.d (.b (dec (x=y))))))∧
 (∀xs:List aj,SizeOf.sizeOf xs<n→∀ys:List aj,xs.length+aI (xs.map aj.enc)≤1048576→aG Tryz.prog 192 [.c (.d (.sl (xs.map aj.enc))),.c (.d (.sl (ys.map aj.enc)))] (.c (.d (.b (dec (xs=ys))))))
 |0=>⟨fun x h=>by omega,fun x h=>by omega⟩
 |n+1=>by
  obtain⟨vE,wD⟩:=Bz n
  refine⟨fun x hn y hsz S=> ?_,fun xs hn ys hsz S=> ?_⟩
  ·have jf:=aj.fI x
   simp only[aj.sz,aj.aC,bP,bA,D.sz,List.length_map] at hsz
   refine aA (rs:=[.tmp 4]) Tryz.checked.mixed Tryz.func100 Tryz.ntmps100 rfl rfl rfl rfl rfl ?_
   first|refine W1 ?_|exact Z1
   first|refine S0 (fun hb h=>?_) (fun hb h=>?_)|refine S1 fun hb h=>?_|refine S2 fun hb h=>?_|exact S3
   ·exact aB (aH (fun e=>h (by rw[e]))).symm
   have Tv:=h
   clear h
   first|refine S0 (fun hb h=>?_) (fun hb h=>?_)|refine S1 fun hb h=>?_|refine S2 fun hb h=>?_|exact S3
   ·exact aB (aH (fun e=>h (by rw[e]))).symm
   have ow:=h
   clear h
   refine ah (wD x.fArgs (by omega) _ (by omega)) ?_
   first|refine W1 ?_|exact Z1
   first|refine S0 (fun hb h=>?_) (fun hb h=>?_)|refine S1 fun hb h=>?_|refine S2 fun hb h=>?_|exact S3
   ·exact aB (aH (fun e=>h (by rw[e]))).symm
   have eArgs:=h
   clear h
   exact aB (bJ (aj.ext Tv ow eArgs)).symm
  ·refine aA (rs:=[.tmp 4]) Tryz.checked.mixed Tryz.func192 Tryz.ntmps192 rfl rfl rfl rfl rfl ?_
   first|refine W1 ?_|exact Z1
   first|refine S0 (fun hb h=>?_) (fun hb h=>?_)|refine S1 fun hb h=>?_|refine S2 fun hb h=>?_|exact S3
   ·exact aB (aH (fun e=>h (by rw[e]))).symm
   have hl:xs.length=ys.length:=by omega
   refine aV (ι:=Nat) Tryz.checked.mixed rfl [0,1,5] (fun y=>[.c (.d (.sl (xs.map aj.enc))),.c (.d (.sl (ys.map aj.enc))),.c (.d (.i .i64 y))]) (fun y=>[]::S)
    (fun i=>i≤xs.length∧∀j,j<i→xs[j]? =ys[j]?) (fun y=>xs.length-y) 0 rfl rfl ⟨Nat.zero_le _,fun j h=>by omega⟩ ?_
   rintro i ⟨p1,p2⟩
   first|refine W1 ?_|exact Z1
   with_reducible refine aS (fun hb=> ?_) (fun hb=> ?_)<;>have h:=hb<;>(try simp only[wf_preprocess] at h)<;>simp -implicitDefEqProofs (disch:=omega) only[go_sem,hb]<;>(repeat(with_reducible refine And.intro ?_ ?_;focus first|omega|rfl|assumption|exact⟨_,rfl,rfl⟩|(simp;omega)|(simp;done)))
   ·have hi:i<xs.length:=by omega
    have hi':i<ys.length:=by omega
    have hx:xs[i].sz≤aI (xs.map aj.enc):=bI (List.mem_map_of_mem (List.getElem_mem hi))
    refine W3 ?_
    refine ah (vE xs[i] (by have:=List.sizeOf_lt_of_mem (List.getElem_mem hi);omega) ys[i] (by omega)) ?_
    first|refine W1 ?_|exact Z1
    first|refine S0 (fun hb h=>?_) (fun hb h=>?_)|refine S1 fun hb h=>?_|refine S2 fun hb h=>?_|exact S3
    ·exact aB (aH (fun e=>h (by simp only[e]))).symm
    refine bL (i+1) (by omega) rfl rfl ⟨by omega,fun j hj=> ?_⟩
    by_cases e:j=i
    ·subst e
     rw[List.getElem?_eq_getElem hi,List.getElem?_eq_getElem hi',h]
    ·exact p2 j (by omega)
   ·have hi:i=xs.length:=by omega
    refine aB (bJ (List.ext_getElem? fun j=> ?_)).symm
    by_cases hj:j<i
    ·exact p2 j hj
    ·rw[List.getElem?_eq_none (by omega),List.getElem?_eq_none (by omega)]
theorem sK(x:aj):∀y:aj,x.sz≤1048576→aG Tryz.prog 100 [x.v,y.v] (.c (.d (.b (dec (x=y))))):=(Bz _).1 x (Nat.lt_succ_self _)
theorem Hu(xs:List aj):∀ys:List aj,xs.length+aI (xs.map aj.enc)≤1048576→aG Tryz.prog 192 [.c (.d (.sl (xs.map aj.enc))),.c (.d (.sl (ys.map aj.enc)))] (.c (.d (.b (dec (xs=ys))))):=(Bz _).2 xs (Nat.lt_succ_self _)
end Go.Proofs.YtlmhknhlmicmeaaGreatDoor
namespace Go.Proofs.YtlmhknhlmicmeaaGreatDoor
open Go Go.Ab
end Go.Proofs.YtlmhknhlmicmeaaGreatDoor
namespace Go.Proofs.YtlmhknhlmicmeaaGreatDoor
open Go Go.Ab
theorem Tw(x:bq):∀left:Int,0≤left→left≤1048576→lU x.enc→aG Tryz.prog 304 [x.v,.c (.d (.i .i64 left))] (.c (.d (.i .i64 (dD left x.sz)))):=by
 intro left h0 h1 hf S
 simp only[bq.aC,List.cons_append,List.nil_append,jh,je,iV,and_true] at hf
 obtain⟨bR,fType⟩:=hf
 have hz:x.sz=x.bR.length+(x.fType.sz):=by
  simp only[bq.sz,bq.aC,bP,bA,D.sz,List.length_map,Nat.add_zero,Nat.zero_add,aj.dw]<;>omega
 refine aA (rs:=[.tmp 4]) Tryz.checked.mixed Tryz.func304 Tryz.ntmps304 rfl rfl rfl rfl rfl ?_
 rw[hz]
 have V3:=qK bR
 first|refine W1 ?_|exact Z1
 first|refine S0 (fun hb h=>?_) (fun hb h=>?_)|refine S1 fun hb h=>?_|refine S2 fun hb h=>?_|exact S3
 ·exact int_eq (dn (by omega)).symm
 refine ah (sI x.fType _ (by omega) (by omega) fType) ?_
 first|refine W1 ?_|exact Z1
 first|refine S0 (fun hb h=>?_) (fun hb h=>?_)|refine S1 fun hb h=>?_|refine S2 fun hb h=>?_|exact S3
 ·have h':=dO h
  exact int_eq (dn (by omega)).symm
 have hType:=eu h
 simp only[hType.1]
 refine int_eq ?_
 rw[fU (by omega)]
 omega
theorem ER(xs:List bq):∀left:Int,0≤left→left≤1048576→(D.sl (xs.map bq.enc)).Fit→aG Tryz.prog 242 [.c (.d (.sl (xs.map bq.enc))),.c (.d (.i .i64 left))] (.c (.d (.i .i64 (dD left (xs.length+aI (xs.map bq.enc)))))):=by
 intro left h0 h1 hf S
 obtain⟨hf1,hf2⟩:=qj hf
 rw[List.length_map] at hf1
 refine aA (rs:=[.tmp 4]) Tryz.checked.mixed Tryz.func242 Tryz.ntmps242 rfl rfl rfl rfl rfl ?_
 first|refine W1 ?_|exact Z1
 first|refine S0 (fun hb h=>?_) (fun hb h=>?_)|refine S1 fun hb h=>?_|refine S2 fun hb h=>?_|exact S3
 ·exact int_eq (dn (by omega)).symm
 refine aV (ι:=Nat×Int) Tryz.checked.mixed rfl [0,1,5] (fun y=>[.c (.d (.sl (xs.map bq.enc))),.c (.d (.i .i64 y.2)),.c (.d (.i .i64 y.1))]) (fun _=>[]::S)
  (fun y=>y.1≤xs.length∧0≤y.2∧y.2≤1048576∧dD y.2 (aI ((xs.map bq.enc).drop y.1))=dD left (xs.length+aI (xs.map bq.enc))) (fun y=>xs.length-y.1) (0,left-xs.length) rfl rfl ⟨by omega,by omega,by omega,?_⟩ ?_
 ·unfold dD
  rw[List.drop_zero]
  split<;>split<;>omega
 rintro⟨i,l⟩ ⟨p1,p2,p3,p4⟩
 simp only at p1 p2 p3 p4
 first|refine W1 ?_|exact Z1
 with_reducible refine aS (fun hb=> ?_) (fun hb=> ?_)<;>have h:=hb<;>(try simp only[wf_preprocess] at h)<;>simp -implicitDefEqProofs (disch:=omega) only[go_sem,hb]<;>(repeat(with_reducible refine And.intro ?_ ?_;focus first|omega|rfl|assumption|exact⟨_,rfl,rfl⟩|(simp;omega)|(simp;done)))
 ·have hi:i<xs.length:=by omega
  rw[List.drop_eq_getElem_cons (by rw[List.length_map];exact hi),aI,List.getElem_map,bq.dw] at p4
  refine W3 ?_
  refine ah (Tw xs[i] _ (by omega) (by omega) (hf2 _ (List.mem_map_of_mem (List.getElem_mem hi)))) ?_
  first|refine W1 ?_|exact Z1
  first|refine S0 (fun hb h=>?_) (fun hb h=>?_)|refine S1 fun hb h=>?_|refine S2 fun hb h=>?_|exact S3
  ·have h':=dO h
   rw[←p4,dn (by omega)]
  ·have h':=eu h
   refine bL (i+1,dD l _) (by simp only;omega) rfl rfl ⟨by simp only;omega,by simp only;omega,by simp only;omega,?_⟩
   simp only
   rw[←p4,h'.1]
   unfold dD
   split<;>split<;>omega
 ·have hi:i=xs.length:=by omega
  rw[hi,List.drop_of_length_le (by simp),aI,fU (by omega)] at p4
  rw[←p4]
  refine int_eq ?_
  omega
theorem Tx(x:bq):x.sz≤1048576→aG Tryz.prog 314 [x.v] x.v:=by
 intro hsz S
 simp only[bq.sz,bq.aC,bP,bA,D.sz,List.length_map,aj.dw] at hsz
 refine aA (rs:=[.cell 2 247]) Tryz.checked.mixed Tryz.func314 Tryz.ntmps314 rfl rfl rfl rfl rfl ?_
 first|refine W1 ?_|exact Z1
 refine ah (sJ x.fType (by omega)) ?_
 first|refine W1 ?_|exact Z1
theorem ES(xs:List bq):xs.length+aI (xs.map bq.enc)≤1048576→aG Tryz.prog 258 [.c (.d (.sl (xs.map bq.enc)))] (.c (.d (.sl (xs.map bq.enc)))):=by
 intro hsz S
 refine aA (rs:=[.tmp 2]) Tryz.checked.mixed Tryz.func258 Tryz.ntmps258 rfl rfl rfl rfl rfl ?_
 first|refine W1 ?_|exact Z1
 (repeat(with_reducible refine And.intro ?_ ?_;focus first|omega|rfl|assumption|exact⟨_,rfl,rfl⟩|(simp;omega)|(simp;done)))
 refine aV (ι:=Nat×List (List D)) Tryz.checked.mixed rfl [0,3,4] (fun y=>[.c (.d (.sl (xs.map bq.enc))),.c (.iy (0,0)),.c (.d (.i .i64 y.1))]) (fun y=>[.eZ 4 y.2]::S)
  (fun y=>y.1≤xs.length∧eD 4 y.1 y.2 (xs.map bq.enc)) (fun y=>xs.length-y.1) (0,_) rfl rfl ⟨Nat.zero_le _,eD.start (by simp) rfl⟩ ?_
 rintro⟨i,R⟩ ⟨p1,p2⟩
 simp only at p1 p2
 first|refine W1 ?_|exact Z1
 with_reducible refine aS (fun hb=> ?_) (fun hb=> ?_)<;>have h:=hb<;>(try simp only[wf_preprocess] at h)<;>simp -implicitDefEqProofs (disch:=omega) only[go_sem,hb]<;>(repeat(with_reducible refine And.intro ?_ ?_;focus first|omega|rfl|assumption|exact⟨_,rfl,rfl⟩|(simp;omega)|(simp;done)))
 ·have hi:i<xs.length:=by omega
  have hx:xs[i].sz≤aI (xs.map bq.enc):=bI (List.mem_map_of_mem (List.getElem_mem hi))
  refine W3 ?_
  refine ah (Tx xs[i] (by omega)) ?_
  first|refine W1 ?_|exact Z1
  have hR:=p2.1
  rw[List.length_map] at hR
  (repeat(with_reducible refine And.intro ?_ ?_;focus first|omega|rfl|assumption|exact⟨_,rfl,rfl⟩|(simp;omega)|(simp;done)))
  refine bL (i+1,_) (by simp only;omega) rfl rfl ⟨by simp only;omega,p2.step (by simp[hi,bq.aC,aj.aC]) rfl⟩
 ·have hi:i=xs.length:=by omega
  rw[p2.done (by rw[List.length_map];omega)]
theorem Tz(x:bq):∀y:bq,x.sz≤1048576→aG Tryz.prog 229 [x.v,y.v] (.c (.d (.b (dec (x=y))))):=by
 intro y hsz S
 simp only[bq.sz,bq.aC,bP,bA,D.sz,List.length_map,aj.dw] at hsz
 refine aA (rs:=[.tmp 4]) Tryz.checked.mixed Tryz.func229 Tryz.ntmps229 rfl rfl rfl rfl rfl ?_
 first|refine W1 ?_|exact Z1
 first|refine S0 (fun hb h=>?_) (fun hb h=>?_)|refine S1 fun hb h=>?_|refine S2 fun hb h=>?_|exact S3
 ·exact aB (aH (fun e=>h (by rw[e]))).symm
 have CZ:=h
 clear h
 refine ah (sK x.fType _ (by omega)) ?_
 first|refine W1 ?_|exact Z1
 first|refine S0 (fun hb h=>?_) (fun hb h=>?_)|refine S1 fun hb h=>?_|refine S2 fun hb h=>?_|exact S3
 ·exact aB (aH (fun e=>h (by rw[e]))).symm
 have eType:=h
 clear h
 exact aB (bJ (bq.ext' CZ eType)).symm
theorem ET(xs:List bq):∀ys:List bq,xs.length+aI (xs.map bq.enc)≤1048576→aG Tryz.prog 128 [.c (.d (.sl (xs.map bq.enc))),.c (.d (.sl (ys.map bq.enc)))] (.c (.d (.b (dec (xs=ys))))):=by
 intro ys hsz S
 refine aA (rs:=[.tmp 4]) Tryz.checked.mixed Tryz.func128 Tryz.ntmps128 rfl rfl rfl rfl rfl ?_
 first|refine W1 ?_|exact Z1
 first|refine S0 (fun hb h=>?_) (fun hb h=>?_)|refine S1 fun hb h=>?_|refine S2 fun hb h=>?_|exact S3
 ·exact aB (aH (fun e=>h (by rw[e]))).symm
 have hl:xs.length=ys.length:=by omega
 refine aV (ι:=Nat) Tryz.checked.mixed rfl [0,1,5] (fun y=>[.c (.d (.sl (xs.map bq.enc))),.c (.d (.sl (ys.map bq.enc))),.c (.d (.i .i64 y))]) (fun y=>[]::S)
  (fun i=>i≤xs.length∧∀j,j<i→xs[j]? =ys[j]?) (fun y=>xs.length-y) 0 rfl rfl ⟨Nat.zero_le _,fun j h=>by omega⟩ ?_
 rintro i ⟨p1,p2⟩
 first|refine W1 ?_|exact Z1
 with_reducible refine aS (fun hb=> ?_) (fun hb=> ?_)<;>have h:=hb<;>(try simp only[wf_preprocess] at h)<;>simp -implicitDefEqProofs (disch:=omega) only[go_sem,hb]<;>(repeat(with_reducible refine And.intro ?_ ?_;focus first|omega|rfl|assumption|exact⟨_,rfl,rfl⟩|(simp;omega)|(simp;done)))
 ·have hi:i<xs.length:=by omega
  have hi':i<ys.length:=by omega
  have hx:xs[i].sz≤aI (xs.map bq.enc):=bI (List.mem_map_of_mem (List.getElem_mem hi))
  refine W3 ?_
  refine ah (Tz xs[i] ys[i] (by omega)) ?_
  first|refine W1 ?_|exact Z1
  first|refine S0 (fun hb h=>?_) (fun hb h=>?_)|refine S1 fun hb h=>?_|refine S2 fun hb h=>?_|exact S3
  ·exact aB (aH (fun e=>h (by simp only[e]))).symm
  refine bL (i+1) (by omega) rfl rfl ⟨by omega,fun j hj=> ?_⟩
  by_cases e:j=i
  ·subst e
   rw[List.getElem?_eq_getElem hi,List.getElem?_eq_getElem hi',h]
  ·exact p2 j (by omega)
 ·have hi:i=xs.length:=by omega
  refine aB (bJ (List.ext_getElem? fun j=> ?_)).symm
  by_cases hj:j<i
  ·exact p2 j hj
  ·rw[List.getElem?_eq_none (by omega),List.getElem?_eq_none (by omega)]
end Go.Proofs.YtlmhknhlmicmeaaGreatDoor
namespace Go.Proofs.YtlmhknhlmicmeaaGreatDoor
open Go Go.Ab
theorem Hw:∀n:Nat,(∀x:au,SizeOf.sizeOf x<n→∀left:Int,0≤left→left≤1048576→lU x.enc→aG Tryz.prog 19 [x.v,.c (.d (.i .i64 left))] (.c (.d (.i .i64 (dD left x.sz)))))∧
 (∀xs:List au,SizeOf.sizeOf xs<n→∀left:Int,0≤left→left≤1048576→(D.sl (xs.map au.enc)).Fit→aG Tryz.prog 90 [.c (.d (.sl (xs.map au.enc))),.c (.d (.i .i64 left))] (.c (.d (.i .i64 (dD left (xs.length+aI (xs.map au.enc)))))))∧
 (∀x:aW,SizeOf.sizeOf x<n→∀left:Int,0≤left→left≤1048576→lU x.enc→aG Tryz.prog 185 [x.v,.c (.d (.i .i64 left))] (.c (.d (.i .i64 (dD left x.sz)))))∧
 (∀xs:List aW,SizeOf.sizeOf xs<n→∀left:Int,0≤left→left≤1048576→(D.sl (xs.map aW.enc)).Fit→aG Tryz.prog 91 [.c (.d (.sl (xs.map aW.enc))),.c (.d (.i .i64 left))] (.c (.d (.i .i64 (dD left (xs.length+aI (xs.map aW.enc)))))))
 |0=>⟨fun x h=>by omega,fun x h=>by omega,fun x h=>by omega,fun x h=>by omega⟩
 |n+1=>by
  obtain⟨pF,oI,wT,ze⟩:=Hw n
  refine⟨fun x hn left h0 h1 hf S=> ?_,fun xs hn left h0 h1 hf S=> ?_,fun x hn left h0 h1 hf S=> ?_,fun xs hn left h0 h1 hf S=> ?_⟩
  ·have jf:=au.fI x
   have tu:=au.mo x
   simp only[au.aC,List.cons_append,List.nil_append,jh,je,iV,and_true] at hf
   obtain⟨aX,bR,fName,fN,fType,fArgs,aZ⟩:=hf
   have hz:x.sz=x.bR.length+(x.fName.length+(x.fType.sz+((x.fArgs.length+aI (x.fArgs.map au.enc))+((x.aZ.length+aI (x.aZ.map aW.enc)))))):=by
    simp only[au.sz,au.aC,bP,bA,D.sz,List.length_map,Nat.add_zero,Nat.zero_add,aj.dw]<;>omega
   refine aA (rs:=[.tmp 4]) Tryz.checked.mixed Tryz.func19 Tryz.ntmps19 rfl rfl rfl rfl rfl ?_
   rw[hz]
   have V3:=qK bR
   have yA:=qK fName
   first|refine W1 ?_|exact Z1
   first|refine S0 (fun hb h=>?_) (fun hb h=>?_)|refine S1 fun hb h=>?_|refine S2 fun hb h=>?_|exact S3
   ·exact int_eq (dn (by omega)).symm
   first|refine S0 (fun hb h=>?_) (fun hb h=>?_)|refine S1 fun hb h=>?_|refine S2 fun hb h=>?_|exact S3
   ·exact int_eq (dn (by omega)).symm
   refine ah (sI x.fType _ (by omega) (by omega) fType) ?_
   first|refine W1 ?_|exact Z1
   first|refine S0 (fun hb h=>?_) (fun hb h=>?_)|refine S1 fun hb h=>?_|refine S2 fun hb h=>?_|exact S3
   ·have h':=dO h
    exact int_eq (dn (by omega)).symm
   have hType:=eu h
   simp only[hType.1]
   refine ah (oI x.fArgs (by omega) _ (by omega) (by omega) fArgs) ?_
   first|refine W1 ?_|exact Z1
   first|refine S0 (fun hb h=>?_) (fun hb h=>?_)|refine S1 fun hb h=>?_|refine S2 fun hb h=>?_|exact S3
   ·have h':=dO h
    exact int_eq (dn (by omega)).symm
   have Tt:=eu h
   simp only[Tt.1]
   refine ah (ze x.aZ (by omega) _ (by omega) (by omega) aZ) ?_
   first|refine W1 ?_|exact Z1
   first|refine S0 (fun hb h=>?_) (fun hb h=>?_)|refine S1 fun hb h=>?_|refine S2 fun hb h=>?_|exact S3
   ·have h':=dO h
    exact int_eq (dn (by omega)).symm
   have aez:=eu h
   simp only[aez.1]
   refine int_eq ?_
   rw[fU (by omega)]
   omega
  ·obtain⟨hf1,hf2⟩:=qj hf
   rw[List.length_map] at hf1
   refine aA (rs:=[.tmp 4]) Tryz.checked.mixed Tryz.func90 Tryz.ntmps90 rfl rfl rfl rfl rfl ?_
   first|refine W1 ?_|exact Z1
   first|refine S0 (fun hb h=>?_) (fun hb h=>?_)|refine S1 fun hb h=>?_|refine S2 fun hb h=>?_|exact S3
   ·exact int_eq (dn (by omega)).symm
   refine aV (ι:=Nat×Int) Tryz.checked.mixed rfl [0,1,5] (fun y=>[.c (.d (.sl (xs.map au.enc))),.c (.d (.i .i64 y.2)),.c (.d (.i .i64 y.1))]) (fun _=>[]::S)
    (fun y=>y.1≤xs.length∧0≤y.2∧y.2≤1048576∧dD y.2 (aI ((xs.map au.enc).drop y.1))=dD left (xs.length+aI (xs.map au.enc))) (fun y=>xs.length-y.1) (0,left-xs.length) rfl rfl ⟨by omega,by omega,by omega,?_⟩ ?_
   ·unfold dD
    rw[List.drop_zero]
    split<;>split<;>omega
   rintro⟨i,l⟩ ⟨p1,p2,p3,p4⟩
   simp only at p1 p2 p3 p4
   first|refine W1 ?_|exact Z1
   with_reducible refine aS (fun hb=> ?_) (fun hb=> ?_)<;>have h:=hb<;>(try simp only[wf_preprocess] at h)<;>simp -implicitDefEqProofs (disch:=omega) only[go_sem,hb]<;>(repeat(with_reducible refine And.intro ?_ ?_;focus first|omega|rfl|assumption|exact⟨_,rfl,rfl⟩|(simp;omega)|(simp;done)))
   ·have hi:i<xs.length:=by omega
    rw[List.drop_eq_getElem_cons (by rw[List.length_map];exact hi),aI,List.getElem_map,au.dw] at p4
    refine W3 ?_
    refine ah (pF xs[i] (by have:=List.sizeOf_lt_of_mem (List.getElem_mem hi);omega) _ (by omega) (by omega) (hf2 _ (List.mem_map_of_mem (List.getElem_mem hi)))) ?_
    first|refine W1 ?_|exact Z1
    first|refine S0 (fun hb h=>?_) (fun hb h=>?_)|refine S1 fun hb h=>?_|refine S2 fun hb h=>?_|exact S3
    ·have h':=dO h
     rw[←p4,dn (by omega)]
    ·have h':=eu h
     refine bL (i+1,dD l _) (by simp only;omega) rfl rfl ⟨by simp only;omega,by simp only;omega,by simp only;omega,?_⟩
     simp only
     rw[←p4,h'.1]
     unfold dD
     split<;>split<;>omega
   ·have hi:i=xs.length:=by omega
    rw[hi,List.drop_of_length_le (by simp),aI,fU (by omega)] at p4
    rw[←p4]
    refine int_eq ?_
    omega
  ·have Hy:=aW.kW x
   simp only[aW.aC,List.cons_append,List.nil_append,jh,je,iV,and_true] at hf
   obtain⟨dK,aF,fBody⟩:=hf
   have hz:x.sz=x.dK.length+((x.aF.length+aI (x.aF.map encS))+(x.fBody.sz)):=by
    simp only[aW.sz,aW.aC,bP,bA,D.sz,List.length_map,Nat.add_zero,Nat.zero_add,au.dw]<;>omega
   refine aA (rs:=[.tmp 4]) Tryz.checked.mixed Tryz.func185 Tryz.ntmps185 rfl rfl rfl rfl rfl ?_
   rw[hz]
   have ab3:=qK dK
   first|refine W1 ?_|exact Z1
   first|refine S0 (fun hb h=>?_) (fun hb h=>?_)|refine S1 fun hb h=>?_|refine S2 fun hb h=>?_|exact S3
   ·exact int_eq (dn (by omega)).symm
   refine ah (nH x.aF _ (by omega) (by omega) aF) ?_
   first|refine W1 ?_|exact Z1
   first|refine S0 (fun hb h=>?_) (fun hb h=>?_)|refine S1 fun hb h=>?_|refine S2 fun hb h=>?_|exact S3
   ·have h':=dO h
    exact int_eq (dn (by omega)).symm
   have hVars:=eu h
   simp only[hVars.1]
   refine ah (pF x.fBody (by omega) _ (by omega) (by omega) fBody) ?_
   first|refine W1 ?_|exact Z1
   first|refine S0 (fun hb h=>?_) (fun hb h=>?_)|refine S1 fun hb h=>?_|refine S2 fun hb h=>?_|exact S3
   ·have h':=dO h
    exact int_eq (dn (by omega)).symm
   have BA:=eu h
   simp only[BA.1]
   refine int_eq ?_
   rw[fU (by omega)]
   omega
  ·obtain⟨hf1,hf2⟩:=qj hf
   rw[List.length_map] at hf1
   refine aA (rs:=[.tmp 4]) Tryz.checked.mixed Tryz.func91 Tryz.ntmps91 rfl rfl rfl rfl rfl ?_
   first|refine W1 ?_|exact Z1
   first|refine S0 (fun hb h=>?_) (fun hb h=>?_)|refine S1 fun hb h=>?_|refine S2 fun hb h=>?_|exact S3
   ·exact int_eq (dn (by omega)).symm
   refine aV (ι:=Nat×Int) Tryz.checked.mixed rfl [0,1,5] (fun y=>[.c (.d (.sl (xs.map aW.enc))),.c (.d (.i .i64 y.2)),.c (.d (.i .i64 y.1))]) (fun _=>[]::S)
    (fun y=>y.1≤xs.length∧0≤y.2∧y.2≤1048576∧dD y.2 (aI ((xs.map aW.enc).drop y.1))=dD left (xs.length+aI (xs.map aW.enc))) (fun y=>xs.length-y.1) (0,left-xs.length) rfl rfl ⟨by omega,by omega,by omega,?_⟩ ?_
   ·unfold dD
    rw[List.drop_zero]
    split<;>split<;>omega
   rintro⟨i,l⟩ ⟨p1,p2,p3,p4⟩
   simp only at p1 p2 p3 p4
   first|refine W1 ?_|exact Z1
   with_reducible refine aS (fun hb=> ?_) (fun hb=> ?_)<;>have h:=hb<;>(try simp only[wf_preprocess] at h)<;>simp -implicitDefEqProofs (disch:=omega) only[go_sem,hb]<;>(repeat(with_reducible refine And.intro ?_ ?_;focus first|omega|rfl|assumption|exact⟨_,rfl,rfl⟩|(simp;omega)|(simp;done)))
   ·have hi:i<xs.length:=by omega
    rw[List.drop_eq_getElem_cons (by rw[List.length_map];exact hi),aI,List.getElem_map,aW.dw] at p4
    refine W3 ?_
    refine ah (wT xs[i] (by have:=List.sizeOf_lt_of_mem (List.getElem_mem hi);omega) _ (by omega) (by omega) (hf2 _ (List.mem_map_of_mem (List.getElem_mem hi)))) ?_
    first|refine W1 ?_|exact Z1
    first|refine S0 (fun hb h=>?_) (fun hb h=>?_)|refine S1 fun hb h=>?_|refine S2 fun hb h=>?_|exact S3
    ·have h':=dO h
     rw[←p4,dn (by omega)]
    ·have h':=eu h
     refine bL (i+1,dD l _) (by simp only;omega) rfl rfl ⟨by simp only;omega,by simp only;omega,by simp only;omega,?_⟩
     simp only
     rw[←p4,h'.1]
     unfold dD
     split<;>split<;>omega
   ·have hi:i=xs.length:=by omega
    rw[hi,List.drop_of_length_le (by simp),aI,fU (by omega)] at p4
    rw[←p4]
    refine int_eq ?_
    omega
theorem C8(x:au):∀left:Int,0≤left→left≤1048576→lU x.enc→aG Tryz.prog 19 [x.v,.c (.d (.i .i64 left))] (.c (.d (.i .i64 (dD left x.sz)))):=(Hw _).1 x (Nat.lt_succ_self _)
theorem Hz:∀n:Nat,(∀x:au,SizeOf.sizeOf x<n→x.sz≤1048576→aG Tryz.prog 21 [x.v] x.v)∧
 (∀xs:List au,SizeOf.sizeOf xs<n→xs.length+aI (xs.map au.enc)≤1048576→aG Tryz.prog 95 [.c (.d (.sl (xs.map au.enc)))] (.c (.d (.sl (xs.map au.enc)))))∧
 (∀x:aW,SizeOf.sizeOf x<n→x.sz≤1048576→aG Tryz.prog 188 [x.v] x.v)∧
 (∀xs:List aW,SizeOf.sizeOf xs<n→xs.length+aI (xs.map aW.enc)≤1048576→aG Tryz.prog 96 [.c (.d (.sl (xs.map aW.enc)))] (.c (.d (.sl (xs.map aW.enc)))))
 |0=>⟨fun x h=>by omega,fun x h=>by omega,fun x h=>by omega,fun x h=>by omega⟩
 |n+1=>by
  obtain⟨pF,oI,wT,ze⟩:=Hz n
  refine⟨fun x hn hsz S=> ?_,fun xs hn hsz S=> ?_,fun x hn hsz S=> ?_,fun xs hn hsz S=> ?_⟩
  ·have jf:=au.fI x
   have tu:=au.mo x
   simp only[au.sz,au.aC,bP,bA,D.sz,List.length_map,aj.dw] at hsz
   refine aA (rs:=[.cell 2 61]) Tryz.checked.mixed Tryz.func21 Tryz.ntmps21 rfl rfl rfl rfl rfl ?_
   simp -implicitDefEqProofs (disch:=omega) only[go_sem]
   refine ah (sJ x.fType (by omega)) ?_
   simp -implicitDefEqProofs (disch:=omega) only[go_sem]
   refine ah (oI x.fArgs (by omega) (by omega)) ?_
   simp -implicitDefEqProofs (disch:=omega) only[go_sem]
   refine ah (ze x.aZ (by omega) (by omega)) ?_
   simp -implicitDefEqProofs (disch:=omega) only[go_sem]
  ·refine aA (rs:=[.tmp 2]) Tryz.checked.mixed Tryz.func95 Tryz.ntmps95 rfl rfl rfl rfl rfl ?_
   simp -implicitDefEqProofs (disch:=omega) only[go_sem]
   (repeat(with_reducible refine And.intro ?_ ?_;focus first|omega|rfl|assumption|exact⟨_,rfl,rfl⟩|(simp;omega)|(simp;done)))
   refine aV (ι:=Nat×List (List D)) Tryz.checked.mixed rfl [0,3,4] (fun y=>[.c (.d (.sl (xs.map au.enc))),.c (.iy (0,0)),.c (.d (.i .i64 y.1))]) (fun y=>[.eZ 9 y.2]::S)
    (fun y=>y.1≤xs.length∧eD 9 y.1 y.2 (xs.map au.enc)) (fun y=>xs.length-y.1) (0,_) rfl rfl ⟨Nat.zero_le _,eD.start (by simp) rfl⟩ ?_
   rintro⟨i,R⟩ ⟨p1,p2⟩
   simp only at p1 p2
   simp -implicitDefEqProofs (disch:=omega) only[go_sem]
   with_reducible refine aS (fun hb=> ?_) (fun hb=> ?_)<;>have h:=hb<;>(try simp only[wf_preprocess] at h)<;>simp -implicitDefEqProofs (disch:=omega) only[go_sem,hb]<;>(repeat(with_reducible refine And.intro ?_ ?_;focus first|omega|rfl|assumption|exact⟨_,rfl,rfl⟩|(simp;omega)|(simp;done)))
   ·have hi:i<xs.length:=by omega
    have hx:xs[i].sz≤aI (xs.map au.enc):=bI (List.mem_map_of_mem (List.getElem_mem hi))
    (repeat(with_reducible refine And.intro ?_ ?_;focus first|omega|rfl|assumption|exact⟨_,rfl,rfl⟩|(simp;omega)|(simp;done)))
    refine ah (pF xs[i] (by have:=List.sizeOf_lt_of_mem (List.getElem_mem hi);omega) (by omega)) ?_
    simp -implicitDefEqProofs (disch:=omega) only[go_sem]
    have hR:=p2.1
    rw[List.length_map] at hR
    (repeat(with_reducible refine And.intro ?_ ?_;focus first|omega|rfl|assumption|exact⟨_,rfl,rfl⟩|(simp;omega)|(simp;done)))
    refine bL (i+1,_) (by simp only;omega) rfl rfl ⟨by simp only;omega,p2.step (by simp[hi,au.aC,aj.aC]) rfl⟩
   ·have hi:i=xs.length:=by omega
    rw[p2.done (by rw[List.length_map];omega)]
  ·have Hy:=aW.kW x
   simp only[aW.sz,aW.aC,bP,bA,D.sz,List.length_map,au.dw] at hsz
   refine aA (rs:=[.cell 2 223]) Tryz.checked.mixed Tryz.func188 Tryz.ntmps188 rfl rfl rfl rfl rfl ?_
   simp -implicitDefEqProofs (disch:=omega) only[go_sem]
   refine ah (nI x.aF (by omega)) ?_
   simp -implicitDefEqProofs (disch:=omega) only[go_sem]
   refine ah (pF x.fBody (by omega) (by omega)) ?_
   simp -implicitDefEqProofs (disch:=omega) only[go_sem]
  ·refine aA (rs:=[.tmp 2]) Tryz.checked.mixed Tryz.func96 Tryz.ntmps96 rfl rfl rfl rfl rfl ?_
   simp -implicitDefEqProofs (disch:=omega) only[go_sem]
   (repeat(with_reducible refine And.intro ?_ ?_;focus first|omega|rfl|assumption|exact⟨_,rfl,rfl⟩|(simp;omega)|(simp;done)))
   refine aV (ι:=Nat×List (List D)) Tryz.checked.mixed rfl [0,3,4] (fun y=>[.c (.d (.sl (xs.map aW.enc))),.c (.iy (0,0)),.c (.d (.i .i64 y.1))]) (fun y=>[.eZ 11 y.2]::S)
    (fun y=>y.1≤xs.length∧eD 11 y.1 y.2 (xs.map aW.enc)) (fun y=>xs.length-y.1) (0,_) rfl rfl ⟨Nat.zero_le _,eD.start (by simp) rfl⟩ ?_
   rintro⟨i,R⟩ ⟨p1,p2⟩
   simp only at p1 p2
   simp -implicitDefEqProofs (disch:=omega) only[go_sem]
   with_reducible refine aS (fun hb=> ?_) (fun hb=> ?_)<;>have h:=hb<;>(try simp only[wf_preprocess] at h)<;>simp -implicitDefEqProofs (disch:=omega) only[go_sem,hb]<;>(repeat(with_reducible refine And.intro ?_ ?_;focus first|omega|rfl|assumption|exact⟨_,rfl,rfl⟩|(simp;omega)|(simp;done)))
   ·have hi:i<xs.length:=by omega
    have hx:xs[i].sz≤aI (xs.map aW.enc):=bI (List.mem_map_of_mem (List.getElem_mem hi))
    (repeat(with_reducible refine And.intro ?_ ?_;focus first|omega|rfl|assumption|exact⟨_,rfl,rfl⟩|(simp;omega)|(simp;done)))
    refine ah (wT xs[i] (by have:=List.sizeOf_lt_of_mem (List.getElem_mem hi);omega) (by omega)) ?_
    simp -implicitDefEqProofs (disch:=omega) only[go_sem]
    have hR:=p2.1
    rw[List.length_map] at hR
    (repeat(with_reducible refine And.intro ?_ ?_;focus first|omega|rfl|assumption|exact⟨_,rfl,rfl⟩|(simp;omega)|(simp;done)))
    refine bL (i+1,_) (by simp only;omega) rfl rfl ⟨by simp only;omega,p2.step (by simp[hi,aW.aC,au.aC,aj.aC]) rfl⟩
   ·have hi:i=xs.length:=by omega
    rw[p2.done (by rw[List.length_map];omega)]
theorem C9(x:au):x.sz≤1048576→aG Tryz.prog 21 [x.v] x.v:=(Hz _).1 x (Nat.lt_succ_self _)
theorem HV:∀n:Nat,(∀x:au,SizeOf.sizeOf x<n→∀y:au,x.sz≤1048576→aG Tryz.prog 23 [x.v,y.v] (.c (.d (.b (dec (x=y))))))∧
 (∀xs:List au,SizeOf.sizeOf xs<n→∀ys:List au,xs.length+aI (xs.map au.enc)≤1048576→aG Tryz.prog 101 [.c (.d (.sl (xs.map au.enc))),.c (.d (.sl (ys.map au.enc)))] (.c (.d (.b (dec (xs=ys))))))∧
 (∀x:aW,SizeOf.sizeOf x<n→∀y:aW,x.sz≤1048576→aG Tryz.prog 193 [x.v,y.v] (.c (.d (.b (dec (x=y))))))∧
 (∀xs:List aW,SizeOf.sizeOf xs<n→∀ys:List aW,xs.length+aI (xs.map aW.enc)≤1048576→aG Tryz.prog 102 [.c (.d (.sl (xs.map aW.enc))),.c (.d (.sl (ys.map aW.enc)))] (.c (.d (.b (dec (xs=ys))))))
 |0=>⟨fun x h=>by omega,fun x h=>by omega,fun x h=>by omega,fun x h=>by omega⟩
 |n+1=>by
  obtain⟨pF,oI,wT,ze⟩:=HV n
  refine⟨fun x hn y hsz S=> ?_,fun xs hn ys hsz S=> ?_,fun x hn y hsz S=> ?_,fun xs hn ys hsz S=> ?_⟩
  ·have jf:=au.fI x
   have tu:=au.mo x
   simp only[au.sz,au.aC,bP,bA,D.sz,List.length_map,aj.dw] at hsz
   refine aA (rs:=[.tmp 4]) Tryz.checked.mixed Tryz.func23 Tryz.ntmps23 rfl rfl rfl rfl rfl ?_
   first|refine W1 ?_|exact Z1
   first|refine S0 (fun hb h=>?_) (fun hb h=>?_)|refine S1 fun hb h=>?_|refine S2 fun hb h=>?_|exact S3
   ·exact aB (aH (fun e=>h (by rw[e]))).symm
   have Tv:=h
   clear h
   first|refine S0 (fun hb h=>?_) (fun hb h=>?_)|refine S1 fun hb h=>?_|refine S2 fun hb h=>?_|exact S3
   ·exact aB (aH (fun e=>h (by rw[e]))).symm
   have CZ:=h
   clear h
   first|refine S0 (fun hb h=>?_) (fun hb h=>?_)|refine S1 fun hb h=>?_|refine S2 fun hb h=>?_|exact S3
   ·exact aB (aH (fun e=>h (by rw[e]))).symm
   have ow:=h
   clear h
   first|refine S0 (fun hb h=>?_) (fun hb h=>?_)|refine S1 fun hb h=>?_|refine S2 fun hb h=>?_|exact S3
   ·exact aB (aH (fun e=>h (by rw[e]))).symm
   have eN:=h
   clear h
   refine ah (sK x.fType _ (by omega)) ?_
   first|refine W1 ?_|exact Z1
   first|refine S0 (fun hb h=>?_) (fun hb h=>?_)|refine S1 fun hb h=>?_|refine S2 fun hb h=>?_|exact S3
   ·exact aB (aH (fun e=>h (by rw[e]))).symm
   have eType:=h
   clear h
   refine ah (oI x.fArgs (by omega) _ (by omega)) ?_
   first|refine W1 ?_|exact Z1
   first|refine S0 (fun hb h=>?_) (fun hb h=>?_)|refine S1 fun hb h=>?_|refine S2 fun hb h=>?_|exact S3
   ·exact aB (aH (fun e=>h (by rw[e]))).symm
   have eArgs:=h
   clear h
   refine ah (ze x.aZ (by omega) _ (by omega)) ?_
   first|refine W1 ?_|exact Z1
   first|refine S0 (fun hb h=>?_) (fun hb h=>?_)|refine S1 fun hb h=>?_|refine S2 fun hb h=>?_|exact S3
   ·exact aB (aH (fun e=>h (by rw[e]))).symm
   have aeA:=h
   clear h
   exact aB (bJ (au.ext Tv CZ ow eN eType eArgs aeA)).symm
  ·refine aA (rs:=[.tmp 4]) Tryz.checked.mixed Tryz.func101 Tryz.ntmps101 rfl rfl rfl rfl rfl ?_
   first|refine W1 ?_|exact Z1
   first|refine S0 (fun hb h=>?_) (fun hb h=>?_)|refine S1 fun hb h=>?_|refine S2 fun hb h=>?_|exact S3
   ·exact aB (aH (fun e=>h (by rw[e]))).symm
   have hl:xs.length=ys.length:=by omega
   refine aV (ι:=Nat) Tryz.checked.mixed rfl [0,1,5] (fun y=>[.c (.d (.sl (xs.map au.enc))),.c (.d (.sl (ys.map au.enc))),.c (.d (.i .i64 y))]) (fun y=>[]::S)
    (fun i=>i≤xs.length∧∀j,j<i→xs[j]? =ys[j]?) (fun y=>xs.length-y) 0 rfl rfl ⟨Nat.zero_le _,fun j h=>by omega⟩ ?_
   rintro i ⟨p1,p2⟩
   first|refine W1 ?_|exact Z1
   with_reducible refine aS (fun hb=> ?_) (fun hb=> ?_)<;>have h:=hb<;>(try simp only[wf_preprocess] at h)<;>simp -implicitDefEqProofs (disch:=omega) only[go_sem,hb]<;>(repeat(with_reducible refine And.intro ?_ ?_;focus first|omega|rfl|assumption|exact⟨_,rfl,rfl⟩|(simp;omega)|(simp;done)))
   ·have hi:i<xs.length:=by omega
    have hi':i<ys.length:=by omega
    have hx:xs[i].sz≤aI (xs.map au.enc):=bI (List.mem_map_of_mem (List.getElem_mem hi))
    refine W3 ?_
    refine ah (pF xs[i] (by have:=List.sizeOf_lt_of_mem (List.getElem_mem hi);omega) ys[i] (by omega)) ?_
    first|refine W1 ?_|exact Z1
    first|refine S0 (fun hb h=>?_) (fun hb h=>?_)|refine S1 fun hb h=>?_|refine S2 fun hb h=>?_|exact S3
    ·exact aB (aH (fun e=>h (by simp only[e]))).symm
    refine bL (i+1) (by omega) rfl rfl ⟨by omega,fun j hj=> ?_⟩
    by_cases e:j=i
    ·subst e
     rw[List.getElem?_eq_getElem hi,List.getElem?_eq_getElem hi',h]
    ·exact p2 j (by omega)
   ·have hi:i=xs.length:=by omega
    refine aB (bJ (List.ext_getElem? fun j=> ?_)).symm
    by_cases hj:j<i
    ·exact p2 j hj
    ·rw[List.getElem?_eq_none (by omega),List.getElem?_eq_none (by omega)]
  ·have Hy:=aW.kW x
   simp only[aW.sz,aW.aC,bP,bA,D.sz,List.length_map,au.dw] at hsz
   refine aA (rs:=[.tmp 4]) Tryz.checked.mixed Tryz.func193 Tryz.ntmps193 rfl rfl rfl rfl rfl ?_
   first|refine W1 ?_|exact Z1
   first|refine S0 (fun hb h=>?_) (fun hb h=>?_)|refine S1 fun hb h=>?_|refine S2 fun hb h=>?_|exact S3
   ·exact aB (aH (fun e=>h (by rw[e]))).symm
   have Ol:=h
   clear h
   refine ah (nJ x.aF _ (by omega)) ?_
   first|refine W1 ?_|exact Z1
   first|refine S0 (fun hb h=>?_) (fun hb h=>?_)|refine S1 fun hb h=>?_|refine S2 fun hb h=>?_|exact S3
   ·exact aB (aH (fun e=>h (by rw[e]))).symm
   have vF:=h
   clear h
   refine ah (pF x.fBody (by omega) _ (by omega)) ?_
   first|refine W1 ?_|exact Z1
   first|refine S0 (fun hb h=>?_) (fun hb h=>?_)|refine S1 fun hb h=>?_|refine S2 fun hb h=>?_|exact S3
   ·exact aB (aH (fun e=>h (by rw[e]))).symm
   have BD:=h
   clear h
   exact aB (bJ (aW.ext Ol vF BD)).symm
  ·refine aA (rs:=[.tmp 4]) Tryz.checked.mixed Tryz.func102 Tryz.ntmps102 rfl rfl rfl rfl rfl ?_
   first|refine W1 ?_|exact Z1
   first|refine S0 (fun hb h=>?_) (fun hb h=>?_)|refine S1 fun hb h=>?_|refine S2 fun hb h=>?_|exact S3
   ·exact aB (aH (fun e=>h (by rw[e]))).symm
   have hl:xs.length=ys.length:=by omega
   refine aV (ι:=Nat) Tryz.checked.mixed rfl [0,1,5] (fun y=>[.c (.d (.sl (xs.map aW.enc))),.c (.d (.sl (ys.map aW.enc))),.c (.d (.i .i64 y))]) (fun y=>[]::S)
    (fun i=>i≤xs.length∧∀j,j<i→xs[j]? =ys[j]?) (fun y=>xs.length-y) 0 rfl rfl ⟨Nat.zero_le _,fun j h=>by omega⟩ ?_
   rintro i ⟨p1,p2⟩
   first|refine W1 ?_|exact Z1
   with_reducible refine aS (fun hb=> ?_) (fun hb=> ?_)<;>have h:=hb<;>(try simp only[wf_preprocess] at h)<;>simp -implicitDefEqProofs (disch:=omega) only[go_sem,hb]<;>(repeat(with_reducible refine And.intro ?_ ?_;focus first|omega|rfl|assumption|exact⟨_,rfl,rfl⟩|(simp;omega)|(simp;done)))
   ·have hi:i<xs.length:=by omega
    have hi':i<ys.length:=by omega
    have hx:xs[i].sz≤aI (xs.map aW.enc):=bI (List.mem_map_of_mem (List.getElem_mem hi))
    refine W3 ?_
    refine ah (wT xs[i] (by have:=List.sizeOf_lt_of_mem (List.getElem_mem hi);omega) ys[i] (by omega)) ?_
    first|refine W1 ?_|exact Z1
    first|refine S0 (fun hb h=>?_) (fun hb h=>?_)|refine S1 fun hb h=>?_|refine S2 fun hb h=>?_|exact S3
    ·exact aB (aH (fun e=>h (by simp only[e]))).symm
    refine bL (i+1) (by omega) rfl rfl ⟨by omega,fun j hj=> ?_⟩
    by_cases e:j=i
    ·subst e
     rw[List.getElem?_eq_getElem hi,List.getElem?_eq_getElem hi',h]
    ·exact p2 j (by omega)
   ·have hi:i=xs.length:=by omega
    refine aB (bJ (List.ext_getElem? fun j=> ?_)).symm
    by_cases hj:j<i
    ·exact p2 j hj
    ·rw[List.getElem?_eq_none (by omega),List.getElem?_eq_none (by omega)]
theorem Da(x:au):∀y:au,x.sz≤1048576→aG Tryz.prog 23 [x.v,y.v] (.c (.d (.b (dec (x=y))))):=(HV _).1 x (Nat.lt_succ_self _)
end Go.Proofs.YtlmhknhlmicmeaaGreatDoor
namespace Go.Ab
mutual
def au.cnt:au→Nat
 | .mk _ _ _ _ _ a b=>1+(au.eB a+aW.eB b)
def au.eB:List au→Nat
 |[]=>0
 |x::xs=>x.cnt+au.eB xs
def aW.cnt:aW→Nat
 | .mk _ _ b=>b.cnt
def aW.eB:List aW→Nat
 |[]=>0
 |x::xs=>x.cnt+aW.eB xs
end
theorem au.nZ(x:au):x.cnt=1+(au.eB x.fArgs+aW.eB x.aZ):=by cases x;rw[au.cnt];rfl
theorem aW.nZ(x:aW):x.cnt=x.fBody.cnt:=by cases x;rw[aW.cnt];rfl
theorem au.kY{xs:List au}{i:Nat}(hi:i<xs.length):au.eB (xs.drop i)=xs[i].cnt+au.eB (xs.drop (i+1)):=by rw[List.drop_eq_getElem_cons hi,au.eB]
theorem aW.kY{xs:List aW}{i:Nat}(hi:i<xs.length):aW.eB (xs.drop i)=xs[i].fBody.cnt+aW.eB (xs.drop (i+1)):=by rw[List.drop_eq_getElem_cons hi,aW.eB,aW.nZ]
theorem au.zf(x:au):x.fArgs.length+aI (x.fArgs.map au.enc)≤x.sz∧x.aZ.length+aI (x.aZ.map aW.enc)≤x.sz:=by
 simp only[au.sz,au.aC,bP,bA,D.sz,List.length_map]
 omega
theorem aW.JJ(x:aW):x.fBody.sz≤x.sz:=by
 simp only[aW.sz,aW.aC,au.sz,bP,bA,D.sz,List.length_map]
 omega
mutual
theorem au.kJ:∀x:au,x.cnt≤1+x.sz
 | .mk k t n m ty a b=>by
   have h1:=au.uM a
   have h2:=aW.uM b
   rw[au.cnt]
   simp only[au.sz,au.aC,bP,bA,D.sz,List.length_map,au.fArgs,au.aZ]
   omega
theorem au.uM:∀xs:List au,au.eB xs≤xs.length+aI (xs.map au.enc)
 |[]=>by simp[au.eB]
 |x::xs=>by
  have h1:=au.kJ x
  have h2:=au.uM xs
  rw[au.eB,List.length_cons,List.map_cons,aI,au.dw]
  omega
theorem aW.kJ:∀x:aW,x.cnt≤1+x.sz
 | .mk c v b=>by
   have h1:=au.kJ b
   have h2:=aW.JJ (.mk c v b)
   rw[aW.cnt]
   simp only[aW.fBody] at h2
   omega
theorem aW.uM:∀xs:List aW,aW.eB xs≤xs.length+aI (xs.map aW.enc)
 |[]=>by simp[aW.eB]
 |x::xs=>by
  have h1:=aW.kJ x
  have h2:=aW.uM xs
  rw[aW.eB,List.length_cons,List.map_cons,aI,aW.dw]
  omega
end
end Go.Ab
namespace Go.Proofs.YtlmhknhlmicmeaaGreatDoor
open Go Go.Ab
theorem zh:∀n:Nat,∀x:au,SizeOf.sizeOf x<n→x.sz≤4194304→aG Tryz.prog 210 [x.v] (.c (.d (.i .i64 x.cnt)))
 |0=>fun x h=>by omega
 |n+1=>by
  have ih:=zh n
  intro x hn hsz S
  have jf:=au.fI x
  have tu:=au.mo x
  have hp:=au.zf x
  have hc:=au.kJ x
  have he:=au.nZ x
  refine aA (rs:=[.tmp 2]) Tryz.checked.mixed Tryz.func210 Tryz.ntmps210 rfl rfl rfl rfl rfl ?_
  first|refine W1 ?_|exact Z1
  refine aV (ι:=Nat×Nat) Tryz.checked.mixed rfl [1,3,9,10,11] (fun y=>[.c (.ptr (0,0) 0),.c (.d (.i .i64 y.2)),.c (.d (.sl (x.fArgs.map au.enc))),.c (.d (.i .i64 x.fArgs.length)),.c (.d (.i .i64 y.1))]) (fun y=>[.box (x.enc.map .d)]::S)
   (fun y=>y.1≤x.fArgs.length∧x.cnt=y.2+au.eB (x.fArgs.drop y.1)+aW.eB x.aZ) (fun y=>x.fArgs.length-y.1) (0,1) rfl ?_ ⟨Nat.zero_le _,by simp only[List.drop_zero];omega⟩ ?_
  ·first|refine W1 ?_|exact Z1
  rintro⟨i,c⟩ ⟨p1,p2⟩
  simp only at p1 p2
  first|refine W1 ?_|exact Z1
  with_reducible refine aS (fun hb=> ?_) (fun hb=> ?_)<;>have h:=hb<;>(try simp only[wf_preprocess] at h)<;>simp -implicitDefEqProofs (disch:=omega) only[go_sem,hb]<;>(repeat(with_reducible refine And.intro ?_ ?_;focus first|omega|rfl|assumption|exact⟨_,rfl,rfl⟩|(simp;omega)|(simp;done)))
  ·have hi:i<x.fArgs.length:=by omega
   have hx:x.fArgs[i].sz≤aI (x.fArgs.map au.enc):=bI (List.mem_map_of_mem (List.getElem_mem hi))
   rw[au.kY hi] at p2
   refine W3 ?_
   refine ah (ih x.fArgs[i] (by have:=List.sizeOf_lt_of_mem (List.getElem_mem hi);omega) (by omega)) ?_
   first|refine W2 ?_|exact Z2
   rw[show(c:Int)+(x.fArgs[i].cnt:Int)=((c+x.fArgs[i].cnt:Nat):Int) by omega]
   exact dz 1 (by decide) (i+1,c+x.fArgs[i].cnt) (by simp only;omega) rfl rfl rfl rfl ⟨by simp only;omega,by simp only;omega⟩
  have hi:i=x.fArgs.length:=by omega
  rw[hi,List.drop_length,au.eB] at p2
  refine aV (ι:=Nat×Nat) Tryz.checked.mixed rfl [3,21,22,23] (fun y=>[.c (.d (.i .i64 y.2)),.c (.d (.sl (x.aZ.map aW.enc))),.c (.d (.i .i64 x.aZ.length)),.c (.d (.i .i64 y.1))]) (fun y=>[.box (x.enc.map .d)]::S)
   (fun y=>y.1≤x.aZ.length∧x.cnt=y.2+aW.eB (x.aZ.drop y.1)) (fun y=>x.aZ.length-y.1) (0,c) rfl ?_ ⟨Nat.zero_le _,by simp only[List.drop_zero];omega⟩ ?_
  ·first|refine W1 ?_|exact Z1
  clear p1 p2 hb h hi i
  rintro⟨i,d⟩ ⟨p1,p2⟩
  simp only at p1 p2
  first|refine W1 ?_|exact Z1
  with_reducible refine aS (fun hb=> ?_) (fun hb=> ?_)<;>have h:=hb<;>(try simp only[wf_preprocess] at h)<;>simp -implicitDefEqProofs (disch:=omega) only[go_sem,hb]<;>(repeat(with_reducible refine And.intro ?_ ?_;focus first|omega|rfl|assumption|exact⟨_,rfl,rfl⟩|(simp;omega)|(simp;done)))
  ·have hi:i<x.aZ.length:=by omega
   have hx:x.aZ[i].sz≤aI (x.aZ.map aW.enc):=bI (List.mem_map_of_mem (List.getElem_mem hi))
   have hy:=aW.JJ x.aZ[i]
   have hs:=List.sizeOf_lt_of_mem (List.getElem_mem hi)
   have hs':=aW.kW x.aZ[i]
   rw[aW.kY hi] at p2
   refine W3 ?_
   refine ah (ih x.aZ[i].fBody (by omega) (by omega)) ?_
   first|refine W2 ?_|exact Z2
   rw[show(d:Int)+(x.aZ[i].fBody.cnt:Int)=((d+x.aZ[i].fBody.cnt:Nat):Int) by omega]
   exact dz 1 (by decide) (i+1,d+x.aZ[i].fBody.cnt) (by simp only;omega) rfl rfl rfl rfl ⟨by simp only;omega,by simp only;omega⟩
  ·have hi:i=x.aZ.length:=by omega
   rw[hi,List.drop_length,aW.eB] at p2
   exact int_eq (by omega)
theorem HY(x:au)(hsz:x.sz≤4194304):aG Tryz.prog 210 [x.v] (.c (.d (.i .i64 x.cnt))):=zh _ x (Nat.lt_succ_self _) hsz
end Go.Proofs.YtlmhknhlmicmeaaGreatDoor
namespace Go.Ab
mutual
def og:aj→List aj
 | .mk k n a=>.mk k n a::nK a
def nK:List aj→List aj
 |[]=>[]
 |t::ts=>og t++nK ts
end
theorem xD(t:aj):og t=t::nK t.fArgs:=by cases t;rw[og];rfl
theorem wU{ts:List aj}{i:Nat}(hi:i<ts.length):nK (ts.drop i)=og ts[i]++nK (ts.drop (i+1)):=by rw[List.drop_eq_getElem_cons hi,nK]
mutual
theorem Db:∀t:aj,(og t).length=t.cnt
 | .mk k n a=>by rw[og,List.length_cons,aj.cnt,HZ a];omega
theorem HZ:∀ts:List aj,(nK ts).length=aj.eB ts
 |[]=>rfl
 |t::ts=>by rw[nK,List.length_append,aj.eB,Db t,HZ ts]
end
def rQ(out:List (List UInt8))(u:aj):List (List UInt8):=if u.aX=1∧u.fName∉out then out++[u.fName] else out
def iL(out:List (List UInt8))(t:aj):List (List UInt8):=(og t).foldl rQ out
def qY(out:List (List UInt8))(ts:List aj):List (List UInt8):=(nK ts).foldl rQ out
theorem FH(out:List (List UInt8))(u:aj):(rQ out u).length≤out.length+1:=by
 unfold rQ
 split<;>simp
theorem KW:∀(us:List aj) (out:List (List UInt8)),(us.foldl rQ out).length≤out.length+us.length
 |[],out=>by simp
 |u::us,out=>by
  have h1:=FH out u
  have h2:=KW us (rQ out u)
  rw[List.foldl_cons,List.length_cons]
  omega
theorem xE(t:aj)(out:List (List UInt8)):(iL out t).length≤out.length+t.cnt:=by
 have:=KW (og t) out
 rw[Db] at this
 exact this
theorem Yx(out:List (List UInt8))(t:aj):iL out t=qY (rQ out t) t.fArgs:=by
 unfold iL qY
 rw[xD,List.foldl_cons]
theorem EU{ts:List aj}{i:Nat}(hi:i<ts.length)(out:List (List UInt8)):qY out (ts.drop i)=qY (iL out ts[i]) (ts.drop (i+1)):=by
 unfold qY iL
 rw[wU hi,List.foldl_append]
def o7(t:aj):Bool:=(og t).any fun u=>decide (u.aX=3)
def sM(ts:List aj):Bool:=(nK ts).any fun u=>decide (u.aX=3)
theorem BF(t:aj):o7 t=(decide (t.aX=3)||sM t.fArgs):=by
 unfold o7 sM
 rw[xD,List.any_cons]
theorem LQ{ts:List aj}{i:Nat}(hi:i<ts.length):sM (ts.drop i)=(o7 ts[i]||sM (ts.drop (i+1))):=by
 unfold sM o7
 rw[wU hi,List.any_append]
theorem Om(us:List aj):∀b:Bool,us.foldl (fun b u=>b||decide (u.aX=3)) b=(b||us.any fun u=>decide (u.aX=3)):=by
 induction us with
 |nil=>intro b;simp
 |cons u us ih=>intro b;rw[List.foldl_cons,ih,List.any_cons,Bool.or_assoc]
def H6(v:List UInt8)(u:aj):Bool:=decide (u.aX=1∧u.fName=v)
def oN(v:List UInt8)(t:aj):Nat:=(og t).countP (H6 v)
def tC(v:List UInt8)(ts:List aj):Nat:=(nK ts).countP (H6 v)
theorem V4(v:List UInt8)(t:aj):oN v t=(if H6 v t then 1 else 0)+tC v t.fArgs:=by
 unfold oN tC
 rw[xD,List.countP_cons]
 omega
theorem Oo{v:List UInt8}{ts:List aj}{i:Nat}(hi:i<ts.length):tC v (ts.drop i)=oN v ts[i]+tC v (ts.drop (i+1)):=by
 unfold tC oN
 rw[wU hi,List.countP_append]
theorem V5(v:List UInt8)(t:aj):oN v t≤t.cnt:=by
 unfold oN
 rw[←Db]
 exact List.countP_le_length
def occurs(v:List UInt8)(t:aj):Bool:=decide (0<oN v t)
end Go.Ab
namespace Go.Proofs.YtlmhknhlmicmeaaGreatDoor
open Go Go.Ab
theorem Aw(n a b:Int):aG Tryz.prog 245 [.c (.d (.i .i64 n)),.c (.d (.i .i64 a)),.c (.d (.i .i64 b))] (.c (.d (.b (dec (a≤n∧n≤b))))):=fun S=>by
 refine aA (rs:=[.tmp 6]) Tryz.checked.mixed Tryz.func245 Tryz.ntmps245 rfl rfl rfl rfl rfl ?_
 first|refine W1 ?_|exact Z1
 first|refine S0 (fun hb h=>?_) (fun hb h=>?_)|refine S1 fun hb h=>?_|refine S2 fun hb h=>?_|exact S3
 ·exact aB (by rw[ny];exact iJ ⟨fun x=>⟨by omega,x⟩,fun x=>x.2⟩)
 ·exact aB (aH (by omega)).symm
theorem qN(xs:List (List UInt8))(s:List UInt8)(hl:xs.length≤1073741824):aG Tryz.prog 135 [.c (.d (.sl (xs.map encS))),.c (.d (.s s))] (.c (.d (.b (dec (s∈xs))))):=fun S=>by
 refine aA (rs:=[.tmp 4]) Tryz.checked.mixed Tryz.func135 Tryz.ntmps135 rfl rfl rfl rfl rfl ?_
 simp -implicitDefEqProofs (disch:=omega) only[go_sem,encS]
 refine aV (ι:=Nat) Tryz.checked.mixed rfl [0,1,5] (fun i=>[.c (.d (.sl (xs.map encS))),.c (.d (.s s)),.c (.d (.i .i64 i))]) (fun _=>[]::S)
  (fun i=>i≤xs.length∧∀j,j<i→∀h:j<xs.length,xs[j]≠s) (fun i=>xs.length-i) 0 rfl rfl ⟨Nat.zero_le _,fun j h=>by omega⟩ ?_
 rintro i ⟨p1,p2⟩
 simp -implicitDefEqProofs (disch:=omega) only[go_sem,encS]
 with_reducible refine aS (fun hb=> ?_) (fun hb=> ?_)<;>have h:=hb<;>(try simp only[wf_preprocess] at h)<;>simp -implicitDefEqProofs (disch:=omega) only[go_sem,hb,encS]<;>(repeat(with_reducible refine And.intro ?_ ?_;focus first|omega|rfl|assumption|exact⟨_,rfl,rfl⟩|(simp;omega)|(simp;done)))
 ·have hi:i<xs.length:=by omega
  with_reducible refine aS (fun hb=> ?_) (fun hb=> ?_)<;>have h:=hb<;>(try simp only[wf_preprocess] at h)<;>simp -implicitDefEqProofs (disch:=omega) only[go_sem,hb,encS]<;>(repeat(with_reducible refine And.intro ?_ ?_;focus first|omega|rfl|assumption|exact⟨_,rfl,rfl⟩|(simp;omega)|(simp;done)))
  ·exact aB (bJ (by rw[←h];exact List.getElem_mem hi)).symm
  ·refine bL (i+1) (by omega) rfl rfl ⟨by omega,fun j hj hl=> ?_⟩
   by_cases e:j=i
   ·subst e;exact h
   ·exact p2 j (by omega) hl
 ·refine aB (aH fun hm=> ?_).symm
  obtain⟨j,h1,h2⟩:=List.getElem_of_mem hm
  exact p2 j (by omega) h1 h2
theorem KX(xs:List (List UInt8))(s:List UInt8)(hl:xs.length≤1073741824):aG Tryz.prog 266 [.c (.d (.sl (xs.map encS))),.c (.d (.s s))] (.c (.d (.i .i64 (uf xs s)))):=fun S=>by
 refine aA (rs:=[.tmp 4]) Tryz.checked.mixed Tryz.func266 Tryz.ntmps266 rfl rfl rfl rfl rfl ?_
 simp -implicitDefEqProofs (disch:=omega) only[go_sem,encS]
 refine aV (ι:=Nat) Tryz.checked.mixed rfl [0,1,7,8] (fun i=>[.c (.d (.sl (xs.map encS))),.c (.d (.s s)),.c (.d (.i .i64 xs.length)),.c (.d (.i .i64 i))]) (fun _=>[]::S)
  (fun i=>i≤xs.length∧∀j,j<i→xs.getD j []≠s) (fun i=>xs.length-i) 0 rfl rfl ⟨Nat.zero_le _,fun j h=>by omega⟩ ?_
 rintro i ⟨p1,p2⟩
 simp -implicitDefEqProofs (disch:=omega) only[go_sem,encS]
 with_reducible refine aS (fun hb=> ?_) (fun hb=> ?_)<;>have h:=hb<;>(try simp only[wf_preprocess] at h)<;>simp -implicitDefEqProofs (disch:=omega) only[go_sem,hb,encS]<;>(repeat(with_reducible refine And.intro ?_ ?_;focus first|omega|rfl|assumption|exact⟨_,rfl,rfl⟩|(simp;omega)|(simp;done)))
 ·have hi:i<xs.length:=by omega
  have e:xs.getD i []=xs[i]:=by simp[List.getD,hi]
  with_reducible refine aS (fun hb=> ?_) (fun hb=> ?_)<;>have h:=hb<;>(try simp only[wf_preprocess] at h)<;>simp -implicitDefEqProofs (disch:=omega) only[go_sem,hb,encS]<;>(repeat(with_reducible refine And.intro ?_ ?_;focus first|omega|rfl|assumption|exact⟨_,rfl,rfl⟩|(simp;omega)|(simp;done)))
  ·rw[Qn hi p2 (by rw[e];exact h.symm)]
  ·refine bL (i+1) (by omega) rfl rfl ⟨by omega,fun j hj=> ?_⟩
   by_cases e':j=i
   ·subst e';rw[e];exact fun x=>h x.symm
   ·exact p2 j (by omega)
 ·rw[VX (fun j hj=>p2 j (by omega))]
theorem sN(xs:List (List UInt8))(s:List UInt8)(hl:xs.length≤1073741824):aG Tryz.prog 231 [.c (.d (.sl (xs.map encS))),.c (.d (.s s))] (.c (.d (.b (dec (s∈xs))))):=fun S=>by
 refine aA (rs:=[.tmp 4]) Tryz.checked.mixed Tryz.func231 Tryz.ntmps231 rfl rfl rfl rfl rfl ?_
 first|refine W1 ?_|exact Z1
 refine ah (KX xs s hl) ?_
 first|refine W2 ?_|exact Z2
 exact aB Hf
theorem H7(s:List UInt8):aG Tryz.prog 246 [.c (.d (.s s))] (.c (.d (.b (dec (s∈reserved))))):=fun S=>by
 refine aA (rs:=[.tmp 2]) Tryz.checked.mixed Tryz.func246 Tryz.ntmps246 rfl rfl rfl rfl rfl ?_
 first|refine W1 ?_|exact Z1
 refine W3 ?_
 refine ah (qN reserved s (by decide)) ?_
 first|refine W2 ?_|exact Z2
theorem H8(s:List UInt8):aG Tryz.prog 263 [.c (.d (.s s))] (.c (.d (.b (dec (s∈reserved))))):=fun S=>by
 refine aA (rs:=[.tmp 2]) Tryz.checked.mixed Tryz.func263 Tryz.ntmps263 rfl rfl rfl rfl rfl ?_
 first|refine W1 ?_|exact Z1
 refine W3 ?_
 refine ah (sN reserved s (by decide)) ?_
 first|refine W2 ?_|exact Z2
theorem H9(b:UInt8):aG Tryz.prog 261 [.c (.d (.i .u8 b.toNat))] (.c (.d (.b (dec (lowerB b))))):=fun S=>by
 refine aA (rs:=[.tmp 2]) Tryz.checked.mixed Tryz.func261 Tryz.ntmps261 rfl rfl rfl rfl rfl ?_
 first|refine W1 ?_|exact Z1
 first|refine S0 (fun hb h=>?_) (fun hb h=>?_)|refine S1 fun hb h=>?_|refine S2 fun hb h=>?_|exact S3
 ·exact aB (by rw[ny];exact iJ ⟨fun x=>⟨by omega,by omega⟩,fun x=>by have:=x.2;omega⟩)
 ·exact aB (aH fun x=>by have:=x.1;omega).symm
theorem Ia(b:UInt8):aG Tryz.prog 262 [.c (.d (.i .u8 b.toNat))] (.c (.d (.b (dec (qm b))))):=fun S=>by
 refine aA (rs:=[.tmp 2]) Tryz.checked.mixed Tryz.func262 Tryz.ntmps262 rfl rfl rfl rfl rfl ?_
 first|refine W1 ?_|exact Z1
 first|refine S0 (fun hb h=>?_) (fun hb h=>?_)|refine S1 fun hb h=>?_|refine S2 fun hb h=>?_|exact S3
 ·exact aB (by rw[ny];exact iJ ⟨fun x=>⟨by omega,by omega⟩,fun x=>by have:=x.2;omega⟩)
 ·exact aB (aH fun x=>by have:=x.1;omega).symm
theorem gJ(s:List UInt8)(hl:s.length≤1073741824):aG Tryz.prog 168 [.c (.d (.s s))] (.c (.d (.b (validName s)))):=fun S=>by
 refine aA (rs:=[.tmp 2]) Tryz.checked.mixed Tryz.func168 Tryz.ntmps168 rfl rfl rfl rfl rfl ?_
 first|refine W1 ?_|exact Z1
 refine aV (ι:=Nat) Tryz.checked.mixed rfl [0,5,6] (fun i=>[.c (.d (.s s)),.c (.d (.i .i64 s.length)),.c (.d (.i .i64 i))]) (fun _=>[]::S)
  (fun i=>i≤s.length∧∀j,j<i→lowerB (s.getD j 0)∨(j≠0∧qm (s.getD j 0))) (fun i=>s.length-i) 0 rfl rfl ⟨Nat.zero_le _,fun j h=>by omega⟩ ?_
 rintro i ⟨p1,p2⟩
 have next:i<s.length→(lowerB (s.getD i 0)∨(i≠0∧qm (s.getD i 0)))→∀j,j<i+1→lowerB (s.getD j 0)∨(j≠0∧qm (s.getD j 0)):=fun hi h j hj=>by
  by_cases e:j=i
  ·subst e;exact h
  ·exact p2 j (by omega)
 have bad:i<s.length→¬(lowerB (s.getD i 0)∨(i≠0∧qm (s.getD i 0)))→validName s=false:=fun hi h=>aH fun x=>h (x.2.2 i hi)
 first|refine W1 ?_|exact Z1
 first|refine S0 (fun hb h=>?_) (fun hb h=>?_)|refine S1 fun hb h=>?_|refine S2 fun hb h=>?_|exact S3
 ·have hi:i<s.length:=by omega
  refine W3 ?_
  refine ah (H9 (s.getD i 0)) ?_
  first|refine W2 ?_|exact Z2
  first|refine S0 (fun hb h=>?_) (fun hb h=>?_)|refine S1 fun hb h=>?_|refine S2 fun hb h=>?_|exact S3
  ·have nl:=h
   first|refine S0 (fun hb h=>?_) (fun hb h=>?_)|refine S1 fun hb h=>?_|refine S2 fun hb h=>?_|exact S3
   ·have i0:i=0:=by omega
    rw[bad hi (fun x=>x.elim nl fun y=>y.1 i0)]
   ·have ne:=h
    refine W3 ?_
    refine ah (Ia (s.getD i 0)) ?_
    first|refine W2 ?_|exact Z2
    first|refine S0 (fun hb h=>?_) (fun hb h=>?_)|refine S1 fun hb h=>?_|refine S2 fun hb h=>?_|exact S3
    ·rw[bad hi (fun x=>x.elim nl fun y=>h y.2)]
    ·exact bL (i+1) (by omega) rfl rfl ⟨by omega,next hi (.inr ⟨by omega,h⟩)⟩
  ·exact bL (i+1) (by omega) rfl rfl ⟨by omega,next hi (.inl h)⟩
 ·have hn:Oe s:=fun j hj=>p2 j (by omega)
  have h0:∀b,dec (s∈reserved)=b→∀c,decide ((s.length:Int)≥1)=c→∀d,decide ((s.length:Int)≤8)=d→validName s=(c&&d&& !b):=by
   rintro b rfl c rfl d rfl
   unfold validName
   rw[Bool.eq_iff_iff]
   simp only[wS,Bool.and_eq_true,decide_eq_true_eq,Bool.not_eq_true',CV]
   exact⟨fun x=>⟨⟨by omega,by omega⟩,x.2.1⟩,fun x=>⟨⟨by omega,by omega⟩,x.2,hn⟩⟩
  first|refine S0 (fun hb h=>?_) (fun hb h=>?_)|refine S1 fun hb h=>?_|refine S2 fun hb h=>?_|exact S3
  ·have c1:=hb
   first|refine S0 (fun hb h=>?_) (fun hb h=>?_)|refine S1 fun hb h=>?_|refine S2 fun hb h=>?_|exact S3
   ·refine ah (H8 s) ?_
    first|refine W2 ?_|exact Z2
    exact aB (by rw[h0 _ rfl _ c1 _ hb];simp)
   ·exact aB (by rw[h0 _ rfl _ c1 _ hb];simp)
  ·exact aB (by rw[h0 _ rfl _ hb _ rfl];simp)
theorem gK(s:List UInt8)(hl:s.length≤1073741824):aG Tryz.prog 152 [.c (.d (.s s))] (.c (.d (.b (validName s)))):=fun S=>by
 have bad:¬Oe s→validName s=false:=fun h=>aH fun x=>h x.2.2
 refine aA (rs:=[.tmp 2]) Tryz.checked.mixed Tryz.func152 Tryz.ntmps152 rfl rfl rfl rfl rfl ?_
 first|refine W1 ?_|exact Z1
 refine ah (Aw s.length 1 8) ?_
 first|refine W2 ?_|exact Z2
 first|refine S0 (fun hb h=>?_) (fun hb h=>?_)|refine S1 fun hb h=>?_|refine S2 fun hb h=>?_|exact S3
 ·rw[show validName s=false from aH fun x=>h (by omega)]
 have hlen:=h
 refine ah (H7 s) ?_
 first|refine W2 ?_|exact Z2
 first|refine S0 (fun hb h=>?_) (fun hb h=>?_)|refine S1 fun hb h=>?_|refine S2 fun hb h=>?_|exact S3
 ·rw[show validName s=false from aH fun x=>x.2.1 h]
 have hres:=h
 refine aV (ι:=Nat) Tryz.checked.mixed rfl [0,3] (fun i=>[.c (.d (.s s)),.c (.d (.i .i64 i))]) (fun _=>[]::S)
  (fun i=>i≤s.length∧∀j,j<i→lowerB (s.getD j 0)∨(j≠0∧qm (s.getD j 0))) (fun i=>s.length-i) 0 rfl rfl ⟨Nat.zero_le _,fun j h=>by omega⟩ ?_
 rintro i ⟨p1,p2⟩
 have next:i<s.length→(lowerB (s.getD i 0)∨(i≠0∧qm (s.getD i 0)))→∀j,j<i+1→lowerB (s.getD j 0)∨(j≠0∧qm (s.getD j 0)):=fun hi h j hj=>by
  by_cases e:j=i
  ·subst e;exact h
  ·exact p2 j (by omega)
 first|refine W1 ?_|exact Z1
 first|refine S0 (fun hb h=>?_) (fun hb h=>?_)|refine S1 fun hb h=>?_|refine S2 fun hb h=>?_|exact S3
 ·have hi:i<s.length:=by omega
  have bad':¬(lowerB (s.getD i 0)∨(i≠0∧qm (s.getD i 0)))→validName s=false:=fun h=>bad fun x=>h (x i hi)
  have next:=next hi
  unfold lowerB qm at bad' next
  all_goals try(with_reducible refine aS (fun hb=> ?_) (fun hb=> ?_)<;>have h:=hb<;>(try simp only[wf_preprocess] at h)<;>simp -implicitDefEqProofs (disch:=omega) only[go_sem,hb]<;>(repeat(with_reducible refine And.intro ?_ ?_;focus first|omega|rfl|assumption|exact⟨_,rfl,rfl⟩|(simp;omega)|(simp;done))))
  all_goals try(with_reducible refine aS (fun hb=> ?_) (fun hb=> ?_)<;>have h:=hb<;>(try simp only[wf_preprocess] at h)<;>simp -implicitDefEqProofs (disch:=omega) only[go_sem,hb]<;>(repeat(with_reducible refine And.intro ?_ ?_;focus first|omega|rfl|assumption|exact⟨_,rfl,rfl⟩|(simp;omega)|(simp;done))))
  all_goals try(with_reducible refine aS (fun hb=> ?_) (fun hb=> ?_)<;>have h:=hb<;>(try simp only[wf_preprocess] at h)<;>simp -implicitDefEqProofs (disch:=omega) only[go_sem,hb]<;>(repeat(with_reducible refine And.intro ?_ ?_;focus first|omega|rfl|assumption|exact⟨_,rfl,rfl⟩|(simp;omega)|(simp;done))))
  all_goals try(with_reducible refine aS (fun hb=> ?_) (fun hb=> ?_)<;>have h:=hb<;>(try simp only[wf_preprocess] at h)<;>simp -implicitDefEqProofs (disch:=omega) only[go_sem,hb]<;>(repeat(with_reducible refine And.intro ?_ ?_;focus first|omega|rfl|assumption|exact⟨_,rfl,rfl⟩|(simp;omega)|(simp;done))))
  all_goals try(with_reducible refine aS (fun hb=> ?_) (fun hb=> ?_)<;>have h:=hb<;>(try simp only[wf_preprocess] at h)<;>simp -implicitDefEqProofs (disch:=omega) only[go_sem,hb]<;>(repeat(with_reducible refine And.intro ?_ ?_;focus first|omega|rfl|assumption|exact⟨_,rfl,rfl⟩|(simp;omega)|(simp;done))))
  all_goals try(with_reducible refine aS (fun hb=> ?_) (fun hb=> ?_)<;>have h:=hb<;>(try simp only[wf_preprocess] at h)<;>simp -implicitDefEqProofs (disch:=omega) only[go_sem,hb]<;>(repeat(with_reducible refine And.intro ?_ ?_;focus first|omega|rfl|assumption|exact⟨_,rfl,rfl⟩|(simp;omega)|(simp;done))))
  all_goals first
   |exact bL (i+1) (by omega) rfl rfl ⟨by omega,next (by omega)⟩
   |exact aB (bad' (by omega)).symm
 ·rw[show validName s=true from bJ ⟨by omega,hres,fun j hj=>p2 j (by omega)⟩]
theorem V6(s:List UInt8):aG Tryz.prog 346 [.c (.d (.s s))] (.c (.d (.b (uD s)))):=fun S=>by
 refine aA (rs:=[.tmp 2]) Tryz.checked.mixed Tryz.func346 Tryz.ntmps346 rfl rfl rfl rfl rfl ?_
 first|refine W1 ?_|exact Z1
 first|refine S0 (fun hb h=>?_) (fun hb h=>?_)|refine S1 fun hb h=>?_|refine S2 fun hb h=>?_|exact S3
 ·exact aB (bJ (.inl h)).symm
 ·exact aB (by rw[ny];exact iJ ⟨fun x=>.inr x,fun x=>x.resolve_left h⟩)
theorem Oq(s:List UInt8):aG Tryz.prog 351 [.c (.d (.s s))] (.c (.d (.b (uD s)))):=fun S=>by
 refine aA (rs:=[.tmp 2]) Tryz.checked.mixed Tryz.func351 Tryz.ntmps351 rfl rfl rfl rfl rfl ?_
 first|refine W1 ?_|exact Z1
 first|refine S0 (fun hb h=>?_) (fun hb h=>?_)|refine S1 fun hb h=>?_|refine S2 fun hb h=>?_|exact S3
 ·exact aB (bJ (.inl h)).symm
 ·exact aB (by rw[ny];exact iJ ⟨fun x=>.inr x,fun x=>x.resolve_left h⟩)
end Go.Proofs.YtlmhknhlmicmeaaGreatDoor
namespace Go.Proofs.YtlmhknhlmicmeaaGreatDoor
open Go Go.Ab
theorem yF{x:aj}{i:Nat}(hi:i<x.fArgs.length)(h:x.sz≤4194304):x.fArgs[i].sz≤4194304∧x.fArgs.length≤4194304∧x.fName.length≤4194304:=by
 have hx:x.fArgs[i].sz≤aI (x.fArgs.map aj.enc):=bI (List.mem_map_of_mem (List.getElem_mem hi))
 simp only[aj.sz,aj.aC,bP,D.sz,List.length_map] at h
 omega
theorem Dc{x:aj}(h:x.sz≤4194304):x.fArgs.length≤4194304∧x.fName.length≤4194304:=by
 simp only[aj.sz,aj.aC,bP,D.sz,List.length_map] at h
 omega
theorem Df:∀n:Nat,∀t:aj,SizeOf.sizeOf t<n→t.sz≤4194304→∀(g:Nat) (caps:List (Key×Nat)) (α:Type) (st:α→Store) (I:Nat→α→Prop) (f:α→aj→α) (hf:Bt Tryz.prog g caps st I f aj.v (fun u=>u.sz≤4194304)) (m:Nat) (a:α),I (m+t.cnt) a→
 I m ((og t).foldl f a)∧dh Tryz.prog 298 [t.v,.c (.fn g caps)] (st a) (fun r S'=>r=.iO []∧S'=st ((og t).foldl f a))
 |0=>fun t h=>by omega
 |n+1=>by
  have ih:=Df n
  intro t hn hsz g caps α st I f hf m a ha
  have jf:=aj.fI t
  have hts:=Dc hsz
  rw[aj.nZ,show m+(1+aj.eB t.fArgs)=(m+aj.eB t.fArgs)+1 by omega] at ha
  have h1:=hf _ a t ha hsz
  have hI:∀(ts:List aj),SizeOf.sizeOf ts<n→(∀x∈ts,x.sz≤4194304)→∀a,I (m+aj.eB ts) a→I m ((nK ts).foldl f a):=by
   intro ts
   induction ts with
   |nil=>intro _ _ a ha;exact ha
   |cons x xs ihx=>
    intro hs hz a ha
    simp only[List.cons.sizeOf_spec] at hs
    rw[nK,List.foldl_append]
    rw[aj.eB,show m+(x.cnt+aj.eB xs)=(m+aj.eB xs)+x.cnt by omega] at ha
    exact ihx (by omega) (fun y hy=>hz y (by simp[hy])) _ (ih x (by omega) (hz x (by simp)) g caps α st I f hf _ a ha).1
  have hall:∀x∈t.fArgs,x.sz≤4194304:=fun x hx=>by
   obtain⟨i,hi,e⟩:=List.getElem_of_mem hx
   rw[←e];exact(yF hi hsz).1
  refine⟨by rw[xD,List.foldl_cons];exact hI t.fArgs (by omega) hall _ h1.1,?_⟩
  refine aA (rs:=[]) Tryz.checked.mixed Tryz.func298 Tryz.ntmps298 rfl rfl rfl rfl rfl ?_
  first|refine W1 ?_|exact Z1
  refine bV rfl (h1.2 [_]) ?_
  first|refine W1 ?_|exact Z1
  refine aV (ι:=Nat×α) Tryz.checked.mixed rfl [1,10,11,12] (fun y=>[.c (.fn g (iU 1 caps)),.c (.d (.sl (t.fArgs.map aj.enc))),.c (.d (.i .i64 t.fArgs.length)),.c (.d (.i .i64 y.1))]) (fun y=>[.box [.d (.i .i64 t.aX),.d (.s t.fName),.d (.sl (t.fArgs.map aj.enc))]]::st y.2)
   (fun y=>y.1≤t.fArgs.length∧I (m+aj.eB (t.fArgs.drop y.1)) y.2∧(nK (t.fArgs.drop y.1)).foldl f y.2=(og t).foldl f a) (fun y=>t.fArgs.length-y.1) (0,f a t) rfl rfl ⟨Nat.zero_le _,h1.1,by rw[xD,List.foldl_cons];rfl⟩ ?_
  rintro⟨i,b⟩ ⟨p1,p2,p3⟩
  simp only at p1 p2 p3
  first|refine W1 ?_|exact Z1
  with_reducible refine aS (fun hb=> ?_) (fun hb=> ?_)<;>have h:=hb<;>(try simp only[wf_preprocess] at h)<;>simp -implicitDefEqProofs (disch:=omega) only[go_sem,hb]<;>(repeat(with_reducible refine And.intro ?_ ?_;focus first|omega|rfl|assumption|exact⟨_,rfl,rfl⟩|(simp;omega)|(simp;done)))
  ·have hi:i<t.fArgs.length:=by omega
   have hs:=List.sizeOf_lt_of_mem (List.getElem_mem hi)
   rw[wU hi,List.foldl_append] at p3
   rw[List.drop_eq_getElem_cons hi,aj.eB,show m+(t.fArgs[i].cnt+aj.eB (t.fArgs.drop (i+1)))=(m+aj.eB (t.fArgs.drop (i+1)))+t.fArgs[i].cnt by omega] at p2
   have h2:=(ih t.fArgs[i] (by omega) (yF hi hsz).1 g caps α st I f hf _ b p2).1
   refine W3 ?_
   refine bV rfl (((ih t.fArgs[i] (by omega) (yF hi hsz).1 g (iU 1 caps) α (fun a=>[.box [.d (.i .i64 t.aX),.d (.s t.fName),.d (.sl (t.fArgs.map aj.enc))],.box [.d (.i .i64 t.fArgs[i].aX),.d (.s t.fArgs[i].fName),.d (.sl (t.fArgs[i].fArgs.map aj.enc))]]::st a) I f (hf.push _) _ b p2)).2) ?_
   first|refine W1 ?_|exact Z1
   exact dz 1 (by decide) (i+1,(og t.fArgs[i]).foldl f b) (by simp only;omega) rfl rfl (by simp only[gy,gV,List.all_cons,List.all_nil,V.refs,C.refs,N9,Bool.and_true]) rfl ⟨by simp only;omega,h2,p3⟩
  ·have hi:i=t.fArgs.length:=by omega
   rw[hi,List.drop_length,nK,List.foldl_nil] at p3
   rw[p3]
theorem EW{t:aj}(hsz:t.sz≤4194304){g:Nat}{caps:List (Key×Nat)}{α:Type}{st:α→Store}{I:Nat→α→Prop}{f:α→aj→α}(hf:Bt Tryz.prog g caps st I f aj.v (fun u=>u.sz≤4194304))(m:Nat)(a:α)(ha:I (m+t.cnt) a):
 I m ((og t).foldl f a)∧dh Tryz.prog 298 [t.v,.c (.fn g caps)] (st a) (fun r S'=>r=.iO []∧S'=st ((og t).foldl f a)):=Df _ t (Nat.lt_succ_self _) hsz g caps α st I f hf m a ha
theorem Ey(rest:List Ab.Obj)(S:Store):Bt Tryz.prog 340 [((0,0),0)] (fun out:List (List UInt8)=>(.box [.bU (0,1) (out.map encS)]:: .tok 1 (out.map encS)::rest)::S) (fun n out=>out.length+n≤1073741824) rQ aj.v (fun u=>u.sz≤4194304):=by
 intro n out u hI hu
 refine⟨by have:=FH out u;omega,fun F=> ?_⟩
 have hts:=Dc hu
 refine aA (rs:=[]) Tryz.checked.mixed Tryz.func340 Tryz.ntmps340 rfl rfl rfl rfl rfl ?_
 first|refine W1 ?_|exact Z1
 first|refine S0 (fun hb h=>?_) (fun hb h=>?_)|refine S1 fun hb h=>?_|refine S2 fun hb h=>?_|exact S3
 ·have h1:=h
  refine ah (sN out u.fName (by omega)) ?_
  first|refine W2 ?_|exact Z2
  first|refine S0 (fun hb h=>?_) (fun hb h=>?_)|refine S1 fun hb h=>?_|refine S2 fun hb h=>?_|exact S3
  ·refine W3 ?_
   have ha:rQ out u=out++[u.fName]:=if_pos ⟨h1,h⟩
   rw[ha];simp[encS]
  ·have ha:rQ out u=out:=if_neg fun x=>x.2 h
   rw[ha]
 ·have ha:rQ out u=out:=if_neg fun x=>h x.1
  rw[ha]
theorem JK(ts:List aj)(hl:ts.length≤4194304)(hz:∀t∈ts,t.sz≤4194304)(hc:aj.eB ts≤1073741823):aG Tryz.prog 301 [.c (.d (.sl (ts.map aj.enc)))] (.c (.d (.sl ((qY [] ts).map encS)))):=fun S=>by
 refine aA (rs:=[.tmp 2]) Tryz.checked.mixed Tryz.func301 Tryz.ntmps301 rfl rfl rfl rfl rfl ?_
 first|refine W1 ?_|exact Z1
 refine W3 ?_
 refine pz 0 0 1 [] [.bD []] rfl rfl (by simp) ?_
 refine aV (ι:=Nat×List (List UInt8)) Tryz.checked.mixed rfl [3,7,8,9] (fun y=>[.c (.ptr (0,0) 0),.c (.d (.sl (ts.map aj.enc))),.c (.d (.i .i64 ts.length)),.c (.d (.i .i64 y.1))]) (fun y=>[.box [.bU (0,1) (y.2.map encS)],.tok 1 (y.2.map encS)]::S)
  (fun y=>y.1≤ts.length∧y.2.length+aj.eB (ts.drop y.1)≤1073741824∧qY y.2 (ts.drop y.1)=qY [] ts) (fun y=>ts.length-y.1) (0,[]) rfl rfl ⟨Nat.zero_le _,by simp only[List.drop_zero,List.length_nil];omega,rfl⟩ ?_
 rintro⟨i,out⟩ ⟨p1,p2,p3⟩
 simp only at p1 p2 p3
 first|refine W1 ?_|exact Z1
 with_reducible refine aS (fun hb=> ?_) (fun hb=> ?_)<;>have h:=hb<;>(try simp only[wf_preprocess] at h)<;>simp -implicitDefEqProofs (disch:=omega) only[go_sem,hb]<;>(repeat(with_reducible refine And.intro ?_ ?_;focus first|omega|rfl|assumption|exact⟨_,rfl,rfl⟩|(simp;omega)|(simp;done)))
 ·have hi:i<ts.length:=by omega
  rw[EU hi] at p3
  rw[List.drop_eq_getElem_cons hi,aj.eB] at p2
  have hlen:=xE ts[i] out
  refine W3 ?_
  refine bV rfl (EW (hz _ (List.getElem_mem hi)) (Ey [Ab.Obj.box [.d (.i .i64 ts[i].aX),.d (.s ts[i].fName),.d (.sl (ts[i].fArgs.map aj.enc))]] S) (aj.eB (ts.drop (i+1))) out (by omega)).2 ?_
  first|refine W1 ?_|exact Z1
  exact dz 2 (by decide) (i+1,iL out ts[i]) (by simp only;omega) rfl rfl rfl rfl ⟨by simp only;omega,by simp only;omega,p3⟩
 ·have hi:i=ts.length:=by omega
  rw[hi,List.drop_length] at p3
  rw[←p3];rfl
theorem vG(t:aj)(hsz:t.sz≤4194304):aG Tryz.prog 237 [t.v] (.c (.d (.sl ((iL [] t).map encS)))):=fun S=>by
 have hc:=kJ t
 have h0:=JK [t] (by simp) (by simpa using hsz) (by simp[aj.eB];omega)
 simp only[List.map_cons,List.map_nil,aj.aC] at h0
 refine aA (rs:=[.tmp 2]) Tryz.checked.mixed Tryz.func237 Tryz.ntmps237 rfl rfl rfl rfl rfl ?_
 first|refine W1 ?_|exact Z1
 refine W3 ?_
 refine ah h0 ?_
 first|refine W1 ?_|exact Z1
 rw[show qY [] [t]=iL [] t by simp[qY,iL,nK]]
theorem Ib:∀n:Nat,∀t:aj,SizeOf.sizeOf t<n→t.sz≤4194304→∀(out:List (List UInt8)) (l j:Nat) (S:Store),bM S (l,j)=some (.tok 1 (out.map encS))→out.length+t.cnt≤1073741824→
 dh Tryz.prog 342 [t.v,.c (.bU (l,j) (out.map encS))] S (fun r S'=>r=.c (.bU (l,j) ((iL out t).map encS))∧S'=bQ S (l,j) (.tok 1 ((iL out t).map encS)))
 |0=>fun t h=>by omega
 |n+1=>by
  have ih:=Ib n
  intro t hn hsz out l j S hk hc
  have jf:=aj.fI t
  have hts:=Dc hsz
  have hcn:=aj.nZ t
  have Ic:∀x:Ab.Obj,bM (bQ S (l,j) x) (l,j)=some x:=fun x=>dN _ _ _ _ hk
  have hS0:bQ S (l,j) (.tok 1 (out.map encS))=S:=iQ _ _ hk
  have fin:iL out t=qY (rQ out t) t.fArgs:=Yx out t
  have hal:=FH out t
  have e0:(out++[t.fName]).map encS=out.map encS++[[D.s t.fName]]:=by simp[encS]
  refine aA (rs:=[.tmp 4]) Tryz.checked.mixed Tryz.func342 Tryz.ntmps342 rfl rfl rfl rfl rfl ?_
  simp -implicitDefEqProofs (disch:=omega) only[go_sem,hk]
  repeat' (first
   |(with_reducible refine aS (fun hb=> ?_) (fun hb=> ?_)<;>have h:=hb<;>(try simp only[wf_preprocess] at h)<;>simp -implicitDefEqProofs (disch:=omega) only[go_sem,hb,hk]<;>(repeat(with_reducible refine And.intro ?_ ?_;focus first|omega|rfl|assumption|exact⟨_,rfl,rfl⟩|(simp;omega)|(simp;done))))
   |(refine ah (qN out t.fName (by omega)) ?_;simp -implicitDefEqProofs (disch:=omega) only[go_sem,hk];(repeat(with_reducible refine And.intro ?_ ?_;focus first|omega|rfl|assumption|exact⟨_,rfl,rfl⟩|(simp;omega)|(simp;done)))))
  all_goals first
   |(have ha:rQ out t=out++[t.fName]:=if_pos ⟨by assumption,by assumption⟩)
   |(have ha:rQ out t=out:=if_neg (fun x=>by have:=x.1;have:=x.2;contradiction))
  all_goals
   refine aV (ι:=Nat×List (List UInt8)) Tryz.checked.mixed rfl [1,2,5] (fun y=>[.c (.bU (1+l,j) (y.2.map encS)),.c (.ptr (0,0) 0),.c (.d (.i .i64 y.1))]) (fun y=>[.box [.d (.i .i64 t.aX),.d (.s t.fName),.d (.sl (t.fArgs.map aj.enc))]]::bQ S (l,j) (.tok 1 (y.2.map encS)))
    (fun y=>y.1≤t.fArgs.length∧y.2.length+aj.eB (t.fArgs.drop y.1)≤1073741824∧qY y.2 (t.fArgs.drop y.1)=iL out t) (fun y=>t.fArgs.length-y.1) (0,rQ out t) (by first|(rw[ha,e0];rfl)|(rw[ha];rfl)) (by first|(simp only[ha,e0];done)|(simp only[ha,hS0];done)) ⟨Nat.zero_le _,by simp only[List.drop_zero];omega,by rw[fin];rfl⟩ ?_
   rintro⟨i,b⟩ ⟨p1,p2,p3⟩
   simp only at p1 p2 p3
   first|refine W1 ?_|exact Z1
   with_reducible refine aS (fun hb=> ?_) (fun hb=> ?_)<;>have h:=hb<;>(try simp only[wf_preprocess] at h)<;>simp -implicitDefEqProofs (disch:=omega) only[go_sem,hb]<;>(repeat(with_reducible refine And.intro ?_ ?_;focus first|omega|rfl|assumption|exact⟨_,rfl,rfl⟩|(simp;omega)|(simp;done)))
   ·have hi:i<t.fArgs.length:=by omega
    have hs:=List.sizeOf_lt_of_mem (List.getElem_mem hi)
    rw[EU hi] at p3
    rw[List.drop_eq_getElem_cons hi,aj.eB] at p2
    have hlen:=xE t.fArgs[i] b
    refine W3 ?_
    refine bV rfl (ih t.fArgs[i] (by omega) (yF hi hsz).1 b (1+l) j _ (by rw[oM];exact Ic _) (by omega)) ?_
    simp -implicitDefEqProofs (disch:=omega) only[go_sem,bC]
    exact bL (i+1,iL b t.fArgs[i]) (by simp only;omega) rfl rfl ⟨by simp only;omega,by simp only;omega,p3⟩
   ·have hi:i=t.fArgs.length:=by omega
    rw[hi,List.drop_length] at p3
    rw[←p3]
    exact⟨rfl,rfl⟩
theorem Ie(t:aj)(hsz:t.sz≤4194304):aG Tryz.prog 308 [t.v] (.c (.d (.sl ((iL [] t).map encS)))):=fun S=>by
 have hc:=kJ t
 have h0:∀S,dh Tryz.prog 342 [t.v,.c (.bD [])] S (fun r S'=>r=.c (.d (.sl ((iL [] t).map encS)))∧S'=S):=fun S=>by
  refine dh.Yq 1 (es:=[]) (bK:=1) rfl (by simp) (Ib _ t (Nat.lt_succ_self _) hsz [] 0 0 ([.tok 1 []]::S) rfl (by simp;omega)) ?_
  rintro r fr S' ⟨rfl,h2⟩
  injection h2 with h2 h3
  exact⟨_,rfl,rfl,h3⟩
 refine aA (rs:=[.tmp 2]) Tryz.checked.mixed Tryz.func308 Tryz.ntmps308 rfl rfl rfl rfl rfl ?_
 first|refine W1 ?_|exact Z1
 refine W3 ?_
 refine lT [true,true] rfl (h0 _) ?_
 first|refine W1 ?_|exact Z1
theorem zI:∀n:Nat,∀t:aj,SizeOf.sizeOf t<n→t.sz≤4194304→aG Tryz.prog 251 [t.v] (.c (.d (.b (o7 t))))
 |0=>fun t h=>by omega
 |n+1=>by
  have ih:=zI n
  intro t hn hsz S
  have jf:=aj.fI t
  have hts:=Dc hsz
  refine aA (rs:=[.tmp 2]) Tryz.checked.mixed Tryz.func251 Tryz.ntmps251 rfl rfl rfl rfl rfl ?_
  first|refine W1 ?_|exact Z1
  refine aV (ι:=Nat) Tryz.checked.mixed rfl [1,3] (fun i=>[.c (.ptr (0,0) 0),.c (.d (.i .i64 i))]) (fun _=>[.box [.d (.i .i64 t.aX),.d (.s t.fName),.d (.sl (t.fArgs.map aj.enc))]]::S)
   (fun i=>i≤t.fArgs.length∧sM (t.fArgs.drop i)=sM t.fArgs) (fun i=>t.fArgs.length-i) 0 rfl rfl ⟨Nat.zero_le _,rfl⟩ ?_
  rintro i ⟨p1,p2⟩
  first|refine W1 ?_|exact Z1
  with_reducible refine aS (fun hb=> ?_) (fun hb=> ?_)<;>have h:=hb<;>(try simp only[wf_preprocess] at h)<;>simp -implicitDefEqProofs (disch:=omega) only[go_sem,hb]<;>(repeat(with_reducible refine And.intro ?_ ?_;focus first|omega|rfl|assumption|exact⟨_,rfl,rfl⟩|(simp;omega)|(simp;done)))
  ·have hi:i<t.fArgs.length:=by omega
   rw[LQ hi] at p2
   refine W3 ?_
   refine ah (ih t.fArgs[i] (by have:=List.sizeOf_lt_of_mem (List.getElem_mem hi);omega) (yF hi hsz).1) ?_
   first|refine W2 ?_|exact Z2
   first|refine S0 (fun hb h=>?_) (fun hb h=>?_)|refine S1 fun hb h=>?_|refine S2 fun hb h=>?_|exact S3
   ·rw[BF,←p2,h];simp
   ·exact bL (i+1) (by omega) rfl rfl ⟨by omega,by rw[←p2,h];rfl⟩
  ·have hi:i=t.fArgs.length:=by omega
   rw[hi,List.drop_length] at p2
   rw[BF,←p2]
   exact aB (by simp[sM,nK])
theorem Ay(t:aj)(hsz:t.sz≤4194304):aG Tryz.prog 251 [t.v] (.c (.d (.b (o7 t)))):=zI _ t (Nat.lt_succ_self _) hsz
theorem LU(rest:List Ab.Obj)(cs:List C)(S:Store):Bt Tryz.prog 299 [((0,1),0)] (fun b:Bool=>(.box cs:: .box [.d (.b b)]::rest)::S) (fun _ _=>True) (fun b u=>b||decide (u.aX=3)) aj.v (fun u=>u.sz≤4194304):=by
 intro n b u _ hu
 refine⟨trivial,fun F=> ?_⟩
 refine aA (rs:=[]) Tryz.checked.mixed Tryz.func299 Tryz.ntmps299 rfl rfl rfl rfl rfl ?_
 first|refine W1 ?_|exact Z1
 cases b with
 |true=>
  first|refine W1 ?_|exact Z1
  rfl
 |false=>
  first|refine W1 ?_|exact Z1
  rfl
theorem Az(t:aj)(hsz:t.sz≤4194304):aG Tryz.prog 235 [t.v] (.c (.d (.b (o7 t)))):=fun S=>by
 refine aA (rs:=[.tmp 2]) Tryz.checked.mixed Tryz.func235 Tryz.ntmps235 rfl rfl rfl rfl rfl ?_
 first|refine W1 ?_|exact Z1
 refine W3 ?_
 refine bV rfl (EW hsz (LU [] [.d (.i .i64 t.aX),.d (.s t.fName),.d (.sl (t.fArgs.map aj.enc))] S) 0 false trivial).2 ?_
 first|refine W1 ?_|exact Z1
 rw[Om]
 rfl
end Go.Proofs.YtlmhknhlmicmeaaGreatDoor
namespace Go.Proofs.YtlmhknhlmicmeaaGreatDoor
open Go Go.Ab
theorem sO{x:aj}{i:Nat}(hi:i<x.fArgs.length)(h:x.sz≤4194304):x.fArgs[i].sz≤4194304∧x.fArgs.length≤4194304∧x.fName.length≤4194304:=by
 have hx:x.fArgs[i].sz≤aI (x.fArgs.map aj.enc):=bI (List.mem_map_of_mem (List.getElem_mem hi))
 simp only[aj.sz,aj.aC,bP,D.sz,List.length_map] at h
 omega
theorem zJ{x:aj}(h:x.sz≤4194304):x.fArgs.length≤4194304∧x.fName.length≤4194304:=by
 simp only[aj.sz,aj.aC,bP,D.sz,List.length_map] at h
 omega
theorem kY:∀{ts:List aj} {i:Nat} (hi:i<ts.length),aj.eB (ts.drop i)=ts[i].cnt+aj.eB (ts.drop (i+1)):=fun {ts} {i} hi=>by
 rw[List.drop_eq_getElem_cons hi,aj.eB]
theorem EX:∀{ts:List aj} {i:Nat} (hi:i<ts.length),depths (ts.drop i)=max (lV ts[i]+1) (depths (ts.drop (i+1))):=fun {ts} {i} hi=>by
 rw[List.drop_eq_getElem_cons hi,depths]
theorem Ot:∀{ts:List aj} {i:Nat} (hi:i<ts.length),jm (ts.drop i)=(formed ts[i]&&jm (ts.drop (i+1))):=fun {ts} {i} hi=>by
 rw[List.drop_eq_getElem_cons hi,jm]
theorem Ig:∀n:Nat,∀x:aj,SizeOf.sizeOf x<n→∀l:Int,0≤l→l≤1073741824→x.sz≤4194304→aG Tryz.prog 323 [x.v,.c (.d (.i .i64 l))] (.c (.d (.i .i64 (dD l x.cnt))))
 |0=>fun x h=>by omega
 |n+1=>by
  have ih:=Ig n
  intro x hn l h0 h1 hsz S
  have jf:=aj.fI x
  have hts:=zJ hsz
  have hcn:=aj.nZ x
  refine aA (rs:=[.tmp 4]) Tryz.checked.mixed Tryz.func323 Tryz.ntmps323 rfl rfl rfl rfl rfl ?_
  first|refine W1 ?_|exact Z1
  refine aV (ι:=Nat×Int) Tryz.checked.mixed rfl [1,2,5] (fun y=>[.c (.d (.i .i64 y.2)),.c (.ptr (0,0) 0),.c (.d (.i .i64 y.1))]) (fun y=>[.box [.d (.i .i64 x.aX),.d (.s x.fName),.d (.sl (x.fArgs.map aj.enc))]]::S)
   (fun y=>y.1≤x.fArgs.length∧ -1≤y.2∧y.2≤1073741824∧(0≤y.2→dD l x.cnt=dD y.2 (aj.eB (x.fArgs.drop y.1)))∧(y.2<0→dD l x.cnt= -1)) (fun y=>x.fArgs.length-y.1) (0,l-1) rfl rfl ⟨Nat.zero_le _,by simp only;omega,by simp only;omega,fun h=> ?_,fun h=> ?_⟩ ?_
  ·simp only[List.drop_zero] at h ⊢
   unfold dD
   rw[hcn]
   split<;>split<;>omega
  ·simp only at h
   exact dn (by omega)
  rintro⟨i,c⟩ ⟨p1,p2,p3,p4,p5⟩
  simp only at p1 p2 p3 p4 p5
  first|refine W1 ?_|exact Z1
  first|refine S0 (fun hb h=>?_) (fun hb h=>?_)|refine S1 fun hb h=>?_|refine S2 fun hb h=>?_|exact S3
  ·have hi:i<x.fArgs.length:=by omega
   first|refine S0 (fun hb h=>?_) (fun hb h=>?_)|refine S1 fun hb h=>?_|refine S2 fun hb h=>?_|exact S3
   ·have hsz':=sO hi hsz
    have p6:=p4 h
    rw[kY hi] at p6
    refine W3 ?_
    refine ah (ih x.fArgs[i] (by have:=List.sizeOf_lt_of_mem (List.getElem_mem hi);omega) c (by omega) (by omega) (by omega)) ?_
    first|refine W2 ?_|exact Z2
    refine bL (i+1,dD c _) (by simp only;omega) rfl rfl ⟨by simp only;omega,?_,?_,fun h=> ?_,fun h=> ?_⟩
    ·simp only;unfold dD;split<;>omega
    ·simp only;unfold dD;split<;>omega
    ·simp only at h ⊢
     rw[p6]
     have:=eu (l:=c) (a:=x.fArgs[i].cnt) (by omega)
     rw[this.1]
     unfold dD
     split<;>split<;>omega
    ·simp only at h ⊢
     rw[p6]
     have:=dO h
     exact dn (by omega)
   ·have hc:c= -1:=by omega
    rw[p5 (by omega),hc]
  ·have hi:i=x.fArgs.length:=by omega
   by_cases hc:0≤c
   ·rw[p4 hc,hi,List.drop_length,aj.eB,fU (by omega)]
    exact int_eq (by simp)
   ·rw[p5 (by omega)]
    exact int_eq (by omega)
theorem V7(x:aj)(l:Int)(h0:0≤l)(h1:l≤1073741824)(hsz:x.sz≤4194304):aG Tryz.prog 323 [x.v,.c (.d (.i .i64 l))] (.c (.d (.i .i64 (dD l x.cnt)))):=Ig _ x (Nat.lt_succ_self _) l h0 h1 hsz
theorem Ou(a b:Int):aG Tryz.prog 276 [.c (.d (.i .i64 a)),.c (.d (.i .i64 b))] (.c (.d (.i .i64 (max a b)))):=fun S=>by
 refine aA (rs:=[.tmp 4]) Tryz.checked.mixed Tryz.func276 Tryz.ntmps276 rfl rfl rfl rfl rfl ?_
 first|refine W1 ?_|exact Z1
 first|refine S0 (fun hb h=>?_) (fun hb h=>?_)|refine S1 fun hb h=>?_|refine S2 fun hb h=>?_|exact S3
 ·exact int_eq (by omega)
 ·exact int_eq (by omega)
theorem Ck:∀n:Nat,∀x:aj,SizeOf.sizeOf x<n→x.sz≤4194304→aG Tryz.prog 324 [x.v] (.c (.d (.i .i64 (lV x))))
 |0=>fun x h=>by omega
 |n+1=>by
  have ih:=Ck n
  intro x hn hsz S
  have jf:=aj.fI x
  have hts:=zJ hsz
  have hd1:=xB x
  have hd2:=kJ x
  refine aA (rs:=[.tmp 2]) Tryz.checked.mixed Tryz.func324 Tryz.ntmps324 rfl rfl rfl rfl rfl ?_
  first|refine W1 ?_|exact Z1
  refine aV (ι:=Nat×Nat) Tryz.checked.mixed rfl [1,3,4] (fun y=>[.c (.ptr (0,0) 0),.c (.d (.i .i64 y.2)),.c (.d (.i .i64 y.1))]) (fun y=>[.box [.d (.i .i64 x.aX),.d (.s x.fName),.d (.sl (x.fArgs.map aj.enc))]]::S)
   (fun y=>y.1≤x.fArgs.length∧lV x=max y.2 (depths (x.fArgs.drop y.1))) (fun y=>x.fArgs.length-y.1) (0,0) rfl rfl ⟨Nat.zero_le _,by simp[KQ]⟩ ?_
  rintro⟨i,c⟩ ⟨p1,p2⟩
  simp only at p1 p2
  first|refine W1 ?_|exact Z1
  with_reducible refine aS (fun hb=> ?_) (fun hb=> ?_)<;>have h:=hb<;>(try simp only[wf_preprocess] at h)<;>simp -implicitDefEqProofs (disch:=omega) only[go_sem,hb]<;>(repeat(with_reducible refine And.intro ?_ ?_;focus first|omega|rfl|assumption|exact⟨_,rfl,rfl⟩|(simp;omega)|(simp;done)))
  ·have hi:i<x.fArgs.length:=by omega
   have hsz':=sO hi hsz
   rw[EX hi] at p2
   have hd3:=xB x.fArgs[i]
   have hd4:=kJ x.fArgs[i]
   refine W3 ?_
   refine ah (ih x.fArgs[i] (by have:=List.sizeOf_lt_of_mem (List.getElem_mem hi);omega) (by omega)) ?_
   first|refine W2 ?_|exact Z2
   refine ah (Ou _ _) ?_
   first|refine W2 ?_|exact Z2
   rw[show max (c:Int) (1+(lV x.fArgs[i]:Int))=((max c (1+lV x.fArgs[i]):Nat):Int) by omega]
   exact bL (i+1,max c (1+lV x.fArgs[i])) (by simp only;omega) rfl rfl ⟨by simp only;omega,by simp only;omega⟩
  ·have hi:i=x.fArgs.length:=by omega
   rw[hi,List.drop_length,depths] at p2
   exact int_eq (by omega)
theorem Ov(x:aj)(hsz:x.sz≤4194304):aG Tryz.prog 324 [x.v] (.c (.d (.i .i64 (lV x)))):=Ck _ x (Nat.lt_succ_self _) hsz
theorem Cm:∀n:Nat,∀x:aj,SizeOf.sizeOf x<n→x.sz≤4194304→aG Tryz.prog 336 [x.v] (.c (.d (.i .i64 (lV x))))
 |0=>fun x h=>by omega
 |n+1=>by
  have ih:=Cm n
  intro x hn hsz S
  have jf:=aj.fI x
  have hts:=zJ hsz
  have hd1:=xB x
  have hd2:=kJ x
  refine aA (rs:=[.tmp 2]) Tryz.checked.mixed Tryz.func336 Tryz.ntmps336 rfl rfl rfl rfl rfl ?_
  first|refine W1 ?_|exact Z1
  refine aV (ι:=Nat×Nat) Tryz.checked.mixed rfl [3,7,8,9] (fun y=>[.c (.d (.i .i64 y.2)),.c (.d (.sl (x.fArgs.map aj.enc))),.c (.d (.i .i64 x.fArgs.length)),.c (.d (.i .i64 y.1))]) (fun y=>[.box [.d (.i .i64 x.aX),.d (.s x.fName),.d (.sl (x.fArgs.map aj.enc))]]::S)
   (fun y=>y.1≤x.fArgs.length∧lV x=max y.2 (depths (x.fArgs.drop y.1))) (fun y=>x.fArgs.length-y.1) (0,0) rfl rfl ⟨Nat.zero_le _,by simp[KQ]⟩ ?_
  rintro⟨i,c⟩ ⟨p1,p2⟩
  simp only at p1 p2
  first|refine W1 ?_|exact Z1
  with_reducible refine aS (fun hb=> ?_) (fun hb=> ?_)<;>have h:=hb<;>(try simp only[wf_preprocess] at h)<;>simp -implicitDefEqProofs (disch:=omega) only[go_sem,hb]<;>(repeat(with_reducible refine And.intro ?_ ?_;focus first|omega|rfl|assumption|exact⟨_,rfl,rfl⟩|(simp;omega)|(simp;done)))
  ·have hi:i<x.fArgs.length:=by omega
   have hsz':=sO hi hsz
   rw[EX hi] at p2
   have hd3:=xB x.fArgs[i]
   have hd4:=kJ x.fArgs[i]
   refine W3 ?_
   refine ah (ih x.fArgs[i] (by have:=List.sizeOf_lt_of_mem (List.getElem_mem hi);omega) (by omega)) ?_
   first|refine W2 ?_|exact Z2
   rw[show max (c:Int) ((lV x.fArgs[i]:Int)+1)=((max c (lV x.fArgs[i]+1):Nat):Int) by omega]
   exact dz 1 (by decide) (i+1,max c (lV x.fArgs[i]+1)) (by simp only;omega) rfl rfl rfl rfl ⟨by simp only;omega,by simp only;omega⟩
  ·have hi:i=x.fArgs.length:=by omega
   rw[hi,List.drop_length,depths] at p2
   exact int_eq (by omega)
theorem Ow(x:aj)(hsz:x.sz≤4194304):aG Tryz.prog 336 [x.v] (.c (.d (.i .i64 (lV x)))):=Cm _ x (Nat.lt_succ_self _) hsz
theorem Dg:∀n:Nat,∀x:aj,SizeOf.sizeOf x<n→x.sz≤4194304→aG Tryz.prog 337 [x.v] (.c (.d (.i .i64 x.cnt)))
 |0=>fun x h=>by omega
 |n+1=>by
  have ih:=Dg n
  intro x hn hsz S
  have jf:=aj.fI x
  have hts:=zJ hsz
  have hd2:=kJ x
  refine aA (rs:=[.tmp 2]) Tryz.checked.mixed Tryz.func337 Tryz.ntmps337 rfl rfl rfl rfl rfl ?_
  first|refine W1 ?_|exact Z1
  refine aV (ι:=Nat×Nat) Tryz.checked.mixed rfl [3,7,8,9] (fun y=>[.c (.d (.i .i64 y.2)),.c (.d (.sl (x.fArgs.map aj.enc))),.c (.d (.i .i64 x.fArgs.length)),.c (.d (.i .i64 y.1))]) (fun y=>[.box [.d (.i .i64 x.aX),.d (.s x.fName),.d (.sl (x.fArgs.map aj.enc))]]::S)
   (fun y=>y.1≤x.fArgs.length∧x.cnt=y.2+aj.eB (x.fArgs.drop y.1)) (fun y=>x.fArgs.length-y.1) (0,1) rfl rfl ⟨Nat.zero_le _,by simp[aj.nZ]⟩ ?_
  rintro⟨i,c⟩ ⟨p1,p2⟩
  simp only at p1 p2
  first|refine W1 ?_|exact Z1
  with_reducible refine aS (fun hb=> ?_) (fun hb=> ?_)<;>have h:=hb<;>(try simp only[wf_preprocess] at h)<;>simp -implicitDefEqProofs (disch:=omega) only[go_sem,hb]<;>(repeat(with_reducible refine And.intro ?_ ?_;focus first|omega|rfl|assumption|exact⟨_,rfl,rfl⟩|(simp;omega)|(simp;done)))
  ·have hi:i<x.fArgs.length:=by omega
   have hsz':=sO hi hsz
   rw[kY hi] at p2
   refine W3 ?_
   refine ah (ih x.fArgs[i] (by have:=List.sizeOf_lt_of_mem (List.getElem_mem hi);omega) (by omega)) ?_
   first|refine W2 ?_|exact Z2
   rw[show(c:Int)+(x.fArgs[i].cnt:Int)=((c+x.fArgs[i].cnt:Nat):Int) by omega]
   exact dz 1 (by decide) (i+1,c+x.fArgs[i].cnt) (by simp only;omega) rfl rfl rfl rfl ⟨by simp only;omega,by simp only;omega⟩
  ·have hi:i=x.fArgs.length:=by omega
   rw[hi,List.drop_length,aj.eB] at p2
   exact int_eq (by omega)
theorem Qo(x:aj)(hsz:x.sz≤4194304):aG Tryz.prog 337 [x.v] (.c (.d (.i .i64 x.cnt))):=Dg _ x (Nat.lt_succ_self _) hsz
theorem Dh:∀n:Nat,(∀x:aj,SizeOf.sizeOf x<n→x.sz≤4194304→aG Tryz.prog 335 [x.v] (.c (.d (.b (formed x)))))∧
 (∀xs:List aj,SizeOf.sizeOf xs<n→xs.length≤4194304→(∀t∈xs,t.sz≤4194304)→aG Tryz.prog 293 [.c (.d (.sl (xs.map aj.enc))),.c (.fn 352 [])] (.c (.d (.b (!jm xs)))))
 |0=>⟨fun x h=>by omega,fun x h=>by omega⟩
 |n+1=>by
  obtain⟨ih,Ih⟩:=Dh n
  refine⟨fun x hn hsz S=> ?_,fun xs hn hlen hsz S=> ?_⟩
  ·have jf:=aj.fI x
   have hts:=zJ hsz
   have fin:∀b,yx x.aX x.fName x.fArgs.length=b→formed x=(b&&jm x.fArgs):=fun b hb=>by rw[←hb];exact uN x
   have hall:∀t∈x.fArgs,t.sz≤4194304:=fun t ht=>by
    obtain⟨i,hi,e⟩:=List.getElem_of_mem ht
    rw[←e];exact(sO hi hsz).1
   have tail:=Ih x.fArgs (by omega) hts.1 hall
   have yes:yx x.aX x.fName x.fArgs.length=true→formed x= !(!jm x.fArgs):=fun h=>by rw[fin _ h];simp
   have no:yx x.aX x.fName x.fArgs.length=false→formed x=false:=fun h=>by rw[fin _ h];simp
   have shut:¬((x.aX=1∨x.aX=4)∧validName x.fName=true∧x.fArgs.length=0∨x.aX=3∧validName x.fName=true∧x.fArgs.length=1∨x.aX=2∧(validName x.fName=true∧x.fArgs.length≤3∨uD x.fName=true∧x.fArgs.length=0))→V.c (.d (.b false))=V.c (.d (.b (formed x))):=fun h=>aB (no (aH h)).symm
   have open_:((x.aX=1∨x.aX=4)∧validName x.fName=true∧x.fArgs.length=0∨x.aX=3∧validName x.fName=true∧x.fArgs.length=1∨x.aX=2∧(validName x.fName=true∧x.fArgs.length≤3∨uD x.fName=true∧x.fArgs.length=0))→V.c (.d (.b (!(!jm x.fArgs))))=V.c (.d (.b (formed x))):=fun h=>aB (yes (bJ h)).symm
   clear yes no fin
   refine aA (rs:=[.tmp 2]) Tryz.checked.mixed Tryz.func335 Tryz.ntmps335 rfl rfl rfl rfl rfl ?_
   first|refine W1 ?_|exact Z1
   repeat' (first
    |(with_reducible refine aS (fun hb=> ?_) (fun hb=> ?_)<;>have h:=hb<;>(try simp only[wf_preprocess] at h)<;>simp -implicitDefEqProofs (disch:=omega) only[go_sem,hb]<;>(repeat(with_reducible refine And.intro ?_ ?_;focus first|omega|rfl|assumption|exact⟨_,rfl,rfl⟩|(simp;omega)|(simp;done))))
    |(refine ah (gJ x.fName (by omega)) ?_;simp -implicitDefEqProofs (disch:=omega) only[go_sem])
    |(refine ah (Oq x.fName) ?_;simp -implicitDefEqProofs (disch:=omega) only[go_sem])
    |(refine ah tail ?_;simp -implicitDefEqProofs (disch:=omega) only[go_sem]))
   all_goals first
    |(refine shut (fun y=> ?_);rcases y with⟨_,_,_⟩|⟨_,_,_⟩|⟨_,⟨_,_⟩|⟨_,_⟩⟩<;>first|omega|(simp_all;done))
    |(refine open_ ?_;first
       |exact .inl ⟨by omega,by assumption,by omega⟩
       |exact .inr (.inl ⟨by omega,by assumption,by omega⟩)
       |exact .inr (.inr ⟨by omega,.inl ⟨by assumption,by omega⟩⟩)
       |exact .inr (.inr ⟨by omega,.inr ⟨by assumption,by omega⟩⟩))
  ·have hcl:∀y∈xs,aG Tryz.prog 352 [y.v] (.c (.d (.b (!formed y)))):=fun y hy S=>by
    have hys:=List.sizeOf_lt_of_mem hy
    refine aA (rs:=[.tmp 2]) Tryz.checked.mixed Tryz.func352 Tryz.ntmps352 rfl rfl rfl rfl rfl ?_
    first|refine W1 ?_|exact Z1
    refine ah (ih y (by omega) (hsz y hy)) ?_
    first|refine W2 ?_|exact Z2
   have hidx:aG Tryz.prog 334 [.c (.d (.sl (xs.map aj.enc))),.c (.fn 352 [])] (.c (.d (.i .i64 (qo (fun y=> !formed y) xs)))):=fun S=>by
    refine aA (rs:=[.tmp 4]) Tryz.checked.mixed Tryz.func334 Tryz.ntmps334 rfl rfl rfl rfl rfl ?_
    first|refine W1 ?_|exact Z1
    refine aV (ι:=Nat) Tryz.checked.mixed rfl [0,1,7,8] (fun i=>[.c (.d (.sl (xs.map aj.enc))),.c (.fn 352 []),.c (.d (.i .i64 xs.length)),.c (.d (.i .i64 i))]) (fun _=>[]::S)
     (fun i=>i≤xs.length∧∀j,∀hj:j<xs.length,j<i→formed xs[j]=true) (fun i=>xs.length-i) 0 rfl rfl ⟨Nat.zero_le _,fun j _ h=>by omega⟩ ?_
    rintro i ⟨p1,p2⟩
    first|refine W1 ?_|exact Z1
    with_reducible refine aS (fun hb=> ?_) (fun hb=> ?_)<;>have h:=hb<;>(try simp only[wf_preprocess] at h)<;>simp -implicitDefEqProofs (disch:=omega) only[go_sem,hb]<;>(repeat(with_reducible refine And.intro ?_ ?_;focus first|omega|rfl|assumption|exact⟨_,rfl,rfl⟩|(simp;omega)|(simp;done)))
    ·have hi:i<xs.length:=by omega
     refine W3 ?_
     refine ah (hcl xs[i] (List.getElem_mem hi)) ?_
     first|refine W2 ?_|exact Z2
     first|refine S0 (fun hb h=>?_) (fun hb h=>?_)|refine S1 fun hb h=>?_|refine S2 fun hb h=>?_|exact S3
     ·rw[pU hi (fun j hj hji=>by rw[p2 j hj hji];rfl) (by rw[h];rfl)]
     ·refine bL (i+1) (by omega) rfl rfl ⟨by omega,fun j hj hji=> ?_⟩
      by_cases e:j=i
      ·subst e;exact h
      ·exact p2 j hj (by omega)
    ·rw[sG (fun j hj=>by rw[p2 j hj (by omega)];rfl)]
   refine aA (rs:=[.tmp 4]) Tryz.checked.mixed Tryz.func293 Tryz.ntmps293 rfl rfl rfl rfl rfl ?_
   first|refine W1 ?_|exact Z1
   refine ah (hidx) ?_
   first|refine W2 ?_|exact Z2
   rw[←EP]
   exact aB qM
theorem Qp(x:aj)(hsz:x.sz≤4194304):aG Tryz.prog 335 [x.v] (.c (.d (.b (formed x)))):=(Dh _).1 x (Nat.lt_succ_self _) hsz
theorem uE(x:aj)(hsz:x.sz≤4194304):aG Tryz.prog 295 [x.v] (.c (.d (.b (mF x)))):=fun S=>by
 refine aA (rs:=[.tmp 2]) Tryz.checked.mixed Tryz.func295 Tryz.ntmps295 rfl rfl rfl rfl rfl ?_
 first|refine W1 ?_|exact Z1
 refine ah (Qp x hsz) ?_
 first|refine W2 ?_|exact Z2
 first|refine S0 (fun hb h=>?_) (fun hb h=>?_)|refine S1 fun hb h=>?_|refine S2 fun hb h=>?_|exact S3
 ·have h1:=h
  refine ah (Ow x hsz) ?_
  first|refine W2 ?_|exact Z2
  first|refine S0 (fun hb h=>?_) (fun hb h=>?_)|refine S1 fun hb h=>?_|refine S2 fun hb h=>?_|exact S3
  ·refine ah (Qo x hsz) ?_
   first|refine W2 ?_|exact Z2
   exact aB (by rw[ny];exact iJ ⟨fun y=>⟨h1,by omega,by omega⟩,fun y=>by have:=y.2.2;omega⟩)
  ·exact aB (aH fun y=>by have:=y.2.1;omega).symm
 ·exact aB (aH fun y=>by rw[y.1] at h;cases h).symm
set_option maxHeartbeats 1000000 in
theorem Ii:∀n:Nat,∀x:aj,SizeOf.sizeOf x<n→x.sz≤4194304→aG Tryz.prog 325 [x.v] (.c (.d (.b (formed x))))
 |0=>fun x h=>by omega
 |n+1=>by
  have ih:=Ii n
  intro x hn hsz S
  have jf:=aj.fI x
  have hts:=zJ hsz
  have shut:¬((x.aX=1∨x.aX=4)∧validName x.fName=true∧x.fArgs.length=0∨x.aX=3∧validName x.fName=true∧x.fArgs.length=1∨x.aX=2∧(validName x.fName=true∧x.fArgs.length≤3∨uD x.fName=true∧x.fArgs.length=0))→V.c (.d (.b false))=V.c (.d (.b (formed x))):=fun h=>aB (by rw[uN,show yx x.aX x.fName x.fArgs.length=false from aH h];rfl)
  have aeB:∀b:Bool,(b=true↔((x.aX=1∨x.aX=4)∧validName x.fName=true∧x.fArgs.length=0∨x.aX=3∧validName x.fName=true∧x.fArgs.length=1∨x.aX=2∧(validName x.fName=true∧x.fArgs.length≤3∨uD x.fName=true∧x.fArgs.length=0)))→b=yx x.aX x.fName x.fArgs.length:=fun b h=>by
   rw[Bool.eq_iff_iff,h]
   unfold yx
   rw[wS]
  refine aA (rs:=[.tmp 2]) Tryz.checked.mixed Tryz.func325 Tryz.ntmps325 rfl rfl rfl rfl rfl ?_
  first|refine W1 ?_|exact Z1
  refine ah (gK x.fName (by omega)) ?_
  first|refine W2 ?_|exact Z2
  repeat' (first
   |(with_reducible refine aS (fun hb=> ?_) (fun hb=> ?_)<;>have h:=hb<;>(try simp only[wf_preprocess] at h)<;>simp -implicitDefEqProofs (disch:=omega) only[go_sem,hb]<;>(repeat(with_reducible refine And.intro ?_ ?_;focus first|omega|rfl|assumption|exact⟨_,rfl,rfl⟩|(simp;omega)|(simp;done))))
   |(refine ah (V6 x.fName) ?_;simp -implicitDefEqProofs (disch:=omega) only[go_sem]))
  all_goals first
   |(refine shut (fun y=> ?_);rcases y with⟨_,_,_⟩|⟨_,_,_⟩|⟨_,⟨_,_⟩|⟨_,_⟩⟩<;>first|omega|(simp_all;done))
   |skip
  all_goals
   refine aV (ι:=Nat×Bool) Tryz.checked.mixed rfl [1,3,4] (fun y=>[.c (.ptr (0,0) 0),.c (.d (.b y.2)),.c (.d (.i .i64 y.1))]) (fun y=>[.box [.d (.i .i64 x.aX),.d (.s x.fName),.d (.sl (x.fArgs.map aj.enc))]]::S)
    (fun y=>y.1≤x.fArgs.length∧(y.2&&jm (x.fArgs.drop y.1))=formed x) (fun y=>x.fArgs.length-y.1) (0,yx x.aX x.fName x.fArgs.length) ?_ rfl ⟨Nat.zero_le _,by rw[uN];rfl⟩ ?_
   ·simp only[List.map_cons,List.map_nil]
    simp -implicitDefEqProofs (disch:=omega) only[go_sem,List.cons.injEq,V.c.injEq,C.d.injEq,D.b.injEq,Int.natCast_zero]
    refine aeB _ ⟨fun y=> ?_,fun y=> ?_⟩
    ·(try simp only[decide_eq_true_eq,Bool.false_eq_true] at y)<;>first
       |exact .inl ⟨by omega,by assumption,by omega⟩
       |exact .inr (.inl ⟨by omega,by assumption,by omega⟩)
       |exact .inr (.inr ⟨by omega,.inl ⟨by assumption,by omega⟩⟩)
       |exact .inr (.inr ⟨by omega,.inr ⟨by assumption,by omega⟩⟩)
    ·rcases y with⟨_,_,_⟩|⟨_,_,_⟩|⟨_,⟨_,_⟩|⟨_,_⟩⟩<;>first|omega|(simp only[decide_eq_true_eq];omega)|(simp_all;done)
   rintro⟨i,c⟩ ⟨p1,p2⟩
   simp only at p1 p2
   first|refine W1 ?_|exact Z1
   first|refine S0 (fun hb h=>?_) (fun hb h=>?_)|refine S1 fun hb h=>?_|refine S2 fun hb h=>?_|exact S3
   ·have hi:i<x.fArgs.length:=by omega
    have hsz':=sO hi hsz
    rw[Ot hi] at p2
    first|refine S0 (fun hb h=>?_) (fun hb h=>?_)|refine S1 fun hb h=>?_|refine S2 fun hb h=>?_|exact S3
    ·refine ah (ih x.fArgs[i] (by have:=List.sizeOf_lt_of_mem (List.getElem_mem hi);omega) (by omega)) ?_
     first|refine W1 ?_|exact Z1
     exact bL (i+1,formed x.fArgs[i]) (by simp only;omega) rfl rfl ⟨by simp only;omega,by rw[←p2,h];rfl⟩
    ·exact bL (i+1,false) (by simp only;omega) rfl rfl ⟨by simp only;omega,by rw[←p2,h];rfl⟩
   ·have hi:i=x.fArgs.length:=by omega
    rw[hi,List.drop_length,jm,Bool.and_true] at p2
    rw[p2]
theorem V8(x:aj)(hsz:x.sz≤4194304):aG Tryz.prog 325 [x.v] (.c (.d (.b (formed x)))):=Ii _ x (Nat.lt_succ_self _) hsz
theorem uF(x:aj)(hsz:x.sz≤4194304):aG Tryz.prog 280 [x.v] (.c (.d (.b (mF x)))):=fun S=>by
 refine aA (rs:=[.tmp 2]) Tryz.checked.mixed Tryz.func280 Tryz.ntmps280 rfl rfl rfl rfl rfl ?_
 first|refine W1 ?_|exact Z1
 refine ah (V7 x 60 (by omega) (by omega) hsz) ?_
 first|refine W2 ?_|exact Z2
 first|refine S0 (fun hb h=>?_) (fun hb h=>?_)|refine S1 fun hb h=>?_|refine S2 fun hb h=>?_|exact S3
 ·have h1:=(eu (l:=60) (a:=x.cnt) (by omega)).2
  refine ah (Ov x hsz) ?_
  first|refine W2 ?_|exact Z2
  first|refine S0 (fun hb h=>?_) (fun hb h=>?_)|refine S1 fun hb h=>?_|refine S2 fun hb h=>?_|exact S3
  ·refine ah (V8 x hsz) ?_
   first|refine W2 ?_|exact Z2
   refine aB ?_
   cases hf:formed x with
   |false=>exact(aH fun y=>by rw[hf] at y;cases y.1).symm
   |true=>exact(bJ ⟨hf,by omega,by omega⟩).symm
  ·exact aB (aH fun y=>by have:=y.2.1;omega).symm
 ·have h1:=dO (l:=60) (a:=x.cnt) (by omega)
  exact aB (aH fun y=>by have:=y.2.2;omega).symm
theorem Ez(x:bq)(hn:x.bR.length≤1073741824)(hsz:x.fType.sz≤4194304):aG Tryz.prog 309 [x.v] (.c (.d (.b (validName x.bR&&mF x.fType)))):=fun S=>by
 refine aA (rs:=[.tmp 2]) Tryz.checked.mixed Tryz.func309 Tryz.ntmps309 rfl rfl rfl rfl rfl ?_
 first|refine W1 ?_|exact Z1
 refine ah (gK x.bR hn) ?_
 first|refine W2 ?_|exact Z2
 first|refine S0 (fun hb h=>?_) (fun hb h=>?_)|refine S1 fun hb h=>?_|refine S2 fun hb h=>?_|exact S3
 ·refine ah (uF x.fType hsz) ?_
  first|refine W2 ?_|exact Z2
 ·rfl
theorem EA(x:bq)(hn:x.bR.length≤1073741824)(hsz:x.fType.sz≤4194304):aG Tryz.prog 292 [x.v] (.c (.d (.b (validName x.bR&&mF x.fType)))):=fun S=>by
 refine aA (rs:=[.tmp 2]) Tryz.checked.mixed Tryz.func292 Tryz.ntmps292 rfl rfl rfl rfl rfl ?_
 first|refine W1 ?_|exact Z1
 refine ah (gJ x.bR hn) ?_
 first|refine W2 ?_|exact Z2
 first|refine S0 (fun hb h=>?_) (fun hb h=>?_)|refine S1 fun hb h=>?_|refine S2 fun hb h=>?_|exact S3
 ·refine ah (uE x.fType hsz) ?_
  first|refine W2 ?_|exact Z2
 ·rfl
end Go.Proofs.YtlmhknhlmicmeaaGreatDoor
namespace Go.Proofs.YtlmhknhlmicmeaaGreatDoor
open Go Go.Ab
theorem FI(g:Nat)(xs ys:List au)(hl:xs.length≤1073741824)(hg:∀x∈xs,∀y,aG Tryz.prog g [x.v,y.v] (.c (.d (.b (dec (x=y)))))):
 aG Tryz.prog 356 [.c (.d (.sl (xs.map au.enc))),.c (.d (.sl (ys.map au.enc))),.c (.fn g [])] (.c (.d (.b (dec (xs=ys))))):=fun S=>by
 refine aA (rs:=[.tmp 6]) Tryz.checked.mixed Tryz.func356 Tryz.ntmps356 rfl rfl rfl rfl rfl ?_
 first|refine W1 ?_|exact Z1
 first|refine S0 (fun hb h=>?_) (fun hb h=>?_)|refine S1 fun hb h=>?_|refine S2 fun hb h=>?_|exact S3
 ·exact aB (aH (fun e=>h (by rw[e]))).symm
 have hl':xs.length=ys.length:=by omega
 refine aV (ι:=Nat) Tryz.checked.mixed rfl [1,2,15,16,17] (fun y=>[.c (.d (.sl (ys.map au.enc))),.c (.fn g []),.c (.d (.sl (xs.map au.enc))),.c (.d (.i .i64 xs.length)),.c (.d (.i .i64 y))]) (fun y=>[]::S)
  (fun i=>i≤xs.length∧∀j,j<i→xs[j]? =ys[j]?) (fun y=>xs.length-y) 0 rfl rfl ⟨Nat.zero_le _,fun j h=>by omega⟩ ?_
 rintro i ⟨p1,p2⟩
 first|refine W1 ?_|exact Z1
 with_reducible refine aS (fun hb=> ?_) (fun hb=> ?_)<;>have h:=hb<;>(try simp only[wf_preprocess] at h)<;>simp -implicitDefEqProofs (disch:=omega) only[go_sem,hb]<;>(repeat(with_reducible refine And.intro ?_ ?_;focus first|omega|rfl|assumption|exact⟨_,rfl,rfl⟩|(simp;omega)|(simp;done)))
 ·have hi:i<xs.length:=by omega
  have hi':i<ys.length:=by omega
  refine W3 ?_
  refine ah (hg xs[i] (List.getElem_mem hi) ys[i]) ?_
  first|refine W1 ?_|exact Z1
  first|refine S0 (fun hb h=>?_) (fun hb h=>?_)|refine S1 fun hb h=>?_|refine S2 fun hb h=>?_|exact S3
  ·exact aB (aH (fun e=>h (by simp only[e]))).symm
  refine dz 0 (by decide) (i+1) (by omega) rfl rfl rfl rfl ⟨by omega,fun j hj=> ?_⟩
  by_cases e:j=i
  ·subst e
   rw[List.getElem?_eq_getElem hi,List.getElem?_eq_getElem hi',h]
  ·exact p2 j (by omega)
 ·have hi:i=xs.length:=by omega
  refine aB (bJ (List.ext_getElem? fun j=> ?_)).symm
  by_cases hj:j<i
  ·exact p2 j hj
  ·rw[List.getElem?_eq_none (by omega),List.getElem?_eq_none (by omega)]
theorem Ij(g:Nat)(xs ys:List aW)(hl:xs.length≤1073741824)(hg:∀x∈xs,∀y,aG Tryz.prog g [x.v,y.v] (.c (.d (.b (dec (x=y)))))):
 aG Tryz.prog 357 [.c (.d (.sl (xs.map aW.enc))),.c (.d (.sl (ys.map aW.enc))),.c (.fn g [])] (.c (.d (.b (dec (xs=ys))))):=fun S=>by
 refine aA (rs:=[.tmp 6]) Tryz.checked.mixed Tryz.func357 Tryz.ntmps357 rfl rfl rfl rfl rfl ?_
 first|refine W1 ?_|exact Z1
 first|refine S0 (fun hb h=>?_) (fun hb h=>?_)|refine S1 fun hb h=>?_|refine S2 fun hb h=>?_|exact S3
 ·exact aB (aH (fun e=>h (by rw[e]))).symm
 have hl':xs.length=ys.length:=by omega
 refine aV (ι:=Nat) Tryz.checked.mixed rfl [1,2,15,16,17] (fun y=>[.c (.d (.sl (ys.map aW.enc))),.c (.fn g []),.c (.d (.sl (xs.map aW.enc))),.c (.d (.i .i64 xs.length)),.c (.d (.i .i64 y))]) (fun y=>[]::S)
  (fun i=>i≤xs.length∧∀j,j<i→xs[j]? =ys[j]?) (fun y=>xs.length-y) 0 rfl rfl ⟨Nat.zero_le _,fun j h=>by omega⟩ ?_
 rintro i ⟨p1,p2⟩
 first|refine W1 ?_|exact Z1
 with_reducible refine aS (fun hb=> ?_) (fun hb=> ?_)<;>have h:=hb<;>(try simp only[wf_preprocess] at h)<;>simp -implicitDefEqProofs (disch:=omega) only[go_sem,hb]<;>(repeat(with_reducible refine And.intro ?_ ?_;focus first|omega|rfl|assumption|exact⟨_,rfl,rfl⟩|(simp;omega)|(simp;done)))
 ·have hi:i<xs.length:=by omega
  have hi':i<ys.length:=by omega
  refine W3 ?_
  refine ah (hg xs[i] (List.getElem_mem hi) ys[i]) ?_
  first|refine W1 ?_|exact Z1
  first|refine S0 (fun hb h=>?_) (fun hb h=>?_)|refine S1 fun hb h=>?_|refine S2 fun hb h=>?_|exact S3
  ·exact aB (aH (fun e=>h (by simp only[e]))).symm
  refine dz 0 (by decide) (i+1) (by omega) rfl rfl rfl rfl ⟨by omega,fun j hj=> ?_⟩
  by_cases e:j=i
  ·subst e
   rw[List.getElem?_eq_getElem hi,List.getElem?_eq_getElem hi',h]
  ·exact p2 j (by omega)
 ·have hi:i=xs.length:=by omega
  refine aB (bJ (List.ext_getElem? fun j=> ?_)).symm
  by_cases hj:j<i
  ·exact p2 j hj
  ·rw[List.getElem?_eq_none (by omega),List.getElem?_eq_none (by omega)]
theorem FJ(g:Nat)(caps:List (Key×Nat))(S:Store)(xs:List aj)(p:aj→Bool)(hl:xs.length≤1073741824)(hp:∀x∈xs,nu Tryz.prog g caps S [x.v] (.c (.d (.b (p x))))):
 dh Tryz.prog 334 [.c (.d (.sl (xs.map aj.enc))),.c (.fn g caps)] S (fun r S'=>r=.c (.d (.i .i64 (qo p xs)))∧S'=S):=by
 refine aA (rs:=[.tmp 4]) Tryz.checked.mixed Tryz.func334 Tryz.ntmps334 rfl rfl rfl rfl rfl ?_
 first|refine W1 ?_|exact Z1
 refine aV (ι:=Nat) Tryz.checked.mixed rfl [0,1,7,8] (fun i=>[.c (.d (.sl (xs.map aj.enc))),.c (.fn g (iU 1 caps)),.c (.d (.i .i64 xs.length)),.c (.d (.i .i64 i))]) (fun _=>[]::S)
  (fun i=>i≤xs.length∧∀j,∀hj:j<xs.length,j<i→p xs[j]=false) (fun i=>xs.length-i) 0 rfl rfl ⟨Nat.zero_le _,fun j _ h=>by omega⟩ ?_
 rintro i ⟨p1,p2⟩
 first|refine W1 ?_|exact Z1
 with_reducible refine aS (fun hb=> ?_) (fun hb=> ?_)<;>have h:=hb<;>(try simp only[wf_preprocess] at h)<;>simp -implicitDefEqProofs (disch:=omega) only[go_sem,hb]<;>(repeat(with_reducible refine And.intro ?_ ?_;focus first|omega|rfl|assumption|exact⟨_,rfl,rfl⟩|(simp;omega)|(simp;done)))
 ·have hi:i<xs.length:=by omega
  refine W3 ?_
  refine bV rfl (hp xs[i] (List.getElem_mem hi) [_]) ?_
  first|refine W1 ?_|exact Z1
  first|refine S0 (fun hb h=>?_) (fun hb h=>?_)|refine S1 fun hb h=>?_|refine S2 fun hb h=>?_|exact S3
  ·rw[pU hi p2 h]
  ·refine bL (i+1) (by omega) rfl rfl ⟨by omega,fun j hj hji=> ?_⟩
   by_cases e:j=i
   ·subst e;exact h
   ·exact p2 j hj (by omega)
 ·rw[sG (fun j hj=>p2 j hj (by omega))]
theorem Cx(g:Nat)(caps:List (Key×Nat))(S:Store)(xs:List aj)(p:aj→Bool)(hl:xs.length≤1073741824)(hp:∀x∈xs,nu Tryz.prog g caps S [x.v] (.c (.d (.b (p x))))):
 dh Tryz.prog 293 [.c (.d (.sl (xs.map aj.enc))),.c (.fn g caps)] S (fun r S'=>r=.c (.d (.b (xs.any p)))∧S'=S):=by
 refine aA (rs:=[.tmp 4]) Tryz.checked.mixed Tryz.func293 Tryz.ntmps293 rfl rfl rfl rfl rfl ?_
 first|refine W1 ?_|exact Z1
 refine bV rfl (FJ g (iU 1 caps) _ xs p hl fun x hx=>(hp x hx).push _) ?_
 first|refine W1 ?_|exact Z1
 exact aB qM
theorem FK(g:Nat)(caps:List (Key×Nat))(S:Store)(xs:List au)(p:au→Bool)(hl:xs.length≤1073741824)(hp:∀x∈xs,nu Tryz.prog g caps S [x.v] (.c (.d (.b (p x))))):
 dh Tryz.prog 329 [.c (.d (.sl (xs.map au.enc))),.c (.fn g caps)] S (fun r S'=>r=.c (.d (.i .i64 (qo p xs)))∧S'=S):=by
 refine aA (rs:=[.tmp 4]) Tryz.checked.mixed Tryz.func329 Tryz.ntmps329 rfl rfl rfl rfl rfl ?_
 first|refine W1 ?_|exact Z1
 refine aV (ι:=Nat) Tryz.checked.mixed rfl [0,1,7,8] (fun i=>[.c (.d (.sl (xs.map au.enc))),.c (.fn g (iU 1 caps)),.c (.d (.i .i64 xs.length)),.c (.d (.i .i64 i))]) (fun _=>[]::S)
  (fun i=>i≤xs.length∧∀j,∀hj:j<xs.length,j<i→p xs[j]=false) (fun i=>xs.length-i) 0 rfl rfl ⟨Nat.zero_le _,fun j _ h=>by omega⟩ ?_
 rintro i ⟨p1,p2⟩
 first|refine W1 ?_|exact Z1
 with_reducible refine aS (fun hb=> ?_) (fun hb=> ?_)<;>have h:=hb<;>(try simp only[wf_preprocess] at h)<;>simp -implicitDefEqProofs (disch:=omega) only[go_sem,hb]<;>(repeat(with_reducible refine And.intro ?_ ?_;focus first|omega|rfl|assumption|exact⟨_,rfl,rfl⟩|(simp;omega)|(simp;done)))
 ·have hi:i<xs.length:=by omega
  refine W3 ?_
  refine bV rfl (hp xs[i] (List.getElem_mem hi) [_]) ?_
  first|refine W1 ?_|exact Z1
  first|refine S0 (fun hb h=>?_) (fun hb h=>?_)|refine S1 fun hb h=>?_|refine S2 fun hb h=>?_|exact S3
  ·rw[pU hi p2 h]
  ·refine bL (i+1) (by omega) rfl rfl ⟨by omega,fun j hj hji=> ?_⟩
   by_cases e:j=i
   ·subst e;exact h
   ·exact p2 j hj (by omega)
 ·rw[sG (fun j hj=>p2 j hj (by omega))]
theorem Cy(g:Nat)(caps:List (Key×Nat))(S:Store)(xs:List au)(p:au→Bool)(hl:xs.length≤1073741824)(hp:∀x∈xs,nu Tryz.prog g caps S [x.v] (.c (.d (.b (p x))))):
 dh Tryz.prog 283 [.c (.d (.sl (xs.map au.enc))),.c (.fn g caps)] S (fun r S'=>r=.c (.d (.b (xs.any p)))∧S'=S):=by
 refine aA (rs:=[.tmp 4]) Tryz.checked.mixed Tryz.func283 Tryz.ntmps283 rfl rfl rfl rfl rfl ?_
 first|refine W1 ?_|exact Z1
 refine bV rfl (FK g (iU 1 caps) _ xs p hl fun x hx=>(hp x hx).push _) ?_
 first|refine W1 ?_|exact Z1
 exact aB qM
theorem Ik(g:Nat)(caps:List (Key×Nat))(S:Store)(xs:List aW)(p:aW→Bool)(hl:xs.length≤1073741824)(hp:∀x∈xs,nu Tryz.prog g caps S [x.v] (.c (.d (.b (p x))))):
 dh Tryz.prog 330 [.c (.d (.sl (xs.map aW.enc))),.c (.fn g caps)] S (fun r S'=>r=.c (.d (.i .i64 (qo p xs)))∧S'=S):=by
 refine aA (rs:=[.tmp 4]) Tryz.checked.mixed Tryz.func330 Tryz.ntmps330 rfl rfl rfl rfl rfl ?_
 first|refine W1 ?_|exact Z1
 refine aV (ι:=Nat) Tryz.checked.mixed rfl [0,1,7,8] (fun i=>[.c (.d (.sl (xs.map aW.enc))),.c (.fn g (iU 1 caps)),.c (.d (.i .i64 xs.length)),.c (.d (.i .i64 i))]) (fun _=>[]::S)
  (fun i=>i≤xs.length∧∀j,∀hj:j<xs.length,j<i→p xs[j]=false) (fun i=>xs.length-i) 0 rfl rfl ⟨Nat.zero_le _,fun j _ h=>by omega⟩ ?_
 rintro i ⟨p1,p2⟩
 first|refine W1 ?_|exact Z1
 with_reducible refine aS (fun hb=> ?_) (fun hb=> ?_)<;>have h:=hb<;>(try simp only[wf_preprocess] at h)<;>simp -implicitDefEqProofs (disch:=omega) only[go_sem,hb]<;>(repeat(with_reducible refine And.intro ?_ ?_;focus first|omega|rfl|assumption|exact⟨_,rfl,rfl⟩|(simp;omega)|(simp;done)))
 ·have hi:i<xs.length:=by omega
  refine W3 ?_
  refine bV rfl (hp xs[i] (List.getElem_mem hi) [_]) ?_
  first|refine W1 ?_|exact Z1
  first|refine S0 (fun hb h=>?_) (fun hb h=>?_)|refine S1 fun hb h=>?_|refine S2 fun hb h=>?_|exact S3
  ·rw[pU hi p2 h]
  ·refine bL (i+1) (by omega) rfl rfl ⟨by omega,fun j hj hji=> ?_⟩
   by_cases e:j=i
   ·subst e;exact h
   ·exact p2 j hj (by omega)
 ·rw[sG (fun j hj=>p2 j hj (by omega))]
theorem Di(g:Nat)(caps:List (Key×Nat))(S:Store)(xs:List aW)(p:aW→Bool)(hl:xs.length≤1073741824)(hp:∀x∈xs,nu Tryz.prog g caps S [x.v] (.c (.d (.b (p x))))):
 dh Tryz.prog 285 [.c (.d (.sl (xs.map aW.enc))),.c (.fn g caps)] S (fun r S'=>r=.c (.d (.b (xs.any p)))∧S'=S):=by
 refine aA (rs:=[.tmp 4]) Tryz.checked.mixed Tryz.func285 Tryz.ntmps285 rfl rfl rfl rfl rfl ?_
 first|refine W1 ?_|exact Z1
 refine bV rfl (Ik g (iU 1 caps) _ xs p hl fun x hx=>(hp x hx).push _) ?_
 first|refine W1 ?_|exact Z1
 exact aB qM
theorem EB(g:Nat)(caps:List (Key×Nat))(S:Store)(xs:List bq)(p:bq→Bool)(hl:xs.length≤1073741824)(hp:∀x∈xs,nu Tryz.prog g caps S [x.v] (.c (.d (.b (p x))))):
 dh Tryz.prog 333 [.c (.d (.sl (xs.map bq.enc))),.c (.fn g caps)] S (fun r S'=>r=.c (.d (.i .i64 (qo p xs)))∧S'=S):=by
 refine aA (rs:=[.tmp 4]) Tryz.checked.mixed Tryz.func333 Tryz.ntmps333 rfl rfl rfl rfl rfl ?_
 first|refine W1 ?_|exact Z1
 refine aV (ι:=Nat) Tryz.checked.mixed rfl [0,1,7,8] (fun i=>[.c (.d (.sl (xs.map bq.enc))),.c (.fn g (iU 1 caps)),.c (.d (.i .i64 xs.length)),.c (.d (.i .i64 i))]) (fun _=>[]::S)
  (fun i=>i≤xs.length∧∀j,∀hj:j<xs.length,j<i→p xs[j]=false) (fun i=>xs.length-i) 0 rfl rfl ⟨Nat.zero_le _,fun j _ h=>by omega⟩ ?_
 rintro i ⟨p1,p2⟩
 first|refine W1 ?_|exact Z1
 with_reducible refine aS (fun hb=> ?_) (fun hb=> ?_)<;>have h:=hb<;>(try simp only[wf_preprocess] at h)<;>simp -implicitDefEqProofs (disch:=omega) only[go_sem,hb]<;>(repeat(with_reducible refine And.intro ?_ ?_;focus first|omega|rfl|assumption|exact⟨_,rfl,rfl⟩|(simp;omega)|(simp;done)))
 ·have hi:i<xs.length:=by omega
  refine W3 ?_
  refine bV rfl (hp xs[i] (List.getElem_mem hi) [_]) ?_
  first|refine W1 ?_|exact Z1
  first|refine S0 (fun hb h=>?_) (fun hb h=>?_)|refine S1 fun hb h=>?_|refine S2 fun hb h=>?_|exact S3
  ·rw[pU hi p2 h]
  ·refine bL (i+1) (by omega) rfl rfl ⟨by omega,fun j hj hji=> ?_⟩
   by_cases e:j=i
   ·subst e;exact h
   ·exact p2 j hj (by omega)
 ·rw[sG (fun j hj=>p2 j hj (by omega))]
theorem BG(g:Nat)(caps:List (Key×Nat))(S:Store)(xs:List bq)(p:bq→Bool)(hl:xs.length≤1073741824)(hp:∀x∈xs,nu Tryz.prog g caps S [x.v] (.c (.d (.b (p x))))):
 dh Tryz.prog 290 [.c (.d (.sl (xs.map bq.enc))),.c (.fn g caps)] S (fun r S'=>r=.c (.d (.b (xs.any p)))∧S'=S):=by
 refine aA (rs:=[.tmp 4]) Tryz.checked.mixed Tryz.func290 Tryz.ntmps290 rfl rfl rfl rfl rfl ?_
 first|refine W1 ?_|exact Z1
 refine bV rfl (EB g (iU 1 caps) _ xs p hl fun x hx=>(hp x hx).push _) ?_
 first|refine W1 ?_|exact Z1
 exact aB qM
theorem Dj(g:Nat)(caps:List (Key×Nat))(S:Store)(xs:List (List UInt8))(p:(List UInt8)→Bool)(hl:xs.length≤1073741824)(hp:∀x∈xs,nu Tryz.prog g caps S [.c (.d (.s x))] (.c (.d (.b (p x))))):
 dh Tryz.prog 317 [.c (.d (.sl (xs.map encS))),.c (.fn g caps)] S (fun r S'=>r=.c (.d (.i .i64 (qo p xs)))∧S'=S):=by
 refine aA (rs:=[.tmp 4]) Tryz.checked.mixed Tryz.func317 Tryz.ntmps317 rfl rfl rfl rfl rfl ?_
 simp -implicitDefEqProofs (disch:=omega) only[go_sem,encS]
 refine aV (ι:=Nat) Tryz.checked.mixed rfl [0,1,7,8] (fun i=>[.c (.d (.sl (xs.map encS))),.c (.fn g (iU 1 caps)),.c (.d (.i .i64 xs.length)),.c (.d (.i .i64 i))]) (fun _=>[]::S)
  (fun i=>i≤xs.length∧∀j,∀hj:j<xs.length,j<i→p xs[j]=false) (fun i=>xs.length-i) 0 rfl rfl ⟨Nat.zero_le _,fun j _ h=>by omega⟩ ?_
 rintro i ⟨p1,p2⟩
 simp -implicitDefEqProofs (disch:=omega) only[go_sem,encS]
 with_reducible refine aS (fun hb=> ?_) (fun hb=> ?_)<;>have h:=hb<;>(try simp only[wf_preprocess] at h)<;>simp -implicitDefEqProofs (disch:=omega) only[go_sem,hb,encS]<;>(repeat(with_reducible refine And.intro ?_ ?_;focus first|omega|rfl|assumption|exact⟨_,rfl,rfl⟩|(simp;omega)|(simp;done)))
 ·have hi:i<xs.length:=by omega
  refine W3 ?_
  refine bV rfl (hp xs[i] (List.getElem_mem hi) [_]) ?_
  simp -implicitDefEqProofs (disch:=omega) only[go_sem,encS]
  with_reducible refine aS (fun hb=> ?_) (fun hb=> ?_)<;>have h:=hb<;>(try simp only[wf_preprocess] at h)<;>simp -implicitDefEqProofs (disch:=omega) only[go_sem,hb,encS]<;>(repeat(with_reducible refine And.intro ?_ ?_;focus first|omega|rfl|assumption|exact⟨_,rfl,rfl⟩|(simp;omega)|(simp;done)))
  ·rw[pU hi p2 h]
  ·refine bL (i+1) (by omega) rfl rfl ⟨by omega,fun j hj hji=> ?_⟩
   by_cases e:j=i
   ·subst e;exact h
   ·exact p2 j hj (by omega)
 ·rw[sG (fun j hj=>p2 j hj (by omega))]
theorem uO(g:Nat)(caps:List (Key×Nat))(S:Store)(xs:List (List UInt8))(p:(List UInt8)→Bool)(hl:xs.length≤1073741824)(hp:∀x∈xs,nu Tryz.prog g caps S [.c (.d (.s x))] (.c (.d (.b (p x))))):
 dh Tryz.prog 264 [.c (.d (.sl (xs.map encS))),.c (.fn g caps)] S (fun r S'=>r=.c (.d (.b (xs.any p)))∧S'=S):=by
 refine aA (rs:=[.tmp 4]) Tryz.checked.mixed Tryz.func264 Tryz.ntmps264 rfl rfl rfl rfl rfl ?_
 simp -implicitDefEqProofs (disch:=omega) only[go_sem,encS]
 refine bV rfl (Dj g (iU 1 caps) _ xs p hl fun x hx=>(hp x hx).push _) ?_
 simp -implicitDefEqProofs (disch:=omega) only[go_sem,encS]
 exact aB qM
theorem V9(xs ys:List (List UInt8))(hl:xs.length≤1073741824):aG Tryz.prog 359 [.c (.d (.sl (xs.map encS))),.c (.d (.sl (ys.map encS)))] (.c (.d (.b (dec (xs=ys))))):=fun S=>by
 refine aA (rs:=[.tmp 4]) Tryz.checked.mixed Tryz.func359 Tryz.ntmps359 rfl rfl rfl rfl rfl ?_
 simp -implicitDefEqProofs (disch:=omega) only[go_sem,encS]
 with_reducible refine aS (fun hb=> ?_) (fun hb=> ?_)<;>have h:=hb<;>(try simp only[wf_preprocess] at h)<;>simp -implicitDefEqProofs (disch:=omega) only[go_sem,hb,encS]<;>(repeat(with_reducible refine And.intro ?_ ?_;focus first|omega|rfl|assumption|exact⟨_,rfl,rfl⟩|(simp;omega)|(simp;done)))
 ·exact aB (aH (fun e=>h (by rw[e]))).symm
 have hl':xs.length=ys.length:=by omega
 refine aV (ι:=Nat) Tryz.checked.mixed rfl [0,1,12,13] (fun i=>[.c (.d (.sl (xs.map encS))),.c (.d (.sl (ys.map encS))),.c (.d (.i .i64 xs.length)),.c (.d (.i .i64 i))]) (fun _=>[]::S)
  (fun i=>i≤xs.length∧∀j,j<i→xs[j]? =ys[j]?) (fun y=>xs.length-y) 0 rfl rfl ⟨Nat.zero_le _,fun j h=>by omega⟩ ?_
 rintro i ⟨p1,p2⟩
 simp -implicitDefEqProofs (disch:=omega) only[go_sem,encS]
 with_reducible refine aS (fun hb=> ?_) (fun hb=> ?_)<;>have h:=hb<;>(try simp only[wf_preprocess] at h)<;>simp -implicitDefEqProofs (disch:=omega) only[go_sem,hb,encS]<;>(repeat(with_reducible refine And.intro ?_ ?_;focus first|omega|rfl|assumption|exact⟨_,rfl,rfl⟩|(simp;omega)|(simp;done)))
 ·have hi:i<xs.length:=by omega
  have hi':i<ys.length:=by omega
  refine W3 ?_
  with_reducible refine aS (fun hb=> ?_) (fun hb=> ?_)<;>have h:=hb<;>(try simp only[wf_preprocess] at h)<;>simp -implicitDefEqProofs (disch:=omega) only[go_sem,hb,encS]<;>(repeat(with_reducible refine And.intro ?_ ?_;focus first|omega|rfl|assumption|exact⟨_,rfl,rfl⟩|(simp;omega)|(simp;done)))
  ·exact aB (aH (fun e=>h (by simp only[e]))).symm
  refine bL (i+1) (by omega) rfl rfl ⟨by omega,fun j hj=> ?_⟩
  by_cases e:j=i
  ·subst e
   rw[List.getElem?_eq_getElem hi,List.getElem?_eq_getElem hi',h]
  ·exact p2 j (by omega)
 ·have hi:i=xs.length:=by omega
  refine aB (bJ (List.ext_getElem? fun j=> ?_)).symm
  by_cases hj:j<i
  ·exact p2 j hj
  ·rw[List.getElem?_eq_none (by omega),List.getElem?_eq_none (by omega)]
theorem Qq(xs ys:List (List UInt8))(hl:xs.length≤1073741824):aG Tryz.prog 361 [.c (.d (.sl (xs.map encS))),.c (.d (.sl (ys.map encS)))] (.c (.d (.b (dec (xs=ys))))):=fun S=>by
 refine aA (rs:=[.tmp 4]) Tryz.checked.mixed Tryz.func361 Tryz.ntmps361 rfl rfl rfl rfl rfl ?_
 simp -implicitDefEqProofs (disch:=omega) only[go_sem,encS]
 with_reducible refine aS (fun hb=> ?_) (fun hb=> ?_)<;>have h:=hb<;>(try simp only[wf_preprocess] at h)<;>simp -implicitDefEqProofs (disch:=omega) only[go_sem,hb,encS]<;>(repeat(with_reducible refine And.intro ?_ ?_;focus first|omega|rfl|assumption|exact⟨_,rfl,rfl⟩|(simp;omega)|(simp;done)))
 ·exact aB (aH (fun e=>h (by rw[e]))).symm
 have hl':xs.length=ys.length:=by omega
 refine aV (ι:=Nat) Tryz.checked.mixed rfl [0,1,5] (fun i=>[.c (.d (.sl (xs.map encS))),.c (.d (.sl (ys.map encS))),.c (.d (.i .i64 i))]) (fun _=>[]::S)
  (fun i=>i≤xs.length∧∀j,j<i→xs[j]? =ys[j]?) (fun y=>xs.length-y) 0 rfl rfl ⟨Nat.zero_le _,fun j h=>by omega⟩ ?_
 rintro i ⟨p1,p2⟩
 simp -implicitDefEqProofs (disch:=omega) only[go_sem,encS]
 with_reducible refine aS (fun hb=> ?_) (fun hb=> ?_)<;>have h:=hb<;>(try simp only[wf_preprocess] at h)<;>simp -implicitDefEqProofs (disch:=omega) only[go_sem,hb,encS]<;>(repeat(with_reducible refine And.intro ?_ ?_;focus first|omega|rfl|assumption|exact⟨_,rfl,rfl⟩|(simp;omega)|(simp;done)))
 ·have hi:i<xs.length:=by omega
  have hi':i<ys.length:=by omega
  refine W3 ?_
  with_reducible refine aS (fun hb=> ?_) (fun hb=> ?_)<;>have h:=hb<;>(try simp only[wf_preprocess] at h)<;>simp -implicitDefEqProofs (disch:=omega) only[go_sem,hb,encS]<;>(repeat(with_reducible refine And.intro ?_ ?_;focus first|omega|rfl|assumption|exact⟨_,rfl,rfl⟩|(simp;omega)|(simp;done)))
  ·exact aB (aH (fun e=>h (by simp only[e]))).symm
  refine bL (i+1) (by omega) rfl rfl ⟨by omega,fun j hj=> ?_⟩
  by_cases e:j=i
  ·subst e
   rw[List.getElem?_eq_getElem hi,List.getElem?_eq_getElem hi',h]
  ·exact p2 j (by omega)
 ·have hi:i=xs.length:=by omega
  refine aB (bJ (List.ext_getElem? fun j=> ?_)).symm
  by_cases hj:j<i
  ·exact p2 j hj
  ·rw[List.getElem?_eq_none (by omega),List.getElem?_eq_none (by omega)]
end Go.Proofs.YtlmhknhlmicmeaaGreatDoor
namespace Go.Ab
theorem pG{s:List UInt8}{xs:List (List UInt8)}(h:s∈xs):s.length≤aI (xs.map encS):=by
 have:=bI (List.mem_map_of_mem (f:=encS) h)
 simpa [encS,bP,D.sz] using this
noncomputable def iA(xs:List (List UInt8)):Bool:=dec xs.Nodup&&xs.all validName
noncomputable def among(xs ys:List (List UInt8)):Bool:=xs.all fun s=>dec (s∈ys)
noncomputable def gu(vars:List (List UInt8))(t:aj):Bool:=mF t&&among (iL [] t) vars
noncomputable def kg(vars:List (List UInt8))(ts:List aj):Bool:=ts.all (gu vars)
theorem Yy{s l:List UInt8}{m:List (List UInt8)}:s∈CJ l m↔s=l∨s∈m:=by
 unfold CJ
 split
 ·rename_i h
  exact⟨.inr,fun x=>x.elim (fun e=>e▸h) id⟩
 ·rw[List.mem_append,List.mem_singleton];exact Or.comm
theorem gW{α:Type}{xs:List α}{i:Nat}(hi:i<xs.length):xs.take (i+1)=xs.take i++[xs[i]]:=List.take_succ_eq_append_getElem hi
theorem BH{α:Type}{xs:List α}{x:α}:(xs++[x]).Nodup↔xs.Nodup∧x∉xs:=by
 rw[List.nodup_append]
 constructor
 ·rintro⟨h1,_,h3⟩
  exact⟨h1,fun hx=>h3 x hx x (by simp) rfl⟩
 ·rintro⟨h1,h2⟩
  exact⟨h1,by simp,fun a ha b hb e=>by simp at hb;subst hb;exact h2 (e▸ha)⟩
theorem KY{α:Type}{xs:List α}{i:Nat}(hi:i<xs.length)(h:xs[i]∈xs.take i):¬xs.Nodup:=fun hn=>by
 have h1:(xs.take (i+1)).Nodup:=hn.sublist (List.take_sublist _ _)
 rw[gW hi] at h1
 exact(BH.1 h1).2 h
end Go.Ab
namespace Go.Proofs.YtlmhknhlmicmeaaGreatDoor
open Go Go.Ab
theorem nP(xs:List (List UInt8))(hl:xs.length≤1073741824):aG Tryz.prog 233 [.c (.d (.sl (xs.map encS)))] (.c (.d (.b (dec xs.Nodup)))):=fun S=>by
 refine aA (rs:=[.tmp 2]) Tryz.checked.mixed Tryz.func233 Tryz.ntmps233 rfl rfl rfl rfl rfl ?_
 simp -implicitDefEqProofs (disch:=omega) only[go_sem,encS]
 refine W3 ?_
 refine aV (ι:=Nat×List (List UInt8)) Tryz.checked.mixed rfl [3,7,8,9] (fun y=>[.c (.mp (0,0)),.c (.d (.sl (xs.map encS))),.c (.d (.i .i64 xs.length)),.c (.d (.i .i64 y.1))]) (fun y=>[.mp y.2]::S)
  (fun y=>y.1≤xs.length∧(∀s,s∈y.2↔s∈xs.take y.1)∧(xs.take y.1).Nodup) (fun y=>xs.length-y.1) (0,[]) rfl rfl ⟨Nat.zero_le _,fun s=>by simp,by simp⟩ ?_
 rintro⟨i,m⟩ ⟨p1,p2,p3⟩
 simp only at p1 p2 p3
 simp -implicitDefEqProofs (disch:=omega) only[go_sem,encS]
 with_reducible refine aS (fun hb=> ?_) (fun hb=> ?_)<;>have h:=hb<;>(try simp only[wf_preprocess] at h)<;>simp -implicitDefEqProofs (disch:=omega) only[go_sem,hb,encS]<;>(repeat(with_reducible refine And.intro ?_ ?_;focus first|omega|rfl|assumption|exact⟨_,rfl,rfl⟩|(simp;omega)|(simp;done)))
 ·have hi:i<xs.length:=by omega
  refine W3 ?_
  with_reducible refine aS (fun hb=> ?_) (fun hb=> ?_)<;>have h:=hb<;>(try simp only[wf_preprocess] at h)<;>simp -implicitDefEqProofs (disch:=omega) only[go_sem,hb,encS]<;>(repeat(with_reducible refine And.intro ?_ ?_;focus first|omega|rfl|assumption|exact⟨_,rfl,rfl⟩|(simp;omega)|(simp;done)))
  ·exact aB (aH (KY hi ((p2 _).1 h))).symm
  ·refine bL (i+1,CJ xs[i] m) (by simp only;omega) rfl rfl ⟨by simp only;omega,fun s=> ?_,?_⟩
   ·simp only
    rw[Yy,gW hi,List.mem_append,List.mem_singleton,p2]
    exact Or.comm
   ·simp only
    rw[gW hi,BH]
    exact⟨p3,fun hx=>h ((p2 _).2 hx)⟩
 ·rw[List.take_of_length_le (by omega)] at p3
  exact aB (bJ p3).symm
theorem nQ(xs:List (List UInt8))(hl:xs.length≤1073741824):aG Tryz.prog 154 [.c (.d (.sl (xs.map encS)))] (.c (.d (.b (dec xs.Nodup)))):=fun S=>by
 refine aA (rs:=[.tmp 2]) Tryz.checked.mixed Tryz.func154 Tryz.ntmps154 rfl rfl rfl rfl rfl ?_
 simp -implicitDefEqProofs (disch:=omega) only[go_sem,encS]
 refine aV (ι:=Nat) Tryz.checked.mixed rfl [0,3] (fun i=>[.c (.d (.sl (xs.map encS))),.c (.d (.i .i64 i))]) (fun _=>[]::S)
  (fun i=>i≤xs.length∧(xs.take i).Nodup) (fun i=>xs.length-i) 0 rfl rfl ⟨Nat.zero_le _,by simp⟩ ?_
 rintro i ⟨p1,p3⟩
 simp -implicitDefEqProofs (disch:=omega) only[go_sem,encS]
 with_reducible refine aS (fun hb=> ?_) (fun hb=> ?_)<;>have h:=hb<;>(try simp only[wf_preprocess] at h)<;>simp -implicitDefEqProofs (disch:=omega) only[go_sem,hb,encS]<;>(repeat(with_reducible refine And.intro ?_ ?_;focus first|omega|rfl|assumption|exact⟨_,rfl,rfl⟩|(simp;omega)|(simp;done)))
 ·have hi:i<xs.length:=by omega
  have hc:∀y∈xs.map encS,y.length=1:=fun y hy=>by
   obtain⟨s,_,rfl⟩:=List.mem_map.1 hy
   rfl
  have e:(xs.map encS).take i=(xs.take i).map encS:=List.map_take.symm
  refine And.intro ⟨by omega,by omega,hc⟩ ?_
  (repeat(with_reducible refine And.intro ?_ ?_;focus first|omega|rfl|assumption|exact⟨_,rfl,rfl⟩|(simp;omega)|(simp;done)))
  simp -implicitDefEqProofs (disch:=omega) only[go_sem,Int.toNat_zero,e]
  refine ah (qN (xs.take i) xs[i] (by simp;omega)) ?_
  first|refine W2 ?_|exact Z2
  first|refine S0 (fun hb h=>?_) (fun hb h=>?_)|refine S1 fun hb h=>?_|refine S2 fun hb h=>?_|exact S3
  ·exact aB (aH (KY hi h)).symm
  ·refine bL (i+1) (by omega) rfl rfl ⟨by omega,?_⟩
   rw[gW hi,BH]
   exact⟨p3,h⟩
 ·rw[List.take_of_length_le (by omega)] at p3
  exact aB (bJ p3).symm
theorem Il(xs:List (List UInt8))(hl:xs.length≤1073741824)(hs:∀s∈xs,s.length≤4194304):aG Tryz.prog 247 [.c (.d (.sl (xs.map encS)))] (.c (.d (.b (xs.all validName)))):=fun S=>by
 refine aA (rs:=[.tmp 2]) Tryz.checked.mixed Tryz.func247 Tryz.ntmps247 rfl rfl rfl rfl rfl ?_
 simp -implicitDefEqProofs (disch:=omega) only[go_sem,encS]
 refine aV (ι:=Nat) Tryz.checked.mixed rfl [0,3] (fun i=>[.c (.d (.sl (xs.map encS))),.c (.d (.i .i64 i))]) (fun _=>[]::S)
  (fun i=>i≤xs.length∧(xs.drop i).all validName=xs.all validName) (fun i=>xs.length-i) 0 rfl rfl ⟨Nat.zero_le _,rfl⟩ ?_
 rintro i ⟨p1,p2⟩
 simp -implicitDefEqProofs (disch:=omega) only[go_sem,encS]
 with_reducible refine aS (fun hb=> ?_) (fun hb=> ?_)<;>have h:=hb<;>(try simp only[wf_preprocess] at h)<;>simp -implicitDefEqProofs (disch:=omega) only[go_sem,hb,encS]<;>(repeat(with_reducible refine And.intro ?_ ?_;focus first|omega|rfl|assumption|exact⟨_,rfl,rfl⟩|(simp;omega)|(simp;done)))
 ·have hi:i<xs.length:=by omega
  have hz:=hs _ (List.getElem_mem hi)
  rw[List.drop_eq_getElem_cons hi,List.all_cons] at p2
  refine W3 ?_
  refine ah (gK xs[i] (by omega)) ?_
  first|refine W2 ?_|exact Z2
  first|refine S0 (fun hb h=>?_) (fun hb h=>?_)|refine S1 fun hb h=>?_|refine S2 fun hb h=>?_|exact S3
  ·rw[←p2,h];rfl
  ·exact bL (i+1) (by omega) rfl rfl ⟨by omega,by rw[←p2,h];rfl⟩
 ·rw[List.drop_of_length_le (by omega)] at p2
  rw[←p2];rfl
theorem nA(xs:List (List UInt8))(hl:xs.length≤1073741824)(hs:∀s∈xs,s.length≤4194304):aG Tryz.prog 169 [.c (.d (.sl (xs.map encS)))] (.c (.d (.b (iA xs)))):=fun S=>by
 have hcl:∀s∈xs,aG Tryz.prog 265 [.c (.d (.s s))] (.c (.d (.b (!validName s)))):=fun s hx S=>by
  have:=hs s hx
  refine aA (rs:=[.tmp 2]) Tryz.checked.mixed Tryz.func265 Tryz.ntmps265 rfl rfl rfl rfl rfl ?_
  first|refine W1 ?_|exact Z1
  refine ah (gJ s (by omega)) ?_
  first|refine W2 ?_|exact Z2
 have ha:(xs.any fun s=> !validName s)= !xs.all validName:=by rw[List.not_all_eq_any_not]
 refine aA (rs:=[.tmp 2]) Tryz.checked.mixed Tryz.func169 Tryz.ntmps169 rfl rfl rfl rfl rfl ?_
 first|refine W1 ?_|exact Z1
 refine ah (nP xs hl) ?_
 first|refine W2 ?_|exact Z2
 first|refine S0 (fun hb h=>?_) (fun hb h=>?_)|refine S1 fun hb h=>?_|refine S2 fun hb h=>?_|exact S3
 ·refine bV rfl (uO 265 [] _ xs (fun s=> !validName s) hl fun s hx=>nu.JG (hcl s hx)) ?_
  first|refine W1 ?_|exact Z1
  rw[ha]
  exact aB (by unfold iA;rw[hb];simp)
 ·exact aB (by unfold iA;rw[hb];rfl)
theorem wV(xs ys:List (List UInt8))(hl:xs.length≤1073741824)(hl':ys.length≤1073741824):aG Tryz.prog 236 [.c (.d (.sl (xs.map encS))),.c (.d (.sl (ys.map encS)))] (.c (.d (.b (among xs ys)))):=fun S=>by
 have ha:(xs.any fun s=> !dec (s∈ys))= !among xs ys:=by unfold among;rw[List.not_all_eq_any_not]
 have hcl:∀(rest:List Ab.Obj) (s:List UInt8),nu Tryz.prog 300 [((0,0),0)] ((.box [.d (.sl (ys.map encS))]::rest)::S) [.c (.d (.s s))] (.c (.d (.b (!dec (s∈ys))))):=fun rest s F=>by
  refine aA (rs:=[.tmp 3]) Tryz.checked.mixed Tryz.func300 Tryz.ntmps300 rfl rfl rfl rfl rfl ?_
  first|refine W1 ?_|exact Z1
  refine ah (sN ys s hl') ?_
  first|refine W2 ?_|exact Z2
 refine aA (rs:=[.tmp 4]) Tryz.checked.mixed Tryz.func236 Tryz.ntmps236 rfl rfl rfl rfl rfl ?_
 first|refine W1 ?_|exact Z1
 refine bV rfl (uO 300 [((0,0),0)] _ xs (fun s=> !dec (s∈ys)) hl fun s hx=>hcl [] s) ?_
 first|refine W1 ?_|exact Z1
 rw[ha]
 exact aB (by simp)
theorem qZ(t:aj)(vars:List (List UInt8))(hsz:t.sz≤4194304)(hv:vars.length≤1073741824):aG Tryz.prog 226 [t.v,.c (.d (.sl (vars.map encS)))] (.c (.d (.b (gu vars t)))):=fun S=>by
 have h1:=xE t []
 have h2:=kJ t
 refine aA (rs:=[.tmp 4]) Tryz.checked.mixed Tryz.func226 Tryz.ntmps226 rfl rfl rfl rfl rfl ?_
 first|refine W1 ?_|exact Z1
 refine ah (uE t hsz) ?_
 first|refine W2 ?_|exact Z2
 first|refine S0 (fun hb h=>?_) (fun hb h=>?_)|refine S1 fun hb h=>?_|refine S2 fun hb h=>?_|exact S3
 ·refine ah (vG t hsz) ?_
  first|refine W2 ?_|exact Z2
  refine ah (wV (iL [] t) vars (by simp at h1;omega) hv) ?_
  first|refine W2 ?_|exact Z2
  exact aB (by unfold gu;rw[hb];rfl)
 ·exact aB (by unfold gu;rw[hb];rfl)
theorem vH(ts:List aj)(vars:List (List UInt8))(hl:ts.length≤1073741824)(hsz:∀t∈ts,t.sz≤4194304)(hv:vars.length≤1073741824):aG Tryz.prog 224 [.c (.d (.sl (ts.map aj.enc))),.c (.d (.sl (vars.map encS)))] (.c (.d (.b (kg vars ts)))):=fun S=>by
 have ha:(ts.any fun t=> !gu vars t)= !kg vars ts:=by unfold kg;rw[List.not_all_eq_any_not]
 have hcl:∀(rest:List Ab.Obj) (t:aj),t.sz≤4194304→nu Tryz.prog 294 [((0,0),0)] ((.box [.d (.sl (vars.map encS))]::rest)::S) [t.v] (.c (.d (.b (!gu vars t)))):=fun rest t ht F=>by
  refine aA (rs:=[.tmp 3]) Tryz.checked.mixed Tryz.func294 Tryz.ntmps294 rfl rfl rfl rfl rfl ?_
  first|refine W1 ?_|exact Z1
  refine ah (qZ t vars ht hv) ?_
  first|refine W2 ?_|exact Z2
 refine aA (rs:=[.tmp 4]) Tryz.checked.mixed Tryz.func224 Tryz.ntmps224 rfl rfl rfl rfl rfl ?_
 first|refine W1 ?_|exact Z1
 refine bV rfl (Cx 294 [((0,0),0)] _ ts (fun t=> !gu vars t) hl fun t hx=>hcl [] t (hsz t hx)) ?_
 first|refine W1 ?_|exact Z1
 rw[ha]
 exact aB (by simp)
theorem kK(xs:List (List UInt8))(most:Int)(hl:xs.length≤1073741824)(hs:∀s∈xs,s.length≤4194304):aG Tryz.prog 153 [.c (.d (.sl (xs.map encS))),.c (.d (.i .i64 most))] (.c (.d (.b (dec ((xs.length:Int)≤most)&&iA xs)))):=fun S=>by
 refine aA (rs:=[.tmp 4]) Tryz.checked.mixed Tryz.func153 Tryz.ntmps153 rfl rfl rfl rfl rfl ?_
 first|refine W1 ?_|exact Z1
 first|refine S0 (fun hb h=>?_) (fun hb h=>?_)|refine S1 fun hb h=>?_|refine S2 fun hb h=>?_|exact S3
 ·have h1:=h
  refine ah (Il xs hl hs) ?_
  first|refine W2 ?_|exact Z2
  first|refine S0 (fun hb h=>?_) (fun hb h=>?_)|refine S1 fun hb h=>?_|refine S2 fun hb h=>?_|exact S3
  ·refine ah (nQ xs hl) ?_
   first|refine W2 ?_|exact Z2
   exact aB (by rw[bJ h1];unfold iA;rw[hb];simp)
  ·exact aB (by rw[bJ h1];unfold iA;rw[hb];simp)
 ·exact aB (by rw[aH h];rfl)
theorem qO(t:aj)(vars:List (List UInt8))(hsz:t.sz≤4194304)(hv:vars.length≤1073741824):aG Tryz.prog 250 [t.v,.c (.d (.sl (vars.map encS)))] (.c (.d (.b (gu vars t)))):=fun S=>by
 have h1:=xE t []
 have h2:=kJ t
 have hlen:(iL [] t).length≤1073741824:=by simp at h1;omega
 refine aA (rs:=[.tmp 4]) Tryz.checked.mixed Tryz.func250 Tryz.ntmps250 rfl rfl rfl rfl rfl ?_
 first|refine W1 ?_|exact Z1
 refine ah (Ie t hsz) ?_
 first|refine W2 ?_|exact Z2
 generalize hxs:iL [] t=xs at hlen
 refine aV (ι:=Nat) Tryz.checked.mixed rfl [1,2,5,6] (fun i=>[.c (.d (.sl (vars.map encS))),.c (.ptr (0,0) 0),.c (.d (.sl (xs.map encS))),.c (.d (.i .i64 i))]) (fun _=>[.box [.d (.i .i64 t.aX),.d (.s t.fName),.d (.sl (t.fArgs.map aj.enc))]]::S)
  (fun i=>i≤xs.length∧among (xs.drop i) vars=among xs vars) (fun i=>xs.length-i) 0 rfl rfl ⟨Nat.zero_le _,rfl⟩ ?_
 rintro i ⟨p1,p2⟩
 simp -implicitDefEqProofs (disch:=omega) only[go_sem,encS]
 with_reducible refine aS (fun hb=> ?_) (fun hb=> ?_)<;>have h:=hb<;>(try simp only[wf_preprocess] at h)<;>simp -implicitDefEqProofs (disch:=omega) only[go_sem,hb,encS]<;>(repeat(with_reducible refine And.intro ?_ ?_;focus first|omega|rfl|assumption|exact⟨_,rfl,rfl⟩|(simp;omega)|(simp;done)))
 ·have hi:i<xs.length:=by omega
  rw[List.drop_eq_getElem_cons hi] at p2
  have p3:among xs vars=(dec (xs[i]∈vars)&&among (xs.drop (i+1)) vars):=p2.symm
  refine W3 ?_
  refine ah (qN vars xs[i] hv) ?_
  first|refine W2 ?_|exact Z2
  first|refine S0 (fun hb h=>?_) (fun hb h=>?_)|refine S1 fun hb h=>?_|refine S2 fun hb h=>?_|exact S3
  ·exact aB (by unfold gu;rw[hxs,p3,aH h];simp)
  ·exact bL (i+1) (by omega) rfl rfl ⟨by omega,by rw[p3,bJ h];rfl⟩
 ·rw[List.drop_of_length_le (by omega)] at p2
  have p3:among xs vars=true:=p2.symm
  refine W3 ?_
  refine ah (uF t hsz) ?_
  first|refine W2 ?_|exact Z2
  exact aB (by unfold gu;rw[hxs,p3];simp)
theorem KZ(ts:List aj)(vars:List (List UInt8))(hl:ts.length≤1073741824)(hsz:∀t∈ts,t.sz≤4194304)(hv:vars.length≤1073741824):aG Tryz.prog 249 [.c (.d (.sl (ts.map aj.enc))),.c (.d (.sl (vars.map encS)))] (.c (.d (.b (kg vars ts)))):=fun S=>by
 refine aA (rs:=[.tmp 4]) Tryz.checked.mixed Tryz.func249 Tryz.ntmps249 rfl rfl rfl rfl rfl ?_
 first|refine W1 ?_|exact Z1
 refine aV (ι:=Nat) Tryz.checked.mixed rfl [0,1,5] (fun i=>[.c (.d (.sl (ts.map aj.enc))),.c (.d (.sl (vars.map encS))),.c (.d (.i .i64 i))]) (fun _=>[]::S)
  (fun i=>i≤ts.length∧kg vars (ts.drop i)=kg vars ts) (fun i=>ts.length-i) 0 rfl rfl ⟨Nat.zero_le _,rfl⟩ ?_
 rintro i ⟨p1,p2⟩
 first|refine W1 ?_|exact Z1
 with_reducible refine aS (fun hb=> ?_) (fun hb=> ?_)<;>have h:=hb<;>(try simp only[wf_preprocess] at h)<;>simp -implicitDefEqProofs (disch:=omega) only[go_sem,hb]<;>(repeat(with_reducible refine And.intro ?_ ?_;focus first|omega|rfl|assumption|exact⟨_,rfl,rfl⟩|(simp;omega)|(simp;done)))
 ·have hi:i<ts.length:=by omega
  rw[List.drop_eq_getElem_cons hi] at p2
  have p3:kg vars ts=(gu vars ts[i]&&kg vars (ts.drop (i+1))):=p2.symm
  refine W3 ?_
  refine ah (qO ts[i] vars (hsz _ (List.getElem_mem hi)) hv) ?_
  first|refine W2 ?_|exact Z2
  first|refine S0 (fun hb h=>?_) (fun hb h=>?_)|refine S1 fun hb h=>?_|refine S2 fun hb h=>?_|exact S3
  ·rw[p3,h];rfl
  ·exact bL (i+1) (by omega) rfl rfl ⟨by omega,by rw[p3,h];rfl⟩
 ·rw[List.drop_of_length_le (by omega)] at p2
  rw[←p2];rfl
end Go.Proofs.YtlmhknhlmicmeaaGreatDoor
namespace Go.Ab
def ops:List (List UInt8):=[[43],[45],[42],[60],[61]]
def vI(t:aj):Prop:=t.aX=0∧t.fName=[]∧t.fArgs.length=0
def rG(e:au):Prop:=
 (1≤e.aX∧e.aX≤12)∧
 (if e.aX=5∨e.aX=11 then validName e.bR=true else e.bR=[])∧
 (if e.aX=3∨e.aX=4∨e.aX=5∨e.aX=6∨e.aX=8 then validName e.fName=true else if e.aX=10 then e.fName∈ops else e.fName=[])∧
 (if e.aX=1 then -999999≤e.fN∧e.fN≤999999 else if e.aX=2 then e.fN=0∨e.fN=1 else e.fN=0)∧
 (if e.aX=12 then mF e.fType=true else vI e.fType)∧
 (if e.aX=4∨e.aX=6 then True else if e.aX=5 then 1≤e.fArgs.length else if e.aX=7∨e.aX=11∨e.aX=12 then e.fArgs.length=1 else if e.aX=8∨e.aX=10 then e.fArgs.length=2 else if e.aX=9 then e.fArgs.length=3 else e.fArgs.length=0)∧
 (e.aX=7↔0<e.aZ.length)
mutual
noncomputable def iE:au→Bool
 | .mk k t n m ty a b=>dec (rG (.mk k t n m ty a b))&&(mq a&&oO b)
noncomputable def mq:List au→Bool
 |[]=>true
 |x::xs=>iE x&&mq xs
noncomputable def vJ:aW→Bool
 | .mk c v b=>validName c&&(iA v&&iE b)
noncomputable def oO:List aW→Bool
 |[]=>true
 |x::xs=>vJ x&&oO xs
end
theorem uP(x:au):iE x=(dec (rG x)&&(mq x.fArgs&&oO x.aZ)):=by cases x;rw[iE];rfl
theorem pV(x:aW):vJ x=(validName x.dK&&(iA x.aF&&iE x.fBody)):=by cases x;rw[vJ];rfl
theorem Ox{xs:List au}{i:Nat}(hi:i<xs.length):mq (xs.drop i)=(iE xs[i]&&mq (xs.drop (i+1))):=by rw[List.drop_eq_getElem_cons hi,mq]
theorem Qr{xs:List aW}{i:Nat}(hi:i<xs.length):oO (xs.drop i)=(vJ xs[i]&&oO (xs.drop (i+1))):=by rw[List.drop_eq_getElem_cons hi,oO]
theorem EY:∀{xs:List au},(xs.any fun t=> !iE t)= !mq xs
 |[]=>rfl
 |t::ts=>by rw[List.any_cons,EY (xs:=ts),mq];simp
theorem Im:∀{xs:List aW},(xs.any fun t=> !vJ t)= !oO xs
 |[]=>rfl
 |t::ts=>by rw[List.any_cons,Im (xs:=ts),oO];simp
noncomputable def pI(e:au):Bool:=dec (e.cnt≤300)&&iE e
def nL(l:Int)(c:Nat):Int:=if l<0 then -1 else if c≤l then l-c else -1
theorem BI{l:Int}{a b:Nat}:nL (nL l a) b=nL l (a+b):=by unfold nL;split<;>split<;>(try split)<;>(try split)<;>omega
theorem FL{l:Int}{a:Nat}(h:l<0):nL l a= -1:=if_pos h
theorem Dk{l:Int}(h: -1≤l):nL l 0=l:=by unfold nL;split<;>(try split)<;>omega
theorem JL{l:Int}{c:Nat}(h:0≤l): -1≤nL l c∧nL l c≤l:=by unfold nL;split<;>(try split)<;>omega
theorem Yz{l:Int}{c:Nat}(h:0≤l):decide (nL l c≥0)=decide ((c:Int)≤l):=by unfold nL;rw[if_neg (by omega)];split<;>simp<;>omega
theorem LV:validName []=false:=aH fun h=>by have:=h.1.1;simp at this
theorem ab4{s:List UInt8}(h:s∈ops):s.length=1:=by simp[ops] at h;rcases h with h|h|h|h|h<;>rw[h]<;>rfl
theorem Oy{s:List UInt8}(h:s∈ops):validName s=false:=aH fun x=>by
 have h1:=x.2.2 0 (by have:=x.1.1;omega)
 simp[ops] at h;rcases h with h|h|h|h|h<;>rw[h] at h1<;>simp[lowerB,qm] at h1
theorem Io{t:aj}(h:vI t):mF t=false:=aH fun x=>by
 have h1:=x.1
 rw[uN,Bool.and_eq_true] at h1
 have h2:=ji h1.1
 rw[h.1] at h2
 omega
end Go.Ab
namespace Go.Ab
structure Hold (p:Prop):Prop where
 out:p
theorem pW{P:Program}{N:Nat}{c:Code}{Q:Exit→St→Prop}{tm:List (Nat×V)}{st st':Store}(ts:List Nat)(vs:List V)(hv:ts.map (look tm)=vs)(hs:st=st')
 (h:AW P N c Q ⟨gy ts vs,st'⟩):AW P N c Q ⟨tm,st⟩:=by
 subst hs
 refine pR h ?_
 rw[←hv]
 exact FB fun t=>y5 _ ts t
end Go.Ab
namespace Go.Ab
def TA:List UInt8:=[116,114,117,101]
def Oz:List UInt8:=[102,97,108,115,101]
def zK:List UInt8:=[99,97,108,108]
def uQ:List UInt8:=[109,101,116,104,111,100]
def Dl:List UInt8:=[110,101,119]
def qP:List UInt8:=[99,97,115,101]
def Dm:List UInt8:=[108,101,116]
def K3:List UInt8:=[105,102]
def zL:List UInt8:=[112,97,99,107]
def FM:List UInt8:=[116,104,101]
def jS(k:Int)(tr nm:List UInt8)(ty:aj):List ak:=
 if k=4 then bf [zK,nm] else if k=5 then bf [uQ,tr,nm] else if k=6 then bf [Dl,nm] else if k=8 then bf [Dm,nm] else
 if k=9 then bf [K3] else if k=10 then bf [nm] else if k=11 then bf [zL,tr] else if k=12 then [cu FM,dA ty] else bf [qP]
mutual
def fH:au→ak
 | .mk k tr nm n ty zs ms=>if k=1 then cu (Lib.itoa n) else if k=2 then cu (if n=1 then TA else Oz) else if k=3 then cu nm else
   cO (jS k tr nm ty++FN zs++(if k=4∨k=5∨k=6∨k=8∨k=9∨k=10∨k=11∨k=12 then [] else FP ms))
def FN:List au→List ak
 |[]=>[]
 |t::ts=>fH t::FN ts
def xU:aW→ak
 | .mk c vs b=>cO ([cu c]++bf vs++[fH b])
def FP:List aW→List ak
 |[]=>[]
 |t::ts=>xU t::FP ts
end
theorem BJ:∀l,FN l=l.map fH
 |[]=>rfl
 |t::ts=>by rw[FN,List.map_cons,BJ ts]
theorem BK:∀l,FP l=l.map xU
 |[]=>rfl
 |t::ts=>by rw[FP,List.map_cons,BK ts]
theorem Dn(x:au):fH x=if x.aX=1 then cu (Lib.itoa x.fN) else if x.aX=2 then cu (if x.fN=1 then TA else Oz) else if x.aX=3 then cu x.fName else
 cO (jS x.aX x.bR x.fName x.fType++x.fArgs.map fH++(if x.aX=4∨x.aX=5∨x.aX=6∨x.aX=8∨x.aX=9∨x.aX=10∨x.aX=11∨x.aX=12 then [] else x.aZ.map xU)):=by
 cases x;rw[fH,BJ,BK];rfl
theorem Wd(x:aW):xU x=cO ([cu x.dK]++bf x.aF++[fH x.fBody]):=by cases x;rw[xU];rfl
def OA:List au→Nat
 |[]=>0
 |x::xs=>x.sz+OA xs
theorem FQ:∀l,aI (l.map au.enc)=OA l
 |[]=>rfl
 |x::xs=>by rw[List.map_cons,aI,OA,FQ xs];rfl
def OB:List aW→Nat
 |[]=>0
 |x::xs=>x.sz+OB xs
theorem FR:∀l,aI (l.map aW.enc)=OB l
 |[]=>rfl
 |x::xs=>by rw[List.map_cons,aI,OB,FR xs];rfl
theorem FT(x:au):x.sz=x.bR.length+x.fName.length+x.fType.sz+(x.fArgs.length+OA x.fArgs)+(x.aZ.length+OB x.aZ):=by
 rw[←FQ,←FR];simp only[au.sz,au.aC,bP,bA,D.sz,List.length_map,aj.dw];omega
theorem Dp(x:aW):x.sz=x.dK.length+(x.aF.length+(x.aF.map List.length).sum)+x.fBody.sz:=by
 rw[←dM];simp only[aW.sz,aW.aC,bP,bA,D.sz,List.length_map,au.dw];omega
theorem El:∀(k n:Nat),n<10^ (k+1)→(Lib.decDigits n).length≤k+1
 |0,n,h=>by rw[Lib.decDigits,dif_pos (by simpa using h)];simp
 |k+1,n,h=>by
  rw[Lib.decDigits]
  split
  ·simp
  ·rw[List.length_append]
   have:=El k (n/10) (by rw[Nat.pow_succ] at h;omega)
   simp;omega
theorem YA{n:Int}(h: -999999≤n∧n≤999999):(Lib.itoa n).length≤7:=by
 unfold Lib.itoa
 split
 ·have:=El 5 n.natAbs (by omega)
  simp;omega
 ·have:=El 5 n.toNat (by omega)
  omega
theorem Wh(k:Int)(tr nm:List UInt8)(ty:aj):(jS k tr nm ty).length≤3∧gq (jS k tr nm ty)≤18+tr.length+nm.length+16*ty.sz:=by
 have h:=xC ty
 unfold jS
 repeat' (first|(split;·refine⟨by simp[bf],?_⟩;simp[gq,bf,jo,zK,uQ,Dl,Dm,K3,zL,FM,qP];omega))
 refine⟨by simp[bf],?_⟩;simp[gq,bf,jo,qP];omega
mutual
theorem Dq:∀x:au,iE x=true→(fH x).sz≤24+32*x.sz
 | .mk k tr nm n ty zs ms=>fun hok=>by
   rw[iE,Bool.and_eq_true,Bool.and_eq_true] at hok
   have hf:=ji hok.1
   have h1:=Rt zs hok.2.1
   have h2:=Ru ms hok.2.2
   have h3:=Wh k tr nm ty
   rw[FT]
   simp only[au.fName,au.fArgs,au.bR,au.fType,au.aZ]
   rw[fH]
   split
   ·rename_i hk
    have h4:=hf.2.2.2.1
    simp only[au.aX,au.fN,hk,if_true] at h4
    have:=YA h4
    rw[jo];omega
   ·split
    ·rw[jo];split<;>simp[TA,Oz]<;>omega
    ·split
     ·rw[jo];omega
     ·rw[iY,gZ,gZ,List.length_append,List.length_append,BJ,List.length_map,←BJ]
      split
      ·simp[gq];omega
      ·rw[BK,List.length_map,←BK];omega
theorem Rt:∀xs:List au,mq xs=true→gq (FN xs)≤24*xs.length+32*OA xs
 |[],_=>by simp[FN,gq]
 |x::xs,h=>by
  rw[mq,Bool.and_eq_true] at h
  have h1:=Dq x h.1
  have h2:=Rt xs h.2
  rw[FN,gq,OA,List.length_cons];omega
theorem ab5:∀x:aW,vJ x=true→(xU x).sz≤26+32*x.sz
 | .mk c vs b=>fun hok=>by
   rw[vJ,Bool.and_eq_true,Bool.and_eq_true] at hok
   have h1:=Dq b hok.2.2
   rw[Dp]
   simp only[aW.dK,aW.aF,aW.fBody]
   rw[xU,iY,gZ,gZ,List.length_append,List.length_append,iR,oD]
   simp[gq,jo];omega
theorem Ru:∀xs:List aW,oO xs=true→gq (FP xs)≤26*xs.length+32*OB xs
 |[],_=>by simp[FP,gq]
 |x::xs,h=>by
  rw[oO,Bool.and_eq_true] at h
  have h1:=ab5 x h.1
  have h2:=Ru xs h.2
  rw[FP,gq,OB,List.length_cons];omega
end
end Go.Ab
