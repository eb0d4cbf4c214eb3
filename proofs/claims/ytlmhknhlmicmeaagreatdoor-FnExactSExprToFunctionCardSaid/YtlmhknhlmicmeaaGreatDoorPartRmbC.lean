/-
  SEVERAL TEXTS IN ONE (merged by program): contracts and models, each with its own heading.
-/
import Derived.Test.YtlmhknhlmicmeaaGreatDoorPartRmbB
import Derived.Test.YtlmhknhlmicmeaaGreatDoorChecked
import Derived.Eval
import Derived.KernelRfl
set_option linter.unusedSimpArgs false
set_option linter.unusedVariables false
set_option maxRecDepth 4000
namespace Go.Ab
def encS(s:List UInt8):List D:=[.s s]
def encI(n:Int):List D:=[.i .i64 n]
inductive aj where
 |mk (aG:Int) (fName:List UInt8) (fArgs:List aj)
def aj.aG:aj→Int| .mk x _ _=>x
def aj.fName:aj→List UInt8| .mk _ x _=>x
def aj.fArgs:aj→List aj| .mk _ _ x=>x
theorem aj.eta(x:aj):aj.mk x.aG x.fName x.fArgs=x:=by cases x;rfl
theorem aj.ext{x y:aj}(h0:x.aG=y.aG)(h1:x.fName=y.fName)(h2:x.fArgs=y.fArgs):x=y:=by
 rw[←aj.eta x,←aj.eta y,h0,h1,h2]
mutual
def aj.enc:aj→List D
 | .mk a0 a1 a2=>[.i .i64 a0,.s a1,.sl (aj.encs a2)]
def aj.encs:List aj→List (List D)
 |[]=>[]
 |x::xs=>x.enc::aj.encs xs
end
theorem aj.gW:∀l,aj.encs l=l.map aj.enc
 |[]=>rfl
 |x::xs=>by rw[aj.encs,List.map_cons,aj.gW xs]
theorem aj.aD(x:aj):x.enc=[.i .i64 x.aG,.s x.fName,.sl (x.fArgs.map aj.enc)]:=by
 cases x;simp only[aj.enc,aj.gW,aj.aG,aj.fName,aj.fArgs]
abbrev aj.v (x:aj):V:=.agg [.d (.i .i64 x.aG),.d (.s x.fName),.d (.sl (x.fArgs.map aj.enc))]
theorem aj.pz(x:aj): .agg (x.enc.map .d)=x.v:=by
 simp only[aj.aD,List.map_cons,List.map_nil,List.cons_append,List.nil_append,List.map_append]
theorem aj.bC(x:aj):x.enc.length=3:=by
 simp only[aj.aD,List.length_append,List.length_cons,List.length_nil]
def aj.sz(x:aj):Nat:=bM x.enc
theorem aj.dB(x:aj):bM x.enc=x.sz:=rfl
theorem aj.fA(x:aj):SizeOf.sizeOf x.fArgs<SizeOf.sizeOf x:=by cases x;simp[aj.fArgs];omega
structure cK where
 fVar:List UInt8
 fType:aj
def cK.enc(x:cK):List D:=[.s x.fVar]++(x.fType.enc)
theorem cK.aD(x:cK):x.enc=[.s x.fVar]++(x.fType.enc):=rfl
theorem cK.eta(x:cK):cK.mk x.fVar x.fType=x:=rfl
theorem cK.ext'{x y:cK}(h0:x.fVar=y.fVar)(h1:x.fType=y.fType):x=y:=by
 cases x;cases y;simp_all
abbrev cK.v (x:cK):V:=.agg [.d (.s x.fVar),.d (.i .i64 x.fType.aG),.d (.s x.fType.fName),.d (.sl (x.fType.fArgs.map aj.enc))]
theorem cK.pz(x:cK): .agg (x.enc.map .d)=x.v:=by
 simp only[cK.aD,aj.aD,List.map_cons,List.map_nil,List.cons_append,List.nil_append,List.map_append]
theorem cK.bC(x:cK):x.enc.length=4:=by
 simp only[cK.aD,aj.bC,List.length_append,List.length_cons,List.length_nil]
def cK.sz(x:cK):Nat:=bM x.enc
theorem cK.dB(x:cK):bM x.enc=x.sz:=rfl
structure aN where
 aY:List UInt8
 fType:aj
def aN.enc(x:aN):List D:=[.s x.aY]++(x.fType.enc)
theorem aN.aD(x:aN):x.enc=[.s x.aY]++(x.fType.enc):=rfl
theorem aN.eta(x:aN):aN.mk x.aY x.fType=x:=rfl
theorem aN.ext'{x y:aN}(h0:x.aY=y.aY)(h1:x.fType=y.fType):x=y:=by
 cases x;cases y;simp_all
abbrev aN.v (x:aN):V:=.agg [.d (.s x.aY),.d (.i .i64 x.fType.aG),.d (.s x.fType.fName),.d (.sl (x.fType.fArgs.map aj.enc))]
theorem aN.pz(x:aN): .agg (x.enc.map .d)=x.v:=by
 simp only[aN.aD,aj.aD,List.map_cons,List.map_nil,List.cons_append,List.nil_append,List.map_append]
theorem aN.bC(x:aN):x.enc.length=4:=by
 simp only[aN.aD,aj.bC,List.length_append,List.length_cons,List.length_nil]
def aN.sz(x:aN):Nat:=bM x.enc
theorem aN.dB(x:aN):bM x.enc=x.sz:=rfl
mutual
inductive au where
 |mk (aG:Int) (aY:List UInt8) (fName:List UInt8) (fN:Int) (fType:aj) (fArgs:List au) (aI:List aF)
inductive aF where
 |mk (bL:List UInt8) (aK:List (List UInt8)) (fBody:au)
end
def au.aG:au→Int| .mk x _ _ _ _ _ _=>x
def au.aY:au→List UInt8| .mk _ x _ _ _ _ _=>x
def au.fName:au→List UInt8| .mk _ _ x _ _ _ _=>x
def au.fN:au→Int| .mk _ _ _ x _ _ _=>x
def au.fType:au→aj| .mk _ _ _ _ x _ _=>x
def au.fArgs:au→List au| .mk _ _ _ _ _ x _=>x
def au.aI:au→List aF| .mk _ _ _ _ _ _ x=>x
theorem au.eta(x:au):au.mk x.aG x.aY x.fName x.fN x.fType x.fArgs x.aI=x:=by cases x;rfl
theorem au.ext{x y:au}(h0:x.aG=y.aG)(h1:x.aY=y.aY)(h2:x.fName=y.fName)(h3:x.fN=y.fN)(h4:x.fType=y.fType)(h5:x.fArgs=y.fArgs)(h6:x.aI=y.aI):x=y:=by
 rw[←au.eta x,←au.eta y,h0,h1,h2,h3,h4,h5,h6]
def aF.bL:aF→List UInt8| .mk x _ _=>x
def aF.aK:aF→List (List UInt8)| .mk _ x _=>x
def aF.fBody:aF→au| .mk _ _ x=>x
theorem aF.eta(x:aF):aF.mk x.bL x.aK x.fBody=x:=by cases x;rfl
theorem aF.ext{x y:aF}(h0:x.bL=y.bL)(h1:x.aK=y.aK)(h2:x.fBody=y.fBody):x=y:=by
 rw[←aF.eta x,←aF.eta y,h0,h1,h2]
mutual
def au.enc:au→List D
 | .mk a0 a1 a2 a3 a4 a5 a6=>[.i .i64 a0,.s a1,.s a2,.i .i64 a3]++(a4.enc++([.sl (au.encs a5),.sl (aF.encs a6)]))
def au.encs:List au→List (List D)
 |[]=>[]
 |x::xs=>x.enc::au.encs xs
def aF.enc:aF→List D
 | .mk a0 a1 a2=>[.s a0,.sl (a1.map encS)]++(au.enc a2)
def aF.encs:List aF→List (List D)
 |[]=>[]
 |x::xs=>x.enc::aF.encs xs
end
theorem au.gW:∀l,au.encs l=l.map au.enc
 |[]=>rfl
 |x::xs=>by rw[au.encs,List.map_cons,au.gW xs]
theorem aF.gW:∀l,aF.encs l=l.map aF.enc
 |[]=>rfl
 |x::xs=>by rw[aF.encs,List.map_cons,aF.gW xs]
theorem au.aD(x:au):x.enc=[.i .i64 x.aG,.s x.aY,.s x.fName,.i .i64 x.fN]++(x.fType.enc++([.sl (x.fArgs.map au.enc),.sl (x.aI.map aF.enc)])):=by
 cases x;simp only[au.enc,au.gW,aF.gW,au.aG,au.aY,au.fName,au.fN,au.fType,au.fArgs,au.aI]
theorem aF.aD(x:aF):x.enc=[.s x.bL,.sl (x.aK.map encS)]++(x.fBody.enc):=by
 cases x;simp only[aF.enc,au.gW,aF.gW,aF.bL,aF.aK,aF.fBody]
abbrev au.v (x:au):V:=.agg [.d (.i .i64 x.aG),.d (.s x.aY),.d (.s x.fName),.d (.i .i64 x.fN),.d (.i .i64 x.fType.aG),.d (.s x.fType.fName),.d (.sl (x.fType.fArgs.map aj.enc)),.d (.sl (x.fArgs.map au.enc)),.d (.sl (x.aI.map aF.enc))]
theorem au.pz(x:au): .agg (x.enc.map .d)=x.v:=by
 simp only[au.aD,aj.aD,List.map_cons,List.map_nil,List.cons_append,List.nil_append,List.map_append]
theorem au.bC(x:au):x.enc.length=9:=by
 simp only[au.aD,aj.bC,List.length_append,List.length_cons,List.length_nil]
def au.sz(x:au):Nat:=bM x.enc
theorem au.dB(x:au):bM x.enc=x.sz:=rfl
theorem au.fA(x:au):SizeOf.sizeOf x.fArgs<SizeOf.sizeOf x:=by cases x;simp[au.fArgs];omega
theorem au.lN(x:au):SizeOf.sizeOf x.aI<SizeOf.sizeOf x:=by cases x;simp[au.aI];omega
abbrev aF.v (x:aF):V:=.agg [.d (.s x.bL),.d (.sl (x.aK.map encS)),.d (.i .i64 x.fBody.aG),.d (.s x.fBody.aY),.d (.s x.fBody.fName),.d (.i .i64 x.fBody.fN),.d (.i .i64 x.fBody.fType.aG),.d (.s x.fBody.fType.fName),.d (.sl (x.fBody.fType.fArgs.map aj.enc)),.d (.sl (x.fBody.fArgs.map au.enc)),.d (.sl (x.fBody.aI.map aF.enc))]
theorem aF.pz(x:aF): .agg (x.enc.map .d)=x.v:=by
 simp only[aF.aD,au.aD,aj.aD,List.map_cons,List.map_nil,List.cons_append,List.nil_append,List.map_append]
theorem aF.bC(x:aF):x.enc.length=11:=by
 simp only[aF.aD,au.bC,List.length_append,List.length_cons,List.length_nil]
def aF.sz(x:aF):Nat:=bM x.enc
theorem aF.dB(x:aF):bM x.enc=x.sz:=rfl
theorem aF.kS(x:aF):SizeOf.sizeOf x.fBody<SizeOf.sizeOf x:=by cases x;simp[aF.fBody];omega
inductive ah where
 |mk (aT:List UInt8) (ak:List ah)
def ah.aT:ah→List UInt8| .mk x _=>x
def ah.ak:ah→List ah| .mk _ x=>x
theorem ah.eta(x:ah):ah.mk x.aT x.ak=x:=by cases x;rfl
theorem ah.ext{x y:ah}(h0:x.aT=y.aT)(h1:x.ak=y.ak):x=y:=by
 rw[←ah.eta x,←ah.eta y,h0,h1]
mutual
def ah.enc:ah→List D
 | .mk a0 a1=>[.s a0,.sl (ah.encs a1)]
def ah.encs:List ah→List (List D)
 |[]=>[]
 |x::xs=>x.enc::ah.encs xs
end
theorem ah.gW:∀l,ah.encs l=l.map ah.enc
 |[]=>rfl
 |x::xs=>by rw[ah.encs,List.map_cons,ah.gW xs]
theorem ah.aD(x:ah):x.enc=[.s x.aT,.sl (x.ak.map ah.enc)]:=by
 cases x;simp only[ah.enc,ah.gW,ah.aT,ah.ak]
abbrev ah.v (x:ah):V:=.agg [.d (.s x.aT),.d (.sl (x.ak.map ah.enc))]
theorem ah.pz(x:ah): .agg (x.enc.map .d)=x.v:=by
 simp only[ah.aD,List.map_cons,List.map_nil,List.cons_append,List.nil_append,List.map_append]
theorem ah.bC(x:ah):x.enc.length=2:=by
 simp only[ah.aD,List.length_append,List.length_cons,List.length_nil]
def ah.sz(x:ah):Nat:=bM x.enc
theorem ah.dB(x:ah):bM x.enc=x.sz:=rfl
theorem ah.jU(x:ah):SizeOf.sizeOf x.ak<SizeOf.sizeOf x:=by cases x;simp[ah.ak];omega
structure bP where
 fName:List UInt8
 aS:List aj
 bq:aj
 oN:Bool
 aK:List (List UInt8)
 fBody:au
def bP.enc(x:bP):List D:=[.s x.fName,.sl (x.aS.map aj.enc)]++(x.bq.enc++([.b x.oN,.sl (x.aK.map encS)]++(x.fBody.enc)))
theorem bP.aD(x:bP):x.enc=[.s x.fName,.sl (x.aS.map aj.enc)]++(x.bq.enc++([.b x.oN,.sl (x.aK.map encS)]++(x.fBody.enc))):=rfl
theorem bP.eta(x:bP):bP.mk x.fName x.aS x.bq x.oN x.aK x.fBody=x:=rfl
theorem bP.ext'{x y:bP}(h0:x.fName=y.fName)(h1:x.aS=y.aS)(h2:x.bq=y.bq)(h3:x.oN=y.oN)(h4:x.aK=y.aK)(h5:x.fBody=y.fBody):x=y:=by
 cases x;cases y;simp_all
abbrev bP.v (x:bP):V:=.agg [.d (.s x.fName),.d (.sl (x.aS.map aj.enc)),.d (.i .i64 x.bq.aG),.d (.s x.bq.fName),.d (.sl (x.bq.fArgs.map aj.enc)),.d (.b x.oN),.d (.sl (x.aK.map encS)),.d (.i .i64 x.fBody.aG),.d (.s x.fBody.aY),.d (.s x.fBody.fName),.d (.i .i64 x.fBody.fN),.d (.i .i64 x.fBody.fType.aG),.d (.s x.fBody.fType.fName),.d (.sl (x.fBody.fType.fArgs.map aj.enc)),.d (.sl (x.fBody.fArgs.map au.enc)),.d (.sl (x.fBody.aI.map aF.enc))]
theorem bP.pz(x:bP): .agg (x.enc.map .d)=x.v:=by
 simp only[bP.aD,au.aD,aj.aD,List.map_cons,List.map_nil,List.cons_append,List.nil_append,List.map_append]
theorem bP.bC(x:bP):x.enc.length=16:=by
 simp only[bP.aD,au.bC,aj.bC,List.length_append,List.length_cons,List.length_nil]
def bP.sz(x:bP):Nat:=bM x.enc
theorem bP.dB(x:bP):bM x.enc=x.sz:=rfl
structure eU where
 fName:List UInt8
 kG:List (List UInt8)
 CY:Bool
 kH:Bool
 lI:List bP
def eU.enc(x:eU):List D:=[.s x.fName,.sl (x.kG.map encS),.b x.CY,.b x.kH,.sl (x.lI.map bP.enc)]
theorem eU.aD(x:eU):x.enc=[.s x.fName,.sl (x.kG.map encS),.b x.CY,.b x.kH,.sl (x.lI.map bP.enc)]:=rfl
theorem eU.eta(x:eU):eU.mk x.fName x.kG x.CY x.kH x.lI=x:=rfl
theorem eU.ext'{x y:eU}(h0:x.fName=y.fName)(h1:x.kG=y.kG)(h2:x.CY=y.CY)(h3:x.kH=y.kH)(h4:x.lI=y.lI):x=y:=by
 cases x;cases y;simp_all
abbrev eU.v (x:eU):V:=.agg [.d (.s x.fName),.d (.sl (x.kG.map encS)),.d (.b x.CY),.d (.b x.kH),.d (.sl (x.lI.map bP.enc))]
theorem eU.pz(x:eU): .agg (x.enc.map .d)=x.v:=by
 simp only[eU.aD,List.map_cons,List.map_nil,List.cons_append,List.nil_append,List.map_append]
theorem eU.bC(x:eU):x.enc.length=5:=by
 simp only[eU.aD,List.length_append,List.length_cons,List.length_nil]
def eU.sz(x:eU):Nat:=bM x.enc
theorem eU.dB(x:eU):bM x.enc=x.sz:=rfl
structure bI where
 fName:List UInt8
 nH:List aj
def bI.enc(x:bI):List D:=[.s x.fName,.sl (x.nH.map aj.enc)]
theorem bI.aD(x:bI):x.enc=[.s x.fName,.sl (x.nH.map aj.enc)]:=rfl
theorem bI.eta(x:bI):bI.mk x.fName x.nH=x:=rfl
theorem bI.ext'{x y:bI}(h0:x.fName=y.fName)(h1:x.nH=y.nH):x=y:=by
 cases x;cases y;simp_all
abbrev bI.v (x:bI):V:=.agg [.d (.s x.fName),.d (.sl (x.nH.map aj.enc))]
theorem bI.pz(x:bI): .agg (x.enc.map .d)=x.v:=by
 simp only[bI.aD,List.map_cons,List.map_nil,List.cons_append,List.nil_append,List.map_append]
theorem bI.bC(x:bI):x.enc.length=2:=by
 simp only[bI.aD,List.length_append,List.length_cons,List.length_nil]
def bI.sz(x:bI):Nat:=bM x.enc
theorem bI.dB(x:bI):bM x.enc=x.sz:=rfl
structure bX where
 fName:List UInt8
 aK:List (List UInt8)
 iT:List bI
def bX.enc(x:bX):List D:=[.s x.fName,.sl (x.aK.map encS),.sl (x.iT.map bI.enc)]
theorem bX.aD(x:bX):x.enc=[.s x.fName,.sl (x.aK.map encS),.sl (x.iT.map bI.enc)]:=rfl
theorem bX.eta(x:bX):bX.mk x.fName x.aK x.iT=x:=rfl
theorem bX.ext'{x y:bX}(h0:x.fName=y.fName)(h1:x.aK=y.aK)(h2:x.iT=y.iT):x=y:=by
 cases x;cases y;simp_all
abbrev bX.v (x:bX):V:=.agg [.d (.s x.fName),.d (.sl (x.aK.map encS)),.d (.sl (x.iT.map bI.enc))]
theorem bX.pz(x:bX): .agg (x.enc.map .d)=x.v:=by
 simp only[bX.aD,List.map_cons,List.map_nil,List.cons_append,List.nil_append,List.map_append]
theorem bX.bC(x:bX):x.enc.length=3:=by
 simp only[bX.aD,List.length_append,List.length_cons,List.length_nil]
def bX.sz(x:bX):Nat:=bM x.enc
theorem bX.dB(x:bX):bM x.enc=x.sz:=rfl
structure dQ where
 fName:List UInt8
 aK:List (List UInt8)
 fBody:au
def dQ.enc(x:dQ):List D:=[.s x.fName,.sl (x.aK.map encS)]++(x.fBody.enc)
theorem dQ.aD(x:dQ):x.enc=[.s x.fName,.sl (x.aK.map encS)]++(x.fBody.enc):=rfl
theorem dQ.eta(x:dQ):dQ.mk x.fName x.aK x.fBody=x:=rfl
theorem dQ.ext'{x y:dQ}(h0:x.fName=y.fName)(h1:x.aK=y.aK)(h2:x.fBody=y.fBody):x=y:=by
 cases x;cases y;simp_all
abbrev dQ.v (x:dQ):V:=.agg [.d (.s x.fName),.d (.sl (x.aK.map encS)),.d (.i .i64 x.fBody.aG),.d (.s x.fBody.aY),.d (.s x.fBody.fName),.d (.i .i64 x.fBody.fN),.d (.i .i64 x.fBody.fType.aG),.d (.s x.fBody.fType.fName),.d (.sl (x.fBody.fType.fArgs.map aj.enc)),.d (.sl (x.fBody.fArgs.map au.enc)),.d (.sl (x.fBody.aI.map aF.enc))]
theorem dQ.pz(x:dQ): .agg (x.enc.map .d)=x.v:=by
 simp only[dQ.aD,au.aD,aj.aD,List.map_cons,List.map_nil,List.cons_append,List.nil_append,List.map_append]
theorem dQ.bC(x:dQ):x.enc.length=11:=by
 simp only[dQ.aD,au.bC,List.length_append,List.length_cons,List.length_nil]
def dQ.sz(x:dQ):Nat:=bM x.enc
theorem dQ.dB(x:dQ):bM x.enc=x.sz:=rfl
structure dh where
 aY:List UInt8
 aK:List (List UInt8)
 uN:aj
 bO:List aN
 um:Bool
 rW:Bool
 kH:aj
 p8:List dQ
def dh.enc(x:dh):List D:=[.s x.aY,.sl (x.aK.map encS)]++(x.uN.enc++([.sl (x.bO.map aN.enc),.b x.um,.b x.rW]++(x.kH.enc++([.sl (x.p8.map dQ.enc)]))))
theorem dh.aD(x:dh):x.enc=[.s x.aY,.sl (x.aK.map encS)]++(x.uN.enc++([.sl (x.bO.map aN.enc),.b x.um,.b x.rW]++(x.kH.enc++([.sl (x.p8.map dQ.enc)])))):=rfl
theorem dh.eta(x:dh):dh.mk x.aY x.aK x.uN x.bO x.um x.rW x.kH x.p8=x:=rfl
theorem dh.ext'{x y:dh}(h0:x.aY=y.aY)(h1:x.aK=y.aK)(h2:x.uN=y.uN)(h3:x.bO=y.bO)(h4:x.um=y.um)(h5:x.rW=y.rW)(h6:x.kH=y.kH)(h7:x.p8=y.p8):x=y:=by
 cases x;cases y;simp_all
abbrev dh.v (x:dh):V:=.agg [.d (.s x.aY),.d (.sl (x.aK.map encS)),.d (.i .i64 x.uN.aG),.d (.s x.uN.fName),.d (.sl (x.uN.fArgs.map aj.enc)),.d (.sl (x.bO.map aN.enc)),.d (.b x.um),.d (.b x.rW),.d (.i .i64 x.kH.aG),.d (.s x.kH.fName),.d (.sl (x.kH.fArgs.map aj.enc)),.d (.sl (x.p8.map dQ.enc))]
theorem dh.pz(x:dh): .agg (x.enc.map .d)=x.v:=by
 simp only[dh.aD,aj.aD,List.map_cons,List.map_nil,List.cons_append,List.nil_append,List.map_append]
theorem dh.bC(x:dh):x.enc.length=12:=by
 simp only[dh.aD,aj.bC,List.length_append,List.length_cons,List.length_nil]
def dh.sz(x:dh):Nat:=bM x.enc
theorem dh.dB(x:dh):bM x.enc=x.sz:=rfl
structure aP where
 fName:List UInt8
 fType:aj
def aP.enc(x:aP):List D:=[.s x.fName]++(x.fType.enc)
theorem aP.aD(x:aP):x.enc=[.s x.fName]++(x.fType.enc):=rfl
theorem aP.eta(x:aP):aP.mk x.fName x.fType=x:=rfl
theorem aP.ext'{x y:aP}(h0:x.fName=y.fName)(h1:x.fType=y.fType):x=y:=by
 cases x;cases y;simp_all
abbrev aP.v (x:aP):V:=.agg [.d (.s x.fName),.d (.i .i64 x.fType.aG),.d (.s x.fType.fName),.d (.sl (x.fType.fArgs.map aj.enc))]
theorem aP.pz(x:aP): .agg (x.enc.map .d)=x.v:=by
 simp only[aP.aD,aj.aD,List.map_cons,List.map_nil,List.cons_append,List.nil_append,List.map_append]
theorem aP.bC(x:aP):x.enc.length=4:=by
 simp only[aP.aD,aj.bC,List.length_append,List.length_cons,List.length_nil]
def aP.sz(x:aP):Nat:=bM x.enc
theorem aP.dB(x:aP):bM x.enc=x.sz:=rfl
structure aU where
 fName:List UInt8
 aK:List (List UInt8)
 bO:List aN
 aS:List aP
 bq:aj
 fBody:au
def aU.enc(x:aU):List D:=[.s x.fName,.sl (x.aK.map encS),.sl (x.bO.map aN.enc),.sl (x.aS.map aP.enc)]++(x.bq.enc++(x.fBody.enc))
theorem aU.aD(x:aU):x.enc=[.s x.fName,.sl (x.aK.map encS),.sl (x.bO.map aN.enc),.sl (x.aS.map aP.enc)]++(x.bq.enc++(x.fBody.enc)):=rfl
theorem aU.eta(x:aU):aU.mk x.fName x.aK x.bO x.aS x.bq x.fBody=x:=rfl
theorem aU.ext'{x y:aU}(h0:x.fName=y.fName)(h1:x.aK=y.aK)(h2:x.bO=y.bO)(h3:x.aS=y.aS)(h4:x.bq=y.bq)(h5:x.fBody=y.fBody):x=y:=by
 cases x;cases y;simp_all
abbrev aU.v (x:aU):V:=.agg [.d (.s x.fName),.d (.sl (x.aK.map encS)),.d (.sl (x.bO.map aN.enc)),.d (.sl (x.aS.map aP.enc)),.d (.i .i64 x.bq.aG),.d (.s x.bq.fName),.d (.sl (x.bq.fArgs.map aj.enc)),.d (.i .i64 x.fBody.aG),.d (.s x.fBody.aY),.d (.s x.fBody.fName),.d (.i .i64 x.fBody.fN),.d (.i .i64 x.fBody.fType.aG),.d (.s x.fBody.fType.fName),.d (.sl (x.fBody.fType.fArgs.map aj.enc)),.d (.sl (x.fBody.fArgs.map au.enc)),.d (.sl (x.fBody.aI.map aF.enc))]
theorem aU.pz(x:aU): .agg (x.enc.map .d)=x.v:=by
 simp only[aU.aD,au.aD,aj.aD,List.map_cons,List.map_nil,List.cons_append,List.nil_append,List.map_append]
theorem aU.bC(x:aU):x.enc.length=16:=by
 simp only[aU.aD,au.bC,aj.bC,List.length_append,List.length_cons,List.length_nil]
def aU.sz(x:aU):Nat:=bM x.enc
theorem aU.dB(x:aU):bM x.enc=x.sz:=rfl
structure dA where
 fName:List UInt8
 xY:List (List UInt8)
 rX:List eU
 mF:List bX
 mG:List dh
 mH:List aU
def dA.enc(x:dA):List D:=[.s x.fName,.sl (x.xY.map encS),.sl (x.rX.map eU.enc),.sl (x.mF.map bX.enc),.sl (x.mG.map dh.enc),.sl (x.mH.map aU.enc)]
theorem dA.aD(x:dA):x.enc=[.s x.fName,.sl (x.xY.map encS),.sl (x.rX.map eU.enc),.sl (x.mF.map bX.enc),.sl (x.mG.map dh.enc),.sl (x.mH.map aU.enc)]:=rfl
theorem dA.eta(x:dA):dA.mk x.fName x.xY x.rX x.mF x.mG x.mH=x:=rfl
theorem dA.ext'{x y:dA}(h0:x.fName=y.fName)(h1:x.xY=y.xY)(h2:x.rX=y.rX)(h3:x.mF=y.mF)(h4:x.mG=y.mG)(h5:x.mH=y.mH):x=y:=by
 cases x;cases y;simp_all
abbrev dA.v (x:dA):V:=.agg [.d (.s x.fName),.d (.sl (x.xY.map encS)),.d (.sl (x.rX.map eU.enc)),.d (.sl (x.mF.map bX.enc)),.d (.sl (x.mG.map dh.enc)),.d (.sl (x.mH.map aU.enc))]
theorem dA.pz(x:dA): .agg (x.enc.map .d)=x.v:=by
 simp only[dA.aD,List.map_cons,List.map_nil,List.cons_append,List.nil_append,List.map_append]
theorem dA.bC(x:dA):x.enc.length=6:=by
 simp only[dA.aD,List.length_append,List.length_cons,List.length_nil]
def dA.sz(x:dA):Nat:=bM x.enc
theorem dA.dB(x:dA):bM x.enc=x.sz:=rfl
structure d9 where
 nS:List dA
def d9.enc(x:d9):List D:=[.sl (x.nS.map dA.enc)]
theorem d9.aD(x:d9):x.enc=[.sl (x.nS.map dA.enc)]:=rfl
theorem d9.eta(x:d9):d9.mk x.nS=x:=rfl
theorem d9.ext'{x y:d9}(h0:x.nS=y.nS):x=y:=by
 cases x;cases y;simp_all
abbrev d9.v (x:d9):V:=.agg [.d (.sl (x.nS.map dA.enc))]
theorem d9.pz(x:d9): .agg (x.enc.map .d)=x.v:=by
 simp only[d9.aD,List.map_cons,List.map_nil,List.cons_append,List.nil_append,List.map_append]
theorem d9.bC(x:d9):x.enc.length=1:=by
 simp only[d9.aD,List.length_append,List.length_cons,List.length_nil]
def d9.sz(x:d9):Nat:=bM x.enc
theorem d9.dB(x:d9):bM x.enc=x.sz:=rfl
structure bW where
 uo:Int
 Py:Int
def bW.enc(x:bW):List D:=[.i .i64 x.uo,.i .i64 x.Py]
theorem bW.aD(x:bW):x.enc=[.i .i64 x.uo,.i .i64 x.Py]:=rfl
theorem bW.eta(x:bW):bW.mk x.uo x.Py=x:=rfl
theorem bW.ext'{x y:bW}(h0:x.uo=y.uo)(h1:x.Py=y.Py):x=y:=by
 cases x;cases y;simp_all
abbrev bW.v (x:bW):V:=.agg [.d (.i .i64 x.uo),.d (.i .i64 x.Py)]
theorem bW.pz(x:bW): .agg (x.enc.map .d)=x.v:=by
 simp only[bW.aD,List.map_cons,List.map_nil,List.cons_append,List.nil_append,List.map_append]
theorem bW.bC(x:bW):x.enc.length=2:=by
 simp only[bW.aD,List.length_append,List.length_cons,List.length_nil]
def bW.sz(x:bW):Nat:=bM x.enc
theorem bW.dB(x:bW):bM x.enc=x.sz:=rfl
attribute [go_sem] aj.aD cK.aD aN.aD au.aD aF.aD ah.aD bP.aD eU.aD bI.aD bX.aD dQ.aD dh.aD aP.aD aU.aD dA.aD d9.aD bW.aD encS encI
end Go.Ab
namespace Go.Ab
def Pz:List cK→List UInt8→Option aj
 |[],_=>none
 |b::bs,v=>if b.fVar=v then some b.fType else Pz bs v
mutual
noncomputable def xw(s:List cK):aj→aj→Option (List cK)
 | .mk k n a,t=>
   if k=1 then
    match Pz s n with
    |some u=>if dec (u=t)=true then some s else none
    |none=>some (s++[⟨n,t⟩])
   else if k=t.aG∧n=t.fName∧a.length=t.fArgs.length then qU s a t.fArgs else none
noncomputable def qU(s:List cK):List aj→List aj→Option (List cK)
 |[],_=>some s
 |_::_,[]=>none
 |p::ps,t::ts=>
  match xw s p t with
  |some s'=>qU s' ps ts
  |none=>none
end
mutual
def aj.cnt:aj→Nat
 | .mk _ _ a=>1+aj.cu a
def aj.cu:List aj→Nat
 |[]=>0
 |t::ts=>t.cnt+aj.cu ts
end
theorem aj.lq(t:aj):t.cnt=1+aj.cu t.fArgs:=by cases t;rw[aj.cnt];rfl
mutual
theorem jf:∀t:aj,t.cnt≤1+t.sz
 | .mk k n a=>by
   have h:=rY a
   rw[aj.cnt]
   have e:(aj.mk k n a).sz=n.length+(a.length+bG (a.map aj.enc)):=by
    simp only[aj.sz,aj.aD,bM,D.sz,List.length_map,aj.fName,aj.fArgs,Nat.add_zero,Nat.zero_add]
   omega
theorem rY:∀ts:List aj,aj.cu ts≤ts.length+bG (ts.map aj.enc)
 |[]=>by simp[aj.cu]
 |t::ts=>by
  have h1:=jf t
  have h2:=rY ts
  rw[aj.cu,List.length_cons,List.map_cons,bG,aj.dB]
  omega
end
mutual
theorem Ru:∀(p:aj) (s:List cK) (t:aj) (s':List cK),xw s p t=some s'→s'.length≤s.length+p.cnt
 | .mk k n a,s,t,s',h=>by
   rw[xw] at h
   rw[aj.cnt]
   split at h
   ·split at h
    ·split at h
     ·cases h;omega
     ·cases h
    ·cases h;simp
   ·split at h
    ·have:=FD a s t.fArgs s' h;omega
    ·cases h
theorem FD:∀(ps:List aj) (s:List cK) (ts:List aj) (s':List cK),qU s ps ts=some s'→s'.length≤s.length+aj.cu ps
 |[],s,ts,s',h=>by rw[qU] at h;cases h;omega
 |p::ps,s,[],s',h=>by rw[qU] at h;cases h
 |p::ps,s,t::ts,s',h=>by
  rw[qU] at h
  rw[aj.cu]
  cases hm:xw s p t with
  |none=>rw[hm] at h;cases h
  |some s1=>
   rw[hm] at h
   have h1:=Ru p s t s1 hm
   have h2:=FD ps s1 ts s' h
   omega
end
def Small(s:List cK):Prop:=∀b∈s,b.fType.sz≤4194304
mutual
theorem LZ:∀(p:aj) (s:List cK) (t:aj) (s':List cK),t.sz≤4194304→Small s→xw s p t=some s'→Small s'
 | .mk k n a,s,t,s',ht,hs,h=>by
   rw[xw] at h
   split at h
   ·split at h
    ·split at h
     ·cases h;exact hs
     ·cases h
    ·cases h
     intro b hb
     rcases List.mem_append.1 hb with hb|hb
     ·exact hs b hb
     ·simp at hb;subst hb;exact ht
   ·split at h
    ·refine BA a s t.fArgs s' ?_ hs h
     intro x hx
     have h1:=dY (List.mem_map_of_mem (f:=aj.enc) hx)
     have h2:t.sz=t.fName.length+(t.fArgs.length+bG (t.fArgs.map aj.enc)):=by
      simp only[aj.sz,aj.aD,bM,bN,D.sz,List.length_map,Nat.add_zero,Nat.zero_add]
     rw[aj.dB] at h1
     omega
    ·cases h
theorem BA:∀(ps:List aj) (s:List cK) (ts:List aj) (s':List cK),(∀t∈ts,t.sz≤4194304)→Small s→qU s ps ts=some s'→Small s'
 |[],s,ts,s',ht,hs,h=>by rw[qU] at h;cases h;exact hs
 |p::ps,s,[],s',ht,hs,h=>by rw[qU] at h;cases h
 |p::ps,s,t::ts,s',ht,hs,h=>by
  rw[qU] at h
  cases hm:xw s p t with
  |none=>rw[hm] at h;cases h
  |some s1=>
   rw[hm] at h
   exact BA ps s1 ts s' (fun x hx=>ht x (by simp[hx])) (LZ p s t s1 (ht t (by simp)) hs hm) h
end
end Go.Ab
namespace Go.Ab
def lowerB(b:UInt8):Prop:=97≤b.toNat∧b.toNat≤122
def mI(b:UInt8):Prop:=48≤b.toNat∧b.toNat≤57
def L6(s:List UInt8):Prop:=∀i,i<s.length→lowerB (s.getD i 0)∨(i≠0∧mI (s.getD i 0))
def reserved:List (List UInt8):=[[105,110,116],[98,111,111,108],[97,115,115,111,99],[100,121,110],[105,102],[108,101,116],[99,97,115,101],[110,101,119],[109,101,116,104,111,100],[112,97,99,107],[116,114,117,101],[102,97,108,115,101]]
noncomputable def validName(s:List UInt8):Bool:=dec ((1≤s.length∧s.length≤8)∧s∉reserved∧L6 s)
noncomputable def rD(s:List UInt8):Bool:=dec (s=[105,110,116]∨s=[98,111,111,108])
noncomputable def xA(xs:List (List UInt8))(s:List UInt8):Int:=if s∈xs then((xs.findIdx fun x=>dec (x=s):Nat):Int) else -1
theorem Ow{xs:List (List UInt8)}{s:List UInt8}{i:Nat}(hi:i<xs.length)(hj:∀j,j<i→xs.getD j []≠s)(h:xs.getD i []=s):xA xs s=i:=by
 have e:∀j,∀hj:j<xs.length,xs.getD j []=xs[j]:=fun j hj=>by simp[List.getD,hj]
 have hm:s∈xs:=by rw[←h,e i hi];exact List.getElem_mem hi
 unfold xA
 rw[if_pos hm]
 congr 1
 rw[List.findIdx_eq hi]
 exact⟨bR (by rw[←e i hi];exact h),fun j hji=>aQ (by rw[←e j (by omega)];exact hj j hji)⟩
theorem Uz{xs:List (List UInt8)}{s:List UInt8}(hj:∀j,j<xs.length→xs.getD j []≠s):xA xs s= -1:=by
 unfold xA
 refine if_neg fun hm=> ?_
 obtain⟨j,h1,h2⟩:=List.getElem_of_mem hm
 exact hj j h1 (by simp[List.getD,h1,h2])
theorem Rv{xs:List (List UInt8)}{s:List UInt8}:decide (xA xs s≥0)=dec (s∈xs):=by
 rw[j6]
 refine kF ?_
 unfold xA
 split
 ·rename_i h;exact⟨fun _=>h,fun _=>by omega⟩
 ·rename_i h;exact⟨fun x=>by omega,fun x=>absurd x h⟩
def nI{α:Type}(p:α→Bool)(xs:List α):Int:=if xs.any p then((xs.findIdx p:Nat):Int) else -1
theorem mY{α:Type}{p:α→Bool}{xs:List α}{i:Nat}(hi:i<xs.length)(hj:∀j,∀hj:j<xs.length,j<i→p xs[j]=false)(h:p xs[i]=true):nI p xs=i:=by
 unfold nI
 rw[if_pos (List.any_eq_true.2 ⟨xs[i],List.getElem_mem hi,h⟩)]
 congr 1
 rw[List.findIdx_eq hi]
 exact⟨h,fun j hji=>hj j (by omega) hji⟩
theorem p9{α:Type}{p:α→Bool}{xs:List α}(hj:∀j,∀hj:j<xs.length,p xs[j]=false):nI p xs= -1:=by
 unfold nI
 refine if_neg fun h=> ?_
 obtain⟨x,hx,hp⟩:=List.any_eq_true.1 h
 obtain⟨j,h1,h2⟩:=List.getElem_of_mem hx
 rw[←h2,hj j h1] at hp
 cases hp
theorem oo{α:Type}{p:α→Bool}{xs:List α}:decide (nI p xs≥0)=xs.any p:=by
 unfold nI
 cases h:xs.any p with
 |true=>simp
 |false=>simp
noncomputable def wz(k:Int)(n:List UInt8)(len:Nat):Bool:=
 dec ((k=1∨k=4)∧validName n=true∧len=0∨k=3∧validName n=true∧len=1∨k=2∧(validName n=true∧len≤3∨rD n=true∧len=0))
mutual
noncomputable def formed:aj→Bool
 | .mk k n a=>wz k n a.length&&gJ a
noncomputable def gJ:List aj→Bool
 |[]=>true
 |t::ts=>formed t&&gJ ts
end
theorem u7(t:aj):formed t=(wz t.aG t.fName t.fArgs.length&&gJ t.fArgs):=by cases t;rw[formed];rfl
theorem qV:∀{ts:List aj},gJ ts=true↔∀t∈ts,formed t=true
 |[]=>by simp[gJ]
 |t::ts=>by simp[gJ,qV (ts:=ts)]
theorem DC:∀{ts:List aj},(ts.any fun t=> !formed t)= !gJ ts
 |[]=>rfl
 |t::ts=>by rw[List.any_cons,DC (ts:=ts),gJ];simp
mutual
def jB:aj→Nat
 | .mk _ _ a=>depths a
def depths:List aj→Nat
 |[]=>0
 |t::ts=>max (jB t+1) (depths ts)
end
theorem I4(t:aj):jB t=depths t.fArgs:=by cases t;rw[jB];rfl
mutual
theorem vg:∀t:aj,jB t+1≤t.cnt
 | .mk k n a=>by
   have:=I5 a
   rw[jB,aj.cnt];omega
theorem I5:∀ts:List aj,depths ts≤aj.cu ts
 |[]=>by simp[depths]
 |t::ts=>by
  have h1:=vg t
  have h2:=I5 ts
  rw[depths,aj.cu]
  omega
end
noncomputable def kI(t:aj):Bool:=dec (formed t=true∧jB t≤6∧t.cnt≤60)
end Go.Ab
namespace Go.Ab
def bg(s:List UInt8):ah:=.mk s []
def fC(l:List ah):ah:=.mk [] l
def aX(l:List (List UInt8)):List ah:=l.map bg
def eZ:ah:=.mk [] []
theorem wB(s:List UInt8):(bg s).aT=s:=rfl
theorem wC(s:List UInt8):(bg s).ak=[]:=rfl
theorem eP(l:List ah):(fC l).aT=[]:=rfl
theorem dL(l:List ah):(fC l).ak=l:=rfl
def Ac:List UInt8:=[100,121,110]
def lu:List UInt8:=[97,115,115,111,99]
mutual
def eD:aj→ah
 | .mk k n zs=>if k=1 then bg ([39]++n) else if k=4 then fC [bg Ac,bg n] else if k=2∧zs.length=0 then bg n else
   fC ((if k=3 then [bg lu] else [])++[bg n]++xB zs)
def xB:List aj→List ah
 |[]=>[]
 |t::ts=>eD t::xB ts
end
theorem uq:∀l,xB l=l.map eD
 |[]=>rfl
 |t::ts=>by rw[xB,List.map_cons,uq ts]
theorem UA(x:aj):eD x=if x.aG=1 then bg ([39]++x.fName) else if x.aG=4 then fC [bg Ac,bg x.fName] else if x.aG=2∧x.fArgs.length=0 then bg x.fName else
 fC ((if x.aG=3 then [bg lu] else [])++[bg x.fName]++x.fArgs.map eD):=by
 cases x;rw[eD,uq];rfl
theorem qb{t:aj}(h:kI t=true):formed t=true:=(iB h).1
theorem jo(x:ah):x.sz=x.aT.length+(x.ak.length+bG (x.ak.map ah.enc)):=by
 simp only[ah.sz,ah.aD,bM,D.sz,List.length_map];omega
def dG:List ah→Nat
 |[]=>0
 |x::xs=>x.sz+dG xs
theorem kY:∀l,bG (l.map ah.enc)=dG l
 |[]=>rfl
 |x::xs=>by rw[List.map_cons,bG,dG,kY xs];rfl
theorem mJ:∀a b,dG (a++b)=dG a+dG b
 |[],b=>by simp[dG]
 |x::a,b=>by rw[List.cons_append,dG,dG,mJ a b];omega
theorem jG{x:ah}:∀{l:List ah},x∈l→x.sz≤dG l
 |y::l,h=>by
  rw[dG]
  rcases List.mem_cons.1 h with rfl|h
  ·omega
  ·have:=jG h;omega
theorem kT(s:List UInt8):(bg s).sz=s.length:=by rw[jo];simp[bg,ah.aT,ah.ak,bG]
theorem rZ(l:List ah):(fC l).sz=l.length+dG l:=by rw[jo,kY];simp[fC,ah.aT,ah.ak]
theorem BD:∀l:List (List UInt8),dG (aX l)=(l.map List.length).sum
 |[]=>rfl
 |s::l=>by rw[aX,List.map_cons,dG,kT,←aX,BD l,List.map_cons,List.sum_cons]
theorem kJ(l:List (List UInt8)):(aX l).length=l.length:=by simp[aX]
theorem oO:∀l:List (List UInt8),bG (l.map encS)=(l.map List.length).sum
 |[]=>rfl
 |s::l=>by rw[List.map_cons,bG,oO l,List.map_cons,List.sum_cons];simp[encS,bM,D.sz]
def qc:List aj→Nat
 |[]=>0
 |x::xs=>x.sz+qc xs
theorem L8:∀l,bG (l.map aj.enc)=qc l
 |[]=>rfl
 |x::xs=>by rw[List.map_cons,bG,qc,L8 xs];rfl
theorem qd(x:aj):x.sz=x.fName.length+(x.fArgs.length+qc x.fArgs):=by
 rw[←L8];simp only[aj.sz,aj.aD,bM,D.sz,List.length_map];omega
mutual
theorem BF:∀x:aj,(eD x).sz≤12+16*x.sz
 | .mk k n zs=>by
   have h:=PD zs
   rw[qd]
   simp only[aj.fName,aj.fArgs]
   rw[eD]
   split
   ·rw[kT];simp;omega
   ·split
    ·rw[rZ];simp[dG,kT,Ac];omega
    ·split
     ·rw[kT];omega
     ·rw[rZ,mJ,mJ,List.length_append,List.length_append,uq,List.length_map,←uq]
      split<;>simp[dG,kT,lu]<;>omega
theorem PD:∀xs:List aj,dG (xB xs)≤12*xs.length+16*qc xs
 |[]=>by simp[xB,dG]
 |x::xs=>by
  have h1:=BF x
  have h2:=PD xs
  rw[xB,dG,qc,List.length_cons];omega
end
def iD(b:UInt8):Bool:=decide (97≤b.toNat∧b.toNat≤122)||decide (48≤b.toNat∧b.toNat≤57)||decide (b∈([39,45,43,42,60,61,46]:List UInt8))
def validAtom(s:List UInt8):Bool:=s.all iD&&decide (1≤s.length∧s.length≤12)
mutual
def gQ:ah→Bool
 | .mk a l=>if a=[] then gN l else validAtom a&&decide (l.length=0)
def gN:List ah→Bool
 |[]=>true
 |x::xs=>gQ x&&gN xs
end
mutual
def jC:ah→Nat
 | .mk a l=>if a=[] then lQ l+1 else 0
def lQ:List ah→Nat
 |[]=>0
 |x::xs=>max (jC x) (lQ xs)
end
mutual
def iU:ah→Nat
 | .mk _ l=>kK l+1
def kK:List ah→Nat
 |[]=>0
 |x::xs=>iU x+kK xs
end
theorem xC(x:ah):gQ x=if x.aT=[] then gN x.ak else validAtom x.aT&&decide (x.ak.length=0):=by cases x;rw[gQ];rfl
theorem I6(x:ah):jC x=if x.aT=[] then lQ x.ak+1 else 0:=by cases x;rw[jC];rfl
theorem L9(x:ah):iU x=kK x.ak+1:=by cases x;rw[iU];rfl
theorem FE:∀{l:List ah},(l.any fun t=> !gQ t)= !gN l
 |[]=>rfl
 |t::ts=>by rw[List.any_cons,FE (l:=ts),gN];simp
theorem wD:∀{l:List ah},gN l=true↔∀t∈l,gQ t=true
 |[]=>by simp[gN]
 |t::ts=>by simp[gN,wD (l:=ts)]
mutual
theorem yN:∀x:ah,jC x≤iU x
 | .mk a l=>by
   have:=BG l
   rw[jC,iU];split<;>omega
theorem BG:∀l:List ah,lQ l≤kK l
 |[]=>by simp[lQ]
 |x::xs=>by
  have h1:=yN x
  have h2:=BG xs
  rw[lQ,kK];omega
end
mutual
theorem Ma:∀x:ah,iU x≤x.sz+1
 | .mk a l=>by
   have:=I7 l
   rw[jo,iU,kY];simp only[ah.aT,ah.ak];omega
theorem I7:∀l:List ah,kK l≤l.length+dG l
 |[]=>by simp[kK]
 |x::xs=>by
  have h1:=Ma x
  have h2:=I7 xs
  rw[kK,dG,List.length_cons];omega
end
def iL(x:ah):Bool:=gQ x&&decide (jC x≤14∧iU x≤900)
mutual
theorem Mc:∀x:ah,gQ x=true→x.sz+1≤13*iU x
 | .mk a l=>fun h=>by
   rw[gQ] at h
   rw[jo,iU,kY]
   simp only[ah.aT,ah.ak]
   split at h
   ·rename_i ha
    have:=I8 l h
    subst ha
    simp only[List.length_nil];omega
   ·rw[Bool.and_eq_true,decide_eq_true_eq] at h
    have h1:=h.1
    unfold validAtom at h1
    rw[Bool.and_eq_true,decide_eq_true_eq] at h1
    have:l=[]:=List.eq_nil_of_length_eq_zero h.2
    subst this
    simp[dG];omega
theorem I8:∀l:List ah,gN l=true→l.length+dG l≤13*kK l
 |[],_=>by simp[dG]
 |x::xs,h=>by
  rw[gN,Bool.and_eq_true] at h
  have h1:=Mc x h.1
  have h2:=I8 xs h.2
  rw[dG,kK,List.length_cons];omega
end
theorem I9{x:ah}(h:iL x=true):x.sz≤11700:=by
 unfold iL at h
 rw[Bool.and_eq_true,decide_eq_true_eq] at h
 have:=Mc x h.1
 omega
def Me(x:ah):ah:=if iL x=true then x else eZ
def Ad:Bool→ah→ah
 |true,x=>Me x
 |false,_=>eZ
theorem abj(x:ah):(Me x).sz≤11700:=by
 unfold Me
 split
 ·rename_i h;exact I9 h
 ·rw[jo];simp[eZ,ah.aT,ah.ak,bG]
theorem ZA(b:Bool)(x:ah):(Ad b x).sz≤11700:=by
 cases b with
 |true=>exact abj x
 |false=>rw[Ad,jo];simp[eZ,ah.aT,ah.ak,bG]
end Go.Ab
namespace Go.Ab
def zk(n:Nat):Key→Key
 |(0,j)=>(0,n+j)
 |(l+1,j)=>(l,j)
def C.mg(n:Nat):C→C
 | .d x=>.d x
 | .any=>.any
 | .bK k es=>.bK (zk n k) es
 | .aL es=>.aL es
 | .ptr k off=>.ptr (zk n k) off
 | .jr cs=>.jr cs
 | .jK k i off=>.jK (zk n k) i off
 | .jI k=>.jI (zk n k)
 | .fn f caps=>.fn f (caps.map fun x=>(zk n x.1,x.2))
 | .mp k=>.mp (zk n k)
 | .ig m es=>.ig m es
 | .xp k r p=>.xp (zk n k) r p
 | .xq k r p z i off=>.xq (zk n k) r p z i off
def V.mg(n:Nat):V→V
 | .c x=>.c (x.mg n)
 | .agg cs=>.agg (cs.map (C.mg n))
 | .dS xs=>.dS (xs.map fun y=>(y.1,y.2.map (C.mg n)))
 | .any=>.any
def Obj.mg(n:Nat):Obj→Obj
 | .box cs=>.box (cs.map (C.mg n))
 |o=>o
section
variable {P:Program} {w:World} {σ:Nat→Nat} {own bn:List Obj} {Ω:Store} {bo mK:List Value} {bΩ:Hs}
theorem H8{n:Nat}{o:Obj}{h:Value}{b:Nat}:owns (o.mg n) h b↔owns o h b:=by
 cases o with
 |box cs=>
  cases h with
  |pointer a=>cases a<;>exact Iff.rfl
  |_=>exact Iff.rfl
 |_=>exact Iff.rfl
theorem xZ{k:Key}{o:Obj}(h:aR (own::bn::Ω) k=some o):
 aR ((bn++own.map (Obj.mg bn.length))::Ω) (zk bn.length k)=some (if k.1=0 then o.mg bn.length else o):=by
 obtain⟨l,j⟩:=k
 cases l with
 |zero=>
  rw[aZ] at h
  show aR _ (0,bn.length+j)=_
  rw[aZ,List.getElem?_append_right (by omega),show bn.length+j-bn.length=j by omega,List.getElem?_map,h]
  rfl
 |succ l=>
  rw[bF] at h
  show aR _ (l,j)=some o
  cases l with
  |zero=>
   rw[aZ] at h ⊢
   rw[List.getElem?_append_left (List.getElem?_eq_some_iff.1 h).1]
   exact h
  |succ l=>rw[bF] at h ⊢;exact h
theorem x9(hl:mK.length=bn.length){k:Key}{h:Value}(e:aR (bo::mK::bΩ) k=some h):aR ((mK++bo)::bΩ) (zk bn.length k)=some h:=by
 obtain⟨l,j⟩:=k
 cases l with
 |zero=>
  rw[aZ] at e
  show aR _ (0,bn.length+j)=_
  rw[aZ,List.getElem?_append_right (by omega),show bn.length+j-mK.length=j by omega,e]
 |succ l=>
  rw[bF] at e
  show aR _ (l,j)=some h
  cases l with
  |zero=>
   rw[aZ] at e ⊢
   rw[List.getElem?_append_left (List.getElem?_eq_some_iff.1 e).1]
   exact e
  |succ l=>rw[bF] at e ⊢;exact e
theorem CZ(hl:mK.length=bn.length)(hlo:bo.length=own.length){k:Key}{o:Obj}(h:aR ((bn++own.map (Obj.mg bn.length))::Ω) k=some o):
 ∃k0 o0,zk bn.length k0=k∧aR (own::bn::Ω) k0=some o0∧o=(if k0.1=0 then o0.mg bn.length else o0)∧aR ((mK++bo)::bΩ) k=aR (bo::mK::bΩ) k0:=by
 obtain⟨l,j⟩:=k
 cases l with
 |zero=>
  rw[aZ] at h
  by_cases hj:j<bn.length
  ·rw[List.getElem?_append_left hj] at h
   refine⟨(1,j),o,rfl,by rw[bF,aZ];exact h,rfl,?_⟩
   rw[aZ,bF,aZ,List.getElem?_append_left (by omega)]
  ·rw[List.getElem?_append_right (by omega),List.getElem?_map] at h
   cases hx:own[j-bn.length]? with
   |none=>rw[hx] at h;cases h
   |some x=>
    rw[hx] at h;cases h
    refine⟨(0,j-bn.length),x,?_,by rw[aZ];exact hx,rfl,?_⟩
    ·show(0,bn.length+(j-bn.length))=(0,j)
     rw[show bn.length+(j-bn.length)=j by omega]
    ·rw[aZ,aZ,List.getElem?_append_right (by omega),hl]
 |succ l=>
  rw[bF] at h
  exact⟨(l+2,j),o,rfl,by rw[bF,bF];exact h,rfl,by rw[bF,bF,bF]⟩
theorem r9{n:Nat}{k:Key}{o:Obj}:(∀aO es,nV (if k.1=0 then o.mg n else o) aO es→nV o aO es)∧(∀aO es,(if k.1=0 then o.mg n else o)=.fu aO es→o=.fu aO es)∧
 (∀m,(if k.1=0 then o.mg n else o)=.mp m→o=.mp m)∧(∀cs,(if k.1=0 then o.mg n else o)=.box cs→∃cs',o=.box cs')∧(∀rs,(if k.1=0 then o.mg n else o)=.xf rs→o=.xf rs):=by
 by_cases e:k.1=0
 ·simp only[if_pos e]
  cases o<;>simp[Obj.mg,nV]
 ·simp only[if_neg e]
  exact⟨fun _ _ h=>h,fun _ _ h=>h,fun _ h=>h,fun cs h=>⟨cs,h⟩,fun _ h=>h⟩
theorem Xt(hl:mK.length=bn.length){c:C}{v:Value}(h:fH w σ (own::bn::Ω) (bo::mK::bΩ) c v):
 fH w σ ((bn++own.map (Obj.mg bn.length))::Ω) ((mK++bo)::bΩ) (c.mg bn.length) v:=by
 cases c with
 |d x=>exact h
 |any=>exact trivial
 |aL es=>exact h
 |jr cs=>exact h
 |ig m es=>exact h
 |xp k r p=>
  obtain⟨o,ho,h2⟩:=h
  refine⟨_,xZ ho,fun rs e=> ?_⟩
  obtain⟨hh,q1,q2⟩:=h2 rs (r9.2.2.2.2 _ e)
  exact⟨hh,x9 hl q1,q2⟩
 |xq k r p z i off=>
  obtain⟨o,ho,h2⟩:=h
  refine⟨_,xZ ho,fun rs e=> ?_⟩
  obtain⟨hh,b,a,n,cap,q1,q2⟩:=h2 rs (r9.2.2.2.2 _ e)
  exact⟨hh,b,a,n,cap,x9 hl q1,q2⟩
 |bK k es=>
  obtain⟨h1,o,ho,h2⟩:=h
  refine⟨h1,_,xZ ho,fun aO es' e=> ?_⟩
  obtain⟨q1,q2⟩:=h2 aO es' (r9.1 _ _ e)
  exact⟨q1,fun e'=>x9 hl (q2 e')⟩
 |ptr k off=>
  obtain⟨o,ho,h2⟩:=h
  refine⟨_,xZ ho,fun cs e=> ?_⟩
  obtain⟨cs',e'⟩:=r9.2.2.2.1 _ e
  obtain⟨b,q1,q2⟩:=h2 cs' e'
  exact⟨b,x9 hl q1,q2⟩
 |jK k i off=>
  obtain⟨o,ho,h2⟩:=h
  refine⟨_,xZ ho,fun aO es e=> ?_⟩
  obtain⟨b,n,cap,q1,q2⟩:=h2 aO es (r9.2.1 _ _ e)
  exact⟨b,n,cap,x9 hl q1,q2⟩
 |jI k=>
  obtain⟨o,ho,h2⟩:=h
  exact⟨_,xZ ho,fun aO es e=>x9 hl (h2 aO es (r9.2.1 _ _ e))⟩
 |mp k=>
  obtain⟨o,ho,h2⟩:=h
  exact⟨_,xZ ho,fun m e=>x9 hl (h2 m (r9.2.2.1 _ e))⟩
 |fn f caps=>
  obtain⟨vs,e,hsz,hc⟩:=h
  refine⟨vs,e,by rw[hsz,List.length_map],fun j k off hj=> ?_⟩
  rw[List.getElem?_map] at hj
  cases hx:caps[j]? with
  |none=>rw[hx] at hj;cases hj
  |some y=>
   rw[hx] at hj
   injection hj with hj
   injection hj with e1 e2
   obtain⟨u,q1,q2,o,q3,q4⟩:=hc j y.1 y.2 hx
   refine⟨u,q1,q2,_,by rw[←e1];exact xZ q3,fun cs e=> ?_⟩
   obtain⟨cs',e'⟩:=r9.2.2.2.1 _ e
   obtain⟨b,q5,q6⟩:=q4 cs' e'
   exact⟨b,by rw[←e1];exact x9 hl q5,by rw[←e2];exact q6⟩
theorem Rw(hl:mK.length=bn.length){cs:List C}{vs:List Value}(h:eF w σ (own::bn::Ω) (bo::mK::bΩ) cs vs):
 eF w σ ((bn++own.map (Obj.mg bn.length))::Ω) ((mK++bo)::bΩ) (cs.map (C.mg bn.length)) vs:=by
 refine⟨by rw[List.length_map];exact h.1,fun j x hj=> ?_⟩
 rw[List.getElem?_map] at hj
 cases hx:cs[j]? with
 |none=>rw[hx] at hj;cases hj
 |some y=>
  rw[hx] at hj;cases hj
  obtain⟨v,h1,h2,h3⟩:=h.2 j y hx
  exact⟨v,h1,Xt hl h2,h3⟩
theorem aey(hl:mK.length=bn.length){x:V}{v:Value}(h:bQ w σ (own::bn::Ω) (bo::mK::bΩ) x v):
 bQ w σ ((bn++own.map (Obj.mg bn.length))::Ω) ((mK++bo)::bΩ) (x.mg bn.length) v:=by
 cases x with
 |c x=>exact⟨Xt hl h.1,h.2⟩
 |agg cs=>obtain⟨a,ha,hc⟩:=h;exact⟨a,ha,Rw hl hc⟩
 |any=>exact trivial
 |dS xs=>
  obtain⟨a,ha,hlen,hc⟩:=h
  refine⟨a,ha,by rw[List.length_map];exact hlen,fun j y hj=> ?_⟩
  rw[List.getElem?_map] at hj
  cases hx:xs[j]? with
  |none=>rw[hx] at hj;cases hj
  |some z=>
   rw[hx] at hj;cases hj
   obtain⟨u,hu,hr⟩:=hc j z hx
   refine⟨u,hu,?_⟩
   obtain⟨b,cs⟩:=z
   cases b with
   |true=>obtain⟨a',e,hcs⟩:=hr;exact⟨a',e,Rw hl hcs⟩
   |false=>obtain⟨x1,e,hx1,ho⟩:=hr;subst e;exact⟨_,rfl,Xt hl hx1,ho⟩
theorem PE(hl:mK.length=bn.length):Keep (bn::Ω) (mK::bΩ) ((bn++own.map (Obj.mg bn.length))::Ω) ((mK++bo)::bΩ):=by
 rintro⟨l,j⟩ o h
 cases l with
 |zero=>
  rw[aZ] at h
  have hj:=(List.getElem?_eq_some_iff.1 h).1
  refine⟨o,by rw[aZ,List.getElem?_append_left hj];exact h,?_⟩
  rw[aZ,aZ,List.getElem?_append_left (by omega)]
  exact jm.refl _ _
 |succ l=>
  rw[bF] at h
  exact⟨o,by rw[bF];exact h,by rw[bF,bF];exact jm.refl _ _⟩
theorem aez(hS:dx w σ (own::bn::Ω) (bo::mK::bΩ)):dx w σ ((bn++own.map (Obj.mg bn.length))::Ω) ((mK++bo)::bΩ):=by
 have hlo:bo.length=own.length:=by
  obtain⟨gr,h1,h2⟩:=hS.shape.2 0 own rfl
  simp at h1;rw[h1];exact h2
 have hl:mK.length=bn.length:=by
  obtain⟨gr,h1,h2⟩:=hS.shape.2 1 bn rfl
  simp at h1;rw[h1];exact h2
 have hn:dU w σ w σ:=dU.refl _ _
 refine⟨fun k o ho=> ?_,fun k k' o o' h h' b e1 e2 e3 e4 e5 e6=> ?_,⟨by have:=hS.shape.1;simpa using this,fun l fr hfr=> ?_⟩,hS.live,hS.oW⟩
 ·obtain⟨k0,o0,hk,ho0,rfl,hh⟩:=CZ (bo:=bo) (bΩ:=bΩ) hl hlo ho
  obtain⟨h,h1,h2⟩:=hS.obj k0 o0 ho0
  refine⟨h,by rw[hh];exact h1,?_⟩
  obtain⟨l0,j0⟩:=k0
  cases l0 with
  |zero=>
   subst hk
   have h2:fM w σ (own::bn::Ω) (bo::mK::bΩ) o0 h:=h2
   show fM w σ ((bn++own.map (Obj.mg bn.length))::Ω) ((mK++bo)::bΩ) (o0.mg bn.length) h
   cases o0 with
   |box cs=>
    obtain⟨b,c,t,e,q1,q2,q3⟩:=h2
    exact⟨b,c,t,e,q1,q2,Rw hl q3⟩
   |dead=>exact trivial
   |tok aO es=>exact h2
   |fu aO es=>exact h2
   |mp m=>exact h2
   |eu n aO es=>exact h2
   |seed n=>exact trivial
   |xf rs=>exact h2
  |succ l0=>
   have hk':k=(l0,j0):=hk.symm
   subst hk'
   have h2:fM w σ ((bn::Ω).drop l0) ((mK::bΩ).drop l0) o0 h:=h2
   exact h2.mono hn ((PE hl).drop l0) fun _ _=>⟨rfl,rfl⟩
 ·obtain⟨k0,o0,hk,ho0,ho,hh⟩:=CZ (bo:=bo) (bΩ:=bΩ) hl hlo e1
  obtain⟨k1,o1,hk1,ho1,ho',AV⟩:=CZ (bo:=bo) (bΩ:=bΩ) hl hlo e4
  rw[hh] at e2
  rw[AV] at e5
  have b0:owns o0 h b:=by
   rw[ho] at e3
   split at e3
   ·rw[H8] at e3;exact e3
   ·exact e3
  have b1:owns o1 h' b:=by
   rw[ho'] at e6
   split at e6
   ·rw[H8] at e6;exact e6
   ·exact e6
  have:=hS.apart k0 k1 o0 o1 h h' b ho0 e2 b0 ho1 e5 b1
  rw[←hk,←hk1,this]
 ·cases l with
  |zero=>
   simp at hfr
   exact⟨_,rfl,by rw[←hfr];simp[hl,hlo]⟩
  |succ l=>exact hS.shape.2 (l+2) fr (by simpa using hfr)
theorem abk(hS:dx w σ (own::bn::Ω) (bo::mK::bΩ)){b:Nat}(h:Own ((bn++own.map (Obj.mg bn.length))::Ω) ((mK++bo)::bΩ) b):Own (own::bn::Ω) (bo::mK::bΩ) b:=by
 have hlo:bo.length=own.length:=by
  obtain⟨gr,h1,h2⟩:=hS.shape.2 0 own rfl
  simp at h1;rw[h1];exact h2
 have hl:mK.length=bn.length:=by
  obtain⟨gr,h1,h2⟩:=hS.shape.2 1 bn rfl
  simp at h1;rw[h1];exact h2
 obtain⟨k,o,hv,e1,e2,e3⟩:=h
 obtain⟨k0,o0,hk,ho0,ho,hh⟩:=CZ (bo:=bo) (bΩ:=bΩ) hl hlo e1
 rw[hh] at e2
 refine⟨k0,o0,hv,ho0,e2,?_⟩
 rw[ho] at e3
 split at e3
 ·rw[H8] at e3;exact e3
 ·exact e3
end
def Mf(P:Program)(rs:List ResultVar)(post:V→Store→Prop)(e:Exit)(s:St):Prop:=
 match e with
 | .normal| .ret=>(o9 P rs s).1∧match s.st with
   |own::bn::Ω=>post ((o9 P rs s).2.mg bn.length) ((bn++own.map (Obj.mg bn.length))::Ω)
   |_=>False
 |_=>False
section
variable {P:Program} {N:Nat} {s:St}
theorem Ja{f:FuncId}{fn:Func}{c:Code}{args:List V}{bn:List Obj}{Ω:Store}{post:V→Store→Prop}(hf:P.funcs[f]? =some fn)(hb:fn.body=some c)(hn:(fn.name== "runtime.NumGoroutine")=false)
 (hl:args.length≤fn.ntmps) (h:AW P fn.ntmps c (Mf P fn.results.toList post) ⟨nD (args.map (V.up 1)) 0,[]::bn::Ω⟩):bA P f args (bn::Ω) post:=by
 refine⟨⟨fn,hf,hn,by simp[hb]⟩,fun w σ β vs hS hargs=> ?_⟩
 refine calls_of_wp hf hb ?_
 have hlen:vs.length=args.length:=hargs.1.symm
 have VT:iG fn.ntmps ⟨nD (args.map (V.up 1)) 0,[]::bn::Ω⟩ {tmps:=vs.toArray++Array.replicate (fn.ntmps-vs.toArray.size) undef,defers:=[]} w σ ([]::β):=by
  refine⟨by simp;omega,rfl,hS.up1,fun t=> ?_⟩
  show bQ w σ ([]::bn::Ω) ([]::β) (look (nD (args.map (V.up 1)) 0) t) _
  rw[zQ,if_pos (Nat.zero_le _),Nat.sub_zero,List.getElem?_map]
  cases ha:args[t]? with
  |none=>exact trivial
  |some x=>
   obtain⟨v,hv,hr⟩:=hargs.2 t x ha
   have ht:=(List.getElem?_eq_some_iff.1 hv).1
   have:(vs.toArray++Array.replicate (fn.ntmps-vs.toArray.size) undef).getD t undef=v:=by
    rw[Array.getD_eq_getD_getElem?,Array.getElem?_append_left (by simpa using ht)]
    simp[hv]
   rw[this]
   exact Ho (S:=[]::bn::Ω) (β:=[]::β) 1 hr
 refine wp_mono (h _ w σ ([]::β) VT) ?_
 rintro e a' w' ⟨s',σ',β',hR,hst,hkp,hq⟩
 have main:((o9 P fn.results.toList s').1∧match s'.st with
  |own::bn::Ω=>post ((o9 P fn.results.toList s').2.mg bn.length) ((bn++own.map (Obj.mg bn.length))::Ω)
  |_=>False)→
   a'.defers=[]∧∃v,(results fn a'.tmps).run P w'=.ok v w'∧∃v_1 r S' σ' β',Ending.returned v=Ending.returned v_1∧dx w' σ' S' β'∧Keep (bn::Ω) β S' β'∧Step (bn::Ω) β σ w S' β' σ' w'∧bQ w' σ' S' β' r v_1∧post r S':=by
  rintro⟨q1,q2⟩
  obtain⟨v,hv,hrep⟩:=IQ (fn:=fn) hR q1
  obtain⟨tm,st⟩:=s'
  simp only at q2
  split at q2
  ·rename_i own Rx Ω1
   obtain⟨bo,bΩ',rfl,hlo⟩:=frames hR
   cases bΩ' with
   |nil=>have:=hR.S.shape.1;simp at this
   |cons bo1 bΩ1=>
    have hl1:bo1.length=Rx.length:=by
     obtain⟨gr,h1,h2⟩:=hR.S.shape.2 1 Rx rfl
     simp at h1;rw[h1];exact h2
    have tY:Keep (bn::Ω) β (Rx::Ω1) (bo1::bΩ1):=hkp
    have hst':Step ([]::bn::Ω) ([]::β) σ w (own::Rx::Ω1) (bo::bo1::bΩ1) σ' w':=hst
    exact⟨hR.defers,v,hv,v,_,_,σ',_,rfl,aez hR.S,tY.trans (PE hl1),⟨hst'.size,hst'.os,hst'.output,fun b hb ho=>hst'.far b hb (fun x=>ho (CR x)),hst'.near,fun b hb=>(hst'.own b (abk hR.S hb)).imp CR id⟩,aey hl1 hrep,q2⟩
  ·exact q2.elim
 cases e with
 |normal=>exact main hq
 |ret=>exact main hq
 |_=>exact hq.elim
def Mg(P:Program)(rs:List ResultVar)(post:V→Store→Prop)(s:St)(r:R):Prop:=r.1∧match s.st with
 |own::bn::Ω=>post (r.2.mg bn.length) ((bn++own.map (Obj.mg bn.length))::Ω)
 |_=>False
@[congr] theorem acD {rs:List ResultVar} {post:V→Store→Prop} {s s':St} {r r':R} (h1:s=s') (h2:r=r'):Mg P rs post s r=Mg P rs post s' r':=by rw[h1,h2]
theorem Xu{rs:List ResultVar}{post:V→Store→Prop}{tm:List (Nat×V)}{S:Store}:Mf P rs post .ret ⟨tm,S⟩=Mg P rs post ⟨tm,S⟩ (o9 P rs ⟨tm,S⟩):=rfl
theorem Ox{rs:List ResultVar}{post:V→Store→Prop}{tm:List (Nat×V)}{S:Store}:Mf P rs post .normal ⟨tm,S⟩=Mg P rs post ⟨tm,S⟩ (o9 P rs ⟨tm,S⟩):=rfl
theorem ZB{rs:List ResultVar}{post:V→Store→Prop}{tm:List (Nat×V)}{own bn:List Obj}{Ω:Store}{p:Prop}{v:V}:
 Mg P rs post ⟨tm,own::bn::Ω⟩ (p,v)=(p∧post (v.mg bn.length) ((bn++own.map (Obj.mg bn.length))::Ω)):=rfl
theorem UC{f:FuncId}{fn:Func}{c:Code}{args:List V}{bn:List Obj}{Ω:Store}{post:V→Store→Prop}{rs:List ResultVar}(jA:P.follows .mixedOrders=true)(hf:P.funcs[f]? =some fn)(hN:fn.ntmps=N)
 (hb:fn.body=some c) (hn:(fn.name== "runtime.NumGoroutine")=false) (hr:fn.results.toList=rs) (hl:Nat.ble args.length N=true) (hok:codeOk N c=true)
 (h:CW P N c (Mf P rs post) ⟨nD (args.map (V.up 1)) 0,[]::bn::Ω⟩):bA P f args (bn::Ω) post:=by
 subst hN
 subst hr
 exact Ja hf hb hn (Nat.le_of_ble_eq_true hl) (lV jA c _ _ hok h)
theorem mgK_0{n j:Nat}:zk n (0,j)=(0,n+j):=rfl
theorem mgK_1{n l j:Nat}:zk n (1+l,j)=(l,j):=by rw[Nat.add_comm];rfl
end
attribute [go_sem ↓] Xu Ox
attribute [go_sem] ZB V.mg C.mg Obj.mg mgK_0 mgK_1
end Go.Ab
namespace Go.Ab
mutual
def mZ:D→Nat
 | .sl es=>iH es+1
 | .ol _ _=>0
 | .b _=>0
 | .i _ _=>0
 | .s _=>0
 | .o _=>0
def nJ:List D→Nat
 |[]=>0
 |d::ds=>mZ d+nJ ds
def iH:List (List D)→Nat
 |[]=>0
 |r::rs=>nJ r+iH rs
end
mutual
def kL:D→Nat→D
 | .sl es,n=>.ol n (dZ es (n+1))
 | .ol m es,_=>.ol m es
 | .b x,_=>.b x
 | .i k x,_=>.i k x
 | .s l,_=>.s l
 | .o v,_=>.o v
def dO:List D→Nat→List D
 |[],_=>[]
 |d::ds,n=>kL d n::dO ds (n+mZ d)
def dZ:List (List D)→Nat→List (List D)
 |[],_=>[]
 |r::rs,n=>dO r n::dZ rs (n+nJ r)
end
mutual
def nT:D→Bool
 | .sl es=>iy es
 | .ol _ _=>false
 | .b _=>true
 | .i _ _=>true
 | .s _=>true
 | .o _=>false
def gP:List D→Bool
 |[]=>true
 |d::ds=>nT d&&gP ds
def iy:List (List D)→Bool
 |[]=>true
 |r::rs=>gP r&&iy rs
end
theorem DF:∀a b n,dO (a++b) n=dO a n++dO b (n+nJ a)
 |[],b,n=>by simp[dO,nJ]
 |d::ds,b,n=>by rw[List.cons_append,dO,dO,DF ds b,nJ,Nat.add_assoc];rfl
theorem nK:∀a b n,dZ (a++b) n=dZ a n++dZ b (n+iH a)
 |[],b,n=>by simp[dZ,iH]
 |d::ds,b,n=>by rw[List.cons_append,dZ,dZ,nK ds b,iH,Nat.add_assoc];rfl
theorem fI:∀r n,(dO r n).length=r.length
 |[],_=>rfl
 |d::ds,n=>by rw[dO,List.length_cons,fI ds,List.length_cons]
theorem iM:∀rs n,(dZ rs n).length=rs.length
 |[],_=>rfl
 |r::rs,n=>by rw[dZ,List.length_cons,iM rs,List.length_cons]
theorem wE{z:Nat}:∀{rs:List (List D)} {n:Nat},(∀r∈rs,r.length=z)→∀r∈dZ rs n,r.length=z
 |[],_,_,r,h=>by rw[dZ] at h;cases h
 |a::rs,n,ha,r,h=>by
  rw[dZ] at h
  rcases List.mem_cons.1 h with e|h
  ·rw[e,fI];exact ha a (by simp)
  ·exact wE (fun r hr=>ha r (by simp[hr])) r h
theorem fF:∀a b,gP (a++b)=(gP a&&gP b)
 |[],b=>by simp[gP]
 |d::ds,b=>by rw[List.cons_append,gP,gP,fF ds b,Bool.and_assoc]
theorem iV{α:Type}{f:α→List D}:∀{xs:List α},(∀x∈xs,gP (f x)=true)→iy (xs.map f)=true
 |[],_=>rfl
 |x::xs,h=>by
  rw[List.map_cons,iy,h x (by simp),iV fun y hy=>h y (by simp[hy])];rfl
section
variable {P:Program} {w:World} {σ σ':Nat→Nat} {S:Store} {β:Hs} {N:Nat} {s:St}
mutual
theorem Xv:∀(d:D) (n:Nat) (v:Value),bU w σ (kL d n) v→bU w σ d v
 | .sl es,n,v,h=>by
   rw[kL] at h
   have hl:=iM es (n+1)
   have hrec:=YC es (n+1)
   generalize dZ es (n+1)=q at h hl hrec
   cases h with
   |pK n a cap=>
    have:es=[]:=List.eq_nil_of_length_eq_zero (by simpa using hl.symm)
    subst this
    exact .nil a cap
   |ol n b off cap aO q vals c t hcap hlen hb hσ hfit hc hv=>
    obtain⟨r1,r2⟩:=hrec vals hv
    rw[hl] at hcap hfit hc ⊢
    refine .sl b off cap aO es vals c t (0,0) hcap (fun e he=> ?_) hb (by omega) hc r2
    obtain⟨e',h1,h2⟩:=r1 e he
    rw[←h2];exact hlen e' h1
 | .ol m es,n,v,h=>h
 | .b x,n,v,h=>h
 | .i k x,n,v,h=>h
 | .s l,n,v,h=>h
 | .o u,n,v,h=>h
theorem abm:∀(r:List D) (n:Nat) (vals:Nat→Value),(∀j d,(dO r n)[j]? =some d→bU w σ d (vals j))→∀(j:Nat) d,r[j]? =some d→bU w σ d (vals j)
 |[],n,vals,h,j,d,hd=>by simp at hd
 |a::r,n,vals,h,j,d,hd=>by
  cases j with
  |zero=>
   simp at hd;subst hd
   exact Xv a n _ (h 0 _ rfl)
  |succ j=>exact abm r (n+mZ a) (fun i=>vals (i+1)) (fun i d hi=>h (i+1) d (by rw[dO];exact hi)) j d hd
theorem YC:∀(rs:List (List D)) (n:Nat) (vals:Nat→Value),(∀j d,(dZ rs n).flatten[j]? =some d→bU w σ d (vals j))→
 (∀e∈rs,∃e'∈dZ rs n,e'.length=e.length)∧∀(j:Nat) d,rs.flatten[j]? =some d→bU w σ d (vals j)
 |[],n,vals,h=>⟨fun e he=>(by cases he),fun j d hd=>(by simp at hd)⟩
 |r::rs,n,vals,h=>by
  rw[dZ,List.flatten_cons] at h
  have h1:=abm r n vals fun j d hd=>h j d (by rw[List.getElem?_append_left (List.getElem?_eq_some_iff.1 hd).1];exact hd)
  obtain⟨h2,h3⟩:=YC rs (n+nJ r) (fun i=>vals (r.length+i)) fun j d hd=>h (r.length+j) d (by rw[List.getElem?_append_right (by rw[fI];omega),fI,Nat.add_sub_cancel_left];exact hd)
  refine⟨fun e he=> ?_,fun j d hd=> ?_⟩
  ·rcases List.mem_cons.1 he with e1|he
   ·subst e1;exact⟨_,by rw[dZ];exact List.mem_cons_self ..,fI _ _⟩
   ·obtain⟨e',q1,q2⟩:=h2 e he
    exact⟨e',by rw[dZ];exact List.mem_cons_of_mem _ q1,q2⟩
  ·rw[List.flatten_cons] at hd
   by_cases hj:j<r.length
   ·rw[List.getElem?_append_left hj] at hd;exact h1 j d hd
   ·rw[List.getElem?_append_right (by omega)] at hd
    have:=h3 (j-r.length) d hd
    rwa [show r.length+(j-r.length)=j by omega] at this
end
theorem Mh{r:List D}{n:Nat}:Less (.agg ((dO r n).map .d)) (.agg (r.map .d)):=by
 rintro w σ S β v ⟨a,ha,hl,hc⟩
 rw[List.length_map,fI] at hl
 refine⟨a,ha,by rw[List.length_map];exact hl,?_⟩
 have key:∀(r:List D) (n:Nat) (vs:List Value),(∀(j:Nat) (x:C),((dO r n).map C.d)[j]? =some x→∃v:Value,vs[j]? =some v∧fH w σ S β x v∧v.oneCell'=true)→
  ∀(j:Nat) (x:C),(r.map C.d)[j]? =some x→∃v:Value,vs[j]? =some v∧fH w σ S β x v∧v.oneCell'=true:=by
  intro r
  induction r with
  |nil=>intro n vs h j x hx;simp at hx
  |cons d ds ih=>
   intro n vs h j x hx
   cases j with
   |zero=>
    simp at hx;subst hx
    obtain⟨v,h1,h2,h3⟩:=h 0 (.d (kL d n)) rfl
    exact⟨v,h1,Xv d n v h2,h3⟩
   |succ j=>
    have:=ih (n+mZ d) vs.tail (fun i y hy=>by
     obtain⟨v,h1,h2⟩:=h (i+1) y (by rw[dO,List.map_cons];exact hy)
     refine⟨v,?_,h2⟩
     cases vs with
     |nil=>simp at h1
     |cons a b=>exact h1) j x hx
    obtain⟨v,h1,h2⟩:=this
    refine⟨v,?_,h2⟩
    cases vs with
    |nil=>simp at h1
    |cons a b=>exact h1
 exact key r n _ hc
theorem UD{r:List D}{n:Nat}{w:World}{σ:Nat→Nat}{S:Store}{β:Hs}{vs:List Value}(h:eF w σ S β ((dO r n).map .d) vs):eF w σ S β (r.map .d) vs:=by
 obtain⟨a,ha,hc⟩:=Mh w σ S β (.agg vs.toArray) ⟨vs.toArray,rfl,by simpa using h⟩
 cases ha
 simpa using hc
inductive oC:List V→List V→Prop
 |nil:oC [] []
 |cons {x y:V} {xs ys:List V}:Less x y→oC xs ys→oC (x::xs) (y::ys)
theorem oC.length:∀{xs ys:List V},oC xs ys→xs.length=ys.length
 |_,_,.nil=>rfl
 |_,_,.cons _ h=>by rw[List.length_cons,List.length_cons,oC.length h]
theorem oC.at:∀{xs ys:List V},oC xs ys→∀(j:Nat) (x y:V),xs[j]? =some x→ys[j]? =some y→Less x y
 |_,_,.nil,j,x,y,h,_=>by simp at h
 |_,_,.cons a h,0,x,y,h1,h2=>by simp at h1 h2;subst h1;subst h2;exact a
 |_,_,.cons a h,j+1,x,y,h1,h2=>oC.at h j x y (by simpa using h1) (by simpa using h2)
theorem aH.args{f:FuncId}{args args':List V}{r:V}(h:aH P f args' r)(hl:oC args args'):aH P f args r:=fun S=>(h S).weaken hl.length fun j x y hx hy w σ β v hr=>hl.at j x y hx hy w σ S β v hr
theorem Mi{dr:Option Nat}{f:FuncId}{args args':List V}{dst:Option Nat}{K:St→Prop}{r:V}(h:aH P f args' r)(hl:oC (args.map V.pI) args')(hK:K (s.put dst r)):fO P dr f args s dst K:=ay (h.args hl) hK
def Xw(row:Bool)(j n:Nat)(es:List (List D))(tm:List (Nat×V)):List (Nat×V):=tm.map fun x=>(x.1,x.2.iK (C.lab row j n es))
theorem UE{row:Bool}{j n:Nat}{es:List (List D)}{tm:List (Nat×V)}{t:Nat}:look (Xw row j n es tm) t=(look tm t).iK (C.lab row j n es):=zX (f:=V.iK (C.lab row j n es)) rfl tm t
def Ry(j n:Nat)(tm:List (Nat×V))(own:List Obj)(Ω:Store):Option Obj→St
 |some (.fu _ es)=>⟨Xw true j n es tm,(own.map (Obj.iK (C.lab true j n es))).set j .dead::Ω⟩
 |some (.eu m _ es)=>⟨Xw false j m es tm,(own.map (Obj.iK (C.lab false j m es))).set j .dead::Ω⟩
 |_=>⟨tm,own::Ω⟩
def Kz(j n:Nat)(s:St):St:=
 match s.st with
 |own::Ω=>Ry j n s.tm own Ω (own[j]?)
 |[]=>s
def FH:Nat→Nat→St→St
 |0,_,s=>s
 |k+1,n,s=>FH k n (Kz k n s)
def zl(n:Nat)(s:St):St:=
 match s.st with
 |own::_=>FH own.length n s
 |[]=>s
theorem DI(j n:Nat)(s:St):fE N s (Kz j n s):=by
 obtain⟨tm,st⟩:=s
 cases st with
 |nil=>exact fE.refl _ _
 |cons own Ω=>
  show fE N ⟨tm,own::Ω⟩ (Ry j n tm own Ω (own[j]?))
  cases ho:own[j]? with
  |none=>exact fE.refl _ _
  |some o=>
   cases o with
   |fu z es=>exact fun a w σ β hR=>Pt j n z es true ho hR
   |eu m z es=>exact fun a w σ β hR=>Pt j m z es false ho hR
   |_=>exact fE.refl _ _
theorem DJ:∀(k n:Nat) (s:St),fE N s (FH k n s)
 |0,n,s=>fE.refl _ _
 |k+1,n,s=>(DI k n s).trans (DJ k n _)
theorem BH(n:Nat)(s:St):fE N s (zl n s):=by
 unfold zl
 split
 ·exact DJ _ _ _
 ·exact fE.refl _ _
theorem Xx{j n:Nat}{tm:List (Nat×V)}{own:List Obj}{Ω:Store}:Kz j n ⟨tm,own::Ω⟩=Ry j n tm own Ω (own[j]?):=rfl
theorem UF{n:Nat}{tm:List (Nat×V)}{own:List Obj}{Ω:Store}:zl n ⟨tm,own::Ω⟩=FH own.length n ⟨tm,own::Ω⟩:=rfl
def Rz(P:Program)(n:Nat)(rs:List ResultVar)(post:V→Store→Prop)(e:Exit)(s:St):Prop:=VQ P rs post e (zl n s)
theorem Xy{n:Nat}{rs:List ResultVar}{post:V→Store→Prop}:Rz P n rs post .ret s=LP P rs post (zl n s):=rfl
theorem Oy{n:Nat}{rs:List ResultVar}{post:V→Store→Prop}:Rz P n rs post .normal s=LP P rs post (zl n s):=rfl
theorem kM(n:Nat){f:FuncId}{fn:Func}{c:Code}{args:List V}{post:V→Store→Prop}{rs:List ResultVar}(jA:P.follows .mixedOrders=true)(hf:P.funcs[f]? =some fn)(hN:fn.ntmps=N)
 (hb:fn.body=some c) (hn:(fn.name== "runtime.NumGoroutine")=false) (hr:fn.results.toList=rs) (hl:Nat.ble args.length N=true) (hok:codeOk N c=true)
 (h:CW P N c (Rz P n rs post) ⟨nD (args.map (V.up 1)) 0,[.seed n]::S⟩):bA P f args S post:=by
 subst hN
 subst hr
 exact yL hf hb hn (Nat.le_of_ble_eq_true hl) (Ht n (Fx (BH n) (lV jA c _ _ hok h)))
theorem Xz{row:Bool}{j n l i:Nat}{es es':List (List D)}:C.lab row j n es (.bK (1+l,i) es')=.bK (1+l,i) es':=by rw[Nat.add_comm];rfl
theorem XA{row:Bool}{j n i:Nat}{es es':List (List D)}:C.lab row j n es (.bK (0,i) es')=if i=j∧row=false∧es'.length=es.length then .d (.ol n es) else .bK (0,i) es':=rfl
theorem XB{row:Bool}{j n l i:Nat}{es:List (List D)}:C.lab row j n es (.jI (1+l,i))=.jI (1+l,i):=by rw[Nat.add_comm];rfl
theorem XC{row:Bool}{j n i:Nat}{es:List (List D)}:C.lab row j n es (.jI (0,i))=if i=j∧row=true then .d (.ol n es) else .jI (0,i):=rfl
theorem acE{row:Bool}{j n:Nat}{es:List (List D)}{x:D}:C.lab row j n es (.d x)=.d x:=rfl
theorem ZC{row:Bool}{j n:Nat}{es:List (List D)}:C.lab row j n es .any=.any:=rfl
theorem ZE{row:Bool}{j n:Nat}{es es':List (List D)}:C.lab row j n es (.aL es')=.aL es':=rfl
theorem ZF{row:Bool}{j n m:Nat}{es es':List (List D)}:C.lab row j n es (.ig m es')=.ig m es':=rfl
theorem ZG{row:Bool}{j n off:Nat}{es:List (List D)}{k:Key}:C.lab row j n es (.ptr k off)=.ptr k off:=rfl
theorem abn{row:Bool}{j n f:Nat}{es:List (List D)}{caps:List (Key×Nat)}:C.lab row j n es (.fn f caps)=.fn f caps:=rfl
theorem XD{row:Bool}{j n:Nat}{es:List (List D)}{cs:List D}:C.lab row j n es (.jr cs)=.jr cs:=rfl
theorem Mj{ι:Type}{ts:List Nat}{f:ι→List V}{g:ι→Store}{p:ι→Prop}{μ:ι→Nat}{i:ι}{tm:List (Nat×V)}{own:List Obj}{Ω:Store}{m:Nat}(m' n:Nat)(hnd:ts.Nodup)(j:ι)(h1:μ j<μ i)(h2:ts.map (look tm)=f j)(h3:(Obj.seed m'::own.take n)::Ω=g j)
 (hr:lg (n+1) (iq ts (f j))=true) (ho:(own.take n).all (Obj.refs (n+1))=true) (h4:p j):Inv N ts f g p μ i ⟨tm,(.seed m::own)::Ω⟩:=by
 refine⟨j,⟨iq ts (f j),(.seed m'::own.take n)::Ω⟩,h1,?_,?_,h3,h4⟩
 ·have hg:fE N ⟨tm,(.seed m::own)::Ω⟩ ⟨iq ts (f j),(.seed m::own)::Ω⟩:=by
   rw[←h2]
   exact El fun t=>xk _ ts t
  refine hg.trans ((Fq (n+1) hr ?_).trans (wZ m'))
  rw[List.take_succ_cons,List.all_cons,ho];rfl
 ·exact xu ts (f j) hnd (by rw[←h2];simp)
end
attribute [go_sem ↓] Xy Oy UF
attribute [go_sem] FH Xx Ry UE V.iK Obj.iK Xz XA XB XC acE ZC ZE ZF ZG abn XD
end Go.Ab
namespace Go.Ab
section
variable {P:Program} {N:Nat} {S:Store} {s:St} {tm:List (Nat×V)}
def C8(E:Md)(R:Array Oper)(K:St→Prop)(s:St):Prop:=Ku E R s.tm=true∧K s
@[congr] theorem ab1 {E:Md} {R:Array Oper} {K:St→Prop} {s s':St} (h2:s=s'):C8 E R K s=C8 E R K s':=by rw[h2]
def vW(P:Program)(N:Nat):Code→(Exit→St→Prop)→St→Prop
 | .seq x y,Q,s=>vW P N x (oh (vW P N y Q) Q) s
 | .region _ R true,Q,s=>mX P (uV R N) R R.toList s (C8 (uV R N) R (Q .normal))
 | .region id R false,Q,s=>CW P N (.region id R false) Q s
 | .cond c x y,Q,s=>CW P N (.cond c x y) Q s
 | .block id c,Q,s=>CW P N (.block id c) Q s
 | .exit id,Q,s=>CW P N (.exit id) Q s
 | .ret,Q,s=>CW P N .ret Q s
 | .skip,Q,s=>CW P N .skip Q s
 | .loop c,Q,s=>CW P N (.loop c) Q s
 |_,_,_=>False
theorem ZH{x y:Code}{Q:Exit→St→Prop}:vW P N (.seq x y) Q s=vW P N x (oh (vW P N y Q) Q) s:=by rw[vW]
theorem XE{id:Nat}{l:List Oper}{Q:Exit→St→Prop}:vW P N (.region id ⟨l⟩ true) Q s=mX P (uV ⟨l⟩ N) ⟨l⟩ l s (C8 (uV ⟨l⟩ N) ⟨l⟩ (Q .normal)):=by rw[vW]
theorem RA{id:Nat}{l:List Oper}{Q:Exit→St→Prop}:vW P N (.region id ⟨l⟩ false) Q s=CW P N (.region id ⟨l⟩ false) Q s:=by rw[vW]
theorem XF{c:Operand}{x y:Code}{Q:Exit→St→Prop}:vW P N (.cond c x y) Q s=CW P N (.cond c x y) Q s:=by rw[vW]
theorem ZI{Q:Exit→St→Prop}:vW P N .ret Q s=CW P N .ret Q s:=by rw[vW]
theorem XG{Q:Exit→St→Prop}:vW P N .skip Q s=CW P N .skip Q s:=by rw[vW]
end
attribute [go_sem ↓] ZH XE RA XF ZI XG
end Go.Ab
namespace Go.Ab
section
variable {P:Program} {N:Nat} {S:Store} {s:St} {tm:List (Nat×V)}
def nA(P:Program)(N:Nat):Code→(Exit→St→Prop)→St→Prop
 | .seq x y,Q,s=>nA P N x (oh (nA P N y Q) Q) s
 | .region _ R true,Q,s=>mX P (uV R N) R R.toList s (C8 (uV R N) R (Q .normal))
 | .region id R false,Q,s=>CW P N (.region id R false) Q s
 | .cond c x y,Q,s=>CX (ev s.tm c) (nA P N x Q) (nA P N y Q) s
 | .block id c,Q,s=>nA P N c (wo id Q) s
 | .exit id,Q,s=>CW P N (.exit id) Q s
 | .ret,Q,s=>CW P N .ret Q s
 | .skip,Q,s=>CW P N .skip Q s
 | .loop c,Q,s=>CW P N (.loop c) Q s
 |_,_,_=>False
theorem ZJ{x y:Code}{Q:Exit→St→Prop}:nA P N (.seq x y) Q s=nA P N x (oh (nA P N y Q) Q) s:=by rw[nA]
theorem XH{id:Nat}{l:List Oper}{Q:Exit→St→Prop}:nA P N (.region id ⟨l⟩ true) Q s=mX P (uV ⟨l⟩ N) ⟨l⟩ l s (C8 (uV ⟨l⟩ N) ⟨l⟩ (Q .normal)):=by rw[nA]
theorem RB{id:Nat}{l:List Oper}{Q:Exit→St→Prop}:nA P N (.region id ⟨l⟩ false) Q s=CW P N (.region id ⟨l⟩ false) Q s:=by rw[nA]
theorem XI{c:Operand}{x y:Code}{Q:Exit→St→Prop}:nA P N (.cond c x y) Q s=CX (ev s.tm c) (nA P N x Q) (nA P N y Q) s:=by rw[nA]
theorem UG{id:Nat}{c:Code}{Q:Exit→St→Prop}:nA P N (.block id c) Q s=nA P N c (wo id Q) s:=by rw[nA]
theorem XJ{id:Nat}{Q:Exit→St→Prop}:nA P N (.exit id) Q s=CW P N (.exit id) Q s:=by rw[nA]
theorem ZK{Q:Exit→St→Prop}:nA P N .ret Q s=CW P N .ret Q s:=by rw[nA]
theorem XK{Q:Exit→St→Prop}:nA P N .skip Q s=CW P N .skip Q s:=by rw[nA]
theorem XL{c:Code}{Q:Exit→St→Prop}:nA P N (.loop c) Q s=CW P N (.loop c) Q s:=by rw[nA]
end
attribute [go_sem ↓] ZJ XH RB XI UG XJ ZK XK XL
end Go.Ab
namespace Go.Ab
section
variable {P:Program} {N:Nat} {S:Store} {s:St} {tm:List (Nat×V)}
end
end Go.Ab
namespace Go.Ab
theorem RD{P:Program}{N:Nat}(n:Nat){f:FuncId}{fn:Func}{c:Code}{args:List V}{bn:List Obj}{Ω:Store}{post:V→Store→Prop}{rs:List ResultVar}(jA:P.follows .mixedOrders=true)(hf:P.funcs[f]? =some fn)(hN:fn.ntmps=N)
 (hb:fn.body=some c) (hn:(fn.name== "runtime.NumGoroutine")=false) (hr:fn.results.toList=rs) (hl:Nat.ble args.length N=true) (hok:codeOk N c=true)
 (h:CW P N c (Mf P rs post) ⟨nD (args.map (V.up 1)) 0,[.seed n]::bn::Ω⟩):bA P f args (bn::Ω) post:=by
 subst hN
 subst hr
 exact Ja hf hb hn (Nat.le_of_ble_eq_true hl) (Ht n (lV jA c _ _ hok h))
theorem XM{P:Program}{N:Nat}{c:Code}{Q:Exit→St→Prop}{tm:List (Nat×V)}{Ω:Store}(n k:Nat)(h:AW P N c Q ⟨tm,[.seed n,.seed k]::Ω⟩):AW P N c Q ⟨tm,[]::Ω⟩:=by
 refine Ht n (kW h fun a w σ β hR=> ?_)
 obtain⟨bo,bΩ,rfl,hlen⟩:=frames hR
 obtain⟨hS',hk,hst⟩:=hR.S.push (o:=.seed k) (h:=undef) (Grow.refl hR.S.live) hlen trivial (fun b hb=>by cases hb)
 exact⟨σ,_,⟨hR.size,hR.defers,hS',fun u=>(hR.T u).mono (dU.refl _ _) hk⟩,hst,Keep.refl _ _⟩
section
variable {P:Program} {N:Nat} {S:Store}
theorem Ae(n k:Nat){f:FuncId}{fn:Func}{c:Code}{args:List V}{post:V→Store→Prop}{rs:List ResultVar}(jA:P.follows .mixedOrders=true)(hf:P.funcs[f]? =some fn)(hN:fn.ntmps=N)
 (hb:fn.body=some c) (hn:(fn.name== "runtime.NumGoroutine")=false) (hr:fn.results.toList=rs) (hl:Nat.ble args.length N=true) (hok:codeOk N c=true)
 (h:CW P N c (Rz P n rs post) ⟨nD (args.map (V.up 1)) 0,[.seed n,.seed k]::S⟩):bA P f args S post:=by
 subst hN
 subst hr
 exact yL hf hb hn (Nat.le_of_ble_eq_true hl) (XM n k (Fx (BH n) (lV jA c _ _ hok h)))
end
end Go.Ab
namespace Go.Ab
section
variable {P:Program} {w w':World} {σ σ':Nat→Nat} {S:Store} {β:Hs}
def nL(w:World)(σ:Nat→Nat)(lo hi b:Nat):Prop:=∃c t fz m,w.heap[b]? =some (.cells c t fz)∧σ b=c.size+1+m∧lo≤m∧m<hi
theorem nL.mono{lo hi lo' hi' b:Nat}(h:nL w σ lo hi b)(h1:lo'≤lo)(h2:hi≤hi'):nL w σ lo' hi' b:=by
 obtain⟨c,t,fz,m,a1,a2,a3,a4⟩:=h
 exact⟨c,t,fz,m,a1,a2,by omega,by omega⟩
theorem nL.apart{lo hi lo' hi' b:Nat}(h:nL w σ lo hi b)(h':nL w σ lo' hi' b)(ho:hi≤lo'):False:=by
 obtain⟨c,t,fz,m,a1,a2,a3,a4⟩:=h
 obtain⟨c',t',KX,m',b1,b2,b3,b4⟩:=h'
 rw[a1] at b1;cases b1
 omega
abbrev Kids:=List (List (Option Value))
def jM(rows:Kids)(i o:Nat):Option Value:=((rows[i]?).bind fun r=>r[o]?).bind id
def YD(rows:Kids):Array Value:=(rows.map fun r=>Value.tuple (r.map fun u=>u.getD (.bool false)).toArray).toArray
def mkT(v:Value)(rows:Kids):Value:=.tuple #[v,.tuple (YD rows)]
theorem PG{v:Value}{rows:Kids}:hdr (mkT v rows)=some v:=rfl
def IsT(v:Value):Prop:=∃a,v=.tuple a
theorem H9{v:Value}{rows:Kids}(h:∀i o u,jM rows i o=some u→IsT u)(i o:Nat):kid (mkT v rows) i o=jM rows i o:=by
 have h':=h i o
 unfold kid mkT YD jM at *
 simp only[List.getElem?_toArray,List.getElem?_cons_succ,List.getElem?_cons_zero,List.getElem?_map]
 cases hr:rows[i]? with
 |none=>rfl
 |some r=>
  rw[hr] at h'
  simp only[Option.map_some,List.getElem?_toArray,List.getElem?_map]
  cases hu:r[o]? with
  |none=>simp[hu]
  |some u=>
   simp only[Option.bind_some,hu,id] at h'
   cases u with
   |none=>simp[hu]
   |some u=>
    obtain⟨a,rfl⟩:=h' u rfl
    simp[hu]
def KA(w:World)(d:D)(v:Value)(u:Option Value):Prop:=
 match d with
 | .sl es=>∃T,u=some T∧IsT T∧hdr T=some v∧l7 w es T
 |d=>u=none∧SD d v
theorem Mk{z:Nat}:∀{rs:List (List D)} {n:Nat},(∀r∈dZ rs n,r.length=z)→∀r∈rs,r.length=z
 |[],_,_,r,h=>by cases h
 |a::rs,n,ha,r,h=>by
  rw[dZ] at ha
  rcases List.mem_cons.1 h with e|h
  ·subst e;rw[←fI r n];exact ha _ (by simp)
  ·exact Mk (n:=n+nJ a) (fun r hr=>ha r (by simp[hr])) r h
structure aeA (w:World) (σ:Nat→Nat) (r:List D) (n m:Nat) (vals:Nat→Value) (us:List (Option Value)):Prop where
 len:us.length=r.length
 cell:∀(j:Nat) (d:D),r[j]? =some d→∃u,us[j]? =some u∧KA w d (vals j) u
 own:∀(j:Nat) (u:Value),us[j]? =some (some u)→∀b,jv u b→nL w σ n m b
 apart:∀(j j':Nat) (u u':Value) (b:Nat),j≠j'→us[j]? =some (some u)→us[j']? =some (some u')→jv u b→jv u' b→False
structure acF (w:World) (σ:Nat→Nat) (z:Nat) (rs:List (List D)) (n m:Nat) (vals:Nat→Value) (U:Kids):Prop where
 cell:∀(i o:Nat) (d:D),cellAt rs i o=some d→∃u,((U[i]?).bind fun r=>r[o]?)=some u∧KA w d (vals (i*z+o)) u
 kid:∀(i o:Nat) (u:Value),jM U i o=some u→∃es,cellAt rs i o=some (.sl es)
 own:∀(i o:Nat) (u:Value),jM U i o=some u→∀b,jv u b→nL w σ n m b
 apart:∀(i o i' o':Nat) (u u':Value) (b:Nat),(i,o)≠(i',o')→jM U i o=some u→jM U i' o'=some u'→jv u b→jv u' b→False
theorem tq{us:List (Option Value)}{U:Kids}{o:Nat}{u:Value}:jM (us::U) 0 o=some u↔us[o]? =some (some u):=by
 show(us[o]?).bind id=some u↔_
 cases us[o]? with
 |none=>simp
 |some x=>simp
mutual
theorem acG:∀(d:D) (n:Nat) (v:Value),nT d=true→bU w σ (kL d n) v→∃u,KA w d v u∧∀T,u=some T→∀b,jv T b→nL w σ n (n+mZ d) b
 | .sl es,n,v,hp,h=>by
   rw[kL] at h
   have hl:=iM es (n+1)
   have hrec:=UH es (n+1)
   have hrow:=fun z=>Mk (z:=z) (rs:=es) (n:=n+1)
   generalize dZ es (n+1)=q at h hl hrec hrow
   have hempty:∀a cap,es=[]→v=.slice a 0 cap→∃u,KA w (.sl es) v u∧∀T,u=some T→∀b,jv T b→nL w σ n (n+mZ (.sl es)) b:=by
    rintro a cap rfl rfl
    have hk:∀i o,kid (mkT (.slice a 0 cap) []) i o=none:=fun i o=>by rw[H9 (fun i o u h=>by simp[jM] at h)];simp[jM]
    refine⟨some (mkT (.slice a 0 cap) []),⟨_,rfl,⟨_,rfl⟩,rfl,.nil a cap _ rfl hk⟩,fun T hT b hb=> ?_⟩
    cases hT
    exfalso
    cases hb with
    |here h1 h2=>rw[PG] at h1;cases h1;omega
    |kid h1 h2=>rw[hk] at h1;cases h1
   cases h with
   |pK n a cap=>exact hempty a cap (List.eq_nil_of_length_eq_zero (by simpa using hl.symm)) rfl
   |ol n b off cap z q vals c t hcap hlen hb hσ hfit hc hv=>
    by_cases hne:es=[]
    ·subst hne
     have hq0:q.length=0:=by simpa using hl
     exact hempty _ _ rfl (by rw[hq0])
    rw[hl] at hcap hfit hc ⊢
    obtain⟨U,hU⟩:=hrec z vals (hrow z hlen) (by simpa [nT] using hp) hv
    have hrl:=hrow z hlen
    have hT:∀i o u,jM U i o=some u→IsT u:=fun i o u hu=>by
     obtain⟨es',he⟩:=hU.kid i o u hu
     obtain⟨u',h1,h2⟩:=hU.cell i o _ he
     obtain⟨T,h3,h4,_⟩:=h2
     unfold jM at hu
     rw[h1,h3] at hu
     cases hu;exact h4
    have oV:∀i o,kid (mkT (.slice (some ⟨b,off,none⟩) es.length cap) U) i o=jM U i o:=H9 hT
    have hcell:∀i o es',cellAt es i o=some (.sl es')→∃T,jM U i o=some T∧hdr T=some (vals (i*z+o))∧l7 w es' T:=fun i o es' he=>by
     obtain⟨u',h1,T,h3,h4,h5,h6⟩:=hU.cell i o _ he
     refine⟨T,?_,h5,h6⟩
     unfold jM
     rw[h1,h3];rfl
    have hself:∀x,nL w σ (n+1) (n+1+iH es) x→x≠b:=by
     rintro x ⟨c',t',KX,m,a1,a2,a3,a4⟩ rfl
     rw[hb] at a1;cases a1
     omega
    refine⟨some (mkT (.slice (some ⟨b,off,none⟩) es.length cap) U),⟨_,rfl,⟨_,rfl⟩,rfl,?_⟩,fun T hT' x hx=> ?_⟩
    ·refine .mk b off cap z es _ c t (fun i o=>vals (i*z+o)) (fun i o=>(jM U i o).getD undef) rfl hne hcap hrl hb hfit (fun i o d hd=> ?_) (fun i o d hd=> ?_) (fun i o es' he=> ?_) (fun i o es' he=> ?_) (fun i o u hu hb'=> ?_) (fun i o i' o' u u' x YE hu hu' h1 h2=> ?_) (fun i o u hu=> ?_)
     ·obtain⟨hi,ho⟩:=tV hd
      rw[hrl _ (List.getElem_mem hi)] at ho
      refine hc _ ?_
      have:(i+1)*z≤es.length*z:=Nat.mul_le_mul_right _ hi
      rw[Nat.add_mul,Nat.one_mul] at this
      omega
     ·obtain⟨u,h1,h2⟩:=hU.cell i o d hd
      cases d<;>first|exact .inl ⟨_,rfl⟩|exact .inr h2.2
     ·obtain⟨T,h1,h2,h3⟩:=hcell i o es' he
      rw[oV,h1]
      exact⟨rfl,h2⟩
     ·obtain⟨T,h1,h2,h3⟩:=hcell i o es' he
      rw[h1];exact h3
     ·rw[oV] at hu
      exact hself b (hU.own i o u hu b hb') rfl
     ·rw[oV] at hu hu'
      exact hU.apart i o i' o' u u' x YE hu hu' h1 h2
     ·rw[oV] at hu
      exact hU.kid i o u hu
    ·cases hT'
     cases hx with
     |here h1 h2=>rw[PG] at h1;cases h1;exact⟨c,t,(0,0),n,hb,hσ,Nat.le_refl _,by rw[mZ];omega⟩
     |kid h1 h2=>
      rw[oV] at h1
      exact(hU.own _ _ _ h1 _ h2).mono (by omega) (by rw[mZ];omega)
 | .ol m es,n,v,hp,h=>by simp[nT] at hp
 | .b x,n,v,hp,h=>by rw[kL] at h;cases h;exact⟨none,⟨rfl,rfl⟩,fun T h=>by cases h⟩
 | .i k x,n,v,hp,h=>by rw[kL] at h;cases h;exact⟨none,⟨rfl,rfl⟩,fun T h=>by cases h⟩
 | .s l,n,v,hp,h=>by rw[kL] at h;cases h;exact⟨none,⟨rfl,rfl⟩,fun T h=>by cases h⟩
 | .o u,n,v,hp,h=>by simp[nT] at hp
theorem KC:∀(r:List D) (n:Nat) (vals:Nat→Value),gP r=true→(∀(j:Nat) (d:D),(dO r n)[j]? =some d→bU w σ d (vals j))→∃us,aeA w σ r n (n+nJ r) vals us
 |[],n,vals,hp,h=>⟨[],rfl,fun j d h=>by simp at h,fun j u h=>by simp at h,fun j j' u u' b _ h=>by simp at h⟩
 |d::r,n,vals,hp,h=>by
  rw[gP,Bool.and_eq_true] at hp
  rw[dO] at h
  obtain⟨u,h1,h2⟩:=acG d n (vals 0) hp.1 (h 0 _ rfl)
  obtain⟨us,pJ⟩:=KC r (n+mZ d) (fun j=>vals (j+1)) hp.2 fun j x hx=>h (j+1) x hx
  rw[nJ]
  have hown:∀(j:Nat) (T:Value),us[j]? =some (some T)→∀b,jv T b→nL w σ (n+mZ d) (n+mZ d+nJ r) b:=pJ.own
  refine⟨u::us,by rw[List.length_cons,List.length_cons,pJ.len],fun j x hx=> ?_,fun j T hT b hb=> ?_,fun j j' T T' b hj hT hT' hb hb'=> ?_⟩
  ·cases j with
   |zero=>simp at hx;subst hx;exact⟨u,rfl,h1⟩
   |succ j=>exact pJ.cell j x hx
  ·cases j with
   |zero=>simp at hT;exact(h2 T hT b hb).mono (Nat.le_refl _) (by omega)
   |succ j=>exact(hown j T hT b hb).mono (by omega) (by omega)
  ·cases j with
   |zero=>
    cases j' with
    |zero=>exact hj rfl
    |succ j'=>simp at hT;exact(h2 T hT b hb).apart (hown j' T' hT' b hb') (Nat.le_refl _)
   |succ j=>
    cases j' with
    |zero=>simp at hT';exact(h2 T' hT' b hb').apart (hown j T hT b hb) (Nat.le_refl _)
    |succ j'=>exact pJ.apart j j' T T' b (by omega) hT hT' hb hb'
theorem UH:∀(rs:List (List D)) (n z:Nat) (vals:Nat→Value),(∀r∈rs,r.length=z)→iy rs=true→(∀(j:Nat) (d:D),(dZ rs n).flatten[j]? =some d→bU w σ d (vals j))→∃U,acF w σ z rs n (n+iH rs) vals U
 |[],n,z,vals,hz,hp,h=>⟨[],fun i o d h=>by simp[cellAt] at h,fun i o u h=>by simp[jM] at h,fun i o u h=>by simp[jM] at h,fun i o i' o' u u' b _ h=>by simp[jM] at h⟩
 |r::rs,n,z,vals,hz,hp,h=>by
  rw[iy,Bool.and_eq_true] at hp
  rw[dZ,List.flatten_cons] at h
  have hrz:r.length=z:=hz r (by simp)
  obtain⟨us,pJ⟩:=KC r n vals hp.1 fun j d hd=>h j d (by rw[List.getElem?_append_left (List.getElem?_eq_some_iff.1 hd).1];exact hd)
  obtain⟨U,hU⟩:=UH rs (n+nJ r) z (fun j=>vals (z+j)) (fun r hr=>hz r (by simp[hr])) hp.2 fun j d hd=>h (z+j) d (by
   rw[List.getElem?_append_right (by rw[fI];omega),fI,hrz,Nat.add_sub_cancel_left];exact hd)
  rw[iH]
  have hown:∀(i o:Nat) (T:Value),jM U i o=some T→∀b,jv T b→nL w σ (n+nJ r) (n+nJ r+iH rs) b:=hU.own
  refine⟨us::U,fun i o d hd=> ?_,fun i o u hu=> ?_,fun i o T hT b hb=> ?_,fun i o i' o' T T' b YE hT hT' hb hb'=> ?_⟩
  ·cases i with
   |zero=>
    obtain⟨u,h1,h2⟩:=pJ.cell o d hd
    exact⟨u,h1,by rw[Nat.zero_mul,Nat.zero_add];exact h2⟩
   |succ i=>
    obtain⟨u,h1,h2⟩:=hU.cell i o d hd
    exact⟨u,h1,by rw[show(i+1)*z+o=z+(i*z+o) by rw[Nat.add_mul];omega];exact h2⟩
  ·cases i with
   |zero=>
    rw[tq] at hu
    have ho:o<r.length:=by rw[←pJ.len];exact(List.getElem?_eq_some_iff.1 hu).1
    obtain⟨u',h1,h2⟩:=pJ.cell o r[o] (List.getElem?_eq_getElem ho)
    rw[hu] at h1;cases h1
    have hc:cellAt (r::rs) 0 o=some r[o]:=List.getElem?_eq_getElem ho
    rw[hc]
    generalize r[o]=d at h2
    cases d<;>first|exact⟨_,rfl⟩|(cases h2.1)
   |succ i=>exact hU.kid i o u hu
  ·cases i with
   |zero=>rw[tq] at hT;exact(pJ.own o T hT b hb).mono (Nat.le_refl _) (by omega)
   |succ i=>exact(hown i o T hT b hb).mono (by omega) (by omega)
  ·cases i with
   |zero=>
    rw[tq] at hT
    cases i' with
    |zero=>rw[tq] at hT';exact pJ.apart o o' T T' b (fun e=>YE (by rw[e])) hT hT' hb hb'
    |succ i'=>exact(pJ.own o T hT b hb).apart (hown i' o' T' hT' b hb') (Nat.le_refl _)
   |succ i=>
    cases i' with
    |zero=>rw[tq] at hT';exact(pJ.own o' T' hT' b hb').apart (hown i o T hT b hb) (Nat.le_refl _)
    |succ i'=>exact hU.apart i o i' o' T T' b (fun e=>YE (by cases e;rfl)) hT hT' hb hb'
end
end
end Go.Ab
namespace Go.Ab
section
variable {P:Program} {w w':World} {σ σ':Nat→Nat} {S:Store} {β:Hs}
def qZ:D→List (List D)
 | .sl es=>es
 |_=>[]
def KD(k:Key)(j:Nat):D→C
 | .sl _=>.xp k j []
 |d=>.d d
def yO(k:Key):Nat→List D→List C
 |_,[]=>[]
 |j,d::ds=>KD k j d::yO k (j+1) ds
theorem qW{k:Key}:∀(j:Nat) (r:List D),(yO k j r).length=r.length
 |_,[]=>rfl
 |j,d::ds=>by rw[yO,List.length_cons,qW,List.length_cons]
theorem Ia{k:Key}:∀(r:List D) (j i:Nat),(yO k j r)[i]? =(r[i]?).map (KD k (j+i))
 |[],j,i=>by simp[yO]
 |d::ds,j,0=>rfl
 |d::ds,j,i+1=>by
  rw[yO,List.getElem?_cons_succ,List.getElem?_cons_succ,Ia ds (j+1) i,show j+1+i=j+(i+1) by omega]
def RF:C→C
 | .d x=>.d x
 | .aL es=>.d (.sl es)
 | .bK _ es=>.d (.sl es)
 | .ig n es=>.d (.ol n es)
 | .jr cs=>.jr cs
 |_=>.any
def RG:V→V
 | .c x=>.c (RF x)
 | .agg cs=>.agg (cs.map RF)
 |_=>.any
theorem Jb{c:C}{v:Value}(h:fH w σ S β c v)(S':Store)(β':Hs):fH w σ S' β' (RF c) v:=by
 cases c with
 |d x=>exact h
 |aL es=>exact h.1
 |bK k es=>exact h.1
 |ig n es=>exact h.1
 |jr cs=>exact h
 |_=>trivial
theorem XO{x:V}{v:Value}(h:bQ w σ S β x v)(S':Store)(β':Hs):bQ w σ S' β' (RG x) v:=by
 cases x with
 |c x=>exact⟨Jb h.1 _ _,h.2⟩
 |agg cs=>
  obtain⟨a,ha,hl,hc⟩:=h
  refine⟨a,ha,by rw[List.length_map];exact hl,fun i x hx=> ?_⟩
  rw[List.getElem?_map] at hx
  cases hi:cs[i]? with
  |none=>rw[hi] at hx;cases hx
  |some y=>
   rw[hi] at hx;cases hx
   obtain⟨u,q1,q2,q3⟩:=hc i y hi
   exact⟨u,q1,Jb q2 _ _,q3⟩
 |_=>trivial
theorem Af(hl:∀b,b<w.heap.size∨σ b=0)(hg:yH w σ):dx w σ [] [] where
 oW:=hg
 obj:=fun k o h=>by rw[kV] at h;cases h
 apart:=fun k k' o o' h h' b h1=>by rw[kV] at h1;cases h1
 shape:=⟨rfl,fun l fr h=>by simp at h⟩
 live:=hl
theorem wK{β:Hs}{b:Nat}:¬Own [] β b:=fun⟨k,o,h,h1,_⟩=>by rw[kV] at h1;cases h1
def FI(mk:List C→V)(m:Nat):Prop:=∀w σ S β cs v,cs.length=m→bQ w σ S β (mk cs) v→∃vs,eF w σ S β cs vs∧∀w' σ' S' β' cs',cs'.length=m→eF w' σ' S' β' cs' vs→bQ w' σ' S' β' (mk cs') v
theorem RH{m:Nat}:FI V.agg m:=fun w σ S β cs v _ ⟨a,ha,hc⟩=>⟨a.toList,hc,fun w' σ' S' β' cs' _ hc'=>⟨a,ha,hc'⟩⟩
def Ml:C→Bool
 | .d d=>dJ d
 |_=>false
theorem FJ{c:C}{v:Value}(h:Ml c=true)(hr:fH w σ S β c v)(w':World)(σ':Nat→Nat)(S':Store)(β':Hs):fH w' σ' S' β' c v:=by
 cases c with
 |d d=>cases d<;>first|(cases h;done)|(cases hr;constructor)
 |_=>cases h
theorem RI{m:Nat}(xs:List C)(h:xs.all Ml=true):FI (fun cs=>.dS ((true,cs)::xs.map fun x=>(false,[x]))) m:=by
 rintro w σ S β cs v _ ⟨a,ha,hl,hc⟩
 obtain⟨u,hu,a',rfl,hcs⟩:=hc 0 _ rfl
 refine⟨a'.toList,hcs,fun w' σ' S' β' cs' _ hc'=>⟨a,ha,hl,fun j y hy=> ?_⟩⟩
 cases j with
 |zero=>simp at hy;subst hy;exact⟨_,hu,a',rfl,hc'⟩
 |succ j=>
  rw[List.getElem?_cons_succ] at hy
  obtain⟨u,h1,h2⟩:=hc (j+1) y (by rw[List.getElem?_cons_succ];exact hy)
  refine⟨u,h1,?_⟩
  rw[List.getElem?_map] at hy
  cases hx:xs[j]? with
  |none=>rw[hx] at hy;cases hy
  |some x=>
   rw[hx] at hy;cases hy
   obtain⟨x',e,h3,h4⟩:=h2
   cases e
   exact⟨x,rfl,FJ (List.all_eq_true.1 h x (List.mem_of_getElem? hx)) h3 _ _ _ _,h4⟩
def qg:Value:=mkT (.slice none 0 0) []
theorem BI(i o:Nat):kid qg i o=none:=by
 unfold qg
 rw[H9 (fun i o u h=>by simp[jM] at h)];simp[jM]
theorem qH{b:Nat}:¬jv qg b:=fun h=>by
 cases h with
 |here h1 h2=>cases h1
 |kid h1 h2=>rw[BI] at h1;cases h1
theorem Eo(σ:Nat→Nat):∀n:Nat,∃m,∀b,b<n→σ b≤m
 |0=>⟨0,fun b h=>by omega⟩
 |n+1=>by
  obtain⟨m,hm⟩:=Eo σ n
  refine⟨max m (σ n),fun b hb=> ?_⟩
  by_cases e:b=n
  ·subst e;omega
  ·have:=hm b (by omega);omega
open Classical in
theorem bA.own{f:FuncId}{args:List V}{bn:List Obj}{Ω:Store}{mk:List C→V}{r:List D}(hm:FI mk r.length)(hp:gP r=true)
 (h:∀n,aH P f (args.map RG) (mk ((dO r n).map .d))):
 bA P f args (bn::Ω) (fun r' S'=>r'=mk (yO (0,bn.length) 0 r)∧S'=(bn++[.xf (r.map qZ)])::Ω):=by
 refine⟨(h 0 []).1,fun w σ β vs hS hargs=> ?_⟩
 obtain⟨n,hn⟩:=Eo σ w.heap.size
 have UJ:kQ w σ [] [] (args.map RG) vs:=by
  refine⟨by rw[List.length_map];exact hargs.1,fun j x hx=> ?_⟩
  rw[List.getElem?_map] at hx
  cases ha:args[j]? with
  |none=>rw[ha] at hx;cases hx
  |some y=>
   rw[ha] at hx;cases hx
   obtain⟨v,h1,h2⟩:=hargs.2 j y ha
   exact⟨v,h1,XO h2 _ _⟩
 refine((h n []).2 w σ [] vs (Af hS.live hS.oW) UJ).mono fun e w' ⟨v,r',S',σ',β',he,hS',hk,hst,hv,hr',hS2⟩=> ?_
 subst hr';subst hS2
 obtain⟨Mq,hcs,hback⟩:=hm w' σ' _ β' _ v (by rw[List.length_map,fI]) hv
 have XP:Mq.length=r.length:=by rw[←hcs.1,List.length_map,fI]
 obtain⟨us,pJ⟩:=KC r n (fun j=>Mq.getD j undef) hp (fun j d hd=>by
  obtain⟨u,h1,h2,_⟩:=hcs.2 j (.d d) (by rw[List.getElem?_map,hd];rfl)
  simp only[List.getD_eq_getElem?_getD,h1,Option.getD_some]
  exact h2)
 let h0:Value:=.tuple (us.map fun u=>u.getD qg).toArray
 have hroot:∀j,pO h0 j=(us[j]?).map fun u=>u.getD qg:=fun j=>by simp[h0,pO]
 have hfresh:∀b,gy h0 b→w.heap.size≤b:=by
  rintro b ⟨j,T,h1,h2⟩
  rw[hroot] at h1
  cases hu:us[j]? with
  |none=>rw[hu] at h1;cases h1
  |some u=>
   rw[hu] at h1
   simp only[Option.map_some,Option.some.injEq] at h1
   cases u with
   |none=>subst h1;exact absurd h2 qH
   |some u=>
    simp at h1;subst h1
    obtain⟨c,t,fz,m,a1,a2,a3,a4⟩:=pJ.own j u hu b h2
    refine Nat.le_of_not_lt fun hlt=> ?_
    have h1:=(hst.far b hlt wK).2
    have h2:=hn b hlt
    omega
 let σ2:Nat→Nat:=fun b=>if gy h0 b then 0 else σ' b
 have hg:Grow w σ w' σ2:=⟨hst.size,hst.os,hst.output,fun b hb=>by
  obtain⟨h1,h2⟩:=hst.far b hb wK
  exact⟨h1,(if_neg fun hx=>by have:=hfresh b hx;omega).trans h2⟩,fun b=>by
  rcases hS'.live b with hb|hb
  ·exact .inl hb
  ·right;show(if gy h0 b then 0 else σ' b)=0;rw[hb];split<;>rfl⟩
 cases β with
 |nil=>have:=hS.shape.1;simp at this
 |cons bo bΩ=>
 have hlen:bo.length=bn.length:=by
  obtain⟨gr,g1,g2⟩:=hS.shape.2 0 bn rfl
  simp at g1;rw[g1];exact g2
 obtain⟨hS3,hk3,XQ⟩:=hS.push (o:=.xf (r.map qZ)) (h:=h0) hg hlen (by
  refine⟨fun j es hj=> ?_,fun j T hT=> ?_,fun b hb=>if_pos hb,fun j j' T T' x hjj hT hT' hx hx'=> ?_⟩
  ·rw[List.getElem?_map] at hj
   cases hd:r[j]? with
   |none=>rw[hd] at hj;cases hj
   |some d=>
    rw[hd] at hj
    simp only[Option.map_some,Option.some.injEq] at hj
    subst hj
    obtain⟨u,h1,h2⟩:=pJ.cell j d hd
    rw[hroot,h1]
    have hsc:(∀es,d≠ .sl es)→∃T,Option.map (fun u=>Option.getD u qg) (some u)=some T∧l7 w' (qZ d) T:=fun hne=>by
     have hu:u=none:=by cases d<;>first|exact absurd rfl (hne _)|exact h2.1
     have hr0:qZ d=[]:=by cases d<;>first|exact absurd rfl (hne _)|rfl
     subst hu
     rw[hr0]
     exact⟨qg,rfl,.nil none 0 _ rfl BI⟩
    cases d with
    |sl es=>obtain⟨T,rfl,_,_,h6⟩:=h2;exact⟨T,rfl,h6⟩
    |_=>exact hsc (fun es e=>by cases e)
  ·rw[List.length_map]
   rw[hroot] at hT
   cases hu:us[j]? with
   |none=>rw[hu] at hT;cases hT
   |some u=>rw[←pJ.len];exact(List.getElem?_eq_some_iff.1 hu).1
  ·rw[hroot] at hT hT'
   cases hu:us[j]? with
   |none=>rw[hu] at hT;cases hT
   |some u=>
    cases hu':us[j']? with
    |none=>rw[hu'] at hT';cases hT'
    |some u'=>
     rw[hu] at hT;rw[hu'] at hT'
     simp only[Option.map_some,Option.some.injEq] at hT hT'
     cases u with
     |none=>subst hT;exact qH hx
     |some u=>
      cases u' with
      |none=>subst hT';exact qH hx'
      |some u'=>simp at hT hT';subst hT;subst hT';exact pJ.apart j j' u u' x hjj hu hu' hx hx') (fun b hb=>hfresh b hb)
 refine⟨v,_,_,σ2,(bo++[h0])::bΩ,he,hS3,hk3,XQ,?_,rfl,rfl⟩
 refine hback _ _ _ _ _ (by rw[qW]) ⟨by rw[qW,XP],fun j x hx=> ?_⟩
 rw[Ia,Nat.zero_add] at hx
 cases hd:r[j]? with
 |none=>rw[hd] at hx;cases hx
 |some d=>
  rw[hd] at hx
  simp only[Option.map_some,Option.some.injEq] at hx
  obtain⟨u,h1,h2⟩:=pJ.cell j d hd
  have hjl:j<(dO r n).length:=by rw[fI];exact(List.getElem?_eq_some_iff.1 hd).1
  obtain⟨v0,h3,_,h4⟩:=hcs.2 j (.d (dO r n)[j]) (by rw[List.getElem?_map,List.getElem?_eq_getElem hjl];rfl)
  have hv0:Mq.getD j undef=v0:=by rw[List.getD_eq_getElem?_getD,h3];rfl
  simp only[hv0] at h2
  refine⟨v0,h3,?_,h4⟩
  have hsc:(∀es,d≠ .sl es)→fH w' σ2 ((bn++[.xf (r.map qZ)])::Ω) ((bo++[h0])::bΩ) (.d d) v0:=fun hne=>by
   have:SD d v0:=by cases d<;>first|exact absurd rfl (hne _)|exact h2.2
   exact EN this
  cases d with
  |sl es=>
   subst hx
   obtain⟨T,rfl,_,h5,_⟩:=h2
   refine⟨_,bJ _ _ _,fun rs _=>⟨h0,by rw[←hlen,bJ],?_⟩⟩
   unfold vY
   rw[hroot,h1]
   exact h5
  |_=>subst hx;exact hsc (fun es e=>by cases e)
end
end Go.Ab
namespace Go.Ab
section
variable {P:Program} {w w':World} {σ σ':Nat→Nat} {S:Store} {β:Hs}
def abq(r:V):Prop:=∀w σ σ2 S β S2 β2 v,(∀b c t fz,w.heap[b]? =some (.cells c t fz)→c.size<σ b→σ2 b=σ b)→bQ w σ S β r v→bQ w σ2 S2 β2 r v
mutual
theorem aeB{σ2:Nat→Nat}(hs:∀b c t fz,w.heap[b]? =some (.cells c t fz)→c.size<σ b→σ2 b=σ b):∀(d:D) (n:Nat) (v:Value),nT d=true→bU w σ (kL d n) v→bU w σ2 (kL d n) v
 | .sl es,n,v,hp,h=>by
   rw[kL] at h ⊢
   have hrec:=YF hs es (n+1)
   generalize dZ es (n+1)=q at h hrec ⊢
   cases h with
   |pK n a cap=>exact .pK n a cap
   |ol n b off cap z q vals c t hcap hlen hb hσ hfit hc hv=>exact .ol n b off cap z q vals c t hcap hlen hb ((hs b c t _ hb (by omega)).trans hσ) hfit hc (hrec vals (by simpa [nT] using hp) hv)
 | .ol m es,n,v,hp,h=>by simp[nT] at hp
 | .b x,n,v,hp,h=>by rw[kL] at h ⊢;cases h;constructor
 | .i k x,n,v,hp,h=>by rw[kL] at h ⊢;cases h;constructor
 | .s l,n,v,hp,h=>by rw[kL] at h ⊢;cases h;constructor
 | .o u,n,v,hp,h=>by simp[nT] at hp
theorem abr{σ2:Nat→Nat}(hs:∀b c t fz,w.heap[b]? =some (.cells c t fz)→c.size<σ b→σ2 b=σ b):∀(r:List D) (n:Nat) (vals:Nat→Value),gP r=true→(∀(j:Nat) (d:D),(dO r n)[j]? =some d→bU w σ d (vals j))→
 ∀(j:Nat) (d:D),(dO r n)[j]? =some d→bU w σ2 d (vals j)
 |[],n,vals,hp,h,j,d,hd=>by simp[dO] at hd
 |a::r,n,vals,hp,h,j,d,hd=>by
  rw[gP,Bool.and_eq_true] at hp
  rw[dO] at h hd
  cases j with
  |zero=>
   simp at hd;subst hd
   exact aeB hs a n _ hp.1 (h 0 _ rfl)
  |succ j=>exact abr hs r (n+mZ a) (fun i=>vals (i+1)) hp.2 (fun i d hi=>h (i+1) d hi) j d hd
theorem YF{σ2:Nat→Nat}(hs:∀b c t fz,w.heap[b]? =some (.cells c t fz)→c.size<σ b→σ2 b=σ b):∀(rs:List (List D)) (n:Nat) (vals:Nat→Value),iy rs=true→(∀(j:Nat) (d:D),(dZ rs n).flatten[j]? =some d→bU w σ d (vals j))→
 ∀(j:Nat) (d:D),(dZ rs n).flatten[j]? =some d→bU w σ2 d (vals j)
 |[],n,vals,hp,h,j,d,hd=>by simp[dZ] at hd
 |r::rs,n,vals,hp,h,j,d,hd=>by
  rw[iy,Bool.and_eq_true] at hp
  rw[dZ,List.flatten_cons] at h hd
  by_cases hj:j<(dO r n).length
  ·rw[List.getElem?_append_left hj] at hd
   exact abr hs r n vals hp.1 (fun j d hd=>h j d (by rw[List.getElem?_append_left (List.getElem?_eq_some_iff.1 hd).1];exact hd)) j d hd
  ·rw[List.getElem?_append_right (by omega)] at hd
   have:=YF hs rs (n+nJ r) (fun i=>vals ((dO r n).length+i)) hp.2 (fun j d hd=>h _ d (by rw[List.getElem?_append_right (by omega),Nat.add_sub_cancel_left];exact hd)) (j-(dO r n).length) d hd
   rwa [show(dO r n).length+(j-(dO r n).length)=j by omega] at this
end
theorem Ag{c:C}(h:Ml c=true):abq (.c c):=fun w σ σ2 S β S2 β2 v _ hv=>⟨FJ h hv.1 _ _ _ _,hv.2⟩
theorem l7.data{es:List (List D)}{T v:Value}(h:l7 w es T)(hv:hdr T=some v)(hσ:∀b c t fz,jv T b→w.heap[b]? =some (.cells c t fz)→c.size≤σ b):bU w σ (.sl es) v:=by
 induction h generalizing v with
 |nil a cap T h hk=>rw[h] at hv;cases hv;exact .nil a cap
 |mk b off cap z es T c t vals kids hh hne hcap hlen hb hfit hc hs hk hx hself hap oV ih=>
  rw[hh] at hv;cases hv
  have hpos:0<es.length:=List.length_pos_iff.2 hne
  have hfl:=jw es z hlen
  have hidx:∀j,j<es.length*z→∃hi:j/z<es.length,j % z<z∧j/z*z+j % z=j:=fun j hj=>by
   have hz:0<z:=by rcases Nat.eq_zero_or_pos z with h|h;·rw[h] at hj;simp at hj
                   ·exact h
   exact⟨(Nat.div_lt_iff_lt_mul hz).2 hj,Nat.mod_lt _ hz,by rw[Nat.mul_comm];exact Nat.div_add_mod j z⟩
  have hcell:∀j d,es.flatten[j]? =some d→∃hi:j/z<es.length,cellAt es (j/z) (j % z)=some d∧j/z*z+j % z=j:=fun j d hd=>by
   have hj:j<es.length*z:=by rw[←hfl];exact(List.getElem?_eq_some_iff.1 hd).1
   obtain⟨hi,hm,he⟩:=hidx j hj
   refine⟨hi,?_,he⟩
   have:=flat_get es z hlen (j/z) (j % z) hi hm
   rw[he,hd] at this
   unfold cellAt
   rw[List.getElem?_eq_getElem hi]
   exact this.symm
  refine .sl b off cap z es (fun j=>vals (j/z) (j % z)) c t (0,0) hcap hlen hb (Nat.le_trans hfit (hσ b c t _ (.here hh hpos) hb)) (fun j hj=> ?_) (fun j d hd=> ?_)
  ·obtain⟨hi,hce,he⟩:=hcell j _ (List.getElem?_eq_getElem (by rw[hfl];exact hj))
   have:=hc _ _ _ hce
   rwa [he] at this
  ·obtain⟨hi,hce,he⟩:=hcell j d hd
   rcases hs _ _ _ hce with⟨es',rfl⟩|hsd
   ·obtain⟨k1,k2⟩:=hk _ _ _ hce
    exact ih _ _ _ hce k2 fun b' c' t' KX ho hb'=>hσ b' c' t' KX (.kid k1 ho) hb'
   ·exact EN hsd
def C9(k:Key)(rs:List (List (List D))):C→C
 | .xp k' r []=>if k'=k then(match rs[r]? with|some es=>.d (.sl es)|none=>.any) else .any
 | .d x=>.d x
 |_=>.any
def FK(k:Key)(rs:List (List (List D))):V→V
 | .c x=>.c (C9 k rs x)
 | .agg cs=>.agg (cs.map (C9 k rs))
 |_=>.any
open Classical in
theorem bA.lend{f:FuncId}{args:List V}{k:Key}{rs:List (List (List D))}{r:V}(hk:aR S k=some (.xf rs))(hr:abq r)(h:aH P f (args.map (FK k rs)) r):bA P f args S (fun r' S'=>r'=r∧S'=S):=by
 refine⟨(h S).1,fun w σ β vs hS hargs=> ?_⟩
 obtain⟨hh,hb,vN⟩:=hS.obj k _ hk
 obtain⟨hX1,hX2,AP,Pm⟩:=vN
 let vk:Nat→Nat:=fun b=>match w.heap[b]? with
  |some (.cells c _ _)=>c.size
  |_=>0
 have Mr:∀b c t fz,w.heap[b]? =some (.cells c t fz)→vk b=c.size:=fun b c t fz e=>by simp[vk,e]
 have hXlt:∀b,gy hh b→b<w.heap.size:=fun b hb'=>tL (o:=.xf rs) (S:=S) (β:=β) ⟨hX1,hX2,AP,Pm⟩ hb'
 let σ1:Nat→Nat:=fun b=>if gy hh b then vk b else σ b
 have hn1:dU w σ w σ1:=fun b c t fz e=>by
  refine⟨?_,fun hlt=> ?_,c,e,rfl,fun _ _=>rfl⟩
  ·show σ b≤if gy hh b then vk b else σ b
   split
   ·rename_i hx;rw[AP b hx];exact Nat.zero_le _
   ·exact Nat.le_refl _
  ·show(if gy hh b then vk b else σ b)=σ b
   rw[if_neg fun hx=>by have:=AP b hx;omega]
 have hS1:dx w σ1 [] []:=by
  refine Af (fun b=> ?_) (hS.oW.near hn1)
  by_cases hx:gy hh b
  ·exact .inl (hXlt b hx)
  ·rcases hS.live b with h'|h'
   ·exact .inl h'
   ·right;show(if gy hh b then vk b else σ b)=0;rw[if_neg hx];exact h'
 have hlc:∀c v,fH w σ S β c v→fH w σ1 [] [] (C9 k rs c) v:=by
  intro c v hc
  unfold C9
  split
  ·rename_i k' r'
   split
   ·rename_i e
    subst e
    split
    ·rename_i es hes
     obtain⟨o,ho,h2⟩:=hc
     rw[hk] at ho;cases ho
     obtain⟨h',e1,e2⟩:=h2 rs rfl
     rw[hb] at e1;cases e1
     obtain⟨T,q1,q2⟩:=hX1 r' es hes
     unfold vY at e2
     rw[q1] at e2
     refine q2.data e2 fun b c t fz ho hb'=> ?_
     show c.size≤if gy hh b then vk b else σ b
     rw[if_pos ⟨r',T,q1,ho⟩,Mr b c t fz hb']
     exact Nat.le_refl _
    ·trivial
   ·trivial
  ·exact bU.mono hn1 hc
  ·trivial
 have BJ:kQ w σ1 [] [] (args.map (FK k rs)) vs:=by
  refine⟨by rw[List.length_map];exact hargs.1,fun j x hx=> ?_⟩
  rw[List.getElem?_map] at hx
  cases ha:args[j]? with
  |none=>rw[ha] at hx;cases hx
  |some y=>
   rw[ha] at hx;cases hx
   obtain⟨v,h1,h2⟩:=hargs.2 j y ha
   refine⟨v,h1,?_⟩
   cases y with
   |c x=>exact⟨hlc x v h2.1,h2.2⟩
   |agg cs=>
    obtain⟨a,e,hl,hc⟩:=h2
    refine⟨a,e,by rw[List.length_map];exact hl,fun i x hx=> ?_⟩
    rw[List.getElem?_map] at hx
    cases hi:cs[i]? with
    |none=>rw[hi] at hx;cases hx
    |some y=>
     rw[hi] at hx;cases hx
     obtain⟨u,q1,q2,q3⟩:=hc i y hi
     exact⟨u,q1,hlc y u q2,q3⟩
   |_=>trivial
 refine((h []).2 w σ1 [] vs hS1 BJ).mono fun e w' ⟨v,r',S',σ',β',he,hS',hk',hst,hv,hr',hS2⟩=> ?_
 subst hr';subst hS2
 let σ2:Nat→Nat:=fun b=>if gy hh b then 0 else σ' b
 have hg:Grow w σ w' σ2:=⟨hst.size,hst.os,hst.output,fun b hlt=>by
  obtain⟨h1,h2⟩:=hst.far b hlt wK
  refine⟨h1,?_⟩
  show(if gy hh b then 0 else σ' b)=σ b
  by_cases hx:gy hh b
  ·rw[if_pos hx,AP b hx]
  ·rw[if_neg hx,h2]
   exact if_neg hx,fun b=>by
  rcases hS'.live b with h'|h'
  ·exact .inl h'
  ·right;show(if gy hh b then 0 else σ' b)=0;rw[h'];split<;>rfl⟩
 refine⟨v,_,_,σ2,β,he,hS.grow hg,Keep.refl _ _,Step.jQ hg,?_,rfl,rfl⟩
 refine hr w' σ' σ2 _ _ _ _ v (fun b c t fz e hlt=> ?_) hv
 by_cases hx:gy hh b
 ·obtain⟨h1,h2⟩:=hst.far b (hXlt b hx) wK
  rw[h1] at e
  have:σ1 b=vk b:=if_pos hx
  rw[h2,this,Mr b c t fz e] at hlt
  omega
 ·exact if_neg hx
end
end Go.Ab
namespace Go.Ab
section
variable {P:Program} {w w':World} {σ σ':Nat→Nat} {S:Store} {β:Hs}
open Classical in
theorem RJ{args:List V}{k:Key}{rs:List (List (List D))}(hk:aR S k=some (.xf rs)){vs:List Value}(hS:dx w σ S β)(hargs:kQ w σ S β args vs):
 ∃(σ1:Nat→Nat) (X:Nat→Prop),(∀b,¬X b→σ1 b=σ b)∧(∀b,X b→σ b=0∧b<w.heap.size)∧(∀b c t fz,X b→w.heap[b]? =some (.cells c t fz)→σ1 b≤c.size)∧dx w σ1 [] []∧kQ w σ1 [] [] (args.map (FK k rs)) vs:=by
 obtain⟨hh,hb,vN⟩:=hS.obj k _ hk
 obtain⟨hX1,hX2,AP,Pm⟩:=vN
 let vk:Nat→Nat:=fun b=>match w.heap[b]? with
  |some (.cells c _ _)=>c.size
  |_=>0
 have Mr:∀b c t fz,w.heap[b]? =some (.cells c t fz)→vk b=c.size:=fun b c t fz e=>by simp[vk,e]
 have hXlt:∀b,gy hh b→b<w.heap.size:=fun b hb'=>tL (o:=.xf rs) (S:=S) (β:=β) ⟨hX1,hX2,AP,Pm⟩ hb'
 let σ1:Nat→Nat:=fun b=>if gy hh b then vk b else σ b
 have hn1:dU w σ w σ1:=fun b c t fz e=>by
  refine⟨?_,fun hlt=> ?_,c,e,rfl,fun _ _=>rfl⟩
  ·show σ b≤if gy hh b then vk b else σ b
   split
   ·rename_i hx;rw[AP b hx];exact Nat.zero_le _
   ·exact Nat.le_refl _
  ·show(if gy hh b then vk b else σ b)=σ b
   rw[if_neg fun hx=>by have:=AP b hx;omega]
 have hS1:dx w σ1 [] []:=by
  refine Af (fun b=> ?_) (hS.oW.near hn1)
  by_cases hx:gy hh b
  ·exact .inl (hXlt b hx)
  ·rcases hS.live b with h'|h'
   ·exact .inl h'
   ·right;show(if gy hh b then vk b else σ b)=0;rw[if_neg hx];exact h'
 have hlc:∀c v,fH w σ S β c v→fH w σ1 [] [] (C9 k rs c) v:=by
  intro c v hc
  unfold C9
  split
  ·rename_i k' r'
   split
   ·rename_i e
    subst e
    split
    ·rename_i es hes
     obtain⟨o,ho,h2⟩:=hc
     rw[hk] at ho;cases ho
     obtain⟨h',e1,e2⟩:=h2 rs rfl
     rw[hb] at e1;cases e1
     obtain⟨T,q1,q2⟩:=hX1 r' es hes
     unfold vY at e2
     rw[q1] at e2
     refine q2.data e2 fun b c t fz ho hb'=> ?_
     show c.size≤if gy hh b then vk b else σ b
     rw[if_pos ⟨r',T,q1,ho⟩,Mr b c t fz hb']
     exact Nat.le_refl _
    ·trivial
   ·trivial
  ·exact bU.mono hn1 hc
  ·trivial
 have BJ:kQ w σ1 [] [] (args.map (FK k rs)) vs:=by
  refine⟨by rw[List.length_map];exact hargs.1,fun j x hx=> ?_⟩
  rw[List.getElem?_map] at hx
  cases ha:args[j]? with
  |none=>rw[ha] at hx;cases hx
  |some y=>
   rw[ha] at hx;cases hx
   obtain⟨v,h1,h2⟩:=hargs.2 j y ha
   refine⟨v,h1,?_⟩
   cases y with
   |c x=>exact⟨hlc x v h2.1,h2.2⟩
   |agg cs=>
    obtain⟨a,e,hl,hc⟩:=h2
    refine⟨a,e,by rw[List.length_map];exact hl,fun i x hx=> ?_⟩
    rw[List.getElem?_map] at hx
    cases hi:cs[i]? with
    |none=>rw[hi] at hx;cases hx
    |some y=>
     rw[hi] at hx;cases hx
     obtain⟨u,q1,q2,q3⟩:=hc i y hi
     exact⟨u,q1,hlc y u q2,q3⟩
   |_=>trivial
 exact⟨σ1,fun b=>gy hh b,fun b hx=>if_neg hx,fun b hx=>⟨AP b hx,hXlt b hx⟩,fun b c t fz hx e=>by
  show(if gy hh b then vk b else σ b)≤c.size
  rw[if_pos hx,Mr b c t fz e]
  exact Nat.le_refl _,hS1,BJ⟩
open Classical in
theorem bA.aeC{f:FuncId}{args:List V}{bn:List Obj}{Ω:Store}{mk:List C→V}{r:List D}{k:Key}{rs:List (List (List D))}(hk:aR (bn::Ω) k=some (.xf rs))(hm:FI mk r.length)(hp:gP r=true)
 (h:∀n,aH P f (args.map (FK k rs)) (mk ((dO r n).map .d))):
 bA P f args (bn::Ω) (fun r' S'=>r'=mk (yO (0,bn.length) 0 r)∧S'=(bn++[.xf (r.map qZ)])::Ω):=by
 refine⟨(h 0 []).1,fun w σ β vs hS hargs=> ?_⟩
 obtain⟨σ1,X,hl1,hl2,hl3,hS1,BJ⟩:=RJ hk hS hargs
 obtain⟨n,hn⟩:=Eo σ1 w.heap.size
 refine((h n []).2 w σ1 [] vs hS1 BJ).mono fun e w' ⟨v,r',S',σ',β',he,hS',hk,hst,hv,hr',hS2⟩=> ?_
 subst hr';subst hS2
 obtain⟨Mq,hcs,hback⟩:=hm w' σ' _ β' _ v (by rw[List.length_map,fI]) hv
 have XP:Mq.length=r.length:=by rw[←hcs.1,List.length_map,fI]
 obtain⟨us,pJ⟩:=KC r n (fun j=>Mq.getD j undef) hp (fun j d hd=>by
  obtain⟨u,h1,h2,_⟩:=hcs.2 j (.d d) (by rw[List.getElem?_map,hd];rfl)
  simp only[List.getD_eq_getElem?_getD,h1,Option.getD_some]
  exact h2)
 let h0:Value:=.tuple (us.map fun u=>u.getD qg).toArray
 have hroot:∀j,pO h0 j=(us[j]?).map fun u=>u.getD qg:=fun j=>by simp[h0,pO]
 have hfresh:∀b,gy h0 b→w.heap.size≤b:=by
  rintro b ⟨j,T,h1,h2⟩
  rw[hroot] at h1
  cases hu:us[j]? with
  |none=>rw[hu] at h1;cases h1
  |some u=>
   rw[hu] at h1
   simp only[Option.map_some,Option.some.injEq] at h1
   cases u with
   |none=>subst h1;exact absurd h2 qH
   |some u=>
    simp at h1;subst h1
    obtain⟨c,t,fz,m,a1,a2,a3,a4⟩:=pJ.own j u hu b h2
    refine Nat.le_of_not_lt fun hlt=> ?_
    have h1:=(hst.far b hlt wK).2
    have h2:=hn b hlt
    omega
 let σ2:Nat→Nat:=fun b=>if gy h0 b then 0 else if X b then 0 else σ' b
 have hg:Grow w σ w' σ2:=⟨hst.size,hst.os,hst.output,fun b hb=>by
  obtain⟨h1,h2⟩:=hst.far b hb wK
  refine⟨h1,(if_neg fun hx=>by have:=hfresh b hx;omega).trans ?_⟩
  by_cases hx:X b
  ·rw[if_pos hx,(hl2 b hx).1]
  ·rw[if_neg hx,h2,hl1 b hx],fun b=>by
  rcases hS'.live b with hb|hb
  ·exact .inl hb
  ·right;show(if gy h0 b then 0 else if X b then 0 else σ' b)=0;rw[hb];split<;>first|rfl|(split<;>rfl)⟩
 cases β with
 |nil=>have:=hS.shape.1;simp at this
 |cons bo bΩ=>
 have hlen:bo.length=bn.length:=by
  obtain⟨gr,g1,g2⟩:=hS.shape.2 0 bn rfl
  simp at g1;rw[g1];exact g2
 obtain⟨hS3,hk3,XQ⟩:=hS.push (o:=.xf (r.map qZ)) (h:=h0) hg hlen (by
  refine⟨fun j es hj=> ?_,fun j T hT=> ?_,fun b hb=>if_pos hb,fun j j' T T' x hjj hT hT' hx hx'=> ?_⟩
  ·rw[List.getElem?_map] at hj
   cases hd:r[j]? with
   |none=>rw[hd] at hj;cases hj
   |some d=>
    rw[hd] at hj
    simp only[Option.map_some,Option.some.injEq] at hj
    subst hj
    obtain⟨u,h1,h2⟩:=pJ.cell j d hd
    rw[hroot,h1]
    have hsc:(∀es,d≠ .sl es)→∃T,Option.map (fun u=>Option.getD u qg) (some u)=some T∧l7 w' (qZ d) T:=fun hne=>by
     have hu:u=none:=by cases d<;>first|exact absurd rfl (hne _)|exact h2.1
     have hr0:qZ d=[]:=by cases d<;>first|exact absurd rfl (hne _)|rfl
     subst hu
     rw[hr0]
     exact⟨qg,rfl,.nil none 0 _ rfl BI⟩
    cases d with
    |sl es=>obtain⟨T,rfl,_,_,h6⟩:=h2;exact⟨T,rfl,h6⟩
    |_=>exact hsc (fun es e=>by cases e)
  ·rw[List.length_map]
   rw[hroot] at hT
   cases hu:us[j]? with
   |none=>rw[hu] at hT;cases hT
   |some u=>rw[←pJ.len];exact(List.getElem?_eq_some_iff.1 hu).1
  ·rw[hroot] at hT hT'
   cases hu:us[j]? with
   |none=>rw[hu] at hT;cases hT
   |some u=>
    cases hu':us[j']? with
    |none=>rw[hu'] at hT';cases hT'
    |some u'=>
     rw[hu] at hT;rw[hu'] at hT'
     simp only[Option.map_some,Option.some.injEq] at hT hT'
     cases u with
     |none=>subst hT;exact qH hx
     |some u=>
      cases u' with
      |none=>subst hT';exact qH hx'
      |some u'=>simp at hT hT';subst hT;subst hT';exact pJ.apart j j' u u' x hjj hu hu' hx hx') (fun b hb=>hfresh b hb)
 refine⟨v,_,_,σ2,(bo++[h0])::bΩ,he,hS3,hk3,XQ,?_,rfl,rfl⟩
 refine hback _ _ _ _ _ (by rw[qW]) ⟨by rw[qW,XP],fun j x hx=> ?_⟩
 rw[Ia,Nat.zero_add] at hx
 cases hd:r[j]? with
 |none=>rw[hd] at hx;cases hx
 |some d=>
  rw[hd] at hx
  simp only[Option.map_some,Option.some.injEq] at hx
  obtain⟨u,h1,h2⟩:=pJ.cell j d hd
  have hjl:j<(dO r n).length:=by rw[fI];exact(List.getElem?_eq_some_iff.1 hd).1
  obtain⟨v0,h3,_,h4⟩:=hcs.2 j (.d (dO r n)[j]) (by rw[List.getElem?_map,List.getElem?_eq_getElem hjl];rfl)
  have hv0:Mq.getD j undef=v0:=by rw[List.getD_eq_getElem?_getD,h3];rfl
  simp only[hv0] at h2
  refine⟨v0,h3,?_,h4⟩
  have hsc:(∀es,d≠ .sl es)→fH w' σ2 ((bn++[.xf (r.map qZ)])::Ω) ((bo++[h0])::bΩ) (.d d) v0:=fun hne=>by
   have:SD d v0:=by cases d<;>first|exact absurd rfl (hne _)|exact h2.2
   exact EN this
  cases d with
  |sl es=>
   subst hx
   obtain⟨T,rfl,_,h5,_⟩:=h2
   refine⟨_,bJ _ _ _,fun rs _=>⟨h0,by rw[←hlen,bJ],?_⟩⟩
   unfold vY
   rw[hroot,h1]
   exact h5
  |_=>subst hx;exact hsc (fun es e=>by cases e)
theorem Ms:∀{p:List (Nat×Nat)} {es old new:List (List D)},qK es p=some old→qK (mV es p new) p=some new
 |[],_,_,_,_=>rfl
 |(i,o)::p,es,old,new,h=>by
  rw[qK] at h
  rw[mV]
  cases hc:cellAt es i o with
  |none=>rw[hc] at h;cases h
  |some d=>
   rw[hc] at h
   cases d with
   |sl es'=>
    simp only at h ⊢
    have hi:i<es.length∧o<(es.getD i []).length:=by
     unfold cellAt at hc
     cases he:es[i]? with
     |none=>rw[he] at hc;cases hc
     |some r=>
      rw[he] at hc
      refine⟨(List.getElem?_eq_some_iff.1 he).1,?_⟩
      rw[List.getD_eq_getElem?_getD,he]
      exact(List.getElem?_eq_some_iff.1 hc).1
    have h2:cellAt (es.set i ((es.getD i []).set o (.sl (mV es' p new)))) i o=some (.sl (mV es' p new)):=by
     unfold cellAt
     rw[List.getElem?_set_self hi.1,Option.bind_some,List.getElem?_set_self hi.2]
    rw[qK,h2]
    exact Ms h
   |_=>cases h
theorem uw{es es' new:List (List D)}{i o:Nat}{p:List (Nat×Nat)}(h:cellAt es i o=some (.sl es')):mV es ((i,o)::p) new=es.set i ((es.getD i []).set o (.sl (mV es' p new))):=by
 rw[mV,h]
theorem Jc:∀{p:List (Nat×Nat)} {es old a b:List (List D)},qK es p=some old→mV (mV es p a) p b=mV es p b
 |[],_,_,_,_,_=>rfl
 |(i,o)::p,es,old,a,b,h=>by
  rw[qK] at h
  cases hc:cellAt es i o with
  |none=>rw[hc] at h;cases h
  |some d=>
   rw[hc] at h
   cases d with
   |sl es'=>
    simp only at h ⊢
    have hi:i<es.length∧o<(es.getD i []).length:=by
     unfold cellAt at hc
     cases he:es[i]? with
     |none=>rw[he] at hc;cases hc
     |some r=>
      rw[he] at hc
      refine⟨(List.getElem?_eq_some_iff.1 he).1,?_⟩
      rw[List.getD_eq_getElem?_getD,he]
      exact(List.getElem?_eq_some_iff.1 hc).1
    have h2:cellAt (es.set i ((es.getD i []).set o (.sl (mV es' p a)))) i o=some (.sl (mV es' p a)):=by
     unfold cellAt
     rw[List.getElem?_set_self hi.1,Option.bind_some,List.getElem?_set_self hi.2]
    rw[uw hc,uw hc,uw h2,Jc h,List.set_set]
    congr 1
    rw[List.getD_eq_getElem?_getD,List.getElem?_set_self hi.1,Option.getD_some,List.set_set]
   |_=>cases h
theorem Mt:∀{p:List (Nat×Nat)} {es old es':List (List D)} {i o:Nat},qK es p=some old→cellAt old i o=some (.sl es')→qK es (p++[(i,o)])=some es'
 |[],es,old,es',i,o,h,hc=>by cases h;rw[List.nil_append,qK,hc];rfl
 |(i',o')::p,es,old,es',i,o,h,hc=>by
  rw[List.cons_append,qK]
  rw[qK] at h
  cases hd:cellAt es i' o' with
  |none=>rw[hd] at h;cases h
  |some d=>
   rw[hd] at h
   cases d with
   |sl e=>exact Mt h hc
   |_=>cases h
theorem Jd:∀{p:List (Nat×Nat)} {es old es' new:List (List D)} {i o:Nat},qK es p=some old→cellAt old i o=some (.sl es')→mV es (p++[(i,o)]) new=mV es p (old.set i ((old.getD i []).set o (.sl new)))
 |[],es,old,es',new,i,o,h,hc=>by cases h;rw[List.nil_append,uw hc];rfl
 |(i',o')::p,es,old,es',new,i,o,h,hc=>by
  rw[List.cons_append]
  rw[qK] at h
  cases hd:cellAt es i' o' with
  |none=>rw[hd] at h;cases h
  |some d=>
   rw[hd] at h
   cases d with
   |sl e=>simp only at h;rw[uw hd,uw hd,Jd h hc]
   |_=>cases h
theorem BK{rs:List (List (List D))}{r:Nat}{p:List (Nat×Nat)}{old:List (List D)}(h:atR rs r p=some old):∃hr:r<rs.length,qK rs[r] p=some old:=by
 unfold atR at h
 cases hr:rs[r]? with
 |none=>rw[hr] at h;cases h
 |some es=>
  rw[hr] at h
  obtain⟨h1,h2⟩:=List.getElem?_eq_some_iff.1 hr
  exact⟨h1,by rw[h2];exact h⟩
theorem ou{rs:List (List (List D))}{r:Nat}{p:List (Nat×Nat)}{old new:List (List D)}(h:atR rs r p=some old):atR (cO rs r p new) r p=some new:=by
 obtain⟨hr,h⟩:=BK h
 unfold atR cO
 rw[List.getElem?_set_self hr,Option.bind_some,List.getD_eq_getElem?_getD,List.getElem?_eq_getElem hr,Option.getD_some]
 exact Ms h
theorem nU{rs:List (List (List D))}{r:Nat}{p:List (Nat×Nat)}{old a b:List (List D)}(h:atR rs r p=some old):cO (cO rs r p a) r p b=cO rs r p b:=by
 obtain⟨hr,h⟩:=BK h
 unfold cO
 rw[List.set_set,List.getD_eq_getElem?_getD,List.getElem?_set_self hr,List.getD_eq_getElem?_getD,List.getElem?_eq_getElem hr,Option.getD_some,Option.getD_some,Jc h]
theorem Je:∀{p:List (Nat×Nat)} {es old:List (List D)},qK es p=some old→mV es p old=es
 |[],_,_,h=>by cases h;rfl
 |(i,o)::p,es,old,h=>by
  rw[qK] at h
  cases hc:cellAt es i o with
  |none=>rw[hc] at h;cases h
  |some d=>
   rw[hc] at h
   cases d with
   |sl es'=>
    simp only at h
    rw[uw hc,Je h]
    unfold cellAt at hc
    cases he:es[i]? with
    |none=>rw[he] at hc;cases hc
    |some r=>
     rw[he] at hc
     obtain⟨h1,h2⟩:=List.getElem?_eq_some_iff.1 he
     obtain⟨h3,h4⟩:=List.getElem?_eq_some_iff.1 hc
     rw[List.getD_eq_getElem?_getD,he,Option.getD_some,←h4,List.set_getElem_self,←h2,List.set_getElem_self]
   |_=>cases h
theorem qh{rs:List (List (List D))}{r:Nat}{p:List (Nat×Nat)}{old:List (List D)}(h:atR rs r p=some old):cO rs r p old=rs:=by
 obtain⟨hr,h⟩:=BK h
 unfold cO
 rw[List.getD_eq_getElem?_getD,List.getElem?_eq_getElem hr,Option.getD_some,Je h,List.set_getElem_self]
theorem lX{rs:List (List (List D))}{r i o:Nat}{p:List (Nat×Nat)}{old es':List (List D)}(h:atR rs r p=some old)(hc:cellAt old i o=some (.sl es')):atR rs r (p++[(i,o)])=some es':=by
 obtain⟨hr,h⟩:=BK h
 unfold atR
 rw[List.getElem?_eq_getElem hr,Option.bind_some]
 exact Mt h hc
theorem UK{rs:List (List (List D))}{r i o:Nat}{p:List (Nat×Nat)}{old es' new:List (List D)}(h:atR rs r p=some old)(hc:cellAt old i o=some (.sl es')):
 cO rs r (p++[(i,o)]) new=cO rs r p (old.set i ((old.getD i []).set o (.sl new))):=by
 obtain⟨hr,h⟩:=BK h
 unfold cO
 rw[List.getD_eq_getElem?_getD,List.getElem?_eq_getElem hr,Option.getD_some,Jd h hc]
theorem gY{rs:List (List (List D))}{r r':Nat}{p p':List (Nat×Nat)}{new:List (List D)}(h:r≠r'):atR (cO rs r p new) r' p'=atR rs r' p':=by
 unfold atR cO
 rw[List.getElem?_set_ne h]
end
end Go.Ab
namespace Go.Proofs.YtlmhknhlmicmeaaGreatDoor.Fa
open Go Go.Ab
theorem ty1:Tryz.prog.cellsOf 1=1∧Tryz.prog.bytesOf 1=8∧(Tryz.prog.info? 1).isSome=true∧aM Tryz.prog 1=some [.d (.o .nilFunc)]:=⟨by kernel_rfl,by kernel_rfl,by kernel_rfl,by kernel_rfl⟩
theorem ty2:Tryz.prog.cellsOf 2=1∧Tryz.prog.bytesOf 2=8∧(Tryz.prog.info? 2).isSome=true∧aM Tryz.prog 2=some [.d (.i .i64 0)]:=⟨by kernel_rfl,by kernel_rfl,by kernel_rfl,by kernel_rfl⟩
theorem ty3:Tryz.prog.cellsOf 3=1∧Tryz.prog.bytesOf 3=8∧(Tryz.prog.info? 3).isSome=true∧aM Tryz.prog 3=some [.d (.i .i64 0)]:=⟨by kernel_rfl,by kernel_rfl,by kernel_rfl,by kernel_rfl⟩
theorem ty4:Tryz.prog.cellsOf 4=1∧Tryz.prog.bytesOf 4=1∧(Tryz.prog.info? 4).isSome=true∧aM Tryz.prog 4=some [.d (.b false)]:=⟨by kernel_rfl,by kernel_rfl,by kernel_rfl,by kernel_rfl⟩
theorem acH:zeroV Tryz.prog 4=some (.bool false):=by kernel_rfl
theorem ty5:Tryz.prog.cellsOf 5=1∧Tryz.prog.bytesOf 5=1∧(Tryz.prog.info? 5).isSome=true∧aM Tryz.prog 5=some [.d (.i .u8 0)]:=⟨by kernel_rfl,by kernel_rfl,by kernel_rfl,by kernel_rfl⟩
theorem ty9:Tryz.prog.cellsOf 9=1∧Tryz.prog.bytesOf 9=16∧(Tryz.prog.info? 9).isSome=true∧aM Tryz.prog 9=some [.d (.s [])]:=⟨by kernel_rfl,by kernel_rfl,by kernel_rfl,by kernel_rfl⟩
theorem aeD:Tryz.prog.cellsOf 12=1∧Tryz.prog.bytesOf 12=8∧(Tryz.prog.info? 12).isSome=true∧aM Tryz.prog 12=some [.d (.i .u64 0)]:=⟨by kernel_rfl,by kernel_rfl,by kernel_rfl,by kernel_rfl⟩
theorem aeE:Tryz.prog.cellsOf 20=1∧Tryz.prog.bytesOf 20=16∧(Tryz.prog.info? 20).isSome=true∧aM Tryz.prog 20=some [.d (.o .nilIface)]:=⟨by kernel_rfl,by kernel_rfl,by kernel_rfl,by kernel_rfl⟩
theorem aeF:Tryz.prog.cellsOf 21=1∧Tryz.prog.bytesOf 21=4∧(Tryz.prog.info? 21).isSome=true∧aM Tryz.prog 21=some [.d (.i .i32 0)]:=⟨by kernel_rfl,by kernel_rfl,by kernel_rfl,by kernel_rfl⟩
theorem aeG:Tryz.prog.cellsOf 22=1∧Tryz.prog.bytesOf 22=24∧(Tryz.prog.info? 22).isSome=true∧aM Tryz.prog 22=some [.aL []]:=⟨by kernel_rfl,by kernel_rfl,by kernel_rfl,by kernel_rfl⟩
theorem aeH:Tryz.prog.cellsOf 23=1∧Tryz.prog.bytesOf 23=24∧(Tryz.prog.info? 23).isSome=true∧aM Tryz.prog 23=some [.aL []]:=⟨by kernel_rfl,by kernel_rfl,by kernel_rfl,by kernel_rfl⟩
theorem aeI:Tryz.prog.cellsOf 24=1∧Tryz.prog.bytesOf 24=24∧(Tryz.prog.info? 24).isSome=true∧aM Tryz.prog 24=some [.aL []]:=⟨by kernel_rfl,by kernel_rfl,by kernel_rfl,by kernel_rfl⟩
theorem aeJ:Tryz.prog.cellsOf 25=1∧Tryz.prog.bytesOf 25=24∧(Tryz.prog.info? 25).isSome=true∧aM Tryz.prog 25=some [.aL []]:=⟨by kernel_rfl,by kernel_rfl,by kernel_rfl,by kernel_rfl⟩
theorem aeK:Tryz.prog.cellsOf 26=1∧Tryz.prog.bytesOf 26=24∧(Tryz.prog.info? 26).isSome=true∧aM Tryz.prog 26=some [.aL []]:=⟨by kernel_rfl,by kernel_rfl,by kernel_rfl,by kernel_rfl⟩
theorem aeL:Tryz.prog.cellsOf 27=6∧Tryz.prog.bytesOf 27=136∧(Tryz.prog.info? 27).isSome=true∧aM Tryz.prog 27=some [.d (.s []),.aL [],.aL [],.aL [],.aL [],.aL []]:=⟨by kernel_rfl,by kernel_rfl,by kernel_rfl,by kernel_rfl⟩
theorem aeM:Tryz.prog.cellsOf 28=6∧Tryz.prog.bytesOf 28=136∧(Tryz.prog.info? 28).isSome=true∧aM Tryz.prog 28=some [.d (.s []),.aL [],.aL [],.aL [],.aL [],.aL []]:=⟨by kernel_rfl,by kernel_rfl,by kernel_rfl,by kernel_rfl⟩
theorem aeN:Tryz.prog.cellsOf 29=1∧Tryz.prog.bytesOf 29=8∧(Tryz.prog.info? 29).isSome=true∧aM Tryz.prog 29=some [.d (.o .nilFunc)]:=⟨by kernel_rfl,by kernel_rfl,by kernel_rfl,by kernel_rfl⟩
theorem aeO:Tryz.prog.cellsOf 30=1∧Tryz.prog.bytesOf 30=24∧(Tryz.prog.info? 30).isSome=true∧aM Tryz.prog 30=some [.aL []]:=⟨by kernel_rfl,by kernel_rfl,by kernel_rfl,by kernel_rfl⟩
theorem aeP:Tryz.prog.cellsOf 31=2∧Tryz.prog.bytesOf 31=40∧(Tryz.prog.info? 31).isSome=true∧aM Tryz.prog 31=some [.d (.s []),.aL []]:=⟨by kernel_rfl,by kernel_rfl,by kernel_rfl,by kernel_rfl⟩
theorem aeQ:Tryz.prog.cellsOf 32=2∧Tryz.prog.bytesOf 32=40∧(Tryz.prog.info? 32).isSome=true∧aM Tryz.prog 32=some [.d (.s []),.aL []]:=⟨by kernel_rfl,by kernel_rfl,by kernel_rfl,by kernel_rfl⟩
theorem aeR:Tryz.prog.cellsOf 34=1∧Tryz.prog.bytesOf 34=24∧(Tryz.prog.info? 34).isSome=true∧aM Tryz.prog 34=some [.aL []]:=⟨by kernel_rfl,by kernel_rfl,by kernel_rfl,by kernel_rfl⟩
theorem aeS:Tryz.prog.cellsOf 35=1∧Tryz.prog.bytesOf 35=24∧(Tryz.prog.info? 35).isSome=true∧aM Tryz.prog 35=some [.aL []]:=⟨by kernel_rfl,by kernel_rfl,by kernel_rfl,by kernel_rfl⟩
theorem aeT:Tryz.prog.cellsOf 36=1∧Tryz.prog.bytesOf 36=24∧(Tryz.prog.info? 36).isSome=true∧aM Tryz.prog 36=some [.aL []]:=⟨by kernel_rfl,by kernel_rfl,by kernel_rfl,by kernel_rfl⟩
theorem aeU:Tryz.prog.cellsOf 37=1∧Tryz.prog.bytesOf 37=24∧(Tryz.prog.info? 37).isSome=true∧aM Tryz.prog 37=some [.aL []]:=⟨by kernel_rfl,by kernel_rfl,by kernel_rfl,by kernel_rfl⟩
theorem aeV:Tryz.prog.cellsOf 38=6∧Tryz.prog.bytesOf 38=136∧(Tryz.prog.info? 38).isSome=true∧aM Tryz.prog 38=some [.d (.s []),.aL [],.aL [],.aL [],.aL [],.aL []]:=⟨by kernel_rfl,by kernel_rfl,by kernel_rfl,by kernel_rfl⟩
theorem aeW:Tryz.prog.cellsOf 39=6∧Tryz.prog.bytesOf 39=136∧(Tryz.prog.info? 39).isSome=true∧aM Tryz.prog 39=some [.d (.s []),.aL [],.aL [],.aL [],.aL [],.aL []]:=⟨by kernel_rfl,by kernel_rfl,by kernel_rfl,by kernel_rfl⟩
theorem aeX:Tryz.prog.cellsOf 40=1∧Tryz.prog.bytesOf 40=8∧(Tryz.prog.info? 40).isSome=true∧aM Tryz.prog 40=some [.d (.o .nilFunc)]:=⟨by kernel_rfl,by kernel_rfl,by kernel_rfl,by kernel_rfl⟩
theorem aeY:Tryz.prog.cellsOf 41=1∧Tryz.prog.bytesOf 41=8∧(Tryz.prog.info? 41).isSome=true∧aM Tryz.prog 41=some [.d (.o .nilFunc)]:=⟨by kernel_rfl,by kernel_rfl,by kernel_rfl,by kernel_rfl⟩
theorem aeZ:Tryz.prog.cellsOf 42=1∧Tryz.prog.bytesOf 42=8∧(Tryz.prog.info? 42).isSome=true∧aM Tryz.prog 42=some [.d (.o .nilFunc)]:=⟨by kernel_rfl,by kernel_rfl,by kernel_rfl,by kernel_rfl⟩
theorem ae0:Tryz.prog.cellsOf 43=1∧Tryz.prog.bytesOf 43=8∧(Tryz.prog.info? 43).isSome=true∧aM Tryz.prog 43=some [.d (.o .nilFunc)]:=⟨by kernel_rfl,by kernel_rfl,by kernel_rfl,by kernel_rfl⟩
theorem ae1:Tryz.prog.cellsOf 44=1∧Tryz.prog.bytesOf 44=8∧(Tryz.prog.info? 44).isSome=true∧aM Tryz.prog 44=some [.d (.o .nilFunc)]:=⟨by kernel_rfl,by kernel_rfl,by kernel_rfl,by kernel_rfl⟩
theorem ae2:Tryz.prog.cellsOf 46=1∧Tryz.prog.bytesOf 46=24∧(Tryz.prog.info? 46).isSome=true∧aM Tryz.prog 46=some [.aL []]:=⟨by kernel_rfl,by kernel_rfl,by kernel_rfl,by kernel_rfl⟩
theorem ae3:Tryz.prog.cellsOf 47=3∧Tryz.prog.bytesOf 47=48∧(Tryz.prog.info? 47).isSome=true∧aM Tryz.prog 47=some [.d (.i .i64 0),.d (.s []),.aL []]:=⟨by kernel_rfl,by kernel_rfl,by kernel_rfl,by kernel_rfl⟩
theorem ae4:Tryz.prog.cellsOf 48=3∧Tryz.prog.bytesOf 48=48∧(Tryz.prog.info? 48).isSome=true∧aM Tryz.prog 48=some [.d (.i .i64 0),.d (.s []),.aL []]:=⟨by kernel_rfl,by kernel_rfl,by kernel_rfl,by kernel_rfl⟩
theorem ae5:Tryz.prog.cellsOf 49=1∧Tryz.prog.bytesOf 49=24∧(Tryz.prog.info? 49).isSome=true∧aM Tryz.prog 49=some [.aL []]:=⟨by kernel_rfl,by kernel_rfl,by kernel_rfl,by kernel_rfl⟩
theorem ae6:Tryz.prog.cellsOf 50=1∧Tryz.prog.bytesOf 50=24∧(Tryz.prog.info? 50).isSome=true∧aM Tryz.prog 50=some [.aL []]:=⟨by kernel_rfl,by kernel_rfl,by kernel_rfl,by kernel_rfl⟩
theorem ae7:Tryz.prog.cellsOf 51=9∧Tryz.prog.bytesOf 51=144∧(Tryz.prog.info? 51).isSome=true∧aM Tryz.prog 51=some [.d (.i .i64 0),.d (.s []),.d (.s []),.d (.i .i64 0),.d (.i .i64 0),.d (.s []),.aL [],.aL [],.aL []]:=⟨by kernel_rfl,by kernel_rfl,by kernel_rfl,by kernel_rfl⟩
theorem ae8:Tryz.prog.cellsOf 52=9∧Tryz.prog.bytesOf 52=144∧(Tryz.prog.info? 52).isSome=true∧aM Tryz.prog 52=some [.d (.i .i64 0),.d (.s []),.d (.s []),.d (.i .i64 0),.d (.i .i64 0),.d (.s []),.aL [],.aL [],.aL []]:=⟨by kernel_rfl,by kernel_rfl,by kernel_rfl,by kernel_rfl⟩
theorem ae9:Tryz.prog.cellsOf 53=1∧Tryz.prog.bytesOf 53=8∧(Tryz.prog.info? 53).isSome=true∧aM Tryz.prog 53=some [.d (.o .nilFunc)]:=⟨by kernel_rfl,by kernel_rfl,by kernel_rfl,by kernel_rfl⟩
theorem afa:Tryz.prog.cellsOf 54=1∧Tryz.prog.bytesOf 54=8∧(Tryz.prog.info? 54).isSome=true∧aM Tryz.prog 54=some [.d (.o .nilFunc)]:=⟨by kernel_rfl,by kernel_rfl,by kernel_rfl,by kernel_rfl⟩
theorem afb:Tryz.prog.cellsOf 55=1∧Tryz.prog.bytesOf 55=24∧(Tryz.prog.info? 55).isSome=true∧aM Tryz.prog 55=some [.aL []]:=⟨by kernel_rfl,by kernel_rfl,by kernel_rfl,by kernel_rfl⟩
theorem afc:Tryz.prog.cellsOf 56=3∧Tryz.prog.bytesOf 56=48∧(Tryz.prog.info? 56).isSome=true∧aM Tryz.prog 56=some [.d (.i .i64 0),.d (.s []),.aL []]:=⟨by kernel_rfl,by kernel_rfl,by kernel_rfl,by kernel_rfl⟩
theorem afd:Tryz.prog.cellsOf 57=3∧Tryz.prog.bytesOf 57=48∧(Tryz.prog.info? 57).isSome=true∧aM Tryz.prog 57=some [.d (.i .i64 0),.d (.s []),.aL []]:=⟨by kernel_rfl,by kernel_rfl,by kernel_rfl,by kernel_rfl⟩
theorem afe:Tryz.prog.cellsOf 58=1∧Tryz.prog.bytesOf 58=24∧(Tryz.prog.info? 58).isSome=true∧aM Tryz.prog 58=some [.aL []]:=⟨by kernel_rfl,by kernel_rfl,by kernel_rfl,by kernel_rfl⟩
theorem aff:Tryz.prog.cellsOf 59=1∧Tryz.prog.bytesOf 59=24∧(Tryz.prog.info? 59).isSome=true∧aM Tryz.prog 59=some [.aL []]:=⟨by kernel_rfl,by kernel_rfl,by kernel_rfl,by kernel_rfl⟩
theorem afg:Tryz.prog.cellsOf 60=9∧Tryz.prog.bytesOf 60=144∧(Tryz.prog.info? 60).isSome=true∧aM Tryz.prog 60=some [.d (.i .i64 0),.d (.s []),.d (.s []),.d (.i .i64 0),.d (.i .i64 0),.d (.s []),.aL [],.aL [],.aL []]:=⟨by kernel_rfl,by kernel_rfl,by kernel_rfl,by kernel_rfl⟩
theorem afh:Tryz.prog.cellsOf 61=9∧Tryz.prog.bytesOf 61=144∧(Tryz.prog.info? 61).isSome=true∧aM Tryz.prog 61=some [.d (.i .i64 0),.d (.s []),.d (.s []),.d (.i .i64 0),.d (.i .i64 0),.d (.s []),.aL [],.aL [],.aL []]:=⟨by kernel_rfl,by kernel_rfl,by kernel_rfl,by kernel_rfl⟩
theorem afi:Tryz.prog.cellsOf 63=1∧Tryz.prog.bytesOf 63=8∧(Tryz.prog.info? 63).isSome=true∧aM Tryz.prog 63=some [.d (.o .nilFunc)]:=⟨by kernel_rfl,by kernel_rfl,by kernel_rfl,by kernel_rfl⟩
theorem afj:Tryz.prog.cellsOf 64=1∧Tryz.prog.bytesOf 64=8∧(Tryz.prog.info? 64).isSome=true∧aM Tryz.prog 64=some [.d (.o .nilFunc)]:=⟨by kernel_rfl,by kernel_rfl,by kernel_rfl,by kernel_rfl⟩
theorem afk:Tryz.prog.cellsOf 65=1∧Tryz.prog.bytesOf 65=8∧(Tryz.prog.info? 65).isSome=true∧aM Tryz.prog 65=some [.d (.o .nilFunc)]:=⟨by kernel_rfl,by kernel_rfl,by kernel_rfl,by kernel_rfl⟩
theorem afl:Tryz.prog.cellsOf 66=1∧Tryz.prog.bytesOf 66=24∧(Tryz.prog.info? 66).isSome=true∧aM Tryz.prog 66=some [.aL []]:=⟨by kernel_rfl,by kernel_rfl,by kernel_rfl,by kernel_rfl⟩
theorem afm:Tryz.prog.cellsOf 67=2∧Tryz.prog.bytesOf 67=40∧(Tryz.prog.info? 67).isSome=true∧aM Tryz.prog 67=some [.d (.s []),.aL []]:=⟨by kernel_rfl,by kernel_rfl,by kernel_rfl,by kernel_rfl⟩
theorem afn:Tryz.prog.cellsOf 68=2∧Tryz.prog.bytesOf 68=40∧(Tryz.prog.info? 68).isSome=true∧aM Tryz.prog 68=some [.d (.s []),.aL []]:=⟨by kernel_rfl,by kernel_rfl,by kernel_rfl,by kernel_rfl⟩
theorem afo:Tryz.prog.cellsOf 69=1∧Tryz.prog.bytesOf 69=8∧(Tryz.prog.info? 69).isSome=true∧aM Tryz.prog 69=some [.d (.o .nilFunc)]:=⟨by kernel_rfl,by kernel_rfl,by kernel_rfl,by kernel_rfl⟩
theorem afp:Tryz.prog.cellsOf 71=1∧Tryz.prog.bytesOf 71=8∧(Tryz.prog.info? 71).isSome=true∧aM Tryz.prog 71=some [.d (.o .nilFunc)]:=⟨by kernel_rfl,by kernel_rfl,by kernel_rfl,by kernel_rfl⟩
theorem afq:Tryz.prog.cellsOf 75=1∧Tryz.prog.bytesOf 75=24∧(Tryz.prog.info? 75).isSome=true∧aM Tryz.prog 75=some [.aL []]:=⟨by kernel_rfl,by kernel_rfl,by kernel_rfl,by kernel_rfl⟩
theorem afr:Tryz.prog.cellsOf 76=1∧Tryz.prog.bytesOf 76=24∧(Tryz.prog.info? 76).isSome=true∧aM Tryz.prog 76=some [.aL []]:=⟨by kernel_rfl,by kernel_rfl,by kernel_rfl,by kernel_rfl⟩
theorem afs:Tryz.prog.cellsOf 77=16∧Tryz.prog.bytesOf 77=280∧(Tryz.prog.info? 77).isSome=true∧aM Tryz.prog 77=some [.d (.s []),.aL [],.aL [],.aL [],.d (.i .i64 0),.d (.s []),.aL [],.d (.i .i64 0),.d (.s []),.d (.s []),.d (.i .i64 0),.d (.i .i64 0),.d (.s []),.aL [],.aL [],.aL []]:=⟨by kernel_rfl,by kernel_rfl,by kernel_rfl,by kernel_rfl⟩
theorem aft:Tryz.prog.cellsOf 78=16∧Tryz.prog.bytesOf 78=280∧(Tryz.prog.info? 78).isSome=true∧aM Tryz.prog 78=some [.d (.s []),.aL [],.aL [],.aL [],.d (.i .i64 0),.d (.s []),.aL [],.d (.i .i64 0),.d (.s []),.d (.s []),.d (.i .i64 0),.d (.i .i64 0),.d (.s []),.aL [],.aL [],.aL []]:=⟨by kernel_rfl,by kernel_rfl,by kernel_rfl,by kernel_rfl⟩
theorem afu:Tryz.prog.cellsOf 80=1∧Tryz.prog.bytesOf 80=8∧(Tryz.prog.info? 80).isSome=true∧aM Tryz.prog 80=some [.d (.o .nilFunc)]:=⟨by kernel_rfl,by kernel_rfl,by kernel_rfl,by kernel_rfl⟩
theorem afv:Tryz.prog.cellsOf 81=1∧Tryz.prog.bytesOf 81=8∧(Tryz.prog.info? 81).isSome=true∧aM Tryz.prog 81=some [.d (.o .nilFunc)]:=⟨by kernel_rfl,by kernel_rfl,by kernel_rfl,by kernel_rfl⟩
theorem afw:Tryz.prog.cellsOf 82=1∧Tryz.prog.bytesOf 82=8∧(Tryz.prog.info? 82).isSome=true∧aM Tryz.prog 82=some [.d (.o .nilFunc)]:=⟨by kernel_rfl,by kernel_rfl,by kernel_rfl,by kernel_rfl⟩
theorem afx:Tryz.prog.cellsOf 83=1∧Tryz.prog.bytesOf 83=24∧(Tryz.prog.info? 83).isSome=true∧aM Tryz.prog 83=some [.aL []]:=⟨by kernel_rfl,by kernel_rfl,by kernel_rfl,by kernel_rfl⟩
theorem afy:Tryz.prog.cellsOf 84=5∧Tryz.prog.bytesOf 84=72∧(Tryz.prog.info? 84).isSome=true∧aM Tryz.prog 84=some [.d (.s []),.aL [],.d (.b false),.d (.b false),.aL []]:=⟨by kernel_rfl,by kernel_rfl,by kernel_rfl,by kernel_rfl⟩
theorem afz:Tryz.prog.cellsOf 85=5∧Tryz.prog.bytesOf 85=72∧(Tryz.prog.info? 85).isSome=true∧aM Tryz.prog 85=some [.d (.s []),.aL [],.d (.b false),.d (.b false),.aL []]:=⟨by kernel_rfl,by kernel_rfl,by kernel_rfl,by kernel_rfl⟩
theorem afA:Tryz.prog.cellsOf 90=1∧Tryz.prog.bytesOf 90=24∧(Tryz.prog.info? 90).isSome=true∧aM Tryz.prog 90=some [.aL []]:=⟨by kernel_rfl,by kernel_rfl,by kernel_rfl,by kernel_rfl⟩
theorem afB:Tryz.prog.cellsOf 91=12∧Tryz.prog.bytesOf 91=192∧(Tryz.prog.info? 91).isSome=true∧aM Tryz.prog 91=some [.d (.s []),.aL [],.d (.i .i64 0),.d (.s []),.aL [],.aL [],.d (.b false),.d (.b false),.d (.i .i64 0),.d (.s []),.aL [],.aL []]:=⟨by kernel_rfl,by kernel_rfl,by kernel_rfl,by kernel_rfl⟩
theorem afC:Tryz.prog.cellsOf 92=12∧Tryz.prog.bytesOf 92=192∧(Tryz.prog.info? 92).isSome=true∧aM Tryz.prog 92=some [.d (.s []),.aL [],.d (.i .i64 0),.d (.s []),.aL [],.aL [],.d (.b false),.d (.b false),.d (.i .i64 0),.d (.s []),.aL [],.aL []]:=⟨by kernel_rfl,by kernel_rfl,by kernel_rfl,by kernel_rfl⟩
theorem afD:Tryz.prog.cellsOf 95=1∧Tryz.prog.bytesOf 95=8∧(Tryz.prog.info? 95).isSome=true∧aM Tryz.prog 95=some [.d (.o .nilFunc)]:=⟨by kernel_rfl,by kernel_rfl,by kernel_rfl,by kernel_rfl⟩
theorem afE:Tryz.prog.cellsOf 96=1∧Tryz.prog.bytesOf 96=8∧(Tryz.prog.info? 96).isSome=true∧aM Tryz.prog 96=some [.d (.o .nilFunc)]:=⟨by kernel_rfl,by kernel_rfl,by kernel_rfl,by kernel_rfl⟩
theorem afF:Tryz.prog.cellsOf 97=1∧Tryz.prog.bytesOf 97=8∧(Tryz.prog.info? 97).isSome=true∧aM Tryz.prog 97=some [.d (.o .nilFunc)]:=⟨by kernel_rfl,by kernel_rfl,by kernel_rfl,by kernel_rfl⟩
theorem acI:Tryz.prog.cellsOf 108=1∧Tryz.prog.bytesOf 108=24∧(Tryz.prog.info? 108).isSome=true∧aM Tryz.prog 108=some [.aL []]:=⟨by kernel_rfl,by kernel_rfl,by kernel_rfl,by kernel_rfl⟩
theorem acJ:Tryz.prog.cellsOf 109=3∧Tryz.prog.bytesOf 109=64∧(Tryz.prog.info? 109).isSome=true∧aM Tryz.prog 109=some [.d (.s []),.aL [],.aL []]:=⟨by kernel_rfl,by kernel_rfl,by kernel_rfl,by kernel_rfl⟩
theorem acK:Tryz.prog.cellsOf 110=3∧Tryz.prog.bytesOf 110=64∧(Tryz.prog.info? 110).isSome=true∧aM Tryz.prog 110=some [.d (.s []),.aL [],.aL []]:=⟨by kernel_rfl,by kernel_rfl,by kernel_rfl,by kernel_rfl⟩
theorem acL:Tryz.prog.cellsOf 119=1∧Tryz.prog.bytesOf 119=8∧(Tryz.prog.info? 119).isSome=true∧aM Tryz.prog 119=some [.d (.o .nilFunc)]:=⟨by kernel_rfl,by kernel_rfl,by kernel_rfl,by kernel_rfl⟩
theorem acM:Tryz.prog.cellsOf 127=1∧Tryz.prog.bytesOf 127=8∧(Tryz.prog.info? 127).isSome=true∧aM Tryz.prog 127=some [.d (.o .nilFunc)]:=⟨by kernel_rfl,by kernel_rfl,by kernel_rfl,by kernel_rfl⟩
theorem acN:Tryz.prog.cellsOf 128=1∧Tryz.prog.bytesOf 128=8∧(Tryz.prog.info? 128).isSome=true∧aM Tryz.prog 128=some [.d (.o .nilFunc)]:=⟨by kernel_rfl,by kernel_rfl,by kernel_rfl,by kernel_rfl⟩
theorem acO:Tryz.prog.cellsOf 129=1∧Tryz.prog.bytesOf 129=8∧(Tryz.prog.info? 129).isSome=true∧aM Tryz.prog 129=some [.d (.o .nilFunc)]:=⟨by kernel_rfl,by kernel_rfl,by kernel_rfl,by kernel_rfl⟩
theorem acP:Tryz.prog.cellsOf 140=1∧Tryz.prog.bytesOf 140=8∧(Tryz.prog.info? 140).isSome=true∧aM Tryz.prog 140=some [.d (.o .nilFunc)]:=⟨by kernel_rfl,by kernel_rfl,by kernel_rfl,by kernel_rfl⟩
theorem acQ:Tryz.prog.cellsOf 145=1∧Tryz.prog.bytesOf 145=8∧(Tryz.prog.info? 145).isSome=true∧aM Tryz.prog 145=some [.d (.o .nilFunc)]:=⟨by kernel_rfl,by kernel_rfl,by kernel_rfl,by kernel_rfl⟩
theorem acR:Tryz.prog.cellsOf 154=4∧Tryz.prog.bytesOf 154=64∧(Tryz.prog.info? 154).isSome=true∧aM Tryz.prog 154=some [.d (.s []),.d (.i .i64 0),.d (.s []),.aL []]:=⟨by kernel_rfl,by kernel_rfl,by kernel_rfl,by kernel_rfl⟩
theorem acS:Tryz.prog.cellsOf 155=4∧Tryz.prog.bytesOf 155=64∧(Tryz.prog.info? 155).isSome=true∧aM Tryz.prog 155=some [.d (.s []),.d (.i .i64 0),.d (.s []),.aL []]:=⟨by kernel_rfl,by kernel_rfl,by kernel_rfl,by kernel_rfl⟩
theorem acT:Tryz.prog.cellsOf 165=16∧Tryz.prog.bytesOf 165=264∧(Tryz.prog.info? 165).isSome=true∧aM Tryz.prog 165=some [.d (.s []),.aL [],.d (.i .i64 0),.d (.s []),.aL [],.d (.b false),.aL [],.d (.i .i64 0),.d (.s []),.d (.s []),.d (.i .i64 0),.d (.i .i64 0),.d (.s []),.aL [],.aL [],.aL []]:=⟨by kernel_rfl,by kernel_rfl,by kernel_rfl,by kernel_rfl⟩
theorem acU:Tryz.prog.cellsOf 166=16∧Tryz.prog.bytesOf 166=264∧(Tryz.prog.info? 166).isSome=true∧aM Tryz.prog 166=some [.d (.s []),.aL [],.d (.i .i64 0),.d (.s []),.aL [],.d (.b false),.aL [],.d (.i .i64 0),.d (.s []),.d (.s []),.d (.i .i64 0),.d (.i .i64 0),.d (.s []),.aL [],.aL [],.aL []]:=⟨by kernel_rfl,by kernel_rfl,by kernel_rfl,by kernel_rfl⟩
theorem acV:Tryz.prog.cellsOf 171=11∧Tryz.prog.bytesOf 171=184∧(Tryz.prog.info? 171).isSome=true∧aM Tryz.prog 171=some [.d (.s []),.aL [],.d (.i .i64 0),.d (.s []),.d (.s []),.d (.i .i64 0),.d (.i .i64 0),.d (.s []),.aL [],.aL [],.aL []]:=⟨by kernel_rfl,by kernel_rfl,by kernel_rfl,by kernel_rfl⟩
theorem acW:Tryz.prog.cellsOf 172=11∧Tryz.prog.bytesOf 172=184∧(Tryz.prog.info? 172).isSome=true∧aM Tryz.prog 172=some [.d (.s []),.aL [],.d (.i .i64 0),.d (.s []),.d (.s []),.d (.i .i64 0),.d (.i .i64 0),.d (.s []),.aL [],.aL [],.aL []]:=⟨by kernel_rfl,by kernel_rfl,by kernel_rfl,by kernel_rfl⟩
theorem acX:Tryz.prog.cellsOf 177=1∧Tryz.prog.bytesOf 177=24∧(Tryz.prog.info? 177).isSome=true∧aM Tryz.prog 177=some [.aL []]:=⟨by kernel_rfl,by kernel_rfl,by kernel_rfl,by kernel_rfl⟩
theorem acY:Tryz.prog.cellsOf 178=5∧Tryz.prog.bytesOf 178=72∧(Tryz.prog.info? 178).isSome=true∧aM Tryz.prog 178=some [.d (.s []),.aL [],.d (.b false),.d (.b false),.aL []]:=⟨by kernel_rfl,by kernel_rfl,by kernel_rfl,by kernel_rfl⟩
theorem acZ:Tryz.prog.cellsOf 179=5∧Tryz.prog.bytesOf 179=72∧(Tryz.prog.info? 179).isSome=true∧aM Tryz.prog 179=some [.d (.s []),.aL [],.d (.b false),.d (.b false),.aL []]:=⟨by kernel_rfl,by kernel_rfl,by kernel_rfl,by kernel_rfl⟩
theorem ac0:Tryz.prog.cellsOf 181=1∧Tryz.prog.bytesOf 181=24∧(Tryz.prog.info? 181).isSome=true∧aM Tryz.prog 181=some [.aL []]:=⟨by kernel_rfl,by kernel_rfl,by kernel_rfl,by kernel_rfl⟩
theorem ac1:Tryz.prog.cellsOf 182=3∧Tryz.prog.bytesOf 182=64∧(Tryz.prog.info? 182).isSome=true∧aM Tryz.prog 182=some [.d (.s []),.aL [],.aL []]:=⟨by kernel_rfl,by kernel_rfl,by kernel_rfl,by kernel_rfl⟩
theorem ac2:Tryz.prog.cellsOf 183=3∧Tryz.prog.bytesOf 183=64∧(Tryz.prog.info? 183).isSome=true∧aM Tryz.prog 183=some [.d (.s []),.aL [],.aL []]:=⟨by kernel_rfl,by kernel_rfl,by kernel_rfl,by kernel_rfl⟩
theorem ac3:Tryz.prog.cellsOf 185=1∧Tryz.prog.bytesOf 185=24∧(Tryz.prog.info? 185).isSome=true∧aM Tryz.prog 185=some [.aL []]:=⟨by kernel_rfl,by kernel_rfl,by kernel_rfl,by kernel_rfl⟩
theorem ac4:Tryz.prog.cellsOf 186=1∧Tryz.prog.bytesOf 186=24∧(Tryz.prog.info? 186).isSome=true∧aM Tryz.prog 186=some [.aL []]:=⟨by kernel_rfl,by kernel_rfl,by kernel_rfl,by kernel_rfl⟩
theorem ac5:Tryz.prog.cellsOf 187=12∧Tryz.prog.bytesOf 187=192∧(Tryz.prog.info? 187).isSome=true∧aM Tryz.prog 187=some [.d (.s []),.aL [],.d (.i .i64 0),.d (.s []),.aL [],.aL [],.d (.b false),.d (.b false),.d (.i .i64 0),.d (.s []),.aL [],.aL []]:=⟨by kernel_rfl,by kernel_rfl,by kernel_rfl,by kernel_rfl⟩
theorem ac6:Tryz.prog.cellsOf 188=12∧Tryz.prog.bytesOf 188=192∧(Tryz.prog.info? 188).isSome=true∧aM Tryz.prog 188=some [.d (.s []),.aL [],.d (.i .i64 0),.d (.s []),.aL [],.aL [],.d (.b false),.d (.b false),.d (.i .i64 0),.d (.s []),.aL [],.aL []]:=⟨by kernel_rfl,by kernel_rfl,by kernel_rfl,by kernel_rfl⟩
theorem ac7:Tryz.prog.cellsOf 190=1∧Tryz.prog.bytesOf 190=24∧(Tryz.prog.info? 190).isSome=true∧aM Tryz.prog 190=some [.aL []]:=⟨by kernel_rfl,by kernel_rfl,by kernel_rfl,by kernel_rfl⟩
theorem ac8:Tryz.prog.cellsOf 191=16∧Tryz.prog.bytesOf 191=280∧(Tryz.prog.info? 191).isSome=true∧aM Tryz.prog 191=some [.d (.s []),.aL [],.aL [],.aL [],.d (.i .i64 0),.d (.s []),.aL [],.d (.i .i64 0),.d (.s []),.d (.s []),.d (.i .i64 0),.d (.i .i64 0),.d (.s []),.aL [],.aL [],.aL []]:=⟨by kernel_rfl,by kernel_rfl,by kernel_rfl,by kernel_rfl⟩
theorem ac9:Tryz.prog.cellsOf 192=16∧Tryz.prog.bytesOf 192=280∧(Tryz.prog.info? 192).isSome=true∧aM Tryz.prog 192=some [.d (.s []),.aL [],.aL [],.aL [],.d (.i .i64 0),.d (.s []),.aL [],.d (.i .i64 0),.d (.s []),.d (.s []),.d (.i .i64 0),.d (.i .i64 0),.d (.s []),.aL [],.aL [],.aL []]:=⟨by kernel_rfl,by kernel_rfl,by kernel_rfl,by kernel_rfl⟩
theorem ada:Tryz.prog.cellsOf 195=1∧Tryz.prog.bytesOf 195=8∧(Tryz.prog.info? 195).isSome=true∧aM Tryz.prog 195=some [.d (.o .nilFunc)]:=⟨by kernel_rfl,by kernel_rfl,by kernel_rfl,by kernel_rfl⟩
theorem adb:Tryz.prog.cellsOf 201=2∧Tryz.prog.bytesOf 201=40∧(Tryz.prog.info? 201).isSome=true∧aM Tryz.prog 201=some [.d (.s []),.aL []]:=⟨by kernel_rfl,by kernel_rfl,by kernel_rfl,by kernel_rfl⟩
theorem ade:Tryz.prog.cellsOf 202=2∧Tryz.prog.bytesOf 202=40∧(Tryz.prog.info? 202).isSome=true∧aM Tryz.prog 202=some [.d (.s []),.aL []]:=⟨by kernel_rfl,by kernel_rfl,by kernel_rfl,by kernel_rfl⟩
theorem adf:Tryz.prog.cellsOf 211=1∧Tryz.prog.bytesOf 211=24∧(Tryz.prog.info? 211).isSome=true∧aM Tryz.prog 211=some [.aL []]:=⟨by kernel_rfl,by kernel_rfl,by kernel_rfl,by kernel_rfl⟩
theorem adg:Tryz.prog.cellsOf 219=11∧Tryz.prog.bytesOf 219=184∧(Tryz.prog.info? 219).isSome=true∧aM Tryz.prog 219=some [.d (.s []),.aL [],.d (.i .i64 0),.d (.s []),.d (.s []),.d (.i .i64 0),.d (.i .i64 0),.d (.s []),.aL [],.aL [],.aL []]:=⟨by kernel_rfl,by kernel_rfl,by kernel_rfl,by kernel_rfl⟩
theorem adh:Tryz.prog.cellsOf 220=11∧Tryz.prog.bytesOf 220=184∧(Tryz.prog.info? 220).isSome=true∧aM Tryz.prog 220=some [.d (.s []),.aL [],.d (.i .i64 0),.d (.s []),.d (.s []),.d (.i .i64 0),.d (.i .i64 0),.d (.s []),.aL [],.aL [],.aL []]:=⟨by kernel_rfl,by kernel_rfl,by kernel_rfl,by kernel_rfl⟩
theorem adi:Tryz.prog.cellsOf 222=11∧Tryz.prog.bytesOf 222=184∧(Tryz.prog.info? 222).isSome=true∧aM Tryz.prog 222=some [.d (.s []),.aL [],.d (.i .i64 0),.d (.s []),.d (.s []),.d (.i .i64 0),.d (.i .i64 0),.d (.s []),.aL [],.aL [],.aL []]:=⟨by kernel_rfl,by kernel_rfl,by kernel_rfl,by kernel_rfl⟩
theorem adj:Tryz.prog.cellsOf 223=11∧Tryz.prog.bytesOf 223=184∧(Tryz.prog.info? 223).isSome=true∧aM Tryz.prog 223=some [.d (.s []),.aL [],.d (.i .i64 0),.d (.s []),.d (.s []),.d (.i .i64 0),.d (.i .i64 0),.d (.s []),.aL [],.aL [],.aL []]:=⟨by kernel_rfl,by kernel_rfl,by kernel_rfl,by kernel_rfl⟩
theorem adk:Tryz.prog.cellsOf 226=1∧Tryz.prog.bytesOf 226=8∧(Tryz.prog.info? 226).isSome=true∧aM Tryz.prog 226=some [.d (.o (.pointer none))]:=⟨by kernel_rfl,by kernel_rfl,by kernel_rfl,by kernel_rfl⟩
theorem adl:Tryz.prog.cellsOf 227=1∧Tryz.prog.bytesOf 227=24∧(Tryz.prog.info? 227).isSome=true∧aM Tryz.prog 227=some [.aL []]:=⟨by kernel_rfl,by kernel_rfl,by kernel_rfl,by kernel_rfl⟩
theorem adn:Tryz.prog.cellsOf 228=2∧Tryz.prog.bytesOf 228=32∧(Tryz.prog.info? 228).isSome=true∧aM Tryz.prog 228=some [.d (.o (.pointer none)),.aL []]:=⟨by kernel_rfl,by kernel_rfl,by kernel_rfl,by kernel_rfl⟩
theorem ado:Tryz.prog.cellsOf 229=2∧Tryz.prog.bytesOf 229=32∧(Tryz.prog.info? 229).isSome=true∧aM Tryz.prog 229=some [.d (.o (.pointer none)),.aL []]:=⟨by kernel_rfl,by kernel_rfl,by kernel_rfl,by kernel_rfl⟩
theorem adp:Tryz.prog.cellsOf 233=1∧Tryz.prog.bytesOf 233=8∧(Tryz.prog.info? 233).isSome=true∧aM Tryz.prog 233=some [.d (.o .nilFunc)]:=⟨by kernel_rfl,by kernel_rfl,by kernel_rfl,by kernel_rfl⟩
theorem adq:Tryz.prog.cellsOf 246=4∧Tryz.prog.bytesOf 246=64∧(Tryz.prog.info? 246).isSome=true∧aM Tryz.prog 246=some [.d (.s []),.d (.i .i64 0),.d (.s []),.aL []]:=⟨by kernel_rfl,by kernel_rfl,by kernel_rfl,by kernel_rfl⟩
theorem adr:Tryz.prog.cellsOf 247=4∧Tryz.prog.bytesOf 247=64∧(Tryz.prog.info? 247).isSome=true∧aM Tryz.prog 247=some [.d (.s []),.d (.i .i64 0),.d (.s []),.aL []]:=⟨by kernel_rfl,by kernel_rfl,by kernel_rfl,by kernel_rfl⟩
theorem ads:Tryz.prog.cellsOf 262=1∧Tryz.prog.bytesOf 262=8∧(Tryz.prog.info? 262).isSome=true∧aM Tryz.prog 262=some [.d (.o .nilFunc)]:=⟨by kernel_rfl,by kernel_rfl,by kernel_rfl,by kernel_rfl⟩
theorem adt:Tryz.prog.cellsOf 280=4∧Tryz.prog.bytesOf 280=96∧(Tryz.prog.info? 280).isSome=true∧aM Tryz.prog 280=some [.aL [],.aL [],.aL [],.aL []]:=⟨by kernel_rfl,by kernel_rfl,by kernel_rfl,by kernel_rfl⟩
theorem adu:Tryz.prog.cellsOf 285=1∧Tryz.prog.bytesOf 285=16∧(Tryz.prog.info? 285).isSome=true∧aM Tryz.prog 285=some [.d (.o .nilIface)]:=⟨by kernel_rfl,by kernel_rfl,by kernel_rfl,by kernel_rfl⟩
theorem adv:Tryz.prog.cellsOf 286=1∧Tryz.prog.bytesOf 286=16∧(Tryz.prog.info? 286).isSome=true∧aM Tryz.prog 286=some [.d (.o .nilIface)]:=⟨by kernel_rfl,by kernel_rfl,by kernel_rfl,by kernel_rfl⟩
theorem adw:Tryz.prog.cellsOf 290=1∧Tryz.prog.bytesOf 290=8∧(Tryz.prog.info? 290).isSome=true∧aM Tryz.prog 290=some [.d (.o (.pointer none))]:=⟨by kernel_rfl,by kernel_rfl,by kernel_rfl,by kernel_rfl⟩
theorem adx:Tryz.prog.cellsOf 297=1∧Tryz.prog.bytesOf 297=8∧(Tryz.prog.info? 297).isSome=true∧aM Tryz.prog 297=some [.d (.o .nilFunc)]:=⟨by kernel_rfl,by kernel_rfl,by kernel_rfl,by kernel_rfl⟩
theorem ady:Tryz.prog.cellsOf 298=1∧Tryz.prog.bytesOf 298=24∧(Tryz.prog.info? 298).isSome=true∧aM Tryz.prog 298=some [.aL []]:=⟨by kernel_rfl,by kernel_rfl,by kernel_rfl,by kernel_rfl⟩
theorem adz:Tryz.prog.cellsOf 301=1∧Tryz.prog.bytesOf 301=8∧(Tryz.prog.info? 301).isSome=true∧aM Tryz.prog 301=some [.d (.o .nilFunc)]:=⟨by kernel_rfl,by kernel_rfl,by kernel_rfl,by kernel_rfl⟩
theorem adA:Tryz.prog.cellsOf 304=1∧Tryz.prog.bytesOf 304=8∧(Tryz.prog.info? 304).isSome=true∧aM Tryz.prog 304=some [.d (.o (.map none))]:=⟨by kernel_rfl,by kernel_rfl,by kernel_rfl,by kernel_rfl⟩
theorem adB:Tryz.prog.cellsOf 306=1∧Tryz.prog.bytesOf 306=8∧(Tryz.prog.info? 306).isSome=true∧aM Tryz.prog 306=some [.d (.o .nilFunc)]:=⟨by kernel_rfl,by kernel_rfl,by kernel_rfl,by kernel_rfl⟩
theorem adC:Tryz.prog.cellsOf 309=16∧Tryz.prog.bytesOf 309=264∧(Tryz.prog.info? 309).isSome=true∧aM Tryz.prog 309=some [.d (.s []),.aL [],.d (.i .i64 0),.d (.s []),.aL [],.d (.b false),.aL [],.d (.i .i64 0),.d (.s []),.d (.s []),.d (.i .i64 0),.d (.i .i64 0),.d (.s []),.aL [],.aL [],.aL []]:=⟨by kernel_rfl,by kernel_rfl,by kernel_rfl,by kernel_rfl⟩
theorem adD:Tryz.prog.cellsOf 310=16∧Tryz.prog.bytesOf 310=264∧(Tryz.prog.info? 310).isSome=true∧aM Tryz.prog 310=some [.d (.s []),.aL [],.d (.i .i64 0),.d (.s []),.aL [],.d (.b false),.aL [],.d (.i .i64 0),.d (.s []),.d (.s []),.d (.i .i64 0),.d (.i .i64 0),.d (.s []),.aL [],.aL [],.aL []]:=⟨by kernel_rfl,by kernel_rfl,by kernel_rfl,by kernel_rfl⟩
theorem adE:Tryz.prog.cellsOf 312=2∧Tryz.prog.bytesOf 312=40∧(Tryz.prog.info? 312).isSome=true∧aM Tryz.prog 312=some [.d (.s []),.aL []]:=⟨by kernel_rfl,by kernel_rfl,by kernel_rfl,by kernel_rfl⟩
theorem adF:Tryz.prog.cellsOf 313=2∧Tryz.prog.bytesOf 313=40∧(Tryz.prog.info? 313).isSome=true∧aM Tryz.prog 313=some [.d (.s []),.aL []]:=⟨by kernel_rfl,by kernel_rfl,by kernel_rfl,by kernel_rfl⟩
theorem adG:Tryz.prog.cellsOf 315=4∧Tryz.prog.bytesOf 315=64∧(Tryz.prog.info? 315).isSome=true∧aM Tryz.prog 315=some [.d (.s []),.d (.i .i64 0),.d (.s []),.aL []]:=⟨by kernel_rfl,by kernel_rfl,by kernel_rfl,by kernel_rfl⟩
theorem adH:Tryz.prog.cellsOf 316=4∧Tryz.prog.bytesOf 316=64∧(Tryz.prog.info? 316).isSome=true∧aM Tryz.prog 316=some [.d (.s []),.d (.i .i64 0),.d (.s []),.aL []]:=⟨by kernel_rfl,by kernel_rfl,by kernel_rfl,by kernel_rfl⟩
theorem adI:Tryz.prog.cellsOf 318=11∧Tryz.prog.bytesOf 318=184∧(Tryz.prog.info? 318).isSome=true∧aM Tryz.prog 318=some [.d (.s []),.aL [],.d (.i .i64 0),.d (.s []),.d (.s []),.d (.i .i64 0),.d (.i .i64 0),.d (.s []),.aL [],.aL [],.aL []]:=⟨by kernel_rfl,by kernel_rfl,by kernel_rfl,by kernel_rfl⟩
theorem adJ:Tryz.prog.cellsOf 319=11∧Tryz.prog.bytesOf 319=184∧(Tryz.prog.info? 319).isSome=true∧aM Tryz.prog 319=some [.d (.s []),.aL [],.d (.i .i64 0),.d (.s []),.d (.s []),.d (.i .i64 0),.d (.i .i64 0),.d (.s []),.aL [],.aL [],.aL []]:=⟨by kernel_rfl,by kernel_rfl,by kernel_rfl,by kernel_rfl⟩
theorem adK:Tryz.prog.cellsOf 321=4∧Tryz.prog.bytesOf 321=64∧(Tryz.prog.info? 321).isSome=true∧aM Tryz.prog 321=some [.d (.s []),.d (.i .i64 0),.d (.s []),.aL []]:=⟨by kernel_rfl,by kernel_rfl,by kernel_rfl,by kernel_rfl⟩
theorem adL:Tryz.prog.cellsOf 322=4∧Tryz.prog.bytesOf 322=64∧(Tryz.prog.info? 322).isSome=true∧aM Tryz.prog 322=some [.d (.s []),.d (.i .i64 0),.d (.s []),.aL []]:=⟨by kernel_rfl,by kernel_rfl,by kernel_rfl,by kernel_rfl⟩
theorem adM:Tryz.prog.cellsOf 358=24∧Tryz.prog.bytesOf 358=24∧(Tryz.prog.info? 358).isSome=true∧aM Tryz.prog 358=some [.d (.i .u8 0),.d (.i .u8 0),.d (.i .u8 0),.d (.i .u8 0),.d (.i .u8 0),.d (.i .u8 0),.d (.i .u8 0),.d (.i .u8 0),.d (.i .u8 0),.d (.i .u8 0),.d (.i .u8 0),.d (.i .u8 0),.d (.i .u8 0),.d (.i .u8 0),.d (.i .u8 0),.d (.i .u8 0),.d (.i .u8 0),.d (.i .u8 0),.d (.i .u8 0),.d (.i .u8 0),.d (.i .u8 0),.d (.i .u8 0),.d (.i .u8 0),.d (.i .u8 0)]:=⟨by kernel_rfl,by kernel_rfl,by kernel_rfl,by kernel_rfl⟩
theorem adN:Tryz.prog.cellsOf 359=1∧Tryz.prog.bytesOf 359=8∧(Tryz.prog.info? 359).isSome=true∧aM Tryz.prog 359=some [.d (.i .u64 0)]:=⟨by kernel_rfl,by kernel_rfl,by kernel_rfl,by kernel_rfl⟩
theorem adO:Tryz.prog.cellsOf 364=1∧Tryz.prog.bytesOf 364=24∧(Tryz.prog.info? 364).isSome=true∧aM Tryz.prog 364=some [.aL []]:=⟨by kernel_rfl,by kernel_rfl,by kernel_rfl,by kernel_rfl⟩
theorem adP:Tryz.prog.cellsOf 369=1∧Tryz.prog.bytesOf 369=8∧(Tryz.prog.info? 369).isSome=true∧aM Tryz.prog 369=some [.d (.i .u64 0)]:=⟨by kernel_rfl,by kernel_rfl,by kernel_rfl,by kernel_rfl⟩
theorem adQ:Tryz.prog.cellsOf 371=3∧Tryz.prog.bytesOf 371=48∧(Tryz.prog.info? 371).isSome=true∧aM Tryz.prog 371=some [.d (.s []),.d (.s []),.d (.o .nilIface)]:=⟨by kernel_rfl,by kernel_rfl,by kernel_rfl,by kernel_rfl⟩
theorem adR:Tryz.prog.cellsOf 376=20∧Tryz.prog.bytesOf 376=160∧(Tryz.prog.info? 376).isSome=true∧aM Tryz.prog 376=some [.d (.i .u64 0),.d (.i .u64 0),.d (.i .u64 0),.d (.i .u64 0),.d (.i .u64 0),.d (.i .u64 0),.d (.i .u64 0),.d (.i .u64 0),.d (.i .u64 0),.d (.i .u64 0),.d (.i .u64 0),.d (.i .u64 0),.d (.i .u64 0),.d (.i .u64 0),.d (.i .u64 0),.d (.i .u64 0),.d (.i .u64 0),.d (.i .u64 0),.d (.i .u64 0),.d (.i .u64 0)]:=⟨by kernel_rfl,by kernel_rfl,by kernel_rfl,by kernel_rfl⟩
theorem adS:Tryz.prog.cellsOf 377=1∧Tryz.prog.bytesOf 377=4∧(Tryz.prog.info? 377).isSome=true∧aM Tryz.prog 377=some [.d (.i .u32 0)]:=⟨by kernel_rfl,by kernel_rfl,by kernel_rfl,by kernel_rfl⟩
theorem adT:Tryz.prog.cellsOf 378=65∧Tryz.prog.bytesOf 378=65∧(Tryz.prog.info? 378).isSome=true∧aM Tryz.prog 378=some [.d (.i .u8 0),.d (.i .u8 0),.d (.i .u8 0),.d (.i .u8 0),.d (.i .u8 0),.d (.i .u8 0),.d (.i .u8 0),.d (.i .u8 0),.d (.i .u8 0),.d (.i .u8 0),.d (.i .u8 0),.d (.i .u8 0),.d (.i .u8 0),.d (.i .u8 0),.d (.i .u8 0),.d (.i .u8 0),.d (.i .u8 0),.d (.i .u8 0),.d (.i .u8 0),.d (.i .u8 0),.d (.i .u8 0),.d (.i .u8 0),.d (.i .u8 0),.d (.i .u8 0),.d (.i .u8 0),.d (.i .u8 0),.d (.i .u8 0),.d (.i .u8 0),.d (.i .u8 0),.d (.i .u8 0),.d (.i .u8 0),.d (.i .u8 0),.d (.i .u8 0),.d (.i .u8 0),.d (.i .u8 0),.d (.i .u8 0),.d (.i .u8 0),.d (.i .u8 0),.d (.i .u8 0),.d (.i .u8 0),.d (.i .u8 0),.d (.i .u8 0),.d (.i .u8 0),.d (.i .u8 0),.d (.i .u8 0),.d (.i .u8 0),.d (.i .u8 0),.d (.i .u8 0),.d (.i .u8 0),.d (.i .u8 0),.d (.i .u8 0),.d (.i .u8 0),.d (.i .u8 0),.d (.i .u8 0),.d (.i .u8 0),.d (.i .u8 0),.d (.i .u8 0),.d (.i .u8 0),.d (.i .u8 0),.d (.i .u8 0),.d (.i .u8 0),.d (.i .u8 0),.d (.i .u8 0),.d (.i .u8 0),.d (.i .u8 0)]:=⟨by kernel_rfl,by kernel_rfl,by kernel_rfl,by kernel_rfl⟩
theorem adU:Tryz.prog.cellsOf 383=1∧Tryz.prog.bytesOf 383=16∧(Tryz.prog.info? 383).isSome=true∧aM Tryz.prog 383=some [.d (.s [])]:=⟨by kernel_rfl,by kernel_rfl,by kernel_rfl,by kernel_rfl⟩
theorem adV:Tryz.prog.cellsOf 388=32∧Tryz.prog.bytesOf 388=32∧(Tryz.prog.info? 388).isSome=true∧aM Tryz.prog 388=some [.d (.i .u8 0),.d (.i .u8 0),.d (.i .u8 0),.d (.i .u8 0),.d (.i .u8 0),.d (.i .u8 0),.d (.i .u8 0),.d (.i .u8 0),.d (.i .u8 0),.d (.i .u8 0),.d (.i .u8 0),.d (.i .u8 0),.d (.i .u8 0),.d (.i .u8 0),.d (.i .u8 0),.d (.i .u8 0),.d (.i .u8 0),.d (.i .u8 0),.d (.i .u8 0),.d (.i .u8 0),.d (.i .u8 0),.d (.i .u8 0),.d (.i .u8 0),.d (.i .u8 0),.d (.i .u8 0),.d (.i .u8 0),.d (.i .u8 0),.d (.i .u8 0),.d (.i .u8 0),.d (.i .u8 0),.d (.i .u8 0),.d (.i .u8 0)]:=⟨by kernel_rfl,by kernel_rfl,by kernel_rfl,by kernel_rfl⟩
theorem adW:Tryz.prog.cellsOf 389=64∧Tryz.prog.bytesOf 389=64∧(Tryz.prog.info? 389).isSome=true∧aM Tryz.prog 389=some [.d (.i .u8 0),.d (.i .u8 0),.d (.i .u8 0),.d (.i .u8 0),.d (.i .u8 0),.d (.i .u8 0),.d (.i .u8 0),.d (.i .u8 0),.d (.i .u8 0),.d (.i .u8 0),.d (.i .u8 0),.d (.i .u8 0),.d (.i .u8 0),.d (.i .u8 0),.d (.i .u8 0),.d (.i .u8 0),.d (.i .u8 0),.d (.i .u8 0),.d (.i .u8 0),.d (.i .u8 0),.d (.i .u8 0),.d (.i .u8 0),.d (.i .u8 0),.d (.i .u8 0),.d (.i .u8 0),.d (.i .u8 0),.d (.i .u8 0),.d (.i .u8 0),.d (.i .u8 0),.d (.i .u8 0),.d (.i .u8 0),.d (.i .u8 0),.d (.i .u8 0),.d (.i .u8 0),.d (.i .u8 0),.d (.i .u8 0),.d (.i .u8 0),.d (.i .u8 0),.d (.i .u8 0),.d (.i .u8 0),.d (.i .u8 0),.d (.i .u8 0),.d (.i .u8 0),.d (.i .u8 0),.d (.i .u8 0),.d (.i .u8 0),.d (.i .u8 0),.d (.i .u8 0),.d (.i .u8 0),.d (.i .u8 0),.d (.i .u8 0),.d (.i .u8 0),.d (.i .u8 0),.d (.i .u8 0),.d (.i .u8 0),.d (.i .u8 0),.d (.i .u8 0),.d (.i .u8 0),.d (.i .u8 0),.d (.i .u8 0),.d (.i .u8 0),.d (.i .u8 0),.d (.i .u8 0),.d (.i .u8 0)]:=⟨by kernel_rfl,by kernel_rfl,by kernel_rfl,by kernel_rfl⟩
theorem laidOut:laidOutB Tryz.prog=true:=by kernel_rfl
theorem own:ownKnob Tryz.prog.godebug=none:=by kernel_rfl
attribute [go_sem] ty1 Tryz.underlying1 ty2 Tryz.underlying2 ty3 Tryz.underlying3 ty4 Tryz.underlying4 acH ty5 Tryz.underlying5 ty9 Tryz.underlying9 aeD Tryz.underlying12 aeE Tryz.underlying20 aeF Tryz.underlying21 aeG Tryz.underlying22 aeH Tryz.underlying23 aeI Tryz.underlying24 aeJ Tryz.underlying25 aeK Tryz.underlying26 aeL Tryz.underlying27 aeM Tryz.underlying28 aeN Tryz.underlying29 aeO Tryz.underlying30 aeP Tryz.underlying31 aeQ Tryz.underlying32 aeR Tryz.underlying34 aeS Tryz.underlying35 aeT Tryz.underlying36 aeU Tryz.underlying37 aeV Tryz.underlying38 aeW Tryz.underlying39 aeX Tryz.underlying40 aeY Tryz.underlying41 aeZ Tryz.underlying42 ae0 Tryz.underlying43 ae1 Tryz.underlying44 ae2 Tryz.underlying46 ae3 Tryz.underlying47 ae4 Tryz.underlying48 ae5 Tryz.underlying49 ae6 Tryz.underlying50 ae7 Tryz.underlying51 ae8 Tryz.underlying52 ae9 Tryz.underlying53 afa Tryz.underlying54 afb Tryz.underlying55 afc Tryz.underlying56 afd Tryz.underlying57 afe Tryz.underlying58 aff Tryz.underlying59 afg Tryz.underlying60 afh Tryz.underlying61 afi Tryz.underlying63 afj Tryz.underlying64 afk Tryz.underlying65 afl Tryz.underlying66 afm Tryz.underlying67 afn Tryz.underlying68 afo Tryz.underlying69 afp Tryz.underlying71 afq Tryz.underlying75 afr Tryz.underlying76 afs Tryz.underlying77 aft Tryz.underlying78 afu Tryz.underlying80 afv Tryz.underlying81 afw Tryz.underlying82 afx Tryz.underlying83 afy Tryz.underlying84 afz Tryz.underlying85 afA Tryz.underlying90 afB Tryz.underlying91 afC Tryz.underlying92 afD Tryz.underlying95 afE Tryz.underlying96 afF Tryz.underlying97 acI Tryz.underlying108 acJ Tryz.underlying109 acK Tryz.underlying110 acL Tryz.underlying119 acM Tryz.underlying127 acN Tryz.underlying128 acO Tryz.underlying129 acP Tryz.underlying140 acQ Tryz.underlying145 acR Tryz.underlying154 acS Tryz.underlying155 acT Tryz.underlying165 acU Tryz.underlying166 acV Tryz.underlying171 acW Tryz.underlying172 acX Tryz.underlying177 acY Tryz.underlying178 acZ Tryz.underlying179 ac0 Tryz.underlying181 ac1 Tryz.underlying182 ac2 Tryz.underlying183 ac3 Tryz.underlying185 ac4 Tryz.underlying186 ac5 Tryz.underlying187 ac6 Tryz.underlying188 ac7 Tryz.underlying190 ac8 Tryz.underlying191 ac9 Tryz.underlying192 ada Tryz.underlying195 adb Tryz.underlying201 ade Tryz.underlying202 adf Tryz.underlying211 adg Tryz.underlying219 adh Tryz.underlying220 adi Tryz.underlying222 adj Tryz.underlying223 adk Tryz.underlying226 adl Tryz.underlying227 adn Tryz.underlying228 ado Tryz.underlying229 adp Tryz.underlying233 adq Tryz.underlying246 adr Tryz.underlying247 ads Tryz.underlying262 adt Tryz.underlying280 adu Tryz.underlying285 adv Tryz.underlying286 adw Tryz.underlying290 adx Tryz.underlying297 ady Tryz.underlying298 adz Tryz.underlying301 adA Tryz.underlying304 adB Tryz.underlying306 adC Tryz.underlying309 adD Tryz.underlying310 adE Tryz.underlying312 adF Tryz.underlying313 adG Tryz.underlying315 adH Tryz.underlying316 adI Tryz.underlying318 adJ Tryz.underlying319 adK Tryz.underlying321 adL Tryz.underlying322 adM Tryz.underlying358 adN Tryz.underlying359 adO Tryz.underlying364 adP Tryz.underlying369 adQ Tryz.underlying371 adR Tryz.underlying376 adS Tryz.underlying377 adT Tryz.underlying378 adU Tryz.underlying383 adV Tryz.underlying388 adW Tryz.underlying389
end Go.Proofs.YtlmhknhlmicmeaaGreatDoor.Fa
namespace Go.Proofs.YtlmhknhlmicmeaaGreatDoor
open Go Go.Ab
theorem BL(xs ys:List (List UInt8))(hsz:xs.length≤1073741824):aH Tryz.prog 77 [.c (.d (.sl (xs.map encS))),.c (.d (.sl (ys.map encS)))] (.c (.d (.b (dec (xs=ys))))):=by
 intro S
 refine aC (rs:=[.tmp 4]) Tryz.checked.mixed Tryz.func77 Tryz.ntmps77 rfl rfl rfl rfl rfl ?_
 simp -implicitDefEqProofs (disch:=omega) only[go_sem]
 with_reducible refine aA (fun hb=> ?_) (fun hb=> ?_)<;>have h:=hb<;>(try simp only[wf_preprocess] at h)<;>simp -implicitDefEqProofs (disch:=omega) only[go_sem,hb]<;>(repeat(with_reducible refine And.intro ?_ ?_;focus first|omega|rfl|assumption|exact⟨_,rfl,rfl⟩|(simp;omega)|(simp;done)))
 ·exact aJ (aQ (fun e=>h (by rw[e]))).symm
 have hl:xs.length=ys.length:=by omega
 refine aV (ι:=Nat) Tryz.checked.mixed rfl [0,1,5] (fun y=>[.c (.d (.sl (xs.map encS))),.c (.d (.sl (ys.map encS))),.c (.d (.i .i64 y))]) (fun y=>[]::S)
  (fun i=>i≤xs.length∧∀j,j<i→xs[j]? =ys[j]?) (fun y=>xs.length-y) 0 rfl rfl ⟨Nat.zero_le _,fun j h=>by omega⟩ ?_
 rintro i ⟨p1,p2⟩
 simp -implicitDefEqProofs (disch:=omega) only[go_sem]
 with_reducible refine aA (fun hb=> ?_) (fun hb=> ?_)<;>have h:=hb<;>(try simp only[wf_preprocess] at h)<;>simp -implicitDefEqProofs (disch:=omega) only[go_sem,hb]<;>(repeat(with_reducible refine And.intro ?_ ?_;focus first|omega|rfl|assumption|exact⟨_,rfl,rfl⟩|(simp;omega)|(simp;done)))
 ·have hi:i<xs.length:=by omega
  have hi':i<ys.length:=by omega
  (repeat(with_reducible refine And.intro ?_ ?_;focus first|omega|rfl|assumption|exact⟨_,rfl,rfl⟩|(simp;omega)|(simp;done)))
  with_reducible refine aA (fun hb=> ?_) (fun hb=> ?_)<;>have h:=hb<;>(try simp only[wf_preprocess] at h)<;>simp -implicitDefEqProofs (disch:=omega) only[go_sem,hb]<;>(repeat(with_reducible refine And.intro ?_ ?_;focus first|omega|rfl|assumption|exact⟨_,rfl,rfl⟩|(simp;omega)|(simp;done)))
  ·exact aJ (aQ (fun e=>h (by simp only[e]))).symm
  refine bH (i+1) (by omega) rfl rfl ⟨by omega,fun j hj=> ?_⟩
  by_cases e:j=i
  ·subst e
   rw[List.getElem?_eq_getElem hi,List.getElem?_eq_getElem hi',h]
  ·exact p2 j (by omega)
 ·have hi:i=xs.length:=by omega
  refine aJ (bR (List.ext_getElem? fun j=> ?_)).symm
  by_cases hj:j<i
  ·exact p2 j hj
  ·rw[List.getElem?_eq_none (by omega),List.getElem?_eq_none (by omega)]
end Go.Proofs.YtlmhknhlmicmeaaGreatDoor
namespace Go.Ab
def Ah(n:Nat)(out:List UInt8):List UInt8:=if h:n=0 then out else Ah (n/10) (UInt8.ofNat (48+n % 10)::out)
termination_by n
decreasing_by omega
def gG(k:Int):List UInt8:=if k≤0 then [109,48] else 109::Ah k.toNat []
theorem UL{out:List UInt8}:Ah 0 out=out:=by rw[Ah];simp
theorem XR{n:Nat}{out:List UInt8}(h:n≠0):Ah n out=Ah (n/10) (UInt8.ofNat (48+n % 10)::out):=by rw[Ah];simp[h]
mutual
def jO:D→Nat
 | .sl es=>aB es
 | .b _=>1
 | .i _ _=>1
 | .s _=>1
 | .o _=>0
 | .ol _ _=>0
def jP:List D→Nat
 |[]=>0
 |d::ds=>jO d+jP ds
def aB:List (List D)→Nat
 |[]=>0
 |r::rs=>jP r+aB rs
end
mutual
def yc:D→Int→D
 | .sl es,k=>.sl (bT es k)
 | .b _,k=>.b (decide (k.tmod 3=0))
 | .i kd _,k=>.i kd k
 | .s _,k=>.s (gG k)
 | .o v,_=>.o v
 | .ol n es,_=>.ol n es
def l8:List D→Int→List D
 |[],_=>[]
 |d::ds,k=>yc d k::l8 ds (k+jO d)
def bT:List (List D)→Int→List (List D)
 |[],_=>[]
 |r::rs,k=>l8 r k::bT rs (k+jP r)
end
mutual
def sj:D→Bool
 | .sl es=>iN es
 | .b _=>true
 | .i _ _=>true
 | .s _=>true
 | .o _=>true
 | .ol _ _=>true
def iC:List D→Bool
 |[]=>true
 |d::ds=>sj d&&iC ds
def iN:List (List D)→Bool
 |[]=>true
 |r::rs=>decide (r.length≤32)&&iC r&&iN rs
end
mutual
theorem adX:∀d:D,sj d=true→jO d≤32*d.sz+1
 | .sl es,h=>by
   have:=UM es (by simpa [sj] using h)
   simp only[jO,D.sz];omega
 | .b _,_=>by simp[jO]
 | .i _ _,_=>by simp[jO]
 | .s _,_=>by simp[jO]
 | .o _,_=>by simp[jO]
 | .ol _ _,_=>by simp[jO]
theorem FL:∀r:List D,iC r=true→jP r≤32*bM r+r.length
 |[],_=>by simp[jP]
 |d::ds,h=>by
  rw[iC,Bool.and_eq_true] at h
  have h1:=adX d h.1
  have h2:=FL ds h.2
  simp only[jP,bM,List.length_cons];omega
theorem UM:∀rs:List (List D),iN rs=true→aB rs≤32*(rs.length+bG rs)
 |[],_=>by simp[aB]
 |r::rs,h=>by
  rw[iN,Bool.and_eq_true,Bool.and_eq_true,decide_eq_true_eq] at h
  have h1:=FL r h.1.2
  have h2:=UM rs h.2
  simp only[aB,bG,List.length_cons];omega
end
theorem fG:∀a b,iC (a++b)=(iC a&&iC b)
 |[],b=>by simp[iC]
 |d::ds,b=>by rw[List.cons_append,iC,iC,fG ds b,Bool.and_assoc]
theorem iW{α:Type}{f:α→List D}:∀{xs:List α},(∀x∈xs,iC (f x)=true∧(f x).length≤32)→iN (xs.map f)=true
 |[],_=>rfl
 |x::xs,h=>by
  rw[List.map_cons,iN,(h x (by simp)).1,iW fun y hy=>h y (by simp[hy]),decide_eq_true (h x (by simp)).2];rfl
theorem yP:∀a b,aB (a++b)=aB a+aB b
 |[],b=>by simp[aB]
 |d::ds,b=>by rw[List.cons_append,aB,aB,yP ds b];omega
theorem DK:∀a b k,bT (a++b) k=bT a k++bT b (k+aB a)
 |[],b,k=>by simp[bT,aB]
 |d::ds,b,k=>by rw[List.cons_append,bT,bT,DK ds b,aB];simp only[List.cons_append,Int.natCast_add,Int.add_assoc]
theorem bE:∀rs k,(bT rs k).length=rs.length
 |[],_=>rfl
 |r::rs,k=>by rw[bT,List.length_cons,bE rs,List.length_cons]
theorem Mv{rows:List (List D)}{i:Nat}(hi:i<rows.length):rows.take (i+1)=rows.take i++[rows[i]]:=List.take_succ_eq_append_getElem hi
theorem jg{rows:List (List D)}{i:Nat}(hi:i<rows.length):aB (rows.take (i+1))=aB (rows.take i)+jP rows[i]:=by
 rw[Mv hi,yP];simp[aB]
theorem lS{rows:List (List D)}{i:Nat}:aB (rows.take i)≤aB rows:=by
 have:=yP (rows.take i) (rows.drop i)
 rw[List.take_append_drop] at this
 omega
def mo(rows:List (List D))(k:Int)(i:Nat):List (List D):=bT (rows.take i) k++rows.drop i
theorem qj{rows:List (List D)}{k:Int}:mo rows k 0=rows:=by simp[mo,bT]
theorem rE{rows:List (List D)}{k:Int}{i:Nat}(h:rows.length≤i):mo rows k i=bT rows k:=by
 unfold mo;rw[List.take_of_length_le h,List.drop_of_length_le h,List.append_nil]
theorem iO{rows:List (List D)}{k:Int}{i:Nat}:(mo rows k i).length=rows.length:=by
 unfold mo;rw[List.length_append,bE,List.length_take,List.length_drop];omega
theorem XT{rows:List (List D)}{k:Int}{i:Nat}(hi:i<rows.length):(mo rows k i).getD i []=rows[i]:=by
 unfold mo
 rw[List.getD_eq_getElem?_getD,List.getElem?_append_right (by rw[bE,List.length_take];omega),bE,List.length_take,List.getElem?_drop]
 rw[show i+(i-min i rows.length)=i by omega,List.getElem?_eq_getElem hi];rfl
theorem XU{rows:List (List D)}{k:Int}{i:Nat}(hi:i<rows.length):(mo rows k i).set i (l8 rows[i] (k+aB (rows.take i)))=mo rows k (i+1):=by
 unfold mo
 have hl:(bT (rows.take i) k).length=i:=by rw[bE,List.length_take];omega
 rw[List.set_append_right _ _ (by omega),hl,Nat.sub_self,List.drop_eq_getElem_cons hi,List.set_cons_zero,Mv hi,DK,List.append_assoc]
 rfl
def iX(rows:List (List D))(k:Int)(i:Nat)(row:List D):List (List D):=(mo rows k i).set i row
theorem cB{rows:List (List D)}{k:Int}{i:Nat}{row:List D}:(iX rows k i row).length=rows.length:=by unfold iX;rw[List.length_set,iO]
theorem ql{rows:List (List D)}{k:Int}{i:Nat}{row:List D}(hi:i<rows.length):(iX rows k i row).getD i []=row:=by
 unfold iX
 rw[List.getD_eq_getElem?_getD,List.getElem?_set_self (by rw[iO];exact hi)];rfl
theorem mM{rows:List (List D)}{k:Int}{i o:Nat}{row:List D}(hi:i<rows.length):cellAt (iX rows k i row) i o=row[o]? :=by
 unfold iX cellAt
 rw[List.getElem?_set_self (by rw[iO];exact hi),Option.bind_some]
theorem dK{rows:List (List D)}{k:Int}{i:Nat}{row row':List D}:(iX rows k i row).set i row'=iX rows k i row':=by unfold iX;rw[List.set_set]
theorem uy{rows:List (List D)}{k:Int}{i:Nat}(hi:i<rows.length):mo rows k i=iX rows k i rows[i]:=by
 have h:=XT (k:=k) hi
 have hl:i<(mo rows k i).length:=by rw[iO];exact hi
 rw[List.getD_eq_getElem?_getD,List.getElem?_eq_getElem hl,Option.getD_some] at h
 unfold iX
 rw[←h,List.set_getElem_self]
theorem uz{rows:List (List D)}{k:Int}{i:Nat}(hi:i<rows.length):iX rows k i (l8 rows[i] (k+aB (rows.take i)))=mo rows k (i+1):=XU hi
theorem ZL{rs:List (List (List D))}{r:Nat}{p:List (Nat×Nat)}{rows es:List (List D)}{k:Int}{i o:Nat}{row:List D}(hp:atR rs r p=some rows)(hi:i<rows.length)(h:row[o]? =some (.sl es)):
 atR (cO rs r p (iX rows k i row)) r (p++[(i,o)])=some es:=lX (ou hp) (by rw[mM hi,h])
theorem XV{rs:List (List (List D))}{r:Nat}{p:List (Nat×Nat)}{rows es new:List (List D)}{k:Int}{i o:Nat}{row:List D}(hp:atR rs r p=some rows)(hi:i<rows.length)(h:row[o]? =some (.sl es)):
 cO (cO rs r p (iX rows k i row)) r (p++[(i,o)]) new=cO rs r p (iX rows k i (row.set o (.sl new))):=by
 rw[UK (ou hp) (by rw[mM hi,h]),nU hp,ql hi,dK]
theorem jV:∀{rows:List (List D)} {k:Int} {i:Nat} (hi:i<rows.length),(bT rows k).getD i []=l8 rows[i] (k+aB (rows.take i))
 |r::rows,k,0,_=>by simp[bT,aB]
 |r::rows,k,i+1,hi=>by
  have:=jV (rows:=rows) (k:=k+jP r) (i:=i) (by simpa using hi)
  rw[bT,List.getD_cons_succ,this,List.getElem_cons_succ,List.take_succ_cons,aB,Int.natCast_add,Int.add_assoc]
theorem mO{α:Type}{f:α→List D}(h:∀x,1≤jP (f x)):∀xs:List α,xs.length≤aB (xs.map f)
 |[]=>Nat.zero_le _
 |x::xs=>by
  have h1:=h x
  have h2:=mO h xs
  rw[List.map_cons,aB,List.length_cons]
  omega
theorem qm{P:Program}{f:FuncId}{S:Store}{l j r i o:Nat}{p:List (Nat×Nat)}{rs:List (List (List D))}{rows es new:List (List D)}{row:List D}{k:Int}{args:List V}{R:V}
 (hS:aR S (l,j)=some (.xf rs)) (hp:atR rs r p=some rows) (hi:i<rows.length) (h:row[o]? =some (.sl es))
 (hA:∀(S':Store) (rs':List (List (List D))),aR S' (1+l,j)=some (.xf rs')→atR rs' r (p++[(i,o)])=some es→bA P f args S' (fun res AL=>res=R∧AL=aW S' (1+l,j) (.xf (cO rs' r (p++[(i,o)]) new)))):
 bA P f args ([]::aW S (l,j) (.xf (cO rs r p (iX rows k i row)))) (fun res AL=>res=R∧AL=[]::aW S (l,j) (.xf (cO rs r p (iX rows k i (row.set o (.sl new)))))):=by
 refine(hA _ _ (by rw[dN];exact bS _ _ _ _ hS) (ZL (k:=k) hp hi h)).mono fun res AL ⟨h1,h2⟩=>⟨h1,?_⟩
 rw[h2,kX,bD,XV hp hi h]
theorem Mw:∀{rows:List (List D)} {n i:Nat} (hi:i<rows.length),(dZ rows n)[i]? =some (dO rows[i] (n+iH (rows.take i)))
 |r::rows,n,0,_=>by simp[dZ,iH]
 |r::rows,n,i+1,hi=>by
  have:=Mw (rows:=rows) (n:=n+nJ r) (i:=i) (by simpa using hi)
  rw[dZ,List.getElem?_cons_succ,this,List.getElem_cons_succ,List.take_succ_cons,iH,Nat.add_assoc]
theorem Mx:∀row:List D,(row.map C.d).mapM EK=some row
 |[]=>rfl
 |d::row=>by
  have:=Mx row
  rw[List.map_cons,List.mapM_cons,this];rfl
theorem gF{a:Int}(h:0≤a):decide (a<0)=false:=decide_eq_false (by omega)
end Go.Ab
namespace Go.Proofs.YtlmhknhlmicmeaaGreatDoor
open Go Go.Ab
theorem dw(k:Int)(hk: -9223372036854775808≤k∧k≤4611686018427387904):aH Tryz.prog 181 [.c (.d (.i .i64 k))] (.c (.d (.s (gG k)))):=fun S=>by
 refine aC (rs:=[.tmp 2]) Tryz.checked.mixed Tryz.func181 Tryz.ntmps181 rfl rfl rfl rfl rfl ?_
 simp -implicitDefEqProofs (disch:=omega) only[go_sem]
 with_reducible refine aA (fun hb=> ?_) (fun hb=> ?_)<;>have h:=hb<;>(try simp only[wf_preprocess] at h)<;>simp -implicitDefEqProofs (disch:=omega) only[go_sem,hb]<;>(repeat(with_reducible refine And.intro ?_ ?_;focus first|omega|rfl|assumption|exact⟨_,rfl,rfl⟩|(simp;omega)|(simp;done)))
 ·unfold gG;rw[if_pos h]
 have hpos:¬k≤0:=h
 refine aV (ι:=Int×List UInt8) Tryz.checked.mixed rfl [0,3] (fun y=>[.c (.d (.i .i64 y.1)),.c (.d (.s y.2))]) (fun _=>[]::S)
  (fun y=>0≤y.1∧Ah y.1.toNat y.2=Ah k.toNat []∧y.1≤k∧y.1.toNat*2^y.2.length≤4611686018427387904∧y.2.length≤63) (fun y=>y.1.toNat) (k,[]) rfl rfl ⟨by simp only;omega,rfl,by simp only;omega,by simp only[List.length_nil];omega,by simp⟩ ?_
 rintro⟨n,out⟩ ⟨p1,p2,p3,p4,p5⟩
 simp only at p1 p2 p3 p4 p5
 simp -implicitDefEqProofs (disch:=omega) only[go_sem]
 with_reducible refine aA (fun hb=> ?_) (fun hb=> ?_)<;>have h:=hb<;>(try simp only[wf_preprocess] at h)<;>simp -implicitDefEqProofs (disch:=omega) only[go_sem,hb]<;>(repeat(with_reducible refine And.intro ?_ ?_;focus first|omega|rfl|assumption|exact⟨_,rfl,rfl⟩|(simp;omega)|(simp;done)))
 ·have hn:n.toNat≠0:=by omega
  have hm:=Int.tmod_nonneg 10 p1
  have hm2:=Int.tmod_lt_of_pos n (show(0:Int)<10 by omega)
  have hm3:n.tmod 10=(n.toNat % 10:Nat):=by
   rw[Int.tmod_eq_emod_of_nonneg p1]
   omega
  have hq:n.tdiv 10=(n.toNat/10:Nat):=by
   rw[Int.tdiv_eq_ediv_of_nonneg p1]
   omega
  have hlen:out.length≤62:=by
   refine Nat.le_of_not_lt fun hgt=> ?_
   have h1:2^63≤2^out.length:=Nat.pow_le_pow_right (by omega) (by omega)
   have h2:1*2^out.length≤n.toNat*2^out.length:=Nat.mul_le_mul_right _ (by omega)
   omega
  simp -implicitDefEqProofs (disch:=omega) only[go_sem]
  have hc:UInt8.ofNat (IntKind.u8.wrap (48+n.tmod 10)).toNat=UInt8.ofNat (48+n.toNat % 10):=by
   rw[wrap_u8 _ (by omega),hm3]
   congr 1
  refine bH (ι:=Int×List UInt8) (n.tdiv 10,UInt8.ofNat (48+n.toNat % 10)::out) (by simp only;omega) (by rw[←hc];rfl) rfl ?_
  have hq2:(n.tdiv 10).toNat=n.toNat/10:=by omega
  refine⟨by simp only;omega,?_,by simp only;omega,?_,by simp only[List.length_cons];omega⟩
  ·simp only
   rw[hq2,←XR hn,p2]
  ·simp only[List.length_cons]
   rw[hq2,Nat.pow_succ]
   have:n.toNat/10*2≤n.toNat:=by omega
   calc n.toNat/10*(2^out.length*2)=n.toNat/10*2*2^out.length:=by rw[Nat.mul_comm (2^out.length) 2,Nat.mul_assoc]
    _≤n.toNat*2^out.length:=Nat.mul_le_mul_right _ this
    _≤_:=p4
 ·have:n.toNat=0:=by omega
  rw[this,UL] at p2
  unfold gG
  rw[if_neg hpos,p2]
end Go.Proofs.YtlmhknhlmicmeaaGreatDoor
namespace Go.Ab
theorem su(xs:List (List UInt8)):iy (xs.map encS)=true:=iV fun _ _=>rfl
theorem sw(xs:List (List UInt8)):iN (xs.map encS)=true:=iW fun _ _=>⟨rfl,by simp[encS]⟩
theorem Ep:∀(xs:List (List UInt8)) (n:Nat),dZ (xs.map encS) n=xs.map encS
 |[],_=>rfl
 |x::xs,n=>by rw[List.map_cons,dZ,Ep xs];rfl
mutual
theorem aj.eG:∀x:aj,gP x.enc=true∧iC x.enc=true
 | .mk a0 a1 a2=>by simp only[aj.enc,gP,nT,iC,sj,fF,fG,Bool.and_true,Bool.true_and,Bool.and_self,and_self,and_true,true_and,(aj.lY a2).1,(aj.lY a2).2]
theorem aj.lY:∀xs:List aj,iy (aj.encs xs)=true∧iN (aj.encs xs)=true
 |[]=>⟨rfl,rfl⟩
 |x::xs=>by
  have h:decide ((aj.enc x).length≤32)=true:=by rw[aj.bC];rfl
  simp only[aj.encs,iy,iN,h,(aj.eG x).1,(aj.eG x).2,(aj.lY xs).1,(aj.lY xs).2,Bool.and_self,and_self]
end
theorem aj.fV(xs:List aj):iy (xs.map aj.enc)=true∧iN (xs.map aj.enc)=true:=by rw[←aj.gW];exact aj.lY xs
theorem cK.eG(x:cK):gP x.enc=true∧iC x.enc=true:=by
 rw[cK.aD];simp only[List.cons_append,List.nil_append,gP,nT,iC,sj,fF,fG,Bool.and_true,Bool.true_and,Bool.and_self,and_self,and_true,true_and,(aj.eG x.fType).1,(aj.eG x.fType).2]
theorem cK.fV(xs:List cK):iy (xs.map cK.enc)=true∧iN (xs.map cK.enc)=true:=⟨iV fun x _=>x.eG.1,iW fun x _=>⟨x.eG.2,by rw[cK.bC];decide⟩⟩
theorem aN.eG(x:aN):gP x.enc=true∧iC x.enc=true:=by
 rw[aN.aD];simp only[List.cons_append,List.nil_append,gP,nT,iC,sj,fF,fG,Bool.and_true,Bool.true_and,Bool.and_self,and_self,and_true,true_and,(aj.eG x.fType).1,(aj.eG x.fType).2]
theorem aN.fV(xs:List aN):iy (xs.map aN.enc)=true∧iN (xs.map aN.enc)=true:=⟨iV fun x _=>x.eG.1,iW fun x _=>⟨x.eG.2,by rw[aN.bC];decide⟩⟩
mutual
theorem au.eG:∀x:au,gP x.enc=true∧iC x.enc=true
 | .mk a0 a1 a2 a3 a4 a5 a6=>by simp only[au.enc,gP,nT,iC,sj,fF,fG,Bool.and_true,Bool.true_and,Bool.and_self,and_self,and_true,true_and,(aj.eG a4).1,(aj.eG a4).2,(au.lY a5).1,(au.lY a5).2,(aF.lY a6).1,(aF.lY a6).2]
theorem au.lY:∀xs:List au,iy (au.encs xs)=true∧iN (au.encs xs)=true
 |[]=>⟨rfl,rfl⟩
 |x::xs=>by
  have h:decide ((au.enc x).length≤32)=true:=by rw[au.bC];rfl
  simp only[au.encs,iy,iN,h,(au.eG x).1,(au.eG x).2,(au.lY xs).1,(au.lY xs).2,Bool.and_self,and_self]
theorem aF.eG:∀x:aF,gP x.enc=true∧iC x.enc=true
 | .mk a0 a1 a2=>by simp only[aF.enc,gP,nT,iC,sj,fF,fG,Bool.and_true,Bool.true_and,Bool.and_self,and_self,and_true,true_and,su a1,sw a1,(au.eG a2).1,(au.eG a2).2]
theorem aF.lY:∀xs:List aF,iy (aF.encs xs)=true∧iN (aF.encs xs)=true
 |[]=>⟨rfl,rfl⟩
 |x::xs=>by
  have h:decide ((aF.enc x).length≤32)=true:=by rw[aF.bC];rfl
  simp only[aF.encs,iy,iN,h,(aF.eG x).1,(aF.eG x).2,(aF.lY xs).1,(aF.lY xs).2,Bool.and_self,and_self]
end
theorem au.fV(xs:List au):iy (xs.map au.enc)=true∧iN (xs.map au.enc)=true:=by rw[←au.gW];exact au.lY xs
theorem aF.fV(xs:List aF):iy (xs.map aF.enc)=true∧iN (xs.map aF.enc)=true:=by rw[←aF.gW];exact aF.lY xs
mutual
theorem ah.eG:∀x:ah,gP x.enc=true∧iC x.enc=true
 | .mk a0 a1=>by simp only[ah.enc,gP,nT,iC,sj,fF,fG,Bool.and_true,Bool.true_and,Bool.and_self,and_self,and_true,true_and,(ah.lY a1).1,(ah.lY a1).2]
theorem ah.lY:∀xs:List ah,iy (ah.encs xs)=true∧iN (ah.encs xs)=true
 |[]=>⟨rfl,rfl⟩
 |x::xs=>by
  have h:decide ((ah.enc x).length≤32)=true:=by rw[ah.bC];rfl
  simp only[ah.encs,iy,iN,h,(ah.eG x).1,(ah.eG x).2,(ah.lY xs).1,(ah.lY xs).2,Bool.and_self,and_self]
end
theorem ah.fV(xs:List ah):iy (xs.map ah.enc)=true∧iN (xs.map ah.enc)=true:=by rw[←ah.gW];exact ah.lY xs
theorem bP.eG(x:bP):gP x.enc=true∧iC x.enc=true:=by
 rw[bP.aD];simp only[List.cons_append,List.nil_append,gP,nT,iC,sj,fF,fG,Bool.and_true,Bool.true_and,Bool.and_self,and_self,and_true,true_and,(aj.fV x.aS).1,(aj.fV x.aS).2,(aj.eG x.bq).1,(aj.eG x.bq).2,su x.aK,sw x.aK,(au.eG x.fBody).1,(au.eG x.fBody).2]
theorem bP.fV(xs:List bP):iy (xs.map bP.enc)=true∧iN (xs.map bP.enc)=true:=⟨iV fun x _=>x.eG.1,iW fun x _=>⟨x.eG.2,by rw[bP.bC];decide⟩⟩
theorem eU.eG(x:eU):gP x.enc=true∧iC x.enc=true:=by
 rw[eU.aD];simp only[List.cons_append,List.nil_append,gP,nT,iC,sj,fF,fG,Bool.and_true,Bool.true_and,Bool.and_self,and_self,and_true,true_and,su x.kG,sw x.kG,(bP.fV x.lI).1,(bP.fV x.lI).2]
theorem eU.fV(xs:List eU):iy (xs.map eU.enc)=true∧iN (xs.map eU.enc)=true:=⟨iV fun x _=>x.eG.1,iW fun x _=>⟨x.eG.2,by rw[eU.bC];decide⟩⟩
theorem bI.eG(x:bI):gP x.enc=true∧iC x.enc=true:=by
 rw[bI.aD];simp only[List.cons_append,List.nil_append,gP,nT,iC,sj,fF,fG,Bool.and_true,Bool.true_and,Bool.and_self,and_self,and_true,true_and,(aj.fV x.nH).1,(aj.fV x.nH).2]
theorem bI.fV(xs:List bI):iy (xs.map bI.enc)=true∧iN (xs.map bI.enc)=true:=⟨iV fun x _=>x.eG.1,iW fun x _=>⟨x.eG.2,by rw[bI.bC];decide⟩⟩
theorem bX.eG(x:bX):gP x.enc=true∧iC x.enc=true:=by
 rw[bX.aD];simp only[List.cons_append,List.nil_append,gP,nT,iC,sj,fF,fG,Bool.and_true,Bool.true_and,Bool.and_self,and_self,and_true,true_and,su x.aK,sw x.aK,(bI.fV x.iT).1,(bI.fV x.iT).2]
theorem bX.fV(xs:List bX):iy (xs.map bX.enc)=true∧iN (xs.map bX.enc)=true:=⟨iV fun x _=>x.eG.1,iW fun x _=>⟨x.eG.2,by rw[bX.bC];decide⟩⟩
theorem dQ.eG(x:dQ):gP x.enc=true∧iC x.enc=true:=by
 rw[dQ.aD];simp only[List.cons_append,List.nil_append,gP,nT,iC,sj,fF,fG,Bool.and_true,Bool.true_and,Bool.and_self,and_self,and_true,true_and,su x.aK,sw x.aK,(au.eG x.fBody).1,(au.eG x.fBody).2]
theorem dQ.fV(xs:List dQ):iy (xs.map dQ.enc)=true∧iN (xs.map dQ.enc)=true:=⟨iV fun x _=>x.eG.1,iW fun x _=>⟨x.eG.2,by rw[dQ.bC];decide⟩⟩
theorem dh.eG(x:dh):gP x.enc=true∧iC x.enc=true:=by
 rw[dh.aD];simp only[List.cons_append,List.nil_append,gP,nT,iC,sj,fF,fG,Bool.and_true,Bool.true_and,Bool.and_self,and_self,and_true,true_and,su x.aK,sw x.aK,(aj.eG x.uN).1,(aj.eG x.uN).2,(aN.fV x.bO).1,(aN.fV x.bO).2,(aj.eG x.kH).1,(aj.eG x.kH).2,(dQ.fV x.p8).1,(dQ.fV x.p8).2]
theorem dh.fV(xs:List dh):iy (xs.map dh.enc)=true∧iN (xs.map dh.enc)=true:=⟨iV fun x _=>x.eG.1,iW fun x _=>⟨x.eG.2,by rw[dh.bC];decide⟩⟩
theorem aP.eG(x:aP):gP x.enc=true∧iC x.enc=true:=by
 rw[aP.aD];simp only[List.cons_append,List.nil_append,gP,nT,iC,sj,fF,fG,Bool.and_true,Bool.true_and,Bool.and_self,and_self,and_true,true_and,(aj.eG x.fType).1,(aj.eG x.fType).2]
theorem aP.fV(xs:List aP):iy (xs.map aP.enc)=true∧iN (xs.map aP.enc)=true:=⟨iV fun x _=>x.eG.1,iW fun x _=>⟨x.eG.2,by rw[aP.bC];decide⟩⟩
theorem aU.eG(x:aU):gP x.enc=true∧iC x.enc=true:=by
 rw[aU.aD];simp only[List.cons_append,List.nil_append,gP,nT,iC,sj,fF,fG,Bool.and_true,Bool.true_and,Bool.and_self,and_self,and_true,true_and,su x.aK,sw x.aK,(aN.fV x.bO).1,(aN.fV x.bO).2,(aP.fV x.aS).1,(aP.fV x.aS).2,(aj.eG x.bq).1,(aj.eG x.bq).2,(au.eG x.fBody).1,(au.eG x.fBody).2]
theorem aU.fV(xs:List aU):iy (xs.map aU.enc)=true∧iN (xs.map aU.enc)=true:=⟨iV fun x _=>x.eG.1,iW fun x _=>⟨x.eG.2,by rw[aU.bC];decide⟩⟩
theorem dA.eG(x:dA):gP x.enc=true∧iC x.enc=true:=by
 rw[dA.aD];simp only[List.cons_append,List.nil_append,gP,nT,iC,sj,fF,fG,Bool.and_true,Bool.true_and,Bool.and_self,and_self,and_true,true_and,su x.xY,sw x.xY,(eU.fV x.rX).1,(eU.fV x.rX).2,(bX.fV x.mF).1,(bX.fV x.mF).2,(dh.fV x.mG).1,(dh.fV x.mG).2,(aU.fV x.mH).1,(aU.fV x.mH).2]
theorem dA.fV(xs:List dA):iy (xs.map dA.enc)=true∧iN (xs.map dA.enc)=true:=⟨iV fun x _=>x.eG.1,iW fun x _=>⟨x.eG.2,by rw[dA.bC];decide⟩⟩
theorem d9.eG(x:d9):gP x.enc=true∧iC x.enc=true:=by
 rw[d9.aD];simp only[List.cons_append,List.nil_append,gP,nT,iC,sj,fF,fG,Bool.and_true,Bool.true_and,Bool.and_self,and_self,and_true,true_and,(dA.fV x.nS).1,(dA.fV x.nS).2]
theorem d9.fV(xs:List d9):iy (xs.map d9.enc)=true∧iN (xs.map d9.enc)=true:=⟨iV fun x _=>x.eG.1,iW fun x _=>⟨x.eG.2,by rw[d9.bC];decide⟩⟩
theorem bW.eG(x:bW):gP x.enc=true∧iC x.enc=true:=by
 rw[bW.aD];simp only[List.cons_append,List.nil_append,gP,nT,iC,sj,fF,fG,Bool.and_true,Bool.true_and,Bool.and_self,and_self,and_true,true_and]
theorem bW.fV(xs:List bW):iy (xs.map bW.enc)=true∧iN (xs.map bW.enc)=true:=⟨iV fun x _=>x.eG.1,iW fun x _=>⟨x.eG.2,by rw[bW.bC];decide⟩⟩
end Go.Ab
namespace Go.Proofs.YtlmhknhlmicmeaaGreatDoor
open Go Go.Ab
theorem FM:∀n:Nat,(∀x:aj,SizeOf.sizeOf x<n→∀y:aj,x.sz≤1048576→aH Tryz.prog 100 [x.v,y.v] (.c (.d (.b (dec (x=y))))))∧
 (∀xs:List aj,SizeOf.sizeOf xs<n→∀ys:List aj,xs.length+bG (xs.map aj.enc)≤1048576→aH Tryz.prog 192 [.c (.d (.sl (xs.map aj.enc))),.c (.d (.sl (ys.map aj.enc)))] (.c (.d (.b (dec (xs=ys))))))
 |0=>⟨fun x h=>by omega,fun x h=>by omega⟩
 |n+1=>by
  obtain⟨BM,ZM⟩:=FM n
  refine⟨fun x hn y hsz S=> ?_,fun xs hn ys hsz S=> ?_⟩
  ·have iA:=aj.fA x
   simp only[aj.sz,aj.aD,bM,bN,D.sz,List.length_map] at hsz
   refine aC (rs:=[.tmp 4]) Tryz.checked.mixed Tryz.func100 Tryz.ntmps100 rfl rfl rfl rfl rfl ?_
   simp -implicitDefEqProofs (disch:=omega) only[go_sem]
   with_reducible refine aA (fun hb=> ?_) (fun hb=> ?_)<;>have h:=hb<;>(try simp only[wf_preprocess] at h)<;>simp -implicitDefEqProofs (disch:=omega) only[go_sem,hb]<;>(repeat(with_reducible refine And.intro ?_ ?_;focus first|omega|rfl|assumption|exact⟨_,rfl,rfl⟩|(simp;omega)|(simp;done)))
   ·exact aJ (aQ (fun e=>h (by rw[e]))).symm
   have RL:=h
   clear h
   with_reducible refine aA (fun hb=> ?_) (fun hb=> ?_)<;>have h:=hb<;>(try simp only[wf_preprocess] at h)<;>simp -implicitDefEqProofs (disch:=omega) only[go_sem,hb]<;>(repeat(with_reducible refine And.intro ?_ ?_;focus first|omega|rfl|assumption|exact⟨_,rfl,rfl⟩|(simp;omega)|(simp;done)))
   ·exact aJ (aQ (fun e=>h (by rw[e]))).symm
   have Ai:=h
   clear h
   refine ay (ZM x.fArgs (by omega) _ (by omega)) ?_
   simp -implicitDefEqProofs (disch:=omega) only[go_sem]
   with_reducible refine aA (fun hb=> ?_) (fun hb=> ?_)<;>have h:=hb<;>(try simp only[wf_preprocess] at h)<;>simp -implicitDefEqProofs (disch:=omega) only[go_sem,hb]<;>(repeat(with_reducible refine And.intro ?_ ?_;focus first|omega|rfl|assumption|exact⟨_,rfl,rfl⟩|(simp;omega)|(simp;done)))
   ·exact aJ (aQ (fun e=>h (by rw[e]))).symm
   have eArgs:=h
   clear h
   exact aJ (bR (aj.ext RL Ai eArgs)).symm
  ·refine aC (rs:=[.tmp 4]) Tryz.checked.mixed Tryz.func192 Tryz.ntmps192 rfl rfl rfl rfl rfl ?_
   simp -implicitDefEqProofs (disch:=omega) only[go_sem]
   with_reducible refine aA (fun hb=> ?_) (fun hb=> ?_)<;>have h:=hb<;>(try simp only[wf_preprocess] at h)<;>simp -implicitDefEqProofs (disch:=omega) only[go_sem,hb]<;>(repeat(with_reducible refine And.intro ?_ ?_;focus first|omega|rfl|assumption|exact⟨_,rfl,rfl⟩|(simp;omega)|(simp;done)))
   ·exact aJ (aQ (fun e=>h (by rw[e]))).symm
   have hl:xs.length=ys.length:=by omega
   refine aV (ι:=Nat) Tryz.checked.mixed rfl [0,1,5] (fun y=>[.c (.d (.sl (xs.map aj.enc))),.c (.d (.sl (ys.map aj.enc))),.c (.d (.i .i64 y))]) (fun y=>[]::S)
    (fun i=>i≤xs.length∧∀j,j<i→xs[j]? =ys[j]?) (fun y=>xs.length-y) 0 rfl rfl ⟨Nat.zero_le _,fun j h=>by omega⟩ ?_
   rintro i ⟨p1,p2⟩
   simp -implicitDefEqProofs (disch:=omega) only[go_sem]
   with_reducible refine aA (fun hb=> ?_) (fun hb=> ?_)<;>have h:=hb<;>(try simp only[wf_preprocess] at h)<;>simp -implicitDefEqProofs (disch:=omega) only[go_sem,hb]<;>(repeat(with_reducible refine And.intro ?_ ?_;focus first|omega|rfl|assumption|exact⟨_,rfl,rfl⟩|(simp;omega)|(simp;done)))
   ·have hi:i<xs.length:=by omega
    have hi':i<ys.length:=by omega
    have hx:xs[i].sz≤bG (xs.map aj.enc):=dY (List.mem_map_of_mem (List.getElem_mem hi))
    (repeat(with_reducible refine And.intro ?_ ?_;focus first|omega|rfl|assumption|exact⟨_,rfl,rfl⟩|(simp;omega)|(simp;done)))
    refine ay (BM xs[i] (by have:=List.sizeOf_lt_of_mem (List.getElem_mem hi);omega) ys[i] (by omega)) ?_
    simp -implicitDefEqProofs (disch:=omega) only[go_sem]
    with_reducible refine aA (fun hb=> ?_) (fun hb=> ?_)<;>have h:=hb<;>(try simp only[wf_preprocess] at h)<;>simp -implicitDefEqProofs (disch:=omega) only[go_sem,hb]<;>(repeat(with_reducible refine And.intro ?_ ?_;focus first|omega|rfl|assumption|exact⟨_,rfl,rfl⟩|(simp;omega)|(simp;done)))
    ·exact aJ (aQ (fun e=>h (by simp only[e]))).symm
    refine bH (i+1) (by omega) rfl rfl ⟨by omega,fun j hj=> ?_⟩
    by_cases e:j=i
    ·subst e
     rw[List.getElem?_eq_getElem hi,List.getElem?_eq_getElem hi',h]
    ·exact p2 j (by omega)
   ·have hi:i=xs.length:=by omega
    refine aJ (bR (List.ext_getElem? fun j=> ?_)).symm
    by_cases hj:j<i
    ·exact p2 j hj
    ·rw[List.getElem?_eq_none (by omega),List.getElem?_eq_none (by omega)]
theorem yg(x:aj):∀y:aj,x.sz≤1048576→aH Tryz.prog 100 [x.v,y.v] (.c (.d (.b (dec (x=y))))):=(FM _).1 x (Nat.lt_succ_self _)
end Go.Proofs.YtlmhknhlmicmeaaGreatDoor
namespace Go.Proofs.YtlmhknhlmicmeaaGreatDoor
open Go Go.Ab
end Go.Proofs.YtlmhknhlmicmeaaGreatDoor
namespace Go.Proofs.YtlmhknhlmicmeaaGreatDoor
open Go Go.Ab
theorem RN(x:aN):∀y:aN,x.sz≤1048576→aH Tryz.prog 229 [x.v,y.v] (.c (.d (.b (dec (x=y))))):=by
 intro y hsz S
 simp only[aN.sz,aN.aD,bM,bN,D.sz,List.length_map,aj.dB] at hsz
 refine aC (rs:=[.tmp 4]) Tryz.checked.mixed Tryz.func229 Tryz.ntmps229 rfl rfl rfl rfl rfl ?_
 simp -implicitDefEqProofs (disch:=omega) only[go_sem]
 with_reducible refine aA (fun hb=> ?_) (fun hb=> ?_)<;>have h:=hb<;>(try simp only[wf_preprocess] at h)<;>simp -implicitDefEqProofs (disch:=omega) only[go_sem,hb]<;>(repeat(with_reducible refine And.intro ?_ ?_;focus first|omega|rfl|assumption|exact⟨_,rfl,rfl⟩|(simp;omega)|(simp;done)))
 ·exact aJ (aQ (fun e=>h (by rw[e]))).symm
 have MB:=h
 clear h
 refine ay (yg x.fType _ (by omega)) ?_
 simp -implicitDefEqProofs (disch:=omega) only[go_sem]
 with_reducible refine aA (fun hb=> ?_) (fun hb=> ?_)<;>have h:=hb<;>(try simp only[wf_preprocess] at h)<;>simp -implicitDefEqProofs (disch:=omega) only[go_sem,hb]<;>(repeat(with_reducible refine And.intro ?_ ?_;focus first|omega|rfl|assumption|exact⟨_,rfl,rfl⟩|(simp;omega)|(simp;done)))
 ·exact aJ (aQ (fun e=>h (by rw[e]))).symm
 have eType:=h
 clear h
 exact aJ (bR (aN.ext' MB eType)).symm
theorem Oz(xs:List aN):∀ys:List aN,xs.length+bG (xs.map aN.enc)≤1048576→aH Tryz.prog 128 [.c (.d (.sl (xs.map aN.enc))),.c (.d (.sl (ys.map aN.enc)))] (.c (.d (.b (dec (xs=ys))))):=by
 intro ys hsz S
 refine aC (rs:=[.tmp 4]) Tryz.checked.mixed Tryz.func128 Tryz.ntmps128 rfl rfl rfl rfl rfl ?_
 simp -implicitDefEqProofs (disch:=omega) only[go_sem]
 with_reducible refine aA (fun hb=> ?_) (fun hb=> ?_)<;>have h:=hb<;>(try simp only[wf_preprocess] at h)<;>simp -implicitDefEqProofs (disch:=omega) only[go_sem,hb]<;>(repeat(with_reducible refine And.intro ?_ ?_;focus first|omega|rfl|assumption|exact⟨_,rfl,rfl⟩|(simp;omega)|(simp;done)))
 ·exact aJ (aQ (fun e=>h (by rw[e]))).symm
 have hl:xs.length=ys.length:=by omega
 refine aV (ι:=Nat) Tryz.checked.mixed rfl [0,1,5] (fun y=>[.c (.d (.sl (xs.map aN.enc))),.c (.d (.sl (ys.map aN.enc))),.c (.d (.i .i64 y))]) (fun y=>[]::S)
  (fun i=>i≤xs.length∧∀j,j<i→xs[j]? =ys[j]?) (fun y=>xs.length-y) 0 rfl rfl ⟨Nat.zero_le _,fun j h=>by omega⟩ ?_
 rintro i ⟨p1,p2⟩
 simp -implicitDefEqProofs (disch:=omega) only[go_sem]
 with_reducible refine aA (fun hb=> ?_) (fun hb=> ?_)<;>have h:=hb<;>(try simp only[wf_preprocess] at h)<;>simp -implicitDefEqProofs (disch:=omega) only[go_sem,hb]<;>(repeat(with_reducible refine And.intro ?_ ?_;focus first|omega|rfl|assumption|exact⟨_,rfl,rfl⟩|(simp;omega)|(simp;done)))
 ·have hi:i<xs.length:=by omega
  have hi':i<ys.length:=by omega
  have hx:xs[i].sz≤bG (xs.map aN.enc):=dY (List.mem_map_of_mem (List.getElem_mem hi))
  (repeat(with_reducible refine And.intro ?_ ?_;focus first|omega|rfl|assumption|exact⟨_,rfl,rfl⟩|(simp;omega)|(simp;done)))
  refine ay (RN xs[i] ys[i] (by omega)) ?_
  simp -implicitDefEqProofs (disch:=omega) only[go_sem]
  with_reducible refine aA (fun hb=> ?_) (fun hb=> ?_)<;>have h:=hb<;>(try simp only[wf_preprocess] at h)<;>simp -implicitDefEqProofs (disch:=omega) only[go_sem,hb]<;>(repeat(with_reducible refine And.intro ?_ ?_;focus first|omega|rfl|assumption|exact⟨_,rfl,rfl⟩|(simp;omega)|(simp;done)))
  ·exact aJ (aQ (fun e=>h (by simp only[e]))).symm
  refine bH (i+1) (by omega) rfl rfl ⟨by omega,fun j hj=> ?_⟩
  by_cases e:j=i
  ·subst e
   rw[List.getElem?_eq_getElem hi,List.getElem?_eq_getElem hi',h]
  ·exact p2 j (by omega)
 ·have hi:i=xs.length:=by omega
  refine aJ (bR (List.ext_getElem? fun j=> ?_)).symm
  by_cases hj:j<i
  ·exact p2 j hj
  ·rw[List.getElem?_eq_none (by omega),List.getElem?_eq_none (by omega)]
end Go.Proofs.YtlmhknhlmicmeaaGreatDoor
namespace Go.Proofs.YtlmhknhlmicmeaaGreatDoor
open Go Go.Ab
theorem FN:∀n:Nat,(∀x:au,SizeOf.sizeOf x<n→∀y:au,x.sz≤1048576→aH Tryz.prog 23 [x.v,y.v] (.c (.d (.b (dec (x=y))))))∧
 (∀xs:List au,SizeOf.sizeOf xs<n→∀ys:List au,xs.length+bG (xs.map au.enc)≤1048576→aH Tryz.prog 101 [.c (.d (.sl (xs.map au.enc))),.c (.d (.sl (ys.map au.enc)))] (.c (.d (.b (dec (xs=ys))))))∧
 (∀x:aF,SizeOf.sizeOf x<n→∀y:aF,x.sz≤1048576→aH Tryz.prog 193 [x.v,y.v] (.c (.d (.b (dec (x=y))))))∧
 (∀xs:List aF,SizeOf.sizeOf xs<n→∀ys:List aF,xs.length+bG (xs.map aF.enc)≤1048576→aH Tryz.prog 102 [.c (.d (.sl (xs.map aF.enc))),.c (.d (.sl (ys.map aF.enc)))] (.c (.d (.b (dec (xs=ys))))))
 |0=>⟨fun x h=>by omega,fun x h=>by omega,fun x h=>by omega,fun x h=>by omega⟩
 |n+1=>by
  obtain⟨vo,nM,Aj,abu⟩:=FN n
  refine⟨fun x hn y hsz S=> ?_,fun xs hn ys hsz S=> ?_,fun x hn y hsz S=> ?_,fun xs hn ys hsz S=> ?_⟩
  ·have iA:=au.fA x
   have yh:=au.lN x
   simp only[au.sz,au.aD,bM,bN,D.sz,List.length_map,aj.dB] at hsz
   refine aC (rs:=[.tmp 4]) Tryz.checked.mixed Tryz.func23 Tryz.ntmps23 rfl rfl rfl rfl rfl ?_
   simp -implicitDefEqProofs (disch:=omega) only[go_sem]
   with_reducible refine aA (fun hb=> ?_) (fun hb=> ?_)<;>have h:=hb<;>(try simp only[wf_preprocess] at h)<;>simp -implicitDefEqProofs (disch:=omega) only[go_sem,hb]<;>(repeat(with_reducible refine And.intro ?_ ?_;focus first|omega|rfl|assumption|exact⟨_,rfl,rfl⟩|(simp;omega)|(simp;done)))
   ·exact aJ (aQ (fun e=>h (by rw[e]))).symm
   have RL:=h
   clear h
   with_reducible refine aA (fun hb=> ?_) (fun hb=> ?_)<;>have h:=hb<;>(try simp only[wf_preprocess] at h)<;>simp -implicitDefEqProofs (disch:=omega) only[go_sem,hb]<;>(repeat(with_reducible refine And.intro ?_ ?_;focus first|omega|rfl|assumption|exact⟨_,rfl,rfl⟩|(simp;omega)|(simp;done)))
   ·exact aJ (aQ (fun e=>h (by rw[e]))).symm
   have MB:=h
   clear h
   with_reducible refine aA (fun hb=> ?_) (fun hb=> ?_)<;>have h:=hb<;>(try simp only[wf_preprocess] at h)<;>simp -implicitDefEqProofs (disch:=omega) only[go_sem,hb]<;>(repeat(with_reducible refine And.intro ?_ ?_;focus first|omega|rfl|assumption|exact⟨_,rfl,rfl⟩|(simp;omega)|(simp;done)))
   ·exact aJ (aQ (fun e=>h (by rw[e]))).symm
   have Ai:=h
   clear h
   with_reducible refine aA (fun hb=> ?_) (fun hb=> ?_)<;>have h:=hb<;>(try simp only[wf_preprocess] at h)<;>simp -implicitDefEqProofs (disch:=omega) only[go_sem,hb]<;>(repeat(with_reducible refine And.intro ?_ ?_;focus first|omega|rfl|assumption|exact⟨_,rfl,rfl⟩|(simp;omega)|(simp;done)))
   ·exact aJ (aQ (fun e=>h (by rw[e]))).symm
   have eN:=h
   clear h
   refine ay (yg x.fType _ (by omega)) ?_
   simp -implicitDefEqProofs (disch:=omega) only[go_sem]
   with_reducible refine aA (fun hb=> ?_) (fun hb=> ?_)<;>have h:=hb<;>(try simp only[wf_preprocess] at h)<;>simp -implicitDefEqProofs (disch:=omega) only[go_sem,hb]<;>(repeat(with_reducible refine And.intro ?_ ?_;focus first|omega|rfl|assumption|exact⟨_,rfl,rfl⟩|(simp;omega)|(simp;done)))
   ·exact aJ (aQ (fun e=>h (by rw[e]))).symm
   have eType:=h
   clear h
   refine ay (nM x.fArgs (by omega) _ (by omega)) ?_
   simp -implicitDefEqProofs (disch:=omega) only[go_sem]
   with_reducible refine aA (fun hb=> ?_) (fun hb=> ?_)<;>have h:=hb<;>(try simp only[wf_preprocess] at h)<;>simp -implicitDefEqProofs (disch:=omega) only[go_sem,hb]<;>(repeat(with_reducible refine And.intro ?_ ?_;focus first|omega|rfl|assumption|exact⟨_,rfl,rfl⟩|(simp;omega)|(simp;done)))
   ·exact aJ (aQ (fun e=>h (by rw[e]))).symm
   have eArgs:=h
   clear h
   refine ay (abu x.aI (by omega) _ (by omega)) ?_
   simp -implicitDefEqProofs (disch:=omega) only[go_sem]
   with_reducible refine aA (fun hb=> ?_) (fun hb=> ?_)<;>have h:=hb<;>(try simp only[wf_preprocess] at h)<;>simp -implicitDefEqProofs (disch:=omega) only[go_sem,hb]<;>(repeat(with_reducible refine And.intro ?_ ?_;focus first|omega|rfl|assumption|exact⟨_,rfl,rfl⟩|(simp;omega)|(simp;done)))
   ·exact aJ (aQ (fun e=>h (by rw[e]))).symm
   have adY:=h
   clear h
   exact aJ (bR (au.ext RL MB Ai eN eType eArgs adY)).symm
  ·refine aC (rs:=[.tmp 4]) Tryz.checked.mixed Tryz.func101 Tryz.ntmps101 rfl rfl rfl rfl rfl ?_
   simp -implicitDefEqProofs (disch:=omega) only[go_sem]
   with_reducible refine aA (fun hb=> ?_) (fun hb=> ?_)<;>have h:=hb<;>(try simp only[wf_preprocess] at h)<;>simp -implicitDefEqProofs (disch:=omega) only[go_sem,hb]<;>(repeat(with_reducible refine And.intro ?_ ?_;focus first|omega|rfl|assumption|exact⟨_,rfl,rfl⟩|(simp;omega)|(simp;done)))
   ·exact aJ (aQ (fun e=>h (by rw[e]))).symm
   have hl:xs.length=ys.length:=by omega
   refine aV (ι:=Nat) Tryz.checked.mixed rfl [0,1,5] (fun y=>[.c (.d (.sl (xs.map au.enc))),.c (.d (.sl (ys.map au.enc))),.c (.d (.i .i64 y))]) (fun y=>[]::S)
    (fun i=>i≤xs.length∧∀j,j<i→xs[j]? =ys[j]?) (fun y=>xs.length-y) 0 rfl rfl ⟨Nat.zero_le _,fun j h=>by omega⟩ ?_
   rintro i ⟨p1,p2⟩
   simp -implicitDefEqProofs (disch:=omega) only[go_sem]
   with_reducible refine aA (fun hb=> ?_) (fun hb=> ?_)<;>have h:=hb<;>(try simp only[wf_preprocess] at h)<;>simp -implicitDefEqProofs (disch:=omega) only[go_sem,hb]<;>(repeat(with_reducible refine And.intro ?_ ?_;focus first|omega|rfl|assumption|exact⟨_,rfl,rfl⟩|(simp;omega)|(simp;done)))
   ·have hi:i<xs.length:=by omega
    have hi':i<ys.length:=by omega
    have hx:xs[i].sz≤bG (xs.map au.enc):=dY (List.mem_map_of_mem (List.getElem_mem hi))
    (repeat(with_reducible refine And.intro ?_ ?_;focus first|omega|rfl|assumption|exact⟨_,rfl,rfl⟩|(simp;omega)|(simp;done)))
    refine ay (vo xs[i] (by have:=List.sizeOf_lt_of_mem (List.getElem_mem hi);omega) ys[i] (by omega)) ?_
    simp -implicitDefEqProofs (disch:=omega) only[go_sem]
    with_reducible refine aA (fun hb=> ?_) (fun hb=> ?_)<;>have h:=hb<;>(try simp only[wf_preprocess] at h)<;>simp -implicitDefEqProofs (disch:=omega) only[go_sem,hb]<;>(repeat(with_reducible refine And.intro ?_ ?_;focus first|omega|rfl|assumption|exact⟨_,rfl,rfl⟩|(simp;omega)|(simp;done)))
    ·exact aJ (aQ (fun e=>h (by simp only[e]))).symm
    refine bH (i+1) (by omega) rfl rfl ⟨by omega,fun j hj=> ?_⟩
    by_cases e:j=i
    ·subst e
     rw[List.getElem?_eq_getElem hi,List.getElem?_eq_getElem hi',h]
    ·exact p2 j (by omega)
   ·have hi:i=xs.length:=by omega
    refine aJ (bR (List.ext_getElem? fun j=> ?_)).symm
    by_cases hj:j<i
    ·exact p2 j hj
    ·rw[List.getElem?_eq_none (by omega),List.getElem?_eq_none (by omega)]
  ·have agz:=aF.kS x
   simp only[aF.sz,aF.aD,bM,bN,D.sz,List.length_map,au.dB] at hsz
   refine aC (rs:=[.tmp 4]) Tryz.checked.mixed Tryz.func193 Tryz.ntmps193 rfl rfl rfl rfl rfl ?_
   simp -implicitDefEqProofs (disch:=omega) only[go_sem]
   with_reducible refine aA (fun hb=> ?_) (fun hb=> ?_)<;>have h:=hb<;>(try simp only[wf_preprocess] at h)<;>simp -implicitDefEqProofs (disch:=omega) only[go_sem,hb]<;>(repeat(with_reducible refine And.intro ?_ ?_;focus first|omega|rfl|assumption|exact⟨_,rfl,rfl⟩|(simp;omega)|(simp;done)))
   ·exact aJ (aQ (fun e=>h (by rw[e]))).symm
   have MC:=h
   clear h
   refine ay (BL x.aK _ (by omega)) ?_
   simp -implicitDefEqProofs (disch:=omega) only[go_sem]
   with_reducible refine aA (fun hb=> ?_) (fun hb=> ?_)<;>have h:=hb<;>(try simp only[wf_preprocess] at h)<;>simp -implicitDefEqProofs (disch:=omega) only[go_sem,hb]<;>(repeat(with_reducible refine And.intro ?_ ?_;focus first|omega|rfl|assumption|exact⟨_,rfl,rfl⟩|(simp;omega)|(simp;done)))
   ·exact aJ (aQ (fun e=>h (by rw[e]))).symm
   have RO:=h
   clear h
   refine ay (vo x.fBody (by omega) _ (by omega)) ?_
   simp -implicitDefEqProofs (disch:=omega) only[go_sem]
   with_reducible refine aA (fun hb=> ?_) (fun hb=> ?_)<;>have h:=hb<;>(try simp only[wf_preprocess] at h)<;>simp -implicitDefEqProofs (disch:=omega) only[go_sem,hb]<;>(repeat(with_reducible refine And.intro ?_ ?_;focus first|omega|rfl|assumption|exact⟨_,rfl,rfl⟩|(simp;omega)|(simp;done)))
   ·exact aJ (aQ (fun e=>h (by rw[e]))).symm
   have RP:=h
   clear h
   exact aJ (bR (aF.ext MC RO RP)).symm
  ·refine aC (rs:=[.tmp 4]) Tryz.checked.mixed Tryz.func102 Tryz.ntmps102 rfl rfl rfl rfl rfl ?_
   simp -implicitDefEqProofs (disch:=omega) only[go_sem]
   with_reducible refine aA (fun hb=> ?_) (fun hb=> ?_)<;>have h:=hb<;>(try simp only[wf_preprocess] at h)<;>simp -implicitDefEqProofs (disch:=omega) only[go_sem,hb]<;>(repeat(with_reducible refine And.intro ?_ ?_;focus first|omega|rfl|assumption|exact⟨_,rfl,rfl⟩|(simp;omega)|(simp;done)))
   ·exact aJ (aQ (fun e=>h (by rw[e]))).symm
   have hl:xs.length=ys.length:=by omega
   refine aV (ι:=Nat) Tryz.checked.mixed rfl [0,1,5] (fun y=>[.c (.d (.sl (xs.map aF.enc))),.c (.d (.sl (ys.map aF.enc))),.c (.d (.i .i64 y))]) (fun y=>[]::S)
    (fun i=>i≤xs.length∧∀j,j<i→xs[j]? =ys[j]?) (fun y=>xs.length-y) 0 rfl rfl ⟨Nat.zero_le _,fun j h=>by omega⟩ ?_
   rintro i ⟨p1,p2⟩
   simp -implicitDefEqProofs (disch:=omega) only[go_sem]
   with_reducible refine aA (fun hb=> ?_) (fun hb=> ?_)<;>have h:=hb<;>(try simp only[wf_preprocess] at h)<;>simp -implicitDefEqProofs (disch:=omega) only[go_sem,hb]<;>(repeat(with_reducible refine And.intro ?_ ?_;focus first|omega|rfl|assumption|exact⟨_,rfl,rfl⟩|(simp;omega)|(simp;done)))
   ·have hi:i<xs.length:=by omega
    have hi':i<ys.length:=by omega
    have hx:xs[i].sz≤bG (xs.map aF.enc):=dY (List.mem_map_of_mem (List.getElem_mem hi))
    (repeat(with_reducible refine And.intro ?_ ?_;focus first|omega|rfl|assumption|exact⟨_,rfl,rfl⟩|(simp;omega)|(simp;done)))
    refine ay (Aj xs[i] (by have:=List.sizeOf_lt_of_mem (List.getElem_mem hi);omega) ys[i] (by omega)) ?_
    simp -implicitDefEqProofs (disch:=omega) only[go_sem]
    with_reducible refine aA (fun hb=> ?_) (fun hb=> ?_)<;>have h:=hb<;>(try simp only[wf_preprocess] at h)<;>simp -implicitDefEqProofs (disch:=omega) only[go_sem,hb]<;>(repeat(with_reducible refine And.intro ?_ ?_;focus first|omega|rfl|assumption|exact⟨_,rfl,rfl⟩|(simp;omega)|(simp;done)))
    ·exact aJ (aQ (fun e=>h (by simp only[e]))).symm
    refine bH (i+1) (by omega) rfl rfl ⟨by omega,fun j hj=> ?_⟩
    by_cases e:j=i
    ·subst e
     rw[List.getElem?_eq_getElem hi,List.getElem?_eq_getElem hi',h]
    ·exact p2 j (by omega)
   ·have hi:i=xs.length:=by omega
    refine aJ (bR (List.ext_getElem? fun j=> ?_)).symm
    by_cases hj:j<i
    ·exact p2 j hj
    ·rw[List.getElem?_eq_none (by omega),List.getElem?_eq_none (by omega)]
theorem UN(x:au):∀y:au,x.sz≤1048576→aH Tryz.prog 23 [x.v,y.v] (.c (.d (.b (dec (x=y))))):=(FN _).1 x (Nat.lt_succ_self _)
end Go.Proofs.YtlmhknhlmicmeaaGreatDoor
namespace Go.Proofs.YtlmhknhlmicmeaaGreatDoor
open Go Go.Ab
theorem DL:∀n:Nat,(∀x:ah,SizeOf.sizeOf x<n→∀left:Int,0≤left→left≤1048576→qN x.enc→aH Tryz.prog 26 [x.v,.c (.d (.i .i64 left))] (.c (.d (.i .i64 (gV left x.sz)))))∧
 (∀xs:List ah,SizeOf.sizeOf xs<n→∀left:Int,0≤left→left≤1048576→(D.sl (xs.map ah.enc)).Fit→aH Tryz.prog 103 [.c (.d (.sl (xs.map ah.enc))),.c (.d (.i .i64 left))] (.c (.d (.i .i64 (gV left (xs.length+bG (xs.map ah.enc)))))))
 |0=>⟨fun x h=>by omega,fun x h=>by omega⟩
 |n+1=>by
  obtain⟨nM,rG⟩:=DL n
  refine⟨fun x hn left h0 h1 hf S=> ?_,fun xs hn left h0 h1 hf S=> ?_⟩
  ·have FP:=ah.jU x
   simp only[ah.aD,List.cons_append,List.nil_append,u6,Dy,LX,and_true] at hf
   obtain⟨aT,ak⟩:=hf
   have hz:x.sz=x.aT.length+((x.ak.length+bG (x.ak.map ah.enc))):=by
    simp only[ah.sz,ah.aD,bM,bN,D.sz,List.length_map,Nat.add_zero,Nat.zero_add]<;>omega
   refine aC (rs:=[.tmp 4]) Tryz.checked.mixed Tryz.func26 Tryz.ntmps26 rfl rfl rfl rfl rfl ?_
   rw[hz]
   have agA:=acA aT
   simp -implicitDefEqProofs (disch:=omega) only[go_sem]
   with_reducible refine aA (fun hb=> ?_) (fun hb=> ?_)<;>have h:=hb<;>(try simp only[wf_preprocess] at h)<;>simp -implicitDefEqProofs (disch:=omega) only[go_sem,hb]<;>(repeat(with_reducible refine And.intro ?_ ?_;focus first|omega|rfl|assumption|exact⟨_,rfl,rfl⟩|(simp;omega)|(simp;done)))
   ·exact int_eq (rV (by omega)).symm
   refine ay (rG x.ak (by omega) _ (by omega) (by omega) ak) ?_
   simp -implicitDefEqProofs (disch:=omega) only[go_sem]
   with_reducible refine aA (fun hb=> ?_) (fun hb=> ?_)<;>have h:=hb<;>(try simp only[wf_preprocess] at h)<;>simp -implicitDefEqProofs (disch:=omega) only[go_sem,hb]<;>(repeat(with_reducible refine And.intro ?_ ?_;focus first|omega|rfl|assumption|exact⟨_,rfl,rfl⟩|(simp;omega)|(simp;done)))
   ·have h':=uj h
    exact int_eq (rV (by omega)).symm
   have adZ:=uh h
   simp only[adZ.1]
   refine int_eq ?_
   rw[Aa (by omega)]
   omega
  ·obtain⟨hf1,hf2⟩:=abf hf
   rw[List.length_map] at hf1
   refine aC (rs:=[.tmp 4]) Tryz.checked.mixed Tryz.func103 Tryz.ntmps103 rfl rfl rfl rfl rfl ?_
   simp -implicitDefEqProofs (disch:=omega) only[go_sem]
   with_reducible refine aA (fun hb=> ?_) (fun hb=> ?_)<;>have h:=hb<;>(try simp only[wf_preprocess] at h)<;>simp -implicitDefEqProofs (disch:=omega) only[go_sem,hb]<;>(repeat(with_reducible refine And.intro ?_ ?_;focus first|omega|rfl|assumption|exact⟨_,rfl,rfl⟩|(simp;omega)|(simp;done)))
   ·exact int_eq (rV (by omega)).symm
   refine aV (ι:=Nat×Int) Tryz.checked.mixed rfl [0,1,5] (fun y=>[.c (.d (.sl (xs.map ah.enc))),.c (.d (.i .i64 y.2)),.c (.d (.i .i64 y.1))]) (fun _=>[]::S)
    (fun y=>y.1≤xs.length∧0≤y.2∧y.2≤1048576∧gV y.2 (bG ((xs.map ah.enc).drop y.1))=gV left (xs.length+bG (xs.map ah.enc))) (fun y=>xs.length-y.1) (0,left-xs.length) rfl rfl ⟨by omega,by omega,by omega,?_⟩ ?_
   ·unfold gV
    rw[List.drop_zero]
    split<;>split<;>omega
   rintro⟨i,l⟩ ⟨p1,p2,p3,p4⟩
   simp only at p1 p2 p3 p4
   simp -implicitDefEqProofs (disch:=omega) only[go_sem]
   with_reducible refine aA (fun hb=> ?_) (fun hb=> ?_)<;>have h:=hb<;>(try simp only[wf_preprocess] at h)<;>simp -implicitDefEqProofs (disch:=omega) only[go_sem,hb]<;>(repeat(with_reducible refine And.intro ?_ ?_;focus first|omega|rfl|assumption|exact⟨_,rfl,rfl⟩|(simp;omega)|(simp;done)))
   ·have hi:i<xs.length:=by omega
    rw[List.drop_eq_getElem_cons (by rw[List.length_map];exact hi),bG,List.getElem_map,ah.dB] at p4
    (repeat(with_reducible refine And.intro ?_ ?_;focus first|omega|rfl|assumption|exact⟨_,rfl,rfl⟩|(simp;omega)|(simp;done)))
    refine ay (nM xs[i] (by have:=List.sizeOf_lt_of_mem (List.getElem_mem hi);omega) _ (by omega) (by omega) (hf2 _ (List.mem_map_of_mem (List.getElem_mem hi)))) ?_
    simp -implicitDefEqProofs (disch:=omega) only[go_sem]
    with_reducible refine aA (fun hb=> ?_) (fun hb=> ?_)<;>have h:=hb<;>(try simp only[wf_preprocess] at h)<;>simp -implicitDefEqProofs (disch:=omega) only[go_sem,hb]<;>(repeat(with_reducible refine And.intro ?_ ?_;focus first|omega|rfl|assumption|exact⟨_,rfl,rfl⟩|(simp;omega)|(simp;done)))
    ·have h':=uj h
     rw[←p4,rV (by omega)]
    ·have h':=uh h
     refine bH (i+1,gV l _) (by simp only;omega) rfl rfl ⟨by simp only;omega,by simp only;omega,by simp only;omega,?_⟩
     simp only
     rw[←p4,h'.1]
     unfold gV
     split<;>split<;>omega
   ·have hi:i=xs.length:=by omega
    rw[hi,List.drop_of_length_le (by simp),bG,Aa (by omega)] at p4
    rw[←p4]
    refine int_eq ?_
    omega
theorem RQ(x:ah):∀left:Int,0≤left→left≤1048576→qN x.enc→aH Tryz.prog 26 [x.v,.c (.d (.i .i64 left))] (.c (.d (.i .i64 (gV left x.sz)))):=(DL _).1 x (Nat.lt_succ_self _)
theorem DN:∀n:Nat,(∀x:ah,SizeOf.sizeOf x<n→x.sz≤1048576→aH Tryz.prog 28 [x.v] x.v)∧
 (∀xs:List ah,SizeOf.sizeOf xs<n→xs.length+bG (xs.map ah.enc)≤1048576→aH Tryz.prog 109 [.c (.d (.sl (xs.map ah.enc)))] (.c (.d (.sl (xs.map ah.enc)))))
 |0=>⟨fun x h=>by omega,fun x h=>by omega⟩
 |n+1=>by
  obtain⟨nM,rG⟩:=DN n
  refine⟨fun x hn hsz S=> ?_,fun xs hn hsz S=> ?_⟩
  ·have FP:=ah.jU x
   simp only[ah.sz,ah.aD,bM,bN,D.sz,List.length_map] at hsz
   refine aC (rs:=[.cell 2 32]) Tryz.checked.mixed Tryz.func28 Tryz.ntmps28 rfl rfl rfl rfl rfl ?_
   simp -implicitDefEqProofs (disch:=omega) only[go_sem]
   refine ay (rG x.ak (by omega) (by omega)) ?_
   simp -implicitDefEqProofs (disch:=omega) only[go_sem]
  ·refine aC (rs:=[.tmp 2]) Tryz.checked.mixed Tryz.func109 Tryz.ntmps109 rfl rfl rfl rfl rfl ?_
   simp -implicitDefEqProofs (disch:=omega) only[go_sem]
   (repeat(with_reducible refine And.intro ?_ ?_;focus first|omega|rfl|assumption|exact⟨_,rfl,rfl⟩|(simp;omega)|(simp;done)))
   refine aV (ι:=Nat×List (List D)) Tryz.checked.mixed rfl [0,3,4] (fun y=>[.c (.d (.sl (xs.map ah.enc))),.c (.jI (0,0)),.c (.d (.i .i64 y.1))]) (fun y=>[.fu 2 y.2]::S)
    (fun y=>y.1≤xs.length∧pY 2 y.1 y.2 (xs.map ah.enc)) (fun y=>xs.length-y.1) (0,_) rfl rfl ⟨Nat.zero_le _,pY.start (by simp) rfl⟩ ?_
   rintro⟨i,R⟩ ⟨p1,p2⟩
   simp only at p1 p2
   simp -implicitDefEqProofs (disch:=omega) only[go_sem]
   with_reducible refine aA (fun hb=> ?_) (fun hb=> ?_)<;>have h:=hb<;>(try simp only[wf_preprocess] at h)<;>simp -implicitDefEqProofs (disch:=omega) only[go_sem,hb]<;>(repeat(with_reducible refine And.intro ?_ ?_;focus first|omega|rfl|assumption|exact⟨_,rfl,rfl⟩|(simp;omega)|(simp;done)))
   ·have hi:i<xs.length:=by omega
    have hx:xs[i].sz≤bG (xs.map ah.enc):=dY (List.mem_map_of_mem (List.getElem_mem hi))
    (repeat(with_reducible refine And.intro ?_ ?_;focus first|omega|rfl|assumption|exact⟨_,rfl,rfl⟩|(simp;omega)|(simp;done)))
    refine ay (nM xs[i] (by have:=List.sizeOf_lt_of_mem (List.getElem_mem hi);omega) (by omega)) ?_
    simp -implicitDefEqProofs (disch:=omega) only[go_sem]
    have hR:=p2.1
    rw[List.length_map] at hR
    (repeat(with_reducible refine And.intro ?_ ?_;focus first|omega|rfl|assumption|exact⟨_,rfl,rfl⟩|(simp;omega)|(simp;done)))
    refine bH (i+1,_) (by simp only;omega) rfl rfl ⟨by simp only;omega,p2.step (by simp[hi,ah.aD]) rfl⟩
   ·have hi:i=xs.length:=by omega
    rw[p2.done (by rw[List.length_map];omega)]
theorem Ak(x:ah):x.sz≤1048576→aH Tryz.prog 28 [x.v] x.v:=(DN _).1 x (Nat.lt_succ_self _)
theorem DR:∀n:Nat,(∀x:ah,SizeOf.sizeOf x<n→∀y:ah,x.sz≤1048576→aH Tryz.prog 14 [x.v,y.v] (.c (.d (.b (dec (x=y))))))∧
 (∀xs:List ah,SizeOf.sizeOf xs<n→∀ys:List ah,xs.length+bG (xs.map ah.enc)≤1048576→aH Tryz.prog 76 [.c (.d (.sl (xs.map ah.enc))),.c (.d (.sl (ys.map ah.enc)))] (.c (.d (.b (dec (xs=ys))))))
 |0=>⟨fun x h=>by omega,fun x h=>by omega⟩
 |n+1=>by
  obtain⟨nM,rG⟩:=DR n
  refine⟨fun x hn y hsz S=> ?_,fun xs hn ys hsz S=> ?_⟩
  ·have FP:=ah.jU x
   simp only[ah.sz,ah.aD,bM,bN,D.sz,List.length_map] at hsz
   refine aC (rs:=[.tmp 4]) Tryz.checked.mixed Tryz.func14 Tryz.ntmps14 rfl rfl rfl rfl rfl ?_
   simp -implicitDefEqProofs (disch:=omega) only[go_sem]
   with_reducible refine aA (fun hb=> ?_) (fun hb=> ?_)<;>have h:=hb<;>(try simp only[wf_preprocess] at h)<;>simp -implicitDefEqProofs (disch:=omega) only[go_sem,hb]<;>(repeat(with_reducible refine And.intro ?_ ?_;focus first|omega|rfl|assumption|exact⟨_,rfl,rfl⟩|(simp;omega)|(simp;done)))
   ·exact aJ (aQ (fun e=>h (by rw[e]))).symm
   have ad1:=h
   clear h
   refine ay (rG x.ak (by omega) _ (by omega)) ?_
   simp -implicitDefEqProofs (disch:=omega) only[go_sem]
   with_reducible refine aA (fun hb=> ?_) (fun hb=> ?_)<;>have h:=hb<;>(try simp only[wf_preprocess] at h)<;>simp -implicitDefEqProofs (disch:=omega) only[go_sem,hb]<;>(repeat(with_reducible refine And.intro ?_ ?_;focus first|omega|rfl|assumption|exact⟨_,rfl,rfl⟩|(simp;omega)|(simp;done)))
   ·exact aJ (aQ (fun e=>h (by rw[e]))).symm
   have eList:=h
   clear h
   exact aJ (bR (ah.ext ad1 eList)).symm
  ·refine aC (rs:=[.tmp 4]) Tryz.checked.mixed Tryz.func76 Tryz.ntmps76 rfl rfl rfl rfl rfl ?_
   simp -implicitDefEqProofs (disch:=omega) only[go_sem]
   with_reducible refine aA (fun hb=> ?_) (fun hb=> ?_)<;>have h:=hb<;>(try simp only[wf_preprocess] at h)<;>simp -implicitDefEqProofs (disch:=omega) only[go_sem,hb]<;>(repeat(with_reducible refine And.intro ?_ ?_;focus first|omega|rfl|assumption|exact⟨_,rfl,rfl⟩|(simp;omega)|(simp;done)))
   ·exact aJ (aQ (fun e=>h (by rw[e]))).symm
   have hl:xs.length=ys.length:=by omega
   refine aV (ι:=Nat) Tryz.checked.mixed rfl [0,1,5] (fun y=>[.c (.d (.sl (xs.map ah.enc))),.c (.d (.sl (ys.map ah.enc))),.c (.d (.i .i64 y))]) (fun y=>[]::S)
    (fun i=>i≤xs.length∧∀j,j<i→xs[j]? =ys[j]?) (fun y=>xs.length-y) 0 rfl rfl ⟨Nat.zero_le _,fun j h=>by omega⟩ ?_
   rintro i ⟨p1,p2⟩
   simp -implicitDefEqProofs (disch:=omega) only[go_sem]
   with_reducible refine aA (fun hb=> ?_) (fun hb=> ?_)<;>have h:=hb<;>(try simp only[wf_preprocess] at h)<;>simp -implicitDefEqProofs (disch:=omega) only[go_sem,hb]<;>(repeat(with_reducible refine And.intro ?_ ?_;focus first|omega|rfl|assumption|exact⟨_,rfl,rfl⟩|(simp;omega)|(simp;done)))
   ·have hi:i<xs.length:=by omega
    have hi':i<ys.length:=by omega
    have hx:xs[i].sz≤bG (xs.map ah.enc):=dY (List.mem_map_of_mem (List.getElem_mem hi))
    (repeat(with_reducible refine And.intro ?_ ?_;focus first|omega|rfl|assumption|exact⟨_,rfl,rfl⟩|(simp;omega)|(simp;done)))
    refine ay (nM xs[i] (by have:=List.sizeOf_lt_of_mem (List.getElem_mem hi);omega) ys[i] (by omega)) ?_
    simp -implicitDefEqProofs (disch:=omega) only[go_sem]
    with_reducible refine aA (fun hb=> ?_) (fun hb=> ?_)<;>have h:=hb<;>(try simp only[wf_preprocess] at h)<;>simp -implicitDefEqProofs (disch:=omega) only[go_sem,hb]<;>(repeat(with_reducible refine And.intro ?_ ?_;focus first|omega|rfl|assumption|exact⟨_,rfl,rfl⟩|(simp;omega)|(simp;done)))
    ·exact aJ (aQ (fun e=>h (by simp only[e]))).symm
    refine bH (i+1) (by omega) rfl rfl ⟨by omega,fun j hj=> ?_⟩
    by_cases e:j=i
    ·subst e
     rw[List.getElem?_eq_getElem hi,List.getElem?_eq_getElem hi',h]
    ·exact p2 j (by omega)
   ·have hi:i=xs.length:=by omega
    refine aJ (bR (List.ext_getElem? fun j=> ?_)).symm
    by_cases hj:j<i
    ·exact p2 j hj
    ·rw[List.getElem?_eq_none (by omega),List.getElem?_eq_none (by omega)]
theorem RS(x:ah):∀y:ah,x.sz≤1048576→aH Tryz.prog 14 [x.v,y.v] (.c (.d (.b (dec (x=y))))):=(DR _).1 x (Nat.lt_succ_self _)
end Go.Proofs.YtlmhknhlmicmeaaGreatDoor
namespace Go.Proofs.YtlmhknhlmicmeaaGreatDoor
open Go Go.Ab
end Go.Proofs.YtlmhknhlmicmeaaGreatDoor
namespace Go.Proofs.YtlmhknhlmicmeaaGreatDoor
open Go Go.Ab
end Go.Proofs.YtlmhknhlmicmeaaGreatDoor
namespace Go.Proofs.YtlmhknhlmicmeaaGreatDoor
open Go Go.Ab
end Go.Proofs.YtlmhknhlmicmeaaGreatDoor
namespace Go.Proofs.YtlmhknhlmicmeaaGreatDoor
open Go Go.Ab
end Go.Proofs.YtlmhknhlmicmeaaGreatDoor
namespace Go.Proofs.YtlmhknhlmicmeaaGreatDoor
open Go Go.Ab
end Go.Proofs.YtlmhknhlmicmeaaGreatDoor
