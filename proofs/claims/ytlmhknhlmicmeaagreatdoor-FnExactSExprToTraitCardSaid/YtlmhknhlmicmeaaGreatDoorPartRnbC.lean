/-
  SEVERAL TEXTS IN ONE (merged by program): contracts and models, each with its own heading.
-/
import Derived.Test.YtlmhknhlmicmeaaGreatDoorPartRnbB
import Derived.Test.YtlmhknhlmicmeaaGreatDoorChecked
import Derived.Eval
import Derived.KernelRfl
set_option linter.unusedSimpArgs false
set_option linter.unusedVariables false
set_option maxRecDepth 4000
namespace Go.Ab
def encS(s:List UInt8):List D:=[.s s]
def encI(n:Int):List D:=[.i .i64 n]
inductive aj where
 |mk (aM:Int) (fName:List UInt8) (fArgs:List aj)
def aj.aM:aj→Int| .mk x _ _=>x
def aj.fName:aj→List UInt8| .mk _ x _=>x
def aj.fArgs:aj→List aj| .mk _ _ x=>x
theorem aj.eta(x:aj):aj.mk x.aM x.fName x.fArgs=x:=by cases x;rfl
theorem aj.ext{x y:aj}(h0:x.aM=y.aM)(h1:x.fName=y.fName)(h2:x.fArgs=y.fArgs):x=y:=by
 rw[←aj.eta x,←aj.eta y,h0,h1,h2]
mutual
def aj.enc:aj→List D
 | .mk a0 a1 a2=>[.i .i64 a0,.s a1,.sl (aj.encs a2)]
def aj.encs:List aj→List (List D)
 |[]=>[]
 |x::xs=>x.enc::aj.encs xs
end
theorem aj.iI:∀l,aj.encs l=l.map aj.enc
 |[]=>rfl
 |x::xs=>by rw[aj.encs,List.map_cons,aj.iI xs]
theorem aj.aH(x:aj):x.enc=[.i .i64 x.aM,.s x.fName,.sl (x.fArgs.map aj.enc)]:=by
 cases x;simp only[aj.enc,aj.iI,aj.aM,aj.fName,aj.fArgs]
abbrev aj.v (x:aj):V:=.agg [.d (.i .i64 x.aM),.d (.s x.fName),.d (.sl (x.fArgs.map aj.enc))]
theorem aj.oN(x:aj): .agg (x.enc.map .d)=x.v:=by
 simp only[aj.aH,List.map_cons,List.map_nil,List.cons_append,List.nil_append,List.map_append]
theorem aj.bG(x:aj):x.enc.length=3:=by
 simp only[aj.aH,List.length_append,List.length_cons,List.length_nil]
def aj.sz(x:aj):Nat:=bO x.enc
theorem aj.dO(x:aj):bO x.enc=x.sz:=rfl
theorem aj.fq(x:aj):SizeOf.sizeOf x.fArgs<SizeOf.sizeOf x:=by cases x;simp[aj.fArgs];omega
structure cu where
 fVar:List UInt8
 fType:aj
def cu.enc(x:cu):List D:=[.s x.fVar]++(x.fType.enc)
theorem cu.aH(x:cu):x.enc=[.s x.fVar]++(x.fType.enc):=rfl
theorem cu.eta(x:cu):cu.mk x.fVar x.fType=x:=rfl
theorem cu.ext'{x y:cu}(h0:x.fVar=y.fVar)(h1:x.fType=y.fType):x=y:=by
 cases x;cases y;simp_all
abbrev cu.v (x:cu):V:=.agg [.d (.s x.fVar),.d (.i .i64 x.fType.aM),.d (.s x.fType.fName),.d (.sl (x.fType.fArgs.map aj.enc))]
theorem cu.oN(x:cu): .agg (x.enc.map .d)=x.v:=by
 simp only[cu.aH,aj.aH,List.map_cons,List.map_nil,List.cons_append,List.nil_append,List.map_append]
theorem cu.bG(x:cu):x.enc.length=4:=by
 simp only[cu.aH,aj.bG,List.length_append,List.length_cons,List.length_nil]
def cu.sz(x:cu):Nat:=bO x.enc
theorem cu.dO(x:cu):bO x.enc=x.sz:=rfl
structure dG where
 bB:List UInt8
 fType:aj
def dG.enc(x:dG):List D:=[.s x.bB]++(x.fType.enc)
theorem dG.aH(x:dG):x.enc=[.s x.bB]++(x.fType.enc):=rfl
theorem dG.eta(x:dG):dG.mk x.bB x.fType=x:=rfl
theorem dG.ext'{x y:dG}(h0:x.bB=y.bB)(h1:x.fType=y.fType):x=y:=by
 cases x;cases y;simp_all
abbrev dG.v (x:dG):V:=.agg [.d (.s x.bB),.d (.i .i64 x.fType.aM),.d (.s x.fType.fName),.d (.sl (x.fType.fArgs.map aj.enc))]
theorem dG.oN(x:dG): .agg (x.enc.map .d)=x.v:=by
 simp only[dG.aH,aj.aH,List.map_cons,List.map_nil,List.cons_append,List.nil_append,List.map_append]
theorem dG.bG(x:dG):x.enc.length=4:=by
 simp only[dG.aH,aj.bG,List.length_append,List.length_cons,List.length_nil]
def dG.sz(x:dG):Nat:=bO x.enc
theorem dG.dO(x:dG):bO x.enc=x.sz:=rfl
mutual
inductive au where
 |mk (aM:Int) (bB:List UInt8) (fName:List UInt8) (fN:Int) (fType:aj) (fArgs:List au) (aK:List aJ)
inductive aJ where
 |mk (bP:List UInt8) (aN:List (List UInt8)) (fBody:au)
end
def au.aM:au→Int| .mk x _ _ _ _ _ _=>x
def au.bB:au→List UInt8| .mk _ x _ _ _ _ _=>x
def au.fName:au→List UInt8| .mk _ _ x _ _ _ _=>x
def au.fN:au→Int| .mk _ _ _ x _ _ _=>x
def au.fType:au→aj| .mk _ _ _ _ x _ _=>x
def au.fArgs:au→List au| .mk _ _ _ _ _ x _=>x
def au.aK:au→List aJ| .mk _ _ _ _ _ _ x=>x
theorem au.eta(x:au):au.mk x.aM x.bB x.fName x.fN x.fType x.fArgs x.aK=x:=by cases x;rfl
theorem au.ext{x y:au}(h0:x.aM=y.aM)(h1:x.bB=y.bB)(h2:x.fName=y.fName)(h3:x.fN=y.fN)(h4:x.fType=y.fType)(h5:x.fArgs=y.fArgs)(h6:x.aK=y.aK):x=y:=by
 rw[←au.eta x,←au.eta y,h0,h1,h2,h3,h4,h5,h6]
def aJ.bP:aJ→List UInt8| .mk x _ _=>x
def aJ.aN:aJ→List (List UInt8)| .mk _ x _=>x
def aJ.fBody:aJ→au| .mk _ _ x=>x
theorem aJ.eta(x:aJ):aJ.mk x.bP x.aN x.fBody=x:=by cases x;rfl
theorem aJ.ext{x y:aJ}(h0:x.bP=y.bP)(h1:x.aN=y.aN)(h2:x.fBody=y.fBody):x=y:=by
 rw[←aJ.eta x,←aJ.eta y,h0,h1,h2]
mutual
def au.enc:au→List D
 | .mk a0 a1 a2 a3 a4 a5 a6=>[.i .i64 a0,.s a1,.s a2,.i .i64 a3]++(a4.enc++([.sl (au.encs a5),.sl (aJ.encs a6)]))
def au.encs:List au→List (List D)
 |[]=>[]
 |x::xs=>x.enc::au.encs xs
def aJ.enc:aJ→List D
 | .mk a0 a1 a2=>[.s a0,.sl (a1.map encS)]++(au.enc a2)
def aJ.encs:List aJ→List (List D)
 |[]=>[]
 |x::xs=>x.enc::aJ.encs xs
end
theorem au.iI:∀l,au.encs l=l.map au.enc
 |[]=>rfl
 |x::xs=>by rw[au.encs,List.map_cons,au.iI xs]
theorem aJ.iI:∀l,aJ.encs l=l.map aJ.enc
 |[]=>rfl
 |x::xs=>by rw[aJ.encs,List.map_cons,aJ.iI xs]
theorem au.aH(x:au):x.enc=[.i .i64 x.aM,.s x.bB,.s x.fName,.i .i64 x.fN]++(x.fType.enc++([.sl (x.fArgs.map au.enc),.sl (x.aK.map aJ.enc)])):=by
 cases x;simp only[au.enc,au.iI,aJ.iI,au.aM,au.bB,au.fName,au.fN,au.fType,au.fArgs,au.aK]
theorem aJ.aH(x:aJ):x.enc=[.s x.bP,.sl (x.aN.map encS)]++(x.fBody.enc):=by
 cases x;simp only[aJ.enc,au.iI,aJ.iI,aJ.bP,aJ.aN,aJ.fBody]
abbrev au.v (x:au):V:=.agg [.d (.i .i64 x.aM),.d (.s x.bB),.d (.s x.fName),.d (.i .i64 x.fN),.d (.i .i64 x.fType.aM),.d (.s x.fType.fName),.d (.sl (x.fType.fArgs.map aj.enc)),.d (.sl (x.fArgs.map au.enc)),.d (.sl (x.aK.map aJ.enc))]
theorem au.oN(x:au): .agg (x.enc.map .d)=x.v:=by
 simp only[au.aH,aj.aH,List.map_cons,List.map_nil,List.cons_append,List.nil_append,List.map_append]
theorem au.bG(x:au):x.enc.length=9:=by
 simp only[au.aH,aj.bG,List.length_append,List.length_cons,List.length_nil]
def au.sz(x:au):Nat:=bO x.enc
theorem au.dO(x:au):bO x.enc=x.sz:=rfl
theorem au.fq(x:au):SizeOf.sizeOf x.fArgs<SizeOf.sizeOf x:=by cases x;simp[au.fArgs];omega
theorem au.kJ(x:au):SizeOf.sizeOf x.aK<SizeOf.sizeOf x:=by cases x;simp[au.aK];omega
abbrev aJ.v (x:aJ):V:=.agg [.d (.s x.bP),.d (.sl (x.aN.map encS)),.d (.i .i64 x.fBody.aM),.d (.s x.fBody.bB),.d (.s x.fBody.fName),.d (.i .i64 x.fBody.fN),.d (.i .i64 x.fBody.fType.aM),.d (.s x.fBody.fType.fName),.d (.sl (x.fBody.fType.fArgs.map aj.enc)),.d (.sl (x.fBody.fArgs.map au.enc)),.d (.sl (x.fBody.aK.map aJ.enc))]
theorem aJ.oN(x:aJ): .agg (x.enc.map .d)=x.v:=by
 simp only[aJ.aH,au.aH,aj.aH,List.map_cons,List.map_nil,List.cons_append,List.nil_append,List.map_append]
theorem aJ.bG(x:aJ):x.enc.length=11:=by
 simp only[aJ.aH,au.bG,List.length_append,List.length_cons,List.length_nil]
def aJ.sz(x:aJ):Nat:=bO x.enc
theorem aJ.dO(x:aJ):bO x.enc=x.sz:=rfl
theorem aJ.j3(x:aJ):SizeOf.sizeOf x.fBody<SizeOf.sizeOf x:=by cases x;simp[aJ.fBody];omega
inductive ah where
 |mk (aV:List UInt8) (ak:List ah)
def ah.aV:ah→List UInt8| .mk x _=>x
def ah.ak:ah→List ah| .mk _ x=>x
theorem ah.eta(x:ah):ah.mk x.aV x.ak=x:=by cases x;rfl
theorem ah.ext{x y:ah}(h0:x.aV=y.aV)(h1:x.ak=y.ak):x=y:=by
 rw[←ah.eta x,←ah.eta y,h0,h1]
mutual
def ah.enc:ah→List D
 | .mk a0 a1=>[.s a0,.sl (ah.encs a1)]
def ah.encs:List ah→List (List D)
 |[]=>[]
 |x::xs=>x.enc::ah.encs xs
end
theorem ah.iI:∀l,ah.encs l=l.map ah.enc
 |[]=>rfl
 |x::xs=>by rw[ah.encs,List.map_cons,ah.iI xs]
theorem ah.aH(x:ah):x.enc=[.s x.aV,.sl (x.ak.map ah.enc)]:=by
 cases x;simp only[ah.enc,ah.iI,ah.aV,ah.ak]
abbrev ah.v (x:ah):V:=.agg [.d (.s x.aV),.d (.sl (x.ak.map ah.enc))]
theorem ah.oN(x:ah): .agg (x.enc.map .d)=x.v:=by
 simp only[ah.aH,List.map_cons,List.map_nil,List.cons_append,List.nil_append,List.map_append]
theorem ah.bG(x:ah):x.enc.length=2:=by
 simp only[ah.aH,List.length_append,List.length_cons,List.length_nil]
def ah.sz(x:ah):Nat:=bO x.enc
theorem ah.dO(x:ah):bO x.enc=x.sz:=rfl
theorem ah.kK(x:ah):SizeOf.sizeOf x.ak<SizeOf.sizeOf x:=by cases x;simp[ah.ak];omega
structure aG where
 fName:List UInt8
 aT:List aj
 aW:aj
 eB:Bool
 aN:List (List UInt8)
 fBody:au
def aG.enc(x:aG):List D:=[.s x.fName,.sl (x.aT.map aj.enc)]++(x.aW.enc++([.b x.eB,.sl (x.aN.map encS)]++(x.fBody.enc)))
theorem aG.aH(x:aG):x.enc=[.s x.fName,.sl (x.aT.map aj.enc)]++(x.aW.enc++([.b x.eB,.sl (x.aN.map encS)]++(x.fBody.enc))):=rfl
theorem aG.eta(x:aG):aG.mk x.fName x.aT x.aW x.eB x.aN x.fBody=x:=rfl
theorem aG.ext'{x y:aG}(h0:x.fName=y.fName)(h1:x.aT=y.aT)(h2:x.aW=y.aW)(h3:x.eB=y.eB)(h4:x.aN=y.aN)(h5:x.fBody=y.fBody):x=y:=by
 cases x;cases y;simp_all
abbrev aG.v (x:aG):V:=.agg [.d (.s x.fName),.d (.sl (x.aT.map aj.enc)),.d (.i .i64 x.aW.aM),.d (.s x.aW.fName),.d (.sl (x.aW.fArgs.map aj.enc)),.d (.b x.eB),.d (.sl (x.aN.map encS)),.d (.i .i64 x.fBody.aM),.d (.s x.fBody.bB),.d (.s x.fBody.fName),.d (.i .i64 x.fBody.fN),.d (.i .i64 x.fBody.fType.aM),.d (.s x.fBody.fType.fName),.d (.sl (x.fBody.fType.fArgs.map aj.enc)),.d (.sl (x.fBody.fArgs.map au.enc)),.d (.sl (x.fBody.aK.map aJ.enc))]
theorem aG.oN(x:aG): .agg (x.enc.map .d)=x.v:=by
 simp only[aG.aH,au.aH,aj.aH,List.map_cons,List.map_nil,List.cons_append,List.nil_append,List.map_append]
theorem aG.bG(x:aG):x.enc.length=16:=by
 simp only[aG.aH,au.bG,aj.bG,List.length_append,List.length_cons,List.length_nil]
def aG.sz(x:aG):Nat:=bO x.enc
theorem aG.dO(x:aG):bO x.enc=x.sz:=rfl
structure aZ where
 fName:List UInt8
 aR:List (List UInt8)
 iO:Bool
 eO:Bool
 aB:List aG
def aZ.enc(x:aZ):List D:=[.s x.fName,.sl (x.aR.map encS),.b x.iO,.b x.eO,.sl (x.aB.map aG.enc)]
theorem aZ.aH(x:aZ):x.enc=[.s x.fName,.sl (x.aR.map encS),.b x.iO,.b x.eO,.sl (x.aB.map aG.enc)]:=rfl
theorem aZ.eta(x:aZ):aZ.mk x.fName x.aR x.iO x.eO x.aB=x:=rfl
theorem aZ.ext'{x y:aZ}(h0:x.fName=y.fName)(h1:x.aR=y.aR)(h2:x.iO=y.iO)(h3:x.eO=y.eO)(h4:x.aB=y.aB):x=y:=by
 cases x;cases y;simp_all
abbrev aZ.v (x:aZ):V:=.agg [.d (.s x.fName),.d (.sl (x.aR.map encS)),.d (.b x.iO),.d (.b x.eO),.d (.sl (x.aB.map aG.enc))]
theorem aZ.oN(x:aZ): .agg (x.enc.map .d)=x.v:=by
 simp only[aZ.aH,List.map_cons,List.map_nil,List.cons_append,List.nil_append,List.map_append]
theorem aZ.bG(x:aZ):x.enc.length=5:=by
 simp only[aZ.aH,List.length_append,List.length_cons,List.length_nil]
def aZ.sz(x:aZ):Nat:=bO x.enc
theorem aZ.dO(x:aZ):bO x.enc=x.sz:=rfl
structure bJ where
 fName:List UInt8
 nT:List aj
def bJ.enc(x:bJ):List D:=[.s x.fName,.sl (x.nT.map aj.enc)]
theorem bJ.aH(x:bJ):x.enc=[.s x.fName,.sl (x.nT.map aj.enc)]:=rfl
theorem bJ.eta(x:bJ):bJ.mk x.fName x.nT=x:=rfl
theorem bJ.ext'{x y:bJ}(h0:x.fName=y.fName)(h1:x.nT=y.nT):x=y:=by
 cases x;cases y;simp_all
abbrev bJ.v (x:bJ):V:=.agg [.d (.s x.fName),.d (.sl (x.nT.map aj.enc))]
theorem bJ.oN(x:bJ): .agg (x.enc.map .d)=x.v:=by
 simp only[bJ.aH,List.map_cons,List.map_nil,List.cons_append,List.nil_append,List.map_append]
theorem bJ.bG(x:bJ):x.enc.length=2:=by
 simp only[bJ.aH,List.length_append,List.length_cons,List.length_nil]
def bJ.sz(x:bJ):Nat:=bO x.enc
theorem bJ.dO(x:bJ):bO x.enc=x.sz:=rfl
structure bW where
 fName:List UInt8
 aN:List (List UInt8)
 jm:List bJ
def bW.enc(x:bW):List D:=[.s x.fName,.sl (x.aN.map encS),.sl (x.jm.map bJ.enc)]
theorem bW.aH(x:bW):x.enc=[.s x.fName,.sl (x.aN.map encS),.sl (x.jm.map bJ.enc)]:=rfl
theorem bW.eta(x:bW):bW.mk x.fName x.aN x.jm=x:=rfl
theorem bW.ext'{x y:bW}(h0:x.fName=y.fName)(h1:x.aN=y.aN)(h2:x.jm=y.jm):x=y:=by
 cases x;cases y;simp_all
abbrev bW.v (x:bW):V:=.agg [.d (.s x.fName),.d (.sl (x.aN.map encS)),.d (.sl (x.jm.map bJ.enc))]
theorem bW.oN(x:bW): .agg (x.enc.map .d)=x.v:=by
 simp only[bW.aH,List.map_cons,List.map_nil,List.cons_append,List.nil_append,List.map_append]
theorem bW.bG(x:bW):x.enc.length=3:=by
 simp only[bW.aH,List.length_append,List.length_cons,List.length_nil]
def bW.sz(x:bW):Nat:=bO x.enc
theorem bW.dO(x:bW):bO x.enc=x.sz:=rfl
structure dY where
 fName:List UInt8
 aN:List (List UInt8)
 fBody:au
def dY.enc(x:dY):List D:=[.s x.fName,.sl (x.aN.map encS)]++(x.fBody.enc)
theorem dY.aH(x:dY):x.enc=[.s x.fName,.sl (x.aN.map encS)]++(x.fBody.enc):=rfl
theorem dY.eta(x:dY):dY.mk x.fName x.aN x.fBody=x:=rfl
theorem dY.ext'{x y:dY}(h0:x.fName=y.fName)(h1:x.aN=y.aN)(h2:x.fBody=y.fBody):x=y:=by
 cases x;cases y;simp_all
abbrev dY.v (x:dY):V:=.agg [.d (.s x.fName),.d (.sl (x.aN.map encS)),.d (.i .i64 x.fBody.aM),.d (.s x.fBody.bB),.d (.s x.fBody.fName),.d (.i .i64 x.fBody.fN),.d (.i .i64 x.fBody.fType.aM),.d (.s x.fBody.fType.fName),.d (.sl (x.fBody.fType.fArgs.map aj.enc)),.d (.sl (x.fBody.fArgs.map au.enc)),.d (.sl (x.fBody.aK.map aJ.enc))]
theorem dY.oN(x:dY): .agg (x.enc.map .d)=x.v:=by
 simp only[dY.aH,au.aH,aj.aH,List.map_cons,List.map_nil,List.cons_append,List.nil_append,List.map_append]
theorem dY.bG(x:dY):x.enc.length=11:=by
 simp only[dY.aH,au.bG,List.length_append,List.length_cons,List.length_nil]
def dY.sz(x:dY):Nat:=bO x.enc
theorem dY.dO(x:dY):bO x.enc=x.sz:=rfl
structure dh where
 bB:List UInt8
 aN:List (List UInt8)
 vo:aj
 jg:List dG
 uL:Bool
 sG:Bool
 eO:aj
 qD:List dY
def dh.enc(x:dh):List D:=[.s x.bB,.sl (x.aN.map encS)]++(x.vo.enc++([.sl (x.jg.map dG.enc),.b x.uL,.b x.sG]++(x.eO.enc++([.sl (x.qD.map dY.enc)]))))
theorem dh.aH(x:dh):x.enc=[.s x.bB,.sl (x.aN.map encS)]++(x.vo.enc++([.sl (x.jg.map dG.enc),.b x.uL,.b x.sG]++(x.eO.enc++([.sl (x.qD.map dY.enc)])))):=rfl
theorem dh.eta(x:dh):dh.mk x.bB x.aN x.vo x.jg x.uL x.sG x.eO x.qD=x:=rfl
theorem dh.ext'{x y:dh}(h0:x.bB=y.bB)(h1:x.aN=y.aN)(h2:x.vo=y.vo)(h3:x.jg=y.jg)(h4:x.uL=y.uL)(h5:x.sG=y.sG)(h6:x.eO=y.eO)(h7:x.qD=y.qD):x=y:=by
 cases x;cases y;simp_all
abbrev dh.v (x:dh):V:=.agg [.d (.s x.bB),.d (.sl (x.aN.map encS)),.d (.i .i64 x.vo.aM),.d (.s x.vo.fName),.d (.sl (x.vo.fArgs.map aj.enc)),.d (.sl (x.jg.map dG.enc)),.d (.b x.uL),.d (.b x.sG),.d (.i .i64 x.eO.aM),.d (.s x.eO.fName),.d (.sl (x.eO.fArgs.map aj.enc)),.d (.sl (x.qD.map dY.enc))]
theorem dh.oN(x:dh): .agg (x.enc.map .d)=x.v:=by
 simp only[dh.aH,aj.aH,List.map_cons,List.map_nil,List.cons_append,List.nil_append,List.map_append]
theorem dh.bG(x:dh):x.enc.length=12:=by
 simp only[dh.aH,aj.bG,List.length_append,List.length_cons,List.length_nil]
def dh.sz(x:dh):Nat:=bO x.enc
theorem dh.dO(x:dh):bO x.enc=x.sz:=rfl
structure dU where
 fName:List UInt8
 fType:aj
def dU.enc(x:dU):List D:=[.s x.fName]++(x.fType.enc)
theorem dU.aH(x:dU):x.enc=[.s x.fName]++(x.fType.enc):=rfl
theorem dU.eta(x:dU):dU.mk x.fName x.fType=x:=rfl
theorem dU.ext'{x y:dU}(h0:x.fName=y.fName)(h1:x.fType=y.fType):x=y:=by
 cases x;cases y;simp_all
abbrev dU.v (x:dU):V:=.agg [.d (.s x.fName),.d (.i .i64 x.fType.aM),.d (.s x.fType.fName),.d (.sl (x.fType.fArgs.map aj.enc))]
theorem dU.oN(x:dU): .agg (x.enc.map .d)=x.v:=by
 simp only[dU.aH,aj.aH,List.map_cons,List.map_nil,List.cons_append,List.nil_append,List.map_append]
theorem dU.bG(x:dU):x.enc.length=4:=by
 simp only[dU.aH,aj.bG,List.length_append,List.length_cons,List.length_nil]
def dU.sz(x:dU):Nat:=bO x.enc
theorem dU.dO(x:dU):bO x.enc=x.sz:=rfl
structure bT where
 fName:List UInt8
 aN:List (List UInt8)
 jg:List dG
 aT:List dU
 aW:aj
 fBody:au
def bT.enc(x:bT):List D:=[.s x.fName,.sl (x.aN.map encS),.sl (x.jg.map dG.enc),.sl (x.aT.map dU.enc)]++(x.aW.enc++(x.fBody.enc))
theorem bT.aH(x:bT):x.enc=[.s x.fName,.sl (x.aN.map encS),.sl (x.jg.map dG.enc),.sl (x.aT.map dU.enc)]++(x.aW.enc++(x.fBody.enc)):=rfl
theorem bT.eta(x:bT):bT.mk x.fName x.aN x.jg x.aT x.aW x.fBody=x:=rfl
theorem bT.ext'{x y:bT}(h0:x.fName=y.fName)(h1:x.aN=y.aN)(h2:x.jg=y.jg)(h3:x.aT=y.aT)(h4:x.aW=y.aW)(h5:x.fBody=y.fBody):x=y:=by
 cases x;cases y;simp_all
abbrev bT.v (x:bT):V:=.agg [.d (.s x.fName),.d (.sl (x.aN.map encS)),.d (.sl (x.jg.map dG.enc)),.d (.sl (x.aT.map dU.enc)),.d (.i .i64 x.aW.aM),.d (.s x.aW.fName),.d (.sl (x.aW.fArgs.map aj.enc)),.d (.i .i64 x.fBody.aM),.d (.s x.fBody.bB),.d (.s x.fBody.fName),.d (.i .i64 x.fBody.fN),.d (.i .i64 x.fBody.fType.aM),.d (.s x.fBody.fType.fName),.d (.sl (x.fBody.fType.fArgs.map aj.enc)),.d (.sl (x.fBody.fArgs.map au.enc)),.d (.sl (x.fBody.aK.map aJ.enc))]
theorem bT.oN(x:bT): .agg (x.enc.map .d)=x.v:=by
 simp only[bT.aH,au.aH,aj.aH,List.map_cons,List.map_nil,List.cons_append,List.nil_append,List.map_append]
theorem bT.bG(x:bT):x.enc.length=16:=by
 simp only[bT.aH,au.bG,aj.bG,List.length_append,List.length_cons,List.length_nil]
def bT.sz(x:bT):Nat:=bO x.enc
theorem bT.dO(x:bT):bO x.enc=x.sz:=rfl
structure dK where
 fName:List UInt8
 yM:List (List UInt8)
 sH:List aZ
 mY:List bW
 mZ:List dh
 ng:List bT
def dK.enc(x:dK):List D:=[.s x.fName,.sl (x.yM.map encS),.sl (x.sH.map aZ.enc),.sl (x.mY.map bW.enc),.sl (x.mZ.map dh.enc),.sl (x.ng.map bT.enc)]
theorem dK.aH(x:dK):x.enc=[.s x.fName,.sl (x.yM.map encS),.sl (x.sH.map aZ.enc),.sl (x.mY.map bW.enc),.sl (x.mZ.map dh.enc),.sl (x.ng.map bT.enc)]:=rfl
theorem dK.eta(x:dK):dK.mk x.fName x.yM x.sH x.mY x.mZ x.ng=x:=rfl
theorem dK.ext'{x y:dK}(h0:x.fName=y.fName)(h1:x.yM=y.yM)(h2:x.sH=y.sH)(h3:x.mY=y.mY)(h4:x.mZ=y.mZ)(h5:x.ng=y.ng):x=y:=by
 cases x;cases y;simp_all
abbrev dK.v (x:dK):V:=.agg [.d (.s x.fName),.d (.sl (x.yM.map encS)),.d (.sl (x.sH.map aZ.enc)),.d (.sl (x.mY.map bW.enc)),.d (.sl (x.mZ.map dh.enc)),.d (.sl (x.ng.map bT.enc))]
theorem dK.oN(x:dK): .agg (x.enc.map .d)=x.v:=by
 simp only[dK.aH,List.map_cons,List.map_nil,List.cons_append,List.nil_append,List.map_append]
theorem dK.bG(x:dK):x.enc.length=6:=by
 simp only[dK.aH,List.length_append,List.length_cons,List.length_nil]
def dK.sz(x:dK):Nat:=bO x.enc
theorem dK.dO(x:dK):bO x.enc=x.sz:=rfl
structure eG where
 ou:List dK
def eG.enc(x:eG):List D:=[.sl (x.ou.map dK.enc)]
theorem eG.aH(x:eG):x.enc=[.sl (x.ou.map dK.enc)]:=rfl
theorem eG.eta(x:eG):eG.mk x.ou=x:=rfl
theorem eG.ext'{x y:eG}(h0:x.ou=y.ou):x=y:=by
 cases x;cases y;simp_all
abbrev eG.v (x:eG):V:=.agg [.d (.sl (x.ou.map dK.enc))]
theorem eG.oN(x:eG): .agg (x.enc.map .d)=x.v:=by
 simp only[eG.aH,List.map_cons,List.map_nil,List.cons_append,List.nil_append,List.map_append]
theorem eG.bG(x:eG):x.enc.length=1:=by
 simp only[eG.aH,List.length_append,List.length_cons,List.length_nil]
def eG.sz(x:eG):Nat:=bO x.enc
theorem eG.dO(x:eG):bO x.enc=x.sz:=rfl
structure bV where
 uM:Int
 P7:Int
def bV.enc(x:bV):List D:=[.i .i64 x.uM,.i .i64 x.P7]
theorem bV.aH(x:bV):x.enc=[.i .i64 x.uM,.i .i64 x.P7]:=rfl
theorem bV.eta(x:bV):bV.mk x.uM x.P7=x:=rfl
theorem bV.ext'{x y:bV}(h0:x.uM=y.uM)(h1:x.P7=y.P7):x=y:=by
 cases x;cases y;simp_all
abbrev bV.v (x:bV):V:=.agg [.d (.i .i64 x.uM),.d (.i .i64 x.P7)]
theorem bV.oN(x:bV): .agg (x.enc.map .d)=x.v:=by
 simp only[bV.aH,List.map_cons,List.map_nil,List.cons_append,List.nil_append,List.map_append]
theorem bV.bG(x:bV):x.enc.length=2:=by
 simp only[bV.aH,List.length_append,List.length_cons,List.length_nil]
def bV.sz(x:bV):Nat:=bO x.enc
theorem bV.dO(x:bV):bO x.enc=x.sz:=rfl
attribute [go_sem] aj.aH cu.aH dG.aH au.aH aJ.aH ah.aH aG.aH aZ.aH bJ.aH bW.aH dY.aH dh.aH dU.aH bT.aH dK.aH eG.aH bV.aH encS encI
end Go.Ab
namespace Go.Ab
def P8:List cu→List UInt8→Option aj
 |[],_=>none
 |b::bs,v=>if b.fVar=v then some b.fType else P8 bs v
mutual
noncomputable def xW(s:List cu):aj→aj→Option (List cu)
 | .mk k n a,t=>
   if k=1 then
    match P8 s n with
    |some u=>if dec (u=t)=true then some s else none
    |none=>some (s++[⟨n,t⟩])
   else if k=t.aM∧n=t.fName∧a.length=t.fArgs.length then rC s a t.fArgs else none
noncomputable def rC(s:List cu):List aj→List aj→Option (List cu)
 |[],_=>some s
 |_::_,[]=>none
 |p::ps,t::ts=>
  match xW s p t with
  |some s'=>rC s' ps ts
  |none=>none
end
mutual
def aj.cnt:aj→Nat
 | .mk _ _ a=>1+aj.bY a
def aj.bY:List aj→Nat
 |[]=>0
 |t::ts=>t.cnt+aj.bY ts
end
theorem aj.lS(t:aj):t.cnt=1+aj.bY t.fArgs:=by cases t;rw[aj.cnt];rfl
mutual
theorem jR:∀t:aj,t.cnt≤1+t.sz
 | .mk k n a=>by
   have h:=sI a
   rw[aj.cnt]
   have e:(aj.mk k n a).sz=n.length+(a.length+bF (a.map aj.enc)):=by
    simp only[aj.sz,aj.aH,bO,D.sz,List.length_map,aj.fName,aj.fArgs,Nat.add_zero,Nat.zero_add]
   omega
theorem sI:∀ts:List aj,aj.bY ts≤ts.length+bF (ts.map aj.enc)
 |[]=>by simp[aj.bY]
 |t::ts=>by
  have h1:=jR t
  have h2:=sI ts
  rw[aj.bY,List.length_cons,List.map_cons,bF,aj.dO]
  omega
end
mutual
theorem RI:∀(p:aj) (s:List cu) (t:aj) (s':List cu),xW s p t=some s'→s'.length≤s.length+p.cnt
 | .mk k n a,s,t,s',h=>by
   rw[xW] at h
   rw[aj.cnt]
   split at h
   ·split at h
    ·split at h
     ·cases h;omega
     ·cases h
    ·cases h;simp
   ·split at h
    ·have:=Gg a s t.fArgs s' h;omega
    ·cases h
theorem Gg:∀(ps:List aj) (s:List cu) (ts:List aj) (s':List cu),rC s ps ts=some s'→s'.length≤s.length+aj.bY ps
 |[],s,ts,s',h=>by rw[rC] at h;cases h;omega
 |p::ps,s,[],s',h=>by rw[rC] at h;cases h
 |p::ps,s,t::ts,s',h=>by
  rw[rC] at h
  rw[aj.bY]
  cases hm:xW s p t with
  |none=>rw[hm] at h;cases h
  |some s1=>
   rw[hm] at h
   have h1:=RI p s t s1 hm
   have h2:=Gg ps s1 ts s' h
   omega
end
def Small(s:List cu):Prop:=∀b∈s,b.fType.sz≤4194304
mutual
theorem Mv:∀(p:aj) (s:List cu) (t:aj) (s':List cu),t.sz≤4194304→Small s→xW s p t=some s'→Small s'
 | .mk k n a,s,t,s',ht,hs,h=>by
   rw[xW] at h
   split at h
   ·split at h
    ·split at h
     ·cases h;exact hs
     ·cases h
    ·cases h
     intro b hb
     rcases List.mem_append.1 hb with hb|hb
     ·exact hs b hb
     ·simp at hb;subst hb;exact ht
   ·split at h
    ·refine Cg a s t.fArgs s' ?_ hs h
     intro x hx
     have h1:=dP (List.mem_map_of_mem (f:=aj.enc) hx)
     have h2:t.sz=t.fName.length+(t.fArgs.length+bF (t.fArgs.map aj.enc)):=by
      simp only[aj.sz,aj.aH,bO,bN,D.sz,List.length_map,Nat.add_zero,Nat.zero_add]
     rw[aj.dO] at h1
     omega
    ·cases h
theorem Cg:∀(ps:List aj) (s:List cu) (ts:List aj) (s':List cu),(∀t∈ts,t.sz≤4194304)→Small s→rC s ps ts=some s'→Small s'
 |[],s,ts,s',ht,hs,h=>by rw[rC] at h;cases h;exact hs
 |p::ps,s,[],s',ht,hs,h=>by rw[rC] at h;cases h
 |p::ps,s,t::ts,s',ht,hs,h=>by
  rw[rC] at h
  cases hm:xW s p t with
  |none=>rw[hm] at h;cases h
  |some s1=>
   rw[hm] at h
   exact Cg ps s1 ts s' (fun x hx=>ht x (by simp[hx])) (Mv p s t s1 (ht t (by simp)) hs hm) h
end
end Go.Ab
namespace Go.Ab
def lowerB(b:UInt8):Prop:=97≤b.toNat∧b.toNat≤122
def ni(b:UInt8):Prop:=48≤b.toNat∧b.toNat≤57
def Mw(s:List UInt8):Prop:=∀i,i<s.length→lowerB (s.getD i 0)∨(i≠0∧ni (s.getD i 0))
def reserved:List (List UInt8):=[[105,110,116],[98,111,111,108],[97,115,115,111,99],[100,121,110],[105,102],[108,101,116],[99,97,115,101],[110,101,119],[109,101,116,104,111,100],[112,97,99,107],[116,114,117,101],[102,97,108,115,101]]
noncomputable def validName(s:List UInt8):Bool:=dec ((1≤s.length∧s.length≤8)∧s∉reserved∧Mw s)
noncomputable def rT(s:List UInt8):Bool:=dec (s=[105,110,116]∨s=[98,111,111,108])
noncomputable def xX(xs:List (List UInt8))(s:List UInt8):Int:=if s∈xs then((xs.findIdx fun x=>dec (x=s):Nat):Int) else -1
theorem OI{xs:List (List UInt8)}{s:List UInt8}{i:Nat}(hi:i<xs.length)(hj:∀j,j<i→xs.getD j []≠s)(h:xs.getD i []=s):xX xs s=i:=by
 have e:∀j,∀hj:j<xs.length,xs.getD j []=xs[j]:=fun j hj=>by simp[List.getD,hj]
 have hm:s∈xs:=by rw[←h,e i hi];exact List.getElem_mem hi
 unfold xX
 rw[if_pos hm]
 congr 1
 rw[List.findIdx_eq hi]
 exact⟨bC (by rw[←e i hi];exact h),fun j hji=>aL (by rw[←e j (by omega)];exact hj j hji)⟩
theorem UN{xs:List (List UInt8)}{s:List UInt8}(hj:∀j,j<xs.length→xs.getD j []≠s):xX xs s= -1:=by
 unfold xX
 refine if_neg fun hm=> ?_
 obtain⟨j,h1,h2⟩:=List.getElem_of_mem hm
 exact hj j h1 (by simp[List.getD,h1,h2])
theorem RJ{xs:List (List UInt8)}{s:List UInt8}:decide (xX xs s≥0)=dec (s∈xs):=by
 rw[iN]
 refine iq ?_
 unfold xX
 split
 ·rename_i h;exact⟨fun _=>h,fun _=>by omega⟩
 ·rename_i h;exact⟨fun x=>by omega,fun x=>absurd x h⟩
def oZ{α:Type}(p:α→Bool)(xs:List α):Int:=if xs.any p then((xs.findIdx p:Nat):Int) else -1
theorem pU{α:Type}{p:α→Bool}{xs:List α}{i:Nat}(hi:i<xs.length)(hj:∀j,∀hj:j<xs.length,j<i→p xs[j]=false)(h:p xs[i]=true):oZ p xs=i:=by
 unfold oZ
 rw[if_pos (List.any_eq_true.2 ⟨xs[i],List.getElem_mem hi,h⟩)]
 congr 1
 rw[List.findIdx_eq hi]
 exact⟨h,fun j hji=>hj j (by omega) hji⟩
theorem sJ{α:Type}{p:α→Bool}{xs:List α}(hj:∀j,∀hj:j<xs.length,p xs[j]=false):oZ p xs= -1:=by
 unfold oZ
 refine if_neg fun h=> ?_
 obtain⟨x,hx,hp⟩:=List.any_eq_true.1 h
 obtain⟨j,h1,h2⟩:=List.getElem_of_mem hx
 rw[←h2,hj j h1] at hp
 cases hp
theorem qQ{α:Type}{p:α→Bool}{xs:List α}:decide (oZ p xs≥0)=xs.any p:=by
 unfold oZ
 cases h:xs.any p with
 |true=>simp
 |false=>simp
noncomputable def wW(k:Int)(n:List UInt8)(len:Nat):Bool:=
 dec ((k=1∨k=4)∧validName n=true∧len=0∨k=3∧validName n=true∧len=1∨k=2∧(validName n=true∧len≤3∨rT n=true∧len=0))
mutual
noncomputable def formed:aj→Bool
 | .mk k n a=>wW k n a.length&&gD a
noncomputable def gD:List aj→Bool
 |[]=>true
 |t::ts=>formed t&&gD ts
end
theorem vM(t:aj):formed t=(wW t.aM t.fName t.fArgs.length&&gD t.fArgs):=by cases t;rw[formed];rfl
theorem vv:∀{ts:List aj},gD ts=true↔∀t∈ts,formed t=true
 |[]=>by simp[gD]
 |t::ts=>by simp[gD,vv (ts:=ts)]
theorem Ei:∀{ts:List aj},(ts.any fun t=> !formed t)= !gD ts
 |[]=>rfl
 |t::ts=>by rw[List.any_cons,Ei (ts:=ts),gD];simp
mutual
def jS:aj→Nat
 | .mk _ _ a=>depths a
def depths:List aj→Nat
 |[]=>0
 |t::ts=>max (jS t+1) (depths ts)
end
theorem Jz(t:aj):jS t=depths t.fArgs:=by cases t;rw[jS];rfl
mutual
theorem vN:∀t:aj,jS t+1≤t.cnt
 | .mk k n a=>by
   have:=JA a
   rw[jS,aj.cnt];omega
theorem JA:∀ts:List aj,depths ts≤aj.bY ts
 |[]=>by simp[depths]
 |t::ts=>by
  have h1:=vN t
  have h2:=JA ts
  rw[depths,aj.bY]
  omega
end
noncomputable def qE(t:aj):Bool:=dec (formed t=true∧jS t≤6∧t.cnt≤60)
end Go.Ab
namespace Go.Ab
def bn(s:List UInt8):ah:=.mk s []
def dn(l:List ah):ah:=.mk [] l
def aS(l:List (List UInt8)):List ah:=l.map bn
def fC:ah:=.mk [] []
theorem kQ(s:List UInt8):(bn s).aV=s:=rfl
theorem kR(s:List UInt8):(bn s).ak=[]:=rfl
theorem eF(l:List ah):(dn l).aV=[]:=rfl
theorem dX(l:List ah):(dn l).ak=l:=rfl
def Ar:List UInt8:=[100,121,110]
def fJ:List UInt8:=[97,115,115,111,99]
mutual
def dB:aj→ah
 | .mk k n zs=>if k=1 then bn ([39]++n) else if k=4 then dn [bn Ar,bn n] else if k=2∧zs.length=0 then bn n else
   dn ((if k=3 then [bn fJ] else [])++[bn n]++xY zs)
def xY:List aj→List ah
 |[]=>[]
 |t::ts=>dB t::xY ts
end
theorem qF:∀l,xY l=l.map dB
 |[]=>rfl
 |t::ts=>by rw[xY,List.map_cons,qF ts]
theorem UO(x:aj):dB x=if x.aM=1 then bn ([39]++x.fName) else if x.aM=4 then dn [bn Ar,bn x.fName] else if x.aM=2∧x.fArgs.length=0 then bn x.fName else
 dn ((if x.aM=3 then [bn fJ] else [])++[bn x.fName]++x.fArgs.map dB):=by
 cases x;rw[dB,qF];rfl
theorem tX{t:aj}(h:qE t=true):formed t=true:=(iH h).1
theorem jK(x:ah):x.sz=x.aV.length+(x.ak.length+bF (x.ak.map ah.enc)):=by
 simp only[ah.sz,ah.aH,bO,D.sz,List.length_map];omega
def dR:List ah→Nat
 |[]=>0
 |x::xs=>x.sz+dR xs
theorem lQ:∀l,bF (l.map ah.enc)=dR l
 |[]=>rfl
 |x::xs=>by rw[List.map_cons,bF,dR,lQ xs];rfl
theorem lW:∀a b,dR (a++b)=dR a+dR b
 |[],b=>by simp[dR]
 |x::a,b=>by rw[List.cons_append,dR,dR,lW a b];omega
theorem j4{x:ah}:∀{l:List ah},x∈l→x.sz≤dR l
 |y::l,h=>by
  rw[dR]
  rcases List.mem_cons.1 h with rfl|h
  ·omega
  ·have:=j4 h;omega
theorem lD(s:List UInt8):(bn s).sz=s.length:=by rw[jK];simp[bn,ah.aV,ah.ak,bF]
theorem pV(l:List ah):(dn l).sz=l.length+dR l:=by rw[jK,lQ];simp[dn,ah.aV,ah.ak]
theorem vO:∀l:List (List UInt8),dR (aS l)=(l.map List.length).sum
 |[]=>rfl
 |s::l=>by rw[aS,List.map_cons,dR,lD,←aS,vO l,List.map_cons,List.sum_cons]
theorem jG(l:List (List UInt8)):(aS l).length=l.length:=by simp[aS]
theorem fE:∀l:List (List UInt8),bF (l.map encS)=(l.map List.length).sum
 |[]=>rfl
 |s::l=>by rw[List.map_cons,bF,fE l,List.map_cons,List.sum_cons];simp[encS,bO,D.sz]
def qj:List aj→Nat
 |[]=>0
 |x::xs=>x.sz+qj xs
theorem Au:∀l,bF (l.map aj.enc)=qj l
 |[]=>rfl
 |x::xs=>by rw[List.map_cons,bF,qj,Au xs];rfl
theorem qG(x:aj):x.sz=x.fName.length+(x.fArgs.length+qj x.fArgs):=by
 rw[←Au];simp only[aj.sz,aj.aH,bO,D.sz,List.length_map];omega
mutual
theorem Mx:∀x:aj,(dB x).sz≤12+16*x.sz
 | .mk k n zs=>by
   have h:=IL zs
   rw[qG]
   simp only[aj.fName,aj.fArgs]
   rw[dB]
   split
   ·rw[lD];simp;omega
   ·split
    ·rw[pV];simp[dR,lD,Ar];omega
    ·split
     ·rw[lD];omega
     ·rw[pV,lW,lW,List.length_append,List.length_append,qF,List.length_map,←qF]
      split<;>simp[dR,lD,fJ]<;>omega
theorem IL:∀xs:List aj,dR (xY xs)≤12*xs.length+16*qj xs
 |[]=>by simp[xY,dR]
 |x::xs=>by
  have h1:=Mx x
  have h2:=IL xs
  rw[xY,dR,qj,List.length_cons];omega
end
theorem RL(xs:List aj):dR (xs.map dB)≤12*xs.length+16*qj xs:=by rw[←qF];exact IL xs
def iV(b:UInt8):Bool:=decide (97≤b.toNat∧b.toNat≤122)||decide (48≤b.toNat∧b.toNat≤57)||decide (b∈([39,45,43,42,60,61,46]:List UInt8))
def validAtom(s:List UInt8):Bool:=s.all iV&&decide (1≤s.length∧s.length≤12)
mutual
def gY:ah→Bool
 | .mk a l=>if a=[] then iB l else validAtom a&&decide (l.length=0)
def iB:List ah→Bool
 |[]=>true
 |x::xs=>gY x&&iB xs
end
mutual
def jT:ah→Nat
 | .mk a l=>if a=[] then mE l+1 else 0
def mE:List ah→Nat
 |[]=>0
 |x::xs=>max (jT x) (mE xs)
end
mutual
def jo:ah→Nat
 | .mk _ l=>kX l+1
def kX:List ah→Nat
 |[]=>0
 |x::xs=>jo x+kX xs
end
theorem xZ(x:ah):gY x=if x.aV=[] then iB x.ak else validAtom x.aV&&decide (x.ak.length=0):=by cases x;rw[gY];rfl
theorem JB(x:ah):jT x=if x.aV=[] then mE x.ak+1 else 0:=by cases x;rw[jT];rfl
theorem MB(x:ah):jo x=kX x.ak+1:=by cases x;rw[jo];rfl
theorem Gh:∀{l:List ah},(l.any fun t=> !gY t)= !iB l
 |[]=>rfl
 |t::ts=>by rw[List.any_cons,Gh (l:=ts),iB];simp
theorem wX:∀{l:List ah},iB l=true↔∀t∈l,gY t=true
 |[]=>by simp[iB]
 |t::ts=>by simp[iB,wX (l:=ts)]
mutual
theorem zh:∀x:ah,jT x≤jo x
 | .mk a l=>by
   have:=Ch l
   rw[jT,jo];split<;>omega
theorem Ch:∀l:List ah,mE l≤kX l
 |[]=>by simp[mE]
 |x::xs=>by
  have h1:=zh x
  have h2:=Ch xs
  rw[mE,kX];omega
end
mutual
theorem MC:∀x:ah,jo x≤x.sz+1
 | .mk a l=>by
   have:=JC l
   rw[jK,jo,lQ];simp only[ah.aV,ah.ak];omega
theorem JC:∀l:List ah,kX l≤l.length+dR l
 |[]=>by simp[kX]
 |x::xs=>by
  have h1:=MC x
  have h2:=JC xs
  rw[kX,dR,List.length_cons];omega
end
def jh(x:ah):Bool:=gY x&&decide (jT x≤14∧jo x≤900)
mutual
theorem ME:∀x:ah,gY x=true→x.sz+1≤13*jo x
 | .mk a l=>fun h=>by
   rw[gY] at h
   rw[jK,jo,lQ]
   simp only[ah.aV,ah.ak]
   split at h
   ·rename_i ha
    have:=JD l h
    subst ha
    simp only[List.length_nil];omega
   ·rw[Bool.and_eq_true,decide_eq_true_eq] at h
    have h1:=h.1
    unfold validAtom at h1
    rw[Bool.and_eq_true,decide_eq_true_eq] at h1
    have:l=[]:=List.eq_nil_of_length_eq_zero h.2
    subst this
    simp[dR];omega
theorem JD:∀l:List ah,iB l=true→l.length+dR l≤13*kX l
 |[],_=>by simp[dR]
 |x::xs,h=>by
  rw[iB,Bool.and_eq_true] at h
  have h1:=ME x h.1
  have h2:=JD xs h.2
  rw[dR,kX,List.length_cons];omega
end
theorem JE{x:ah}(h:jh x=true):x.sz≤11700:=by
 unfold jh at h
 rw[Bool.and_eq_true,decide_eq_true_eq] at h
 have:=ME x h.1
 omega
def Ej(x:ah):ah:=if jh x=true then x else fC
def zi:Bool→ah→ah
 |true,x=>Ej x
 |false,_=>fC
theorem abr(x:ah):(Ej x).sz≤11700:=by
 unfold Ej
 split
 ·rename_i h;exact JE h
 ·rw[jK];simp[fC,ah.aV,ah.ak,bF]
theorem ZP(b:Bool)(x:ah):(zi b x).sz≤11700:=by
 cases b with
 |true=>exact abr x
 |false=>rw[zi,jK];simp[fC,ah.aV,ah.ak,bF]
end Go.Ab
namespace Go.Ab
def zK(n:Nat):Key→Key
 |(0,j)=>(0,n+j)
 |(l+1,j)=>(l,j)
def C.mg(n:Nat):C→C
 | .d x=>.d x
 | .any=>.any
 | .bL k es=>.bL (zK n k) es
 | .aO es=>.aO es
 | .ptr k off=>.ptr (zK n k) off
 | .jL cs=>.jL cs
 | .ku k i off=>.ku (zK n k) i off
 | .kg k=>.kg (zK n k)
 | .fn f caps=>.fn f (caps.map fun x=>(zK n x.1,x.2))
 | .mp k=>.mp (zK n k)
 | .iK m es=>.iK m es
 | .xp k r p=>.xp (zK n k) r p
 | .xq k r p z i off=>.xq (zK n k) r p z i off
def V.mg(n:Nat):V→V
 | .c x=>.c (x.mg n)
 | .agg cs=>.agg (cs.map (C.mg n))
 | .d9 xs=>.d9 (xs.map fun y=>(y.1,y.2.map (C.mg n)))
 | .any=>.any
def Obj.mg(n:Nat):Obj→Obj
 | .box cs=>.box (cs.map (C.mg n))
 |o=>o
section
variable {P:Program} {w:World} {σ:Nat→Nat} {own bf:List Obj} {Ω:Store} {bo nk:List Value} {bΩ:Hs}
theorem IQ{n:Nat}{o:Obj}{h:Value}{b:Nat}:owns (o.mg n) h b↔owns o h b:=by
 cases o with
 |box cs=>
  cases h with
  |pointer a=>cases a<;>exact Iff.rfl
  |_=>exact Iff.rfl
 |_=>exact Iff.rfl
theorem yN{k:Key}{o:Obj}(h:aU (own::bf::Ω) k=some o):
 aU ((bf++own.map (Obj.mg bf.length))::Ω) (zK bf.length k)=some (if k.1=0 then o.mg bf.length else o):=by
 obtain⟨l,j⟩:=k
 cases l with
 |zero=>
  rw[bg] at h
  show aU _ (0,bf.length+j)=_
  rw[bg,List.getElem?_append_right (by omega),show bf.length+j-bf.length=j by omega,List.getElem?_map,h]
  rfl
 |succ l=>
  rw[bH] at h
  show aU _ (l,j)=some o
  cases l with
  |zero=>
   rw[bg] at h ⊢
   rw[List.getElem?_append_left (List.getElem?_eq_some_iff.1 h).1]
   exact h
  |succ l=>rw[bH] at h ⊢;exact h
theorem yO(hl:nk.length=bf.length){k:Key}{h:Value}(e:aU (bo::nk::bΩ) k=some h):aU ((nk++bo)::bΩ) (zK bf.length k)=some h:=by
 obtain⟨l,j⟩:=k
 cases l with
 |zero=>
  rw[bg] at e
  show aU _ (0,bf.length+j)=_
  rw[bg,List.getElem?_append_right (by omega),show bf.length+j-nk.length=j by omega,e]
 |succ l=>
  rw[bH] at e
  show aU _ (l,j)=some h
  cases l with
  |zero=>
   rw[bg] at e ⊢
   rw[List.getElem?_append_left (List.getElem?_eq_some_iff.1 e).1]
   exact e
  |succ l=>rw[bH] at e ⊢;exact e
theorem DC(hl:nk.length=bf.length)(hlo:bo.length=own.length){k:Key}{o:Obj}(h:aU ((bf++own.map (Obj.mg bf.length))::Ω) k=some o):
 ∃k0 o0,zK bf.length k0=k∧aU (own::bf::Ω) k0=some o0∧o=(if k0.1=0 then o0.mg bf.length else o0)∧aU ((nk++bo)::bΩ) k=aU (bo::nk::bΩ) k0:=by
 obtain⟨l,j⟩:=k
 cases l with
 |zero=>
  rw[bg] at h
  by_cases hj:j<bf.length
  ·rw[List.getElem?_append_left hj] at h
   refine⟨(1,j),o,rfl,by rw[bH,bg];exact h,rfl,?_⟩
   rw[bg,bH,bg,List.getElem?_append_left (by omega)]
  ·rw[List.getElem?_append_right (by omega),List.getElem?_map] at h
   cases hx:own[j-bf.length]? with
   |none=>rw[hx] at h;cases h
   |some x=>
    rw[hx] at h;cases h
    refine⟨(0,j-bf.length),x,?_,by rw[bg];exact hx,rfl,?_⟩
    ·show(0,bf.length+(j-bf.length))=(0,j)
     rw[show bf.length+(j-bf.length)=j by omega]
    ·rw[bg,bg,List.getElem?_append_right (by omega),hl]
 |succ l=>
  rw[bH] at h
  exact⟨(l+2,j),o,rfl,by rw[bH,bH];exact h,rfl,by rw[bH,bH,bH]⟩
theorem sK{n:Nat}{k:Key}{o:Obj}:(∀aQ es,oF (if k.1=0 then o.mg n else o) aQ es→oF o aQ es)∧(∀aQ es,(if k.1=0 then o.mg n else o)=.fG aQ es→o=.fG aQ es)∧
 (∀m,(if k.1=0 then o.mg n else o)=.mp m→o=.mp m)∧(∀cs,(if k.1=0 then o.mg n else o)=.box cs→∃cs',o=.box cs')∧(∀rs,(if k.1=0 then o.mg n else o)=.xf rs→o=.xf rs):=by
 by_cases e:k.1=0
 ·simp only[if_pos e]
  cases o<;>simp[Obj.mg,oF]
 ·simp only[if_neg e]
  exact⟨fun _ _ h=>h,fun _ _ h=>h,fun _ h=>h,fun cs h=>⟨cs,h⟩,fun _ h=>h⟩
theorem XJ(hl:nk.length=bf.length){c:C}{v:Value}(h:fO w σ (own::bf::Ω) (bo::nk::bΩ) c v):
 fO w σ ((bf++own.map (Obj.mg bf.length))::Ω) ((nk++bo)::bΩ) (c.mg bf.length) v:=by
 cases c with
 |d x=>exact h
 |any=>exact trivial
 |aO es=>exact h
 |jL cs=>exact h
 |iK m es=>exact h
 |xp k r p=>
  obtain⟨o,ho,h2⟩:=h
  refine⟨_,yN ho,fun rs e=> ?_⟩
  obtain⟨hh,q1,q2⟩:=h2 rs (sK.2.2.2.2 _ e)
  exact⟨hh,yO hl q1,q2⟩
 |xq k r p z i off=>
  obtain⟨o,ho,h2⟩:=h
  refine⟨_,yN ho,fun rs e=> ?_⟩
  obtain⟨hh,b,a,n,cap,q1,q2⟩:=h2 rs (sK.2.2.2.2 _ e)
  exact⟨hh,b,a,n,cap,yO hl q1,q2⟩
 |bL k es=>
  obtain⟨h1,o,ho,h2⟩:=h
  refine⟨h1,_,yN ho,fun aQ es' e=> ?_⟩
  obtain⟨q1,q2⟩:=h2 aQ es' (sK.1 _ _ e)
  exact⟨q1,fun e'=>yO hl (q2 e')⟩
 |ptr k off=>
  obtain⟨o,ho,h2⟩:=h
  refine⟨_,yN ho,fun cs e=> ?_⟩
  obtain⟨cs',e'⟩:=sK.2.2.2.1 _ e
  obtain⟨b,q1,q2⟩:=h2 cs' e'
  exact⟨b,yO hl q1,q2⟩
 |ku k i off=>
  obtain⟨o,ho,h2⟩:=h
  refine⟨_,yN ho,fun aQ es e=> ?_⟩
  obtain⟨b,n,cap,q1,q2⟩:=h2 aQ es (sK.2.1 _ _ e)
  exact⟨b,n,cap,yO hl q1,q2⟩
 |kg k=>
  obtain⟨o,ho,h2⟩:=h
  exact⟨_,yN ho,fun aQ es e=>yO hl (h2 aQ es (sK.2.1 _ _ e))⟩
 |mp k=>
  obtain⟨o,ho,h2⟩:=h
  exact⟨_,yN ho,fun m e=>yO hl (h2 m (sK.2.2.1 _ e))⟩
 |fn f caps=>
  obtain⟨vs,e,hsz,hc⟩:=h
  refine⟨vs,e,by rw[hsz,List.length_map],fun j k off hj=> ?_⟩
  rw[List.getElem?_map] at hj
  cases hx:caps[j]? with
  |none=>rw[hx] at hj;cases hj
  |some y=>
   rw[hx] at hj
   injection hj with hj
   injection hj with e1 e2
   obtain⟨u,q1,q2,o,q3,q4⟩:=hc j y.1 y.2 hx
   refine⟨u,q1,q2,_,by rw[←e1];exact yN q3,fun cs e=> ?_⟩
   obtain⟨cs',e'⟩:=sK.2.2.2.1 _ e
   obtain⟨b,q5,q6⟩:=q4 cs' e'
   exact⟨b,by rw[←e1];exact yO hl q5,by rw[←e2];exact q6⟩
theorem RN(hl:nk.length=bf.length){cs:List C}{vs:List Value}(h:eU w σ (own::bf::Ω) (bo::nk::bΩ) cs vs):
 eU w σ ((bf++own.map (Obj.mg bf.length))::Ω) ((nk++bo)::bΩ) (cs.map (C.mg bf.length)) vs:=by
 refine⟨by rw[List.length_map];exact h.1,fun j x hj=> ?_⟩
 rw[List.getElem?_map] at hj
 cases hx:cs[j]? with
 |none=>rw[hx] at hj;cases hj
 |some y=>
  rw[hx] at hj;cases hj
  obtain⟨v,h1,h2,h3⟩:=h.2 j y hx
  exact⟨v,h1,XJ hl h2,h3⟩
theorem aeI(hl:nk.length=bf.length){x:V}{v:Value}(h:bR w σ (own::bf::Ω) (bo::nk::bΩ) x v):
 bR w σ ((bf++own.map (Obj.mg bf.length))::Ω) ((nk++bo)::bΩ) (x.mg bf.length) v:=by
 cases x with
 |c x=>exact⟨XJ hl h.1,h.2⟩
 |agg cs=>obtain⟨a,ha,hc⟩:=h;exact⟨a,ha,RN hl hc⟩
 |any=>exact trivial
 |d9 xs=>
  obtain⟨a,ha,hlen,hc⟩:=h
  refine⟨a,ha,by rw[List.length_map];exact hlen,fun j y hj=> ?_⟩
  rw[List.getElem?_map] at hj
  cases hx:xs[j]? with
  |none=>rw[hx] at hj;cases hj
  |some z=>
   rw[hx] at hj;cases hj
   obtain⟨u,hu,hr⟩:=hc j z hx
   refine⟨u,hu,?_⟩
   obtain⟨b,cs⟩:=z
   cases b with
   |true=>obtain⟨a',e,hcs⟩:=hr;exact⟨a',e,RN hl hcs⟩
   |false=>obtain⟨x1,e,hx1,ho⟩:=hr;subst e;exact⟨_,rfl,XJ hl hx1,ho⟩
theorem P9(hl:nk.length=bf.length):Keep (bf::Ω) (nk::bΩ) ((bf++own.map (Obj.mg bf.length))::Ω) ((nk++bo)::bΩ):=by
 rintro⟨l,j⟩ o h
 cases l with
 |zero=>
  rw[bg] at h
  have hj:=(List.getElem?_eq_some_iff.1 h).1
  refine⟨o,by rw[bg,List.getElem?_append_left hj];exact h,?_⟩
  rw[bg,bg,List.getElem?_append_left (by omega)]
  exact jJ.refl _ _
 |succ l=>
  rw[bH] at h
  exact⟨o,by rw[bH];exact h,by rw[bH,bH];exact jJ.refl _ _⟩
theorem aeJ(hS:dH w σ (own::bf::Ω) (bo::nk::bΩ)):dH w σ ((bf++own.map (Obj.mg bf.length))::Ω) ((nk++bo)::bΩ):=by
 have hlo:bo.length=own.length:=by
  obtain⟨gr,h1,h2⟩:=hS.shape.2 0 own rfl
  simp at h1;rw[h1];exact h2
 have hl:nk.length=bf.length:=by
  obtain⟨gr,h1,h2⟩:=hS.shape.2 1 bf rfl
  simp at h1;rw[h1];exact h2
 have hn:eu w σ w σ:=eu.refl _ _
 refine⟨fun k o ho=> ?_,fun k k' o o' h h' b e1 e2 e3 e4 e5 e6=> ?_,⟨by have:=hS.shape.1;simpa using this,fun l fr hfr=> ?_⟩,hS.live,hS.p8⟩
 ·obtain⟨k0,o0,hk,ho0,rfl,hh⟩:=DC (bo:=bo) (bΩ:=bΩ) hl hlo ho
  obtain⟨h,h1,h2⟩:=hS.obj k0 o0 ho0
  refine⟨h,by rw[hh];exact h1,?_⟩
  obtain⟨l0,j0⟩:=k0
  cases l0 with
  |zero=>
   subst hk
   have h2:gq w σ (own::bf::Ω) (bo::nk::bΩ) o0 h:=h2
   show gq w σ ((bf++own.map (Obj.mg bf.length))::Ω) ((nk++bo)::bΩ) (o0.mg bf.length) h
   cases o0 with
   |box cs=>
    obtain⟨b,c,t,e,q1,q2,q3⟩:=h2
    exact⟨b,c,t,e,q1,q2,RN hl q3⟩
   |dead=>exact trivial
   |tok aQ es=>exact h2
   |fG aQ es=>exact h2
   |mp m=>exact h2
   |eP n aQ es=>exact h2
   |seed n=>exact trivial
   |xf rs=>exact h2
  |succ l0=>
   have hk':k=(l0,j0):=hk.symm
   subst hk'
   have h2:gq w σ ((bf::Ω).drop l0) ((nk::bΩ).drop l0) o0 h:=h2
   exact h2.mono hn ((P9 hl).drop l0) fun _ _=>⟨rfl,rfl⟩
 ·obtain⟨k0,o0,hk,ho0,ho,hh⟩:=DC (bo:=bo) (bΩ:=bΩ) hl hlo e1
  obtain⟨k1,o1,hk1,ho1,ho',Bt⟩:=DC (bo:=bo) (bΩ:=bΩ) hl hlo e4
  rw[hh] at e2
  rw[Bt] at e5
  have b0:owns o0 h b:=by
   rw[ho] at e3
   split at e3
   ·rw[IQ] at e3;exact e3
   ·exact e3
  have b1:owns o1 h' b:=by
   rw[ho'] at e6
   split at e6
   ·rw[IQ] at e6;exact e6
   ·exact e6
  have:=hS.apart k0 k1 o0 o1 h h' b ho0 e2 b0 ho1 e5 b1
  rw[←hk,←hk1,this]
 ·cases l with
  |zero=>
   simp at hfr
   exact⟨_,rfl,by rw[←hfr];simp[hl,hlo]⟩
  |succ l=>exact hS.shape.2 (l+2) fr (by simpa using hfr)
theorem abt(hS:dH w σ (own::bf::Ω) (bo::nk::bΩ)){b:Nat}(h:Own ((bf++own.map (Obj.mg bf.length))::Ω) ((nk++bo)::bΩ) b):Own (own::bf::Ω) (bo::nk::bΩ) b:=by
 have hlo:bo.length=own.length:=by
  obtain⟨gr,h1,h2⟩:=hS.shape.2 0 own rfl
  simp at h1;rw[h1];exact h2
 have hl:nk.length=bf.length:=by
  obtain⟨gr,h1,h2⟩:=hS.shape.2 1 bf rfl
  simp at h1;rw[h1];exact h2
 obtain⟨k,o,hv,e1,e2,e3⟩:=h
 obtain⟨k0,o0,hk,ho0,ho,hh⟩:=DC (bo:=bo) (bΩ:=bΩ) hl hlo e1
 rw[hh] at e2
 refine⟨k0,o0,hv,ho0,e2,?_⟩
 rw[ho] at e3
 split at e3
 ·rw[IQ] at e3;exact e3
 ·exact e3
end
def MF(P:Program)(rs:List ResultVar)(post:V→Store→Prop)(e:Exit)(s:St):Prop:=
 match e with
 | .normal| .ret=>(qb P rs s).1∧match s.st with
   |own::bf::Ω=>post ((qb P rs s).2.mg bf.length) ((bf++own.map (Obj.mg bf.length))::Ω)
   |_=>False
 |_=>False
section
variable {P:Program} {N:Nat} {s:St}
theorem JF{f:FuncId}{fn:Func}{c:Code}{args:List V}{bf:List Obj}{Ω:Store}{post:V→Store→Prop}(hf:P.funcs[f]? =some fn)(hb:fn.body=some c)(hn:(fn.name== "runtime.NumGoroutine")=false)
 (hl:args.length≤fn.ntmps) (h:AW P fn.ntmps c (MF P fn.results.toList post) ⟨nO (args.map (V.up 1)) 0,[]::bf::Ω⟩):bD P f args (bf::Ω) post:=by
 refine⟨⟨fn,hf,hn,by simp[hb]⟩,fun w σ β vs hS hargs=> ?_⟩
 refine calls_of_wp hf hb ?_
 have hlen:vs.length=args.length:=hargs.1.symm
 have Wj:jc fn.ntmps ⟨nO (args.map (V.up 1)) 0,[]::bf::Ω⟩ {tmps:=vs.toArray++Array.replicate (fn.ntmps-vs.toArray.size) undef,defers:=[]} w σ ([]::β):=by
  refine⟨by simp;omega,rfl,hS.up1,fun t=> ?_⟩
  show bR w σ ([]::bf::Ω) ([]::β) (look (nO (args.map (V.up 1)) 0) t) _
  rw[Af,if_pos (Nat.zero_le _),Nat.sub_zero,List.getElem?_map]
  cases ha:args[t]? with
  |none=>exact trivial
  |some x=>
   obtain⟨v,hv,hr⟩:=hargs.2 t x ha
   have ht:=(List.getElem?_eq_some_iff.1 hv).1
   have:(vs.toArray++Array.replicate (fn.ntmps-vs.toArray.size) undef).getD t undef=v:=by
    rw[Array.getD_eq_getD_getElem?,Array.getElem?_append_left (by simpa using ht)]
    simp[hv]
   rw[this]
   exact Iq (S:=[]::bf::Ω) (β:=[]::β) 1 hr
 refine wp_mono (h _ w σ ([]::β) Wj) ?_
 rintro e a' w' ⟨s',σ',β',hR,hst,hkp,hq⟩
 have main:((qb P fn.results.toList s').1∧match s'.st with
  |own::bf::Ω=>post ((qb P fn.results.toList s').2.mg bf.length) ((bf++own.map (Obj.mg bf.length))::Ω)
  |_=>False)→
   a'.defers=[]∧∃v,(results fn a'.tmps).run P w'=.ok v w'∧∃v_1 r S' σ' β',Ending.returned v=Ending.returned v_1∧dH w' σ' S' β'∧Keep (bf::Ω) β S' β'∧Step (bf::Ω) β σ w S' β' σ' w'∧bR w' σ' S' β' r v_1∧post r S':=by
  rintro⟨q1,q2⟩
  obtain⟨v,hv,hrep⟩:=Js (fn:=fn) hR q1
  obtain⟨tm,st⟩:=s'
  simp only at q2
  split at q2
  ·rename_i own RO Ω1
   obtain⟨bo,bΩ',rfl,hlo⟩:=frames hR
   cases bΩ' with
   |nil=>have:=hR.S.shape.1;simp at this
   |cons bo1 bΩ1=>
    have hl1:bo1.length=RO.length:=by
     obtain⟨gr,h1,h2⟩:=hR.S.shape.2 1 RO rfl
     simp at h1;rw[h1];exact h2
    have uF:Keep (bf::Ω) β (RO::Ω1) (bo1::bΩ1):=hkp
    have hst':Step ([]::bf::Ω) ([]::β) σ w (own::RO::Ω1) (bo::bo1::bΩ1) σ' w':=hst
    exact⟨hR.defers,v,hv,v,_,_,σ',_,rfl,aeJ hR.S,uF.trans (P9 hl1),⟨hst'.size,hst'.os,hst'.output,fun b hb ho=>hst'.far b hb (fun x=>ho (Du x)),hst'.near,fun b hb=>(hst'.own b (abt hR.S hb)).imp Du id⟩,aeI hl1 hrep,q2⟩
  ·exact q2.elim
 cases e with
 |normal=>exact main hq
 |ret=>exact main hq
 |_=>exact hq.elim
def MG(P:Program)(rs:List ResultVar)(post:V→Store→Prop)(s:St)(r:R):Prop:=r.1∧match s.st with
 |own::bf::Ω=>post (r.2.mg bf.length) ((bf++own.map (Obj.mg bf.length))::Ω)
 |_=>False
@[congr] theorem acI {rs:List ResultVar} {post:V→Store→Prop} {s s':St} {r r':R} (h1:s=s') (h2:r=r'):MG P rs post s r=MG P rs post s' r':=by rw[h1,h2]
theorem XK{rs:List ResultVar}{post:V→Store→Prop}{tm:List (Nat×V)}{S:Store}:MF P rs post .ret ⟨tm,S⟩=MG P rs post ⟨tm,S⟩ (qb P rs ⟨tm,S⟩):=rfl
theorem OJ{rs:List ResultVar}{post:V→Store→Prop}{tm:List (Nat×V)}{S:Store}:MF P rs post .normal ⟨tm,S⟩=MG P rs post ⟨tm,S⟩ (qb P rs ⟨tm,S⟩):=rfl
theorem ZQ{rs:List ResultVar}{post:V→Store→Prop}{tm:List (Nat×V)}{own bf:List Obj}{Ω:Store}{p:Prop}{v:V}:
 MG P rs post ⟨tm,own::bf::Ω⟩ (p,v)=(p∧post (v.mg bf.length) ((bf++own.map (Obj.mg bf.length))::Ω)):=rfl
theorem JG{f:FuncId}{fn:Func}{c:Code}{args:List V}{bf:List Obj}{Ω:Store}{post:V→Store→Prop}{rs:List ResultVar}(jQ:P.follows .mixedOrders=true)(hf:P.funcs[f]? =some fn)(hN:fn.ntmps=N)
 (hb:fn.body=some c) (hn:(fn.name== "runtime.NumGoroutine")=false) (hr:fn.results.toList=rs) (hl:Nat.ble args.length N=true) (hok:codeOk N c=true)
 (h:CW P N c (MF P rs post) ⟨nO (args.map (V.up 1)) 0,[]::bf::Ω⟩):bD P f args (bf::Ω) post:=by
 subst hN
 subst hr
 exact JF hf hb hn (Nat.le_of_ble_eq_true hl) (mG jQ c _ _ hok h)
theorem mgK_0{n j:Nat}:zK n (0,j)=(0,n+j):=rfl
theorem mgK_1{n l j:Nat}:zK n (1+l,j)=(l,j):=by rw[Nat.add_comm];rfl
end
attribute [go_sem ↓] XK OJ
attribute [go_sem] ZQ V.mg C.mg Obj.mg mgK_0 mgK_1
end Go.Ab
namespace Go.Ab
mutual
def nU:D→Nat
 | .sl es=>jU es+1
 | .ol _ _=>0
 | .b _=>0
 | .i _ _=>0
 | .s _=>0
 | .o _=>0
def nV:List D→Nat
 |[]=>0
 |d::ds=>nU d+nV ds
def jU:List (List D)→Nat
 |[]=>0
 |r::rs=>nV r+jU rs
end
mutual
def lX:D→Nat→D
 | .sl es,n=>.ol n (eX es (n+1))
 | .ol m es,_=>.ol m es
 | .b x,_=>.b x
 | .i k x,_=>.i k x
 | .s l,_=>.s l
 | .o v,_=>.o v
def eH:List D→Nat→List D
 |[],_=>[]
 |d::ds,n=>lX d n::eH ds (n+nU d)
def eX:List (List D)→Nat→List (List D)
 |[],_=>[]
 |r::rs,n=>eH r n::eX rs (n+nV r)
end
mutual
def ow:D→Bool
 | .sl es=>iP es
 | .ol _ _=>false
 | .b _=>true
 | .i _ _=>true
 | .s _=>true
 | .o _=>false
def iC:List D→Bool
 |[]=>true
 |d::ds=>ow d&&iC ds
def iP:List (List D)→Bool
 |[]=>true
 |r::rs=>iC r&&iP rs
end
theorem El:∀a b n,eH (a++b) n=eH a n++eH b (n+nV a)
 |[],b,n=>by simp[eH,nV]
 |d::ds,b,n=>by rw[List.cons_append,eH,eH,El ds b,nV,Nat.add_assoc];rfl
theorem nW:∀a b n,eX (a++b) n=eX a n++eX b (n+jU a)
 |[],b,n=>by simp[eX,jU]
 |d::ds,b,n=>by rw[List.cons_append,eX,eX,nW ds b,jU,Nat.add_assoc];rfl
theorem fP:∀r n,(eH r n).length=r.length
 |[],_=>rfl
 |d::ds,n=>by rw[eH,List.length_cons,fP ds,List.length_cons]
theorem jV:∀rs n,(eX rs n).length=rs.length
 |[],_=>rfl
 |r::rs,n=>by rw[eX,List.length_cons,jV rs,List.length_cons]
theorem Av{z:Nat}:∀{rs:List (List D)} {n:Nat},(∀r∈rs,r.length=z)→∀r∈eX rs n,r.length=z
 |[],_,_,r,h=>by rw[eX] at h;cases h
 |a::rs,n,ha,r,h=>by
  rw[eX] at h
  rcases List.mem_cons.1 h with e|h
  ·rw[e,fP];exact ha a (by simp)
  ·exact Av (fun r hr=>ha r (by simp[hr])) r h
theorem fK:∀a b,iC (a++b)=(iC a&&iC b)
 |[],b=>by simp[iC]
 |d::ds,b=>by rw[List.cons_append,iC,iC,fK ds b,Bool.and_assoc]
theorem jr{α:Type}{f:α→List D}:∀{xs:List α},(∀x∈xs,iC (f x)=true)→iP (xs.map f)=true
 |[],_=>rfl
 |x::xs,h=>by
  rw[List.map_cons,iP,h x (by simp),jr fun y hy=>h y (by simp[hy])];rfl
section
variable {P:Program} {w:World} {σ σ':Nat→Nat} {S:Store} {β:Hs} {N:Nat} {s:St}
mutual
theorem abv:∀(d:D) (n:Nat) (v:Value),bU w σ (lX d n) v→bU w σ d v
 | .sl es,n,v,h=>by
   rw[lX] at h
   have hl:=jV es (n+1)
   have hrec:=YQ es (n+1)
   generalize eX es (n+1)=q at h hl hrec
   cases h with
   |qm n a cap=>
    have:es=[]:=List.eq_nil_of_length_eq_zero (by simpa using hl.symm)
    subst this
    exact .nil a cap
   |ol n b off cap aQ q vals c t hcap hlen hb hσ hfit hc hv=>
    obtain⟨r1,r2⟩:=hrec vals hv
    rw[hl] at hcap hfit hc ⊢
    refine .sl b off cap aQ es vals c t (0,0) hcap (fun e he=> ?_) hb (by omega) hc r2
    obtain⟨e',h1,h2⟩:=r1 e he
    rw[←h2];exact hlen e' h1
 | .ol m es,n,v,h=>h
 | .b x,n,v,h=>h
 | .i k x,n,v,h=>h
 | .s l,n,v,h=>h
 | .o u,n,v,h=>h
theorem abw:∀(r:List D) (n:Nat) (vals:Nat→Value),(∀j d,(eH r n)[j]? =some d→bU w σ d (vals j))→∀(j:Nat) d,r[j]? =some d→bU w σ d (vals j)
 |[],n,vals,h,j,d,hd=>by simp at hd
 |a::r,n,vals,h,j,d,hd=>by
  cases j with
  |zero=>
   simp at hd;subst hd
   exact abv a n _ (h 0 _ rfl)
  |succ j=>exact abw r (n+nU a) (fun i=>vals (i+1)) (fun i d hi=>h (i+1) d (by rw[eH];exact hi)) j d hd
theorem YQ:∀(rs:List (List D)) (n:Nat) (vals:Nat→Value),(∀j d,(eX rs n).flatten[j]? =some d→bU w σ d (vals j))→
 (∀e∈rs,∃e'∈eX rs n,e'.length=e.length)∧∀(j:Nat) d,rs.flatten[j]? =some d→bU w σ d (vals j)
 |[],n,vals,h=>⟨fun e he=>(by cases he),fun j d hd=>(by simp at hd)⟩
 |r::rs,n,vals,h=>by
  rw[eX,List.flatten_cons] at h
  have h1:=abw r n vals fun j d hd=>h j d (by rw[List.getElem?_append_left (List.getElem?_eq_some_iff.1 hd).1];exact hd)
  obtain⟨h2,h3⟩:=YQ rs (n+nV r) (fun i=>vals (r.length+i)) fun j d hd=>h (r.length+j) d (by rw[List.getElem?_append_right (by rw[fP];omega),fP,Nat.add_sub_cancel_left];exact hd)
  refine⟨fun e he=> ?_,fun j d hd=> ?_⟩
  ·rcases List.mem_cons.1 he with e1|he
   ·subst e1;exact⟨_,by rw[eX];exact List.mem_cons_self ..,fP _ _⟩
   ·obtain⟨e',q1,q2⟩:=h2 e he
    exact⟨e',by rw[eX];exact List.mem_cons_of_mem _ q1,q2⟩
  ·rw[List.flatten_cons] at hd
   by_cases hj:j<r.length
   ·rw[List.getElem?_append_left hj] at hd;exact h1 j d hd
   ·rw[List.getElem?_append_right (by omega)] at hd
    have:=h3 (j-r.length) d hd
    rwa [show r.length+(j-r.length)=j by omega] at this
end
theorem EO{r:List D}{n:Nat}:Less (.agg ((eH r n).map .d)) (.agg (r.map .d)):=by
 rintro w σ S β v ⟨a,ha,hl,hc⟩
 rw[List.length_map,fP] at hl
 refine⟨a,ha,by rw[List.length_map];exact hl,?_⟩
 have key:∀(r:List D) (n:Nat) (vs:List Value),(∀(j:Nat) (x:C),((eH r n).map C.d)[j]? =some x→∃v:Value,vs[j]? =some v∧fO w σ S β x v∧v.oneCell'=true)→
  ∀(j:Nat) (x:C),(r.map C.d)[j]? =some x→∃v:Value,vs[j]? =some v∧fO w σ S β x v∧v.oneCell'=true:=by
  intro r
  induction r with
  |nil=>intro n vs h j x hx;simp at hx
  |cons d ds ih=>
   intro n vs h j x hx
   cases j with
   |zero=>
    simp at hx;subst hx
    obtain⟨v,h1,h2,h3⟩:=h 0 (.d (lX d n)) rfl
    exact⟨v,h1,abv d n v h2,h3⟩
   |succ j=>
    have:=ih (n+nU d) vs.tail (fun i y hy=>by
     obtain⟨v,h1,h2⟩:=h (i+1) y (by rw[eH,List.map_cons];exact hy)
     refine⟨v,?_,h2⟩
     cases vs with
     |nil=>simp at h1
     |cons a b=>exact h1) j x hx
    obtain⟨v,h1,h2⟩:=this
    refine⟨v,?_,h2⟩
    cases vs with
    |nil=>simp at h1
    |cons a b=>exact h1
 exact key r n _ hc
theorem UQ{r:List D}{n:Nat}{w:World}{σ:Nat→Nat}{S:Store}{β:Hs}{vs:List Value}(h:eU w σ S β ((eH r n).map .d) vs):eU w σ S β (r.map .d) vs:=by
 obtain⟨a,ha,hc⟩:=EO w σ S β (.agg vs.toArray) ⟨vs.toArray,rfl,by simpa using h⟩
 cases ha
 simpa using hc
inductive o9:List V→List V→Prop
 |nil:o9 [] []
 |cons {x y:V} {xs ys:List V}:Less x y→o9 xs ys→o9 (x::xs) (y::ys)
theorem o9.length:∀{xs ys:List V},o9 xs ys→xs.length=ys.length
 |_,_,.nil=>rfl
 |_,_,.cons _ h=>by rw[List.length_cons,List.length_cons,o9.length h]
theorem o9.at:∀{xs ys:List V},o9 xs ys→∀(j:Nat) (x y:V),xs[j]? =some x→ys[j]? =some y→Less x y
 |_,_,.nil,j,x,y,h,_=>by simp at h
 |_,_,.cons a h,0,x,y,h1,h2=>by simp at h1 h2;subst h1;subst h2;exact a
 |_,_,.cons a h,j+1,x,y,h1,h2=>o9.at h j x y (by simpa using h1) (by simpa using h2)
theorem aI.args{f:FuncId}{args args':List V}{r:V}(h:aI P f args' r)(hl:o9 args args'):aI P f args r:=fun S=>(h S).weaken hl.length fun j x y hx hy w σ β v hr=>hl.at j x y hx hy w σ S β v hr
theorem vP{dr:Option Nat}{f:FuncId}{args args':List V}{dst:Option Nat}{K:St→Prop}{r:V}(h:aI P f args' r)(hl:o9 (args.map V.qh) args')(hK:K (s.put dst r)):kP P dr f args s dst K:=ay (h.args hl) hK
def XL(row:Bool)(j n:Nat)(es:List (List D))(tm:List (Nat×V)):List (Nat×V):=tm.map fun x=>(x.1,x.2.jf (C.lab row j n es))
theorem UR{row:Bool}{j n:Nat}{es:List (List D)}{tm:List (Nat×V)}{t:Nat}:look (XL row j n es tm) t=(look tm t).jf (C.lab row j n es):=Am (f:=V.jf (C.lab row j n es)) rfl tm t
def RP(j n:Nat)(tm:List (Nat×V))(own:List Obj)(Ω:Store):Option Obj→St
 |some (.fG _ es)=>⟨XL true j n es tm,(own.map (Obj.jf (C.lab true j n es))).set j .dead::Ω⟩
 |some (.eP m _ es)=>⟨XL false j m es tm,(own.map (Obj.jf (C.lab false j m es))).set j .dead::Ω⟩
 |_=>⟨tm,own::Ω⟩
def KU(j n:Nat)(s:St):St:=
 match s.st with
 |own::Ω=>RP j n s.tm own Ω (own[j]?)
 |[]=>s
def Gi:Nat→Nat→St→St
 |0,_,s=>s
 |k+1,n,s=>Gi k n (KU k n s)
def zL(n:Nat)(s:St):St:=
 match s.st with
 |own::_=>Gi own.length n s
 |[]=>s
theorem OL(j n:Nat)(s:St):gu N s (KU j n s):=by
 obtain⟨tm,st⟩:=s
 cases st with
 |nil=>exact gu.refl _ _
 |cons own Ω=>
  show gu N ⟨tm,own::Ω⟩ (RP j n tm own Ω (own[j]?))
  cases ho:own[j]? with
  |none=>exact gu.refl _ _
  |some o=>
   cases o with
   |fG z es=>exact fun a w σ β hR=>PY j n z es true ho hR
   |eP m z es=>exact fun a w σ β hR=>PY j m z es false ho hR
   |_=>exact gu.refl _ _
theorem Em:∀(k n:Nat) (s:St),gu N s (Gi k n s)
 |0,n,s=>gu.refl _ _
 |k+1,n,s=>(OL k n s).trans (Em k n _)
theorem Ci(n:Nat)(s:St):gu N s (zL n s):=by
 unfold zL
 split
 ·exact Em _ _ _
 ·exact gu.refl _ _
theorem XM{j n:Nat}{tm:List (Nat×V)}{own:List Obj}{Ω:Store}:KU j n ⟨tm,own::Ω⟩=RP j n tm own Ω (own[j]?):=rfl
theorem UU{n:Nat}{tm:List (Nat×V)}{own:List Obj}{Ω:Store}:zL n ⟨tm,own::Ω⟩=Gi own.length n ⟨tm,own::Ω⟩:=rfl
def RQ(P:Program)(n:Nat)(rs:List ResultVar)(post:V→Store→Prop)(e:Exit)(s:St):Prop:=Wh P rs post e (zL n s)
theorem XO{n:Nat}{rs:List ResultVar}{post:V→Store→Prop}:RQ P n rs post .ret s=Mj P rs post (zL n s):=rfl
theorem OM{n:Nat}{rs:List ResultVar}{post:V→Store→Prop}:RQ P n rs post .normal s=Mj P rs post (zL n s):=rfl
theorem l8(n:Nat){f:FuncId}{fn:Func}{c:Code}{args:List V}{post:V→Store→Prop}{rs:List ResultVar}(jQ:P.follows .mixedOrders=true)(hf:P.funcs[f]? =some fn)(hN:fn.ntmps=N)
 (hb:fn.body=some c) (hn:(fn.name== "runtime.NumGoroutine")=false) (hr:fn.results.toList=rs) (hl:Nat.ble args.length N=true) (hok:codeOk N c=true)
 (h:CW P N c (RQ P n rs post) ⟨nO (args.map (V.up 1)) 0,[.seed n]::S⟩):bD P f args S post:=by
 subst hN
 subst hr
 exact ze hf hb hn (Nat.le_of_ble_eq_true hl) (Iw n (LU (Ci n) (mG jQ c _ _ hok h)))
theorem XP{row:Bool}{j n l i:Nat}{es es':List (List D)}:C.lab row j n es (.bL (1+l,i) es')=.bL (1+l,i) es':=by rw[Nat.add_comm];rfl
theorem XQ{row:Bool}{j n i:Nat}{es es':List (List D)}:C.lab row j n es (.bL (0,i) es')=if i=j∧row=false∧es'.length=es.length then .d (.ol n es) else .bL (0,i) es':=rfl
theorem XR{row:Bool}{j n l i:Nat}{es:List (List D)}:C.lab row j n es (.kg (1+l,i))=.kg (1+l,i):=by rw[Nat.add_comm];rfl
theorem XT{row:Bool}{j n i:Nat}{es:List (List D)}:C.lab row j n es (.kg (0,i))=if i=j∧row=true then .d (.ol n es) else .kg (0,i):=rfl
theorem acJ{row:Bool}{j n:Nat}{es:List (List D)}{x:D}:C.lab row j n es (.d x)=.d x:=rfl
theorem ZR{row:Bool}{j n:Nat}{es:List (List D)}:C.lab row j n es .any=.any:=rfl
theorem ZT{row:Bool}{j n:Nat}{es es':List (List D)}:C.lab row j n es (.aO es')=.aO es':=rfl
theorem ZU{row:Bool}{j n m:Nat}{es es':List (List D)}:C.lab row j n es (.iK m es')=.iK m es':=rfl
theorem ZV{row:Bool}{j n off:Nat}{es:List (List D)}{k:Key}:C.lab row j n es (.ptr k off)=.ptr k off:=rfl
theorem abx{row:Bool}{j n f:Nat}{es:List (List D)}{caps:List (Key×Nat)}:C.lab row j n es (.fn f caps)=.fn f caps:=rfl
theorem XU{row:Bool}{j n:Nat}{es:List (List D)}{cs:List D}:C.lab row j n es (.jL cs)=.jL cs:=rfl
theorem uN{ι:Type}{ts:List Nat}{f:ι→List V}{g:ι→Store}{p:ι→Prop}{μ:ι→Nat}{i:ι}{tm:List (Nat×V)}{own:List Obj}{Ω:Store}{m:Nat}(m' n:Nat)(hnd:ts.Nodup)(j:ι)(h1:μ j<μ i)(h2:ts.map (look tm)=f j)(h3:(Obj.seed m'::own.take n)::Ω=g j)
 (hr:jF (n+1) (gQ ts (f j))=true) (ho:(own.take n).all (Obj.refs (n+1))=true) (h4:p j):Inv N ts f g p μ i ⟨tm,(.seed m::own)::Ω⟩:=by
 refine⟨j,⟨gQ ts (f j),(.seed m'::own.take n)::Ω⟩,h1,?_,?_,h3,h4⟩
 ·have hg:gu N ⟨tm,(.seed m::own)::Ω⟩ ⟨gQ ts (f j),(.seed m::own)::Ω⟩:=by
   rw[←h2]
   exact EL fun t=>xS _ ts t
  refine hg.trans ((F7 (n+1) hr ?_).trans (BU m'))
  rw[List.take_succ_cons,List.all_cons,ho];rfl
 ·exact xU ts (f j) hnd (by rw[←h2];simp)
end
attribute [go_sem ↓] XO OM UU
attribute [go_sem] Gi XM RP UR V.jf Obj.jf XP XQ XR XT acJ ZR ZT ZU ZV abx XU
end Go.Ab
namespace Go.Ab
section
variable {P:Program} {N:Nat} {S:Store} {s:St} {tm:List (Nat×V)}
def DF(E:Md)(R:Array Oper)(K:St→Prop)(s:St):Prop:=KP E R s.tm=true∧K s
@[congr] theorem ab6 {E:Md} {R:Array Oper} {K:St→Prop} {s s':St} (h2:s=s'):DF E R K s=DF E R K s':=by rw[h2]
def wK(P:Program)(N:Nat):Code→(Exit→St→Prop)→St→Prop
 | .seq x y,Q,s=>wK P N x (oL (wK P N y Q) Q) s
 | .region _ R true,Q,s=>nG P (vH R N) R R.toList s (DF (vH R N) R (Q .normal))
 | .region id R false,Q,s=>CW P N (.region id R false) Q s
 | .cond c x y,Q,s=>CW P N (.cond c x y) Q s
 | .block id c,Q,s=>CW P N (.block id c) Q s
 | .exit id,Q,s=>CW P N (.exit id) Q s
 | .ret,Q,s=>CW P N .ret Q s
 | .skip,Q,s=>CW P N .skip Q s
 | .loop c,Q,s=>CW P N (.loop c) Q s
 |_,_,_=>False
theorem ZW{x y:Code}{Q:Exit→St→Prop}:wK P N (.seq x y) Q s=wK P N x (oL (wK P N y Q) Q) s:=by rw[wK]
theorem XV{id:Nat}{l:List Oper}{Q:Exit→St→Prop}:wK P N (.region id ⟨l⟩ true) Q s=nG P (vH ⟨l⟩ N) ⟨l⟩ l s (DF (vH ⟨l⟩ N) ⟨l⟩ (Q .normal)):=by rw[wK]
theorem RS{id:Nat}{l:List Oper}{Q:Exit→St→Prop}:wK P N (.region id ⟨l⟩ false) Q s=CW P N (.region id ⟨l⟩ false) Q s:=by rw[wK]
theorem XW{c:Operand}{x y:Code}{Q:Exit→St→Prop}:wK P N (.cond c x y) Q s=CW P N (.cond c x y) Q s:=by rw[wK]
theorem ZX{Q:Exit→St→Prop}:wK P N .ret Q s=CW P N .ret Q s:=by rw[wK]
theorem XY{Q:Exit→St→Prop}:wK P N .skip Q s=CW P N .skip Q s:=by rw[wK]
end
attribute [go_sem ↓] ZW XV RS XW ZX XY
end Go.Ab
namespace Go.Ab
section
variable {P:Program} {N:Nat} {S:Store} {s:St} {tm:List (Nat×V)}
def nN(P:Program)(N:Nat):Code→(Exit→St→Prop)→St→Prop
 | .seq x y,Q,s=>nN P N x (oL (nN P N y Q) Q) s
 | .region _ R true,Q,s=>nG P (vH R N) R R.toList s (DF (vH R N) R (Q .normal))
 | .region id R false,Q,s=>CW P N (.region id R false) Q s
 | .cond c x y,Q,s=>Dy (ev s.tm c) (nN P N x Q) (nN P N y Q) s
 | .block id c,Q,s=>nN P N c (wU id Q) s
 | .exit id,Q,s=>CW P N (.exit id) Q s
 | .ret,Q,s=>CW P N .ret Q s
 | .skip,Q,s=>CW P N .skip Q s
 | .loop c,Q,s=>CW P N (.loop c) Q s
 |_,_,_=>False
theorem ZY{x y:Code}{Q:Exit→St→Prop}:nN P N (.seq x y) Q s=nN P N x (oL (nN P N y Q) Q) s:=by rw[nN]
theorem XZ{id:Nat}{l:List Oper}{Q:Exit→St→Prop}:nN P N (.region id ⟨l⟩ true) Q s=nG P (vH ⟨l⟩ N) ⟨l⟩ l s (DF (vH ⟨l⟩ N) ⟨l⟩ (Q .normal)):=by rw[nN]
theorem RU{id:Nat}{l:List Oper}{Q:Exit→St→Prop}:nN P N (.region id ⟨l⟩ false) Q s=CW P N (.region id ⟨l⟩ false) Q s:=by rw[nN]
theorem X0{c:Operand}{x y:Code}{Q:Exit→St→Prop}:nN P N (.cond c x y) Q s=Dy (ev s.tm c) (nN P N x Q) (nN P N y Q) s:=by rw[nN]
theorem UW{id:Nat}{c:Code}{Q:Exit→St→Prop}:nN P N (.block id c) Q s=nN P N c (wU id Q) s:=by rw[nN]
theorem X3{id:Nat}{Q:Exit→St→Prop}:nN P N (.exit id) Q s=CW P N (.exit id) Q s:=by rw[nN]
theorem Z0{Q:Exit→St→Prop}:nN P N .ret Q s=CW P N .ret Q s:=by rw[nN]
theorem X4{Q:Exit→St→Prop}:nN P N .skip Q s=CW P N .skip Q s:=by rw[nN]
theorem X5{c:Code}{Q:Exit→St→Prop}:nN P N (.loop c) Q s=CW P N (.loop c) Q s:=by rw[nN]
end
attribute [go_sem ↓] ZY XZ RU X0 UW X3 Z0 X4 X5
end Go.Ab
namespace Go.Ab
section
variable {P:Program} {N:Nat} {S:Store} {s:St} {tm:List (Nat×V)}
end
end Go.Ab
namespace Go.Ab
theorem RV{P:Program}{N:Nat}(n:Nat){f:FuncId}{fn:Func}{c:Code}{args:List V}{bf:List Obj}{Ω:Store}{post:V→Store→Prop}{rs:List ResultVar}(jQ:P.follows .mixedOrders=true)(hf:P.funcs[f]? =some fn)(hN:fn.ntmps=N)
 (hb:fn.body=some c) (hn:(fn.name== "runtime.NumGoroutine")=false) (hr:fn.results.toList=rs) (hl:Nat.ble args.length N=true) (hok:codeOk N c=true)
 (h:CW P N c (MF P rs post) ⟨nO (args.map (V.up 1)) 0,[.seed n]::bf::Ω⟩):bD P f args (bf::Ω) post:=by
 subst hN
 subst hr
 exact JF hf hb hn (Nat.le_of_ble_eq_true hl) (Iw n (mG jQ c _ _ hok h))
theorem X6{P:Program}{N:Nat}{c:Code}{Q:Exit→St→Prop}{tm:List (Nat×V)}{Ω:Store}(n k:Nat)(h:AW P N c Q ⟨tm,[.seed n,.seed k]::Ω⟩):AW P N c Q ⟨tm,[]::Ω⟩:=by
 refine Iw n (lN h fun a w σ β hR=> ?_)
 obtain⟨bo,bΩ,rfl,hlen⟩:=frames hR
 obtain⟨hS',hk,hst⟩:=hR.S.push (o:=.seed k) (h:=undef) (Grow.refl hR.S.live) hlen trivial (fun b hb=>by cases hb)
 exact⟨σ,_,⟨hR.size,hR.defers,hS',fun u=>(hR.T u).mono (eu.refl _ _) hk⟩,hst,Keep.refl _ _⟩
section
variable {P:Program} {N:Nat} {S:Store}
theorem wY(n k:Nat){f:FuncId}{fn:Func}{c:Code}{args:List V}{post:V→Store→Prop}{rs:List ResultVar}(jQ:P.follows .mixedOrders=true)(hf:P.funcs[f]? =some fn)(hN:fn.ntmps=N)
 (hb:fn.body=some c) (hn:(fn.name== "runtime.NumGoroutine")=false) (hr:fn.results.toList=rs) (hl:Nat.ble args.length N=true) (hok:codeOk N c=true)
 (h:CW P N c (RQ P n rs post) ⟨nO (args.map (V.up 1)) 0,[.seed n,.seed k]::S⟩):bD P f args S post:=by
 subst hN
 subst hr
 exact ze hf hb hn (Nat.le_of_ble_eq_true hl) (X6 n k (LU (Ci n) (mG jQ c _ _ hok h)))
end
end Go.Ab
namespace Go.Ab
section
variable {P:Program} {w w':World} {σ σ':Nat→Nat} {S:Store} {β:Hs}
def nX(w:World)(σ:Nat→Nat)(lo hi b:Nat):Prop:=∃c t fz m,w.heap[b]? =some (.cells c t fz)∧σ b=c.size+1+m∧lo≤m∧m<hi
theorem nX.mono{lo hi lo' hi' b:Nat}(h:nX w σ lo hi b)(h1:lo'≤lo)(h2:hi≤hi'):nX w σ lo' hi' b:=by
 obtain⟨c,t,fz,m,a1,a2,a3,a4⟩:=h
 exact⟨c,t,fz,m,a1,a2,by omega,by omega⟩
theorem nX.apart{lo hi lo' hi' b:Nat}(h:nX w σ lo hi b)(h':nX w σ lo' hi' b)(ho:hi≤lo'):False:=by
 obtain⟨c,t,fz,m,a1,a2,a3,a4⟩:=h
 obtain⟨c',t',Li,m',b1,b2,b3,b4⟩:=h'
 rw[a1] at b1;cases b1
 omega
abbrev Kids:=List (List (Option Value))
def kD(rows:Kids)(i o:Nat):Option Value:=((rows[i]?).bind fun r=>r[o]?).bind id
def YR(rows:Kids):Array Value:=(rows.map fun r=>Value.tuple (r.map fun u=>u.getD (.bool false)).toArray).toArray
def mkT(v:Value)(rows:Kids):Value:=.tuple #[v,.tuple (YR rows)]
theorem Qa{v:Value}{rows:Kids}:hdr (mkT v rows)=some v:=rfl
def IsT(v:Value):Prop:=∃a,v=.tuple a
theorem IU{v:Value}{rows:Kids}(h:∀i o u,kD rows i o=some u→IsT u)(i o:Nat):kid (mkT v rows) i o=kD rows i o:=by
 have h':=h i o
 unfold kid mkT YR kD at *
 simp only[List.getElem?_toArray,List.getElem?_cons_succ,List.getElem?_cons_zero,List.getElem?_map]
 cases hr:rows[i]? with
 |none=>rfl
 |some r=>
  rw[hr] at h'
  simp only[Option.map_some,List.getElem?_toArray,List.getElem?_map]
  cases hu:r[o]? with
  |none=>simp[hu]
  |some u=>
   simp only[Option.bind_some,hu,id] at h'
   cases u with
   |none=>simp[hu]
   |some u=>
    obtain⟨a,rfl⟩:=h' u rfl
    simp[hu]
def KV(w:World)(d:D)(v:Value)(u:Option Value):Prop:=
 match d with
 | .sl es=>∃T,u=some T∧IsT T∧hdr T=some v∧mR w es T
 |d=>u=none∧SD d v
theorem MH{z:Nat}:∀{rs:List (List D)} {n:Nat},(∀r∈eX rs n,r.length=z)→∀r∈rs,r.length=z
 |[],_,_,r,h=>by cases h
 |a::rs,n,ha,r,h=>by
  rw[eX] at ha
  rcases List.mem_cons.1 h with e|h
  ·subst e;rw[←fP r n];exact ha _ (by simp)
  ·exact MH (n:=n+nV a) (fun r hr=>ha r (by simp[hr])) r h
structure aeK (w:World) (σ:Nat→Nat) (r:List D) (n m:Nat) (vals:Nat→Value) (us:List (Option Value)):Prop where
 len:us.length=r.length
 cell:∀(j:Nat) (d:D),r[j]? =some d→∃u,us[j]? =some u∧KV w d (vals j) u
 own:∀(j:Nat) (u:Value),us[j]? =some (some u)→∀b,jM u b→nX w σ n m b
 apart:∀(j j':Nat) (u u':Value) (b:Nat),j≠j'→us[j]? =some (some u)→us[j']? =some (some u')→jM u b→jM u' b→False
structure acK (w:World) (σ:Nat→Nat) (z:Nat) (rs:List (List D)) (n m:Nat) (vals:Nat→Value) (U:Kids):Prop where
 cell:∀(i o:Nat) (d:D),cellAt rs i o=some d→∃u,((U[i]?).bind fun r=>r[o]?)=some u∧KV w d (vals (i*z+o)) u
 kid:∀(i o:Nat) (u:Value),kD U i o=some u→∃es,cellAt rs i o=some (.sl es)
 own:∀(i o:Nat) (u:Value),kD U i o=some u→∀b,jM u b→nX w σ n m b
 apart:∀(i o i' o':Nat) (u u':Value) (b:Nat),(i,o)≠(i',o')→kD U i o=some u→kD U i' o'=some u'→jM u b→jM u' b→False
theorem tY{us:List (Option Value)}{U:Kids}{o:Nat}{u:Value}:kD (us::U) 0 o=some u↔us[o]? =some (some u):=by
 show(us[o]?).bind id=some u↔_
 cases us[o]? with
 |none=>simp
 |some x=>simp
mutual
theorem acL:∀(d:D) (n:Nat) (v:Value),ow d=true→bU w σ (lX d n) v→∃u,KV w d v u∧∀T,u=some T→∀b,jM T b→nX w σ n (n+nU d) b
 | .sl es,n,v,hp,h=>by
   rw[lX] at h
   have hl:=jV es (n+1)
   have hrec:=UY es (n+1)
   have hrow:=fun z=>MH (z:=z) (rs:=es) (n:=n+1)
   generalize eX es (n+1)=q at h hl hrec hrow
   have hempty:∀a cap,es=[]→v=.slice a 0 cap→∃u,KV w (.sl es) v u∧∀T,u=some T→∀b,jM T b→nX w σ n (n+nU (.sl es)) b:=by
    rintro a cap rfl rfl
    have hk:∀i o,kid (mkT (.slice a 0 cap) []) i o=none:=fun i o=>by rw[IU (fun i o u h=>by simp[kD] at h)];simp[kD]
    refine⟨some (mkT (.slice a 0 cap) []),⟨_,rfl,⟨_,rfl⟩,rfl,.nil a cap _ rfl hk⟩,fun T hT b hb=> ?_⟩
    cases hT
    exfalso
    cases hb with
    |here h1 h2=>rw[Qa] at h1;cases h1;omega
    |kid h1 h2=>rw[hk] at h1;cases h1
   cases h with
   |qm n a cap=>exact hempty a cap (List.eq_nil_of_length_eq_zero (by simpa using hl.symm)) rfl
   |ol n b off cap z q vals c t hcap hlen hb hσ hfit hc hv=>
    by_cases hne:es=[]
    ·subst hne
     have hq0:q.length=0:=by simpa using hl
     exact hempty _ _ rfl (by rw[hq0])
    rw[hl] at hcap hfit hc ⊢
    obtain⟨U,hU⟩:=hrec z vals (hrow z hlen) (by simpa [ow] using hp) hv
    have hrl:=hrow z hlen
    have hT:∀i o u,kD U i o=some u→IsT u:=fun i o u hu=>by
     obtain⟨es',he⟩:=hU.kid i o u hu
     obtain⟨u',h1,h2⟩:=hU.cell i o _ he
     obtain⟨T,h3,h4,_⟩:=h2
     unfold kD at hu
     rw[h1,h3] at hu
     cases hu;exact h4
    have pY:∀i o,kid (mkT (.slice (some ⟨b,off,none⟩) es.length cap) U) i o=kD U i o:=IU hT
    have hcell:∀i o es',cellAt es i o=some (.sl es')→∃T,kD U i o=some T∧hdr T=some (vals (i*z+o))∧mR w es' T:=fun i o es' he=>by
     obtain⟨u',h1,T,h3,h4,h5,h6⟩:=hU.cell i o _ he
     refine⟨T,?_,h5,h6⟩
     unfold kD
     rw[h1,h3];rfl
    have hself:∀x,nX w σ (n+1) (n+1+jU es) x→x≠b:=by
     rintro x ⟨c',t',Li,m,a1,a2,a3,a4⟩ rfl
     rw[hb] at a1;cases a1
     omega
    refine⟨some (mkT (.slice (some ⟨b,off,none⟩) es.length cap) U),⟨_,rfl,⟨_,rfl⟩,rfl,?_⟩,fun T hT' x hx=> ?_⟩
    ·refine .mk b off cap z es _ c t (fun i o=>vals (i*z+o)) (fun i o=>(kD U i o).getD undef) rfl hne hcap hrl hb hfit (fun i o d hd=> ?_) (fun i o d hd=> ?_) (fun i o es' he=> ?_) (fun i o es' he=> ?_) (fun i o u hu hb'=> ?_) (fun i o i' o' u u' x YS hu hu' h1 h2=> ?_) (fun i o u hu=> ?_)
     ·obtain⟨hi,ho⟩:=uD hd
      rw[hrl _ (List.getElem_mem hi)] at ho
      refine hc _ ?_
      have:(i+1)*z≤es.length*z:=Nat.mul_le_mul_right _ hi
      rw[Nat.add_mul,Nat.one_mul] at this
      omega
     ·obtain⟨u,h1,h2⟩:=hU.cell i o d hd
      cases d<;>first|exact .inl ⟨_,rfl⟩|exact .inr h2.2
     ·obtain⟨T,h1,h2,h3⟩:=hcell i o es' he
      rw[pY,h1]
      exact⟨rfl,h2⟩
     ·obtain⟨T,h1,h2,h3⟩:=hcell i o es' he
      rw[h1];exact h3
     ·rw[pY] at hu
      exact hself b (hU.own i o u hu b hb') rfl
     ·rw[pY] at hu hu'
      exact hU.apart i o i' o' u u' x YS hu hu' h1 h2
     ·rw[pY] at hu
      exact hU.kid i o u hu
    ·cases hT'
     cases hx with
     |here h1 h2=>rw[Qa] at h1;cases h1;exact⟨c,t,(0,0),n,hb,hσ,Nat.le_refl _,by rw[nU];omega⟩
     |kid h1 h2=>
      rw[pY] at h1
      exact(hU.own _ _ _ h1 _ h2).mono (by omega) (by rw[nU];omega)
 | .ol m es,n,v,hp,h=>by simp[ow] at hp
 | .b x,n,v,hp,h=>by rw[lX] at h;cases h;exact⟨none,⟨rfl,rfl⟩,fun T h=>by cases h⟩
 | .i k x,n,v,hp,h=>by rw[lX] at h;cases h;exact⟨none,⟨rfl,rfl⟩,fun T h=>by cases h⟩
 | .s l,n,v,hp,h=>by rw[lX] at h;cases h;exact⟨none,⟨rfl,rfl⟩,fun T h=>by cases h⟩
 | .o u,n,v,hp,h=>by simp[ow] at hp
theorem KW:∀(r:List D) (n:Nat) (vals:Nat→Value),iC r=true→(∀(j:Nat) (d:D),(eH r n)[j]? =some d→bU w σ d (vals j))→∃us,aeK w σ r n (n+nV r) vals us
 |[],n,vals,hp,h=>⟨[],rfl,fun j d h=>by simp at h,fun j u h=>by simp at h,fun j j' u u' b _ h=>by simp at h⟩
 |d::r,n,vals,hp,h=>by
  rw[iC,Bool.and_eq_true] at hp
  rw[eH] at h
  obtain⟨u,h1,h2⟩:=acL d n (vals 0) hp.1 (h 0 _ rfl)
  obtain⟨us,ql⟩:=KW r (n+nU d) (fun j=>vals (j+1)) hp.2 fun j x hx=>h (j+1) x hx
  rw[nV]
  have hown:∀(j:Nat) (T:Value),us[j]? =some (some T)→∀b,jM T b→nX w σ (n+nU d) (n+nU d+nV r) b:=ql.own
  refine⟨u::us,by rw[List.length_cons,List.length_cons,ql.len],fun j x hx=> ?_,fun j T hT b hb=> ?_,fun j j' T T' b hj hT hT' hb hb'=> ?_⟩
  ·cases j with
   |zero=>simp at hx;subst hx;exact⟨u,rfl,h1⟩
   |succ j=>exact ql.cell j x hx
  ·cases j with
   |zero=>simp at hT;exact(h2 T hT b hb).mono (Nat.le_refl _) (by omega)
   |succ j=>exact(hown j T hT b hb).mono (by omega) (by omega)
  ·cases j with
   |zero=>
    cases j' with
    |zero=>exact hj rfl
    |succ j'=>simp at hT;exact(h2 T hT b hb).apart (hown j' T' hT' b hb') (Nat.le_refl _)
   |succ j=>
    cases j' with
    |zero=>simp at hT';exact(h2 T' hT' b hb').apart (hown j T hT b hb) (Nat.le_refl _)
    |succ j'=>exact ql.apart j j' T T' b (by omega) hT hT' hb hb'
theorem UY:∀(rs:List (List D)) (n z:Nat) (vals:Nat→Value),(∀r∈rs,r.length=z)→iP rs=true→(∀(j:Nat) (d:D),(eX rs n).flatten[j]? =some d→bU w σ d (vals j))→∃U,acK w σ z rs n (n+jU rs) vals U
 |[],n,z,vals,hz,hp,h=>⟨[],fun i o d h=>by simp[cellAt] at h,fun i o u h=>by simp[kD] at h,fun i o u h=>by simp[kD] at h,fun i o i' o' u u' b _ h=>by simp[kD] at h⟩
 |r::rs,n,z,vals,hz,hp,h=>by
  rw[iP,Bool.and_eq_true] at hp
  rw[eX,List.flatten_cons] at h
  have hrz:r.length=z:=hz r (by simp)
  obtain⟨us,ql⟩:=KW r n vals hp.1 fun j d hd=>h j d (by rw[List.getElem?_append_left (List.getElem?_eq_some_iff.1 hd).1];exact hd)
  obtain⟨U,hU⟩:=UY rs (n+nV r) z (fun j=>vals (z+j)) (fun r hr=>hz r (by simp[hr])) hp.2 fun j d hd=>h (z+j) d (by
   rw[List.getElem?_append_right (by rw[fP];omega),fP,hrz,Nat.add_sub_cancel_left];exact hd)
  rw[jU]
  have hown:∀(i o:Nat) (T:Value),kD U i o=some T→∀b,jM T b→nX w σ (n+nV r) (n+nV r+jU rs) b:=hU.own
  refine⟨us::U,fun i o d hd=> ?_,fun i o u hu=> ?_,fun i o T hT b hb=> ?_,fun i o i' o' T T' b YS hT hT' hb hb'=> ?_⟩
  ·cases i with
   |zero=>
    obtain⟨u,h1,h2⟩:=ql.cell o d hd
    exact⟨u,h1,by rw[Nat.zero_mul,Nat.zero_add];exact h2⟩
   |succ i=>
    obtain⟨u,h1,h2⟩:=hU.cell i o d hd
    exact⟨u,h1,by rw[show(i+1)*z+o=z+(i*z+o) by rw[Nat.add_mul];omega];exact h2⟩
  ·cases i with
   |zero=>
    rw[tY] at hu
    have ho:o<r.length:=by rw[←ql.len];exact(List.getElem?_eq_some_iff.1 hu).1
    obtain⟨u',h1,h2⟩:=ql.cell o r[o] (List.getElem?_eq_getElem ho)
    rw[hu] at h1;cases h1
    have hc:cellAt (r::rs) 0 o=some r[o]:=List.getElem?_eq_getElem ho
    rw[hc]
    generalize r[o]=d at h2
    cases d<;>first|exact⟨_,rfl⟩|(cases h2.1)
   |succ i=>exact hU.kid i o u hu
  ·cases i with
   |zero=>rw[tY] at hT;exact(ql.own o T hT b hb).mono (Nat.le_refl _) (by omega)
   |succ i=>exact(hown i o T hT b hb).mono (by omega) (by omega)
  ·cases i with
   |zero=>
    rw[tY] at hT
    cases i' with
    |zero=>rw[tY] at hT';exact ql.apart o o' T T' b (fun e=>YS (by rw[e])) hT hT' hb hb'
    |succ i'=>exact(ql.own o T hT b hb).apart (hown i' o' T' hT' b hb') (Nat.le_refl _)
   |succ i=>
    cases i' with
    |zero=>rw[tY] at hT';exact(ql.own o' T' hT' b hb').apart (hown i o T hT b hb) (Nat.le_refl _)
    |succ i'=>exact hU.apart i o i' o' T T' b (fun e=>YS (by cases e;rfl)) hT hT' hb hb'
end
end
end Go.Ab
namespace Go.Ab
section
variable {P:Program} {w w':World} {σ σ':Nat→Nat} {S:Store} {β:Hs}
def rM:D→List (List D)
 | .sl es=>es
 |_=>[]
def KX(k:Key)(j:Nat):D→C
 | .sl _=>.xp k j []
 |d=>.d d
def zk(k:Key):Nat→List D→List C
 |_,[]=>[]
 |j,d::ds=>KX k j d::zk k (j+1) ds
theorem rD{k:Key}:∀(j:Nat) (r:List D),(zk k j r).length=r.length
 |_,[]=>rfl
 |j,d::ds=>by rw[zk,List.length_cons,rD,List.length_cons]
theorem IV{k:Key}:∀(r:List D) (j i:Nat),(zk k j r)[i]? =(r[i]?).map (KX k (j+i))
 |[],j,i=>by simp[zk]
 |d::ds,j,0=>rfl
 |d::ds,j,i+1=>by
  rw[zk,List.getElem?_cons_succ,List.getElem?_cons_succ,IV ds (j+1) i,show j+1+i=j+(i+1) by omega]
def RX:C→C
 | .d x=>.d x
 | .aO es=>.d (.sl es)
 | .bL _ es=>.d (.sl es)
 | .iK n es=>.d (.ol n es)
 | .jL cs=>.jL cs
 |_=>.any
def RY:V→V
 | .c x=>.c (RX x)
 | .agg cs=>.agg (cs.map RX)
 |_=>.any
theorem JH{c:C}{v:Value}(h:fO w σ S β c v)(S':Store)(β':Hs):fO w σ S' β' (RX c) v:=by
 cases c with
 |d x=>exact h
 |aO es=>exact h.1
 |bL k es=>exact h.1
 |iK n es=>exact h.1
 |jL cs=>exact h
 |_=>trivial
theorem X7{x:V}{v:Value}(h:bR w σ S β x v)(S':Store)(β':Hs):bR w σ S' β' (RY x) v:=by
 cases x with
 |c x=>exact⟨JH h.1 _ _,h.2⟩
 |agg cs=>
  obtain⟨a,ha,hl,hc⟩:=h
  refine⟨a,ha,by rw[List.length_map];exact hl,fun i x hx=> ?_⟩
  rw[List.getElem?_map] at hx
  cases hi:cs[i]? with
  |none=>rw[hi] at hx;cases hx
  |some y=>
   rw[hi] at hx;cases hx
   obtain⟨u,q1,q2,q3⟩:=hc i y hi
   exact⟨u,q1,JH q2 _ _,q3⟩
 |_=>trivial
theorem Aw(hl:∀b,b<w.heap.size∨σ b=0)(hg:y7 w σ):dH w σ [] [] where
 p8:=hg
 obj:=fun k o h=>by rw[lK] at h;cases h
 apart:=fun k k' o o' h h' b h1=>by rw[lK] at h1;cases h1
 shape:=⟨rfl,fun l fr h=>by simp at h⟩
 live:=hl
theorem xk{β:Hs}{b:Nat}:¬Own [] β b:=fun⟨k,o,h,h1,_⟩=>by rw[lK] at h1;cases h1
def Gj(mk:List C→V)(m:Nat):Prop:=∀w σ S β cs v,cs.length=m→bR w σ S β (mk cs) v→∃vs,eU w σ S β cs vs∧∀w' σ' S' β' cs',cs'.length=m→eU w' σ' S' β' cs' vs→bR w' σ' S' β' (mk cs') v
theorem RZ{m:Nat}:Gj V.agg m:=fun w σ S β cs v _ ⟨a,ha,hc⟩=>⟨a.toList,hc,fun w' σ' S' β' cs' _ hc'=>⟨a,ha,hc'⟩⟩
def MI:C→Bool
 | .d d=>dI d
 |_=>false
theorem Gl{c:C}{v:Value}(h:MI c=true)(hr:fO w σ S β c v)(w':World)(σ':Nat→Nat)(S':Store)(β':Hs):fO w' σ' S' β' c v:=by
 cases c with
 |d d=>cases d<;>first|(cases h;done)|(cases hr;constructor)
 |_=>cases h
theorem R3{m:Nat}(xs:List C)(h:xs.all MI=true):Gj (fun cs=>.d9 ((true,cs)::xs.map fun x=>(false,[x]))) m:=by
 rintro w σ S β cs v _ ⟨a,ha,hl,hc⟩
 obtain⟨u,hu,a',rfl,hcs⟩:=hc 0 _ rfl
 refine⟨a'.toList,hcs,fun w' σ' S' β' cs' _ hc'=>⟨a,ha,hl,fun j y hy=> ?_⟩⟩
 cases j with
 |zero=>simp at hy;subst hy;exact⟨_,hu,a',rfl,hc'⟩
 |succ j=>
  rw[List.getElem?_cons_succ] at hy
  obtain⟨u,h1,h2⟩:=hc (j+1) y (by rw[List.getElem?_cons_succ];exact hy)
  refine⟨u,h1,?_⟩
  rw[List.getElem?_map] at hy
  cases hx:xs[j]? with
  |none=>rw[hx] at hy;cases hy
  |some x=>
   rw[hx] at hy;cases hy
   obtain⟨x',e,h3,h4⟩:=h2
   cases e
   exact⟨x,rfl,Gl (List.all_eq_true.1 h x (List.mem_of_getElem? hx)) h3 _ _ _ _,h4⟩
def qH:Value:=mkT (.slice none 0 0) []
theorem Cj(i o:Nat):kid qH i o=none:=by
 unfold qH
 rw[IU (fun i o u h=>by simp[kD] at h)];simp[kD]
theorem qR{b:Nat}:¬jM qH b:=fun h=>by
 cases h with
 |here h1 h2=>cases h1
 |kid h1 h2=>rw[Cj] at h1;cases h1
theorem EP(σ:Nat→Nat):∀n:Nat,∃m,∀b,b<n→σ b≤m
 |0=>⟨0,fun b h=>by omega⟩
 |n+1=>by
  obtain⟨m,hm⟩:=EP σ n
  refine⟨max m (σ n),fun b hb=> ?_⟩
  by_cases e:b=n
  ·subst e;omega
  ·have:=hm b (by omega);omega
open Classical in
theorem bD.own{f:FuncId}{args:List V}{bf:List Obj}{Ω:Store}{mk:List C→V}{r:List D}(hm:Gj mk r.length)(hp:iC r=true)
 (h:∀n,aI P f (args.map RY) (mk ((eH r n).map .d))):
 bD P f args (bf::Ω) (fun r' S'=>r'=mk (zk (0,bf.length) 0 r)∧S'=(bf++[.xf (r.map rM)])::Ω):=by
 refine⟨(h 0 []).1,fun w σ β vs hS hargs=> ?_⟩
 obtain⟨n,hn⟩:=EP σ w.heap.size
 have UZ:lu w σ [] [] (args.map RY) vs:=by
  refine⟨by rw[List.length_map];exact hargs.1,fun j x hx=> ?_⟩
  rw[List.getElem?_map] at hx
  cases ha:args[j]? with
  |none=>rw[ha] at hx;cases hx
  |some y=>
   rw[ha] at hx;cases hx
   obtain⟨v,h1,h2⟩:=hargs.2 j y ha
   exact⟨v,h1,X7 h2 _ _⟩
 refine((h n []).2 w σ [] vs (Aw hS.live hS.p8) UZ).mono fun e w' ⟨v,r',S',σ',β',he,hS',hk,hst,hv,hr',hS2⟩=> ?_
 subst hr';subst hS2
 obtain⟨MJ,hcs,hback⟩:=hm w' σ' _ β' _ v (by rw[List.length_map,fP]) hv
 have X8:MJ.length=r.length:=by rw[←hcs.1,List.length_map,fP]
 obtain⟨us,ql⟩:=KW r n (fun j=>MJ.getD j undef) hp (fun j d hd=>by
  obtain⟨u,h1,h2,_⟩:=hcs.2 j (.d d) (by rw[List.getElem?_map,hd];rfl)
  simp only[List.getD_eq_getElem?_getD,h1,Option.getD_some]
  exact h2)
 let h0:Value:=.tuple (us.map fun u=>u.getD qH).toArray
 have hroot:∀j,qo h0 j=(us[j]?).map fun u=>u.getD qH:=fun j=>by simp[h0,qo]
 have hfresh:∀b,gM h0 b→w.heap.size≤b:=by
  rintro b ⟨j,T,h1,h2⟩
  rw[hroot] at h1
  cases hu:us[j]? with
  |none=>rw[hu] at h1;cases h1
  |some u=>
   rw[hu] at h1
   simp only[Option.map_some,Option.some.injEq] at h1
   cases u with
   |none=>subst h1;exact absurd h2 qR
   |some u=>
    simp at h1;subst h1
    obtain⟨c,t,fz,m,a1,a2,a3,a4⟩:=ql.own j u hu b h2
    refine Nat.le_of_not_lt fun hlt=> ?_
    have h1:=(hst.far b hlt xk).2
    have h2:=hn b hlt
    omega
 let σ2:Nat→Nat:=fun b=>if gM h0 b then 0 else σ' b
 have hg:Grow w σ w' σ2:=⟨hst.size,hst.os,hst.output,fun b hb=>by
  obtain⟨h1,h2⟩:=hst.far b hb xk
  exact⟨h1,(if_neg fun hx=>by have:=hfresh b hx;omega).trans h2⟩,fun b=>by
  rcases hS'.live b with hb|hb
  ·exact .inl hb
  ·right;show(if gM h0 b then 0 else σ' b)=0;rw[hb];split<;>rfl⟩
 cases β with
 |nil=>have:=hS.shape.1;simp at this
 |cons bo bΩ=>
 have hlen:bo.length=bf.length:=by
  obtain⟨gr,g1,g2⟩:=hS.shape.2 0 bf rfl
  simp at g1;rw[g1];exact g2
 obtain⟨hS3,hk3,X9⟩:=hS.push (o:=.xf (r.map rM)) (h:=h0) hg hlen (by
  refine⟨fun j es hj=> ?_,fun j T hT=> ?_,fun b hb=>if_pos hb,fun j j' T T' x hjj hT hT' hx hx'=> ?_⟩
  ·rw[List.getElem?_map] at hj
   cases hd:r[j]? with
   |none=>rw[hd] at hj;cases hj
   |some d=>
    rw[hd] at hj
    simp only[Option.map_some,Option.some.injEq] at hj
    subst hj
    obtain⟨u,h1,h2⟩:=ql.cell j d hd
    rw[hroot,h1]
    have hsc:(∀es,d≠ .sl es)→∃T,Option.map (fun u=>Option.getD u qH) (some u)=some T∧mR w' (rM d) T:=fun hne=>by
     have hu:u=none:=by cases d<;>first|exact absurd rfl (hne _)|exact h2.1
     have hr0:rM d=[]:=by cases d<;>first|exact absurd rfl (hne _)|rfl
     subst hu
     rw[hr0]
     exact⟨qH,rfl,.nil none 0 _ rfl Cj⟩
    cases d with
    |sl es=>obtain⟨T,rfl,_,_,h6⟩:=h2;exact⟨T,rfl,h6⟩
    |_=>exact hsc (fun es e=>by cases e)
  ·rw[List.length_map]
   rw[hroot] at hT
   cases hu:us[j]? with
   |none=>rw[hu] at hT;cases hT
   |some u=>rw[←ql.len];exact(List.getElem?_eq_some_iff.1 hu).1
  ·rw[hroot] at hT hT'
   cases hu:us[j]? with
   |none=>rw[hu] at hT;cases hT
   |some u=>
    cases hu':us[j']? with
    |none=>rw[hu'] at hT';cases hT'
    |some u'=>
     rw[hu] at hT;rw[hu'] at hT'
     simp only[Option.map_some,Option.some.injEq] at hT hT'
     cases u with
     |none=>subst hT;exact qR hx
     |some u=>
      cases u' with
      |none=>subst hT';exact qR hx'
      |some u'=>simp at hT hT';subst hT;subst hT';exact ql.apart j j' u u' x hjj hu hu' hx hx') (fun b hb=>hfresh b hb)
 refine⟨v,_,_,σ2,(bo++[h0])::bΩ,he,hS3,hk3,X9,?_,rfl,rfl⟩
 refine hback _ _ _ _ _ (by rw[rD]) ⟨by rw[rD,X8],fun j x hx=> ?_⟩
 rw[IV,Nat.zero_add] at hx
 cases hd:r[j]? with
 |none=>rw[hd] at hx;cases hx
 |some d=>
  rw[hd] at hx
  simp only[Option.map_some,Option.some.injEq] at hx
  obtain⟨u,h1,h2⟩:=ql.cell j d hd
  have hjl:j<(eH r n).length:=by rw[fP];exact(List.getElem?_eq_some_iff.1 hd).1
  obtain⟨v0,h3,_,h4⟩:=hcs.2 j (.d (eH r n)[j]) (by rw[List.getElem?_map,List.getElem?_eq_getElem hjl];rfl)
  have hv0:MJ.getD j undef=v0:=by rw[List.getD_eq_getElem?_getD,h3];rfl
  simp only[hv0] at h2
  refine⟨v0,h3,?_,h4⟩
  have hsc:(∀es,d≠ .sl es)→fO w' σ2 ((bf++[.xf (r.map rM)])::Ω) ((bo++[h0])::bΩ) (.d d) v0:=fun hne=>by
   have:SD d v0:=by cases d<;>first|exact absurd rfl (hne _)|exact h2.2
   exact FH this
  cases d with
  |sl es=>
   subst hx
   obtain⟨T,rfl,_,h5,_⟩:=h2
   refine⟨_,bM _ _ _,fun rs _=>⟨h0,by rw[←hlen,bM],?_⟩⟩
   unfold wQ
   rw[hroot,h1]
   exact h5
  |_=>subst hx;exact hsc (fun es e=>by cases e)
end
end Go.Ab
namespace Go.Ab
section
variable {P:Program} {w w':World} {σ σ':Nat→Nat} {S:Store} {β:Hs}
def abA(r:V):Prop:=∀w σ σ2 S β S2 β2 v,(∀b c t fz,w.heap[b]? =some (.cells c t fz)→c.size<σ b→σ2 b=σ b)→bR w σ S β r v→bR w σ2 S2 β2 r v
mutual
theorem aeL{σ2:Nat→Nat}(hs:∀b c t fz,w.heap[b]? =some (.cells c t fz)→c.size<σ b→σ2 b=σ b):∀(d:D) (n:Nat) (v:Value),ow d=true→bU w σ (lX d n) v→bU w σ2 (lX d n) v
 | .sl es,n,v,hp,h=>by
   rw[lX] at h ⊢
   have hrec:=YT hs es (n+1)
   generalize eX es (n+1)=q at h hrec ⊢
   cases h with
   |qm n a cap=>exact .qm n a cap
   |ol n b off cap z q vals c t hcap hlen hb hσ hfit hc hv=>exact .ol n b off cap z q vals c t hcap hlen hb ((hs b c t _ hb (by omega)).trans hσ) hfit hc (hrec vals (by simpa [ow] using hp) hv)
 | .ol m es,n,v,hp,h=>by simp[ow] at hp
 | .b x,n,v,hp,h=>by rw[lX] at h ⊢;cases h;constructor
 | .i k x,n,v,hp,h=>by rw[lX] at h ⊢;cases h;constructor
 | .s l,n,v,hp,h=>by rw[lX] at h ⊢;cases h;constructor
 | .o u,n,v,hp,h=>by simp[ow] at hp
theorem abB{σ2:Nat→Nat}(hs:∀b c t fz,w.heap[b]? =some (.cells c t fz)→c.size<σ b→σ2 b=σ b):∀(r:List D) (n:Nat) (vals:Nat→Value),iC r=true→(∀(j:Nat) (d:D),(eH r n)[j]? =some d→bU w σ d (vals j))→
 ∀(j:Nat) (d:D),(eH r n)[j]? =some d→bU w σ2 d (vals j)
 |[],n,vals,hp,h,j,d,hd=>by simp[eH] at hd
 |a::r,n,vals,hp,h,j,d,hd=>by
  rw[iC,Bool.and_eq_true] at hp
  rw[eH] at h hd
  cases j with
  |zero=>
   simp at hd;subst hd
   exact aeL hs a n _ hp.1 (h 0 _ rfl)
  |succ j=>exact abB hs r (n+nU a) (fun i=>vals (i+1)) hp.2 (fun i d hi=>h (i+1) d hi) j d hd
theorem YT{σ2:Nat→Nat}(hs:∀b c t fz,w.heap[b]? =some (.cells c t fz)→c.size<σ b→σ2 b=σ b):∀(rs:List (List D)) (n:Nat) (vals:Nat→Value),iP rs=true→(∀(j:Nat) (d:D),(eX rs n).flatten[j]? =some d→bU w σ d (vals j))→
 ∀(j:Nat) (d:D),(eX rs n).flatten[j]? =some d→bU w σ2 d (vals j)
 |[],n,vals,hp,h,j,d,hd=>by simp[eX] at hd
 |r::rs,n,vals,hp,h,j,d,hd=>by
  rw[iP,Bool.and_eq_true] at hp
  rw[eX,List.flatten_cons] at h hd
  by_cases hj:j<(eH r n).length
  ·rw[List.getElem?_append_left hj] at hd
   exact abB hs r n vals hp.1 (fun j d hd=>h j d (by rw[List.getElem?_append_left (List.getElem?_eq_some_iff.1 hd).1];exact hd)) j d hd
  ·rw[List.getElem?_append_right (by omega)] at hd
   have:=YT hs rs (n+nV r) (fun i=>vals ((eH r n).length+i)) hp.2 (fun j d hd=>h _ d (by rw[List.getElem?_append_right (by omega),Nat.add_sub_cancel_left];exact hd)) (j-(eH r n).length) d hd
   rwa [show(eH r n).length+(j-(eH r n).length)=j by omega] at this
end
theorem Ay{c:C}(h:MI c=true):abA (.c c):=fun w σ σ2 S β S2 β2 v _ hv=>⟨Gl h hv.1 _ _ _ _,hv.2⟩
theorem mR.data{es:List (List D)}{T v:Value}(h:mR w es T)(hv:hdr T=some v)(hσ:∀b c t fz,jM T b→w.heap[b]? =some (.cells c t fz)→c.size≤σ b):bU w σ (.sl es) v:=by
 induction h generalizing v with
 |nil a cap T h hk=>rw[h] at hv;cases hv;exact .nil a cap
 |mk b off cap z es T c t vals kids hh hne hcap hlen hb hfit hc hs hk hx hself hap pY ih=>
  rw[hh] at hv;cases hv
  have hpos:0<es.length:=List.length_pos_iff.2 hne
  have hfl:=jO es z hlen
  have hidx:∀j,j<es.length*z→∃hi:j/z<es.length,j % z<z∧j/z*z+j % z=j:=fun j hj=>by
   have hz:0<z:=by rcases Nat.eq_zero_or_pos z with h|h;·rw[h] at hj;simp at hj
                   ·exact h
   exact⟨(Nat.div_lt_iff_lt_mul hz).2 hj,Nat.mod_lt _ hz,by rw[Nat.mul_comm];exact Nat.div_add_mod j z⟩
  have hcell:∀j d,es.flatten[j]? =some d→∃hi:j/z<es.length,cellAt es (j/z) (j % z)=some d∧j/z*z+j % z=j:=fun j d hd=>by
   have hj:j<es.length*z:=by rw[←hfl];exact(List.getElem?_eq_some_iff.1 hd).1
   obtain⟨hi,hm,he⟩:=hidx j hj
   refine⟨hi,?_,he⟩
   have:=flat_get es z hlen (j/z) (j % z) hi hm
   rw[he,hd] at this
   unfold cellAt
   rw[List.getElem?_eq_getElem hi]
   exact this.symm
  refine .sl b off cap z es (fun j=>vals (j/z) (j % z)) c t (0,0) hcap hlen hb (Nat.le_trans hfit (hσ b c t _ (.here hh hpos) hb)) (fun j hj=> ?_) (fun j d hd=> ?_)
  ·obtain⟨hi,hce,he⟩:=hcell j _ (List.getElem?_eq_getElem (by rw[hfl];exact hj))
   have:=hc _ _ _ hce
   rwa [he] at this
  ·obtain⟨hi,hce,he⟩:=hcell j d hd
   rcases hs _ _ _ hce with⟨es',rfl⟩|hsd
   ·obtain⟨k1,k2⟩:=hk _ _ _ hce
    exact ih _ _ _ hce k2 fun b' c' t' Li ho hb'=>hσ b' c' t' Li (.kid k1 ho) hb'
   ·exact FH hsd
def DI(k:Key)(rs:List (List (List D))):C→C
 | .xp k' r []=>if k'=k then(match rs[r]? with|some es=>.d (.sl es)|none=>.any) else .any
 | .d x=>.d x
 |_=>.any
def Gm(k:Key)(rs:List (List (List D))):V→V
 | .c x=>.c (DI k rs x)
 | .agg cs=>.agg (cs.map (DI k rs))
 |_=>.any
open Classical in
theorem bD.lend{f:FuncId}{args:List V}{k:Key}{rs:List (List (List D))}{r:V}(hk:aU S k=some (.xf rs))(hr:abA r)(h:aI P f (args.map (Gm k rs)) r):bD P f args S (fun r' S'=>r'=r∧S'=S):=by
 refine⟨(h S).1,fun w σ β vs hS hargs=> ?_⟩
 obtain⟨hh,hb,wz⟩:=hS.obj k _ hk
 obtain⟨hX1,hX2,Bo,PS⟩:=wz
 let vQ:Nat→Nat:=fun b=>match w.heap[b]? with
  |some (.cells c _ _)=>c.size
  |_=>0
 have MK:∀b c t fz,w.heap[b]? =some (.cells c t fz)→vQ b=c.size:=fun b c t fz e=>by simp[vQ,e]
 have hXlt:∀b,gM hh b→b<w.heap.size:=fun b hb'=>uq (o:=.xf rs) (S:=S) (β:=β) ⟨hX1,hX2,Bo,PS⟩ hb'
 let σ1:Nat→Nat:=fun b=>if gM hh b then vQ b else σ b
 have hn1:eu w σ w σ1:=fun b c t fz e=>by
  refine⟨?_,fun hlt=> ?_,c,e,rfl,fun _ _=>rfl⟩
  ·show σ b≤if gM hh b then vQ b else σ b
   split
   ·rename_i hx;rw[Bo b hx];exact Nat.zero_le _
   ·exact Nat.le_refl _
  ·show(if gM hh b then vQ b else σ b)=σ b
   rw[if_neg fun hx=>by have:=Bo b hx;omega]
 have hS1:dH w σ1 [] []:=by
  refine Aw (fun b=> ?_) (hS.p8.near hn1)
  by_cases hx:gM hh b
  ·exact .inl (hXlt b hx)
  ·rcases hS.live b with h'|h'
   ·exact .inl h'
   ·right;show(if gM hh b then vQ b else σ b)=0;rw[if_neg hx];exact h'
 have hlc:∀c v,fO w σ S β c v→fO w σ1 [] [] (DI k rs c) v:=by
  intro c v hc
  unfold DI
  split
  ·rename_i k' r'
   split
   ·rename_i e
    subst e
    split
    ·rename_i es hes
     obtain⟨o,ho,h2⟩:=hc
     rw[hk] at ho;cases ho
     obtain⟨h',e1,e2⟩:=h2 rs rfl
     rw[hb] at e1;cases e1
     obtain⟨T,q1,q2⟩:=hX1 r' es hes
     unfold wQ at e2
     rw[q1] at e2
     refine q2.data e2 fun b c t fz ho hb'=> ?_
     show c.size≤if gM hh b then vQ b else σ b
     rw[if_pos ⟨r',T,q1,ho⟩,MK b c t fz hb']
     exact Nat.le_refl _
    ·trivial
   ·trivial
  ·exact bU.mono hn1 hc
  ·trivial
 have Ck:lu w σ1 [] [] (args.map (Gm k rs)) vs:=by
  refine⟨by rw[List.length_map];exact hargs.1,fun j x hx=> ?_⟩
  rw[List.getElem?_map] at hx
  cases ha:args[j]? with
  |none=>rw[ha] at hx;cases hx
  |some y=>
   rw[ha] at hx;cases hx
   obtain⟨v,h1,h2⟩:=hargs.2 j y ha
   refine⟨v,h1,?_⟩
   cases y with
   |c x=>exact⟨hlc x v h2.1,h2.2⟩
   |agg cs=>
    obtain⟨a,e,hl,hc⟩:=h2
    refine⟨a,e,by rw[List.length_map];exact hl,fun i x hx=> ?_⟩
    rw[List.getElem?_map] at hx
    cases hi:cs[i]? with
    |none=>rw[hi] at hx;cases hx
    |some y=>
     rw[hi] at hx;cases hx
     obtain⟨u,q1,q2,q3⟩:=hc i y hi
     exact⟨u,q1,hlc y u q2,q3⟩
   |_=>trivial
 refine((h []).2 w σ1 [] vs hS1 Ck).mono fun e w' ⟨v,r',S',σ',β',he,hS',hk',hst,hv,hr',hS2⟩=> ?_
 subst hr';subst hS2
 let σ2:Nat→Nat:=fun b=>if gM hh b then 0 else σ' b
 have hg:Grow w σ w' σ2:=⟨hst.size,hst.os,hst.output,fun b hlt=>by
  obtain⟨h1,h2⟩:=hst.far b hlt xk
  refine⟨h1,?_⟩
  show(if gM hh b then 0 else σ' b)=σ b
  by_cases hx:gM hh b
  ·rw[if_pos hx,Bo b hx]
  ·rw[if_neg hx,h2]
   exact if_neg hx,fun b=>by
  rcases hS'.live b with h'|h'
  ·exact .inl h'
  ·right;show(if gM hh b then 0 else σ' b)=0;rw[h'];split<;>rfl⟩
 refine⟨v,_,_,σ2,β,he,hS.grow hg,Keep.refl _ _,Step.kF hg,?_,rfl,rfl⟩
 refine hr w' σ' σ2 _ _ _ _ v (fun b c t fz e hlt=> ?_) hv
 by_cases hx:gM hh b
 ·obtain⟨h1,h2⟩:=hst.far b (hXlt b hx) xk
  rw[h1] at e
  have:σ1 b=vQ b:=if_pos hx
  rw[h2,this,MK b c t fz e] at hlt
  omega
 ·exact if_neg hx
end
end Go.Ab
namespace Go.Ab
section
variable {P:Program} {w w':World} {σ σ':Nat→Nat} {S:Store} {β:Hs}
open Classical in
theorem R4{args:List V}{k:Key}{rs:List (List (List D))}(hk:aU S k=some (.xf rs)){vs:List Value}(hS:dH w σ S β)(hargs:lu w σ S β args vs):
 ∃(σ1:Nat→Nat) (X:Nat→Prop),(∀b,¬X b→σ1 b=σ b)∧(∀b,X b→σ b=0∧b<w.heap.size)∧(∀b c t fz,X b→w.heap[b]? =some (.cells c t fz)→σ1 b≤c.size)∧dH w σ1 [] []∧lu w σ1 [] [] (args.map (Gm k rs)) vs:=by
 obtain⟨hh,hb,wz⟩:=hS.obj k _ hk
 obtain⟨hX1,hX2,Bo,PS⟩:=wz
 let vQ:Nat→Nat:=fun b=>match w.heap[b]? with
  |some (.cells c _ _)=>c.size
  |_=>0
 have MK:∀b c t fz,w.heap[b]? =some (.cells c t fz)→vQ b=c.size:=fun b c t fz e=>by simp[vQ,e]
 have hXlt:∀b,gM hh b→b<w.heap.size:=fun b hb'=>uq (o:=.xf rs) (S:=S) (β:=β) ⟨hX1,hX2,Bo,PS⟩ hb'
 let σ1:Nat→Nat:=fun b=>if gM hh b then vQ b else σ b
 have hn1:eu w σ w σ1:=fun b c t fz e=>by
  refine⟨?_,fun hlt=> ?_,c,e,rfl,fun _ _=>rfl⟩
  ·show σ b≤if gM hh b then vQ b else σ b
   split
   ·rename_i hx;rw[Bo b hx];exact Nat.zero_le _
   ·exact Nat.le_refl _
  ·show(if gM hh b then vQ b else σ b)=σ b
   rw[if_neg fun hx=>by have:=Bo b hx;omega]
 have hS1:dH w σ1 [] []:=by
  refine Aw (fun b=> ?_) (hS.p8.near hn1)
  by_cases hx:gM hh b
  ·exact .inl (hXlt b hx)
  ·rcases hS.live b with h'|h'
   ·exact .inl h'
   ·right;show(if gM hh b then vQ b else σ b)=0;rw[if_neg hx];exact h'
 have hlc:∀c v,fO w σ S β c v→fO w σ1 [] [] (DI k rs c) v:=by
  intro c v hc
  unfold DI
  split
  ·rename_i k' r'
   split
   ·rename_i e
    subst e
    split
    ·rename_i es hes
     obtain⟨o,ho,h2⟩:=hc
     rw[hk] at ho;cases ho
     obtain⟨h',e1,e2⟩:=h2 rs rfl
     rw[hb] at e1;cases e1
     obtain⟨T,q1,q2⟩:=hX1 r' es hes
     unfold wQ at e2
     rw[q1] at e2
     refine q2.data e2 fun b c t fz ho hb'=> ?_
     show c.size≤if gM hh b then vQ b else σ b
     rw[if_pos ⟨r',T,q1,ho⟩,MK b c t fz hb']
     exact Nat.le_refl _
    ·trivial
   ·trivial
  ·exact bU.mono hn1 hc
  ·trivial
 have Ck:lu w σ1 [] [] (args.map (Gm k rs)) vs:=by
  refine⟨by rw[List.length_map];exact hargs.1,fun j x hx=> ?_⟩
  rw[List.getElem?_map] at hx
  cases ha:args[j]? with
  |none=>rw[ha] at hx;cases hx
  |some y=>
   rw[ha] at hx;cases hx
   obtain⟨v,h1,h2⟩:=hargs.2 j y ha
   refine⟨v,h1,?_⟩
   cases y with
   |c x=>exact⟨hlc x v h2.1,h2.2⟩
   |agg cs=>
    obtain⟨a,e,hl,hc⟩:=h2
    refine⟨a,e,by rw[List.length_map];exact hl,fun i x hx=> ?_⟩
    rw[List.getElem?_map] at hx
    cases hi:cs[i]? with
    |none=>rw[hi] at hx;cases hx
    |some y=>
     rw[hi] at hx;cases hx
     obtain⟨u,q1,q2,q3⟩:=hc i y hi
     exact⟨u,q1,hlc y u q2,q3⟩
   |_=>trivial
 exact⟨σ1,fun b=>gM hh b,fun b hx=>if_neg hx,fun b hx=>⟨Bo b hx,hXlt b hx⟩,fun b c t fz hx e=>by
  show(if gM hh b then vQ b else σ b)≤c.size
  rw[if_pos hx,MK b c t fz e]
  exact Nat.le_refl _,hS1,Ck⟩
open Classical in
theorem bD.aeM{f:FuncId}{args:List V}{bf:List Obj}{Ω:Store}{mk:List C→V}{r:List D}{k:Key}{rs:List (List (List D))}(hk:aU (bf::Ω) k=some (.xf rs))(hm:Gj mk r.length)(hp:iC r=true)
 (h:∀n,aI P f (args.map (Gm k rs)) (mk ((eH r n).map .d))):
 bD P f args (bf::Ω) (fun r' S'=>r'=mk (zk (0,bf.length) 0 r)∧S'=(bf++[.xf (r.map rM)])::Ω):=by
 refine⟨(h 0 []).1,fun w σ β vs hS hargs=> ?_⟩
 obtain⟨σ1,X,hl1,hl2,hl3,hS1,Ck⟩:=R4 hk hS hargs
 obtain⟨n,hn⟩:=EP σ1 w.heap.size
 refine((h n []).2 w σ1 [] vs hS1 Ck).mono fun e w' ⟨v,r',S',σ',β',he,hS',hk,hst,hv,hr',hS2⟩=> ?_
 subst hr';subst hS2
 obtain⟨MJ,hcs,hback⟩:=hm w' σ' _ β' _ v (by rw[List.length_map,fP]) hv
 have X8:MJ.length=r.length:=by rw[←hcs.1,List.length_map,fP]
 obtain⟨us,ql⟩:=KW r n (fun j=>MJ.getD j undef) hp (fun j d hd=>by
  obtain⟨u,h1,h2,_⟩:=hcs.2 j (.d d) (by rw[List.getElem?_map,hd];rfl)
  simp only[List.getD_eq_getElem?_getD,h1,Option.getD_some]
  exact h2)
 let h0:Value:=.tuple (us.map fun u=>u.getD qH).toArray
 have hroot:∀j,qo h0 j=(us[j]?).map fun u=>u.getD qH:=fun j=>by simp[h0,qo]
 have hfresh:∀b,gM h0 b→w.heap.size≤b:=by
  rintro b ⟨j,T,h1,h2⟩
  rw[hroot] at h1
  cases hu:us[j]? with
  |none=>rw[hu] at h1;cases h1
  |some u=>
   rw[hu] at h1
   simp only[Option.map_some,Option.some.injEq] at h1
   cases u with
   |none=>subst h1;exact absurd h2 qR
   |some u=>
    simp at h1;subst h1
    obtain⟨c,t,fz,m,a1,a2,a3,a4⟩:=ql.own j u hu b h2
    refine Nat.le_of_not_lt fun hlt=> ?_
    have h1:=(hst.far b hlt xk).2
    have h2:=hn b hlt
    omega
 let σ2:Nat→Nat:=fun b=>if gM h0 b then 0 else if X b then 0 else σ' b
 have hg:Grow w σ w' σ2:=⟨hst.size,hst.os,hst.output,fun b hb=>by
  obtain⟨h1,h2⟩:=hst.far b hb xk
  refine⟨h1,(if_neg fun hx=>by have:=hfresh b hx;omega).trans ?_⟩
  by_cases hx:X b
  ·rw[if_pos hx,(hl2 b hx).1]
  ·rw[if_neg hx,h2,hl1 b hx],fun b=>by
  rcases hS'.live b with hb|hb
  ·exact .inl hb
  ·right;show(if gM h0 b then 0 else if X b then 0 else σ' b)=0;rw[hb];split<;>first|rfl|(split<;>rfl)⟩
 cases β with
 |nil=>have:=hS.shape.1;simp at this
 |cons bo bΩ=>
 have hlen:bo.length=bf.length:=by
  obtain⟨gr,g1,g2⟩:=hS.shape.2 0 bf rfl
  simp at g1;rw[g1];exact g2
 obtain⟨hS3,hk3,X9⟩:=hS.push (o:=.xf (r.map rM)) (h:=h0) hg hlen (by
  refine⟨fun j es hj=> ?_,fun j T hT=> ?_,fun b hb=>if_pos hb,fun j j' T T' x hjj hT hT' hx hx'=> ?_⟩
  ·rw[List.getElem?_map] at hj
   cases hd:r[j]? with
   |none=>rw[hd] at hj;cases hj
   |some d=>
    rw[hd] at hj
    simp only[Option.map_some,Option.some.injEq] at hj
    subst hj
    obtain⟨u,h1,h2⟩:=ql.cell j d hd
    rw[hroot,h1]
    have hsc:(∀es,d≠ .sl es)→∃T,Option.map (fun u=>Option.getD u qH) (some u)=some T∧mR w' (rM d) T:=fun hne=>by
     have hu:u=none:=by cases d<;>first|exact absurd rfl (hne _)|exact h2.1
     have hr0:rM d=[]:=by cases d<;>first|exact absurd rfl (hne _)|rfl
     subst hu
     rw[hr0]
     exact⟨qH,rfl,.nil none 0 _ rfl Cj⟩
    cases d with
    |sl es=>obtain⟨T,rfl,_,_,h6⟩:=h2;exact⟨T,rfl,h6⟩
    |_=>exact hsc (fun es e=>by cases e)
  ·rw[List.length_map]
   rw[hroot] at hT
   cases hu:us[j]? with
   |none=>rw[hu] at hT;cases hT
   |some u=>rw[←ql.len];exact(List.getElem?_eq_some_iff.1 hu).1
  ·rw[hroot] at hT hT'
   cases hu:us[j]? with
   |none=>rw[hu] at hT;cases hT
   |some u=>
    cases hu':us[j']? with
    |none=>rw[hu'] at hT';cases hT'
    |some u'=>
     rw[hu] at hT;rw[hu'] at hT'
     simp only[Option.map_some,Option.some.injEq] at hT hT'
     cases u with
     |none=>subst hT;exact qR hx
     |some u=>
      cases u' with
      |none=>subst hT';exact qR hx'
      |some u'=>simp at hT hT';subst hT;subst hT';exact ql.apart j j' u u' x hjj hu hu' hx hx') (fun b hb=>hfresh b hb)
 refine⟨v,_,_,σ2,(bo++[h0])::bΩ,he,hS3,hk3,X9,?_,rfl,rfl⟩
 refine hback _ _ _ _ _ (by rw[rD]) ⟨by rw[rD,X8],fun j x hx=> ?_⟩
 rw[IV,Nat.zero_add] at hx
 cases hd:r[j]? with
 |none=>rw[hd] at hx;cases hx
 |some d=>
  rw[hd] at hx
  simp only[Option.map_some,Option.some.injEq] at hx
  obtain⟨u,h1,h2⟩:=ql.cell j d hd
  have hjl:j<(eH r n).length:=by rw[fP];exact(List.getElem?_eq_some_iff.1 hd).1
  obtain⟨v0,h3,_,h4⟩:=hcs.2 j (.d (eH r n)[j]) (by rw[List.getElem?_map,List.getElem?_eq_getElem hjl];rfl)
  have hv0:MJ.getD j undef=v0:=by rw[List.getD_eq_getElem?_getD,h3];rfl
  simp only[hv0] at h2
  refine⟨v0,h3,?_,h4⟩
  have hsc:(∀es,d≠ .sl es)→fO w' σ2 ((bf++[.xf (r.map rM)])::Ω) ((bo++[h0])::bΩ) (.d d) v0:=fun hne=>by
   have:SD d v0:=by cases d<;>first|exact absurd rfl (hne _)|exact h2.2
   exact FH this
  cases d with
  |sl es=>
   subst hx
   obtain⟨T,rfl,_,h5,_⟩:=h2
   refine⟨_,bM _ _ _,fun rs _=>⟨h0,by rw[←hlen,bM],?_⟩⟩
   unfold wQ
   rw[hroot,h1]
   exact h5
  |_=>subst hx;exact hsc (fun es e=>by cases e)
theorem ML:∀{p:List (Nat×Nat)} {es old new:List (List D)},qY es p=some old→qY (nD es p new) p=some new
 |[],_,_,_,_=>rfl
 |(i,o)::p,es,old,new,h=>by
  rw[qY] at h
  rw[nD]
  cases hc:cellAt es i o with
  |none=>rw[hc] at h;cases h
  |some d=>
   rw[hc] at h
   cases d with
   |sl es'=>
    simp only at h ⊢
    have hi:i<es.length∧o<(es.getD i []).length:=by
     unfold cellAt at hc
     cases he:es[i]? with
     |none=>rw[he] at hc;cases hc
     |some r=>
      rw[he] at hc
      refine⟨(List.getElem?_eq_some_iff.1 he).1,?_⟩
      rw[List.getD_eq_getElem?_getD,he]
      exact(List.getElem?_eq_some_iff.1 hc).1
    have h2:cellAt (es.set i ((es.getD i []).set o (.sl (nD es' p new)))) i o=some (.sl (nD es' p new)):=by
     unfold cellAt
     rw[List.getElem?_set_self hi.1,Option.bind_some,List.getElem?_set_self hi.2]
    rw[qY,h2]
    exact ML h
   |_=>cases h
theorem uO{es es' new:List (List D)}{i o:Nat}{p:List (Nat×Nat)}(h:cellAt es i o=some (.sl es')):nD es ((i,o)::p) new=es.set i ((es.getD i []).set o (.sl (nD es' p new))):=by
 rw[nD,h]
theorem JI:∀{p:List (Nat×Nat)} {es old a b:List (List D)},qY es p=some old→nD (nD es p a) p b=nD es p b
 |[],_,_,_,_,_=>rfl
 |(i,o)::p,es,old,a,b,h=>by
  rw[qY] at h
  cases hc:cellAt es i o with
  |none=>rw[hc] at h;cases h
  |some d=>
   rw[hc] at h
   cases d with
   |sl es'=>
    simp only at h ⊢
    have hi:i<es.length∧o<(es.getD i []).length:=by
     unfold cellAt at hc
     cases he:es[i]? with
     |none=>rw[he] at hc;cases hc
     |some r=>
      rw[he] at hc
      refine⟨(List.getElem?_eq_some_iff.1 he).1,?_⟩
      rw[List.getD_eq_getElem?_getD,he]
      exact(List.getElem?_eq_some_iff.1 hc).1
    have h2:cellAt (es.set i ((es.getD i []).set o (.sl (nD es' p a)))) i o=some (.sl (nD es' p a)):=by
     unfold cellAt
     rw[List.getElem?_set_self hi.1,Option.bind_some,List.getElem?_set_self hi.2]
    rw[uO hc,uO hc,uO h2,JI h,List.set_set]
    congr 1
    rw[List.getD_eq_getElem?_getD,List.getElem?_set_self hi.1,Option.getD_some,List.set_set]
   |_=>cases h
theorem MN:∀{p:List (Nat×Nat)} {es old es':List (List D)} {i o:Nat},qY es p=some old→cellAt old i o=some (.sl es')→qY es (p++[(i,o)])=some es'
 |[],es,old,es',i,o,h,hc=>by cases h;rw[List.nil_append,qY,hc];rfl
 |(i',o')::p,es,old,es',i,o,h,hc=>by
  rw[List.cons_append,qY]
  rw[qY] at h
  cases hd:cellAt es i' o' with
  |none=>rw[hd] at h;cases h
  |some d=>
   rw[hd] at h
   cases d with
   |sl e=>exact MN h hc
   |_=>cases h
theorem JJ:∀{p:List (Nat×Nat)} {es old es' new:List (List D)} {i o:Nat},qY es p=some old→cellAt old i o=some (.sl es')→nD es (p++[(i,o)]) new=nD es p (old.set i ((old.getD i []).set o (.sl new)))
 |[],es,old,es',new,i,o,h,hc=>by cases h;rw[List.nil_append,uO hc];rfl
 |(i',o')::p,es,old,es',new,i,o,h,hc=>by
  rw[List.cons_append]
  rw[qY] at h
  cases hd:cellAt es i' o' with
  |none=>rw[hd] at h;cases h
  |some d=>
   rw[hd] at h
   cases d with
   |sl e=>simp only at h;rw[uO hd,uO hd,JJ h hc]
   |_=>cases h
theorem Cm{rs:List (List (List D))}{r:Nat}{p:List (Nat×Nat)}{old:List (List D)}(h:atR rs r p=some old):∃hr:r<rs.length,qY rs[r] p=some old:=by
 unfold atR at h
 cases hr:rs[r]? with
 |none=>rw[hr] at h;cases h
 |some es=>
  rw[hr] at h
  obtain⟨h1,h2⟩:=List.getElem?_eq_some_iff.1 hr
  exact⟨h1,by rw[h2];exact h⟩
theorem qI{rs:List (List (List D))}{r:Nat}{p:List (Nat×Nat)}{old new:List (List D)}(h:atR rs r p=some old):atR (dN rs r p new) r p=some new:=by
 obtain⟨hr,h⟩:=Cm h
 unfold atR dN
 rw[List.getElem?_set_self hr,Option.bind_some,List.getD_eq_getElem?_getD,List.getElem?_eq_getElem hr,Option.getD_some]
 exact ML h
theorem qJ{rs:List (List (List D))}{r:Nat}{p:List (Nat×Nat)}{old a b:List (List D)}(h:atR rs r p=some old):dN (dN rs r p a) r p b=dN rs r p b:=by
 obtain⟨hr,h⟩:=Cm h
 unfold dN
 rw[List.set_set,List.getD_eq_getElem?_getD,List.getElem?_set_self hr,List.getD_eq_getElem?_getD,List.getElem?_eq_getElem hr,Option.getD_some,Option.getD_some,JI h]
theorem JK:∀{p:List (Nat×Nat)} {es old:List (List D)},qY es p=some old→nD es p old=es
 |[],_,_,h=>by cases h;rfl
 |(i,o)::p,es,old,h=>by
  rw[qY] at h
  cases hc:cellAt es i o with
  |none=>rw[hc] at h;cases h
  |some d=>
   rw[hc] at h
   cases d with
   |sl es'=>
    simp only at h
    rw[uO hc,JK h]
    unfold cellAt at hc
    cases he:es[i]? with
    |none=>rw[he] at hc;cases hc
    |some r=>
     rw[he] at hc
     obtain⟨h1,h2⟩:=List.getElem?_eq_some_iff.1 he
     obtain⟨h3,h4⟩:=List.getElem?_eq_some_iff.1 hc
     rw[List.getD_eq_getElem?_getD,he,Option.getD_some,←h4,List.set_getElem_self,←h2,List.set_getElem_self]
   |_=>cases h
theorem sM{rs:List (List (List D))}{r:Nat}{p:List (Nat×Nat)}{old:List (List D)}(h:atR rs r p=some old):dN rs r p old=rs:=by
 obtain⟨hr,h⟩:=Cm h
 unfold dN
 rw[List.getD_eq_getElem?_getD,List.getElem?_eq_getElem hr,Option.getD_some,JK h,List.set_getElem_self]
theorem jv{rs:List (List (List D))}{r i o:Nat}{p:List (Nat×Nat)}{old es':List (List D)}(h:atR rs r p=some old)(hc:cellAt old i o=some (.sl es')):atR rs r (p++[(i,o)])=some es':=by
 obtain⟨hr,h⟩:=Cm h
 unfold atR
 rw[List.getElem?_eq_getElem hr,Option.bind_some]
 exact MN h hc
theorem U0{rs:List (List (List D))}{r i o:Nat}{p:List (Nat×Nat)}{old es' new:List (List D)}(h:atR rs r p=some old)(hc:cellAt old i o=some (.sl es')):
 dN rs r (p++[(i,o)]) new=dN rs r p (old.set i ((old.getD i []).set o (.sl new))):=by
 obtain⟨hr,h⟩:=Cm h
 unfold dN
 rw[List.getD_eq_getElem?_getD,List.getElem?_eq_getElem hr,Option.getD_some,JJ h hc]
theorem Cn{rs:List (List (List D))}{r r':Nat}{p p':List (Nat×Nat)}{new:List (List D)}(h:r≠r'):atR (dN rs r p new) r' p'=atR rs r' p':=by
 unfold atR dN
 rw[List.getElem?_set_ne h]
end
end Go.Ab
namespace Go.Proofs.YtlmhknhlmicmeaaGreatDoor.Fa
open Go Go.Ab
theorem ty1:Tryz.prog.cellsOf 1=1∧Tryz.prog.bytesOf 1=8∧(Tryz.prog.info? 1).isSome=true∧aP Tryz.prog 1=some [.d (.o .nilFunc)]:=⟨by kernel_rfl,by kernel_rfl,by kernel_rfl,by kernel_rfl⟩
theorem ty2:Tryz.prog.cellsOf 2=1∧Tryz.prog.bytesOf 2=8∧(Tryz.prog.info? 2).isSome=true∧aP Tryz.prog 2=some [.d (.i .i64 0)]:=⟨by kernel_rfl,by kernel_rfl,by kernel_rfl,by kernel_rfl⟩
theorem ty3:Tryz.prog.cellsOf 3=1∧Tryz.prog.bytesOf 3=8∧(Tryz.prog.info? 3).isSome=true∧aP Tryz.prog 3=some [.d (.i .i64 0)]:=⟨by kernel_rfl,by kernel_rfl,by kernel_rfl,by kernel_rfl⟩
theorem ty4:Tryz.prog.cellsOf 4=1∧Tryz.prog.bytesOf 4=1∧(Tryz.prog.info? 4).isSome=true∧aP Tryz.prog 4=some [.d (.b false)]:=⟨by kernel_rfl,by kernel_rfl,by kernel_rfl,by kernel_rfl⟩
theorem acM:zeroV Tryz.prog 4=some (.bool false):=by kernel_rfl
theorem ty5:Tryz.prog.cellsOf 5=1∧Tryz.prog.bytesOf 5=1∧(Tryz.prog.info? 5).isSome=true∧aP Tryz.prog 5=some [.d (.i .u8 0)]:=⟨by kernel_rfl,by kernel_rfl,by kernel_rfl,by kernel_rfl⟩
theorem ty9:Tryz.prog.cellsOf 9=1∧Tryz.prog.bytesOf 9=16∧(Tryz.prog.info? 9).isSome=true∧aP Tryz.prog 9=some [.d (.s [])]:=⟨by kernel_rfl,by kernel_rfl,by kernel_rfl,by kernel_rfl⟩
theorem aeN:Tryz.prog.cellsOf 12=1∧Tryz.prog.bytesOf 12=8∧(Tryz.prog.info? 12).isSome=true∧aP Tryz.prog 12=some [.d (.i .u64 0)]:=⟨by kernel_rfl,by kernel_rfl,by kernel_rfl,by kernel_rfl⟩
theorem aeO:Tryz.prog.cellsOf 20=1∧Tryz.prog.bytesOf 20=16∧(Tryz.prog.info? 20).isSome=true∧aP Tryz.prog 20=some [.d (.o .nilIface)]:=⟨by kernel_rfl,by kernel_rfl,by kernel_rfl,by kernel_rfl⟩
theorem aeP:Tryz.prog.cellsOf 21=1∧Tryz.prog.bytesOf 21=4∧(Tryz.prog.info? 21).isSome=true∧aP Tryz.prog 21=some [.d (.i .i32 0)]:=⟨by kernel_rfl,by kernel_rfl,by kernel_rfl,by kernel_rfl⟩
theorem aeQ:Tryz.prog.cellsOf 22=1∧Tryz.prog.bytesOf 22=24∧(Tryz.prog.info? 22).isSome=true∧aP Tryz.prog 22=some [.aO []]:=⟨by kernel_rfl,by kernel_rfl,by kernel_rfl,by kernel_rfl⟩
theorem aeR:Tryz.prog.cellsOf 23=1∧Tryz.prog.bytesOf 23=24∧(Tryz.prog.info? 23).isSome=true∧aP Tryz.prog 23=some [.aO []]:=⟨by kernel_rfl,by kernel_rfl,by kernel_rfl,by kernel_rfl⟩
theorem aeS:Tryz.prog.cellsOf 24=1∧Tryz.prog.bytesOf 24=24∧(Tryz.prog.info? 24).isSome=true∧aP Tryz.prog 24=some [.aO []]:=⟨by kernel_rfl,by kernel_rfl,by kernel_rfl,by kernel_rfl⟩
theorem aeT:Tryz.prog.cellsOf 25=1∧Tryz.prog.bytesOf 25=24∧(Tryz.prog.info? 25).isSome=true∧aP Tryz.prog 25=some [.aO []]:=⟨by kernel_rfl,by kernel_rfl,by kernel_rfl,by kernel_rfl⟩
theorem aeU:Tryz.prog.cellsOf 26=1∧Tryz.prog.bytesOf 26=24∧(Tryz.prog.info? 26).isSome=true∧aP Tryz.prog 26=some [.aO []]:=⟨by kernel_rfl,by kernel_rfl,by kernel_rfl,by kernel_rfl⟩
theorem aeV:Tryz.prog.cellsOf 27=6∧Tryz.prog.bytesOf 27=136∧(Tryz.prog.info? 27).isSome=true∧aP Tryz.prog 27=some [.d (.s []),.aO [],.aO [],.aO [],.aO [],.aO []]:=⟨by kernel_rfl,by kernel_rfl,by kernel_rfl,by kernel_rfl⟩
theorem aeW:Tryz.prog.cellsOf 28=6∧Tryz.prog.bytesOf 28=136∧(Tryz.prog.info? 28).isSome=true∧aP Tryz.prog 28=some [.d (.s []),.aO [],.aO [],.aO [],.aO [],.aO []]:=⟨by kernel_rfl,by kernel_rfl,by kernel_rfl,by kernel_rfl⟩
theorem aeX:Tryz.prog.cellsOf 29=1∧Tryz.prog.bytesOf 29=8∧(Tryz.prog.info? 29).isSome=true∧aP Tryz.prog 29=some [.d (.o .nilFunc)]:=⟨by kernel_rfl,by kernel_rfl,by kernel_rfl,by kernel_rfl⟩
theorem aeY:Tryz.prog.cellsOf 30=1∧Tryz.prog.bytesOf 30=24∧(Tryz.prog.info? 30).isSome=true∧aP Tryz.prog 30=some [.aO []]:=⟨by kernel_rfl,by kernel_rfl,by kernel_rfl,by kernel_rfl⟩
theorem aeZ:Tryz.prog.cellsOf 31=2∧Tryz.prog.bytesOf 31=40∧(Tryz.prog.info? 31).isSome=true∧aP Tryz.prog 31=some [.d (.s []),.aO []]:=⟨by kernel_rfl,by kernel_rfl,by kernel_rfl,by kernel_rfl⟩
theorem ae0:Tryz.prog.cellsOf 32=2∧Tryz.prog.bytesOf 32=40∧(Tryz.prog.info? 32).isSome=true∧aP Tryz.prog 32=some [.d (.s []),.aO []]:=⟨by kernel_rfl,by kernel_rfl,by kernel_rfl,by kernel_rfl⟩
theorem ae1:Tryz.prog.cellsOf 34=1∧Tryz.prog.bytesOf 34=24∧(Tryz.prog.info? 34).isSome=true∧aP Tryz.prog 34=some [.aO []]:=⟨by kernel_rfl,by kernel_rfl,by kernel_rfl,by kernel_rfl⟩
theorem ae2:Tryz.prog.cellsOf 35=1∧Tryz.prog.bytesOf 35=24∧(Tryz.prog.info? 35).isSome=true∧aP Tryz.prog 35=some [.aO []]:=⟨by kernel_rfl,by kernel_rfl,by kernel_rfl,by kernel_rfl⟩
theorem ae3:Tryz.prog.cellsOf 36=1∧Tryz.prog.bytesOf 36=24∧(Tryz.prog.info? 36).isSome=true∧aP Tryz.prog 36=some [.aO []]:=⟨by kernel_rfl,by kernel_rfl,by kernel_rfl,by kernel_rfl⟩
theorem ae4:Tryz.prog.cellsOf 37=1∧Tryz.prog.bytesOf 37=24∧(Tryz.prog.info? 37).isSome=true∧aP Tryz.prog 37=some [.aO []]:=⟨by kernel_rfl,by kernel_rfl,by kernel_rfl,by kernel_rfl⟩
theorem ae5:Tryz.prog.cellsOf 38=6∧Tryz.prog.bytesOf 38=136∧(Tryz.prog.info? 38).isSome=true∧aP Tryz.prog 38=some [.d (.s []),.aO [],.aO [],.aO [],.aO [],.aO []]:=⟨by kernel_rfl,by kernel_rfl,by kernel_rfl,by kernel_rfl⟩
theorem ae6:Tryz.prog.cellsOf 39=6∧Tryz.prog.bytesOf 39=136∧(Tryz.prog.info? 39).isSome=true∧aP Tryz.prog 39=some [.d (.s []),.aO [],.aO [],.aO [],.aO [],.aO []]:=⟨by kernel_rfl,by kernel_rfl,by kernel_rfl,by kernel_rfl⟩
theorem ae7:Tryz.prog.cellsOf 40=1∧Tryz.prog.bytesOf 40=8∧(Tryz.prog.info? 40).isSome=true∧aP Tryz.prog 40=some [.d (.o .nilFunc)]:=⟨by kernel_rfl,by kernel_rfl,by kernel_rfl,by kernel_rfl⟩
theorem ae8:Tryz.prog.cellsOf 41=1∧Tryz.prog.bytesOf 41=8∧(Tryz.prog.info? 41).isSome=true∧aP Tryz.prog 41=some [.d (.o .nilFunc)]:=⟨by kernel_rfl,by kernel_rfl,by kernel_rfl,by kernel_rfl⟩
theorem ae9:Tryz.prog.cellsOf 42=1∧Tryz.prog.bytesOf 42=8∧(Tryz.prog.info? 42).isSome=true∧aP Tryz.prog 42=some [.d (.o .nilFunc)]:=⟨by kernel_rfl,by kernel_rfl,by kernel_rfl,by kernel_rfl⟩
theorem afa:Tryz.prog.cellsOf 43=1∧Tryz.prog.bytesOf 43=8∧(Tryz.prog.info? 43).isSome=true∧aP Tryz.prog 43=some [.d (.o .nilFunc)]:=⟨by kernel_rfl,by kernel_rfl,by kernel_rfl,by kernel_rfl⟩
theorem afb:Tryz.prog.cellsOf 44=1∧Tryz.prog.bytesOf 44=8∧(Tryz.prog.info? 44).isSome=true∧aP Tryz.prog 44=some [.d (.o .nilFunc)]:=⟨by kernel_rfl,by kernel_rfl,by kernel_rfl,by kernel_rfl⟩
theorem afc:Tryz.prog.cellsOf 46=1∧Tryz.prog.bytesOf 46=24∧(Tryz.prog.info? 46).isSome=true∧aP Tryz.prog 46=some [.aO []]:=⟨by kernel_rfl,by kernel_rfl,by kernel_rfl,by kernel_rfl⟩
theorem afd:Tryz.prog.cellsOf 47=3∧Tryz.prog.bytesOf 47=48∧(Tryz.prog.info? 47).isSome=true∧aP Tryz.prog 47=some [.d (.i .i64 0),.d (.s []),.aO []]:=⟨by kernel_rfl,by kernel_rfl,by kernel_rfl,by kernel_rfl⟩
theorem afe:Tryz.prog.cellsOf 48=3∧Tryz.prog.bytesOf 48=48∧(Tryz.prog.info? 48).isSome=true∧aP Tryz.prog 48=some [.d (.i .i64 0),.d (.s []),.aO []]:=⟨by kernel_rfl,by kernel_rfl,by kernel_rfl,by kernel_rfl⟩
theorem aff:Tryz.prog.cellsOf 49=1∧Tryz.prog.bytesOf 49=24∧(Tryz.prog.info? 49).isSome=true∧aP Tryz.prog 49=some [.aO []]:=⟨by kernel_rfl,by kernel_rfl,by kernel_rfl,by kernel_rfl⟩
theorem afg:Tryz.prog.cellsOf 50=1∧Tryz.prog.bytesOf 50=24∧(Tryz.prog.info? 50).isSome=true∧aP Tryz.prog 50=some [.aO []]:=⟨by kernel_rfl,by kernel_rfl,by kernel_rfl,by kernel_rfl⟩
theorem afh:Tryz.prog.cellsOf 51=9∧Tryz.prog.bytesOf 51=144∧(Tryz.prog.info? 51).isSome=true∧aP Tryz.prog 51=some [.d (.i .i64 0),.d (.s []),.d (.s []),.d (.i .i64 0),.d (.i .i64 0),.d (.s []),.aO [],.aO [],.aO []]:=⟨by kernel_rfl,by kernel_rfl,by kernel_rfl,by kernel_rfl⟩
theorem afi:Tryz.prog.cellsOf 52=9∧Tryz.prog.bytesOf 52=144∧(Tryz.prog.info? 52).isSome=true∧aP Tryz.prog 52=some [.d (.i .i64 0),.d (.s []),.d (.s []),.d (.i .i64 0),.d (.i .i64 0),.d (.s []),.aO [],.aO [],.aO []]:=⟨by kernel_rfl,by kernel_rfl,by kernel_rfl,by kernel_rfl⟩
theorem afj:Tryz.prog.cellsOf 53=1∧Tryz.prog.bytesOf 53=8∧(Tryz.prog.info? 53).isSome=true∧aP Tryz.prog 53=some [.d (.o .nilFunc)]:=⟨by kernel_rfl,by kernel_rfl,by kernel_rfl,by kernel_rfl⟩
theorem afk:Tryz.prog.cellsOf 54=1∧Tryz.prog.bytesOf 54=8∧(Tryz.prog.info? 54).isSome=true∧aP Tryz.prog 54=some [.d (.o .nilFunc)]:=⟨by kernel_rfl,by kernel_rfl,by kernel_rfl,by kernel_rfl⟩
theorem afl:Tryz.prog.cellsOf 55=1∧Tryz.prog.bytesOf 55=24∧(Tryz.prog.info? 55).isSome=true∧aP Tryz.prog 55=some [.aO []]:=⟨by kernel_rfl,by kernel_rfl,by kernel_rfl,by kernel_rfl⟩
theorem afm:Tryz.prog.cellsOf 56=3∧Tryz.prog.bytesOf 56=48∧(Tryz.prog.info? 56).isSome=true∧aP Tryz.prog 56=some [.d (.i .i64 0),.d (.s []),.aO []]:=⟨by kernel_rfl,by kernel_rfl,by kernel_rfl,by kernel_rfl⟩
theorem afn:Tryz.prog.cellsOf 57=3∧Tryz.prog.bytesOf 57=48∧(Tryz.prog.info? 57).isSome=true∧aP Tryz.prog 57=some [.d (.i .i64 0),.d (.s []),.aO []]:=⟨by kernel_rfl,by kernel_rfl,by kernel_rfl,by kernel_rfl⟩
theorem afo:Tryz.prog.cellsOf 58=1∧Tryz.prog.bytesOf 58=24∧(Tryz.prog.info? 58).isSome=true∧aP Tryz.prog 58=some [.aO []]:=⟨by kernel_rfl,by kernel_rfl,by kernel_rfl,by kernel_rfl⟩
theorem afp:Tryz.prog.cellsOf 59=1∧Tryz.prog.bytesOf 59=24∧(Tryz.prog.info? 59).isSome=true∧aP Tryz.prog 59=some [.aO []]:=⟨by kernel_rfl,by kernel_rfl,by kernel_rfl,by kernel_rfl⟩
theorem afq:Tryz.prog.cellsOf 60=9∧Tryz.prog.bytesOf 60=144∧(Tryz.prog.info? 60).isSome=true∧aP Tryz.prog 60=some [.d (.i .i64 0),.d (.s []),.d (.s []),.d (.i .i64 0),.d (.i .i64 0),.d (.s []),.aO [],.aO [],.aO []]:=⟨by kernel_rfl,by kernel_rfl,by kernel_rfl,by kernel_rfl⟩
theorem afr:Tryz.prog.cellsOf 61=9∧Tryz.prog.bytesOf 61=144∧(Tryz.prog.info? 61).isSome=true∧aP Tryz.prog 61=some [.d (.i .i64 0),.d (.s []),.d (.s []),.d (.i .i64 0),.d (.i .i64 0),.d (.s []),.aO [],.aO [],.aO []]:=⟨by kernel_rfl,by kernel_rfl,by kernel_rfl,by kernel_rfl⟩
theorem afs:Tryz.prog.cellsOf 63=1∧Tryz.prog.bytesOf 63=8∧(Tryz.prog.info? 63).isSome=true∧aP Tryz.prog 63=some [.d (.o .nilFunc)]:=⟨by kernel_rfl,by kernel_rfl,by kernel_rfl,by kernel_rfl⟩
theorem aft:Tryz.prog.cellsOf 64=1∧Tryz.prog.bytesOf 64=8∧(Tryz.prog.info? 64).isSome=true∧aP Tryz.prog 64=some [.d (.o .nilFunc)]:=⟨by kernel_rfl,by kernel_rfl,by kernel_rfl,by kernel_rfl⟩
theorem afu:Tryz.prog.cellsOf 65=1∧Tryz.prog.bytesOf 65=8∧(Tryz.prog.info? 65).isSome=true∧aP Tryz.prog 65=some [.d (.o .nilFunc)]:=⟨by kernel_rfl,by kernel_rfl,by kernel_rfl,by kernel_rfl⟩
theorem afv:Tryz.prog.cellsOf 66=1∧Tryz.prog.bytesOf 66=24∧(Tryz.prog.info? 66).isSome=true∧aP Tryz.prog 66=some [.aO []]:=⟨by kernel_rfl,by kernel_rfl,by kernel_rfl,by kernel_rfl⟩
theorem afw:Tryz.prog.cellsOf 67=2∧Tryz.prog.bytesOf 67=40∧(Tryz.prog.info? 67).isSome=true∧aP Tryz.prog 67=some [.d (.s []),.aO []]:=⟨by kernel_rfl,by kernel_rfl,by kernel_rfl,by kernel_rfl⟩
theorem afx:Tryz.prog.cellsOf 68=2∧Tryz.prog.bytesOf 68=40∧(Tryz.prog.info? 68).isSome=true∧aP Tryz.prog 68=some [.d (.s []),.aO []]:=⟨by kernel_rfl,by kernel_rfl,by kernel_rfl,by kernel_rfl⟩
theorem afy:Tryz.prog.cellsOf 69=1∧Tryz.prog.bytesOf 69=8∧(Tryz.prog.info? 69).isSome=true∧aP Tryz.prog 69=some [.d (.o .nilFunc)]:=⟨by kernel_rfl,by kernel_rfl,by kernel_rfl,by kernel_rfl⟩
theorem afz:Tryz.prog.cellsOf 71=1∧Tryz.prog.bytesOf 71=8∧(Tryz.prog.info? 71).isSome=true∧aP Tryz.prog 71=some [.d (.o .nilFunc)]:=⟨by kernel_rfl,by kernel_rfl,by kernel_rfl,by kernel_rfl⟩
theorem afA:Tryz.prog.cellsOf 75=1∧Tryz.prog.bytesOf 75=24∧(Tryz.prog.info? 75).isSome=true∧aP Tryz.prog 75=some [.aO []]:=⟨by kernel_rfl,by kernel_rfl,by kernel_rfl,by kernel_rfl⟩
theorem afB:Tryz.prog.cellsOf 76=1∧Tryz.prog.bytesOf 76=24∧(Tryz.prog.info? 76).isSome=true∧aP Tryz.prog 76=some [.aO []]:=⟨by kernel_rfl,by kernel_rfl,by kernel_rfl,by kernel_rfl⟩
theorem afC:Tryz.prog.cellsOf 77=16∧Tryz.prog.bytesOf 77=280∧(Tryz.prog.info? 77).isSome=true∧aP Tryz.prog 77=some [.d (.s []),.aO [],.aO [],.aO [],.d (.i .i64 0),.d (.s []),.aO [],.d (.i .i64 0),.d (.s []),.d (.s []),.d (.i .i64 0),.d (.i .i64 0),.d (.s []),.aO [],.aO [],.aO []]:=⟨by kernel_rfl,by kernel_rfl,by kernel_rfl,by kernel_rfl⟩
theorem afD:Tryz.prog.cellsOf 78=16∧Tryz.prog.bytesOf 78=280∧(Tryz.prog.info? 78).isSome=true∧aP Tryz.prog 78=some [.d (.s []),.aO [],.aO [],.aO [],.d (.i .i64 0),.d (.s []),.aO [],.d (.i .i64 0),.d (.s []),.d (.s []),.d (.i .i64 0),.d (.i .i64 0),.d (.s []),.aO [],.aO [],.aO []]:=⟨by kernel_rfl,by kernel_rfl,by kernel_rfl,by kernel_rfl⟩
theorem afE:Tryz.prog.cellsOf 80=1∧Tryz.prog.bytesOf 80=8∧(Tryz.prog.info? 80).isSome=true∧aP Tryz.prog 80=some [.d (.o .nilFunc)]:=⟨by kernel_rfl,by kernel_rfl,by kernel_rfl,by kernel_rfl⟩
theorem afF:Tryz.prog.cellsOf 81=1∧Tryz.prog.bytesOf 81=8∧(Tryz.prog.info? 81).isSome=true∧aP Tryz.prog 81=some [.d (.o .nilFunc)]:=⟨by kernel_rfl,by kernel_rfl,by kernel_rfl,by kernel_rfl⟩
theorem afG:Tryz.prog.cellsOf 82=1∧Tryz.prog.bytesOf 82=8∧(Tryz.prog.info? 82).isSome=true∧aP Tryz.prog 82=some [.d (.o .nilFunc)]:=⟨by kernel_rfl,by kernel_rfl,by kernel_rfl,by kernel_rfl⟩
theorem afH:Tryz.prog.cellsOf 83=1∧Tryz.prog.bytesOf 83=24∧(Tryz.prog.info? 83).isSome=true∧aP Tryz.prog 83=some [.aO []]:=⟨by kernel_rfl,by kernel_rfl,by kernel_rfl,by kernel_rfl⟩
theorem afI:Tryz.prog.cellsOf 84=5∧Tryz.prog.bytesOf 84=72∧(Tryz.prog.info? 84).isSome=true∧aP Tryz.prog 84=some [.d (.s []),.aO [],.d (.b false),.d (.b false),.aO []]:=⟨by kernel_rfl,by kernel_rfl,by kernel_rfl,by kernel_rfl⟩
theorem afJ:Tryz.prog.cellsOf 85=5∧Tryz.prog.bytesOf 85=72∧(Tryz.prog.info? 85).isSome=true∧aP Tryz.prog 85=some [.d (.s []),.aO [],.d (.b false),.d (.b false),.aO []]:=⟨by kernel_rfl,by kernel_rfl,by kernel_rfl,by kernel_rfl⟩
theorem afK:Tryz.prog.cellsOf 90=1∧Tryz.prog.bytesOf 90=24∧(Tryz.prog.info? 90).isSome=true∧aP Tryz.prog 90=some [.aO []]:=⟨by kernel_rfl,by kernel_rfl,by kernel_rfl,by kernel_rfl⟩
theorem afL:Tryz.prog.cellsOf 91=12∧Tryz.prog.bytesOf 91=192∧(Tryz.prog.info? 91).isSome=true∧aP Tryz.prog 91=some [.d (.s []),.aO [],.d (.i .i64 0),.d (.s []),.aO [],.aO [],.d (.b false),.d (.b false),.d (.i .i64 0),.d (.s []),.aO [],.aO []]:=⟨by kernel_rfl,by kernel_rfl,by kernel_rfl,by kernel_rfl⟩
theorem afM:Tryz.prog.cellsOf 92=12∧Tryz.prog.bytesOf 92=192∧(Tryz.prog.info? 92).isSome=true∧aP Tryz.prog 92=some [.d (.s []),.aO [],.d (.i .i64 0),.d (.s []),.aO [],.aO [],.d (.b false),.d (.b false),.d (.i .i64 0),.d (.s []),.aO [],.aO []]:=⟨by kernel_rfl,by kernel_rfl,by kernel_rfl,by kernel_rfl⟩
theorem afN:Tryz.prog.cellsOf 95=1∧Tryz.prog.bytesOf 95=8∧(Tryz.prog.info? 95).isSome=true∧aP Tryz.prog 95=some [.d (.o .nilFunc)]:=⟨by kernel_rfl,by kernel_rfl,by kernel_rfl,by kernel_rfl⟩
theorem afO:Tryz.prog.cellsOf 96=1∧Tryz.prog.bytesOf 96=8∧(Tryz.prog.info? 96).isSome=true∧aP Tryz.prog 96=some [.d (.o .nilFunc)]:=⟨by kernel_rfl,by kernel_rfl,by kernel_rfl,by kernel_rfl⟩
theorem afP:Tryz.prog.cellsOf 97=1∧Tryz.prog.bytesOf 97=8∧(Tryz.prog.info? 97).isSome=true∧aP Tryz.prog 97=some [.d (.o .nilFunc)]:=⟨by kernel_rfl,by kernel_rfl,by kernel_rfl,by kernel_rfl⟩
theorem acN:Tryz.prog.cellsOf 108=1∧Tryz.prog.bytesOf 108=24∧(Tryz.prog.info? 108).isSome=true∧aP Tryz.prog 108=some [.aO []]:=⟨by kernel_rfl,by kernel_rfl,by kernel_rfl,by kernel_rfl⟩
theorem acO:Tryz.prog.cellsOf 109=3∧Tryz.prog.bytesOf 109=64∧(Tryz.prog.info? 109).isSome=true∧aP Tryz.prog 109=some [.d (.s []),.aO [],.aO []]:=⟨by kernel_rfl,by kernel_rfl,by kernel_rfl,by kernel_rfl⟩
theorem acP:Tryz.prog.cellsOf 110=3∧Tryz.prog.bytesOf 110=64∧(Tryz.prog.info? 110).isSome=true∧aP Tryz.prog 110=some [.d (.s []),.aO [],.aO []]:=⟨by kernel_rfl,by kernel_rfl,by kernel_rfl,by kernel_rfl⟩
theorem acQ:Tryz.prog.cellsOf 119=1∧Tryz.prog.bytesOf 119=8∧(Tryz.prog.info? 119).isSome=true∧aP Tryz.prog 119=some [.d (.o .nilFunc)]:=⟨by kernel_rfl,by kernel_rfl,by kernel_rfl,by kernel_rfl⟩
theorem acR:Tryz.prog.cellsOf 127=1∧Tryz.prog.bytesOf 127=8∧(Tryz.prog.info? 127).isSome=true∧aP Tryz.prog 127=some [.d (.o .nilFunc)]:=⟨by kernel_rfl,by kernel_rfl,by kernel_rfl,by kernel_rfl⟩
theorem acS:Tryz.prog.cellsOf 128=1∧Tryz.prog.bytesOf 128=8∧(Tryz.prog.info? 128).isSome=true∧aP Tryz.prog 128=some [.d (.o .nilFunc)]:=⟨by kernel_rfl,by kernel_rfl,by kernel_rfl,by kernel_rfl⟩
theorem acT:Tryz.prog.cellsOf 129=1∧Tryz.prog.bytesOf 129=8∧(Tryz.prog.info? 129).isSome=true∧aP Tryz.prog 129=some [.d (.o .nilFunc)]:=⟨by kernel_rfl,by kernel_rfl,by kernel_rfl,by kernel_rfl⟩
theorem acU:Tryz.prog.cellsOf 140=1∧Tryz.prog.bytesOf 140=8∧(Tryz.prog.info? 140).isSome=true∧aP Tryz.prog 140=some [.d (.o .nilFunc)]:=⟨by kernel_rfl,by kernel_rfl,by kernel_rfl,by kernel_rfl⟩
theorem acV:Tryz.prog.cellsOf 145=1∧Tryz.prog.bytesOf 145=8∧(Tryz.prog.info? 145).isSome=true∧aP Tryz.prog 145=some [.d (.o .nilFunc)]:=⟨by kernel_rfl,by kernel_rfl,by kernel_rfl,by kernel_rfl⟩
theorem acW:Tryz.prog.cellsOf 154=4∧Tryz.prog.bytesOf 154=64∧(Tryz.prog.info? 154).isSome=true∧aP Tryz.prog 154=some [.d (.s []),.d (.i .i64 0),.d (.s []),.aO []]:=⟨by kernel_rfl,by kernel_rfl,by kernel_rfl,by kernel_rfl⟩
theorem acX:Tryz.prog.cellsOf 155=4∧Tryz.prog.bytesOf 155=64∧(Tryz.prog.info? 155).isSome=true∧aP Tryz.prog 155=some [.d (.s []),.d (.i .i64 0),.d (.s []),.aO []]:=⟨by kernel_rfl,by kernel_rfl,by kernel_rfl,by kernel_rfl⟩
theorem acY:Tryz.prog.cellsOf 165=16∧Tryz.prog.bytesOf 165=264∧(Tryz.prog.info? 165).isSome=true∧aP Tryz.prog 165=some [.d (.s []),.aO [],.d (.i .i64 0),.d (.s []),.aO [],.d (.b false),.aO [],.d (.i .i64 0),.d (.s []),.d (.s []),.d (.i .i64 0),.d (.i .i64 0),.d (.s []),.aO [],.aO [],.aO []]:=⟨by kernel_rfl,by kernel_rfl,by kernel_rfl,by kernel_rfl⟩
theorem acZ:Tryz.prog.cellsOf 166=16∧Tryz.prog.bytesOf 166=264∧(Tryz.prog.info? 166).isSome=true∧aP Tryz.prog 166=some [.d (.s []),.aO [],.d (.i .i64 0),.d (.s []),.aO [],.d (.b false),.aO [],.d (.i .i64 0),.d (.s []),.d (.s []),.d (.i .i64 0),.d (.i .i64 0),.d (.s []),.aO [],.aO [],.aO []]:=⟨by kernel_rfl,by kernel_rfl,by kernel_rfl,by kernel_rfl⟩
theorem ac0:Tryz.prog.cellsOf 171=11∧Tryz.prog.bytesOf 171=184∧(Tryz.prog.info? 171).isSome=true∧aP Tryz.prog 171=some [.d (.s []),.aO [],.d (.i .i64 0),.d (.s []),.d (.s []),.d (.i .i64 0),.d (.i .i64 0),.d (.s []),.aO [],.aO [],.aO []]:=⟨by kernel_rfl,by kernel_rfl,by kernel_rfl,by kernel_rfl⟩
theorem ac1:Tryz.prog.cellsOf 172=11∧Tryz.prog.bytesOf 172=184∧(Tryz.prog.info? 172).isSome=true∧aP Tryz.prog 172=some [.d (.s []),.aO [],.d (.i .i64 0),.d (.s []),.d (.s []),.d (.i .i64 0),.d (.i .i64 0),.d (.s []),.aO [],.aO [],.aO []]:=⟨by kernel_rfl,by kernel_rfl,by kernel_rfl,by kernel_rfl⟩
theorem ac2:Tryz.prog.cellsOf 177=1∧Tryz.prog.bytesOf 177=24∧(Tryz.prog.info? 177).isSome=true∧aP Tryz.prog 177=some [.aO []]:=⟨by kernel_rfl,by kernel_rfl,by kernel_rfl,by kernel_rfl⟩
theorem ac3:Tryz.prog.cellsOf 178=5∧Tryz.prog.bytesOf 178=72∧(Tryz.prog.info? 178).isSome=true∧aP Tryz.prog 178=some [.d (.s []),.aO [],.d (.b false),.d (.b false),.aO []]:=⟨by kernel_rfl,by kernel_rfl,by kernel_rfl,by kernel_rfl⟩
theorem ac4:Tryz.prog.cellsOf 179=5∧Tryz.prog.bytesOf 179=72∧(Tryz.prog.info? 179).isSome=true∧aP Tryz.prog 179=some [.d (.s []),.aO [],.d (.b false),.d (.b false),.aO []]:=⟨by kernel_rfl,by kernel_rfl,by kernel_rfl,by kernel_rfl⟩
theorem ac5:Tryz.prog.cellsOf 181=1∧Tryz.prog.bytesOf 181=24∧(Tryz.prog.info? 181).isSome=true∧aP Tryz.prog 181=some [.aO []]:=⟨by kernel_rfl,by kernel_rfl,by kernel_rfl,by kernel_rfl⟩
theorem ac6:Tryz.prog.cellsOf 182=3∧Tryz.prog.bytesOf 182=64∧(Tryz.prog.info? 182).isSome=true∧aP Tryz.prog 182=some [.d (.s []),.aO [],.aO []]:=⟨by kernel_rfl,by kernel_rfl,by kernel_rfl,by kernel_rfl⟩
theorem ac7:Tryz.prog.cellsOf 183=3∧Tryz.prog.bytesOf 183=64∧(Tryz.prog.info? 183).isSome=true∧aP Tryz.prog 183=some [.d (.s []),.aO [],.aO []]:=⟨by kernel_rfl,by kernel_rfl,by kernel_rfl,by kernel_rfl⟩
theorem ac8:Tryz.prog.cellsOf 185=1∧Tryz.prog.bytesOf 185=24∧(Tryz.prog.info? 185).isSome=true∧aP Tryz.prog 185=some [.aO []]:=⟨by kernel_rfl,by kernel_rfl,by kernel_rfl,by kernel_rfl⟩
theorem ac9:Tryz.prog.cellsOf 186=1∧Tryz.prog.bytesOf 186=24∧(Tryz.prog.info? 186).isSome=true∧aP Tryz.prog 186=some [.aO []]:=⟨by kernel_rfl,by kernel_rfl,by kernel_rfl,by kernel_rfl⟩
theorem ada:Tryz.prog.cellsOf 187=12∧Tryz.prog.bytesOf 187=192∧(Tryz.prog.info? 187).isSome=true∧aP Tryz.prog 187=some [.d (.s []),.aO [],.d (.i .i64 0),.d (.s []),.aO [],.aO [],.d (.b false),.d (.b false),.d (.i .i64 0),.d (.s []),.aO [],.aO []]:=⟨by kernel_rfl,by kernel_rfl,by kernel_rfl,by kernel_rfl⟩
theorem adb:Tryz.prog.cellsOf 188=12∧Tryz.prog.bytesOf 188=192∧(Tryz.prog.info? 188).isSome=true∧aP Tryz.prog 188=some [.d (.s []),.aO [],.d (.i .i64 0),.d (.s []),.aO [],.aO [],.d (.b false),.d (.b false),.d (.i .i64 0),.d (.s []),.aO [],.aO []]:=⟨by kernel_rfl,by kernel_rfl,by kernel_rfl,by kernel_rfl⟩
theorem ade:Tryz.prog.cellsOf 190=1∧Tryz.prog.bytesOf 190=24∧(Tryz.prog.info? 190).isSome=true∧aP Tryz.prog 190=some [.aO []]:=⟨by kernel_rfl,by kernel_rfl,by kernel_rfl,by kernel_rfl⟩
theorem adf:Tryz.prog.cellsOf 191=16∧Tryz.prog.bytesOf 191=280∧(Tryz.prog.info? 191).isSome=true∧aP Tryz.prog 191=some [.d (.s []),.aO [],.aO [],.aO [],.d (.i .i64 0),.d (.s []),.aO [],.d (.i .i64 0),.d (.s []),.d (.s []),.d (.i .i64 0),.d (.i .i64 0),.d (.s []),.aO [],.aO [],.aO []]:=⟨by kernel_rfl,by kernel_rfl,by kernel_rfl,by kernel_rfl⟩
theorem adg:Tryz.prog.cellsOf 192=16∧Tryz.prog.bytesOf 192=280∧(Tryz.prog.info? 192).isSome=true∧aP Tryz.prog 192=some [.d (.s []),.aO [],.aO [],.aO [],.d (.i .i64 0),.d (.s []),.aO [],.d (.i .i64 0),.d (.s []),.d (.s []),.d (.i .i64 0),.d (.i .i64 0),.d (.s []),.aO [],.aO [],.aO []]:=⟨by kernel_rfl,by kernel_rfl,by kernel_rfl,by kernel_rfl⟩
theorem adh:Tryz.prog.cellsOf 195=1∧Tryz.prog.bytesOf 195=8∧(Tryz.prog.info? 195).isSome=true∧aP Tryz.prog 195=some [.d (.o .nilFunc)]:=⟨by kernel_rfl,by kernel_rfl,by kernel_rfl,by kernel_rfl⟩
theorem adi:Tryz.prog.cellsOf 201=2∧Tryz.prog.bytesOf 201=40∧(Tryz.prog.info? 201).isSome=true∧aP Tryz.prog 201=some [.d (.s []),.aO []]:=⟨by kernel_rfl,by kernel_rfl,by kernel_rfl,by kernel_rfl⟩
theorem adj:Tryz.prog.cellsOf 202=2∧Tryz.prog.bytesOf 202=40∧(Tryz.prog.info? 202).isSome=true∧aP Tryz.prog 202=some [.d (.s []),.aO []]:=⟨by kernel_rfl,by kernel_rfl,by kernel_rfl,by kernel_rfl⟩
theorem adk:Tryz.prog.cellsOf 211=1∧Tryz.prog.bytesOf 211=24∧(Tryz.prog.info? 211).isSome=true∧aP Tryz.prog 211=some [.aO []]:=⟨by kernel_rfl,by kernel_rfl,by kernel_rfl,by kernel_rfl⟩
theorem adl:Tryz.prog.cellsOf 219=11∧Tryz.prog.bytesOf 219=184∧(Tryz.prog.info? 219).isSome=true∧aP Tryz.prog 219=some [.d (.s []),.aO [],.d (.i .i64 0),.d (.s []),.d (.s []),.d (.i .i64 0),.d (.i .i64 0),.d (.s []),.aO [],.aO [],.aO []]:=⟨by kernel_rfl,by kernel_rfl,by kernel_rfl,by kernel_rfl⟩
theorem adn:Tryz.prog.cellsOf 220=11∧Tryz.prog.bytesOf 220=184∧(Tryz.prog.info? 220).isSome=true∧aP Tryz.prog 220=some [.d (.s []),.aO [],.d (.i .i64 0),.d (.s []),.d (.s []),.d (.i .i64 0),.d (.i .i64 0),.d (.s []),.aO [],.aO [],.aO []]:=⟨by kernel_rfl,by kernel_rfl,by kernel_rfl,by kernel_rfl⟩
theorem ado:Tryz.prog.cellsOf 222=11∧Tryz.prog.bytesOf 222=184∧(Tryz.prog.info? 222).isSome=true∧aP Tryz.prog 222=some [.d (.s []),.aO [],.d (.i .i64 0),.d (.s []),.d (.s []),.d (.i .i64 0),.d (.i .i64 0),.d (.s []),.aO [],.aO [],.aO []]:=⟨by kernel_rfl,by kernel_rfl,by kernel_rfl,by kernel_rfl⟩
theorem adp:Tryz.prog.cellsOf 223=11∧Tryz.prog.bytesOf 223=184∧(Tryz.prog.info? 223).isSome=true∧aP Tryz.prog 223=some [.d (.s []),.aO [],.d (.i .i64 0),.d (.s []),.d (.s []),.d (.i .i64 0),.d (.i .i64 0),.d (.s []),.aO [],.aO [],.aO []]:=⟨by kernel_rfl,by kernel_rfl,by kernel_rfl,by kernel_rfl⟩
theorem adq:Tryz.prog.cellsOf 226=1∧Tryz.prog.bytesOf 226=8∧(Tryz.prog.info? 226).isSome=true∧aP Tryz.prog 226=some [.d (.o (.pointer none))]:=⟨by kernel_rfl,by kernel_rfl,by kernel_rfl,by kernel_rfl⟩
theorem adr:Tryz.prog.cellsOf 227=1∧Tryz.prog.bytesOf 227=24∧(Tryz.prog.info? 227).isSome=true∧aP Tryz.prog 227=some [.aO []]:=⟨by kernel_rfl,by kernel_rfl,by kernel_rfl,by kernel_rfl⟩
theorem ads:Tryz.prog.cellsOf 228=2∧Tryz.prog.bytesOf 228=32∧(Tryz.prog.info? 228).isSome=true∧aP Tryz.prog 228=some [.d (.o (.pointer none)),.aO []]:=⟨by kernel_rfl,by kernel_rfl,by kernel_rfl,by kernel_rfl⟩
theorem adt:Tryz.prog.cellsOf 229=2∧Tryz.prog.bytesOf 229=32∧(Tryz.prog.info? 229).isSome=true∧aP Tryz.prog 229=some [.d (.o (.pointer none)),.aO []]:=⟨by kernel_rfl,by kernel_rfl,by kernel_rfl,by kernel_rfl⟩
theorem adu:Tryz.prog.cellsOf 233=1∧Tryz.prog.bytesOf 233=8∧(Tryz.prog.info? 233).isSome=true∧aP Tryz.prog 233=some [.d (.o .nilFunc)]:=⟨by kernel_rfl,by kernel_rfl,by kernel_rfl,by kernel_rfl⟩
theorem adv:Tryz.prog.cellsOf 246=4∧Tryz.prog.bytesOf 246=64∧(Tryz.prog.info? 246).isSome=true∧aP Tryz.prog 246=some [.d (.s []),.d (.i .i64 0),.d (.s []),.aO []]:=⟨by kernel_rfl,by kernel_rfl,by kernel_rfl,by kernel_rfl⟩
theorem adw:Tryz.prog.cellsOf 247=4∧Tryz.prog.bytesOf 247=64∧(Tryz.prog.info? 247).isSome=true∧aP Tryz.prog 247=some [.d (.s []),.d (.i .i64 0),.d (.s []),.aO []]:=⟨by kernel_rfl,by kernel_rfl,by kernel_rfl,by kernel_rfl⟩
theorem adx:Tryz.prog.cellsOf 262=1∧Tryz.prog.bytesOf 262=8∧(Tryz.prog.info? 262).isSome=true∧aP Tryz.prog 262=some [.d (.o .nilFunc)]:=⟨by kernel_rfl,by kernel_rfl,by kernel_rfl,by kernel_rfl⟩
theorem ady:Tryz.prog.cellsOf 280=4∧Tryz.prog.bytesOf 280=96∧(Tryz.prog.info? 280).isSome=true∧aP Tryz.prog 280=some [.aO [],.aO [],.aO [],.aO []]:=⟨by kernel_rfl,by kernel_rfl,by kernel_rfl,by kernel_rfl⟩
theorem adz:Tryz.prog.cellsOf 285=1∧Tryz.prog.bytesOf 285=16∧(Tryz.prog.info? 285).isSome=true∧aP Tryz.prog 285=some [.d (.o .nilIface)]:=⟨by kernel_rfl,by kernel_rfl,by kernel_rfl,by kernel_rfl⟩
theorem adA:Tryz.prog.cellsOf 286=1∧Tryz.prog.bytesOf 286=16∧(Tryz.prog.info? 286).isSome=true∧aP Tryz.prog 286=some [.d (.o .nilIface)]:=⟨by kernel_rfl,by kernel_rfl,by kernel_rfl,by kernel_rfl⟩
theorem adB:Tryz.prog.cellsOf 290=1∧Tryz.prog.bytesOf 290=8∧(Tryz.prog.info? 290).isSome=true∧aP Tryz.prog 290=some [.d (.o (.pointer none))]:=⟨by kernel_rfl,by kernel_rfl,by kernel_rfl,by kernel_rfl⟩
theorem adC:Tryz.prog.cellsOf 297=1∧Tryz.prog.bytesOf 297=8∧(Tryz.prog.info? 297).isSome=true∧aP Tryz.prog 297=some [.d (.o .nilFunc)]:=⟨by kernel_rfl,by kernel_rfl,by kernel_rfl,by kernel_rfl⟩
theorem adD:Tryz.prog.cellsOf 298=1∧Tryz.prog.bytesOf 298=24∧(Tryz.prog.info? 298).isSome=true∧aP Tryz.prog 298=some [.aO []]:=⟨by kernel_rfl,by kernel_rfl,by kernel_rfl,by kernel_rfl⟩
theorem adE:Tryz.prog.cellsOf 301=1∧Tryz.prog.bytesOf 301=8∧(Tryz.prog.info? 301).isSome=true∧aP Tryz.prog 301=some [.d (.o .nilFunc)]:=⟨by kernel_rfl,by kernel_rfl,by kernel_rfl,by kernel_rfl⟩
theorem adF:Tryz.prog.cellsOf 304=1∧Tryz.prog.bytesOf 304=8∧(Tryz.prog.info? 304).isSome=true∧aP Tryz.prog 304=some [.d (.o (.map none))]:=⟨by kernel_rfl,by kernel_rfl,by kernel_rfl,by kernel_rfl⟩
theorem adG:Tryz.prog.cellsOf 306=1∧Tryz.prog.bytesOf 306=8∧(Tryz.prog.info? 306).isSome=true∧aP Tryz.prog 306=some [.d (.o .nilFunc)]:=⟨by kernel_rfl,by kernel_rfl,by kernel_rfl,by kernel_rfl⟩
theorem adH:Tryz.prog.cellsOf 309=16∧Tryz.prog.bytesOf 309=264∧(Tryz.prog.info? 309).isSome=true∧aP Tryz.prog 309=some [.d (.s []),.aO [],.d (.i .i64 0),.d (.s []),.aO [],.d (.b false),.aO [],.d (.i .i64 0),.d (.s []),.d (.s []),.d (.i .i64 0),.d (.i .i64 0),.d (.s []),.aO [],.aO [],.aO []]:=⟨by kernel_rfl,by kernel_rfl,by kernel_rfl,by kernel_rfl⟩
theorem adI:Tryz.prog.cellsOf 310=16∧Tryz.prog.bytesOf 310=264∧(Tryz.prog.info? 310).isSome=true∧aP Tryz.prog 310=some [.d (.s []),.aO [],.d (.i .i64 0),.d (.s []),.aO [],.d (.b false),.aO [],.d (.i .i64 0),.d (.s []),.d (.s []),.d (.i .i64 0),.d (.i .i64 0),.d (.s []),.aO [],.aO [],.aO []]:=⟨by kernel_rfl,by kernel_rfl,by kernel_rfl,by kernel_rfl⟩
theorem adJ:Tryz.prog.cellsOf 312=2∧Tryz.prog.bytesOf 312=40∧(Tryz.prog.info? 312).isSome=true∧aP Tryz.prog 312=some [.d (.s []),.aO []]:=⟨by kernel_rfl,by kernel_rfl,by kernel_rfl,by kernel_rfl⟩
theorem adK:Tryz.prog.cellsOf 313=2∧Tryz.prog.bytesOf 313=40∧(Tryz.prog.info? 313).isSome=true∧aP Tryz.prog 313=some [.d (.s []),.aO []]:=⟨by kernel_rfl,by kernel_rfl,by kernel_rfl,by kernel_rfl⟩
theorem adL:Tryz.prog.cellsOf 315=4∧Tryz.prog.bytesOf 315=64∧(Tryz.prog.info? 315).isSome=true∧aP Tryz.prog 315=some [.d (.s []),.d (.i .i64 0),.d (.s []),.aO []]:=⟨by kernel_rfl,by kernel_rfl,by kernel_rfl,by kernel_rfl⟩
theorem adM:Tryz.prog.cellsOf 316=4∧Tryz.prog.bytesOf 316=64∧(Tryz.prog.info? 316).isSome=true∧aP Tryz.prog 316=some [.d (.s []),.d (.i .i64 0),.d (.s []),.aO []]:=⟨by kernel_rfl,by kernel_rfl,by kernel_rfl,by kernel_rfl⟩
theorem adN:Tryz.prog.cellsOf 318=11∧Tryz.prog.bytesOf 318=184∧(Tryz.prog.info? 318).isSome=true∧aP Tryz.prog 318=some [.d (.s []),.aO [],.d (.i .i64 0),.d (.s []),.d (.s []),.d (.i .i64 0),.d (.i .i64 0),.d (.s []),.aO [],.aO [],.aO []]:=⟨by kernel_rfl,by kernel_rfl,by kernel_rfl,by kernel_rfl⟩
theorem adO:Tryz.prog.cellsOf 319=11∧Tryz.prog.bytesOf 319=184∧(Tryz.prog.info? 319).isSome=true∧aP Tryz.prog 319=some [.d (.s []),.aO [],.d (.i .i64 0),.d (.s []),.d (.s []),.d (.i .i64 0),.d (.i .i64 0),.d (.s []),.aO [],.aO [],.aO []]:=⟨by kernel_rfl,by kernel_rfl,by kernel_rfl,by kernel_rfl⟩
theorem adP:Tryz.prog.cellsOf 321=4∧Tryz.prog.bytesOf 321=64∧(Tryz.prog.info? 321).isSome=true∧aP Tryz.prog 321=some [.d (.s []),.d (.i .i64 0),.d (.s []),.aO []]:=⟨by kernel_rfl,by kernel_rfl,by kernel_rfl,by kernel_rfl⟩
theorem adQ:Tryz.prog.cellsOf 322=4∧Tryz.prog.bytesOf 322=64∧(Tryz.prog.info? 322).isSome=true∧aP Tryz.prog 322=some [.d (.s []),.d (.i .i64 0),.d (.s []),.aO []]:=⟨by kernel_rfl,by kernel_rfl,by kernel_rfl,by kernel_rfl⟩
theorem adR:Tryz.prog.cellsOf 358=24∧Tryz.prog.bytesOf 358=24∧(Tryz.prog.info? 358).isSome=true∧aP Tryz.prog 358=some [.d (.i .u8 0),.d (.i .u8 0),.d (.i .u8 0),.d (.i .u8 0),.d (.i .u8 0),.d (.i .u8 0),.d (.i .u8 0),.d (.i .u8 0),.d (.i .u8 0),.d (.i .u8 0),.d (.i .u8 0),.d (.i .u8 0),.d (.i .u8 0),.d (.i .u8 0),.d (.i .u8 0),.d (.i .u8 0),.d (.i .u8 0),.d (.i .u8 0),.d (.i .u8 0),.d (.i .u8 0),.d (.i .u8 0),.d (.i .u8 0),.d (.i .u8 0),.d (.i .u8 0)]:=⟨by kernel_rfl,by kernel_rfl,by kernel_rfl,by kernel_rfl⟩
theorem adS:Tryz.prog.cellsOf 359=1∧Tryz.prog.bytesOf 359=8∧(Tryz.prog.info? 359).isSome=true∧aP Tryz.prog 359=some [.d (.i .u64 0)]:=⟨by kernel_rfl,by kernel_rfl,by kernel_rfl,by kernel_rfl⟩
theorem adT:Tryz.prog.cellsOf 364=1∧Tryz.prog.bytesOf 364=24∧(Tryz.prog.info? 364).isSome=true∧aP Tryz.prog 364=some [.aO []]:=⟨by kernel_rfl,by kernel_rfl,by kernel_rfl,by kernel_rfl⟩
theorem adU:Tryz.prog.cellsOf 369=1∧Tryz.prog.bytesOf 369=8∧(Tryz.prog.info? 369).isSome=true∧aP Tryz.prog 369=some [.d (.i .u64 0)]:=⟨by kernel_rfl,by kernel_rfl,by kernel_rfl,by kernel_rfl⟩
theorem adV:Tryz.prog.cellsOf 371=3∧Tryz.prog.bytesOf 371=48∧(Tryz.prog.info? 371).isSome=true∧aP Tryz.prog 371=some [.d (.s []),.d (.s []),.d (.o .nilIface)]:=⟨by kernel_rfl,by kernel_rfl,by kernel_rfl,by kernel_rfl⟩
theorem adW:Tryz.prog.cellsOf 376=20∧Tryz.prog.bytesOf 376=160∧(Tryz.prog.info? 376).isSome=true∧aP Tryz.prog 376=some [.d (.i .u64 0),.d (.i .u64 0),.d (.i .u64 0),.d (.i .u64 0),.d (.i .u64 0),.d (.i .u64 0),.d (.i .u64 0),.d (.i .u64 0),.d (.i .u64 0),.d (.i .u64 0),.d (.i .u64 0),.d (.i .u64 0),.d (.i .u64 0),.d (.i .u64 0),.d (.i .u64 0),.d (.i .u64 0),.d (.i .u64 0),.d (.i .u64 0),.d (.i .u64 0),.d (.i .u64 0)]:=⟨by kernel_rfl,by kernel_rfl,by kernel_rfl,by kernel_rfl⟩
theorem adX:Tryz.prog.cellsOf 377=1∧Tryz.prog.bytesOf 377=4∧(Tryz.prog.info? 377).isSome=true∧aP Tryz.prog 377=some [.d (.i .u32 0)]:=⟨by kernel_rfl,by kernel_rfl,by kernel_rfl,by kernel_rfl⟩
theorem adY:Tryz.prog.cellsOf 378=65∧Tryz.prog.bytesOf 378=65∧(Tryz.prog.info? 378).isSome=true∧aP Tryz.prog 378=some [.d (.i .u8 0),.d (.i .u8 0),.d (.i .u8 0),.d (.i .u8 0),.d (.i .u8 0),.d (.i .u8 0),.d (.i .u8 0),.d (.i .u8 0),.d (.i .u8 0),.d (.i .u8 0),.d (.i .u8 0),.d (.i .u8 0),.d (.i .u8 0),.d (.i .u8 0),.d (.i .u8 0),.d (.i .u8 0),.d (.i .u8 0),.d (.i .u8 0),.d (.i .u8 0),.d (.i .u8 0),.d (.i .u8 0),.d (.i .u8 0),.d (.i .u8 0),.d (.i .u8 0),.d (.i .u8 0),.d (.i .u8 0),.d (.i .u8 0),.d (.i .u8 0),.d (.i .u8 0),.d (.i .u8 0),.d (.i .u8 0),.d (.i .u8 0),.d (.i .u8 0),.d (.i .u8 0),.d (.i .u8 0),.d (.i .u8 0),.d (.i .u8 0),.d (.i .u8 0),.d (.i .u8 0),.d (.i .u8 0),.d (.i .u8 0),.d (.i .u8 0),.d (.i .u8 0),.d (.i .u8 0),.d (.i .u8 0),.d (.i .u8 0),.d (.i .u8 0),.d (.i .u8 0),.d (.i .u8 0),.d (.i .u8 0),.d (.i .u8 0),.d (.i .u8 0),.d (.i .u8 0),.d (.i .u8 0),.d (.i .u8 0),.d (.i .u8 0),.d (.i .u8 0),.d (.i .u8 0),.d (.i .u8 0),.d (.i .u8 0),.d (.i .u8 0),.d (.i .u8 0),.d (.i .u8 0),.d (.i .u8 0),.d (.i .u8 0)]:=⟨by kernel_rfl,by kernel_rfl,by kernel_rfl,by kernel_rfl⟩
theorem adZ:Tryz.prog.cellsOf 383=1∧Tryz.prog.bytesOf 383=16∧(Tryz.prog.info? 383).isSome=true∧aP Tryz.prog 383=some [.d (.s [])]:=⟨by kernel_rfl,by kernel_rfl,by kernel_rfl,by kernel_rfl⟩
theorem ad1:Tryz.prog.cellsOf 388=32∧Tryz.prog.bytesOf 388=32∧(Tryz.prog.info? 388).isSome=true∧aP Tryz.prog 388=some [.d (.i .u8 0),.d (.i .u8 0),.d (.i .u8 0),.d (.i .u8 0),.d (.i .u8 0),.d (.i .u8 0),.d (.i .u8 0),.d (.i .u8 0),.d (.i .u8 0),.d (.i .u8 0),.d (.i .u8 0),.d (.i .u8 0),.d (.i .u8 0),.d (.i .u8 0),.d (.i .u8 0),.d (.i .u8 0),.d (.i .u8 0),.d (.i .u8 0),.d (.i .u8 0),.d (.i .u8 0),.d (.i .u8 0),.d (.i .u8 0),.d (.i .u8 0),.d (.i .u8 0),.d (.i .u8 0),.d (.i .u8 0),.d (.i .u8 0),.d (.i .u8 0),.d (.i .u8 0),.d (.i .u8 0),.d (.i .u8 0),.d (.i .u8 0)]:=⟨by kernel_rfl,by kernel_rfl,by kernel_rfl,by kernel_rfl⟩
theorem ad2:Tryz.prog.cellsOf 389=64∧Tryz.prog.bytesOf 389=64∧(Tryz.prog.info? 389).isSome=true∧aP Tryz.prog 389=some [.d (.i .u8 0),.d (.i .u8 0),.d (.i .u8 0),.d (.i .u8 0),.d (.i .u8 0),.d (.i .u8 0),.d (.i .u8 0),.d (.i .u8 0),.d (.i .u8 0),.d (.i .u8 0),.d (.i .u8 0),.d (.i .u8 0),.d (.i .u8 0),.d (.i .u8 0),.d (.i .u8 0),.d (.i .u8 0),.d (.i .u8 0),.d (.i .u8 0),.d (.i .u8 0),.d (.i .u8 0),.d (.i .u8 0),.d (.i .u8 0),.d (.i .u8 0),.d (.i .u8 0),.d (.i .u8 0),.d (.i .u8 0),.d (.i .u8 0),.d (.i .u8 0),.d (.i .u8 0),.d (.i .u8 0),.d (.i .u8 0),.d (.i .u8 0),.d (.i .u8 0),.d (.i .u8 0),.d (.i .u8 0),.d (.i .u8 0),.d (.i .u8 0),.d (.i .u8 0),.d (.i .u8 0),.d (.i .u8 0),.d (.i .u8 0),.d (.i .u8 0),.d (.i .u8 0),.d (.i .u8 0),.d (.i .u8 0),.d (.i .u8 0),.d (.i .u8 0),.d (.i .u8 0),.d (.i .u8 0),.d (.i .u8 0),.d (.i .u8 0),.d (.i .u8 0),.d (.i .u8 0),.d (.i .u8 0),.d (.i .u8 0),.d (.i .u8 0),.d (.i .u8 0),.d (.i .u8 0),.d (.i .u8 0),.d (.i .u8 0),.d (.i .u8 0),.d (.i .u8 0),.d (.i .u8 0),.d (.i .u8 0)]:=⟨by kernel_rfl,by kernel_rfl,by kernel_rfl,by kernel_rfl⟩
theorem laidOut:laidOutB Tryz.prog=true:=by kernel_rfl
theorem own:ownKnob Tryz.prog.godebug=none:=by kernel_rfl
attribute [go_sem] ty1 Tryz.underlying1 ty2 Tryz.underlying2 ty3 Tryz.underlying3 ty4 Tryz.underlying4 acM ty5 Tryz.underlying5 ty9 Tryz.underlying9 aeN Tryz.underlying12 aeO Tryz.underlying20 aeP Tryz.underlying21 aeQ Tryz.underlying22 aeR Tryz.underlying23 aeS Tryz.underlying24 aeT Tryz.underlying25 aeU Tryz.underlying26 aeV Tryz.underlying27 aeW Tryz.underlying28 aeX Tryz.underlying29 aeY Tryz.underlying30 aeZ Tryz.underlying31 ae0 Tryz.underlying32 ae1 Tryz.underlying34 ae2 Tryz.underlying35 ae3 Tryz.underlying36 ae4 Tryz.underlying37 ae5 Tryz.underlying38 ae6 Tryz.underlying39 ae7 Tryz.underlying40 ae8 Tryz.underlying41 ae9 Tryz.underlying42 afa Tryz.underlying43 afb Tryz.underlying44 afc Tryz.underlying46 afd Tryz.underlying47 afe Tryz.underlying48 aff Tryz.underlying49 afg Tryz.underlying50 afh Tryz.underlying51 afi Tryz.underlying52 afj Tryz.underlying53 afk Tryz.underlying54 afl Tryz.underlying55 afm Tryz.underlying56 afn Tryz.underlying57 afo Tryz.underlying58 afp Tryz.underlying59 afq Tryz.underlying60 afr Tryz.underlying61 afs Tryz.underlying63 aft Tryz.underlying64 afu Tryz.underlying65 afv Tryz.underlying66 afw Tryz.underlying67 afx Tryz.underlying68 afy Tryz.underlying69 afz Tryz.underlying71 afA Tryz.underlying75 afB Tryz.underlying76 afC Tryz.underlying77 afD Tryz.underlying78 afE Tryz.underlying80 afF Tryz.underlying81 afG Tryz.underlying82 afH Tryz.underlying83 afI Tryz.underlying84 afJ Tryz.underlying85 afK Tryz.underlying90 afL Tryz.underlying91 afM Tryz.underlying92 afN Tryz.underlying95 afO Tryz.underlying96 afP Tryz.underlying97 acN Tryz.underlying108 acO Tryz.underlying109 acP Tryz.underlying110 acQ Tryz.underlying119 acR Tryz.underlying127 acS Tryz.underlying128 acT Tryz.underlying129 acU Tryz.underlying140 acV Tryz.underlying145 acW Tryz.underlying154 acX Tryz.underlying155 acY Tryz.underlying165 acZ Tryz.underlying166 ac0 Tryz.underlying171 ac1 Tryz.underlying172 ac2 Tryz.underlying177 ac3 Tryz.underlying178 ac4 Tryz.underlying179 ac5 Tryz.underlying181 ac6 Tryz.underlying182 ac7 Tryz.underlying183 ac8 Tryz.underlying185 ac9 Tryz.underlying186 ada Tryz.underlying187 adb Tryz.underlying188 ade Tryz.underlying190 adf Tryz.underlying191 adg Tryz.underlying192 adh Tryz.underlying195 adi Tryz.underlying201 adj Tryz.underlying202 adk Tryz.underlying211 adl Tryz.underlying219 adn Tryz.underlying220 ado Tryz.underlying222 adp Tryz.underlying223 adq Tryz.underlying226 adr Tryz.underlying227 ads Tryz.underlying228 adt Tryz.underlying229 adu Tryz.underlying233 adv Tryz.underlying246 adw Tryz.underlying247 adx Tryz.underlying262 ady Tryz.underlying280 adz Tryz.underlying285 adA Tryz.underlying286 adB Tryz.underlying290 adC Tryz.underlying297 adD Tryz.underlying298 adE Tryz.underlying301 adF Tryz.underlying304 adG Tryz.underlying306 adH Tryz.underlying309 adI Tryz.underlying310 adJ Tryz.underlying312 adK Tryz.underlying313 adL Tryz.underlying315 adM Tryz.underlying316 adN Tryz.underlying318 adO Tryz.underlying319 adP Tryz.underlying321 adQ Tryz.underlying322 adR Tryz.underlying358 adS Tryz.underlying359 adT Tryz.underlying364 adU Tryz.underlying369 adV Tryz.underlying371 adW Tryz.underlying376 adX Tryz.underlying377 adY Tryz.underlying378 adZ Tryz.underlying383 ad1 Tryz.underlying388 ad2 Tryz.underlying389
end Go.Proofs.YtlmhknhlmicmeaaGreatDoor.Fa
namespace Go.Proofs.YtlmhknhlmicmeaaGreatDoor
open Go Go.Ab
theorem x9(xs ys:List (List UInt8))(hsz:xs.length≤1073741824):aI Tryz.prog 77 [.c (.d (.sl (xs.map encS))),.c (.d (.sl (ys.map encS)))] (.c (.d (.b (dec (xs=ys))))):=by
 intro S
 refine aF (rs:=[.tmp 4]) Tryz.checked.mixed Tryz.func77 Tryz.ntmps77 rfl rfl rfl rfl rfl ?_
 simp -implicitDefEqProofs (disch:=omega) only[go_sem]
 with_reducible refine aA (fun hb=> ?_) (fun hb=> ?_)<;>have h:=hb<;>(try simp only[wf_preprocess] at h)<;>simp -implicitDefEqProofs (disch:=omega) only[go_sem,hb]<;>(repeat(with_reducible refine And.intro ?_ ?_;focus first|omega|rfl|assumption|exact⟨_,rfl,rfl⟩|(simp;omega)|(simp;done)))
 ·exact aD (aL (fun e=>h (by rw[e]))).symm
 have hl:xs.length=ys.length:=by omega
 refine aX (ι:=Nat) Tryz.checked.mixed rfl [0,1,5] (fun y=>[.c (.d (.sl (xs.map encS))),.c (.d (.sl (ys.map encS))),.c (.d (.i .i64 y))]) (fun y=>[]::S)
  (fun i=>i≤xs.length∧∀j,j<i→xs[j]? =ys[j]?) (fun y=>xs.length-y) 0 rfl rfl ⟨Nat.zero_le _,fun j h=>by omega⟩ ?_
 rintro i ⟨p1,p2⟩
 simp -implicitDefEqProofs (disch:=omega) only[go_sem]
 with_reducible refine aA (fun hb=> ?_) (fun hb=> ?_)<;>have h:=hb<;>(try simp only[wf_preprocess] at h)<;>simp -implicitDefEqProofs (disch:=omega) only[go_sem,hb]<;>(repeat(with_reducible refine And.intro ?_ ?_;focus first|omega|rfl|assumption|exact⟨_,rfl,rfl⟩|(simp;omega)|(simp;done)))
 ·have hi:i<xs.length:=by omega
  have hi':i<ys.length:=by omega
  (repeat(with_reducible refine And.intro ?_ ?_;focus first|omega|rfl|assumption|exact⟨_,rfl,rfl⟩|(simp;omega)|(simp;done)))
  with_reducible refine aA (fun hb=> ?_) (fun hb=> ?_)<;>have h:=hb<;>(try simp only[wf_preprocess] at h)<;>simp -implicitDefEqProofs (disch:=omega) only[go_sem,hb]<;>(repeat(with_reducible refine And.intro ?_ ?_;focus first|omega|rfl|assumption|exact⟨_,rfl,rfl⟩|(simp;omega)|(simp;done)))
  ·exact aD (aL (fun e=>h (by simp only[e]))).symm
  refine bI (i+1) (by omega) rfl rfl ⟨by omega,fun j hj=> ?_⟩
  by_cases e:j=i
  ·subst e
   rw[List.getElem?_eq_getElem hi,List.getElem?_eq_getElem hi',h]
  ·exact p2 j (by omega)
 ·have hi:i=xs.length:=by omega
  refine aD (bC (List.ext_getElem? fun j=> ?_)).symm
  by_cases hj:j<i
  ·exact p2 j hj
  ·rw[List.getElem?_eq_none (by omega),List.getElem?_eq_none (by omega)]
end Go.Proofs.YtlmhknhlmicmeaaGreatDoor
namespace Go.Ab
def Az(n:Nat)(out:List UInt8):List UInt8:=if h:n=0 then out else Az (n/10) (UInt8.ofNat (48+n % 10)::out)
termination_by n
decreasing_by omega
def gN(k:Int):List UInt8:=if k≤0 then [109,48] else 109::Az k.toNat []
theorem U1{out:List UInt8}:Az 0 out=out:=by rw[Az];simp
theorem Ya{n:Nat}{out:List UInt8}(h:n≠0):Az n out=Az (n/10) (UInt8.ofNat (48+n % 10)::out):=by rw[Az];simp[h]
mutual
def lT:D→Nat
 | .sl es=>aC es
 | .b _=>1
 | .i _ _=>1
 | .s _=>1
 | .o _=>0
 | .ol _ _=>0
def lU:List D→Nat
 |[]=>0
 |d::ds=>lT d+lU ds
def aC:List (List D)→Nat
 |[]=>0
 |r::rs=>lU r+aC rs
end
mutual
def Bv:D→Int→D
 | .sl es,k=>.sl (cZ es k)
 | .b _,k=>.b (decide (k.tmod 3=0))
 | .i kd _,k=>.i kd k
 | .s _,k=>.s (gN k)
 | .o v,_=>.o v
 | .ol n es,_=>.ol n es
def oz:List D→Int→List D
 |[],_=>[]
 |d::ds,k=>Bv d k::oz ds (k+lT d)
def cZ:List (List D)→Int→List (List D)
 |[],_=>[]
 |r::rs,k=>oz r k::cZ rs (k+lU r)
end
mutual
def sN:D→Bool
 | .sl es=>ji es
 | .b _=>true
 | .i _ _=>true
 | .s _=>true
 | .o _=>true
 | .ol _ _=>true
def iU:List D→Bool
 |[]=>true
 |d::ds=>sN d&&iU ds
def ji:List (List D)→Bool
 |[]=>true
 |r::rs=>decide (r.length≤32)&&iU r&&ji rs
end
mutual
theorem ad3:∀d:D,sN d=true→lT d≤32*d.sz+1
 | .sl es,h=>by
   have:=U2 es (by simpa [sN] using h)
   simp only[lT,D.sz];omega
 | .b _,_=>by simp[lT]
 | .i _ _,_=>by simp[lT]
 | .s _,_=>by simp[lT]
 | .o _,_=>by simp[lT]
 | .ol _ _,_=>by simp[lT]
theorem Gn:∀r:List D,iU r=true→lU r≤32*bO r+r.length
 |[],_=>by simp[lU]
 |d::ds,h=>by
  rw[iU,Bool.and_eq_true] at h
  have h1:=ad3 d h.1
  have h2:=Gn ds h.2
  simp only[lU,bO,List.length_cons];omega
theorem U2:∀rs:List (List D),ji rs=true→aC rs≤32*(rs.length+bF rs)
 |[],_=>by simp[aC]
 |r::rs,h=>by
  rw[ji,Bool.and_eq_true,Bool.and_eq_true,decide_eq_true_eq] at h
  have h1:=Gn r h.1.2
  have h2:=U2 rs h.2
  simp only[aC,bF,List.length_cons];omega
end
theorem fM:∀a b,iU (a++b)=(iU a&&iU b)
 |[],b=>by simp[iU]
 |d::ds,b=>by rw[List.cons_append,iU,iU,fM ds b,Bool.and_assoc]
theorem jw{α:Type}{f:α→List D}:∀{xs:List α},(∀x∈xs,iU (f x)=true∧(f x).length≤32)→ji (xs.map f)=true
 |[],_=>rfl
 |x::xs,h=>by
  rw[List.map_cons,ji,(h x (by simp)).1,jw fun y hy=>h y (by simp[hy]),decide_eq_true (h x (by simp)).2];rfl
theorem zl:∀a b,aC (a++b)=aC a+aC b
 |[],b=>by simp[aC]
 |d::ds,b=>by rw[List.cons_append,aC,aC,zl ds b];omega
theorem En:∀a b k,cZ (a++b) k=cZ a k++cZ b (k+aC a)
 |[],b,k=>by simp[cZ,aC]
 |d::ds,b,k=>by rw[List.cons_append,cZ,cZ,En ds b,aC];simp only[List.cons_append,Int.natCast_add,Int.add_assoc]
theorem bE:∀rs k,(cZ rs k).length=rs.length
 |[],_=>rfl
 |r::rs,k=>by rw[cZ,List.length_cons,bE rs,List.length_cons]
theorem MO{rows:List (List D)}{i:Nat}(hi:i<rows.length):rows.take (i+1)=rows.take i++[rows[i]]:=List.take_succ_eq_append_getElem hi
theorem kY{rows:List (List D)}{i:Nat}(hi:i<rows.length):aC (rows.take (i+1))=aC (rows.take i)+lU rows[i]:=by
 rw[MO hi,zl];simp[aC]
theorem nY{rows:List (List D)}{i:Nat}:aC (rows.take i)≤aC rows:=by
 have:=zl (rows.take i) (rows.drop i)
 rw[List.take_append_drop] at this
 omega
def nH(rows:List (List D))(k:Int)(i:Nat):List (List D):=cZ (rows.take i) k++rows.drop i
theorem sO{rows:List (List D)}{k:Int}:nH rows k 0=rows:=by simp[nH,cZ]
theorem uP{rows:List (List D)}{k:Int}{i:Nat}(h:rows.length≤i):nH rows k i=cZ rows k:=by
 unfold nH;rw[List.take_of_length_le h,List.drop_of_length_le h,List.append_nil]
theorem jN{rows:List (List D)}{k:Int}{i:Nat}:(nH rows k i).length=rows.length:=by
 unfold nH;rw[List.length_append,bE,List.length_take,List.length_drop];omega
theorem Yb{rows:List (List D)}{k:Int}{i:Nat}(hi:i<rows.length):(nH rows k i).getD i []=rows[i]:=by
 unfold nH
 rw[List.getD_eq_getElem?_getD,List.getElem?_append_right (by rw[bE,List.length_take];omega),bE,List.length_take,List.getElem?_drop]
 rw[show i+(i-min i rows.length)=i by omega,List.getElem?_eq_getElem hi];rfl
theorem Yc{rows:List (List D)}{k:Int}{i:Nat}(hi:i<rows.length):(nH rows k i).set i (oz rows[i] (k+aC (rows.take i)))=nH rows k (i+1):=by
 unfold nH
 have hl:(cZ (rows.take i) k).length=i:=by rw[bE,List.length_take];omega
 rw[List.set_append_right _ _ (by omega),hl,Nat.sub_self,List.drop_eq_getElem_cons hi,List.set_cons_zero,MO hi,En,List.append_assoc]
 rfl
def jW(rows:List (List D))(k:Int)(i:Nat)(row:List D):List (List D):=(nH rows k i).set i row
theorem bS{rows:List (List D)}{k:Int}{i:Nat}{row:List D}:(jW rows k i row).length=rows.length:=by unfold jW;rw[List.length_set,jN]
theorem rU{rows:List (List D)}{k:Int}{i:Nat}{row:List D}(hi:i<rows.length):(jW rows k i row).getD i []=row:=by
 unfold jW
 rw[List.getD_eq_getElem?_getD,List.getElem?_set_self (by rw[jN];exact hi)];rfl
theorem oC{rows:List (List D)}{k:Int}{i o:Nat}{row:List D}(hi:i<rows.length):cellAt (jW rows k i row) i o=row[o]? :=by
 unfold jW cellAt
 rw[List.getElem?_set_self (by rw[jN];exact hi),Option.bind_some]
theorem dJ{rows:List (List D)}{k:Int}{i:Nat}{row row':List D}:(jW rows k i row).set i row'=jW rows k i row':=by unfold jW;rw[List.set_set]
theorem xu{rows:List (List D)}{k:Int}{i:Nat}(hi:i<rows.length):nH rows k i=jW rows k i rows[i]:=by
 have h:=Yb (k:=k) hi
 have hl:i<(nH rows k i).length:=by rw[jN];exact hi
 rw[List.getD_eq_getElem?_getD,List.getElem?_eq_getElem hl,Option.getD_some] at h
 unfold jW
 rw[←h,List.set_getElem_self]
theorem xw{rows:List (List D)}{k:Int}{i:Nat}(hi:i<rows.length):jW rows k i (oz rows[i] (k+aC (rows.take i)))=nH rows k (i+1):=Yc hi
theorem Z4{rs:List (List (List D))}{r:Nat}{p:List (Nat×Nat)}{rows es:List (List D)}{k:Int}{i o:Nat}{row:List D}(hp:atR rs r p=some rows)(hi:i<rows.length)(h:row[o]? =some (.sl es)):
 atR (dN rs r p (jW rows k i row)) r (p++[(i,o)])=some es:=jv (qI hp) (by rw[oC hi,h])
theorem Yd{rs:List (List (List D))}{r:Nat}{p:List (Nat×Nat)}{rows es new:List (List D)}{k:Int}{i o:Nat}{row:List D}(hp:atR rs r p=some rows)(hi:i<rows.length)(h:row[o]? =some (.sl es)):
 dN (dN rs r p (jW rows k i row)) r (p++[(i,o)]) new=dN rs r p (jW rows k i (row.set o (.sl new))):=by
 rw[U0 (qI hp) (by rw[oC hi,h]),qJ hp,rU hi,dJ]
theorem mH:∀{rows:List (List D)} {k:Int} {i:Nat} (hi:i<rows.length),(cZ rows k).getD i []=oz rows[i] (k+aC (rows.take i))
 |r::rows,k,0,_=>by simp[cZ,aC]
 |r::rows,k,i+1,hi=>by
  have:=mH (rows:=rows) (k:=k+lU r) (i:=i) (by simpa using hi)
  rw[cZ,List.getD_cons_succ,this,List.getElem_cons_succ,List.take_succ_cons,aC,Int.natCast_add,Int.add_assoc]
theorem pq{α:Type}{f:α→List D}(h:∀x,1≤lU (f x)):∀xs:List α,xs.length≤aC (xs.map f)
 |[]=>Nat.zero_le _
 |x::xs=>by
  have h1:=h x
  have h2:=pq h xs
  rw[List.map_cons,aC,List.length_cons]
  omega
theorem mI{P:Program}{f:FuncId}{S:Store}{l j r i o:Nat}{p:List (Nat×Nat)}{rs:List (List (List D))}{rows es new:List (List D)}{row:List D}{k:Int}{args:List V}{R:V}
 (hS:aU S (l,j)=some (.xf rs)) (hp:atR rs r p=some rows) (hi:i<rows.length) (h:row[o]? =some (.sl es))
 (hA:∀(S':Store) (rs':List (List (List D))),aU S' (1+l,j)=some (.xf rs')→atR rs' r (p++[(i,o)])=some es→bD P f args S' (fun res Bl=>res=R∧Bl=aY S' (1+l,j) (.xf (dN rs' r (p++[(i,o)]) new)))):
 bD P f args ([]::aY S (l,j) (.xf (dN rs r p (jW rows k i row)))) (fun res Bl=>res=R∧Bl=[]::aY S (l,j) (.xf (dN rs r p (jW rows k i (row.set o (.sl new)))))):=by
 refine(hA _ _ (by rw[fV];exact bZ _ _ _ _ hS) (Z4 (k:=k) hp hi h)).mono fun res Bl ⟨h1,h2⟩=>⟨h1,?_⟩
 rw[h2,xV,bK,Yd hp hi h]
theorem MP:∀{rows:List (List D)} {n i:Nat} (hi:i<rows.length),(eX rows n)[i]? =some (eH rows[i] (n+jU (rows.take i)))
 |r::rows,n,0,_=>by simp[eX,jU]
 |r::rows,n,i+1,hi=>by
  have:=MP (rows:=rows) (n:=n+nV r) (i:=i) (by simpa using hi)
  rw[eX,List.getElem?_cons_succ,this,List.getElem_cons_succ,List.take_succ_cons,jU,Nat.add_assoc]
theorem MQ:∀row:List D,(row.map C.d).mapM FC=some row
 |[]=>rfl
 |d::row=>by
  have:=MQ row
  rw[List.map_cons,List.mapM_cons,this];rfl
theorem iQ{a:Int}(h:0≤a):decide (a<0)=false:=decide_eq_false (by omega)
end Go.Ab
namespace Go.Proofs.YtlmhknhlmicmeaaGreatDoor
open Go Go.Ab
theorem dw(k:Int)(hk: -9223372036854775808≤k∧k≤4611686018427387904):aI Tryz.prog 181 [.c (.d (.i .i64 k))] (.c (.d (.s (gN k)))):=fun S=>by
 refine aF (rs:=[.tmp 2]) Tryz.checked.mixed Tryz.func181 Tryz.ntmps181 rfl rfl rfl rfl rfl ?_
 simp -implicitDefEqProofs (disch:=omega) only[go_sem]
 with_reducible refine aA (fun hb=> ?_) (fun hb=> ?_)<;>have h:=hb<;>(try simp only[wf_preprocess] at h)<;>simp -implicitDefEqProofs (disch:=omega) only[go_sem,hb]<;>(repeat(with_reducible refine And.intro ?_ ?_;focus first|omega|rfl|assumption|exact⟨_,rfl,rfl⟩|(simp;omega)|(simp;done)))
 ·unfold gN;rw[if_pos h]
 have hpos:¬k≤0:=h
 refine aX (ι:=Int×List UInt8) Tryz.checked.mixed rfl [0,3] (fun y=>[.c (.d (.i .i64 y.1)),.c (.d (.s y.2))]) (fun _=>[]::S)
  (fun y=>0≤y.1∧Az y.1.toNat y.2=Az k.toNat []∧y.1≤k∧y.1.toNat*2^y.2.length≤4611686018427387904∧y.2.length≤63) (fun y=>y.1.toNat) (k,[]) rfl rfl ⟨by simp only;omega,rfl,by simp only;omega,by simp only[List.length_nil];omega,by simp⟩ ?_
 rintro⟨n,out⟩ ⟨p1,p2,p3,p4,p5⟩
 simp only at p1 p2 p3 p4 p5
 simp -implicitDefEqProofs (disch:=omega) only[go_sem]
 with_reducible refine aA (fun hb=> ?_) (fun hb=> ?_)<;>have h:=hb<;>(try simp only[wf_preprocess] at h)<;>simp -implicitDefEqProofs (disch:=omega) only[go_sem,hb]<;>(repeat(with_reducible refine And.intro ?_ ?_;focus first|omega|rfl|assumption|exact⟨_,rfl,rfl⟩|(simp;omega)|(simp;done)))
 ·have hn:n.toNat≠0:=by omega
  have hm:=Int.tmod_nonneg 10 p1
  have hm2:=Int.tmod_lt_of_pos n (show(0:Int)<10 by omega)
  have hm3:n.tmod 10=(n.toNat % 10:Nat):=by
   rw[Int.tmod_eq_emod_of_nonneg p1]
   omega
  have hq:n.tdiv 10=(n.toNat/10:Nat):=by
   rw[Int.tdiv_eq_ediv_of_nonneg p1]
   omega
  have hlen:out.length≤62:=by
   refine Nat.le_of_not_lt fun hgt=> ?_
   have h1:2^63≤2^out.length:=Nat.pow_le_pow_right (by omega) (by omega)
   have h2:1*2^out.length≤n.toNat*2^out.length:=Nat.mul_le_mul_right _ (by omega)
   omega
  simp -implicitDefEqProofs (disch:=omega) only[go_sem]
  have hc:UInt8.ofNat (IntKind.u8.wrap (48+n.tmod 10)).toNat=UInt8.ofNat (48+n.toNat % 10):=by
   rw[wrap_u8 _ (by omega),hm3]
   congr 1
  refine bI (ι:=Int×List UInt8) (n.tdiv 10,UInt8.ofNat (48+n.toNat % 10)::out) (by simp only;omega) (by rw[←hc];rfl) rfl ?_
  have hq2:(n.tdiv 10).toNat=n.toNat/10:=by omega
  refine⟨by simp only;omega,?_,by simp only;omega,?_,by simp only[List.length_cons];omega⟩
  ·simp only
   rw[hq2,←Ya hn,p2]
  ·simp only[List.length_cons]
   rw[hq2,Nat.pow_succ]
   have:n.toNat/10*2≤n.toNat:=by omega
   calc n.toNat/10*(2^out.length*2)=n.toNat/10*2*2^out.length:=by rw[Nat.mul_comm (2^out.length) 2,Nat.mul_assoc]
    _≤n.toNat*2^out.length:=Nat.mul_le_mul_right _ this
    _≤_:=p4
 ·have:n.toNat=0:=by omega
  rw[this,U1] at p2
  unfold gN
  rw[if_neg hpos,p2]
end Go.Proofs.YtlmhknhlmicmeaaGreatDoor
namespace Go.Ab
theorem sP(xs:List (List UInt8)):iP (xs.map encS)=true:=jr fun _ _=>rfl
theorem sQ(xs:List (List UInt8)):ji (xs.map encS)=true:=jw fun _ _=>⟨rfl,by simp[encS]⟩
theorem AA:∀(xs:List (List UInt8)) (n:Nat),eX (xs.map encS) n=xs.map encS
 |[],_=>rfl
 |x::xs,n=>by rw[List.map_cons,eX,AA xs];rfl
mutual
theorem aj.eY:∀x:aj,iC x.enc=true∧iU x.enc=true
 | .mk a0 a1 a2=>by simp only[aj.enc,iC,ow,iU,sN,fK,fM,Bool.and_true,Bool.true_and,Bool.and_self,and_self,and_true,true_and,(aj.mJ a2).1,(aj.mJ a2).2]
theorem aj.mJ:∀xs:List aj,iP (aj.encs xs)=true∧ji (aj.encs xs)=true
 |[]=>⟨rfl,rfl⟩
 |x::xs=>by
  have h:decide ((aj.enc x).length≤32)=true:=by rw[aj.bG];rfl
  simp only[aj.encs,iP,ji,h,(aj.eY x).1,(aj.eY x).2,(aj.mJ xs).1,(aj.mJ xs).2,Bool.and_self,and_self]
end
theorem aj.gH(xs:List aj):iP (xs.map aj.enc)=true∧ji (xs.map aj.enc)=true:=by rw[←aj.iI];exact aj.mJ xs
theorem cu.eY(x:cu):iC x.enc=true∧iU x.enc=true:=by
 rw[cu.aH];simp only[List.cons_append,List.nil_append,iC,ow,iU,sN,fK,fM,Bool.and_true,Bool.true_and,Bool.and_self,and_self,and_true,true_and,(aj.eY x.fType).1,(aj.eY x.fType).2]
theorem cu.gH(xs:List cu):iP (xs.map cu.enc)=true∧ji (xs.map cu.enc)=true:=⟨jr fun x _=>x.eY.1,jw fun x _=>⟨x.eY.2,by rw[cu.bG];decide⟩⟩
theorem dG.eY(x:dG):iC x.enc=true∧iU x.enc=true:=by
 rw[dG.aH];simp only[List.cons_append,List.nil_append,iC,ow,iU,sN,fK,fM,Bool.and_true,Bool.true_and,Bool.and_self,and_self,and_true,true_and,(aj.eY x.fType).1,(aj.eY x.fType).2]
theorem dG.gH(xs:List dG):iP (xs.map dG.enc)=true∧ji (xs.map dG.enc)=true:=⟨jr fun x _=>x.eY.1,jw fun x _=>⟨x.eY.2,by rw[dG.bG];decide⟩⟩
mutual
theorem au.eY:∀x:au,iC x.enc=true∧iU x.enc=true
 | .mk a0 a1 a2 a3 a4 a5 a6=>by simp only[au.enc,iC,ow,iU,sN,fK,fM,Bool.and_true,Bool.true_and,Bool.and_self,and_self,and_true,true_and,(aj.eY a4).1,(aj.eY a4).2,(au.mJ a5).1,(au.mJ a5).2,(aJ.mJ a6).1,(aJ.mJ a6).2]
theorem au.mJ:∀xs:List au,iP (au.encs xs)=true∧ji (au.encs xs)=true
 |[]=>⟨rfl,rfl⟩
 |x::xs=>by
  have h:decide ((au.enc x).length≤32)=true:=by rw[au.bG];rfl
  simp only[au.encs,iP,ji,h,(au.eY x).1,(au.eY x).2,(au.mJ xs).1,(au.mJ xs).2,Bool.and_self,and_self]
theorem aJ.eY:∀x:aJ,iC x.enc=true∧iU x.enc=true
 | .mk a0 a1 a2=>by simp only[aJ.enc,iC,ow,iU,sN,fK,fM,Bool.and_true,Bool.true_and,Bool.and_self,and_self,and_true,true_and,sP a1,sQ a1,(au.eY a2).1,(au.eY a2).2]
theorem aJ.mJ:∀xs:List aJ,iP (aJ.encs xs)=true∧ji (aJ.encs xs)=true
 |[]=>⟨rfl,rfl⟩
 |x::xs=>by
  have h:decide ((aJ.enc x).length≤32)=true:=by rw[aJ.bG];rfl
  simp only[aJ.encs,iP,ji,h,(aJ.eY x).1,(aJ.eY x).2,(aJ.mJ xs).1,(aJ.mJ xs).2,Bool.and_self,and_self]
end
theorem au.gH(xs:List au):iP (xs.map au.enc)=true∧ji (xs.map au.enc)=true:=by rw[←au.iI];exact au.mJ xs
theorem aJ.gH(xs:List aJ):iP (xs.map aJ.enc)=true∧ji (xs.map aJ.enc)=true:=by rw[←aJ.iI];exact aJ.mJ xs
mutual
theorem ah.eY:∀x:ah,iC x.enc=true∧iU x.enc=true
 | .mk a0 a1=>by simp only[ah.enc,iC,ow,iU,sN,fK,fM,Bool.and_true,Bool.true_and,Bool.and_self,and_self,and_true,true_and,(ah.mJ a1).1,(ah.mJ a1).2]
theorem ah.mJ:∀xs:List ah,iP (ah.encs xs)=true∧ji (ah.encs xs)=true
 |[]=>⟨rfl,rfl⟩
 |x::xs=>by
  have h:decide ((ah.enc x).length≤32)=true:=by rw[ah.bG];rfl
  simp only[ah.encs,iP,ji,h,(ah.eY x).1,(ah.eY x).2,(ah.mJ xs).1,(ah.mJ xs).2,Bool.and_self,and_self]
end
theorem ah.gH(xs:List ah):iP (xs.map ah.enc)=true∧ji (xs.map ah.enc)=true:=by rw[←ah.iI];exact ah.mJ xs
theorem aG.eY(x:aG):iC x.enc=true∧iU x.enc=true:=by
 rw[aG.aH];simp only[List.cons_append,List.nil_append,iC,ow,iU,sN,fK,fM,Bool.and_true,Bool.true_and,Bool.and_self,and_self,and_true,true_and,(aj.gH x.aT).1,(aj.gH x.aT).2,(aj.eY x.aW).1,(aj.eY x.aW).2,sP x.aN,sQ x.aN,(au.eY x.fBody).1,(au.eY x.fBody).2]
theorem aG.gH(xs:List aG):iP (xs.map aG.enc)=true∧ji (xs.map aG.enc)=true:=⟨jr fun x _=>x.eY.1,jw fun x _=>⟨x.eY.2,by rw[aG.bG];decide⟩⟩
theorem aZ.eY(x:aZ):iC x.enc=true∧iU x.enc=true:=by
 rw[aZ.aH];simp only[List.cons_append,List.nil_append,iC,ow,iU,sN,fK,fM,Bool.and_true,Bool.true_and,Bool.and_self,and_self,and_true,true_and,sP x.aR,sQ x.aR,(aG.gH x.aB).1,(aG.gH x.aB).2]
theorem aZ.gH(xs:List aZ):iP (xs.map aZ.enc)=true∧ji (xs.map aZ.enc)=true:=⟨jr fun x _=>x.eY.1,jw fun x _=>⟨x.eY.2,by rw[aZ.bG];decide⟩⟩
theorem bJ.eY(x:bJ):iC x.enc=true∧iU x.enc=true:=by
 rw[bJ.aH];simp only[List.cons_append,List.nil_append,iC,ow,iU,sN,fK,fM,Bool.and_true,Bool.true_and,Bool.and_self,and_self,and_true,true_and,(aj.gH x.nT).1,(aj.gH x.nT).2]
theorem bJ.gH(xs:List bJ):iP (xs.map bJ.enc)=true∧ji (xs.map bJ.enc)=true:=⟨jr fun x _=>x.eY.1,jw fun x _=>⟨x.eY.2,by rw[bJ.bG];decide⟩⟩
theorem bW.eY(x:bW):iC x.enc=true∧iU x.enc=true:=by
 rw[bW.aH];simp only[List.cons_append,List.nil_append,iC,ow,iU,sN,fK,fM,Bool.and_true,Bool.true_and,Bool.and_self,and_self,and_true,true_and,sP x.aN,sQ x.aN,(bJ.gH x.jm).1,(bJ.gH x.jm).2]
theorem bW.gH(xs:List bW):iP (xs.map bW.enc)=true∧ji (xs.map bW.enc)=true:=⟨jr fun x _=>x.eY.1,jw fun x _=>⟨x.eY.2,by rw[bW.bG];decide⟩⟩
theorem dY.eY(x:dY):iC x.enc=true∧iU x.enc=true:=by
 rw[dY.aH];simp only[List.cons_append,List.nil_append,iC,ow,iU,sN,fK,fM,Bool.and_true,Bool.true_and,Bool.and_self,and_self,and_true,true_and,sP x.aN,sQ x.aN,(au.eY x.fBody).1,(au.eY x.fBody).2]
theorem dY.gH(xs:List dY):iP (xs.map dY.enc)=true∧ji (xs.map dY.enc)=true:=⟨jr fun x _=>x.eY.1,jw fun x _=>⟨x.eY.2,by rw[dY.bG];decide⟩⟩
theorem dh.eY(x:dh):iC x.enc=true∧iU x.enc=true:=by
 rw[dh.aH];simp only[List.cons_append,List.nil_append,iC,ow,iU,sN,fK,fM,Bool.and_true,Bool.true_and,Bool.and_self,and_self,and_true,true_and,sP x.aN,sQ x.aN,(aj.eY x.vo).1,(aj.eY x.vo).2,(dG.gH x.jg).1,(dG.gH x.jg).2,(aj.eY x.eO).1,(aj.eY x.eO).2,(dY.gH x.qD).1,(dY.gH x.qD).2]
theorem dh.gH(xs:List dh):iP (xs.map dh.enc)=true∧ji (xs.map dh.enc)=true:=⟨jr fun x _=>x.eY.1,jw fun x _=>⟨x.eY.2,by rw[dh.bG];decide⟩⟩
theorem dU.eY(x:dU):iC x.enc=true∧iU x.enc=true:=by
 rw[dU.aH];simp only[List.cons_append,List.nil_append,iC,ow,iU,sN,fK,fM,Bool.and_true,Bool.true_and,Bool.and_self,and_self,and_true,true_and,(aj.eY x.fType).1,(aj.eY x.fType).2]
theorem dU.gH(xs:List dU):iP (xs.map dU.enc)=true∧ji (xs.map dU.enc)=true:=⟨jr fun x _=>x.eY.1,jw fun x _=>⟨x.eY.2,by rw[dU.bG];decide⟩⟩
theorem bT.eY(x:bT):iC x.enc=true∧iU x.enc=true:=by
 rw[bT.aH];simp only[List.cons_append,List.nil_append,iC,ow,iU,sN,fK,fM,Bool.and_true,Bool.true_and,Bool.and_self,and_self,and_true,true_and,sP x.aN,sQ x.aN,(dG.gH x.jg).1,(dG.gH x.jg).2,(dU.gH x.aT).1,(dU.gH x.aT).2,(aj.eY x.aW).1,(aj.eY x.aW).2,(au.eY x.fBody).1,(au.eY x.fBody).2]
theorem bT.gH(xs:List bT):iP (xs.map bT.enc)=true∧ji (xs.map bT.enc)=true:=⟨jr fun x _=>x.eY.1,jw fun x _=>⟨x.eY.2,by rw[bT.bG];decide⟩⟩
theorem dK.eY(x:dK):iC x.enc=true∧iU x.enc=true:=by
 rw[dK.aH];simp only[List.cons_append,List.nil_append,iC,ow,iU,sN,fK,fM,Bool.and_true,Bool.true_and,Bool.and_self,and_self,and_true,true_and,sP x.yM,sQ x.yM,(aZ.gH x.sH).1,(aZ.gH x.sH).2,(bW.gH x.mY).1,(bW.gH x.mY).2,(dh.gH x.mZ).1,(dh.gH x.mZ).2,(bT.gH x.ng).1,(bT.gH x.ng).2]
theorem dK.gH(xs:List dK):iP (xs.map dK.enc)=true∧ji (xs.map dK.enc)=true:=⟨jr fun x _=>x.eY.1,jw fun x _=>⟨x.eY.2,by rw[dK.bG];decide⟩⟩
theorem eG.eY(x:eG):iC x.enc=true∧iU x.enc=true:=by
 rw[eG.aH];simp only[List.cons_append,List.nil_append,iC,ow,iU,sN,fK,fM,Bool.and_true,Bool.true_and,Bool.and_self,and_self,and_true,true_and,(dK.gH x.ou).1,(dK.gH x.ou).2]
theorem eG.gH(xs:List eG):iP (xs.map eG.enc)=true∧ji (xs.map eG.enc)=true:=⟨jr fun x _=>x.eY.1,jw fun x _=>⟨x.eY.2,by rw[eG.bG];decide⟩⟩
theorem bV.eY(x:bV):iC x.enc=true∧iU x.enc=true:=by
 rw[bV.aH];simp only[List.cons_append,List.nil_append,iC,ow,iU,sN,fK,fM,Bool.and_true,Bool.true_and,Bool.and_self,and_self,and_true,true_and]
theorem bV.gH(xs:List bV):iP (xs.map bV.enc)=true∧ji (xs.map bV.enc)=true:=⟨jr fun x _=>x.eY.1,jw fun x _=>⟨x.eY.2,by rw[bV.bG];decide⟩⟩
end Go.Ab
namespace Go.Proofs.YtlmhknhlmicmeaaGreatDoor
open Go Go.Ab
theorem AB:∀n:Nat,(∀x:aj,SizeOf.sizeOf x<n→∀y:aj,x.sz≤1048576→aI Tryz.prog 100 [x.v,y.v] (.c (.d (.b (dec (x=y))))))∧
 (∀xs:List aj,SizeOf.sizeOf xs<n→∀ys:List aj,xs.length+bF (xs.map aj.enc)≤1048576→aI Tryz.prog 192 [.c (.d (.sl (xs.map aj.enc))),.c (.d (.sl (ys.map aj.enc)))] (.c (.d (.b (dec (xs=ys))))))
 |0=>⟨fun x h=>by omega,fun x h=>by omega⟩
 |n+1=>by
  obtain⟨Co,Z5⟩:=AB n
  refine⟨fun x hn y hsz S=> ?_,fun xs hn ys hsz S=> ?_⟩
  ·have gZ:=aj.fq x
   simp only[aj.sz,aj.aH,bO,bN,D.sz,List.length_map] at hsz
   refine aF (rs:=[.tmp 4]) Tryz.checked.mixed Tryz.func100 Tryz.ntmps100 rfl rfl rfl rfl rfl ?_
   simp -implicitDefEqProofs (disch:=omega) only[go_sem]
   with_reducible refine aA (fun hb=> ?_) (fun hb=> ?_)<;>have h:=hb<;>(try simp only[wf_preprocess] at h)<;>simp -implicitDefEqProofs (disch:=omega) only[go_sem,hb]<;>(repeat(with_reducible refine And.intro ?_ ?_;focus first|omega|rfl|assumption|exact⟨_,rfl,rfl⟩|(simp;omega)|(simp;done)))
   ·exact aD (aL (fun e=>h (by rw[e]))).symm
   have R5:=h
   clear h
   with_reducible refine aA (fun hb=> ?_) (fun hb=> ?_)<;>have h:=hb<;>(try simp only[wf_preprocess] at h)<;>simp -implicitDefEqProofs (disch:=omega) only[go_sem,hb]<;>(repeat(with_reducible refine And.intro ?_ ?_;focus first|omega|rfl|assumption|exact⟨_,rfl,rfl⟩|(simp;omega)|(simp;done)))
   ·exact aD (aL (fun e=>h (by rw[e]))).symm
   have AJ:=h
   clear h
   refine ay (Z5 x.fArgs (by omega) _ (by omega)) ?_
   simp -implicitDefEqProofs (disch:=omega) only[go_sem]
   with_reducible refine aA (fun hb=> ?_) (fun hb=> ?_)<;>have h:=hb<;>(try simp only[wf_preprocess] at h)<;>simp -implicitDefEqProofs (disch:=omega) only[go_sem,hb]<;>(repeat(with_reducible refine And.intro ?_ ?_;focus first|omega|rfl|assumption|exact⟨_,rfl,rfl⟩|(simp;omega)|(simp;done)))
   ·exact aD (aL (fun e=>h (by rw[e]))).symm
   have eArgs:=h
   clear h
   exact aD (bC (aj.ext R5 AJ eArgs)).symm
  ·refine aF (rs:=[.tmp 4]) Tryz.checked.mixed Tryz.func192 Tryz.ntmps192 rfl rfl rfl rfl rfl ?_
   simp -implicitDefEqProofs (disch:=omega) only[go_sem]
   with_reducible refine aA (fun hb=> ?_) (fun hb=> ?_)<;>have h:=hb<;>(try simp only[wf_preprocess] at h)<;>simp -implicitDefEqProofs (disch:=omega) only[go_sem,hb]<;>(repeat(with_reducible refine And.intro ?_ ?_;focus first|omega|rfl|assumption|exact⟨_,rfl,rfl⟩|(simp;omega)|(simp;done)))
   ·exact aD (aL (fun e=>h (by rw[e]))).symm
   have hl:xs.length=ys.length:=by omega
   refine aX (ι:=Nat) Tryz.checked.mixed rfl [0,1,5] (fun y=>[.c (.d (.sl (xs.map aj.enc))),.c (.d (.sl (ys.map aj.enc))),.c (.d (.i .i64 y))]) (fun y=>[]::S)
    (fun i=>i≤xs.length∧∀j,j<i→xs[j]? =ys[j]?) (fun y=>xs.length-y) 0 rfl rfl ⟨Nat.zero_le _,fun j h=>by omega⟩ ?_
   rintro i ⟨p1,p2⟩
   simp -implicitDefEqProofs (disch:=omega) only[go_sem]
   with_reducible refine aA (fun hb=> ?_) (fun hb=> ?_)<;>have h:=hb<;>(try simp only[wf_preprocess] at h)<;>simp -implicitDefEqProofs (disch:=omega) only[go_sem,hb]<;>(repeat(with_reducible refine And.intro ?_ ?_;focus first|omega|rfl|assumption|exact⟨_,rfl,rfl⟩|(simp;omega)|(simp;done)))
   ·have hi:i<xs.length:=by omega
    have hi':i<ys.length:=by omega
    have hx:xs[i].sz≤bF (xs.map aj.enc):=dP (List.mem_map_of_mem (List.getElem_mem hi))
    (repeat(with_reducible refine And.intro ?_ ?_;focus first|omega|rfl|assumption|exact⟨_,rfl,rfl⟩|(simp;omega)|(simp;done)))
    refine ay (Co xs[i] (by have:=List.sizeOf_lt_of_mem (List.getElem_mem hi);omega) ys[i] (by omega)) ?_
    simp -implicitDefEqProofs (disch:=omega) only[go_sem]
    with_reducible refine aA (fun hb=> ?_) (fun hb=> ?_)<;>have h:=hb<;>(try simp only[wf_preprocess] at h)<;>simp -implicitDefEqProofs (disch:=omega) only[go_sem,hb]<;>(repeat(with_reducible refine And.intro ?_ ?_;focus first|omega|rfl|assumption|exact⟨_,rfl,rfl⟩|(simp;omega)|(simp;done)))
    ·exact aD (aL (fun e=>h (by simp only[e]))).symm
    refine bI (i+1) (by omega) rfl rfl ⟨by omega,fun j hj=> ?_⟩
    by_cases e:j=i
    ·subst e
     rw[List.getElem?_eq_getElem hi,List.getElem?_eq_getElem hi',h]
    ·exact p2 j (by omega)
   ·have hi:i=xs.length:=by omega
    refine aD (bC (List.ext_getElem? fun j=> ?_)).symm
    by_cases hj:j<i
    ·exact p2 j hj
    ·rw[List.getElem?_eq_none (by omega),List.getElem?_eq_none (by omega)]
theorem JL(x:aj):∀y:aj,x.sz≤1048576→aI Tryz.prog 100 [x.v,y.v] (.c (.d (.b (dec (x=y))))):=(AB _).1 x (Nat.lt_succ_self _)
theorem R6(xs:List aj):∀ys:List aj,xs.length+bF (xs.map aj.enc)≤1048576→aI Tryz.prog 192 [.c (.d (.sl (xs.map aj.enc))),.c (.d (.sl (ys.map aj.enc)))] (.c (.d (.b (dec (xs=ys))))):=(AB _).2 xs (Nat.lt_succ_self _)
end Go.Proofs.YtlmhknhlmicmeaaGreatDoor
namespace Go.Proofs.YtlmhknhlmicmeaaGreatDoor
open Go Go.Ab
end Go.Proofs.YtlmhknhlmicmeaaGreatDoor
namespace Go.Proofs.YtlmhknhlmicmeaaGreatDoor
open Go Go.Ab
end Go.Proofs.YtlmhknhlmicmeaaGreatDoor
namespace Go.Proofs.YtlmhknhlmicmeaaGreatDoor
open Go Go.Ab
theorem Gp:∀n:Nat,(∀x:au,SizeOf.sizeOf x<n→∀y:au,x.sz≤1048576→aI Tryz.prog 23 [x.v,y.v] (.c (.d (.b (dec (x=y))))))∧
 (∀xs:List au,SizeOf.sizeOf xs<n→∀ys:List au,xs.length+bF (xs.map au.enc)≤1048576→aI Tryz.prog 101 [.c (.d (.sl (xs.map au.enc))),.c (.d (.sl (ys.map au.enc)))] (.c (.d (.b (dec (xs=ys))))))∧
 (∀x:aJ,SizeOf.sizeOf x<n→∀y:aJ,x.sz≤1048576→aI Tryz.prog 193 [x.v,y.v] (.c (.d (.b (dec (x=y))))))∧
 (∀xs:List aJ,SizeOf.sizeOf xs<n→∀ys:List aJ,xs.length+bF (xs.map aJ.enc)≤1048576→aI Tryz.prog 102 [.c (.d (.sl (xs.map aJ.enc))),.c (.d (.sl (ys.map aJ.enc)))] (.c (.d (.b (dec (xs=ys))))))
 |0=>⟨fun x h=>by omega,fun x h=>by omega,fun x h=>by omega,fun x h=>by omega⟩
 |n+1=>by
  obtain⟨vR,nZ,AL,abD⟩:=Gp n
  refine⟨fun x hn y hsz S=> ?_,fun xs hn ys hsz S=> ?_,fun x hn y hsz S=> ?_,fun xs hn ys hsz S=> ?_⟩
  ·have gZ:=au.fq x
   have vw:=au.kJ x
   simp only[au.sz,au.aH,bO,bN,D.sz,List.length_map,aj.dO] at hsz
   refine aF (rs:=[.tmp 4]) Tryz.checked.mixed Tryz.func23 Tryz.ntmps23 rfl rfl rfl rfl rfl ?_
   simp -implicitDefEqProofs (disch:=omega) only[go_sem]
   with_reducible refine aA (fun hb=> ?_) (fun hb=> ?_)<;>have h:=hb<;>(try simp only[wf_preprocess] at h)<;>simp -implicitDefEqProofs (disch:=omega) only[go_sem,hb]<;>(repeat(with_reducible refine And.intro ?_ ?_;focus first|omega|rfl|assumption|exact⟨_,rfl,rfl⟩|(simp;omega)|(simp;done)))
   ·exact aD (aL (fun e=>h (by rw[e]))).symm
   have R5:=h
   clear h
   with_reducible refine aA (fun hb=> ?_) (fun hb=> ?_)<;>have h:=hb<;>(try simp only[wf_preprocess] at h)<;>simp -implicitDefEqProofs (disch:=omega) only[go_sem,hb]<;>(repeat(with_reducible refine And.intro ?_ ?_;focus first|omega|rfl|assumption|exact⟨_,rfl,rfl⟩|(simp;omega)|(simp;done)))
   ·exact aD (aL (fun e=>h (by rw[e]))).symm
   have abE:=h
   clear h
   with_reducible refine aA (fun hb=> ?_) (fun hb=> ?_)<;>have h:=hb<;>(try simp only[wf_preprocess] at h)<;>simp -implicitDefEqProofs (disch:=omega) only[go_sem,hb]<;>(repeat(with_reducible refine And.intro ?_ ?_;focus first|omega|rfl|assumption|exact⟨_,rfl,rfl⟩|(simp;omega)|(simp;done)))
   ·exact aD (aL (fun e=>h (by rw[e]))).symm
   have AJ:=h
   clear h
   with_reducible refine aA (fun hb=> ?_) (fun hb=> ?_)<;>have h:=hb<;>(try simp only[wf_preprocess] at h)<;>simp -implicitDefEqProofs (disch:=omega) only[go_sem,hb]<;>(repeat(with_reducible refine And.intro ?_ ?_;focus first|omega|rfl|assumption|exact⟨_,rfl,rfl⟩|(simp;omega)|(simp;done)))
   ·exact aD (aL (fun e=>h (by rw[e]))).symm
   have eN:=h
   clear h
   refine ay (JL x.fType _ (by omega)) ?_
   simp -implicitDefEqProofs (disch:=omega) only[go_sem]
   with_reducible refine aA (fun hb=> ?_) (fun hb=> ?_)<;>have h:=hb<;>(try simp only[wf_preprocess] at h)<;>simp -implicitDefEqProofs (disch:=omega) only[go_sem,hb]<;>(repeat(with_reducible refine And.intro ?_ ?_;focus first|omega|rfl|assumption|exact⟨_,rfl,rfl⟩|(simp;omega)|(simp;done)))
   ·exact aD (aL (fun e=>h (by rw[e]))).symm
   have eType:=h
   clear h
   refine ay (nZ x.fArgs (by omega) _ (by omega)) ?_
   simp -implicitDefEqProofs (disch:=omega) only[go_sem]
   with_reducible refine aA (fun hb=> ?_) (fun hb=> ?_)<;>have h:=hb<;>(try simp only[wf_preprocess] at h)<;>simp -implicitDefEqProofs (disch:=omega) only[go_sem,hb]<;>(repeat(with_reducible refine And.intro ?_ ?_;focus first|omega|rfl|assumption|exact⟨_,rfl,rfl⟩|(simp;omega)|(simp;done)))
   ·exact aD (aL (fun e=>h (by rw[e]))).symm
   have eArgs:=h
   clear h
   refine ay (abD x.aK (by omega) _ (by omega)) ?_
   simp -implicitDefEqProofs (disch:=omega) only[go_sem]
   with_reducible refine aA (fun hb=> ?_) (fun hb=> ?_)<;>have h:=hb<;>(try simp only[wf_preprocess] at h)<;>simp -implicitDefEqProofs (disch:=omega) only[go_sem,hb]<;>(repeat(with_reducible refine And.intro ?_ ?_;focus first|omega|rfl|assumption|exact⟨_,rfl,rfl⟩|(simp;omega)|(simp;done)))
   ·exact aD (aL (fun e=>h (by rw[e]))).symm
   have ad4:=h
   clear h
   exact aD (bC (au.ext R5 abE AJ eN eType eArgs ad4)).symm
  ·refine aF (rs:=[.tmp 4]) Tryz.checked.mixed Tryz.func101 Tryz.ntmps101 rfl rfl rfl rfl rfl ?_
   simp -implicitDefEqProofs (disch:=omega) only[go_sem]
   with_reducible refine aA (fun hb=> ?_) (fun hb=> ?_)<;>have h:=hb<;>(try simp only[wf_preprocess] at h)<;>simp -implicitDefEqProofs (disch:=omega) only[go_sem,hb]<;>(repeat(with_reducible refine And.intro ?_ ?_;focus first|omega|rfl|assumption|exact⟨_,rfl,rfl⟩|(simp;omega)|(simp;done)))
   ·exact aD (aL (fun e=>h (by rw[e]))).symm
   have hl:xs.length=ys.length:=by omega
   refine aX (ι:=Nat) Tryz.checked.mixed rfl [0,1,5] (fun y=>[.c (.d (.sl (xs.map au.enc))),.c (.d (.sl (ys.map au.enc))),.c (.d (.i .i64 y))]) (fun y=>[]::S)
    (fun i=>i≤xs.length∧∀j,j<i→xs[j]? =ys[j]?) (fun y=>xs.length-y) 0 rfl rfl ⟨Nat.zero_le _,fun j h=>by omega⟩ ?_
   rintro i ⟨p1,p2⟩
   simp -implicitDefEqProofs (disch:=omega) only[go_sem]
   with_reducible refine aA (fun hb=> ?_) (fun hb=> ?_)<;>have h:=hb<;>(try simp only[wf_preprocess] at h)<;>simp -implicitDefEqProofs (disch:=omega) only[go_sem,hb]<;>(repeat(with_reducible refine And.intro ?_ ?_;focus first|omega|rfl|assumption|exact⟨_,rfl,rfl⟩|(simp;omega)|(simp;done)))
   ·have hi:i<xs.length:=by omega
    have hi':i<ys.length:=by omega
    have hx:xs[i].sz≤bF (xs.map au.enc):=dP (List.mem_map_of_mem (List.getElem_mem hi))
    (repeat(with_reducible refine And.intro ?_ ?_;focus first|omega|rfl|assumption|exact⟨_,rfl,rfl⟩|(simp;omega)|(simp;done)))
    refine ay (vR xs[i] (by have:=List.sizeOf_lt_of_mem (List.getElem_mem hi);omega) ys[i] (by omega)) ?_
    simp -implicitDefEqProofs (disch:=omega) only[go_sem]
    with_reducible refine aA (fun hb=> ?_) (fun hb=> ?_)<;>have h:=hb<;>(try simp only[wf_preprocess] at h)<;>simp -implicitDefEqProofs (disch:=omega) only[go_sem,hb]<;>(repeat(with_reducible refine And.intro ?_ ?_;focus first|omega|rfl|assumption|exact⟨_,rfl,rfl⟩|(simp;omega)|(simp;done)))
    ·exact aD (aL (fun e=>h (by simp only[e]))).symm
    refine bI (i+1) (by omega) rfl rfl ⟨by omega,fun j hj=> ?_⟩
    by_cases e:j=i
    ·subst e
     rw[List.getElem?_eq_getElem hi,List.getElem?_eq_getElem hi',h]
    ·exact p2 j (by omega)
   ·have hi:i=xs.length:=by omega
    refine aD (bC (List.ext_getElem? fun j=> ?_)).symm
    by_cases hj:j<i
    ·exact p2 j hj
    ·rw[List.getElem?_eq_none (by omega),List.getElem?_eq_none (by omega)]
  ·have YU:=aJ.j3 x
   simp only[aJ.sz,aJ.aH,bO,bN,D.sz,List.length_map,au.dO] at hsz
   refine aF (rs:=[.tmp 4]) Tryz.checked.mixed Tryz.func193 Tryz.ntmps193 rfl rfl rfl rfl rfl ?_
   simp -implicitDefEqProofs (disch:=omega) only[go_sem]
   with_reducible refine aA (fun hb=> ?_) (fun hb=> ?_)<;>have h:=hb<;>(try simp only[wf_preprocess] at h)<;>simp -implicitDefEqProofs (disch:=omega) only[go_sem,hb]<;>(repeat(with_reducible refine And.intro ?_ ?_;focus first|omega|rfl|assumption|exact⟨_,rfl,rfl⟩|(simp;omega)|(simp;done)))
   ·exact aD (aL (fun e=>h (by rw[e]))).symm
   have MR:=h
   clear h
   refine ay (x9 x.aN _ (by omega)) ?_
   simp -implicitDefEqProofs (disch:=omega) only[go_sem]
   with_reducible refine aA (fun hb=> ?_) (fun hb=> ?_)<;>have h:=hb<;>(try simp only[wf_preprocess] at h)<;>simp -implicitDefEqProofs (disch:=omega) only[go_sem,hb]<;>(repeat(with_reducible refine And.intro ?_ ?_;focus first|omega|rfl|assumption|exact⟨_,rfl,rfl⟩|(simp;omega)|(simp;done)))
   ·exact aD (aL (fun e=>h (by rw[e]))).symm
   have R7:=h
   clear h
   refine ay (vR x.fBody (by omega) _ (by omega)) ?_
   simp -implicitDefEqProofs (disch:=omega) only[go_sem]
   with_reducible refine aA (fun hb=> ?_) (fun hb=> ?_)<;>have h:=hb<;>(try simp only[wf_preprocess] at h)<;>simp -implicitDefEqProofs (disch:=omega) only[go_sem,hb]<;>(repeat(with_reducible refine And.intro ?_ ?_;focus first|omega|rfl|assumption|exact⟨_,rfl,rfl⟩|(simp;omega)|(simp;done)))
   ·exact aD (aL (fun e=>h (by rw[e]))).symm
   have R8:=h
   clear h
   exact aD (bC (aJ.ext MR R7 R8)).symm
  ·refine aF (rs:=[.tmp 4]) Tryz.checked.mixed Tryz.func102 Tryz.ntmps102 rfl rfl rfl rfl rfl ?_
   simp -implicitDefEqProofs (disch:=omega) only[go_sem]
   with_reducible refine aA (fun hb=> ?_) (fun hb=> ?_)<;>have h:=hb<;>(try simp only[wf_preprocess] at h)<;>simp -implicitDefEqProofs (disch:=omega) only[go_sem,hb]<;>(repeat(with_reducible refine And.intro ?_ ?_;focus first|omega|rfl|assumption|exact⟨_,rfl,rfl⟩|(simp;omega)|(simp;done)))
   ·exact aD (aL (fun e=>h (by rw[e]))).symm
   have hl:xs.length=ys.length:=by omega
   refine aX (ι:=Nat) Tryz.checked.mixed rfl [0,1,5] (fun y=>[.c (.d (.sl (xs.map aJ.enc))),.c (.d (.sl (ys.map aJ.enc))),.c (.d (.i .i64 y))]) (fun y=>[]::S)
    (fun i=>i≤xs.length∧∀j,j<i→xs[j]? =ys[j]?) (fun y=>xs.length-y) 0 rfl rfl ⟨Nat.zero_le _,fun j h=>by omega⟩ ?_
   rintro i ⟨p1,p2⟩
   simp -implicitDefEqProofs (disch:=omega) only[go_sem]
   with_reducible refine aA (fun hb=> ?_) (fun hb=> ?_)<;>have h:=hb<;>(try simp only[wf_preprocess] at h)<;>simp -implicitDefEqProofs (disch:=omega) only[go_sem,hb]<;>(repeat(with_reducible refine And.intro ?_ ?_;focus first|omega|rfl|assumption|exact⟨_,rfl,rfl⟩|(simp;omega)|(simp;done)))
   ·have hi:i<xs.length:=by omega
    have hi':i<ys.length:=by omega
    have hx:xs[i].sz≤bF (xs.map aJ.enc):=dP (List.mem_map_of_mem (List.getElem_mem hi))
    (repeat(with_reducible refine And.intro ?_ ?_;focus first|omega|rfl|assumption|exact⟨_,rfl,rfl⟩|(simp;omega)|(simp;done)))
    refine ay (AL xs[i] (by have:=List.sizeOf_lt_of_mem (List.getElem_mem hi);omega) ys[i] (by omega)) ?_
    simp -implicitDefEqProofs (disch:=omega) only[go_sem]
    with_reducible refine aA (fun hb=> ?_) (fun hb=> ?_)<;>have h:=hb<;>(try simp only[wf_preprocess] at h)<;>simp -implicitDefEqProofs (disch:=omega) only[go_sem,hb]<;>(repeat(with_reducible refine And.intro ?_ ?_;focus first|omega|rfl|assumption|exact⟨_,rfl,rfl⟩|(simp;omega)|(simp;done)))
    ·exact aD (aL (fun e=>h (by simp only[e]))).symm
    refine bI (i+1) (by omega) rfl rfl ⟨by omega,fun j hj=> ?_⟩
    by_cases e:j=i
    ·subst e
     rw[List.getElem?_eq_getElem hi,List.getElem?_eq_getElem hi',h]
    ·exact p2 j (by omega)
   ·have hi:i=xs.length:=by omega
    refine aD (bC (List.ext_getElem? fun j=> ?_)).symm
    by_cases hj:j<i
    ·exact p2 j hj
    ·rw[List.getElem?_eq_none (by omega),List.getElem?_eq_none (by omega)]
theorem U3(x:au):∀y:au,x.sz≤1048576→aI Tryz.prog 23 [x.v,y.v] (.c (.d (.b (dec (x=y))))):=(Gp _).1 x (Nat.lt_succ_self _)
end Go.Proofs.YtlmhknhlmicmeaaGreatDoor
namespace Go.Proofs.YtlmhknhlmicmeaaGreatDoor
open Go Go.Ab
theorem Eo:∀n:Nat,(∀x:ah,SizeOf.sizeOf x<n→∀left:Int,0≤left→left≤1048576→q9 x.enc→aI Tryz.prog 26 [x.v,.c (.d (.i .i64 left))] (.c (.d (.i .i64 (iG left x.sz)))))∧
 (∀xs:List ah,SizeOf.sizeOf xs<n→∀left:Int,0≤left→left≤1048576→(D.sl (xs.map ah.enc)).Fit→aI Tryz.prog 103 [.c (.d (.sl (xs.map ah.enc))),.c (.d (.i .i64 left))] (.c (.d (.i .i64 (iG left (xs.length+bF (xs.map ah.enc)))))))
 |0=>⟨fun x h=>by omega,fun x h=>by omega⟩
 |n+1=>by
  obtain⟨nZ,rV⟩:=Eo n
  refine⟨fun x hn left h0 h1 hf S=> ?_,fun xs hn left h0 h1 hf S=> ?_⟩
  ·have Gq:=ah.kK x
   simp only[ah.aH,List.cons_append,List.nil_append,vL,Ef,Ms,and_true] at hf
   obtain⟨aV,ak⟩:=hf
   have hz:x.sz=x.aV.length+((x.ak.length+bF (x.ak.map ah.enc))):=by
    simp only[ah.sz,ah.aH,bO,bN,D.sz,List.length_map,Nat.add_zero,Nat.zero_add]<;>omega
   refine aF (rs:=[.tmp 4]) Tryz.checked.mixed Tryz.func26 Tryz.ntmps26 rfl rfl rfl rfl rfl ?_
   rw[hz]
   have agG:=acF aV
   simp -implicitDefEqProofs (disch:=omega) only[go_sem]
   with_reducible refine aA (fun hb=> ?_) (fun hb=> ?_)<;>have h:=hb<;>(try simp only[wf_preprocess] at h)<;>simp -implicitDefEqProofs (disch:=omega) only[go_sem,hb]<;>(repeat(with_reducible refine And.intro ?_ ?_;focus first|omega|rfl|assumption|exact⟨_,rfl,rfl⟩|(simp;omega)|(simp;done)))
   ·exact int_eq (sF (by omega)).symm
   refine ay (rV x.ak (by omega) _ (by omega) (by omega) ak) ?_
   simp -implicitDefEqProofs (disch:=omega) only[go_sem]
   with_reducible refine aA (fun hb=> ?_) (fun hb=> ?_)<;>have h:=hb<;>(try simp only[wf_preprocess] at h)<;>simp -implicitDefEqProofs (disch:=omega) only[go_sem,hb]<;>(repeat(with_reducible refine And.intro ?_ ?_;focus first|omega|rfl|assumption|exact⟨_,rfl,rfl⟩|(simp;omega)|(simp;done)))
   ·have h':=uK h
    exact int_eq (sF (by omega)).symm
   have ad5:=uJ h
   simp only[ad5.1]
   refine int_eq ?_
   rw[Aq (by omega)]
   omega
  ·obtain⟨hf1,hf2⟩:=abo hf
   rw[List.length_map] at hf1
   refine aF (rs:=[.tmp 4]) Tryz.checked.mixed Tryz.func103 Tryz.ntmps103 rfl rfl rfl rfl rfl ?_
   simp -implicitDefEqProofs (disch:=omega) only[go_sem]
   with_reducible refine aA (fun hb=> ?_) (fun hb=> ?_)<;>have h:=hb<;>(try simp only[wf_preprocess] at h)<;>simp -implicitDefEqProofs (disch:=omega) only[go_sem,hb]<;>(repeat(with_reducible refine And.intro ?_ ?_;focus first|omega|rfl|assumption|exact⟨_,rfl,rfl⟩|(simp;omega)|(simp;done)))
   ·exact int_eq (sF (by omega)).symm
   refine aX (ι:=Nat×Int) Tryz.checked.mixed rfl [0,1,5] (fun y=>[.c (.d (.sl (xs.map ah.enc))),.c (.d (.i .i64 y.2)),.c (.d (.i .i64 y.1))]) (fun _=>[]::S)
    (fun y=>y.1≤xs.length∧0≤y.2∧y.2≤1048576∧iG y.2 (bF ((xs.map ah.enc).drop y.1))=iG left (xs.length+bF (xs.map ah.enc))) (fun y=>xs.length-y.1) (0,left-xs.length) rfl rfl ⟨by omega,by omega,by omega,?_⟩ ?_
   ·unfold iG
    rw[List.drop_zero]
    split<;>split<;>omega
   rintro⟨i,l⟩ ⟨p1,p2,p3,p4⟩
   simp only at p1 p2 p3 p4
   simp -implicitDefEqProofs (disch:=omega) only[go_sem]
   with_reducible refine aA (fun hb=> ?_) (fun hb=> ?_)<;>have h:=hb<;>(try simp only[wf_preprocess] at h)<;>simp -implicitDefEqProofs (disch:=omega) only[go_sem,hb]<;>(repeat(with_reducible refine And.intro ?_ ?_;focus first|omega|rfl|assumption|exact⟨_,rfl,rfl⟩|(simp;omega)|(simp;done)))
   ·have hi:i<xs.length:=by omega
    rw[List.drop_eq_getElem_cons (by rw[List.length_map];exact hi),bF,List.getElem_map,ah.dO] at p4
    (repeat(with_reducible refine And.intro ?_ ?_;focus first|omega|rfl|assumption|exact⟨_,rfl,rfl⟩|(simp;omega)|(simp;done)))
    refine ay (nZ xs[i] (by have:=List.sizeOf_lt_of_mem (List.getElem_mem hi);omega) _ (by omega) (by omega) (hf2 _ (List.mem_map_of_mem (List.getElem_mem hi)))) ?_
    simp -implicitDefEqProofs (disch:=omega) only[go_sem]
    with_reducible refine aA (fun hb=> ?_) (fun hb=> ?_)<;>have h:=hb<;>(try simp only[wf_preprocess] at h)<;>simp -implicitDefEqProofs (disch:=omega) only[go_sem,hb]<;>(repeat(with_reducible refine And.intro ?_ ?_;focus first|omega|rfl|assumption|exact⟨_,rfl,rfl⟩|(simp;omega)|(simp;done)))
    ·have h':=uK h
     rw[←p4,sF (by omega)]
    ·have h':=uJ h
     refine bI (i+1,iG l _) (by simp only;omega) rfl rfl ⟨by simp only;omega,by simp only;omega,by simp only;omega,?_⟩
     simp only
     rw[←p4,h'.1]
     unfold iG
     split<;>split<;>omega
   ·have hi:i=xs.length:=by omega
    rw[hi,List.drop_of_length_le (by simp),bF,Aq (by omega)] at p4
    rw[←p4]
    refine int_eq ?_
    omega
theorem R9(x:ah):∀left:Int,0≤left→left≤1048576→q9 x.enc→aI Tryz.prog 26 [x.v,.c (.d (.i .i64 left))] (.c (.d (.i .i64 (iG left x.sz)))):=(Eo _).1 x (Nat.lt_succ_self _)
theorem Ep:∀n:Nat,(∀x:ah,SizeOf.sizeOf x<n→x.sz≤1048576→aI Tryz.prog 28 [x.v] x.v)∧
 (∀xs:List ah,SizeOf.sizeOf xs<n→xs.length+bF (xs.map ah.enc)≤1048576→aI Tryz.prog 109 [.c (.d (.sl (xs.map ah.enc)))] (.c (.d (.sl (xs.map ah.enc)))))
 |0=>⟨fun x h=>by omega,fun x h=>by omega⟩
 |n+1=>by
  obtain⟨nZ,rV⟩:=Ep n
  refine⟨fun x hn hsz S=> ?_,fun xs hn hsz S=> ?_⟩
  ·have Gq:=ah.kK x
   simp only[ah.sz,ah.aH,bO,bN,D.sz,List.length_map] at hsz
   refine aF (rs:=[.cell 2 32]) Tryz.checked.mixed Tryz.func28 Tryz.ntmps28 rfl rfl rfl rfl rfl ?_
   simp -implicitDefEqProofs (disch:=omega) only[go_sem]
   refine ay (rV x.ak (by omega) (by omega)) ?_
   simp -implicitDefEqProofs (disch:=omega) only[go_sem]
  ·refine aF (rs:=[.tmp 2]) Tryz.checked.mixed Tryz.func109 Tryz.ntmps109 rfl rfl rfl rfl rfl ?_
   simp -implicitDefEqProofs (disch:=omega) only[go_sem]
   (repeat(with_reducible refine And.intro ?_ ?_;focus first|omega|rfl|assumption|exact⟨_,rfl,rfl⟩|(simp;omega)|(simp;done)))
   refine aX (ι:=Nat×List (List D)) Tryz.checked.mixed rfl [0,3,4] (fun y=>[.c (.d (.sl (xs.map ah.enc))),.c (.kg (0,0)),.c (.d (.i .i64 y.1))]) (fun y=>[.fG 2 y.2]::S)
    (fun y=>y.1≤xs.length∧qC 2 y.1 y.2 (xs.map ah.enc)) (fun y=>xs.length-y.1) (0,_) rfl rfl ⟨Nat.zero_le _,qC.start (by simp) rfl⟩ ?_
   rintro⟨i,R⟩ ⟨p1,p2⟩
   simp only at p1 p2
   simp -implicitDefEqProofs (disch:=omega) only[go_sem]
   with_reducible refine aA (fun hb=> ?_) (fun hb=> ?_)<;>have h:=hb<;>(try simp only[wf_preprocess] at h)<;>simp -implicitDefEqProofs (disch:=omega) only[go_sem,hb]<;>(repeat(with_reducible refine And.intro ?_ ?_;focus first|omega|rfl|assumption|exact⟨_,rfl,rfl⟩|(simp;omega)|(simp;done)))
   ·have hi:i<xs.length:=by omega
    have hx:xs[i].sz≤bF (xs.map ah.enc):=dP (List.mem_map_of_mem (List.getElem_mem hi))
    (repeat(with_reducible refine And.intro ?_ ?_;focus first|omega|rfl|assumption|exact⟨_,rfl,rfl⟩|(simp;omega)|(simp;done)))
    refine ay (nZ xs[i] (by have:=List.sizeOf_lt_of_mem (List.getElem_mem hi);omega) (by omega)) ?_
    simp -implicitDefEqProofs (disch:=omega) only[go_sem]
    have hR:=p2.1
    rw[List.length_map] at hR
    (repeat(with_reducible refine And.intro ?_ ?_;focus first|omega|rfl|assumption|exact⟨_,rfl,rfl⟩|(simp;omega)|(simp;done)))
    refine bI (i+1,_) (by simp only;omega) rfl rfl ⟨by simp only;omega,p2.step (by simp[hi,ah.aH]) rfl⟩
   ·have hi:i=xs.length:=by omega
    rw[p2.done (by rw[List.length_map];omega)]
theorem AO(x:ah):x.sz≤1048576→aI Tryz.prog 28 [x.v] x.v:=(Ep _).1 x (Nat.lt_succ_self _)
theorem Er:∀n:Nat,(∀x:ah,SizeOf.sizeOf x<n→∀y:ah,x.sz≤1048576→aI Tryz.prog 14 [x.v,y.v] (.c (.d (.b (dec (x=y))))))∧
 (∀xs:List ah,SizeOf.sizeOf xs<n→∀ys:List ah,xs.length+bF (xs.map ah.enc)≤1048576→aI Tryz.prog 76 [.c (.d (.sl (xs.map ah.enc))),.c (.d (.sl (ys.map ah.enc)))] (.c (.d (.b (dec (xs=ys))))))
 |0=>⟨fun x h=>by omega,fun x h=>by omega⟩
 |n+1=>by
  obtain⟨nZ,rV⟩:=Er n
  refine⟨fun x hn y hsz S=> ?_,fun xs hn ys hsz S=> ?_⟩
  ·have Gq:=ah.kK x
   simp only[ah.sz,ah.aH,bO,bN,D.sz,List.length_map] at hsz
   refine aF (rs:=[.tmp 4]) Tryz.checked.mixed Tryz.func14 Tryz.ntmps14 rfl rfl rfl rfl rfl ?_
   simp -implicitDefEqProofs (disch:=omega) only[go_sem]
   with_reducible refine aA (fun hb=> ?_) (fun hb=> ?_)<;>have h:=hb<;>(try simp only[wf_preprocess] at h)<;>simp -implicitDefEqProofs (disch:=omega) only[go_sem,hb]<;>(repeat(with_reducible refine And.intro ?_ ?_;focus first|omega|rfl|assumption|exact⟨_,rfl,rfl⟩|(simp;omega)|(simp;done)))
   ·exact aD (aL (fun e=>h (by rw[e]))).symm
   have ad6:=h
   clear h
   refine ay (rV x.ak (by omega) _ (by omega)) ?_
   simp -implicitDefEqProofs (disch:=omega) only[go_sem]
   with_reducible refine aA (fun hb=> ?_) (fun hb=> ?_)<;>have h:=hb<;>(try simp only[wf_preprocess] at h)<;>simp -implicitDefEqProofs (disch:=omega) only[go_sem,hb]<;>(repeat(with_reducible refine And.intro ?_ ?_;focus first|omega|rfl|assumption|exact⟨_,rfl,rfl⟩|(simp;omega)|(simp;done)))
   ·exact aD (aL (fun e=>h (by rw[e]))).symm
   have eList:=h
   clear h
   exact aD (bC (ah.ext ad6 eList)).symm
  ·refine aF (rs:=[.tmp 4]) Tryz.checked.mixed Tryz.func76 Tryz.ntmps76 rfl rfl rfl rfl rfl ?_
   simp -implicitDefEqProofs (disch:=omega) only[go_sem]
   with_reducible refine aA (fun hb=> ?_) (fun hb=> ?_)<;>have h:=hb<;>(try simp only[wf_preprocess] at h)<;>simp -implicitDefEqProofs (disch:=omega) only[go_sem,hb]<;>(repeat(with_reducible refine And.intro ?_ ?_;focus first|omega|rfl|assumption|exact⟨_,rfl,rfl⟩|(simp;omega)|(simp;done)))
   ·exact aD (aL (fun e=>h (by rw[e]))).symm
   have hl:xs.length=ys.length:=by omega
   refine aX (ι:=Nat) Tryz.checked.mixed rfl [0,1,5] (fun y=>[.c (.d (.sl (xs.map ah.enc))),.c (.d (.sl (ys.map ah.enc))),.c (.d (.i .i64 y))]) (fun y=>[]::S)
    (fun i=>i≤xs.length∧∀j,j<i→xs[j]? =ys[j]?) (fun y=>xs.length-y) 0 rfl rfl ⟨Nat.zero_le _,fun j h=>by omega⟩ ?_
   rintro i ⟨p1,p2⟩
   simp -implicitDefEqProofs (disch:=omega) only[go_sem]
   with_reducible refine aA (fun hb=> ?_) (fun hb=> ?_)<;>have h:=hb<;>(try simp only[wf_preprocess] at h)<;>simp -implicitDefEqProofs (disch:=omega) only[go_sem,hb]<;>(repeat(with_reducible refine And.intro ?_ ?_;focus first|omega|rfl|assumption|exact⟨_,rfl,rfl⟩|(simp;omega)|(simp;done)))
   ·have hi:i<xs.length:=by omega
    have hi':i<ys.length:=by omega
    have hx:xs[i].sz≤bF (xs.map ah.enc):=dP (List.mem_map_of_mem (List.getElem_mem hi))
    (repeat(with_reducible refine And.intro ?_ ?_;focus first|omega|rfl|assumption|exact⟨_,rfl,rfl⟩|(simp;omega)|(simp;done)))
    refine ay (nZ xs[i] (by have:=List.sizeOf_lt_of_mem (List.getElem_mem hi);omega) ys[i] (by omega)) ?_
    simp -implicitDefEqProofs (disch:=omega) only[go_sem]
    with_reducible refine aA (fun hb=> ?_) (fun hb=> ?_)<;>have h:=hb<;>(try simp only[wf_preprocess] at h)<;>simp -implicitDefEqProofs (disch:=omega) only[go_sem,hb]<;>(repeat(with_reducible refine And.intro ?_ ?_;focus first|omega|rfl|assumption|exact⟨_,rfl,rfl⟩|(simp;omega)|(simp;done)))
    ·exact aD (aL (fun e=>h (by simp only[e]))).symm
    refine bI (i+1) (by omega) rfl rfl ⟨by omega,fun j hj=> ?_⟩
    by_cases e:j=i
    ·subst e
     rw[List.getElem?_eq_getElem hi,List.getElem?_eq_getElem hi',h]
    ·exact p2 j (by omega)
   ·have hi:i=xs.length:=by omega
    refine aD (bC (List.ext_getElem? fun j=> ?_)).symm
    by_cases hj:j<i
    ·exact p2 j hj
    ·rw[List.getElem?_eq_none (by omega),List.getElem?_eq_none (by omega)]
theorem Sb(x:ah):∀y:ah,x.sz≤1048576→aI Tryz.prog 14 [x.v,y.v] (.c (.d (.b (dec (x=y))))):=(Er _).1 x (Nat.lt_succ_self _)
end Go.Proofs.YtlmhknhlmicmeaaGreatDoor
namespace Go.Proofs.YtlmhknhlmicmeaaGreatDoor
open Go Go.Ab
theorem IW(x:aG):∀y:aG,x.sz≤1048576→aI Tryz.prog 234 [x.v,y.v] (.c (.d (.b (dec (x=y))))):=by
 intro y hsz S
 simp only[aG.sz,aG.aH,bO,bN,D.sz,List.length_map,au.dO,aj.dO] at hsz
 refine aF (rs:=[.tmp 4]) Tryz.checked.mixed Tryz.func234 Tryz.ntmps234 rfl rfl rfl rfl rfl ?_
 simp -implicitDefEqProofs (disch:=omega) only[go_sem]
 with_reducible refine aA (fun hb=> ?_) (fun hb=> ?_)<;>have h:=hb<;>(try simp only[wf_preprocess] at h)<;>simp -implicitDefEqProofs (disch:=omega) only[go_sem,hb]<;>(repeat(with_reducible refine And.intro ?_ ?_;focus first|omega|rfl|assumption|exact⟨_,rfl,rfl⟩|(simp;omega)|(simp;done)))
 ·exact aD (aL (fun e=>h (by rw[e]))).symm
 have AJ:=h
 clear h
 refine ay (R6 x.aT _ (by omega)) ?_
 simp -implicitDefEqProofs (disch:=omega) only[go_sem]
 with_reducible refine aA (fun hb=> ?_) (fun hb=> ?_)<;>have h:=hb<;>(try simp only[wf_preprocess] at h)<;>simp -implicitDefEqProofs (disch:=omega) only[go_sem,hb]<;>(repeat(with_reducible refine And.intro ?_ ?_;focus first|omega|rfl|assumption|exact⟨_,rfl,rfl⟩|(simp;omega)|(simp;done)))
 ·exact aD (aL (fun e=>h (by rw[e]))).symm
 have Z6:=h
 clear h
 refine ay (JL x.aW _ (by omega)) ?_
 simp -implicitDefEqProofs (disch:=omega) only[go_sem]
 with_reducible refine aA (fun hb=> ?_) (fun hb=> ?_)<;>have h:=hb<;>(try simp only[wf_preprocess] at h)<;>simp -implicitDefEqProofs (disch:=omega) only[go_sem,hb]<;>(repeat(with_reducible refine And.intro ?_ ?_;focus first|omega|rfl|assumption|exact⟨_,rfl,rfl⟩|(simp;omega)|(simp;done)))
 ·exact aD (aL (fun e=>h (by rw[e]))).symm
 have Z7:=h
 clear h
 with_reducible refine aA (fun hb=> ?_) (fun hb=> ?_)<;>have h:=hb<;>(try simp only[wf_preprocess] at h)<;>simp -implicitDefEqProofs (disch:=omega) only[go_sem,hb]<;>(repeat(with_reducible refine And.intro ?_ ?_;focus first|omega|rfl|assumption|exact⟨_,rfl,rfl⟩|(simp;omega)|(simp;done)))
 ·exact aD (aL (fun e=>h (by rw[e]))).symm
 have OO:=h
 clear h
 refine ay (x9 x.aN _ (by omega)) ?_
 simp -implicitDefEqProofs (disch:=omega) only[go_sem]
 with_reducible refine aA (fun hb=> ?_) (fun hb=> ?_)<;>have h:=hb<;>(try simp only[wf_preprocess] at h)<;>simp -implicitDefEqProofs (disch:=omega) only[go_sem,hb]<;>(repeat(with_reducible refine And.intro ?_ ?_;focus first|omega|rfl|assumption|exact⟨_,rfl,rfl⟩|(simp;omega)|(simp;done)))
 ·exact aD (aL (fun e=>h (by rw[e]))).symm
 have R7:=h
 clear h
 refine ay (U3 x.fBody _ (by omega)) ?_
 simp -implicitDefEqProofs (disch:=omega) only[go_sem]
 with_reducible refine aA (fun hb=> ?_) (fun hb=> ?_)<;>have h:=hb<;>(try simp only[wf_preprocess] at h)<;>simp -implicitDefEqProofs (disch:=omega) only[go_sem,hb]<;>(repeat(with_reducible refine And.intro ?_ ?_;focus first|omega|rfl|assumption|exact⟨_,rfl,rfl⟩|(simp;omega)|(simp;done)))
 ·exact aD (aL (fun e=>h (by rw[e]))).symm
 have R8:=h
 clear h
 exact aD (bC (aG.ext' AJ Z6 Z7 OO R7 R8)).symm
theorem Gs(xs:List aG):∀ys:List aG,xs.length+bF (xs.map aG.enc)≤1048576→aI Tryz.prog 140 [.c (.d (.sl (xs.map aG.enc))),.c (.d (.sl (ys.map aG.enc)))] (.c (.d (.b (dec (xs=ys))))):=by
 intro ys hsz S
 refine aF (rs:=[.tmp 4]) Tryz.checked.mixed Tryz.func140 Tryz.ntmps140 rfl rfl rfl rfl rfl ?_
 simp -implicitDefEqProofs (disch:=omega) only[go_sem]
 with_reducible refine aA (fun hb=> ?_) (fun hb=> ?_)<;>have h:=hb<;>(try simp only[wf_preprocess] at h)<;>simp -implicitDefEqProofs (disch:=omega) only[go_sem,hb]<;>(repeat(with_reducible refine And.intro ?_ ?_;focus first|omega|rfl|assumption|exact⟨_,rfl,rfl⟩|(simp;omega)|(simp;done)))
 ·exact aD (aL (fun e=>h (by rw[e]))).symm
 have hl:xs.length=ys.length:=by omega
 refine aX (ι:=Nat) Tryz.checked.mixed rfl [0,1,5] (fun y=>[.c (.d (.sl (xs.map aG.enc))),.c (.d (.sl (ys.map aG.enc))),.c (.d (.i .i64 y))]) (fun y=>[]::S)
  (fun i=>i≤xs.length∧∀j,j<i→xs[j]? =ys[j]?) (fun y=>xs.length-y) 0 rfl rfl ⟨Nat.zero_le _,fun j h=>by omega⟩ ?_
 rintro i ⟨p1,p2⟩
 simp -implicitDefEqProofs (disch:=omega) only[go_sem]
 with_reducible refine aA (fun hb=> ?_) (fun hb=> ?_)<;>have h:=hb<;>(try simp only[wf_preprocess] at h)<;>simp -implicitDefEqProofs (disch:=omega) only[go_sem,hb]<;>(repeat(with_reducible refine And.intro ?_ ?_;focus first|omega|rfl|assumption|exact⟨_,rfl,rfl⟩|(simp;omega)|(simp;done)))
 ·have hi:i<xs.length:=by omega
  have hi':i<ys.length:=by omega
  have hx:xs[i].sz≤bF (xs.map aG.enc):=dP (List.mem_map_of_mem (List.getElem_mem hi))
  (repeat(with_reducible refine And.intro ?_ ?_;focus first|omega|rfl|assumption|exact⟨_,rfl,rfl⟩|(simp;omega)|(simp;done)))
  refine ay (IW xs[i] ys[i] (by omega)) ?_
  simp -implicitDefEqProofs (disch:=omega) only[go_sem]
  with_reducible refine aA (fun hb=> ?_) (fun hb=> ?_)<;>have h:=hb<;>(try simp only[wf_preprocess] at h)<;>simp -implicitDefEqProofs (disch:=omega) only[go_sem,hb]<;>(repeat(with_reducible refine And.intro ?_ ?_;focus first|omega|rfl|assumption|exact⟨_,rfl,rfl⟩|(simp;omega)|(simp;done)))
  ·exact aD (aL (fun e=>h (by simp only[e]))).symm
  refine bI (i+1) (by omega) rfl rfl ⟨by omega,fun j hj=> ?_⟩
  by_cases e:j=i
  ·subst e
   rw[List.getElem?_eq_getElem hi,List.getElem?_eq_getElem hi',h]
  ·exact p2 j (by omega)
 ·have hi:i=xs.length:=by omega
  refine aD (bC (List.ext_getElem? fun j=> ?_)).symm
  by_cases hj:j<i
  ·exact p2 j hj
  ·rw[List.getElem?_eq_none (by omega),List.getElem?_eq_none (by omega)]
end Go.Proofs.YtlmhknhlmicmeaaGreatDoor
namespace Go.Proofs.YtlmhknhlmicmeaaGreatDoor
open Go Go.Ab
theorem AP(x:aZ):∀y:aZ,x.sz≤1048576→aI Tryz.prog 39 [x.v,y.v] (.c (.d (.b (dec (x=y))))):=by
 intro y hsz S
 simp only[aZ.sz,aZ.aH,bO,bN,D.sz,List.length_map] at hsz
 refine aF (rs:=[.tmp 4]) Tryz.checked.mixed Tryz.func39 Tryz.ntmps39 rfl rfl rfl rfl rfl ?_
 simp -implicitDefEqProofs (disch:=omega) only[go_sem]
 with_reducible refine aA (fun hb=> ?_) (fun hb=> ?_)<;>have h:=hb<;>(try simp only[wf_preprocess] at h)<;>simp -implicitDefEqProofs (disch:=omega) only[go_sem,hb]<;>(repeat(with_reducible refine And.intro ?_ ?_;focus first|omega|rfl|assumption|exact⟨_,rfl,rfl⟩|(simp;omega)|(simp;done)))
 ·exact aD (aL (fun e=>h (by rw[e]))).symm
 have AJ:=h
 clear h
 refine ay (x9 x.aR _ (by omega)) ?_
 simp -implicitDefEqProofs (disch:=omega) only[go_sem]
 with_reducible refine aA (fun hb=> ?_) (fun hb=> ?_)<;>have h:=hb<;>(try simp only[wf_preprocess] at h)<;>simp -implicitDefEqProofs (disch:=omega) only[go_sem,hb]<;>(repeat(with_reducible refine And.intro ?_ ?_;focus first|omega|rfl|assumption|exact⟨_,rfl,rfl⟩|(simp;omega)|(simp;done)))
 ·exact aD (aL (fun e=>h (by rw[e]))).symm
 have MS:=h
 clear h
 with_reducible refine aA (fun hb=> ?_) (fun hb=> ?_)<;>have h:=hb<;>(try simp only[wf_preprocess] at h)<;>simp -implicitDefEqProofs (disch:=omega) only[go_sem,hb]<;>(repeat(with_reducible refine And.intro ?_ ?_;focus first|omega|rfl|assumption|exact⟨_,rfl,rfl⟩|(simp;omega)|(simp;done)))
 ·exact aD (aL (fun e=>h (by rw[e]))).symm
 have ad7:=h
 clear h
 with_reducible refine aA (fun hb=> ?_) (fun hb=> ?_)<;>have h:=hb<;>(try simp only[wf_preprocess] at h)<;>simp -implicitDefEqProofs (disch:=omega) only[go_sem,hb]<;>(repeat(with_reducible refine And.intro ?_ ?_;focus first|omega|rfl|assumption|exact⟨_,rfl,rfl⟩|(simp;omega)|(simp;done)))
 ·exact aD (aL (fun e=>h (by rw[e]))).symm
 have abF:=h
 clear h
 refine ay (Gs x.aB _ (by omega)) ?_
 simp -implicitDefEqProofs (disch:=omega) only[go_sem]
 with_reducible refine aA (fun hb=> ?_) (fun hb=> ?_)<;>have h:=hb<;>(try simp only[wf_preprocess] at h)<;>simp -implicitDefEqProofs (disch:=omega) only[go_sem,hb]<;>(repeat(with_reducible refine And.intro ?_ ?_;focus first|omega|rfl|assumption|exact⟨_,rfl,rfl⟩|(simp;omega)|(simp;done)))
 ·exact aD (aL (fun e=>h (by rw[e]))).symm
 have OP:=h
 clear h
 exact aD (bC (aZ.ext' AJ MS ad7 abF OP)).symm
end Go.Proofs.YtlmhknhlmicmeaaGreatDoor
namespace Go.Proofs.YtlmhknhlmicmeaaGreatDoor
open Go Go.Ab
end Go.Proofs.YtlmhknhlmicmeaaGreatDoor
namespace Go.Proofs.YtlmhknhlmicmeaaGreatDoor
open Go Go.Ab
end Go.Proofs.YtlmhknhlmicmeaaGreatDoor
namespace Go.Proofs.YtlmhknhlmicmeaaGreatDoor
open Go Go.Ab
end Go.Proofs.YtlmhknhlmicmeaaGreatDoor
