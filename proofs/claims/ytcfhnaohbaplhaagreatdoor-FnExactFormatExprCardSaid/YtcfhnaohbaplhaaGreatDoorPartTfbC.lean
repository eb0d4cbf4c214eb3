/-
  SEVERAL TEXTS IN ONE (merged by program): contracts and models, each with its own heading.
-/
import Derived.Test.YtcfhnaohbaplhaaGreatDoorPartTfbB
import Derived.Test.YtcfhnaohbaplhaaGreatDoorChecked
import Derived.Eval
import Derived.KernelRfl
import Derived.WalkKit
import Derived.ProofKit
import Derived.Lib.FrozenHead2
import Derived.Lib.OthersKept
import Derived.Lib.AppendStr
import Derived.Lib.UnsafeStr
import Derived.Lib.Builder
import Derived.Laws.Externs
import Derived.Deep.LoopGhost
import Derived.Lib.ItoaNum
set_option linter.unusedSimpArgs false
set_option linter.unusedVariables false
set_option maxRecDepth 4000
set_option maxRecDepth 100000
namespace Go.Ab
def encS(s:List UInt8):List D:=[.s s]
def encI(n:Int):List D:=[.i .i64 n]
inductive ak where
 |mk (aG:Int) (fName:List UInt8) (fArgs:List ak)
def ak.aG:ak→Int| .mk x _ _=>x
def ak.fName:ak→List UInt8| .mk _ x _=>x
def ak.fArgs:ak→List ak| .mk _ _ x=>x
theorem ak.eta(x:ak):ak.mk x.aG x.fName x.fArgs=x:=by cases x;rfl
theorem ak.ext{x y:ak}(h0:x.aG=y.aG)(h1:x.fName=y.fName)(h2:x.fArgs=y.fArgs):x=y:=by
 rw[←ak.eta x,←ak.eta y,h0,h1,h2]
mutual
def ak.enc:ak→List D
 | .mk a0 a1 a2=>[.i .i64 a0,.s a1,.sl (ak.encs a2)]
def ak.encs:List ak→List (List D)
 |[]=>[]
 |x::xs=>x.enc::ak.encs xs
end
theorem ak.fq:∀l,ak.encs l=l.map ak.enc
 |[]=>rfl
 |x::xs=>by rw[ak.encs,List.map_cons,ak.fq xs]
theorem ak.aB(x:ak):x.enc=[.i .i64 x.aG,.s x.fName,.sl (x.fArgs.map ak.enc)]:=by
 cases x;simp only[ak.enc,ak.fq,ak.aG,ak.fName,ak.fArgs]
abbrev ak.v (x:ak):V:=.agg [.d (.i .i64 x.aG),.d (.s x.fName),.d (.sl (x.fArgs.map ak.enc))]
theorem ak.jI(x:ak): .agg (x.enc.map .d)=x.v:=by
 simp only[ak.aB,List.map_cons,List.map_nil,List.cons_append,List.nil_append,List.map_append]
theorem ak.aO(x:ak):x.enc.length=3:=by
 simp only[ak.aB,List.length_append,List.length_cons,List.length_nil]
def ak.sz(x:ak):Nat:=bB x.enc
theorem ak.dK(x:ak):bB x.enc=x.sz:=rfl
theorem ak.eH(x:ak):SizeOf.sizeOf x.fArgs<SizeOf.sizeOf x:=by cases x;simp[ak.fArgs];omega
structure bC where
 fVar:List UInt8
 fType:ak
def bC.enc(x:bC):List D:=[.s x.fVar]++(x.fType.enc)
theorem bC.aB(x:bC):x.enc=[.s x.fVar]++(x.fType.enc):=rfl
theorem bC.eta(x:bC):bC.mk x.fVar x.fType=x:=rfl
theorem bC.ext'{x y:bC}(h0:x.fVar=y.fVar)(h1:x.fType=y.fType):x=y:=by
 cases x;cases y;simp_all
abbrev bC.v (x:bC):V:=.agg [.d (.s x.fVar),.d (.i .i64 x.fType.aG),.d (.s x.fType.fName),.d (.sl (x.fType.fArgs.map ak.enc))]
theorem bC.jI(x:bC): .agg (x.enc.map .d)=x.v:=by
 simp only[bC.aB,ak.aB,List.map_cons,List.map_nil,List.cons_append,List.nil_append,List.map_append]
theorem bC.aO(x:bC):x.enc.length=4:=by
 simp only[bC.aB,ak.aO,List.length_append,List.length_cons,List.length_nil]
def bC.sz(x:bC):Nat:=bB x.enc
theorem bC.dK(x:bC):bB x.enc=x.sz:=rfl
structure bQ where
 aQ:List UInt8
 fType:ak
def bQ.enc(x:bQ):List D:=[.s x.aQ]++(x.fType.enc)
theorem bQ.aB(x:bQ):x.enc=[.s x.aQ]++(x.fType.enc):=rfl
theorem bQ.eta(x:bQ):bQ.mk x.aQ x.fType=x:=rfl
theorem bQ.ext'{x y:bQ}(h0:x.aQ=y.aQ)(h1:x.fType=y.fType):x=y:=by
 cases x;cases y;simp_all
abbrev bQ.v (x:bQ):V:=.agg [.d (.s x.aQ),.d (.i .i64 x.fType.aG),.d (.s x.fType.fName),.d (.sl (x.fType.fArgs.map ak.enc))]
theorem bQ.jI(x:bQ): .agg (x.enc.map .d)=x.v:=by
 simp only[bQ.aB,ak.aB,List.map_cons,List.map_nil,List.cons_append,List.nil_append,List.map_append]
theorem bQ.aO(x:bQ):x.enc.length=4:=by
 simp only[bQ.aB,ak.aO,List.length_append,List.length_cons,List.length_nil]
def bQ.sz(x:bQ):Nat:=bB x.enc
theorem bQ.dK(x:bQ):bB x.enc=x.sz:=rfl
mutual
inductive aj where
 |mk (aG:Int) (aQ:List UInt8) (fName:List UInt8) (fN:Int) (fType:ak) (fArgs:List aj) (aD:List ay)
inductive ay where
 |mk (aV:List UInt8) (aU:List (List UInt8)) (fBody:aj)
end
def aj.aG:aj→Int| .mk x _ _ _ _ _ _=>x
def aj.aQ:aj→List UInt8| .mk _ x _ _ _ _ _=>x
def aj.fName:aj→List UInt8| .mk _ _ x _ _ _ _=>x
def aj.fN:aj→Int| .mk _ _ _ x _ _ _=>x
def aj.fType:aj→ak| .mk _ _ _ _ x _ _=>x
def aj.fArgs:aj→List aj| .mk _ _ _ _ _ x _=>x
def aj.aD:aj→List ay| .mk _ _ _ _ _ _ x=>x
theorem aj.eta(x:aj):aj.mk x.aG x.aQ x.fName x.fN x.fType x.fArgs x.aD=x:=by cases x;rfl
theorem aj.ext{x y:aj}(h0:x.aG=y.aG)(h1:x.aQ=y.aQ)(h2:x.fName=y.fName)(h3:x.fN=y.fN)(h4:x.fType=y.fType)(h5:x.fArgs=y.fArgs)(h6:x.aD=y.aD):x=y:=by
 rw[←aj.eta x,←aj.eta y,h0,h1,h2,h3,h4,h5,h6]
def ay.aV:ay→List UInt8| .mk x _ _=>x
def ay.aU:ay→List (List UInt8)| .mk _ x _=>x
def ay.fBody:ay→aj| .mk _ _ x=>x
theorem ay.eta(x:ay):ay.mk x.aV x.aU x.fBody=x:=by cases x;rfl
theorem ay.ext{x y:ay}(h0:x.aV=y.aV)(h1:x.aU=y.aU)(h2:x.fBody=y.fBody):x=y:=by
 rw[←ay.eta x,←ay.eta y,h0,h1,h2]
mutual
def aj.enc:aj→List D
 | .mk a0 a1 a2 a3 a4 a5 a6=>[.i .i64 a0,.s a1,.s a2,.i .i64 a3]++(a4.enc++([.sl (aj.encs a5),.sl (ay.encs a6)]))
def aj.encs:List aj→List (List D)
 |[]=>[]
 |x::xs=>x.enc::aj.encs xs
def ay.enc:ay→List D
 | .mk a0 a1 a2=>[.s a0,.sl (a1.map encS)]++(aj.enc a2)
def ay.encs:List ay→List (List D)
 |[]=>[]
 |x::xs=>x.enc::ay.encs xs
end
theorem aj.fq:∀l,aj.encs l=l.map aj.enc
 |[]=>rfl
 |x::xs=>by rw[aj.encs,List.map_cons,aj.fq xs]
theorem ay.fq:∀l,ay.encs l=l.map ay.enc
 |[]=>rfl
 |x::xs=>by rw[ay.encs,List.map_cons,ay.fq xs]
theorem aj.aB(x:aj):x.enc=[.i .i64 x.aG,.s x.aQ,.s x.fName,.i .i64 x.fN]++(x.fType.enc++([.sl (x.fArgs.map aj.enc),.sl (x.aD.map ay.enc)])):=by
 cases x;simp only[aj.enc,aj.fq,ay.fq,aj.aG,aj.aQ,aj.fName,aj.fN,aj.fType,aj.fArgs,aj.aD]
theorem ay.aB(x:ay):x.enc=[.s x.aV,.sl (x.aU.map encS)]++(x.fBody.enc):=by
 cases x;simp only[ay.enc,aj.fq,ay.fq,ay.aV,ay.aU,ay.fBody]
abbrev aj.v (x:aj):V:=.agg [.d (.i .i64 x.aG),.d (.s x.aQ),.d (.s x.fName),.d (.i .i64 x.fN),.d (.i .i64 x.fType.aG),.d (.s x.fType.fName),.d (.sl (x.fType.fArgs.map ak.enc)),.d (.sl (x.fArgs.map aj.enc)),.d (.sl (x.aD.map ay.enc))]
theorem aj.jI(x:aj): .agg (x.enc.map .d)=x.v:=by
 simp only[aj.aB,ak.aB,List.map_cons,List.map_nil,List.cons_append,List.nil_append,List.map_append]
theorem aj.aO(x:aj):x.enc.length=9:=by
 simp only[aj.aB,ak.aO,List.length_append,List.length_cons,List.length_nil]
def aj.sz(x:aj):Nat:=bB x.enc
theorem aj.dK(x:aj):bB x.enc=x.sz:=rfl
theorem aj.eH(x:aj):SizeOf.sizeOf x.fArgs<SizeOf.sizeOf x:=by cases x;simp[aj.fArgs];omega
theorem aj.lZ(x:aj):SizeOf.sizeOf x.aD<SizeOf.sizeOf x:=by cases x;simp[aj.aD];omega
abbrev ay.v (x:ay):V:=.agg [.d (.s x.aV),.d (.sl (x.aU.map encS)),.d (.i .i64 x.fBody.aG),.d (.s x.fBody.aQ),.d (.s x.fBody.fName),.d (.i .i64 x.fBody.fN),.d (.i .i64 x.fBody.fType.aG),.d (.s x.fBody.fType.fName),.d (.sl (x.fBody.fType.fArgs.map ak.enc)),.d (.sl (x.fBody.fArgs.map aj.enc)),.d (.sl (x.fBody.aD.map ay.enc))]
theorem ay.jI(x:ay): .agg (x.enc.map .d)=x.v:=by
 simp only[ay.aB,aj.aB,ak.aB,List.map_cons,List.map_nil,List.cons_append,List.nil_append,List.map_append]
theorem ay.aO(x:ay):x.enc.length=11:=by
 simp only[ay.aB,aj.aO,List.length_append,List.length_cons,List.length_nil]
def ay.sz(x:ay):Nat:=bB x.enc
theorem ay.dK(x:ay):bB x.enc=x.sz:=rfl
theorem ay.kT(x:ay):SizeOf.sizeOf x.fBody<SizeOf.sizeOf x:=by cases x;simp[ay.fBody];omega
inductive ah where
 |mk (bf:List UInt8) (aH:List ah)
def ah.bf:ah→List UInt8| .mk x _=>x
def ah.aH:ah→List ah| .mk _ x=>x
theorem ah.eta(x:ah):ah.mk x.bf x.aH=x:=by cases x;rfl
theorem ah.ext{x y:ah}(h0:x.bf=y.bf)(h1:x.aH=y.aH):x=y:=by
 rw[←ah.eta x,←ah.eta y,h0,h1]
mutual
def ah.enc:ah→List D
 | .mk a0 a1=>[.s a0,.sl (ah.encs a1)]
def ah.encs:List ah→List (List D)
 |[]=>[]
 |x::xs=>x.enc::ah.encs xs
end
theorem ah.fq:∀l,ah.encs l=l.map ah.enc
 |[]=>rfl
 |x::xs=>by rw[ah.encs,List.map_cons,ah.fq xs]
theorem ah.aB(x:ah):x.enc=[.s x.bf,.sl (x.aH.map ah.enc)]:=by
 cases x;simp only[ah.enc,ah.fq,ah.bf,ah.aH]
abbrev ah.v (x:ah):V:=.agg [.d (.s x.bf),.d (.sl (x.aH.map ah.enc))]
theorem ah.jI(x:ah): .agg (x.enc.map .d)=x.v:=by
 simp only[ah.aB,List.map_cons,List.map_nil,List.cons_append,List.nil_append,List.map_append]
theorem ah.aO(x:ah):x.enc.length=2:=by
 simp only[ah.aB,List.length_append,List.length_cons,List.length_nil]
def ah.sz(x:ah):Nat:=bB x.enc
theorem ah.dK(x:ah):bB x.enc=x.sz:=rfl
theorem ah.AA(x:ah):SizeOf.sizeOf x.aH<SizeOf.sizeOf x:=by cases x;simp[ah.aH];omega
structure bn where
 fName:List UInt8
 gD:List ak
 eO:ak
 kU:Bool
 aU:List (List UInt8)
 fBody:aj
def bn.enc(x:bn):List D:=[.s x.fName,.sl (x.gD.map ak.enc)]++(x.eO.enc++([.b x.kU,.sl (x.aU.map encS)]++(x.fBody.enc)))
theorem bn.aB(x:bn):x.enc=[.s x.fName,.sl (x.gD.map ak.enc)]++(x.eO.enc++([.b x.kU,.sl (x.aU.map encS)]++(x.fBody.enc))):=rfl
theorem bn.eta(x:bn):bn.mk x.fName x.gD x.eO x.kU x.aU x.fBody=x:=rfl
theorem bn.ext'{x y:bn}(h0:x.fName=y.fName)(h1:x.gD=y.gD)(h2:x.eO=y.eO)(h3:x.kU=y.kU)(h4:x.aU=y.aU)(h5:x.fBody=y.fBody):x=y:=by
 cases x;cases y;simp_all
abbrev bn.v (x:bn):V:=.agg [.d (.s x.fName),.d (.sl (x.gD.map ak.enc)),.d (.i .i64 x.eO.aG),.d (.s x.eO.fName),.d (.sl (x.eO.fArgs.map ak.enc)),.d (.b x.kU),.d (.sl (x.aU.map encS)),.d (.i .i64 x.fBody.aG),.d (.s x.fBody.aQ),.d (.s x.fBody.fName),.d (.i .i64 x.fBody.fN),.d (.i .i64 x.fBody.fType.aG),.d (.s x.fBody.fType.fName),.d (.sl (x.fBody.fType.fArgs.map ak.enc)),.d (.sl (x.fBody.fArgs.map aj.enc)),.d (.sl (x.fBody.aD.map ay.enc))]
theorem bn.jI(x:bn): .agg (x.enc.map .d)=x.v:=by
 simp only[bn.aB,aj.aB,ak.aB,List.map_cons,List.map_nil,List.cons_append,List.nil_append,List.map_append]
theorem bn.aO(x:bn):x.enc.length=16:=by
 simp only[bn.aB,aj.aO,ak.aO,List.length_append,List.length_cons,List.length_nil]
def bn.sz(x:bn):Nat:=bB x.enc
theorem bn.dK(x:bn):bB x.enc=x.sz:=rfl
structure dh where
 fName:List UInt8
 iI:List (List UInt8)
 wH:Bool
 iJ:Bool
 iW:List bn
def dh.enc(x:dh):List D:=[.s x.fName,.sl (x.iI.map encS),.b x.wH,.b x.iJ,.sl (x.iW.map bn.enc)]
theorem dh.aB(x:dh):x.enc=[.s x.fName,.sl (x.iI.map encS),.b x.wH,.b x.iJ,.sl (x.iW.map bn.enc)]:=rfl
theorem dh.eta(x:dh):dh.mk x.fName x.iI x.wH x.iJ x.iW=x:=rfl
theorem dh.ext'{x y:dh}(h0:x.fName=y.fName)(h1:x.iI=y.iI)(h2:x.wH=y.wH)(h3:x.iJ=y.iJ)(h4:x.iW=y.iW):x=y:=by
 cases x;cases y;simp_all
abbrev dh.v (x:dh):V:=.agg [.d (.s x.fName),.d (.sl (x.iI.map encS)),.d (.b x.wH),.d (.b x.iJ),.d (.sl (x.iW.map bn.enc))]
theorem dh.jI(x:dh): .agg (x.enc.map .d)=x.v:=by
 simp only[dh.aB,List.map_cons,List.map_nil,List.cons_append,List.nil_append,List.map_append]
theorem dh.aO(x:dh):x.enc.length=5:=by
 simp only[dh.aB,List.length_append,List.length_cons,List.length_nil]
def dh.sz(x:dh):Nat:=bB x.enc
theorem dh.dK(x:dh):bB x.enc=x.sz:=rfl
structure aR where
 fName:List UInt8
 mX:List ak
def aR.enc(x:aR):List D:=[.s x.fName,.sl (x.mX.map ak.enc)]
theorem aR.aB(x:aR):x.enc=[.s x.fName,.sl (x.mX.map ak.enc)]:=rfl
theorem aR.eta(x:aR):aR.mk x.fName x.mX=x:=rfl
theorem aR.ext'{x y:aR}(h0:x.fName=y.fName)(h1:x.mX=y.mX):x=y:=by
 cases x;cases y;simp_all
abbrev aR.v (x:aR):V:=.agg [.d (.s x.fName),.d (.sl (x.mX.map ak.enc))]
theorem aR.jI(x:aR): .agg (x.enc.map .d)=x.v:=by
 simp only[aR.aB,List.map_cons,List.map_nil,List.cons_append,List.nil_append,List.map_append]
theorem aR.aO(x:aR):x.enc.length=2:=by
 simp only[aR.aB,List.length_append,List.length_cons,List.length_nil]
def aR.sz(x:aR):Nat:=bB x.enc
theorem aR.dK(x:aR):bB x.enc=x.sz:=rfl
structure bD where
 fName:List UInt8
 aU:List (List UInt8)
 gU:List aR
def bD.enc(x:bD):List D:=[.s x.fName,.sl (x.aU.map encS),.sl (x.gU.map aR.enc)]
theorem bD.aB(x:bD):x.enc=[.s x.fName,.sl (x.aU.map encS),.sl (x.gU.map aR.enc)]:=rfl
theorem bD.eta(x:bD):bD.mk x.fName x.aU x.gU=x:=rfl
theorem bD.ext'{x y:bD}(h0:x.fName=y.fName)(h1:x.aU=y.aU)(h2:x.gU=y.gU):x=y:=by
 cases x;cases y;simp_all
abbrev bD.v (x:bD):V:=.agg [.d (.s x.fName),.d (.sl (x.aU.map encS)),.d (.sl (x.gU.map aR.enc))]
theorem bD.jI(x:bD): .agg (x.enc.map .d)=x.v:=by
 simp only[bD.aB,List.map_cons,List.map_nil,List.cons_append,List.nil_append,List.map_append]
theorem bD.aO(x:bD):x.enc.length=3:=by
 simp only[bD.aB,List.length_append,List.length_cons,List.length_nil]
def bD.sz(x:bD):Nat:=bB x.enc
theorem bD.dK(x:bD):bB x.enc=x.sz:=rfl
structure bP where
 fName:List UInt8
 aU:List (List UInt8)
 fBody:aj
def bP.enc(x:bP):List D:=[.s x.fName,.sl (x.aU.map encS)]++(x.fBody.enc)
theorem bP.aB(x:bP):x.enc=[.s x.fName,.sl (x.aU.map encS)]++(x.fBody.enc):=rfl
theorem bP.eta(x:bP):bP.mk x.fName x.aU x.fBody=x:=rfl
theorem bP.ext'{x y:bP}(h0:x.fName=y.fName)(h1:x.aU=y.aU)(h2:x.fBody=y.fBody):x=y:=by
 cases x;cases y;simp_all
abbrev bP.v (x:bP):V:=.agg [.d (.s x.fName),.d (.sl (x.aU.map encS)),.d (.i .i64 x.fBody.aG),.d (.s x.fBody.aQ),.d (.s x.fBody.fName),.d (.i .i64 x.fBody.fN),.d (.i .i64 x.fBody.fType.aG),.d (.s x.fBody.fType.fName),.d (.sl (x.fBody.fType.fArgs.map ak.enc)),.d (.sl (x.fBody.fArgs.map aj.enc)),.d (.sl (x.fBody.aD.map ay.enc))]
theorem bP.jI(x:bP): .agg (x.enc.map .d)=x.v:=by
 simp only[bP.aB,aj.aB,ak.aB,List.map_cons,List.map_nil,List.cons_append,List.nil_append,List.map_append]
theorem bP.aO(x:bP):x.enc.length=11:=by
 simp only[bP.aB,aj.aO,List.length_append,List.length_cons,List.length_nil]
def bP.sz(x:bP):Nat:=bB x.enc
theorem bP.dK(x:bP):bB x.enc=x.sz:=rfl
structure bE where
 aQ:List UInt8
 aU:List (List UInt8)
 oQ:ak
 iK:List bQ
 oF:Bool
 mY:Bool
 iJ:ak
 lS:List bP
def bE.enc(x:bE):List D:=[.s x.aQ,.sl (x.aU.map encS)]++(x.oQ.enc++([.sl (x.iK.map bQ.enc),.b x.oF,.b x.mY]++(x.iJ.enc++([.sl (x.lS.map bP.enc)]))))
theorem bE.aB(x:bE):x.enc=[.s x.aQ,.sl (x.aU.map encS)]++(x.oQ.enc++([.sl (x.iK.map bQ.enc),.b x.oF,.b x.mY]++(x.iJ.enc++([.sl (x.lS.map bP.enc)])))):=rfl
theorem bE.eta(x:bE):bE.mk x.aQ x.aU x.oQ x.iK x.oF x.mY x.iJ x.lS=x:=rfl
theorem bE.ext'{x y:bE}(h0:x.aQ=y.aQ)(h1:x.aU=y.aU)(h2:x.oQ=y.oQ)(h3:x.iK=y.iK)(h4:x.oF=y.oF)(h5:x.mY=y.mY)(h6:x.iJ=y.iJ)(h7:x.lS=y.lS):x=y:=by
 cases x;cases y;simp_all
abbrev bE.v (x:bE):V:=.agg [.d (.s x.aQ),.d (.sl (x.aU.map encS)),.d (.i .i64 x.oQ.aG),.d (.s x.oQ.fName),.d (.sl (x.oQ.fArgs.map ak.enc)),.d (.sl (x.iK.map bQ.enc)),.d (.b x.oF),.d (.b x.mY),.d (.i .i64 x.iJ.aG),.d (.s x.iJ.fName),.d (.sl (x.iJ.fArgs.map ak.enc)),.d (.sl (x.lS.map bP.enc))]
theorem bE.jI(x:bE): .agg (x.enc.map .d)=x.v:=by
 simp only[bE.aB,ak.aB,List.map_cons,List.map_nil,List.cons_append,List.nil_append,List.map_append]
theorem bE.aO(x:bE):x.enc.length=12:=by
 simp only[bE.aB,ak.aO,List.length_append,List.length_cons,List.length_nil]
def bE.sz(x:bE):Nat:=bB x.enc
theorem bE.dK(x:bE):bB x.enc=x.sz:=rfl
structure dn where
 fName:List UInt8
 fType:ak
def dn.enc(x:dn):List D:=[.s x.fName]++(x.fType.enc)
theorem dn.aB(x:dn):x.enc=[.s x.fName]++(x.fType.enc):=rfl
theorem dn.eta(x:dn):dn.mk x.fName x.fType=x:=rfl
theorem dn.ext'{x y:dn}(h0:x.fName=y.fName)(h1:x.fType=y.fType):x=y:=by
 cases x;cases y;simp_all
abbrev dn.v (x:dn):V:=.agg [.d (.s x.fName),.d (.i .i64 x.fType.aG),.d (.s x.fType.fName),.d (.sl (x.fType.fArgs.map ak.enc))]
theorem dn.jI(x:dn): .agg (x.enc.map .d)=x.v:=by
 simp only[dn.aB,ak.aB,List.map_cons,List.map_nil,List.cons_append,List.nil_append,List.map_append]
theorem dn.aO(x:dn):x.enc.length=4:=by
 simp only[dn.aB,ak.aO,List.length_append,List.length_cons,List.length_nil]
def dn.sz(x:dn):Nat:=bB x.enc
theorem dn.dK(x:dn):bB x.enc=x.sz:=rfl
structure bF where
 fName:List UInt8
 aU:List (List UInt8)
 iK:List bQ
 gD:List dn
 eO:ak
 fBody:aj
def bF.enc(x:bF):List D:=[.s x.fName,.sl (x.aU.map encS),.sl (x.iK.map bQ.enc),.sl (x.gD.map dn.enc)]++(x.eO.enc++(x.fBody.enc))
theorem bF.aB(x:bF):x.enc=[.s x.fName,.sl (x.aU.map encS),.sl (x.iK.map bQ.enc),.sl (x.gD.map dn.enc)]++(x.eO.enc++(x.fBody.enc)):=rfl
theorem bF.eta(x:bF):bF.mk x.fName x.aU x.iK x.gD x.eO x.fBody=x:=rfl
theorem bF.ext'{x y:bF}(h0:x.fName=y.fName)(h1:x.aU=y.aU)(h2:x.iK=y.iK)(h3:x.gD=y.gD)(h4:x.eO=y.eO)(h5:x.fBody=y.fBody):x=y:=by
 cases x;cases y;simp_all
abbrev bF.v (x:bF):V:=.agg [.d (.s x.fName),.d (.sl (x.aU.map encS)),.d (.sl (x.iK.map bQ.enc)),.d (.sl (x.gD.map dn.enc)),.d (.i .i64 x.eO.aG),.d (.s x.eO.fName),.d (.sl (x.eO.fArgs.map ak.enc)),.d (.i .i64 x.fBody.aG),.d (.s x.fBody.aQ),.d (.s x.fBody.fName),.d (.i .i64 x.fBody.fN),.d (.i .i64 x.fBody.fType.aG),.d (.s x.fBody.fType.fName),.d (.sl (x.fBody.fType.fArgs.map ak.enc)),.d (.sl (x.fBody.fArgs.map aj.enc)),.d (.sl (x.fBody.aD.map ay.enc))]
theorem bF.jI(x:bF): .agg (x.enc.map .d)=x.v:=by
 simp only[bF.aB,aj.aB,ak.aB,List.map_cons,List.map_nil,List.cons_append,List.nil_append,List.map_append]
theorem bF.aO(x:bF):x.enc.length=16:=by
 simp only[bF.aB,aj.aO,ak.aO,List.length_append,List.length_cons,List.length_nil]
def bF.sz(x:bF):Nat:=bB x.enc
theorem bF.dK(x:bF):bB x.enc=x.sz:=rfl
structure bK where
 fName:List UInt8
 qZ:List (List UInt8)
 mZ:List dh
 jy:List bD
 jA:List bE
 jB:List bF
def bK.enc(x:bK):List D:=[.s x.fName,.sl (x.qZ.map encS),.sl (x.mZ.map dh.enc),.sl (x.jy.map bD.enc),.sl (x.jA.map bE.enc),.sl (x.jB.map bF.enc)]
theorem bK.aB(x:bK):x.enc=[.s x.fName,.sl (x.qZ.map encS),.sl (x.mZ.map dh.enc),.sl (x.jy.map bD.enc),.sl (x.jA.map bE.enc),.sl (x.jB.map bF.enc)]:=rfl
theorem bK.eta(x:bK):bK.mk x.fName x.qZ x.mZ x.jy x.jA x.jB=x:=rfl
theorem bK.ext'{x y:bK}(h0:x.fName=y.fName)(h1:x.qZ=y.qZ)(h2:x.mZ=y.mZ)(h3:x.jy=y.jy)(h4:x.jA=y.jA)(h5:x.jB=y.jB):x=y:=by
 cases x;cases y;simp_all
abbrev bK.v (x:bK):V:=.agg [.d (.s x.fName),.d (.sl (x.qZ.map encS)),.d (.sl (x.mZ.map dh.enc)),.d (.sl (x.jy.map bD.enc)),.d (.sl (x.jA.map bE.enc)),.d (.sl (x.jB.map bF.enc))]
theorem bK.jI(x:bK): .agg (x.enc.map .d)=x.v:=by
 simp only[bK.aB,List.map_cons,List.map_nil,List.cons_append,List.nil_append,List.map_append]
theorem bK.aO(x:bK):x.enc.length=6:=by
 simp only[bK.aB,List.length_append,List.length_cons,List.length_nil]
def bK.sz(x:bK):Nat:=bB x.enc
theorem bK.dK(x:bK):bB x.enc=x.sz:=rfl
structure bV where
 jW:List bK
def bV.enc(x:bV):List D:=[.sl (x.jW.map bK.enc)]
theorem bV.aB(x:bV):x.enc=[.sl (x.jW.map bK.enc)]:=rfl
theorem bV.eta(x:bV):bV.mk x.jW=x:=rfl
theorem bV.ext'{x y:bV}(h0:x.jW=y.jW):x=y:=by
 cases x;cases y;simp_all
abbrev bV.v (x:bV):V:=.agg [.d (.sl (x.jW.map bK.enc))]
theorem bV.jI(x:bV): .agg (x.enc.map .d)=x.v:=by
 simp only[bV.aB,List.map_cons,List.map_nil,List.cons_append,List.nil_append,List.map_append]
theorem bV.aO(x:bV):x.enc.length=1:=by
 simp only[bV.aB,List.length_append,List.length_cons,List.length_nil]
def bV.sz(x:bV):Nat:=bB x.enc
theorem bV.dK(x:bV):bB x.enc=x.sz:=rfl
structure bg where
 oG:Int
 GK:Int
def bg.enc(x:bg):List D:=[.i .i64 x.oG,.i .i64 x.GK]
theorem bg.aB(x:bg):x.enc=[.i .i64 x.oG,.i .i64 x.GK]:=rfl
theorem bg.eta(x:bg):bg.mk x.oG x.GK=x:=rfl
theorem bg.ext'{x y:bg}(h0:x.oG=y.oG)(h1:x.GK=y.GK):x=y:=by
 cases x;cases y;simp_all
abbrev bg.v (x:bg):V:=.agg [.d (.i .i64 x.oG),.d (.i .i64 x.GK)]
theorem bg.jI(x:bg): .agg (x.enc.map .d)=x.v:=by
 simp only[bg.aB,List.map_cons,List.map_nil,List.cons_append,List.nil_append,List.map_append]
theorem bg.aO(x:bg):x.enc.length=2:=by
 simp only[bg.aB,List.length_append,List.length_cons,List.length_nil]
def bg.sz(x:bg):Nat:=bB x.enc
theorem bg.dK(x:bg):bB x.enc=x.sz:=rfl
attribute [go_sem] ak.aB bC.aB bQ.aB aj.aB ay.aB ah.aB bn.aB dh.aB aR.aB bD.aB bP.aB bE.aB dn.aB bF.aB bK.aB bV.aB bg.aB encS encI
end Go.Ab
namespace Go.Ab
def GL:List bC→List UInt8→Option ak
 |[],_=>none
 |b::bs,v=>if b.fVar=v then some b.fType else GL bs v
mutual
noncomputable def qJ(s:List bC):ak→ak→Option (List bC)
 | .mk k n a,t=>
   if k=1 then
    match GL s n with
    |some u=>if dec (u=t)=true then some s else none
    |none=>some (s++[⟨n,t⟩])
   else if k=t.aG∧n=t.fName∧a.length=t.fArgs.length then mE s a t.fArgs else none
noncomputable def mE(s:List bC):List ak→List ak→Option (List bC)
 |[],_=>some s
 |_::_,[]=>none
 |p::ps,t::ts=>
  match qJ s p t with
  |some s'=>mE s' ps ts
  |none=>none
end
mutual
def ak.cnt:ak→Nat
 | .mk _ _ a=>1+ak.bY a
def ak.bY:List ak→Nat
 |[]=>0
 |t::ts=>t.cnt+ak.bY ts
end
theorem ak.kJ(t:ak):t.cnt=1+ak.bY t.fArgs:=by cases t;rw[ak.cnt];rfl
mutual
theorem kK:∀t:ak,t.cnt≤1+t.sz
 | .mk k n a=>by
   have h:=ng a
   rw[ak.cnt]
   have e:(ak.mk k n a).sz=n.length+(a.length+aP (a.map ak.enc)):=by
    simp only[ak.sz,ak.aB,bB,D.sz,List.length_map,ak.fName,ak.fArgs,Nat.add_zero,Nat.zero_add]
   omega
theorem ng:∀ts:List ak,ak.bY ts≤ts.length+aP (ts.map ak.enc)
 |[]=>by simp[ak.bY]
 |t::ts=>by
  have h1:=kK t
  have h2:=ng ts
  rw[ak.bY,List.length_cons,List.map_cons,aP,ak.dK]
  omega
end
mutual
theorem Jm:∀(p:ak) (s:List bC) (t:ak) (s':List bC),qJ s p t=some s'→s'.length≤s.length+p.cnt
 | .mk k n a,s,t,s',h=>by
   rw[qJ] at h
   rw[ak.cnt]
   split at h
   ·split at h
    ·split at h
     ·cases h;omega
     ·cases h
    ·cases h;simp
   ·split at h
    ·have:=yZ a s t.fArgs s' h;omega
    ·cases h
theorem yZ:∀(ps:List ak) (s:List bC) (ts:List ak) (s':List bC),mE s ps ts=some s'→s'.length≤s.length+ak.bY ps
 |[],s,ts,s',h=>by rw[mE] at h;cases h;omega
 |p::ps,s,[],s',h=>by rw[mE] at h;cases h
 |p::ps,s,t::ts,s',h=>by
  rw[mE] at h
  rw[ak.bY]
  cases hm:qJ s p t with
  |none=>rw[hm] at h;cases h
  |some s1=>
   rw[hm] at h
   have h1:=Jm p s t s1 hm
   have h2:=yZ ps s1 ts s' h
   omega
end
def Small(s:List bC):Prop:=∀b∈s,b.fType.sz≤4194304
mutual
theorem Ed:∀(p:ak) (s:List bC) (t:ak) (s':List bC),t.sz≤4194304→Small s→qJ s p t=some s'→Small s'
 | .mk k n a,s,t,s',ht,hs,h=>by
   rw[qJ] at h
   split at h
   ·split at h
    ·split at h
     ·cases h;exact hs
     ·cases h
    ·cases h
     intro b hb
     rcases List.mem_append.1 hb with hb|hb
     ·exact hs b hb
     ·simp at hb;subst hb;exact ht
   ·split at h
    ·refine vB a s t.fArgs s' ?_ hs h
     intro x hx
     have h1:=dX (List.mem_map_of_mem (f:=ak.enc) hx)
     have h2:t.sz=t.fName.length+(t.fArgs.length+aP (t.fArgs.map ak.enc)):=by
      simp only[ak.sz,ak.aB,bB,bU,D.sz,List.length_map,Nat.add_zero,Nat.zero_add]
     rw[ak.dK] at h1
     omega
    ·cases h
theorem vB:∀(ps:List ak) (s:List bC) (ts:List ak) (s':List bC),(∀t∈ts,t.sz≤4194304)→Small s→mE s ps ts=some s'→Small s'
 |[],s,ts,s',ht,hs,h=>by rw[mE] at h;cases h;exact hs
 |p::ps,s,[],s',ht,hs,h=>by rw[mE] at h;cases h
 |p::ps,s,t::ts,s',ht,hs,h=>by
  rw[mE] at h
  cases hm:qJ s p t with
  |none=>rw[hm] at h;cases h
  |some s1=>
   rw[hm] at h
   exact vB ps s1 ts s' (fun x hx=>ht x (by simp[hx])) (Ed p s t s1 (ht t (by simp)) hs hm) h
end
end Go.Ab
namespace Go.Ab
def lowerB(b:UInt8):Prop:=97≤b.toNat∧b.toNat≤122
def jQ(b:UInt8):Prop:=48≤b.toNat∧b.toNat≤57
def Ee(s:List UInt8):Prop:=∀i,i<s.length→lowerB (s.getD i 0)∨(i≠0∧jQ (s.getD i 0))
def reserved:List (List UInt8):=[[105,110,116],[98,111,111,108],[97,115,115,111,99],[100,121,110],[105,102],[108,101,116],[99,97,115,101],[110,101,119],[109,101,116,104,111,100],[112,97,99,107],[116,114,117,101],[102,97,108,115,101]]
noncomputable def validName(s:List UInt8):Bool:=dec ((1≤s.length∧s.length≤8)∧s∉reserved∧Ee s)
noncomputable def mM(s:List UInt8):Bool:=dec (s=[105,110,116]∨s=[98,111,111,108])
noncomputable def qK(xs:List (List UInt8))(s:List UInt8):Int:=if s∈xs then((xs.findIdx fun x=>dec (x=s):Nat):Int) else -1
theorem F3{xs:List (List UInt8)}{s:List UInt8}{i:Nat}(hi:i<xs.length)(hj:∀j,j<i→xs.getD j []≠s)(h:xs.getD i []=s):qK xs s=i:=by
 have e:∀j,∀hj:j<xs.length,xs.getD j []=xs[j]:=fun j hj=>by simp[List.getD,hj]
 have hm:s∈xs:=by rw[←h,e i hi];exact List.getElem_mem hi
 unfold qK
 rw[if_pos hm]
 congr 1
 rw[List.findIdx_eq hi]
 exact⟨bR (by rw[←e i hi];exact h),fun j hji=>aL (by rw[←e j (by omega)];exact hj j hji)⟩
theorem LD{xs:List (List UInt8)}{s:List UInt8}(hj:∀j,j<xs.length→xs.getD j []≠s):qK xs s= -1:=by
 unfold qK
 refine if_neg fun hm=> ?_
 obtain⟨j,h1,h2⟩:=List.getElem_of_mem hm
 exact hj j h1 (by simp[List.getD,h1,h2])
theorem Jo{xs:List (List UInt8)}{s:List UInt8}:decide (qK xs s≥0)=dec (s∈xs):=by
 rw[jw]
 refine jV ?_
 unfold qK
 split
 ·rename_i h;exact⟨fun _=>h,fun _=>by omega⟩
 ·rename_i h;exact⟨fun x=>by omega,fun x=>absurd x h⟩
def lT{α:Type}(p:α→Bool)(xs:List α):Int:=if xs.any p then((xs.findIdx p:Nat):Int) else -1
theorem mF{α:Type}{p:α→Bool}{xs:List α}{i:Nat}(hi:i<xs.length)(hj:∀j,∀hj:j<xs.length,j<i→p xs[j]=false)(h:p xs[i]=true):lT p xs=i:=by
 unfold lT
 rw[if_pos (List.any_eq_true.2 ⟨xs[i],List.getElem_mem hi,h⟩)]
 congr 1
 rw[List.findIdx_eq hi]
 exact⟨h,fun j hji=>hj j (by omega) hji⟩
theorem pz{α:Type}{p:α→Bool}{xs:List α}(hj:∀j,∀hj:j<xs.length,p xs[j]=false):lT p xs= -1:=by
 unfold lT
 refine if_neg fun h=> ?_
 obtain⟨x,hx,hp⟩:=List.any_eq_true.1 h
 obtain⟨j,h1,h2⟩:=List.getElem_of_mem hx
 rw[←h2,hj j h1] at hp
 cases hp
theorem nT{α:Type}{p:α→Bool}{xs:List α}:decide (lT p xs≥0)=xs.any p:=by
 unfold lT
 cases h:xs.any p with
 |true=>simp
 |false=>simp
noncomputable def qj(k:Int)(n:List UInt8)(len:Nat):Bool:=
 dec ((k=1∨k=4)∧validName n=true∧len=0∨k=3∧validName n=true∧len=1∨k=2∧(validName n=true∧len≤3∨mM n=true∧len=0))
mutual
noncomputable def formed:ak→Bool
 | .mk k n a=>qj k n a.length&&fM a
noncomputable def fM:List ak→Bool
 |[]=>true
 |t::ts=>formed t&&fM ts
end
theorem pE(t:ak):formed t=(qj t.aG t.fName t.fArgs.length&&fM t.fArgs):=by cases t;rw[formed];rfl
theorem rR:∀{ts:List ak},fM ts=true↔∀t∈ts,formed t=true
 |[]=>by simp[fM]
 |t::ts=>by simp[fM,rR (ts:=ts)]
theorem wW:∀{ts:List ak},(ts.any fun t=> !formed t)= !fM ts
 |[]=>rfl
 |t::ts=>by rw[List.any_cons,wW (ts:=ts),fM];simp
mutual
def gN:ak→Nat
 | .mk _ _ a=>depths a
def depths:List ak→Nat
 |[]=>0
 |t::ts=>max (gN t+1) (depths ts)
end
theorem Bv(t:ak):gN t=depths t.fArgs:=by cases t;rw[gN];rfl
mutual
theorem pF:∀t:ak,gN t+1≤t.cnt
 | .mk k n a=>by
   have:=Bw a
   rw[gN,ak.cnt];omega
theorem Bw:∀ts:List ak,depths ts≤ak.bY ts
 |[]=>by simp[depths]
 |t::ts=>by
  have h1:=pF t
  have h2:=Bw ts
  rw[depths,ak.bY]
  omega
end
noncomputable def ni(t:ak):Bool:=dec (formed t=true∧gN t≤6∧t.cnt≤60)
end Go.Ab
namespace Go.Ab
mutual
def Ef:ak→List ak
 | .mk k n a=>.mk k n a::y5 a
def y5:List ak→List ak
 |[]=>[]
 |t::ts=>Ef t++y5 ts
end
mutual
theorem LG:∀t:ak,(Ef t).length=t.cnt
 | .mk k n a=>by rw[Ef,List.length_cons,ak.cnt,y7 a];omega
theorem y7:∀ts:List ak,(y5 ts).length=ak.bY ts
 |[]=>rfl
 |t::ts=>by rw[y5,List.length_append,ak.bY,LG t,y7 ts]
end
end Go.Ab
namespace Go.Proofs.YtcfhnaohbaplhaaGreatDoor.Fa
open Go Go.Ab
abbrev bZ (t c b:Nat) (z:List C):Prop:=Tryz.prog.cellsOf t=c∧Tryz.prog.bytesOf t=b∧(Tryz.prog.info? t).isSome=true∧fE Tryz.prog t=some z
theorem cu{t c b:Nat}{z:List C}(h1:Tryz.prog.cellsOf t=c:=by kernel_rfl)(h2:Tryz.prog.bytesOf t=b:=by kernel_rfl)(h3:(Tryz.prog.info? t).isSome=true:=by kernel_rfl)(h4:fE Tryz.prog t=some z:=by kernel_rfl):bZ t c b z:=⟨h1,h2,h3,h4⟩
theorem WS:bZ 1 1 8 [.d (.o .nilFunc)]:=cu
theorem WU:bZ 2 1 8 [.d (.i .i64 0)]:=cu
theorem WV:bZ 3 1 8 [.d (.i .i64 0)]:=cu
theorem WW:bZ 4 1 1 [.d (.b false)]:=cu
theorem Ua:zeroV Tryz.prog 4=some (.bool false):=by kernel_rfl
theorem WX:bZ 5 1 1 [.d (.i .u8 0)]:=cu
theorem WY:bZ 9 1 16 [.d (.s [])]:=cu
theorem VG:bZ 12 1 8 [.d (.i .u64 0)]:=cu
theorem VH:bZ 20 1 16 [.d (.o .nilIface)]:=cu
theorem VI:bZ 21 1 4 [.d (.i .i32 0)]:=cu
theorem VJ:bZ 22 1 24 [.aY []]:=cu
theorem VK:bZ 23 3 48 [.d (.i .i64 0),.d (.s []),.aY []]:=cu
theorem VL:bZ 24 3 48 [.d (.i .i64 0),.d (.s []),.aY []]:=cu
theorem VN:bZ 25 1 24 [.aY []]:=cu
theorem VO:bZ 26 1 24 [.aY []]:=cu
theorem VP:bZ 27 9 144 [.d (.i .i64 0),.d (.s []),.d (.s []),.d (.i .i64 0),.d (.i .i64 0),.d (.s []),.aY [],.aY [],.aY []]:=cu
theorem VQ:bZ 28 9 144 [.d (.i .i64 0),.d (.s []),.d (.s []),.d (.i .i64 0),.d (.i .i64 0),.d (.s []),.aY [],.aY [],.aY []]:=cu
theorem VR:bZ 31 1 24 [.aY []]:=cu
theorem VT:bZ 33 3 48 [.d (.i .i64 0),.d (.s []),.aY []]:=cu
theorem VU:bZ 34 1 24 [.aY []]:=cu
theorem VW:bZ 35 1 24 [.aY []]:=cu
theorem VX:bZ 37 9 144 [.d (.i .i64 0),.d (.s []),.d (.s []),.d (.i .i64 0),.d (.i .i64 0),.d (.s []),.aY [],.aY [],.aY []]:=cu
theorem VY:bZ 39 1 8 [.d (.o .nilFunc)]:=cu
theorem VZ:bZ 41 1 24 [.aY []]:=cu
theorem V3:bZ 42 1 24 [.aY []]:=cu
theorem V4:bZ 43 1 24 [.aY []]:=cu
theorem V5:bZ 50 1 24 [.aY []]:=cu
theorem V6:bZ 51 1 24 [.aY []]:=cu
theorem V7:bZ 69 1 8 [.d (.o .nilFunc)]:=cu
theorem V8:bZ 70 1 24 [.aY []]:=cu
theorem V9:bZ 71 2 40 [.d (.s []),.aY []]:=cu
theorem Wd:bZ 72 2 40 [.d (.s []),.aY []]:=cu
theorem Wh:bZ 76 1 24 [.aY []]:=cu
theorem Wi:bZ 78 2 40 [.d (.s []),.aY []]:=cu
theorem Wj:bZ 80 1 8 [.d (.o .nilFunc)]:=cu
theorem Wl:bZ 87 1 8 [.d (.o .nilFunc)]:=cu
theorem Wm:bZ 97 1 8 [.d (.o .nilFunc)]:=cu
theorem Ub:bZ 124 1 8 [.d (.o .nilFunc)]:=cu
theorem Uc:bZ 145 11 184 [.d (.s []),.aY [],.d (.i .i64 0),.d (.s []),.d (.s []),.d (.i .i64 0),.d (.i .i64 0),.d (.s []),.aY [],.aY [],.aY []]:=cu
theorem Ud:bZ 146 1 8 [.d (.o .nilFunc)]:=cu
theorem Ue:bZ 149 11 184 [.d (.s []),.aY [],.d (.i .i64 0),.d (.s []),.d (.s []),.d (.i .i64 0),.d (.i .i64 0),.d (.s []),.aY [],.aY [],.aY []]:=cu
theorem Uf:bZ 153 1 8 [.d (.o (.pointer none))]:=cu
theorem Ug:bZ 154 1 24 [.aY []]:=cu
theorem Uh:bZ 156 2 32 [.d (.o (.pointer none)),.aY []]:=cu
theorem Ui:bZ 160 1 8 [.d (.o .nilFunc)]:=cu
theorem Uj:bZ 162 1 24 [.aY []]:=cu
theorem Uk:bZ 164 5 72 [.d (.s []),.aY [],.d (.b false),.d (.b false),.aY []]:=cu
theorem Ul:bZ 166 1 24 [.aY []]:=cu
theorem Um:bZ 168 3 64 [.d (.s []),.aY [],.aY []]:=cu
theorem Un:bZ 170 1 24 [.aY []]:=cu
theorem Uo:bZ 182 1 24 [.aY []]:=cu
theorem Uq:bZ 184 5 72 [.d (.s []),.aY [],.d (.b false),.d (.b false),.aY []]:=cu
theorem Ur:bZ 186 1 24 [.aY []]:=cu
theorem Us:bZ 188 3 64 [.d (.s []),.aY [],.aY []]:=cu
theorem Ut:bZ 190 1 24 [.aY []]:=cu
theorem Uu:bZ 240 1 24 [.aY []]:=cu
theorem Uv:bZ 248 1 16 [.d (.o .nilIface)]:=cu
theorem Uw:bZ 252 1 8 [.d (.o (.pointer none))]:=cu
theorem Ux:bZ 259 16 264 [.d (.s []),.aY [],.d (.i .i64 0),.d (.s []),.aY [],.d (.b false),.aY [],.d (.i .i64 0),.d (.s []),.d (.s []),.d (.i .i64 0),.d (.i .i64 0),.d (.s []),.aY [],.aY [],.aY []]:=cu
theorem Uy:bZ 262 2 40 [.d (.s []),.aY []]:=cu
theorem Uz:bZ 293 1 8 [.d (.o .nilFunc)]:=cu
theorem UA:bZ 300 4 64 [.d (.s []),.d (.i .i64 0),.d (.s []),.aY []]:=cu
theorem UC:bZ 312 1 8 [.d (.o .nilFunc)]:=cu
theorem UD:bZ 317 16 264 [.d (.s []),.aY [],.d (.i .i64 0),.d (.s []),.aY [],.d (.b false),.aY [],.d (.i .i64 0),.d (.s []),.d (.s []),.d (.i .i64 0),.d (.i .i64 0),.d (.s []),.aY [],.aY [],.aY []]:=cu
theorem UE:bZ 320 2 40 [.d (.s []),.aY []]:=cu
theorem UF:bZ 323 4 64 [.d (.s []),.d (.i .i64 0),.d (.s []),.aY []]:=cu
theorem UG:bZ 346 1 8 [.d (.o (.map none))]:=cu
theorem UH:bZ 350 1 8 [.d (.o .nilFunc)]:=cu
theorem UJ:bZ 353 1 8 [.d (.o .nilFunc)]:=cu
theorem UK:bZ 379 24 24 [.d (.i .u8 0),.d (.i .u8 0),.d (.i .u8 0),.d (.i .u8 0),.d (.i .u8 0),.d (.i .u8 0),.d (.i .u8 0),.d (.i .u8 0),.d (.i .u8 0),.d (.i .u8 0),.d (.i .u8 0),.d (.i .u8 0),.d (.i .u8 0),.d (.i .u8 0),.d (.i .u8 0),.d (.i .u8 0),.d (.i .u8 0),.d (.i .u8 0),.d (.i .u8 0),.d (.i .u8 0),.d (.i .u8 0),.d (.i .u8 0),.d (.i .u8 0),.d (.i .u8 0)]:=cu
theorem UL:bZ 380 1 8 [.d (.i .u64 0)]:=cu
theorem UM:bZ 386 1 24 [.aY []]:=cu
theorem UN:bZ 396 20 160 [.d (.i .u64 0),.d (.i .u64 0),.d (.i .u64 0),.d (.i .u64 0),.d (.i .u64 0),.d (.i .u64 0),.d (.i .u64 0),.d (.i .u64 0),.d (.i .u64 0),.d (.i .u64 0),.d (.i .u64 0),.d (.i .u64 0),.d (.i .u64 0),.d (.i .u64 0),.d (.i .u64 0),.d (.i .u64 0),.d (.i .u64 0),.d (.i .u64 0),.d (.i .u64 0),.d (.i .u64 0)]:=cu
theorem UO:bZ 397 1 4 [.d (.i .u32 0)]:=cu
theorem UQ:bZ 398 65 65 [.d (.i .u8 0),.d (.i .u8 0),.d (.i .u8 0),.d (.i .u8 0),.d (.i .u8 0),.d (.i .u8 0),.d (.i .u8 0),.d (.i .u8 0),.d (.i .u8 0),.d (.i .u8 0),.d (.i .u8 0),.d (.i .u8 0),.d (.i .u8 0),.d (.i .u8 0),.d (.i .u8 0),.d (.i .u8 0),.d (.i .u8 0),.d (.i .u8 0),.d (.i .u8 0),.d (.i .u8 0),.d (.i .u8 0),.d (.i .u8 0),.d (.i .u8 0),.d (.i .u8 0),.d (.i .u8 0),.d (.i .u8 0),.d (.i .u8 0),.d (.i .u8 0),.d (.i .u8 0),.d (.i .u8 0),.d (.i .u8 0),.d (.i .u8 0),.d (.i .u8 0),.d (.i .u8 0),.d (.i .u8 0),.d (.i .u8 0),.d (.i .u8 0),.d (.i .u8 0),.d (.i .u8 0),.d (.i .u8 0),.d (.i .u8 0),.d (.i .u8 0),.d (.i .u8 0),.d (.i .u8 0),.d (.i .u8 0),.d (.i .u8 0),.d (.i .u8 0),.d (.i .u8 0),.d (.i .u8 0),.d (.i .u8 0),.d (.i .u8 0),.d (.i .u8 0),.d (.i .u8 0),.d (.i .u8 0),.d (.i .u8 0),.d (.i .u8 0),.d (.i .u8 0),.d (.i .u8 0),.d (.i .u8 0),.d (.i .u8 0),.d (.i .u8 0),.d (.i .u8 0),.d (.i .u8 0),.d (.i .u8 0),.d (.i .u8 0)]:=cu
theorem UR:bZ 400 1 8 [.d (.i .u64 0)]:=cu
theorem UU:bZ 415 32 32 [.d (.i .u8 0),.d (.i .u8 0),.d (.i .u8 0),.d (.i .u8 0),.d (.i .u8 0),.d (.i .u8 0),.d (.i .u8 0),.d (.i .u8 0),.d (.i .u8 0),.d (.i .u8 0),.d (.i .u8 0),.d (.i .u8 0),.d (.i .u8 0),.d (.i .u8 0),.d (.i .u8 0),.d (.i .u8 0),.d (.i .u8 0),.d (.i .u8 0),.d (.i .u8 0),.d (.i .u8 0),.d (.i .u8 0),.d (.i .u8 0),.d (.i .u8 0),.d (.i .u8 0),.d (.i .u8 0),.d (.i .u8 0),.d (.i .u8 0),.d (.i .u8 0),.d (.i .u8 0),.d (.i .u8 0),.d (.i .u8 0),.d (.i .u8 0)]:=cu
theorem UW:bZ 416 64 64 [.d (.i .u8 0),.d (.i .u8 0),.d (.i .u8 0),.d (.i .u8 0),.d (.i .u8 0),.d (.i .u8 0),.d (.i .u8 0),.d (.i .u8 0),.d (.i .u8 0),.d (.i .u8 0),.d (.i .u8 0),.d (.i .u8 0),.d (.i .u8 0),.d (.i .u8 0),.d (.i .u8 0),.d (.i .u8 0),.d (.i .u8 0),.d (.i .u8 0),.d (.i .u8 0),.d (.i .u8 0),.d (.i .u8 0),.d (.i .u8 0),.d (.i .u8 0),.d (.i .u8 0),.d (.i .u8 0),.d (.i .u8 0),.d (.i .u8 0),.d (.i .u8 0),.d (.i .u8 0),.d (.i .u8 0),.d (.i .u8 0),.d (.i .u8 0),.d (.i .u8 0),.d (.i .u8 0),.d (.i .u8 0),.d (.i .u8 0),.d (.i .u8 0),.d (.i .u8 0),.d (.i .u8 0),.d (.i .u8 0),.d (.i .u8 0),.d (.i .u8 0),.d (.i .u8 0),.d (.i .u8 0),.d (.i .u8 0),.d (.i .u8 0),.d (.i .u8 0),.d (.i .u8 0),.d (.i .u8 0),.d (.i .u8 0),.d (.i .u8 0),.d (.i .u8 0),.d (.i .u8 0),.d (.i .u8 0),.d (.i .u8 0),.d (.i .u8 0),.d (.i .u8 0),.d (.i .u8 0),.d (.i .u8 0),.d (.i .u8 0),.d (.i .u8 0),.d (.i .u8 0),.d (.i .u8 0),.d (.i .u8 0)]:=cu
theorem laidOut:laidOutB Tryz.prog=true:=by kernel_rfl
theorem own:ownKnob Tryz.prog.godebug=none:=by kernel_rfl
attribute [go_sem] WS Tryz.underlying1 WU Tryz.underlying2 WV Tryz.underlying3 WW Tryz.underlying4 Ua WX Tryz.underlying5 WY Tryz.underlying9 VG Tryz.underlying12 VH Tryz.underlying20 VI Tryz.underlying21 VJ Tryz.underlying22 VK Tryz.underlying23 VL Tryz.underlying24 VN Tryz.underlying25 VO Tryz.underlying26 VP Tryz.underlying27 VQ Tryz.underlying28 VR Tryz.underlying31 VT Tryz.underlying33 VU Tryz.underlying34 VW Tryz.underlying35 VX Tryz.underlying37 VY Tryz.underlying39 VZ Tryz.underlying41 V3 Tryz.underlying42 V4 Tryz.underlying43 V5 Tryz.underlying50 V6 Tryz.underlying51 V7 Tryz.underlying69 V8 Tryz.underlying70 V9 Tryz.underlying71 Wd Tryz.underlying72 Wh Tryz.underlying76 Wi Tryz.underlying78 Wj Tryz.underlying80 Wl Tryz.underlying87 Wm Tryz.underlying97 Ub Tryz.underlying124 Uc Tryz.underlying145 Ud Tryz.underlying146 Ue Tryz.underlying149 Uf Tryz.underlying153 Ug Tryz.underlying154 Uh Tryz.underlying156 Ui Tryz.underlying160 Uj Tryz.underlying162 Uk Tryz.underlying164 Ul Tryz.underlying166 Um Tryz.underlying168 Un Tryz.underlying170 Uo Tryz.underlying182 Uq Tryz.underlying184 Ur Tryz.underlying186 Us Tryz.underlying188 Ut Tryz.underlying190 Uu Tryz.underlying240 Uv Tryz.underlying248 Uw Tryz.underlying252 Ux Tryz.underlying259 Uy Tryz.underlying262 Uz Tryz.underlying293 UA Tryz.underlying300 UC Tryz.underlying312 UD Tryz.underlying317 UE Tryz.underlying320 UF Tryz.underlying323 UG Tryz.underlying346 UH Tryz.underlying350 UJ Tryz.underlying353 UK Tryz.underlying379 UL Tryz.underlying380 UM Tryz.underlying386 UN Tryz.underlying396 UO Tryz.underlying397 UQ Tryz.underlying398 UR Tryz.underlying400 UU Tryz.underlying415 UW Tryz.underlying416
end Go.Proofs.YtcfhnaohbaplhaaGreatDoor.Fa
namespace Go.Proofs.YtcfhnaohbaplhaaGreatDoor
open Go Go.Ab
theorem Eh(xs:List (List UInt8))(left:Int)(h0:0≤left)(h1:left≤1048576)(hf:(D.sl (xs.map encS)).Fit):
 aA Tryz.prog 52 [.c (.d (.sl (xs.map encS))),.c (.d (.i .i64 left))] (.c (.d (.i .i64 (cO left (xs.length+aP (xs.map encS)))))):=by
 intro S
 obtain⟨hf1,hf2⟩:=yY hf
 rw[List.length_map] at hf1
 refine au (rs:=[.tmp 4]) Tryz.checked.mixed Tryz.func52 Tryz.ntmps52 rfl rfl rfl rfl rfl ?_
 refine W1 ?_
 refine S0 (fun hb h=>?_) fun hb h=>?_
 ·exact int_eq (eB (by omega)).symm
 refine aT (ι:=Nat×Int) Tryz.checked.mixed rfl [0,1,5] (fun y=>[.c (.d (.sl (xs.map encS))),.c (.d (.i .i64 y.2)),.c (.d (.i .i64 y.1))]) (fun _=>[]::S)
  (fun y=>y.1≤xs.length∧0≤y.2∧y.2≤1048576∧cO y.2 (aP ((xs.map encS).drop y.1))=cO left (xs.length+aP (xs.map encS))) (fun y=>xs.length-y.1) (0,left-xs.length) rfl rfl ⟨by omega,by omega,by omega,?_⟩ ?_
 ·unfold cO
  rw[List.drop_zero]
  split<;>split<;>omega
 rintro⟨i,l⟩ ⟨p1,p2,p3,p4⟩
 simp only at p1 p2 p3 p4
 refine W1 ?_
 refine S0 (fun hb h=>?_) fun hb h=>?_
 ·have hi:i<xs.length:=by omega
  have hl:xs[i].length≤9223372036854775807:=yX (hf2 (encS xs[i]) (List.mem_map_of_mem (List.getElem_mem hi)) (.s xs[i]) (by simp[encS]))
  rw[List.drop_eq_getElem_cons (by rw[List.length_map];exact hi),aP,List.getElem_map] at p4
  simp only[encS,bB,D.sz] at p4
  refine W1 ?_
  refine W3 ?_
  refine S0 (fun hb h=>?_) fun hb h=>?_
  ·rw[←p4,eB (by omega)]
  ·refine bG (i+1,l-xs[i].length) (by simp only;omega) rfl rfl ⟨by simp only;omega,by simp only;omega,by simp only;omega,?_⟩
   simp only
   rw[←p4]
   unfold cO
   split<;>split<;>omega
 ·have hi:i=xs.length:=by omega
  rw[hi,List.drop_of_length_le (by simp),aP,kC (by omega)] at p4
  rw[←p4]
  refine int_eq ?_
  omega
theorem Ei(xs:List (List UInt8))(hsz:xs.length+aP (xs.map encS)≤1048576):aA Tryz.prog 58 [.c (.d (.sl (xs.map encS)))] (.c (.d (.sl (xs.map encS)))):=by
 intro S
 refine au (rs:=[.tmp 2]) Tryz.checked.mixed Tryz.func58 Tryz.ntmps58 rfl rfl rfl rfl rfl ?_
 refine W1 ?_
 refine W3 ?_
 refine aT (ι:=Nat×List (List D)) Tryz.checked.mixed rfl [0,3,4] (fun y=>[.c (.d (.sl (xs.map encS))),.c (.gI (0,0)),.c (.d (.i .i64 y.1))]) (fun y=>[.dw 1 y.2]::S)
  (fun y=>y.1≤xs.length∧jg 1 y.1 y.2 (xs.map encS)) (fun y=>xs.length-y.1) (0,_) rfl rfl ⟨Nat.zero_le _,jg.start (by simp) rfl⟩ ?_
 rintro⟨i,R⟩ ⟨p1,p2⟩
 simp only at p1 p2
 refine W1 ?_
 refine S0 (fun hb h=>?_) fun hb h=>?_
 ·have hi:i<xs.length:=by omega
  have hR:=p2.1
  rw[List.length_map] at hR
  refine W3 ?_
  refine bG (i+1,_) (by simp only;omega) rfl rfl ⟨by simp only;omega,p2.step (by simp[hi,encS]) rfl⟩
 ·have hi:i=xs.length:=by omega
  rw[p2.done (by rw[List.length_map];omega)]
theorem Ej(xs ys:List (List UInt8))(hsz:xs.length≤1073741824):aA Tryz.prog 64 [.c (.d (.sl (xs.map encS))),.c (.d (.sl (ys.map encS)))] (.c (.d (.b (dec (xs=ys))))):=by
 intro S
 refine au (rs:=[.tmp 4]) Tryz.checked.mixed Tryz.func64 Tryz.ntmps64 rfl rfl rfl rfl rfl ?_
 refine W1 ?_
 refine S0 (fun hb h=>?_) fun hb h=>?_
 ·exact aF (aL (fun e=>h (by rw[e]))).symm
 have hl:xs.length=ys.length:=by omega
 refine aT (ι:=Nat) Tryz.checked.mixed rfl [0,1,5] (fun y=>[.c (.d (.sl (xs.map encS))),.c (.d (.sl (ys.map encS))),.c (.d (.i .i64 y))]) (fun y=>[]::S)
  (fun i=>i≤xs.length∧∀j,j<i→xs[j]? =ys[j]?) (fun y=>xs.length-y) 0 rfl rfl ⟨Nat.zero_le _,fun j h=>by omega⟩ ?_
 rintro i ⟨p1,p2⟩
 refine W1 ?_
 refine S0 (fun hb h=>?_) fun hb h=>?_
 ·have hi:i<xs.length:=by omega
  have hi':i<ys.length:=by omega
  refine W3 ?_
  refine S0 (fun hb h=>?_) fun hb h=>?_
  ·exact aF (aL (fun e=>h (by simp only[e]))).symm
  refine bG (i+1) (by omega) rfl rfl ⟨by omega,fun j hj=> ?_⟩
  by_cases e:j=i
  ·subst e
   rw[List.getElem?_eq_getElem hi,List.getElem?_eq_getElem hi',h]
  ·exact p2 j (by omega)
 ·have hi:i=xs.length:=by omega
  refine aF (bR (List.ext_getElem? fun j=> ?_)).symm
  by_cases hj:j<i
  ·exact p2 j hj
  ·rw[List.getElem?_eq_none (by omega),List.getElem?_eq_none (by omega)]
end Go.Proofs.YtcfhnaohbaplhaaGreatDoor
namespace Go.Proofs.YtcfhnaohbaplhaaGreatDoor
open Go Go.Ab
theorem sJ(n a b:Int):aA Tryz.prog 243 [.c (.d (.i .i64 n)),.c (.d (.i .i64 a)),.c (.d (.i .i64 b))] (.c (.d (.b (dec (a≤n∧n≤b))))):=fun S=>by
 refine au (rs:=[.tmp 6]) Tryz.checked.mixed Tryz.func243 Tryz.ntmps243 rfl rfl rfl rfl rfl ?_
 refine W1 ?_
 refine S0 (fun hb h=>?_) fun hb h=>?_
 ·exact aF (by rw[jw];exact jV ⟨fun x=>⟨by omega,x⟩,fun x=>x.2⟩)
 ·exact aF (aL (by omega)).symm
theorem xI(xs:List (List UInt8))(s:List UInt8)(hl:xs.length≤1073741824):aA Tryz.prog 161 [.c (.d (.sl (xs.map encS))),.c (.d (.s s))] (.c (.d (.b (dec (s∈xs))))):=fun S=>by
 refine au (rs:=[.tmp 4]) Tryz.checked.mixed Tryz.func161 Tryz.ntmps161 rfl rfl rfl rfl rfl ?_
 simp -implicitDefEqProofs (disch:=omega) only[go_sem,encS]
 refine aT (ι:=Nat) Tryz.checked.mixed rfl [0,1,5] (fun i=>[.c (.d (.sl (xs.map encS))),.c (.d (.s s)),.c (.d (.i .i64 i))]) (fun _=>[]::S)
  (fun i=>i≤xs.length∧∀j,j<i→∀h:j<xs.length,xs[j]≠s) (fun i=>xs.length-i) 0 rfl rfl ⟨Nat.zero_le _,fun j h=>by omega⟩ ?_
 rintro i ⟨p1,p2⟩
 simp -implicitDefEqProofs (disch:=omega) only[go_sem,encS]
 with_reducible refine dV (fun hb=> ?_) (fun hb=> ?_)<;>have h:=hb<;>(try simp only[wf_preprocess] at h)<;>simp -implicitDefEqProofs (disch:=omega) only[go_sem,hb,encS]<;>refine W3 ?_
 ·have hi:i<xs.length:=by omega
  with_reducible refine dV (fun hb=> ?_) (fun hb=> ?_)<;>have h:=hb<;>(try simp only[wf_preprocess] at h)<;>simp -implicitDefEqProofs (disch:=omega) only[go_sem,hb,encS]<;>refine W3 ?_
  ·exact aF (bR (by rw[←h];exact List.getElem_mem hi)).symm
  ·refine bG (i+1) (by omega) rfl rfl ⟨by omega,fun j hj hl=> ?_⟩
   by_cases e:j=i
   ·subst e;exact h
   ·exact p2 j (by omega) hl
 ·refine aF (aL fun hm=> ?_).symm
  obtain⟨j,h1,h2⟩:=List.getElem_of_mem hm
  exact p2 j (by omega) h1 h2
theorem LH(xs:List (List UInt8))(s:List UInt8)(hl:xs.length≤1073741824):aA Tryz.prog 257 [.c (.d (.sl (xs.map encS))),.c (.d (.s s))] (.c (.d (.i .i64 (qK xs s)))):=fun S=>by
 refine au (rs:=[.tmp 4]) Tryz.checked.mixed Tryz.func257 Tryz.ntmps257 rfl rfl rfl rfl rfl ?_
 simp -implicitDefEqProofs (disch:=omega) only[go_sem,encS]
 refine aT (ι:=Nat) Tryz.checked.mixed rfl [0,1,7,8] (fun i=>[.c (.d (.sl (xs.map encS))),.c (.d (.s s)),.c (.d (.i .i64 xs.length)),.c (.d (.i .i64 i))]) (fun _=>[]::S)
  (fun i=>i≤xs.length∧∀j,j<i→xs.getD j []≠s) (fun i=>xs.length-i) 0 rfl rfl ⟨Nat.zero_le _,fun j h=>by omega⟩ ?_
 rintro i ⟨p1,p2⟩
 simp -implicitDefEqProofs (disch:=omega) only[go_sem,encS]
 with_reducible refine dV (fun hb=> ?_) (fun hb=> ?_)<;>have h:=hb<;>(try simp only[wf_preprocess] at h)<;>simp -implicitDefEqProofs (disch:=omega) only[go_sem,hb,encS]<;>refine W3 ?_
 ·have hi:i<xs.length:=by omega
  have e:xs.getD i []=xs[i]:=by simp[List.getD,hi]
  with_reducible refine dV (fun hb=> ?_) (fun hb=> ?_)<;>have h:=hb<;>(try simp only[wf_preprocess] at h)<;>simp -implicitDefEqProofs (disch:=omega) only[go_sem,hb,encS]<;>refine W3 ?_
  ·rw[F3 hi p2 (by rw[e];exact h.symm)]
  ·refine bG (i+1) (by omega) rfl rfl ⟨by omega,fun j hj=> ?_⟩
   by_cases e':j=i
   ·subst e';rw[e];exact fun x=>h x.symm
   ·exact p2 j (by omega)
 ·rw[LD (fun j hj=>p2 j (by omega))]
theorem El(xs:List (List UInt8))(s:List UInt8)(hl:xs.length≤1073741824):aA Tryz.prog 321 [.c (.d (.sl (xs.map encS))),.c (.d (.s s))] (.c (.d (.b (dec (s∈xs))))):=fun S=>by
 refine au (rs:=[.tmp 4]) Tryz.checked.mixed Tryz.func321 Tryz.ntmps321 rfl rfl rfl rfl rfl ?_
 refine W1 ?_
 refine C2 (LH xs s hl) ?_
 exact aF Jo
theorem y8(s:List UInt8):aA Tryz.prog 244 [.c (.d (.s s))] (.c (.d (.b (dec (s∈reserved))))):=fun S=>by
 refine au (rs:=[.tmp 2]) Tryz.checked.mixed Tryz.func244 Tryz.ntmps244 rfl rfl rfl rfl rfl ?_
 refine W1 ?_
 refine W3 ?_
 exact C4 (xI reserved s (by decide))
theorem y9(s:List UInt8):aA Tryz.prog 253 [.c (.d (.s s))] (.c (.d (.b (dec (s∈reserved))))):=fun S=>by
 refine au (rs:=[.tmp 2]) Tryz.checked.mixed Tryz.func253 Tryz.ntmps253 rfl rfl rfl rfl rfl ?_
 refine W1 ?_
 refine W3 ?_
 exact C4 (El reserved s (by decide))
theorem za(b:UInt8):aA Tryz.prog 251 [.c (.d (.i .u8 b.toNat))] (.c (.d (.b (dec (lowerB b))))):=fun S=>by
 refine au (rs:=[.tmp 2]) Tryz.checked.mixed Tryz.func251 Tryz.ntmps251 rfl rfl rfl rfl rfl ?_
 refine W1 ?_
 refine S0 (fun hb h=>?_) fun hb h=>?_
 ·exact aF (by rw[jw];exact jV ⟨fun x=>⟨by omega,by omega⟩,fun x=>by have:=x.2;omega⟩)
 ·exact aF (aL fun x=>by have:=x.1;omega).symm
theorem ze(b:UInt8):aA Tryz.prog 252 [.c (.d (.i .u8 b.toNat))] (.c (.d (.b (dec (jQ b))))):=fun S=>by
 refine au (rs:=[.tmp 2]) Tryz.checked.mixed Tryz.func252 Tryz.ntmps252 rfl rfl rfl rfl rfl ?_
 refine W1 ?_
 refine S0 (fun hb h=>?_) fun hb h=>?_
 ·exact aF (by rw[jw];exact jV ⟨fun x=>⟨by omega,by omega⟩,fun x=>by have:=x.2;omega⟩)
 ·exact aF (aL fun x=>by have:=x.1;omega).symm
theorem jh(s:List UInt8)(hl:s.length≤1073741824):aA Tryz.prog 168 [.c (.d (.s s))] (.c (.d (.b (validName s)))):=fun S=>by
 refine au (rs:=[.tmp 2]) Tryz.checked.mixed Tryz.func168 Tryz.ntmps168 rfl rfl rfl rfl rfl ?_
 refine W1 ?_
 refine aT (ι:=Nat) Tryz.checked.mixed rfl [0,5,6] (fun i=>[.c (.d (.s s)),.c (.d (.i .i64 s.length)),.c (.d (.i .i64 i))]) (fun _=>[]::S)
  (fun i=>i≤s.length∧∀j,j<i→lowerB (s.getD j 0)∨(j≠0∧jQ (s.getD j 0))) (fun i=>s.length-i) 0 rfl rfl ⟨Nat.zero_le _,fun j h=>by omega⟩ ?_
 rintro i ⟨p1,p2⟩
 have next:i<s.length→(lowerB (s.getD i 0)∨(i≠0∧jQ (s.getD i 0)))→∀j,j<i+1→lowerB (s.getD j 0)∨(j≠0∧jQ (s.getD j 0)):=fun hi h j hj=>by
  by_cases e:j=i
  ·subst e;exact h
  ·exact p2 j (by omega)
 have bad:i<s.length→¬(lowerB (s.getD i 0)∨(i≠0∧jQ (s.getD i 0)))→validName s=false:=fun hi h=>aL fun x=>h (x.2.2 i hi)
 refine W1 ?_
 refine S0 (fun hb h=>?_) fun hb h=>?_
 ·have hi:i<s.length:=by omega
  refine W3 ?_
  refine C2 (za (s.getD i 0)) ?_
  refine S0 (fun hb h=>?_) fun hb h=>?_
  ·have nl:=h
   refine S0 (fun hb h=>?_) fun hb h=>?_
   ·have i0:i=0:=by omega
    rw[bad hi (fun x=>x.elim nl fun y=>y.1 i0)]
   ·have ne:=h
    refine W3 ?_
    refine C2 (ze (s.getD i 0)) ?_
    refine S0 (fun hb h=>?_) fun hb h=>?_
    ·rw[bad hi (fun x=>x.elim nl fun y=>h y.2)]
    ·exact bG (i+1) (by omega) rfl rfl ⟨by omega,next hi (.inr ⟨by omega,h⟩)⟩
  ·exact bG (i+1) (by omega) rfl rfl ⟨by omega,next hi (.inl h)⟩
 ·have hn:Ee s:=fun j hj=>p2 j (by omega)
  have h0:∀b,dec (s∈reserved)=b→∀c,decide ((s.length:Int)≥1)=c→∀d,decide ((s.length:Int)≤8)=d→validName s=(c&&d&& !b):=by
   rintro b rfl c rfl d rfl
   unfold validName
   rw[Bool.eq_iff_iff]
   simp only[oP,Bool.and_eq_true,decide_eq_true_eq,Bool.not_eq_true',vw]
   exact⟨fun x=>⟨⟨by omega,by omega⟩,x.2.1⟩,fun x=>⟨⟨by omega,by omega⟩,x.2,hn⟩⟩
  refine S0 (fun hb h=>?_) fun hb h=>?_
  ·have c1:=hb
   refine S0 (fun hb h=>?_) fun hb h=>?_
   ·refine C2 (y9 s) ?_
    exact aF (by rw[h0 _ rfl _ c1 _ hb];simp)
   ·exact aF (by rw[h0 _ rfl _ c1 _ hb];simp)
  ·exact aF (by rw[h0 _ rfl _ hb _ rfl];simp)
theorem ji(s:List UInt8)(hl:s.length≤1073741824):aA Tryz.prog 159 [.c (.d (.s s))] (.c (.d (.b (validName s)))):=fun S=>by
 have bad:¬Ee s→validName s=false:=fun h=>aL fun x=>h x.2.2
 refine au (rs:=[.tmp 2]) Tryz.checked.mixed Tryz.func159 Tryz.ntmps159 rfl rfl rfl rfl rfl ?_
 refine W1 ?_
 refine C2 (sJ s.length 1 8) ?_
 refine S0 (fun hb h=>?_) fun hb h=>?_
 ·rw[show validName s=false from aL fun x=>h (by omega)]
 have hlen:=h
 refine C2 (y8 s) ?_
 refine S0 (fun hb h=>?_) fun hb h=>?_
 ·rw[show validName s=false from aL fun x=>x.2.1 h]
 have hres:=h
 refine aT (ι:=Nat) Tryz.checked.mixed rfl [0,3] (fun i=>[.c (.d (.s s)),.c (.d (.i .i64 i))]) (fun _=>[]::S)
  (fun i=>i≤s.length∧∀j,j<i→lowerB (s.getD j 0)∨(j≠0∧jQ (s.getD j 0))) (fun i=>s.length-i) 0 rfl rfl ⟨Nat.zero_le _,fun j h=>by omega⟩ ?_
 rintro i ⟨p1,p2⟩
 have next:i<s.length→(lowerB (s.getD i 0)∨(i≠0∧jQ (s.getD i 0)))→∀j,j<i+1→lowerB (s.getD j 0)∨(j≠0∧jQ (s.getD j 0)):=fun hi h j hj=>by
  by_cases e:j=i
  ·subst e;exact h
  ·exact p2 j (by omega)
 refine W1 ?_
 refine S0 (fun hb h=>?_) fun hb h=>?_
 ·have hi:i<s.length:=by omega
  have bad':¬(lowerB (s.getD i 0)∨(i≠0∧jQ (s.getD i 0)))→validName s=false:=fun h=>bad fun x=>h (x i hi)
  have next:=next hi
  unfold lowerB jQ at bad' next
  all_goals try(refine S0 (fun hb h=>?_) fun hb h=>?_)
  all_goals try(refine S0 (fun hb h=>?_) fun hb h=>?_)
  all_goals try(refine S0 (fun hb h=>?_) fun hb h=>?_)
  all_goals try(refine S0 (fun hb h=>?_) fun hb h=>?_)
  all_goals try(refine S0 (fun hb h=>?_) fun hb h=>?_)
  all_goals try(with_reducible refine dV (fun hb=> ?_) (fun hb=> ?_)<;>have h:=hb<;>(try simp only[wf_preprocess] at h)<;>simp -implicitDefEqProofs (disch:=omega) only[go_sem,hb]<;>(repeat(with_reducible refine And.intro ?_ ?_;focus first|omega|rfl|assumption|exact⟨_,rfl,rfl⟩|(simp;omega)|(simp;done))))
  all_goals first
   |exact bG (i+1) (by omega) rfl rfl ⟨by omega,next (by omega)⟩
   |exact aF (bad' (by omega)).symm
 ·rw[show validName s=true from bR ⟨by omega,hres,fun j hj=>p2 j (by omega)⟩]
theorem LJ(s:List UInt8):aA Tryz.prog 368 [.c (.d (.s s))] (.c (.d (.b (mM s)))):=fun S=>by
 refine au (rs:=[.tmp 2]) Tryz.checked.mixed Tryz.func368 Tryz.ntmps368 rfl rfl rfl rfl rfl ?_
 refine W1 ?_
 refine S0 (fun hb h=>?_) fun hb h=>?_
 ·exact aF (bR (.inl h)).symm
 ·exact aF (by rw[jw];exact jV ⟨fun x=>.inr x,fun x=>x.resolve_left h⟩)
theorem Em(s:List UInt8):aA Tryz.prog 380 [.c (.d (.s s))] (.c (.d (.b (mM s)))):=fun S=>by
 refine au (rs:=[.tmp 2]) Tryz.checked.mixed Tryz.func380 Tryz.ntmps380 rfl rfl rfl rfl rfl ?_
 refine W1 ?_
 refine S0 (fun hb h=>?_) fun hb h=>?_
 ·exact aF (bR (.inl h)).symm
 ·exact aF (by rw[jw];exact jV ⟨fun x=>.inr x,fun x=>x.resolve_left h⟩)
end Go.Proofs.YtcfhnaohbaplhaaGreatDoor
namespace Go.Proofs.YtcfhnaohbaplhaaGreatDoor
open Go Go.Ab
end Go.Proofs.YtcfhnaohbaplhaaGreatDoor
namespace Go.Proofs.YtcfhnaohbaplhaaGreatDoor
open Go Go.Ab
theorem pG{x:ak}{i:Nat}(hi:i<x.fArgs.length)(h:x.sz≤4194304):x.fArgs[i].sz≤4194304∧x.fArgs.length≤4194304∧x.fName.length≤4194304:=by
 have hx:x.fArgs[i].sz≤aP (x.fArgs.map ak.enc):=dX (List.mem_map_of_mem (List.getElem_mem hi))
 simp only[ak.sz,ak.aB,bB,D.sz,List.length_map] at h
 omega
theorem q8{x:ak}(h:x.sz≤4194304):x.fArgs.length≤4194304∧x.fName.length≤4194304:=by
 simp only[ak.sz,ak.aB,bB,D.sz,List.length_map] at h
 omega
theorem jC:∀{ts:List ak} {i:Nat} (hi:i<ts.length),ak.bY (ts.drop i)=ts[i].cnt+ak.bY (ts.drop (i+1)):=fun {ts} {i} hi=>by
 rw[List.drop_eq_getElem_cons hi,ak.bY]
theorem wX:∀{ts:List ak} {i:Nat} (hi:i<ts.length),depths (ts.drop i)=max (gN ts[i]+1) (depths (ts.drop (i+1))):=fun {ts} {i} hi=>by
 rw[List.drop_eq_getElem_cons hi,depths]
theorem En:∀{ts:List ak} {i:Nat} (hi:i<ts.length),fM (ts.drop i)=(formed ts[i]&&fM (ts.drop (i+1))):=fun {ts} {i} hi=>by
 rw[List.drop_eq_getElem_cons hi,fM]
theorem zf:∀n:Nat,∀x:ak,SizeOf.sizeOf x<n→∀l:Int,0≤l→l≤1073741824→x.sz≤4194304→aA Tryz.prog 341 [x.v,.c (.d (.i .i64 l))] (.c (.d (.i .i64 (cO l x.cnt))))
 |0=>fun x h=>by omega
 |n+1=>by
  have ih:=zf n
  intro x hn l h0 h1 hsz S
  have iR:=ak.eH x
  have hts:=q8 hsz
  have hcn:=ak.kJ x
  refine au (rs:=[.tmp 4]) Tryz.checked.mixed Tryz.func341 Tryz.ntmps341 rfl rfl rfl rfl rfl ?_
  refine W1 ?_
  refine aT (ι:=Nat×Int) Tryz.checked.mixed rfl [1,2,5] (fun y=>[.c (.d (.i .i64 y.2)),.c (.ptr (0,0) 0),.c (.d (.i .i64 y.1))]) (fun y=>[.box [.d (.i .i64 x.aG),.d (.s x.fName),.d (.sl (x.fArgs.map ak.enc))]]::S)
   (fun y=>y.1≤x.fArgs.length∧ -1≤y.2∧y.2≤1073741824∧(0≤y.2→cO l x.cnt=cO y.2 (ak.bY (x.fArgs.drop y.1)))∧(y.2<0→cO l x.cnt= -1)) (fun y=>x.fArgs.length-y.1) (0,l-1) rfl rfl ⟨Nat.zero_le _,by simp only;omega,by simp only;omega,fun h=> ?_,fun h=> ?_⟩ ?_
  ·simp only[List.drop_zero] at h ⊢
   unfold cO
   rw[hcn]
   split<;>split<;>omega
  ·simp only at h
   exact eB (by omega)
  rintro⟨i,c⟩ ⟨p1,p2,p3,p4,p5⟩
  simp only at p1 p2 p3 p4 p5
  refine W1 ?_
  refine S0 (fun hb h=>?_) fun hb h=>?_
  ·have hi:i<x.fArgs.length:=by omega
   refine S0 (fun hb h=>?_) fun hb h=>?_
   ·have hsz':=pG hi hsz
    have p6:=p4 h
    rw[jC hi] at p6
    refine W3 ?_
    refine C2 (ih x.fArgs[i] (by have:=List.sizeOf_lt_of_mem (List.getElem_mem hi);omega) c (by omega) (by omega) (by omega)) ?_
    refine bG (i+1,cO c _) (by simp only;omega) rfl rfl ⟨by simp only;omega,?_,?_,fun h=> ?_,fun h=> ?_⟩
    ·simp only;unfold cO;split<;>omega
    ·simp only;unfold cO;split<;>omega
    ·simp only at h ⊢
     rw[p6]
     have:=iQ (l:=c) (a:=x.fArgs[i].cnt) (by omega)
     rw[this.1]
     unfold cO
     split<;>split<;>omega
    ·simp only at h ⊢
     rw[p6]
     have:=iC h
     exact eB (by omega)
   ·have hc:c= -1:=by omega
    rw[p5 (by omega),hc]
  ·have hi:i=x.fArgs.length:=by omega
   by_cases hc:0≤c
   ·rw[p4 hc,hi,List.drop_length,ak.bY,kC (by omega)]
    exact int_eq (by simp)
   ·rw[p5 (by omega)]
    exact int_eq (by omega)
theorem LK(x:ak)(l:Int)(h0:0≤l)(h1:l≤1073741824)(hsz:x.sz≤4194304):aA Tryz.prog 341 [x.v,.c (.d (.i .i64 l))] (.c (.d (.i .i64 (cO l x.cnt)))):=zf _ x (Nat.lt_succ_self _) l h0 h1 hsz
theorem Eo(a b:Int):aA Tryz.prog 237 [.c (.d (.i .i64 a)),.c (.d (.i .i64 b))] (.c (.d (.i .i64 (max a b)))):=fun S=>by
 refine au (rs:=[.tmp 4]) Tryz.checked.mixed Tryz.func237 Tryz.ntmps237 rfl rfl rfl rfl rfl ?_
 refine W1 ?_
 refine S0 (fun hb h=>?_) fun hb h=>?_
 ·exact int_eq (by omega)
 ·exact int_eq (by omega)
theorem uP:∀n:Nat,∀x:ak,SizeOf.sizeOf x<n→x.sz≤4194304→aA Tryz.prog 342 [x.v] (.c (.d (.i .i64 (gN x))))
 |0=>fun x h=>by omega
 |n+1=>by
  have ih:=uP n
  intro x hn hsz S
  have iR:=ak.eH x
  have hts:=q8 hsz
  have hd1:=pF x
  have hd2:=kK x
  refine au (rs:=[.tmp 2]) Tryz.checked.mixed Tryz.func342 Tryz.ntmps342 rfl rfl rfl rfl rfl ?_
  refine W1 ?_
  refine aT (ι:=Nat×Nat) Tryz.checked.mixed rfl [1,3,4] (fun y=>[.c (.ptr (0,0) 0),.c (.d (.i .i64 y.2)),.c (.d (.i .i64 y.1))]) (fun y=>[.box [.d (.i .i64 x.aG),.d (.s x.fName),.d (.sl (x.fArgs.map ak.enc))]]::S)
   (fun y=>y.1≤x.fArgs.length∧gN x=max y.2 (depths (x.fArgs.drop y.1))) (fun y=>x.fArgs.length-y.1) (0,0) rfl rfl ⟨Nat.zero_le _,by simp[Bv]⟩ ?_
  rintro⟨i,c⟩ ⟨p1,p2⟩
  simp only at p1 p2
  refine W1 ?_
  refine S0 (fun hb h=>?_) fun hb h=>?_
  ·have hi:i<x.fArgs.length:=by omega
   have hsz':=pG hi hsz
   rw[wX hi] at p2
   have hd3:=pF x.fArgs[i]
   have hd4:=kK x.fArgs[i]
   refine W3 ?_
   refine C2 (ih x.fArgs[i] (by have:=List.sizeOf_lt_of_mem (List.getElem_mem hi);omega) (by omega)) ?_
   refine C2 (Eo _ _) ?_
   rw[show max (c:Int) (1+(gN x.fArgs[i]:Int))=((max c (1+gN x.fArgs[i]):Nat):Int) by omega]
   exact bG (i+1,max c (1+gN x.fArgs[i])) (by simp only;omega) rfl rfl ⟨by simp only;omega,by simp only;omega⟩
  ·have hi:i=x.fArgs.length:=by omega
   rw[hi,List.drop_length,depths] at p2
   exact int_eq (by omega)
theorem Ep(x:ak)(hsz:x.sz≤4194304):aA Tryz.prog 342 [x.v] (.c (.d (.i .i64 (gN x)))):=uP _ x (Nat.lt_succ_self _) hsz
theorem uQ:∀n:Nat,∀x:ak,SizeOf.sizeOf x<n→x.sz≤4194304→aA Tryz.prog 361 [x.v] (.c (.d (.i .i64 (gN x))))
 |0=>fun x h=>by omega
 |n+1=>by
  have ih:=uQ n
  intro x hn hsz S
  have iR:=ak.eH x
  have hts:=q8 hsz
  have hd1:=pF x
  have hd2:=kK x
  refine au (rs:=[.tmp 2]) Tryz.checked.mixed Tryz.func361 Tryz.ntmps361 rfl rfl rfl rfl rfl ?_
  refine W1 ?_
  refine aT (ι:=Nat×Nat) Tryz.checked.mixed rfl [3,7,8,9] (fun y=>[.c (.d (.i .i64 y.2)),.c (.d (.sl (x.fArgs.map ak.enc))),.c (.d (.i .i64 x.fArgs.length)),.c (.d (.i .i64 y.1))]) (fun y=>[.box [.d (.i .i64 x.aG),.d (.s x.fName),.d (.sl (x.fArgs.map ak.enc))]]::S)
   (fun y=>y.1≤x.fArgs.length∧gN x=max y.2 (depths (x.fArgs.drop y.1))) (fun y=>x.fArgs.length-y.1) (0,0) rfl rfl ⟨Nat.zero_le _,by simp[Bv]⟩ ?_
  rintro⟨i,c⟩ ⟨p1,p2⟩
  simp only at p1 p2
  refine W1 ?_
  refine S0 (fun hb h=>?_) fun hb h=>?_
  ·have hi:i<x.fArgs.length:=by omega
   have hsz':=pG hi hsz
   rw[wX hi] at p2
   have hd3:=pF x.fArgs[i]
   have hd4:=kK x.fArgs[i]
   refine W3 ?_
   refine C2 (ih x.fArgs[i] (by have:=List.sizeOf_lt_of_mem (List.getElem_mem hi);omega) (by omega)) ?_
   rw[show max (c:Int) ((gN x.fArgs[i]:Int)+1)=((max c (gN x.fArgs[i]+1):Nat):Int) by omega]
   exact iT 1 (by decide) (i+1,max c (gN x.fArgs[i]+1)) (by simp only;omega) rfl rfl rfl rfl ⟨by simp only;omega,by simp only;omega⟩
  ·have hi:i=x.fArgs.length:=by omega
   rw[hi,List.drop_length,depths] at p2
   exact int_eq (by omega)
theorem Er(x:ak)(hsz:x.sz≤4194304):aA Tryz.prog 361 [x.v] (.c (.d (.i .i64 (gN x)))):=uQ _ x (Nat.lt_succ_self _) hsz
theorem vC:∀n:Nat,∀x:ak,SizeOf.sizeOf x<n→x.sz≤4194304→aA Tryz.prog 362 [x.v] (.c (.d (.i .i64 x.cnt)))
 |0=>fun x h=>by omega
 |n+1=>by
  have ih:=vC n
  intro x hn hsz S
  have iR:=ak.eH x
  have hts:=q8 hsz
  have hd2:=kK x
  refine au (rs:=[.tmp 2]) Tryz.checked.mixed Tryz.func362 Tryz.ntmps362 rfl rfl rfl rfl rfl ?_
  refine W1 ?_
  refine aT (ι:=Nat×Nat) Tryz.checked.mixed rfl [3,7,8,9] (fun y=>[.c (.d (.i .i64 y.2)),.c (.d (.sl (x.fArgs.map ak.enc))),.c (.d (.i .i64 x.fArgs.length)),.c (.d (.i .i64 y.1))]) (fun y=>[.box [.d (.i .i64 x.aG),.d (.s x.fName),.d (.sl (x.fArgs.map ak.enc))]]::S)
   (fun y=>y.1≤x.fArgs.length∧x.cnt=y.2+ak.bY (x.fArgs.drop y.1)) (fun y=>x.fArgs.length-y.1) (0,1) rfl rfl ⟨Nat.zero_le _,by simp[ak.kJ]⟩ ?_
  rintro⟨i,c⟩ ⟨p1,p2⟩
  simp only at p1 p2
  refine W1 ?_
  refine S0 (fun hb h=>?_) fun hb h=>?_
  ·have hi:i<x.fArgs.length:=by omega
   have hsz':=pG hi hsz
   rw[jC hi] at p2
   refine W3 ?_
   refine C2 (ih x.fArgs[i] (by have:=List.sizeOf_lt_of_mem (List.getElem_mem hi);omega) (by omega)) ?_
   rw[show(c:Int)+(x.fArgs[i].cnt:Int)=((c+x.fArgs[i].cnt:Nat):Int) by omega]
   exact iT 1 (by decide) (i+1,c+x.fArgs[i].cnt) (by simp only;omega) rfl rfl rfl rfl ⟨by simp only;omega,by simp only;omega⟩
  ·have hi:i=x.fArgs.length:=by omega
   rw[hi,List.drop_length,ak.bY] at p2
   exact int_eq (by omega)
theorem F4(x:ak)(hsz:x.sz≤4194304):aA Tryz.prog 362 [x.v] (.c (.d (.i .i64 x.cnt))):=vC _ x (Nat.lt_succ_self _) hsz
theorem vD:∀n:Nat,(∀x:ak,SizeOf.sizeOf x<n→x.sz≤4194304→aA Tryz.prog 360 [x.v] (.c (.d (.b (formed x)))))∧
 (∀xs:List ak,SizeOf.sizeOf xs<n→xs.length≤4194304→(∀t∈xs,t.sz≤4194304)→aA Tryz.prog 327 [.c (.d (.sl (xs.map ak.enc))),.c (.fn 381 [])] (.c (.d (.b (!fM xs)))))
 |0=>⟨fun x h=>by omega,fun x h=>by omega⟩
 |n+1=>by
  obtain⟨ih,Es⟩:=vD n
  refine⟨fun x hn hsz S=> ?_,fun xs hn hlen hsz S=> ?_⟩
  ·have iR:=ak.eH x
   have hts:=q8 hsz
   have fin:∀b,qj x.aG x.fName x.fArgs.length=b→formed x=(b&&fM x.fArgs):=fun b hb=>by rw[←hb];exact pE x
   have hall:∀t∈x.fArgs,t.sz≤4194304:=fun t ht=>by
    obtain⟨i,hi,e⟩:=List.getElem_of_mem ht
    rw[←e];exact(pG hi hsz).1
   have tail:=Es x.fArgs (by omega) hts.1 hall
   have yes:qj x.aG x.fName x.fArgs.length=true→formed x= !(!fM x.fArgs):=fun h=>by rw[fin _ h];simp
   have no:qj x.aG x.fName x.fArgs.length=false→formed x=false:=fun h=>by rw[fin _ h];simp
   have shut:¬((x.aG=1∨x.aG=4)∧validName x.fName=true∧x.fArgs.length=0∨x.aG=3∧validName x.fName=true∧x.fArgs.length=1∨x.aG=2∧(validName x.fName=true∧x.fArgs.length≤3∨mM x.fName=true∧x.fArgs.length=0))→V.c (.d (.b false))=V.c (.d (.b (formed x))):=fun h=>aF (no (aL h)).symm
   have open_:((x.aG=1∨x.aG=4)∧validName x.fName=true∧x.fArgs.length=0∨x.aG=3∧validName x.fName=true∧x.fArgs.length=1∨x.aG=2∧(validName x.fName=true∧x.fArgs.length≤3∨mM x.fName=true∧x.fArgs.length=0))→V.c (.d (.b (!(!fM x.fArgs))))=V.c (.d (.b (formed x))):=fun h=>aF (yes (bR h)).symm
   clear yes no fin
   refine au (rs:=[.tmp 2]) Tryz.checked.mixed Tryz.func360 Tryz.ntmps360 rfl rfl rfl rfl rfl ?_
   refine W1 ?_
   repeat' (first
    |(refine S0 (fun hb h=>?_) fun hb h=>?_)
    |(refine bW (jh x.fName (by omega)) ?_;refine W1 ?_)
    |(refine bW (Em x.fName) ?_;refine W1 ?_)
    |(refine bW tail ?_;refine W1 ?_))
   all_goals first
    |(refine shut (fun y=> ?_);rcases y with⟨_,_,_⟩|⟨_,_,_⟩|⟨_,⟨_,_⟩|⟨_,_⟩⟩<;>first|omega|(simp_all;done))
    |(refine open_ ?_;first
       |exact .inl ⟨by omega,by assumption,by omega⟩
       |exact .inr (.inl ⟨by omega,by assumption,by omega⟩)
       |exact .inr (.inr ⟨by omega,.inl ⟨by assumption,by omega⟩⟩)
       |exact .inr (.inr ⟨by omega,.inr ⟨by assumption,by omega⟩⟩))
  ·have hcl:∀y∈xs,aA Tryz.prog 381 [y.v] (.c (.d (.b (!formed y)))):=fun y hy S=>by
    have hys:=List.sizeOf_lt_of_mem hy
    refine au (rs:=[.tmp 2]) Tryz.checked.mixed Tryz.func381 Tryz.ntmps381 rfl rfl rfl rfl rfl ?_
    refine W1 ?_
    exact C4 (ih y (by omega) (hsz y hy))
   have hidx:aA Tryz.prog 359 [.c (.d (.sl (xs.map ak.enc))),.c (.fn 381 [])] (.c (.d (.i .i64 (lT (fun y=> !formed y) xs)))):=fun S=>by
    refine au (rs:=[.tmp 4]) Tryz.checked.mixed Tryz.func359 Tryz.ntmps359 rfl rfl rfl rfl rfl ?_
    refine W1 ?_
    refine aT (ι:=Nat) Tryz.checked.mixed rfl [0,1,7,8] (fun i=>[.c (.d (.sl (xs.map ak.enc))),.c (.fn 381 []),.c (.d (.i .i64 xs.length)),.c (.d (.i .i64 i))]) (fun _=>[]::S)
     (fun i=>i≤xs.length∧∀j,∀hj:j<xs.length,j<i→formed xs[j]=true) (fun i=>xs.length-i) 0 rfl rfl ⟨Nat.zero_le _,fun j _ h=>by omega⟩ ?_
    rintro i ⟨p1,p2⟩
    refine W1 ?_
    refine S0 (fun hb h=>?_) fun hb h=>?_
    ·have hi:i<xs.length:=by omega
     refine W3 ?_
     refine C2 (hcl xs[i] (List.getElem_mem hi)) ?_
     refine S0 (fun hb h=>?_) fun hb h=>?_
     ·rw[mF hi (fun j hj hji=>by rw[p2 j hj hji];rfl) (by rw[h];rfl)]
     ·refine bG (i+1) (by omega) rfl rfl ⟨by omega,fun j hj hji=> ?_⟩
      by_cases e:j=i
      ·subst e;exact h
      ·exact p2 j hj (by omega)
    ·rw[pz (fun j hj=>by rw[p2 j hj (by omega)];rfl)]
   refine au (rs:=[.tmp 4]) Tryz.checked.mixed Tryz.func327 Tryz.ntmps327 rfl rfl rfl rfl rfl ?_
   refine W1 ?_
   refine C2 (hidx) ?_
   rw[←wW]
   exact aF nT
theorem F5(x:ak)(hsz:x.sz≤4194304):aA Tryz.prog 360 [x.v] (.c (.d (.b (formed x)))):=(vD _).1 x (Nat.lt_succ_self _) hsz
theorem xJ(x:ak)(hsz:x.sz≤4194304):aA Tryz.prog 329 [x.v] (.c (.d (.b (ni x)))):=fun S=>by
 refine au (rs:=[.tmp 2]) Tryz.checked.mixed Tryz.func329 Tryz.ntmps329 rfl rfl rfl rfl rfl ?_
 refine W1 ?_
 refine C2 (F5 x hsz) ?_
 refine S0 (fun hb h=>?_) fun hb h=>?_
 ·have h1:=h
  refine C2 (Er x hsz) ?_
  refine S0 (fun hb h=>?_) fun hb h=>?_
  ·refine C2 (F4 x hsz) ?_
   exact aF (by rw[jw];exact jV ⟨fun y=>⟨h1,by omega,by omega⟩,fun y=>by have:=y.2.2;omega⟩)
  ·exact aF (aL fun y=>by have:=y.2.1;omega).symm
 ·exact aF (aL fun y=>by rw[y.1] at h;cases h).symm
set_option maxHeartbeats 1000000 in
theorem zh:∀n:Nat,∀x:ak,SizeOf.sizeOf x<n→x.sz≤4194304→aA Tryz.prog 343 [x.v] (.c (.d (.b (formed x))))
 |0=>fun x h=>by omega
 |n+1=>by
  have ih:=zh n
  intro x hn hsz S
  have iR:=ak.eH x
  have hts:=q8 hsz
  have shut:¬((x.aG=1∨x.aG=4)∧validName x.fName=true∧x.fArgs.length=0∨x.aG=3∧validName x.fName=true∧x.fArgs.length=1∨x.aG=2∧(validName x.fName=true∧x.fArgs.length≤3∨mM x.fName=true∧x.fArgs.length=0))→V.c (.d (.b false))=V.c (.d (.b (formed x))):=fun h=>aF (by rw[pE,show qj x.aG x.fName x.fArgs.length=false from aL h];rfl)
  have UY:∀b:Bool,(b=true↔((x.aG=1∨x.aG=4)∧validName x.fName=true∧x.fArgs.length=0∨x.aG=3∧validName x.fName=true∧x.fArgs.length=1∨x.aG=2∧(validName x.fName=true∧x.fArgs.length≤3∨mM x.fName=true∧x.fArgs.length=0)))→b=qj x.aG x.fName x.fArgs.length:=fun b h=>by
   rw[Bool.eq_iff_iff,h]
   unfold qj
   rw[oP]
  refine au (rs:=[.tmp 2]) Tryz.checked.mixed Tryz.func343 Tryz.ntmps343 rfl rfl rfl rfl rfl ?_
  refine W1 ?_
  refine C2 (ji x.fName (by omega)) ?_
  repeat' (first
   |(refine S0 (fun hb h=>?_) fun hb h=>?_)
   |(refine bW (LJ x.fName) ?_;refine W1 ?_))
  all_goals first
   |(refine shut (fun y=> ?_);rcases y with⟨_,_,_⟩|⟨_,_,_⟩|⟨_,⟨_,_⟩|⟨_,_⟩⟩<;>first|omega|(simp_all;done))
   |skip
  all_goals
   refine aT (ι:=Nat×Bool) Tryz.checked.mixed rfl [1,3,4] (fun y=>[.c (.ptr (0,0) 0),.c (.d (.b y.2)),.c (.d (.i .i64 y.1))]) (fun y=>[.box [.d (.i .i64 x.aG),.d (.s x.fName),.d (.sl (x.fArgs.map ak.enc))]]::S)
    (fun y=>y.1≤x.fArgs.length∧(y.2&&fM (x.fArgs.drop y.1))=formed x) (fun y=>x.fArgs.length-y.1) (0,qj x.aG x.fName x.fArgs.length) ?_ rfl ⟨Nat.zero_le _,by rw[pE];rfl⟩ ?_
   ·simp only[List.map_cons,List.map_nil]
    simp -implicitDefEqProofs (disch:=omega) only[go_sem,List.cons.injEq,V.c.injEq,C.d.injEq,D.b.injEq,Int.natCast_zero]
    refine UY _ ⟨fun y=> ?_,fun y=> ?_⟩
    ·(try simp only[decide_eq_true_eq,Bool.false_eq_true] at y)<;>first
       |exact .inl ⟨by omega,by assumption,by omega⟩
       |exact .inr (.inl ⟨by omega,by assumption,by omega⟩)
       |exact .inr (.inr ⟨by omega,.inl ⟨by assumption,by omega⟩⟩)
       |exact .inr (.inr ⟨by omega,.inr ⟨by assumption,by omega⟩⟩)
    ·rcases y with⟨_,_,_⟩|⟨_,_,_⟩|⟨_,⟨_,_⟩|⟨_,_⟩⟩<;>first|omega|(simp only[decide_eq_true_eq];omega)|(simp_all;done)
   rintro⟨i,c⟩ ⟨p1,p2⟩
   simp only at p1 p2
   refine W1 ?_
   refine S0 (fun hb h=>?_) fun hb h=>?_
   ·have hi:i<x.fArgs.length:=by omega
    have hsz':=pG hi hsz
    rw[En hi] at p2
    refine S0 (fun hb h=>?_) fun hb h=>?_
    ·refine C1 (ih x.fArgs[i] (by have:=List.sizeOf_lt_of_mem (List.getElem_mem hi);omega) (by omega)) ?_
     exact bG (i+1,formed x.fArgs[i]) (by simp only;omega) rfl rfl ⟨by simp only;omega,by rw[←p2,h];rfl⟩
    ·exact bG (i+1,false) (by simp only;omega) rfl rfl ⟨by simp only;omega,by rw[←p2,h];rfl⟩
   ·have hi:i=x.fArgs.length:=by omega
    rw[hi,List.drop_length,fM,Bool.and_true] at p2
    rw[p2]
theorem LM(x:ak)(hsz:x.sz≤4194304):aA Tryz.prog 343 [x.v] (.c (.d (.b (formed x)))):=zh _ x (Nat.lt_succ_self _) hsz
theorem xK(x:ak)(hsz:x.sz≤4194304):aA Tryz.prog 283 [x.v] (.c (.d (.b (ni x)))):=fun S=>by
 refine au (rs:=[.tmp 2]) Tryz.checked.mixed Tryz.func283 Tryz.ntmps283 rfl rfl rfl rfl rfl ?_
 refine W1 ?_
 refine C2 (LK x 60 (by omega) (by omega) hsz) ?_
 refine S0 (fun hb h=>?_) fun hb h=>?_
 ·have h1:=(iQ (l:=60) (a:=x.cnt) (by omega)).2
  refine C2 (Ep x hsz) ?_
  refine S0 (fun hb h=>?_) fun hb h=>?_
  ·refine C2 (LM x hsz) ?_
   refine aF ?_
   cases hf:formed x with
   |false=>exact(aL fun y=>by rw[hf] at y;cases y.1).symm
   |true=>exact(bR ⟨hf,by omega,by omega⟩).symm
  ·exact aF (aL fun y=>by have:=y.2.1;omega).symm
 ·have h1:=iC (l:=60) (a:=x.cnt) (by omega)
  exact aF (aL fun y=>by have:=y.2.2;omega).symm
end Go.Proofs.YtcfhnaohbaplhaaGreatDoor
namespace Go.Proofs.YtcfhnaohbaplhaaGreatDoor
open Go Go.Ab
theorem xL(g:Nat)(caps:List (Key×Nat))(S:Store)(xs:List aj)(p:aj→Bool)(hl:xs.length≤1073741824)(hp:∀x∈xs,lu Tryz.prog g caps S [x.v] (.c (.d (.b (p x))))):
 bN Tryz.prog 346 [.c (.d (.sl (xs.map aj.enc))),.c (.fn g caps)] S (fun r S'=>r=.c (.d (.i .i64 (lT p xs)))∧S'=S):=by
 refine au (rs:=[.tmp 4]) Tryz.checked.mixed Tryz.func346 Tryz.ntmps346 rfl rfl rfl rfl rfl ?_
 refine W1 ?_
 refine aT (ι:=Nat) Tryz.checked.mixed rfl [0,1,7,8] (fun i=>[.c (.d (.sl (xs.map aj.enc))),.c (.fn g (iw 1 caps)),.c (.d (.i .i64 xs.length)),.c (.d (.i .i64 i))]) (fun _=>[]::S)
  (fun i=>i≤xs.length∧∀j,∀hj:j<xs.length,j<i→p xs[j]=false) (fun i=>xs.length-i) 0 rfl rfl ⟨Nat.zero_le _,fun j _ h=>by omega⟩ ?_
 rintro i ⟨p1,p2⟩
 refine W1 ?_
 refine S0 (fun hb h=>?_) fun hb h=>?_
 ·have hi:i<xs.length:=by omega
  refine W3 ?_
  refine cZ rfl (hp xs[i] (List.getElem_mem hi) [_]) ?_
  refine W1 ?_
  refine S0 (fun hb h=>?_) fun hb h=>?_
  ·rw[mF hi p2 h]
  ·refine bG (i+1) (by omega) rfl rfl ⟨by omega,fun j hj hji=> ?_⟩
   by_cases e:j=i
   ·subst e;exact h
   ·exact p2 j hj (by omega)
 ·rw[pz (fun j hj=>p2 j hj (by omega))]
theorem uV(g:Nat)(caps:List (Key×Nat))(S:Store)(xs:List aj)(p:aj→Bool)(hl:xs.length≤1073741824)(hp:∀x∈xs,lu Tryz.prog g caps S [x.v] (.c (.d (.b (p x))))):
 bN Tryz.prog 286 [.c (.d (.sl (xs.map aj.enc))),.c (.fn g caps)] S (fun r S'=>r=.c (.d (.b (xs.any p)))∧S'=S):=by
 refine au (rs:=[.tmp 4]) Tryz.checked.mixed Tryz.func286 Tryz.ntmps286 rfl rfl rfl rfl rfl ?_
 refine W1 ?_
 refine cZ rfl (xL g (iw 1 caps) _ xs p hl fun x hx=>(hp x hx).push _) ?_
 refine W1 ?_
 exact aF nT
theorem zi(g:Nat)(caps:List (Key×Nat))(S:Store)(xs:List ay)(p:ay→Bool)(hl:xs.length≤1073741824)(hp:∀x∈xs,lu Tryz.prog g caps S [x.v] (.c (.d (.b (p x))))):
 bN Tryz.prog 347 [.c (.d (.sl (xs.map ay.enc))),.c (.fn g caps)] S (fun r S'=>r=.c (.d (.i .i64 (lT p xs)))∧S'=S):=by
 refine au (rs:=[.tmp 4]) Tryz.checked.mixed Tryz.func347 Tryz.ntmps347 rfl rfl rfl rfl rfl ?_
 refine W1 ?_
 refine aT (ι:=Nat) Tryz.checked.mixed rfl [0,1,7,8] (fun i=>[.c (.d (.sl (xs.map ay.enc))),.c (.fn g (iw 1 caps)),.c (.d (.i .i64 xs.length)),.c (.d (.i .i64 i))]) (fun _=>[]::S)
  (fun i=>i≤xs.length∧∀j,∀hj:j<xs.length,j<i→p xs[j]=false) (fun i=>xs.length-i) 0 rfl rfl ⟨Nat.zero_le _,fun j _ h=>by omega⟩ ?_
 rintro i ⟨p1,p2⟩
 refine W1 ?_
 refine S0 (fun hb h=>?_) fun hb h=>?_
 ·have hi:i<xs.length:=by omega
  refine W3 ?_
  refine cZ rfl (hp xs[i] (List.getElem_mem hi) [_]) ?_
  refine W1 ?_
  refine S0 (fun hb h=>?_) fun hb h=>?_
  ·rw[mF hi p2 h]
  ·refine bG (i+1) (by omega) rfl rfl ⟨by omega,fun j hj hji=> ?_⟩
   by_cases e:j=i
   ·subst e;exact h
   ·exact p2 j hj (by omega)
 ·rw[pz (fun j hj=>p2 j hj (by omega))]
theorem vE(g:Nat)(caps:List (Key×Nat))(S:Store)(xs:List ay)(p:ay→Bool)(hl:xs.length≤1073741824)(hp:∀x∈xs,lu Tryz.prog g caps S [x.v] (.c (.d (.b (p x))))):
 bN Tryz.prog 288 [.c (.d (.sl (xs.map ay.enc))),.c (.fn g caps)] S (fun r S'=>r=.c (.d (.b (xs.any p)))∧S'=S):=by
 refine au (rs:=[.tmp 4]) Tryz.checked.mixed Tryz.func288 Tryz.ntmps288 rfl rfl rfl rfl rfl ?_
 refine W1 ?_
 refine cZ rfl (zi g (iw 1 caps) _ xs p hl fun x hx=>(hp x hx).push _) ?_
 refine W1 ?_
 exact aF nT
theorem vF(g:Nat)(caps:List (Key×Nat))(S:Store)(xs:List (List UInt8))(p:(List UInt8)→Bool)(hl:xs.length≤1073741824)(hp:∀x∈xs,lu Tryz.prog g caps S [.c (.d (.s x))] (.c (.d (.b (p x))))):
 bN Tryz.prog 325 [.c (.d (.sl (xs.map encS))),.c (.fn g caps)] S (fun r S'=>r=.c (.d (.i .i64 (lT p xs)))∧S'=S):=by
 refine au (rs:=[.tmp 4]) Tryz.checked.mixed Tryz.func325 Tryz.ntmps325 rfl rfl rfl rfl rfl ?_
 simp -implicitDefEqProofs (disch:=omega) only[go_sem,encS]
 refine aT (ι:=Nat) Tryz.checked.mixed rfl [0,1,7,8] (fun i=>[.c (.d (.sl (xs.map encS))),.c (.fn g (iw 1 caps)),.c (.d (.i .i64 xs.length)),.c (.d (.i .i64 i))]) (fun _=>[]::S)
  (fun i=>i≤xs.length∧∀j,∀hj:j<xs.length,j<i→p xs[j]=false) (fun i=>xs.length-i) 0 rfl rfl ⟨Nat.zero_le _,fun j _ h=>by omega⟩ ?_
 rintro i ⟨p1,p2⟩
 simp -implicitDefEqProofs (disch:=omega) only[go_sem,encS]
 with_reducible refine dV (fun hb=> ?_) (fun hb=> ?_)<;>have h:=hb<;>(try simp only[wf_preprocess] at h)<;>simp -implicitDefEqProofs (disch:=omega) only[go_sem,hb,encS]<;>refine W3 ?_
 ·have hi:i<xs.length:=by omega
  refine W3 ?_
  refine cZ rfl (hp xs[i] (List.getElem_mem hi) [_]) ?_
  simp -implicitDefEqProofs (disch:=omega) only[go_sem,encS]
  with_reducible refine dV (fun hb=> ?_) (fun hb=> ?_)<;>have h:=hb<;>(try simp only[wf_preprocess] at h)<;>simp -implicitDefEqProofs (disch:=omega) only[go_sem,hb,encS]<;>refine W3 ?_
  ·rw[mF hi p2 h]
  ·refine bG (i+1) (by omega) rfl rfl ⟨by omega,fun j hj hji=> ?_⟩
   by_cases e:j=i
   ·subst e;exact h
   ·exact p2 j hj (by omega)
 ·rw[pz (fun j hj=>p2 j hj (by omega))]
theorem sK(g:Nat)(caps:List (Key×Nat))(S:Store)(xs:List (List UInt8))(p:(List UInt8)→Bool)(hl:xs.length≤1073741824)(hp:∀x∈xs,lu Tryz.prog g caps S [.c (.d (.s x))] (.c (.d (.b (p x))))):
 bN Tryz.prog 255 [.c (.d (.sl (xs.map encS))),.c (.fn g caps)] S (fun r S'=>r=.c (.d (.b (xs.any p)))∧S'=S):=by
 refine au (rs:=[.tmp 4]) Tryz.checked.mixed Tryz.func255 Tryz.ntmps255 rfl rfl rfl rfl rfl ?_
 simp -implicitDefEqProofs (disch:=omega) only[go_sem,encS]
 refine cZ rfl (vF g (iw 1 caps) _ xs p hl fun x hx=>(hp x hx).push _) ?_
 simp -implicitDefEqProofs (disch:=omega) only[go_sem,encS]
 exact aF nT
end Go.Proofs.YtcfhnaohbaplhaaGreatDoor
namespace Go.Ab
theorem Sc{s:List UInt8}{xs:List (List UInt8)}(h:s∈xs):s.length≤aP (xs.map encS):=by
 have:=dX (List.mem_map_of_mem (f:=encS) h)
 simpa [encS,bB,D.sz] using this
noncomputable def nk(xs:List (List UInt8)):Bool:=dec xs.Nodup&&xs.all validName
theorem OD{s l:List UInt8}{m:List (List UInt8)}:s∈uX l m↔s=l∨s∈m:=by
 unfold uX
 split
 ·rename_i h
  exact⟨.inr,fun x=>x.elim (fun e=>e▸h) id⟩
 ·rw[List.mem_append,List.mem_singleton];exact Or.comm
theorem q9{α:Type}{xs:List α}{i:Nat}(hi:i<xs.length):xs.take (i+1)=xs.take i++[xs[i]]:=List.take_succ_eq_append_getElem hi
theorem um{α:Type}{xs:List α}{x:α}:(xs++[x]).Nodup↔xs.Nodup∧x∉xs:=by
 rw[List.nodup_append]
 constructor
 ·rintro⟨h1,_,h3⟩
  exact⟨h1,fun hx=>h3 x hx x (by simp) rfl⟩
 ·rintro⟨h1,h2⟩
  exact⟨h1,by simp,fun a ha b hb e=>by simp at hb;subst hb;exact h2 (e▸ha)⟩
theorem Bz{α:Type}{xs:List α}{i:Nat}(hi:i<xs.length)(h:xs[i]∈xs.take i):¬xs.Nodup:=fun hn=>by
 have h1:(xs.take (i+1)).Nodup:=hn.sublist (List.take_sublist _ _)
 rw[q9 hi] at h1
 exact(um.1 h1).2 h
end Go.Ab
namespace Go.Proofs.YtcfhnaohbaplhaaGreatDoor
open Go Go.Ab
theorem zk(xs:List (List UInt8))(hl:xs.length≤1073741824):aA Tryz.prog 254 [.c (.d (.sl (xs.map encS)))] (.c (.d (.b (dec xs.Nodup)))):=fun S=>by
 refine au (rs:=[.tmp 2]) Tryz.checked.mixed Tryz.func254 Tryz.ntmps254 rfl rfl rfl rfl rfl ?_
 simp -implicitDefEqProofs (disch:=omega) only[go_sem,encS]
 refine W3 ?_
 refine aT (ι:=Nat×List (List UInt8)) Tryz.checked.mixed rfl [3,7,8,9] (fun y=>[.c (.mp (0,0)),.c (.d (.sl (xs.map encS))),.c (.d (.i .i64 xs.length)),.c (.d (.i .i64 y.1))]) (fun y=>[.mp y.2]::S)
  (fun y=>y.1≤xs.length∧(∀s,s∈y.2↔s∈xs.take y.1)∧(xs.take y.1).Nodup) (fun y=>xs.length-y.1) (0,[]) rfl rfl ⟨Nat.zero_le _,fun s=>by simp,by simp⟩ ?_
 rintro⟨i,m⟩ ⟨p1,p2,p3⟩
 simp only at p1 p2 p3
 simp -implicitDefEqProofs (disch:=omega) only[go_sem,encS]
 with_reducible refine dV (fun hb=> ?_) (fun hb=> ?_)<;>have h:=hb<;>(try simp only[wf_preprocess] at h)<;>simp -implicitDefEqProofs (disch:=omega) only[go_sem,hb,encS]<;>refine W3 ?_
 ·have hi:i<xs.length:=by omega
  refine W3 ?_
  with_reducible refine dV (fun hb=> ?_) (fun hb=> ?_)<;>have h:=hb<;>(try simp only[wf_preprocess] at h)<;>simp -implicitDefEqProofs (disch:=omega) only[go_sem,hb,encS]<;>refine W3 ?_
  ·exact aF (aL (Bz hi ((p2 _).1 h))).symm
  ·refine bG (i+1,uX xs[i] m) (by simp only;omega) rfl rfl ⟨by simp only;omega,fun s=> ?_,?_⟩
   ·simp only
    rw[OD,q9 hi,List.mem_append,List.mem_singleton,p2]
    exact Or.comm
   ·simp only
    rw[q9 hi,um]
    exact⟨p3,fun hx=>h ((p2 _).2 hx)⟩
 ·rw[List.take_of_length_le (by omega)] at p3
  exact aF (bR p3).symm
theorem zl(xs:List (List UInt8))(hl:xs.length≤1073741824):aA Tryz.prog 162 [.c (.d (.sl (xs.map encS)))] (.c (.d (.b (dec xs.Nodup)))):=fun S=>by
 refine au (rs:=[.tmp 2]) Tryz.checked.mixed Tryz.func162 Tryz.ntmps162 rfl rfl rfl rfl rfl ?_
 simp -implicitDefEqProofs (disch:=omega) only[go_sem,encS]
 refine aT (ι:=Nat) Tryz.checked.mixed rfl [0,3] (fun i=>[.c (.d (.sl (xs.map encS))),.c (.d (.i .i64 i))]) (fun _=>[]::S)
  (fun i=>i≤xs.length∧(xs.take i).Nodup) (fun i=>xs.length-i) 0 rfl rfl ⟨Nat.zero_le _,by simp⟩ ?_
 rintro i ⟨p1,p3⟩
 simp -implicitDefEqProofs (disch:=omega) only[go_sem,encS]
 with_reducible refine dV (fun hb=> ?_) (fun hb=> ?_)<;>have h:=hb<;>(try simp only[wf_preprocess] at h)<;>simp -implicitDefEqProofs (disch:=omega) only[go_sem,hb,encS]<;>refine W3 ?_
 ·have hi:i<xs.length:=by omega
  have hc:∀y∈xs.map encS,y.length=1:=fun y hy=>by
   obtain⟨s,_,rfl⟩:=List.mem_map.1 hy
   rfl
  have e:(xs.map encS).take i=(xs.take i).map encS:=List.map_take.symm
  refine And.intro ⟨by omega,by omega,hc⟩ ?_
  refine W3 ?_
  simp -implicitDefEqProofs (disch:=omega) only[go_sem,Int.toNat_zero,e]
  refine C2 (xI (xs.take i) xs[i] (by simp;omega)) ?_
  refine S0 (fun hb h=>?_) fun hb h=>?_
  ·exact aF (aL (Bz hi h)).symm
  ·refine bG (i+1) (by omega) rfl rfl ⟨by omega,?_⟩
   rw[q9 hi,um]
   exact⟨p3,h⟩
 ·rw[List.take_of_length_le (by omega)] at p3
  exact aF (bR p3).symm
theorem Jp(xs:List (List UInt8))(hl:xs.length≤1073741824)(hs:∀s∈xs,s.length≤4194304):aA Tryz.prog 245 [.c (.d (.sl (xs.map encS)))] (.c (.d (.b (xs.all validName)))):=fun S=>by
 refine au (rs:=[.tmp 2]) Tryz.checked.mixed Tryz.func245 Tryz.ntmps245 rfl rfl rfl rfl rfl ?_
 simp -implicitDefEqProofs (disch:=omega) only[go_sem,encS]
 refine aT (ι:=Nat) Tryz.checked.mixed rfl [0,3] (fun i=>[.c (.d (.sl (xs.map encS))),.c (.d (.i .i64 i))]) (fun _=>[]::S)
  (fun i=>i≤xs.length∧(xs.drop i).all validName=xs.all validName) (fun i=>xs.length-i) 0 rfl rfl ⟨Nat.zero_le _,rfl⟩ ?_
 rintro i ⟨p1,p2⟩
 simp -implicitDefEqProofs (disch:=omega) only[go_sem,encS]
 with_reducible refine dV (fun hb=> ?_) (fun hb=> ?_)<;>have h:=hb<;>(try simp only[wf_preprocess] at h)<;>simp -implicitDefEqProofs (disch:=omega) only[go_sem,hb,encS]<;>refine W3 ?_
 ·have hi:i<xs.length:=by omega
  have hz:=hs _ (List.getElem_mem hi)
  rw[List.drop_eq_getElem_cons hi,List.all_cons] at p2
  refine W3 ?_
  refine C2 (ji xs[i] (by omega)) ?_
  refine S0 (fun hb h=>?_) fun hb h=>?_
  ·rw[←p2,h];rfl
  ·exact bG (i+1) (by omega) rfl rfl ⟨by omega,by rw[←p2,h];rfl⟩
 ·rw[List.drop_of_length_le (by omega)] at p2
  rw[←p2];rfl
theorem F6(xs:List (List UInt8))(hl:xs.length≤1073741824)(hs:∀s∈xs,s.length≤4194304):aA Tryz.prog 169 [.c (.d (.sl (xs.map encS)))] (.c (.d (.b (nk xs)))):=fun S=>by
 have hcl:∀s∈xs,aA Tryz.prog 256 [.c (.d (.s s))] (.c (.d (.b (!validName s)))):=fun s hx S=>by
  have:=hs s hx
  refine au (rs:=[.tmp 2]) Tryz.checked.mixed Tryz.func256 Tryz.ntmps256 rfl rfl rfl rfl rfl ?_
  refine W1 ?_
  exact C4 (jh s (by omega))
 have ha:(xs.any fun s=> !validName s)= !xs.all validName:=by rw[List.not_all_eq_any_not]
 refine au (rs:=[.tmp 2]) Tryz.checked.mixed Tryz.func169 Tryz.ntmps169 rfl rfl rfl rfl rfl ?_
 refine W1 ?_
 refine C2 (zk xs hl) ?_
 refine S0 (fun hb h=>?_) fun hb h=>?_
 ·refine cZ rfl (sK 256 [] _ xs (fun s=> !validName s) hl fun s hx=>lu.Ay (hcl s hx)) ?_
  refine W1 ?_
  rw[ha]
  exact aF (by unfold nk;rw[hb];simp)
 ·exact aF (by unfold nk;rw[hb];rfl)
end Go.Proofs.YtcfhnaohbaplhaaGreatDoor
namespace Go.Ab
def sM(n:Nat):Key→Key
 |(0,j)=>(0,n+j)
 |(l+1,j)=>(l,j)
def C.mg(n:Nat):C→C
 | .d x=>.d x
 | .any=>.any
 | .bL k es=>.bL (sM n k) es
 | .aY es=>.aY es
 | .ptr k off=>.ptr (sM n k) off
 | .gG cs=>.gG cs
 | .gX k i off=>.gX (sM n k) i off
 | .gI k=>.gI (sM n k)
 | .fn f caps=>.fn f (caps.map fun x=>(sM n x.1,x.2))
 | .mp k=>.mp (sM n k)
 | .gu m es=>.gu m es
 | .xp k r p=>.xp (sM n k) r p
 | .xq k r p z i off=>.xq (sM n k) r p z i off
def V.mg(n:Nat):V→V
 | .c x=>.c (x.mg n)
 | .agg cs=>.agg (cs.map (C.mg n))
 | .d9 xs=>.d9 (xs.map fun y=>(y.1,y.2.map (C.mg n)))
 | .any=>.any
def Obj.mg(n:Nat):Obj→Obj
 | .box cs=>.box (cs.map (C.mg n))
 |o=>o
section
variable {P:Program} {w:World} {σ:Nat→Nat} {own aN:List Obj} {Ω:Store} {bo jD:List Value} {bΩ:Hs}
theorem AB{n:Nat}{o:Obj}{h:Value}{b:Nat}:owns (o.mg n) h b↔owns o h b:=by
 cases o with
 |box cs=>
  cases h with
  |pointer a=>cases a<;>exact Iff.rfl
  |_=>exact Iff.rfl
 |_=>exact Iff.rfl
theorem ru{k:Key}{o:Obj}(h:aI (own::aN::Ω) k=some o):
 aI ((aN++own.map (Obj.mg aN.length))::Ω) (sM aN.length k)=some (if k.1=0 then o.mg aN.length else o):=by
 obtain⟨l,j⟩:=k
 cases l with
 |zero=>
  rw[aJ] at h
  show aI _ (0,aN.length+j)=_
  rw[aJ,List.getElem?_append_right (by omega),show aN.length+j-aN.length=j by omega,List.getElem?_map,h]
  rfl
 |succ l=>
  rw[aS] at h
  show aI _ (l,j)=some o
  cases l with
  |zero=>
   rw[aJ] at h ⊢
   rw[List.getElem?_append_left (List.getElem?_eq_some_iff.1 h).1]
   exact h
  |succ l=>rw[aS] at h ⊢;exact h
theorem rz(hl:jD.length=aN.length){k:Key}{h:Value}(e:aI (bo::jD::bΩ) k=some h):aI ((jD++bo)::bΩ) (sM aN.length k)=some h:=by
 obtain⟨l,j⟩:=k
 cases l with
 |zero=>
  rw[aJ] at e
  show aI _ (0,aN.length+j)=_
  rw[aJ,List.getElem?_append_right (by omega),show aN.length+j-jD.length=j by omega,e]
 |succ l=>
  rw[aS] at e
  show aI _ (l,j)=some h
  cases l with
  |zero=>
   rw[aJ] at e ⊢
   rw[List.getElem?_append_left (List.getElem?_eq_some_iff.1 e).1]
   exact e
  |succ l=>rw[aS] at e ⊢;exact e
theorem wI(hl:jD.length=aN.length)(hlo:bo.length=own.length){k:Key}{o:Obj}(h:aI ((aN++own.map (Obj.mg aN.length))::Ω) k=some o):
 ∃k0 o0,sM aN.length k0=k∧aI (own::aN::Ω) k0=some o0∧o=(if k0.1=0 then o0.mg aN.length else o0)∧aI ((jD++bo)::bΩ) k=aI (bo::jD::bΩ) k0:=by
 obtain⟨l,j⟩:=k
 cases l with
 |zero=>
  rw[aJ] at h
  by_cases hj:j<aN.length
  ·rw[List.getElem?_append_left hj] at h
   refine⟨(1,j),o,rfl,by rw[aS,aJ];exact h,rfl,?_⟩
   rw[aJ,aS,aJ,List.getElem?_append_left (by omega)]
  ·rw[List.getElem?_append_right (by omega),List.getElem?_map] at h
   cases hx:own[j-aN.length]? with
   |none=>rw[hx] at h;cases h
   |some x=>
    rw[hx] at h;cases h
    refine⟨(0,j-aN.length),x,?_,by rw[aJ];exact hx,rfl,?_⟩
    ·show(0,aN.length+(j-aN.length))=(0,j)
     rw[show aN.length+(j-aN.length)=j by omega]
    ·rw[aJ,aJ,List.getElem?_append_right (by omega),hl]
 |succ l=>
  rw[aS] at h
  exact⟨(l+2,j),o,rfl,by rw[aS,aS];exact h,rfl,by rw[aS,aS,aS]⟩
theorem nu{n:Nat}{k:Key}{o:Obj}:(∀aC es,jY (if k.1=0 then o.mg n else o) aC es→jY o aC es)∧(∀aC es,(if k.1=0 then o.mg n else o)=.dw aC es→o=.dw aC es)∧
 (∀m,(if k.1=0 then o.mg n else o)=.mp m→o=.mp m)∧(∀cs,(if k.1=0 then o.mg n else o)=.box cs→∃cs',o=.box cs')∧(∀rs,(if k.1=0 then o.mg n else o)=.xf rs→o=.xf rs):=by
 by_cases e:k.1=0
 ·simp only[if_pos e]
  cases o<;>simp[Obj.mg,jY]
 ·simp only[if_neg e]
  exact⟨fun _ _ h=>h,fun _ _ h=>h,fun _ h=>h,fun cs h=>⟨cs,h⟩,fun _ h=>h⟩
theorem OE(hl:jD.length=aN.length){c:C}{v:Value}(h:eP w σ (own::aN::Ω) (bo::jD::bΩ) c v):
 eP w σ ((aN++own.map (Obj.mg aN.length))::Ω) ((jD++bo)::bΩ) (c.mg aN.length) v:=by
 cases c with
 |d x=>exact h
 |any=>exact trivial
 |aY es=>exact h
 |gG cs=>exact h
 |gu m es=>exact h
 |xp k r p=>
  obtain⟨o,ho,h2⟩:=h
  refine⟨_,ru ho,fun rs e=> ?_⟩
  obtain⟨hh,q1,q2⟩:=h2 rs (nu.2.2.2.2 _ e)
  exact⟨hh,rz hl q1,q2⟩
 |xq k r p z i off=>
  obtain⟨o,ho,h2⟩:=h
  refine⟨_,ru ho,fun rs e=> ?_⟩
  obtain⟨hh,b,a,n,cap,q1,q2⟩:=h2 rs (nu.2.2.2.2 _ e)
  exact⟨hh,b,a,n,cap,rz hl q1,q2⟩
 |bL k es=>
  obtain⟨h1,o,ho,h2⟩:=h
  refine⟨h1,_,ru ho,fun aC es' e=> ?_⟩
  obtain⟨q1,q2⟩:=h2 aC es' (nu.1 _ _ e)
  exact⟨q1,fun e'=>rz hl (q2 e')⟩
 |ptr k off=>
  obtain⟨o,ho,h2⟩:=h
  refine⟨_,ru ho,fun cs e=> ?_⟩
  obtain⟨cs',e'⟩:=nu.2.2.2.1 _ e
  obtain⟨b,q1,q2⟩:=h2 cs' e'
  exact⟨b,rz hl q1,q2⟩
 |gX k i off=>
  obtain⟨o,ho,h2⟩:=h
  refine⟨_,ru ho,fun aC es e=> ?_⟩
  obtain⟨b,n,cap,q1,q2⟩:=h2 aC es (nu.2.1 _ _ e)
  exact⟨b,n,cap,rz hl q1,q2⟩
 |gI k=>
  obtain⟨o,ho,h2⟩:=h
  exact⟨_,ru ho,fun aC es e=>rz hl (h2 aC es (nu.2.1 _ _ e))⟩
 |mp k=>
  obtain⟨o,ho,h2⟩:=h
  exact⟨_,ru ho,fun m e=>rz hl (h2 m (nu.2.2.1 _ e))⟩
 |fn f caps=>
  obtain⟨vs,e,hsz,hc⟩:=h
  refine⟨vs,e,by rw[hsz,List.length_map],fun j k off hj=> ?_⟩
  rw[List.getElem?_map] at hj
  cases hx:caps[j]? with
  |none=>rw[hx] at hj;cases hj
  |some y=>
   rw[hx] at hj
   injection hj with hj
   injection hj with e1 e2
   obtain⟨u,q1,q2,o,q3,q4⟩:=hc j y.1 y.2 hx
   refine⟨u,q1,q2,_,by rw[←e1];exact ru q3,fun cs e=> ?_⟩
   obtain⟨cs',e'⟩:=nu.2.2.2.1 _ e
   obtain⟨b,q5,q6⟩:=q4 cs' e'
   exact⟨b,by rw[←e1];exact rz hl q5,by rw[←e2];exact q6⟩
theorem Jq(hl:jD.length=aN.length){cs:List C}{vs:List Value}(h:dI w σ (own::aN::Ω) (bo::jD::bΩ) cs vs):
 dI w σ ((aN++own.map (Obj.mg aN.length))::Ω) ((jD++bo)::bΩ) (cs.map (C.mg aN.length)) vs:=by
 refine⟨by rw[List.length_map];exact h.1,fun j x hj=> ?_⟩
 rw[List.getElem?_map] at hj
 cases hx:cs[j]? with
 |none=>rw[hx] at hj;cases hj
 |some y=>
  rw[hx] at hj;cases hj
  obtain⟨v,h1,h2,h3⟩:=h.2 j y hx
  exact⟨v,h1,OE hl h2,h3⟩
theorem Wn(hl:jD.length=aN.length){x:V}{v:Value}(h:aW w σ (own::aN::Ω) (bo::jD::bΩ) x v):
 aW w σ ((aN++own.map (Obj.mg aN.length))::Ω) ((jD++bo)::bΩ) (x.mg aN.length) v:=by
 cases x with
 |c x=>exact⟨OE hl h.1,h.2⟩
 |agg cs=>obtain⟨a,ha,hc⟩:=h;exact⟨a,ha,Jq hl hc⟩
 |any=>exact trivial
 |d9 xs=>
  obtain⟨a,ha,hlen,hc⟩:=h
  refine⟨a,ha,by rw[List.length_map];exact hlen,fun j y hj=> ?_⟩
  rw[List.getElem?_map] at hj
  cases hx:xs[j]? with
  |none=>rw[hx] at hj;cases hj
  |some z=>
   rw[hx] at hj;cases hj
   obtain⟨u,hu,hr⟩:=hc j z hx
   refine⟨u,hu,?_⟩
   obtain⟨b,cs⟩:=z
   cases b with
   |true=>obtain⟨a',e,hcs⟩:=hr;exact⟨a',e,Jq hl hcs⟩
   |false=>obtain⟨x1,e,hx1,ho⟩:=hr;subst e;exact⟨_,rfl,OE hl hx1,ho⟩
theorem GN(hl:jD.length=aN.length):Keep (aN::Ω) (jD::bΩ) ((aN++own.map (Obj.mg aN.length))::Ω) ((jD++bo)::bΩ):=by
 rintro⟨l,j⟩ o h
 cases l with
 |zero=>
  rw[aJ] at h
  have hj:=(List.getElem?_eq_some_iff.1 h).1
  refine⟨o,by rw[aJ,List.getElem?_append_left hj];exact h,?_⟩
  rw[aJ,aJ,List.getElem?_append_left (by omega)]
  exact ig.refl _ _
 |succ l=>
  rw[aS] at h
  exact⟨o,by rw[aS];exact h,by rw[aS,aS];exact ig.refl _ _⟩
theorem Wo(hS:bM w σ (own::aN::Ω) (bo::jD::bΩ)):bM w σ ((aN++own.map (Obj.mg aN.length))::Ω) ((jD++bo)::bΩ):=by
 have hlo:bo.length=own.length:=by
  obtain⟨gr,h1,h2⟩:=hS.shape.2 0 own rfl
  simp at h1;rw[h1];exact h2
 have hl:jD.length=aN.length:=by
  obtain⟨gr,h1,h2⟩:=hS.shape.2 1 aN rfl
  simp at h1;rw[h1];exact h2
 have hn:dx w σ w σ:=dx.refl _ _
 refine⟨fun k o ho=> ?_,fun k k' o o' h h' b e1 e2 e3 e4 e5 e6=> ?_,⟨by have:=hS.shape.1;simpa using this,fun l fr hfr=> ?_⟩,hS.live,hS.l8⟩
 ·obtain⟨k0,o0,hk,ho0,rfl,hh⟩:=wI (bo:=bo) (bΩ:=bΩ) hl hlo ho
  obtain⟨h,h1,h2⟩:=hS.obj k0 o0 ho0
  refine⟨h,by rw[hh];exact h1,?_⟩
  obtain⟨l0,j0⟩:=k0
  cases l0 with
  |zero=>
   subst hk
   have h2:dU w σ (own::aN::Ω) (bo::jD::bΩ) o0 h:=h2
   show dU w σ ((aN++own.map (Obj.mg aN.length))::Ω) ((jD++bo)::bΩ) (o0.mg aN.length) h
   cases o0 with
   |box cs=>
    obtain⟨b,c,t,e,q1,q2,q3⟩:=h2
    exact⟨b,c,t,e,q1,q2,Jq hl q3⟩
   |dead=>exact trivial
   |tok aC es=>exact h2
   |dw aC es=>exact h2
   |mp m=>exact h2
   |dF n aC es=>exact h2
   |seed n=>exact trivial
   |xf rs=>exact h2
  |succ l0=>
   have hk':k=(l0,j0):=hk.symm
   subst hk'
   have h2:dU w σ ((aN::Ω).drop l0) ((jD::bΩ).drop l0) o0 h:=h2
   exact h2.mono hn ((GN hl).drop l0) fun _ _=>⟨rfl,rfl⟩
 ·obtain⟨k0,o0,hk,ho0,ho,hh⟩:=wI (bo:=bo) (bΩ:=bΩ) hl hlo e1
  obtain⟨k1,o1,hk1,ho1,ho',Lv⟩:=wI (bo:=bo) (bΩ:=bΩ) hl hlo e4
  rw[hh] at e2
  rw[Lv] at e5
  have b0:owns o0 h b:=by
   rw[ho] at e3
   split at e3
   ·rw[AB] at e3;exact e3
   ·exact e3
  have b1:owns o1 h' b:=by
   rw[ho'] at e6
   split at e6
   ·rw[AB] at e6;exact e6
   ·exact e6
  have:=hS.apart k0 k1 o0 o1 h h' b ho0 e2 b0 ho1 e5 b1
  rw[←hk,←hk1,this]
 ·cases l with
  |zero=>
   simp at hfr
   exact⟨_,rfl,by rw[←hfr];simp[hl,hlo]⟩
  |succ l=>exact hS.shape.2 (l+2) fr (by simpa using hfr)
theorem Sd(hS:bM w σ (own::aN::Ω) (bo::jD::bΩ)){b:Nat}(h:Own ((aN++own.map (Obj.mg aN.length))::Ω) ((jD++bo)::bΩ) b):Own (own::aN::Ω) (bo::jD::bΩ) b:=by
 have hlo:bo.length=own.length:=by
  obtain⟨gr,h1,h2⟩:=hS.shape.2 0 own rfl
  simp at h1;rw[h1];exact h2
 have hl:jD.length=aN.length:=by
  obtain⟨gr,h1,h2⟩:=hS.shape.2 1 aN rfl
  simp at h1;rw[h1];exact h2
 obtain⟨k,o,hv,e1,e2,e3⟩:=h
 obtain⟨k0,o0,hk,ho0,ho,hh⟩:=wI (bo:=bo) (bΩ:=bΩ) hl hlo e1
 rw[hh] at e2
 refine⟨k0,o0,hv,ho0,e2,?_⟩
 rw[ho] at e3
 split at e3
 ·rw[AB] at e3;exact e3
 ·exact e3
end
def Et(P:Program)(rs:List ResultVar)(post:V→Store→Prop)(e:Exit)(s:St):Prop:=
 match e with
 | .normal| .ret=>(kY P rs s).1∧match s.st with
   |own::aN::Ω=>post ((kY P rs s).2.mg aN.length) ((aN++own.map (Obj.mg aN.length))::Ω)
   |_=>False
 |_=>False
section
variable {P:Program} {N:Nat} {s:St}
theorem BA{f:FuncId}{fn:Func}{c:Code}{args:List V}{aN:List Obj}{Ω:Store}{post:V→Store→Prop}(hf:P.funcs[f]? =some fn)(hb:fn.body=some c)(hn:(fn.name== "runtime.NumGoroutine")=false)
 (hl:args.length≤fn.ntmps) (h:AW P fn.ntmps c (Et P fn.results.toList post) ⟨jN (args.map (V.up 1)) 0,[]::aN::Ω⟩):bN P f args (aN::Ω) post:=by
 refine⟨⟨fn,hf,hn,by simp[hb]⟩,fun w σ β vs hS hargs=> ?_⟩
 refine calls_of_wp hf hb ?_
 have hlen:vs.length=args.length:=hargs.1.symm
 have M4:fJ fn.ntmps ⟨jN (args.map (V.up 1)) 0,[]::aN::Ω⟩ {tmps:=vs.toArray++Array.replicate (fn.ntmps-vs.toArray.size) undef,defers:=[]} w σ ([]::β):=by
  refine⟨by simp;omega,rfl,hS.Vh,fun t=> ?_⟩
  show aW w σ ([]::aN::Ω) ([]::β) (look (jN (args.map (V.up 1)) 0) t) _
  rw[tO,if_pos (Nat.zero_le _),Nat.sub_zero,List.getElem?_map]
  cases ha:args[t]? with
  |none=>exact trivial
  |some x=>
   obtain⟨v,hv,hr⟩:=hargs.2 t x ha
   have ht:=(List.getElem?_eq_some_iff.1 hv).1
   have:(vs.toArray++Array.replicate (fn.ntmps-vs.toArray.size) undef).getD t undef=v:=by
    rw[Array.getD_eq_getD_getElem?,Array.getElem?_append_left (by simpa using ht)]
    simp[hv]
   rw[this]
   exact Gy (S:=[]::aN::Ω) (β:=[]::β) 1 hr
 refine wp_mono (h _ w σ ([]::β) M4) ?_
 rintro e a' w' ⟨s',σ',β',hR,hst,hkp,hq⟩
 have main:((kY P fn.results.toList s').1∧match s'.st with
  |own::aN::Ω=>post ((kY P fn.results.toList s').2.mg aN.length) ((aN++own.map (Obj.mg aN.length))::Ω)
  |_=>False)→
   a'.defers=[]∧∃v,(results fn a'.tmps).run P w'=.ok v w'∧∃v_1 r S' σ' β',Ending.returned v=Ending.returned v_1∧bM w' σ' S' β'∧Keep (aN::Ω) β S' β'∧Step (aN::Ω) β σ w S' β' σ' w'∧aW w' σ' S' β' r v_1∧post r S':=by
  rintro⟨q1,q2⟩
  obtain⟨v,hv,hrep⟩:=Bn (fn:=fn) hR q1
  obtain⟨tm,st⟩:=s'
  simp only at q2
  split at q2
  ·rename_i own Jr Ω1
   obtain⟨bo,W9,rfl,hlo⟩:=frames hR
   cases W9 with
   |nil=>have:=hR.S.shape.1;simp at this
   |cons Sg Vl=>
    have hl1:Sg.length=Jr.length:=by
     obtain⟨gr,h1,h2⟩:=hR.S.shape.2 1 Jr rfl
     simp at h1;rw[h1];exact h2
    have ow:Keep (aN::Ω) β (Jr::Ω1) (Sg::Vl):=hkp
    have hst':Step ([]::aN::Ω) ([]::β) σ w (own::Jr::Ω1) (bo::Sg::Vl) σ' w':=hst
    exact⟨hR.defers,v,hv,v,_,_,σ',_,rfl,Wo hR.S,ow.trans (GN hl1),⟨hst'.size,hst'.os,hst'.output,fun b hb ho=>hst'.far b hb (fun x=>ho (wB x)),hst'.near,fun b hb=>(hst'.own b (Sd hR.S hb)).imp wB id⟩,Wn hl1 hrep,q2⟩
  ·exact q2.elim
 cases e with
 |normal=>exact main hq
 |ret=>exact main hq
 |_=>exact hq.elim
def Eu(P:Program)(rs:List ResultVar)(post:V→Store→Prop)(s:St)(r:R):Prop:=r.1∧match s.st with
 |own::aN::Ω=>post (r.2.mg aN.length) ((aN++own.map (Obj.mg aN.length))::Ω)
 |_=>False
@[congr] theorem UZ {rs:List ResultVar} {post:V→Store→Prop} {s s':St} {r r':R} (h1:s=s') (h2:r=r'):Eu P rs post s r=Eu P rs post s' r':=by rw[h1,h2]
theorem OG{rs:List ResultVar}{post:V→Store→Prop}{tm:List (Nat×V)}{S:Store}:Et P rs post .ret ⟨tm,S⟩=Eu P rs post ⟨tm,S⟩ (kY P rs ⟨tm,S⟩):=rfl
theorem F7{rs:List ResultVar}{post:V→Store→Prop}{tm:List (Nat×V)}{S:Store}:Et P rs post .normal ⟨tm,S⟩=Eu P rs post ⟨tm,S⟩ (kY P rs ⟨tm,S⟩):=rfl
theorem QI{rs:List ResultVar}{post:V→Store→Prop}{tm:List (Nat×V)}{own aN:List Obj}{Ω:Store}{p:Prop}{v:V}:
 Eu P rs post ⟨tm,own::aN::Ω⟩ (p,v)=(p∧post (v.mg aN.length) ((aN++own.map (Obj.mg aN.length))::Ω)):=rfl
theorem LP{f:FuncId}{fn:Func}{c:Code}{args:List V}{aN:List Obj}{Ω:Store}{post:V→Store→Prop}{rs:List ResultVar}(gL:P.follows .mixedOrders=true)(hf:P.funcs[f]? =some fn)(hN:fn.ntmps=N)
 (hb:fn.body=some c) (hn:(fn.name== "runtime.NumGoroutine")=false) (hr:fn.results.toList=rs) (hl:Nat.ble args.length N=true) (hok:codeOk N c=true)
 (h:CW P N c (Et P rs post) ⟨jN (args.map (V.up 1)) 0,[]::aN::Ω⟩):bN P f args (aN::Ω) post:=by
 subst hN
 subst hr
 exact BA hf hb hn (Nat.le_of_ble_eq_true hl) (jf gL c _ _ hok h)
theorem mgK_0{n j:Nat}:sM n (0,j)=(0,n+j):=rfl
theorem mgK_1{n l j:Nat}:sM n (1+l,j)=(l,j):=by rw[Nat.add_comm];rfl
end
attribute [go_sem ↓] OG F7
attribute [go_sem] QI V.mg C.mg Obj.mg mgK_0 mgK_1
end Go.Ab
namespace Go.Proofs.YtcfhnaohbaplhaaGreatDoor
open Go Go.Ab Go.RowKit
theorem LQ:(Tryz.prog.info? 156).map (·.size)=some 2:=by kernel_rfl
theorem Si:liesAt Tryz.prog Tryz.prog.depth 156 (2/Tryz.prog.cellsOf 156) 0 156 1=true:=by kernel_rfl
theorem LU:(Tryz.prog.info? 5).map (fun i=>(i.zero,i.size,i.bytes))=some (some (.int .u8 0),1,1):=by kernel_rfl
set_option maxHeartbeats 1000000 in
theorem Ev(b:Nat)(w:World)(h0:w.cell? ⟨b,0,none⟩=some (.pointer (some ⟨b,0,none⟩))):
 Calls Tryz.prog 295 #[.pointer (some ⟨b,0,none⟩)] w fun e w'=>e=.returned (.tuple #[])∧w'=w:=by
 obtain⟨j,hj,_⟩:=Option.map_eq_some_iff.1 LQ
 go_enter Tryz.func295,Tryz.ntmps295
 go_wp2
 rw[Lib.run_neq_ptr_same w _ Tryz.underlying153 hj]
 go_wp2
 go_end0
 exact⟨rfl,rfl⟩
set_option maxHeartbeats 1000000 in
theorem Ce(b:Nat)(w:World)(h0:w.cell? ⟨b,0,none⟩=some (.pointer none))(hsh:w.shape? b=some (156,2))(hfz:w.frozen? ⟨b,0,none⟩=false):
 Calls Tryz.prog 295 #[.pointer (some ⟨b,0,none⟩)] w fun e w'=>e=.returned (.tuple #[])∧w'=w.setCell ⟨b,0,none⟩ (.pointer (some ⟨b,0,none⟩)):=by
 obtain⟨j,hj,hjs⟩:=Option.map_eq_some_iff.1 LQ
 go_enter Tryz.func295,Tryz.ntmps295
 go_wp2
 rw[Lib.run_to_unsafe w ⟨b,0,none⟩ Tryz.underlying153 Tryz.underlying363 hj (by rw[hjs];decide) hsh (Nat.zero_lt_succ 1)]
 simp only[Result.andThen]
 rw[Oper.upon_value]
 go_wp2
 rw[run_callFunc_extern Tryz.func350 (by kernel_rfl) (by kernel_rfl) (by kernel_rfl) (e:=Extern.AbiNoEscape.same) (by kernel_rfl)]
 rw[Lib.run_noEscape]
 simp only[Result.andThen]
 rw[Oper.upon_value]
 go_wp2
 rw[Lib.run_from_unsafe w ⟨b,0,none⟩ Tryz.underlying363 Tryz.underlying153 hj hsh Si]
 simp only[Result.andThen]
 rw[Oper.upon_value]
 go_wp2
 go_end0
 exact⟨rfl,rfl⟩
theorem GQ(B b:Nat)(bs:List Value)(w:World)(h:Lib.IsBuilderF 156 5 B b bs w):
 Calls Tryz.prog 295 #[.pointer (some ⟨b,0,none⟩)] w fun e w'=>e=.returned (.tuple #[])∧(Lib.BuilderAtF 156 5 B b (.pointer (some ⟨b,0,none⟩)) bs w'∧Below B w w'∧Lib.OthersKept 5 (some b) w w'):=by
 rcases h with h|h
 ·refine(Ce b w h.cell0 h.shape h.frozen0).mono ?_
  rintro e w' ⟨rfl,rfl⟩
  exact⟨rfl,h.used _,(Below.refl B w).setCell (p:=⟨b,0,none⟩) h.1 _,(Lib.OthersKept.refl _ _ w).setCell ⟨b,0,none⟩ rfl _⟩
 ·refine(Ev b w h.cell0).mono ?_
  rintro e w' ⟨rfl,rfl⟩
  exact⟨rfl,h,Below.refl B _,Lib.OthersKept.refl _ _ _⟩
set_option maxHeartbeats 2000000 in
theorem uo(B b:Nat)(bs:List Value)(c:Int)(w:World)(h:Lib.IsBuilderF 156 5 B b bs w)(hlen:bs.length+1≤140737488355328)(hBw:B≤w.heap.size):
 Calls Tryz.prog 211 #[.pointer (some ⟨b,0,none⟩),.int .u8 c] w fun e w'=>e=.returned .nilIface∧(Lib.BuilderAtF 156 5 B b (.pointer (some ⟨b,0,none⟩)) (bs++[.int .u8 c]) w'∧Below B w w'∧Lib.OthersKept 5 (some b) w w'):=by
 obtain⟨i0,hi,hz0,hz1,hz2⟩:=info_parts LU
 go_enter Tryz.func211,Tryz.ntmps211
 go_wp2_with (go_at_call 295;refine(GQ B b bs _ h).mono ?_)
 rintro e w1 ⟨rfl,⟨hB,v,hbk,hown,hne⟩,hb1,hk1⟩
 have c0:w1.cell? ⟨b,0,none⟩=some (.pointer (some ⟨b,0,none⟩)):=by rw[Lib.cell_of_heap hbk];rfl
 have c1:w1.cell? ⟨b,1,none⟩=some v:=by rw[Lib.cell_of_heap hbk];rfl
 go_wp2_with (at_builtin;refine wpList_append_ownF _ rfl _ _ 154 rfl B 5 i0 (.int .u8 0) 1 1 Tryz.underlying154 hi hz0 hz1 hz2 rfl (by decide) _ _ _ rfl (hown.alloc _) ⟨w1.heap.size,0,none⟩ 1 1 [.int .u8 c] rfl rfl ?c1 ?c2 ?c3 ?c4 ?c5 ?_)
 case c1=>
  intro j u hj
  match j,hj with
  |0,hj=>simp at hj;subst hj;simp[Addr.add]
 case c2=>intro u hu;simp at hu;subst hu;rfl
 case c3=>unfold maxLen;omega
 case c4=>omega
 case c5=>have:=hb1.size;simp;omega
 intro v' w2 hown' hgrow _
 have hlt:b<w1.heap.size:=by
  rcases Nat.lt_or_ge b w1.heap.size with h'|h'
  ·exact h'
  ·simp[Array.getElem?_eq_none h'] at hbk
 have hb2:w2.heap[b]? =some (.cells #[.pointer (some ⟨b,0,none⟩),v] 156 (0,0)):=by
  rw[hgrow.block b (by simp;omega) (fun e=>hne e.symm),Lib.alloc_old w1 _ b hlt]
  exact hbk
 have d0:w2.cell? ⟨b,0,none⟩=some (.pointer (some ⟨b,0,none⟩)):=by rw[Lib.cell_of_heap hb2];rfl
 have d1:w2.cell? ⟨b,1,none⟩=some v:=by rw[Lib.cell_of_heap hb2];rfl
 have f1:w2.frozen? ⟨b,1,none⟩=false:=Lib.frozen_of_heap hb2 1
 obtain⟨g,cap,rfl⟩:∃g cap,v'=.slice (some ⟨g,0,none⟩) (bs.length+1) cap:=by
  rcases hown'.2 with⟨_,h0⟩|⟨g,cap,cur,fz,hv,_⟩
  ·omega
  ·exact⟨g,cap,hv⟩
 go_wp2
 go_ret
 refine⟨rfl,?_,?_,((hk1.alloc _).grown hgrow (Lib.ownsRowF_kind (hown.alloc _))).setCell ⟨b,1,none⟩ rfl _⟩
 ·exact Lib.BuilderAtF.put (T:=156) (e:=5) hB hb2 (bs':=bs++[.int .u8 c]) (by simpa using hown') (by decide)
 ·exact((hb1.alloc (by have:=hb1.size;omega) _).grown hgrow (by have:=hb1.size;simp;omega) (fun k hk=>(hown.lt k hk).1)).setCell (p:=⟨b,1,none⟩) hB _
set_option maxHeartbeats 2000000 in
theorem Ew(B b:Nat)(bs:List Value)(s:ByteArray)(w:World)(h:Lib.IsBuilderF 156 5 B b bs w)(hlen:bs.length+s.size≤140737488355328)(hBw:B≤w.heap.size):
 Calls Tryz.prog 210 #[.pointer (some ⟨b,0,none⟩),.string s] w fun e w'=>e=.returned (.tuple #[.int .i64 s.size,.nilIface])∧(Lib.BuilderAtF 156 5 B b (.pointer (some ⟨b,0,none⟩)) (bs++Lib.strCells s) w'∧Below B w w'∧Lib.OthersKept 5 (some b) w w'):=by
 obtain⟨i0,hi,hz0,hz1,hz2⟩:=info_parts LU
 go_enter Tryz.func210,Tryz.ntmps210
 go_wp2_with (go_at_call 295;refine(GQ B b bs _ h).mono ?_)
 rintro e w1 ⟨rfl,⟨hB,v,hbk,hown,hne⟩,hb1,hk1⟩
 have c0:w1.cell? ⟨b,0,none⟩=some (.pointer (some ⟨b,0,none⟩)):=by rw[Lib.cell_of_heap hbk];rfl
 have c1:w1.cell? ⟨b,1,none⟩=some v:=by rw[Lib.cell_of_heap hbk];rfl
 go_wp2_with (at_builtin;refine Lib.wpList_append_own_stringF _ rfl _ _ 154 9 rfl B 5 i0 Tryz.underlying154 Tryz.underlying9 hi hz0 hz1 hz2 _ _ _ rfl hown s rfl ?c3 ?c4 ?c5 ?_)
 case c3=>unfold maxLen;omega
 case c4=>omega
 case c5=>have:=hb1.size;omega
 intro v' w2 hown' hgrow _
 have hlt:b<w1.heap.size:=by
  rcases Nat.lt_or_ge b w1.heap.size with h'|h'
  ·exact h'
  ·simp[Array.getElem?_eq_none h'] at hbk
 have hb2:w2.heap[b]? =some (.cells #[.pointer (some ⟨b,0,none⟩),v] 156 (0,0)):=by
  rw[hgrow.block b hlt (fun e=>hne e.symm)]
  exact hbk
 have d0:w2.cell? ⟨b,0,none⟩=some (.pointer (some ⟨b,0,none⟩)):=by rw[Lib.cell_of_heap hb2];rfl
 have d1:w2.cell? ⟨b,1,none⟩=some v:=by rw[Lib.cell_of_heap hb2];rfl
 have f1:w2.frozen? ⟨b,1,none⟩=false:=Lib.frozen_of_heap hb2 1
 obtain⟨ao,n',cap,rfl⟩:∃ao n' cap,v'=.slice ao n' cap:=by
  rcases hown'.2 with⟨hv,_⟩|⟨g,cap,cur,fz,hv,_⟩
  ·exact⟨_,_,_,hv⟩
  ·exact⟨_,_,_,hv⟩
 go_wp2
 go_ret2
 refine⟨rfl,?_,?_,(hk1.grown hgrow (Lib.ownsRowF_kind hown)).setCell ⟨b,1,none⟩ rfl _⟩
 ·exact Lib.BuilderAtF.put (T:=156) (e:=5) hB hb2 (bs':=bs++Lib.strCells s) (by simpa [Lib.strCells_length] using hown') (by decide)
 ·exact(hb1.grown hgrow (by have:=hb1.size;omega) (fun k hk=>(hown.lt k hk).1)).setCell (p:=⟨b,1,none⟩) hB _
set_option maxHeartbeats 2000000 in
theorem Js(B b:Nat)(l:List UInt8)(w:World)(h:Lib.IsBuilderF 156 5 B b (Lib.byteCells l) w)(h0:l≠[]):
 Calls Tryz.prog 120 #[.pointer (some ⟨b,0,none⟩)] w fun e w'=>e=.returned (.string ⟨l.toArray⟩)∧Below B w w':=by
 obtain⟨p,hA⟩:∃p,Lib.BuilderAtF 156 5 B b p (Lib.byteCells l) w:=h.elim (fun x=>⟨_,x⟩) (fun x=>⟨_,x⟩)
 obtain⟨hB,v,hbk,hown,-⟩:=hA
 have hl:l.length≠0:=by simpa using h0
 rw[Lib.byteCells_length] at hown
 have hcell:=fun g hg=>hown.cells (g:=g) hg
 obtain⟨-,⟨-,hz⟩|⟨g,cap,cur,fz,rfl,hbg,hg,-,hnc,hcm,hcs,-⟩⟩:=hown
 ·exact absurd hz hl
 have hg':w.drew.heap[g]? =some (.cells cur 5 fz):=hg
 have hb':w.drew.heap[b]? =some (.cells #[p,.slice (some ⟨g,0,none⟩) l.length cap] 156 (0,0)):=hbk
 have c1:w.drew.cell? ⟨b,1,none⟩=some (.slice (some ⟨g,0,none⟩) l.length cap):=by rw[Lib.cell_of_heap hb'];rfl
 have hSD:(Builtin.unsafeSliceData_ #[154] 252 #[.slice (some ⟨g,0,none⟩) l.length cap]).run Tryz.prog w.drew=.ok (.pointer (some ⟨g,0,none⟩)) w.drew:=
  Lib.run_unsafeSliceData_row _ _ _ _ _ _ (by omega)
 have hUS:(Builtin.unsafeString_ #[252,3] 9 #[.pointer (some ⟨g,0,none⟩),.int .i64 l.length]).run Tryz.prog w.drew=.ok (.string ⟨l.toArray⟩) (w.drew.freeze ⟨g,0,none⟩ l.length):=
  Lib.run_unsafeString_row w.drew 252 3 9 5 Tryz.underlying252 (by kernel_rfl) g cur.size (by simp[World.shape?,hg']) l h0 (by omega) (by unfold maxLen at hcm;omega) fun j x hx=>
   hcell g rfl j (.int .u8 x.toNat) (by simp[Lib.byteCells,hx])
 clear hcell hg' hb'
 go_enter Tryz.func120,Tryz.ntmps120
 go_wp2
 go_region
 all_goals (go_wp2;go_ret;exact⟨rfl,Lib.below_freeze (Below.drew (Below.refl B w)) (p:=⟨g,0,none⟩) hbg _⟩)
end Go.Proofs.YtcfhnaohbaplhaaGreatDoor
namespace Go.Ab
def aM(s:List UInt8):ah:=.mk s []
def lC(l:List ah):ah:=.mk [] l
def aK(l:List (List UInt8)):List ah:=l.map aM
def rA:ah:=.mk [] []
theorem uq(s:List UInt8):(aM s).bf=s:=rfl
theorem uw(s:List UInt8):(aM s).aH=[]:=rfl
theorem dP(l:List ah):(lC l).bf=[]:=rfl
theorem dQ(l:List ah):(lC l).aH=l:=rfl
def Jt:List UInt8:=[100,121,110]
def lU:List UInt8:=[97,115,115,111,99]
mutual
def dS:ak→ah
 | .mk k n zs=>if k=1 then aM ([39]++n) else if k=4 then lC [aM Jt,aM n] else if k=2∧zs.length=0 then aM n else
   lC ((if k=3 then [aM lU] else [])++[aM n]++xM zs)
def xM:List ak→List ah
 |[]=>[]
 |t::ts=>dS t::xM ts
end
theorem uy:∀l,xM l=l.map dS
 |[]=>rfl
 |t::ts=>by rw[xM,List.map_cons,uy ts]
theorem LV(x:ak):dS x=if x.aG=1 then aM ([39]++x.fName) else if x.aG=4 then lC [aM Jt,aM x.fName] else if x.aG=2∧x.fArgs.length=0 then aM x.fName else
 lC ((if x.aG=3 then [aM lU] else [])++[aM x.fName]++x.fArgs.map dS):=by
 cases x;rw[dS,uy];rfl
theorem Ey{t:ak}(h:ni t=true):formed t=true:=(lN h).1
theorem l7(x:ah):x.sz=x.bf.length+(x.aH.length+aP (x.aH.map ah.enc)):=by
 simp only[ah.sz,ah.aB,bB,D.sz,List.length_map];omega
def gV:List ah→Nat
 |[]=>0
 |x::xs=>x.sz+gV xs
theorem kE:∀l,aP (l.map ah.enc)=gV l
 |[]=>rfl
 |x::xs=>by rw[List.map_cons,aP,gV,kE xs];rfl
theorem kF:∀a b,gV (a++b)=gV a+gV b
 |[],b=>by simp[gV]
 |x::a,b=>by rw[List.cons_append,gV,gV,kF a b];omega
theorem wJ{x:ah}:∀{l:List ah},x∈l→x.sz≤gV l
 |y::l,h=>by
  rw[gV]
  rcases List.mem_cons.1 h with rfl|h
  ·omega
  ·have:=wJ h;omega
theorem jR(s:List UInt8):(aM s).sz=s.length:=by rw[l7];simp[aM,ah.bf,ah.aH,aP]
theorem wK(l:List ah):(lC l).sz=l.length+gV l:=by rw[l7,kE];simp[lC,ah.bf,ah.aH]
theorem BD:∀l:List (List UInt8),gV (aK l)=(l.map List.length).sum
 |[]=>rfl
 |s::l=>by rw[aK,List.map_cons,gV,jR,←aK,BD l,List.map_cons,List.sum_cons]
theorem iX(l:List (List UInt8)):(aK l).length=l.length:=by simp[aK]
theorem wY:∀l:List (List UInt8),aP (l.map encS)=(l.map List.length).sum
 |[]=>rfl
 |s::l=>by rw[List.map_cons,aP,wY l,List.map_cons,List.sum_cons];simp[encS,bB,D.sz]
def GR:List ak→Nat
 |[]=>0
 |x::xs=>x.sz+GR xs
theorem Ez:∀l,aP (l.map ak.enc)=GR l
 |[]=>rfl
 |x::xs=>by rw[List.map_cons,aP,GR,Ez xs];rfl
theorem OH(x:ak):x.sz=x.fName.length+(x.fArgs.length+GR x.fArgs):=by
 rw[←Ez];simp only[ak.sz,ak.aB,bB,D.sz,List.length_map];omega
mutual
theorem LW:∀x:ak,(dS x).sz≤12+16*x.sz
 | .mk k n zs=>by
   have h:=GU zs
   rw[OH]
   simp only[ak.fName,ak.fArgs]
   rw[dS]
   split
   ·rw[jR];simp;omega
   ·split
    ·rw[wK];simp[gV,jR,Jt];omega
    ·split
     ·rw[jR];omega
     ·rw[wK,kF,kF,List.length_append,List.length_append,uy,List.length_map,←uy]
      split<;>simp[gV,jR,lU]<;>omega
theorem GU:∀xs:List ak,gV (xM xs)≤12*xs.length+16*GR xs
 |[]=>by simp[xM,gV]
 |x::xs=>by
  have h1:=LW x
  have h2:=GU xs
  rw[xM,gV,GR,List.length_cons];omega
end
def fG(b:UInt8):Bool:=decide (97≤b.toNat∧b.toNat≤122)||decide (48≤b.toNat∧b.toNat≤57)||decide (b∈([39,45,43,42,60,61,46]:List UInt8))
def validAtom(s:List UInt8):Bool:=s.all fG&&decide (1≤s.length∧s.length≤12)
mutual
def jO:ah→Bool
 | .mk a l=>if a=[] then jS l else validAtom a&&decide (l.length=0)
def jS:List ah→Bool
 |[]=>true
 |x::xs=>jO x&&jS xs
end
mutual
def gP:ah→Nat
 | .mk a l=>if a=[] then iZ l+1 else 0
def iZ:List ah→Nat
 |[]=>0
 |x::xs=>max (gP x) (iZ xs)
end
mutual
def fU:ah→Nat
 | .mk _ l=>iL l+1
def iL:List ah→Nat
 |[]=>0
 |x::xs=>fU x+iL xs
end
theorem EA(x:ah):jO x=if x.bf=[] then jS x.aH else validAtom x.bf&&decide (x.aH.length=0):=by cases x;rw[jO];rfl
theorem BF(x:ah):gP x=if x.bf=[] then iZ x.aH+1 else 0:=by cases x;rw[gP];rfl
theorem EB(x:ah):fU x=iL x.aH+1:=by cases x;rw[fU];rfl
theorem zm:∀{l:List ah},(l.any fun t=> !jO t)= !jS l
 |[]=>rfl
 |t::ts=>by rw[List.any_cons,zm (l:=ts),jS];simp
mutual
theorem rT:∀x:ah,gP x≤fU x
 | .mk a l=>by
   have:=vG l
   rw[gP,fU];split<;>omega
theorem vG:∀l:List ah,iZ l≤iL l
 |[]=>by simp[iZ]
 |x::xs=>by
  have h1:=rT x
  have h2:=vG xs
  rw[iZ,iL];omega
end
mutual
theorem EC:∀x:ah,fU x≤x.sz+1
 | .mk a l=>by
   have:=BG l
   rw[l7,fU,kE];simp only[ah.bf,ah.aH];omega
theorem BG:∀l:List ah,iL l≤l.length+gV l
 |[]=>by simp[iL]
 |x::xs=>by
  have h1:=EC x
  have h2:=BG xs
  rw[iL,gV,List.length_cons];omega
end
def iy(x:ah):Bool:=jO x&&decide (gP x≤14∧fU x≤900)
mutual
theorem ED:∀x:ah,jO x=true→x.sz+1≤13*fU x
 | .mk a l=>fun h=>by
   rw[jO] at h
   rw[l7,fU,kE]
   simp only[ah.bf,ah.aH]
   split at h
   ·rename_i ha
    have:=BH l h
    subst ha
    simp only[List.length_nil];omega
   ·rw[Bool.and_eq_true,decide_eq_true_eq] at h
    have h1:=h.1
    unfold validAtom at h1
    rw[Bool.and_eq_true,decide_eq_true_eq] at h1
    have:l=[]:=List.eq_nil_of_length_eq_zero h.2
    subst this
    simp[gV];omega
theorem BH:∀l:List ah,jS l=true→l.length+gV l≤13*iL l
 |[],_=>by simp[gV]
 |x::xs,h=>by
  rw[jS,Bool.and_eq_true] at h
  have h1:=ED x h.1
  have h2:=BH xs h.2
  rw[gV,iL,List.length_cons];omega
end
theorem LX{x:ah}(h:iy x=true):x.sz≤11700:=by
 unfold iy at h
 rw[Bool.and_eq_true,decide_eq_true_eq] at h
 have:=ED x h.1
 omega
def BI(x:ah):ah:=if iy x=true then x else rA
def xO:Bool→ah→ah
 |true,x=>BI x
 |false,_=>rA
theorem Sj(x:ah):(BI x).sz≤11700:=by
 unfold BI
 split
 ·rename_i h;exact LX h
 ·rw[l7];simp[rA,ah.bf,ah.aH,aP]
theorem QJ(b:Bool)(x:ah):(xO b x).sz≤11700:=by
 cases b with
 |true=>exact Sj x
 |false=>rw[xO,l7];simp[rA,ah.bf,ah.aH,aP]
end Go.Ab
namespace Go.Ab
def dG(by':List UInt8):List (List UInt8)→List UInt8
 |[]=>[]
 |x::xs=>x++(xs.map fun y=>by'++y).flatten
theorem Ju(b:List UInt8)(l:List (List UInt8))(x:List UInt8):dG b (l++[x])=if l=[] then x else dG b l++b++x:=by
 cases l with
 |nil=>simp[dG]
 |cons y l=>simp[dG,List.append_assoc]
mutual
def dB:ah→List UInt8
 | .mk a l=>if a=[] then [40]++dG [32] (pI l)++[41] else a
def pI:List ah→List (List UInt8)
 |[]=>[]
 |x::xs=>dB x::pI xs
end
theorem uz:∀l,pI l=l.map dB
 |[]=>rfl
 |x::xs=>by rw[pI,List.map_cons,uz xs]
theorem EF(x:ah):dB x=if x.bf=[] then [40]++dG [32] (x.aH.map dB)++[41] else x.bf:=by cases x;rw[dB,uz];rfl
theorem uD(b:List UInt8)(l:List (List UInt8))(i:Nat)(hi:i<l.length):dG b (l.take (i+1))=if i=0 then l[i] else dG b (l.take i)++b++l[i]:=by
 rw[List.take_succ_eq_append_getElem hi,Ju]
 by_cases h:i=0
 ·rw[if_pos h,if_pos (by rw[h];rfl)]
 ·rw[if_neg h,if_neg (fun e=>h (by have:=congrArg List.length e;rw[List.length_take,List.length_nil] at this;omega))]
theorem OI(b:List UInt8)(hb:b.length=1):∀l:List (List UInt8),l.length≤(dG b l).length+1
 |[]=>by simp
 |x::xs=>by
  have h:∀ys:List (List UInt8),ys.length≤((ys.map fun y=>b++y).flatten).length:=by
   intro ys
   induction ys with
   |nil=>simp
   |cons y ys ih=>rw[List.map_cons,List.flatten_cons,List.length_append,List.length_append,List.length_cons];omega
  have:=h xs
  rw[dG,List.length_append,List.length_cons];omega
theorem zn(b:List UInt8)(l:List (List UInt8))(i:Nat):(dG b (l.take i)).length≤(dG b l).length:=by
 by_cases hi:i<l.length
 ·have:∀k,i+k≤l.length→(dG b (l.take i)).length≤(dG b (l.take (i+k))).length:=by
   intro k
   induction k with
   |zero=>intro _;exact Nat.le_refl _
   |succ k ih=>
    intro hk
    have h1:=ih (by omega)
    rw[←Nat.add_assoc,uD b l (i+k) (by omega)]
    split
    ·rename_i h0
     have:i=0:=by omega
     subst this
     simp[dG]
    ·simp only[List.length_append];omega
  have:=this (l.length-i) (by omega)
  rwa [show i+(l.length-i)=l.length by omega,List.take_length] at this
 ·rw[List.take_of_length_le (by omega)]
  exact Nat.le_refl _
theorem LY(b:List UInt8):∀l:List (List UInt8),(dG b l).length≤(l.map fun x=>b.length+x.length).sum
 |[]=>by simp[dG]
 |x::xs=>by
  have h:∀ys:List (List UInt8),((ys.map fun y=>b++y).flatten).length=(ys.map fun x=>b.length+x.length).sum:=by
   intro ys
   induction ys with
   |nil=>rfl
   |cons y ys ih=>rw[List.map_cons,List.flatten_cons,List.length_append,List.length_append,ih,List.map_cons,List.sum_cons]
  rw[dG,List.length_append,h,List.map_cons,List.sum_cons];omega
mutual
theorem vH:∀x:ah,(dB x).length≤2+3*x.sz
 | .mk a l=>by
   have h:=zo l
   rw[l7,kE]
   simp only[ah.bf,ah.aH]
   rw[dB]
   split
   ·have:=LY [32] (pI l)
    simp only[List.length_append,List.length_cons,List.length_nil] at this ⊢
    omega
   ·omega
theorem zo:∀l:List ah,((pI l).map fun x=>0+1+x.length).sum≤3*l.length+3*gV l
 |[]=>by simp[pI]
 |x::xs=>by
  have h1:=vH x
  have h2:=zo xs
  rw[pI,List.map_cons,List.sum_cons,gV,List.length_cons];omega
end
def jE(l:List UInt8):List (List D):=l.map fun b=>[D.i .u8 b.toNat]
theorem uR(a b:List UInt8):jE (a++b)=jE a++jE b:=by unfold jE;rw[List.map_append]
theorem uS(a:List UInt8):(jE a).length=a.length:=by unfold jE;rw[List.length_map]
theorem F8(a:List UInt8):(jE a).map yc=a:=by
 unfold jE
 rw[List.map_map]
 conv=>rhs;rw[←List.map_id a]
 refine List.map_congr_left fun b _=> ?_
 show UInt8.ofNat ((b.toNat:Int)).toNat=b
 rw[Int.toNat_natCast,UInt8.ofNat_toNat]
theorem Jv(a:List UInt8):∀y∈jE a,y=[.i .u8 (tu y)]:=fun y hy=>by
 obtain⟨b,_,rfl⟩:=List.mem_map.1 hy
 rfl
def pV(x:ah):List UInt8:=if iy x=true then dB x else []
def oH(x:ah):List UInt8:=if x.bf=[]∧x.aH.length=0 then [] else pV x
theorem EG(x:ah):(x.bf=[]∧x.aH.length=0)↔x=rA:=by
 refine⟨fun⟨h1,h2⟩=>ah.ext h1 (List.eq_nil_of_length_eq_zero h2),fun h=>by rw[h];exact⟨rfl,rfl⟩⟩
theorem LZ{x:ah}(h:x=rA):oH x=[]:=by
 unfold oH
 rw[if_pos ((EG _).2 h)]
theorem L6{x:ah}(h:¬x=rA):oH x=pV x:=by
 unfold oH
 rw[if_neg (fun e=>h ((EG _).1 e))]
theorem Sk{x:ah}(h:¬x.bf=[]):oH x=pV x:=by
 unfold oH
 rw[if_neg (fun e=>h e.1)]
theorem Sl{x:ah}(h:¬x.aH.length=0):oH x=pV x:=by
 unfold oH
 rw[if_neg (fun e=>h e.2)]
theorem Sm{x:ah}(h:x.bf=[])(h':x.aH.length=0):oH x=[]:=by
 unfold oH
 rw[if_pos ⟨h,h'⟩]
end Go.Ab
namespace Go.Ab
theorem Sn{w:World}{σ:Nat→Nat}{xs:List ah}{lv:Value}(h:bq w σ (.sl (xs.map ah.enc)) lv):∃a cap,lv=.slice a xs.length cap∧∀i (hi:i<xs.length),∃k off,a=some ⟨k,off,none⟩∧∃c t fz u,
 w.heap[k]? =some (.cells c t fz)∧c[off+i*2]? =some (.string ⟨xs[i].bf.toArray⟩)∧c[off+(i*2+1)]? =some u∧bq w σ (.sl (xs[i].aH.map ah.enc)) u:=by
 generalize he:xs.map ah.enc=es at h
 have hl:es.length=xs.length:=by rw[←he,List.length_map]
 cases h with
 |nil a cap=>
  have h0:xs.length=0:=hl.symm
  exact⟨a,cap,by rw[h0],fun i hi=>absurd hi (by omega)⟩
 |sl k off cap aC es vals c t fz hcap hlen hb hσ hc hv=>
  refine⟨_,cap,by rw[hl],fun i hi=>⟨k,off,rfl,c,t,fz,?_⟩⟩
  have e1:es[i]'(by omega)=[.s xs[i].bf,.sl (xs[i].aH.map ah.enc)]:=by
   subst he
   rw[List.getElem_map,ah.aB]
   first|rfl|done
  have hz:aC=2:=by
   have:=hlen _ (List.getElem_mem (l:=es) (n:=i) (by omega))
   rw[e1] at this
   exact this.symm
  subst hz
  have hf:∀o (ho:o<2),es.flatten[i*2+o]? =(es[i]'(by omega))[o]? :=fun o ho=>flat_get es 2 hlen i o (by omega) ho
  have h0:=hv (i*2+0) (.s xs[i].bf) (by rw[hf 0 (by omega),e1];rfl)
  have h1:=hv (i*2+1) (.sl (xs[i].aH.map ah.enc)) (by rw[hf 1 (by omega),e1];rfl)
  refine⟨vals (i*2+1),hb,?_,hc _ (by omega),h1⟩
  have:=hc (i*2+0) (by omega)
  generalize vals (i*2+0)=v0 at h0 this
  cases h0
  exact this
theorem Sq{w:World}{σ:Nat→Nat}{es:List (List D)}{u:Value}(h:bq w σ (.sl es) u):∃a n c,u=.slice a n c:=by
 cases h with
 |nil a c=>exact⟨_,_,_,rfl⟩
 |sl=>exact⟨_,_,_,rfl⟩
end Go.Ab
namespace Go.Proofs.YtcfhnaohbaplhaaGreatDoor
open Go Go.Ab Go.RowKit
set_option maxHeartbeats 2000000 in
theorem zq(w0:World)(σ:Nat→Nat):∀(n:Nat) (x:ah),x.sz<n→∀(b:Nat) (bs:List Value) (w:World) (lv:Value),bq w0 σ (.sl (x.aH.map ah.enc)) lv→Below w0.heap.size w0 w→
 Lib.IsBuilderF 156 5 w0.heap.size b bs w→bs.length+(dB x).length≤140737488355328→
 Calls Tryz.prog 119 #[.pointer (some ⟨b,0,none⟩),.agg #[.string ⟨x.bf.toArray⟩,lv]] w fun e w'=>e=.returned (.tuple #[])∧Lib.IsBuilderF 156 5 w0.heap.size b (bs++Lib.byteCells (dB x)) w'∧Below w0.heap.size w w'∧Lib.OthersKept 5 (some b) w w'
 |0=>fun x h=>by omega
 |n+1=>fun x hx b bs w lv hr hbw h hlen=>by
  obtain⟨B,hB⟩:∃B,B=w0.heap.size:=⟨_,rfl⟩
  have hBw:B≤w.heap.size:=by rw[hB];exact hbw.size
  rw[←hB] at hbw h ⊢
  cases x with|mk s xs=> ?_
  simp only[ah.bf,ah.aH] at *
  have ih:=zq w0 σ n
  rw[←hB] at ih
  have HB:Aside (B=w0.heap.size):=hB
  clear hB
  by_cases ha:s=[]
  ·subst ha
   have ht:dB (.mk [] xs)=[40]++dG [32] (xs.map dB)++[41]:=by rw[dB,if_pos rfl,uz]
   rw[ht] at hlen ⊢
   have hx:∀i (hi:i<xs.length),xs[i].sz<n:=fun i hi=>by
    have h1:=wJ (List.getElem_mem hi)
    rw[l7,kE] at hx
    simp only[ah.bf,ah.aH,List.length_nil] at hx
    omega
   simp only[List.length_append,List.length_cons,List.length_nil] at hlen
   have hj:=OI [32] rfl (xs.map dB)
   rw[List.length_map] at hj
   obtain⟨ad,cap,rfl,hrow⟩:=Sn hr
   clear hr
   obtain⟨T,hT⟩:∃T,T=[40]++dG [32] (xs.map dB)++[41]:=⟨_,rfl⟩
   rw[←hT]
   have HT:Aside (T=[40]++dG [32] (xs.map dB)++[41]):=hT
   clear hT ht
   go_enter Tryz.func119,Tryz.ntmps119
   go_wp2_with (go_at_call 211;refine(uo B b bs 40 _ (h.alloc _) ?_ ?_).mono ?_)
   ·omega
   ·simp;omega
   rintro e w1 ⟨rfl,h1,hb1,hk1⟩
   have hbne:w.heap.size≠b:=fun e=>by
    have:b<w.heap.size:=h.elim (fun z=>z.lt) (fun z=>z.lt)
    omega
   have c1:w1.cell? ⟨w.heap.size,1,none⟩=some (.slice ad xs.length cap):=by
    have:=hk1 w.heap.size _ (heap_alloc_new w _) (fun z=>hbne (Option.some.inj z)) (fun c fz z=>by cases z)
    rw[Lib.cell_of_heap this];rfl
   have hb1':Below B w w1:=((Below.refl B w).alloc hBw _).trans hb1
   have Wp:Lib.OthersKept 5 (some b) w w1:=((Lib.OthersKept.refl _ _ w).alloc _).trans hk1
   clear hb1 hk1
   go_wp2
   go_loopg [18] xs.length (fun g v wx=>∃i:Nat,i+g=xs.length∧v=.int .i64 i∧Lib.IsBuilderF 156 5 B b (bs++Lib.byteCells ([40]++dG [32] ((xs.map dB).take i))) wx∧Below B w wx∧Lib.OthersKept 5 (some b) w wx)
   case atStart=>exact⟨0,by omega,rfl,.inr (by simpa [Lib.byteCells,dG] using h1),hb1',Wp⟩
   case round=>
    obtain⟨i,hi,rfl,hbd,hbx,hkx⟩:=hrel
    cases gk with
    |zero=>
     obtain rfl:i=xs.length:=by omega
     rw[List.take_of_length_le (by simp)] at hbd
     go_wp2_with (go_at_call 211;refine(uo B b _ 41 _ hbd ?_ ?_).mono ?_)
     ·simp only[List.length_append,Lib.byteCells_length,List.length_cons,List.length_nil];omega
     ·exact Nat.le_trans hBw hbx.size
     rintro e w2 ⟨rfl,h2,hb2,hk2⟩
     go_wp2
     go_end0
     rw[HT.out]
     refine⟨rfl,.inr ?_,hbx.trans hb2,hkx.trans hk2⟩
     rw[Lib.byteCells_append,←List.append_assoc]
     exact h2
    |succ g=>
     have hil:i<xs.length:=by omega
     have hx:=hx i hil
     obtain⟨k,off,rfl,c,t,fz,u,hk,hc0,hc1,CS⟩:=hrow i hil
     obtain⟨ua,un,uc,rfl⟩:=Sq CS
     clear hrow
     have hkB:k<B:=by
      rw[HB.out]
      exact(Array.getElem?_eq_some_iff.1 hk).1
     have hkr:wr.heap[k]? =some (.cells c t fz):=by rw[(hbw.trans hbx).block k hkB];exact hk
     have d0:wr.cell? ⟨k,off+i*2,none⟩=some (.string ⟨xs[i].bf.toArray⟩):=by rw[Lib.cell_of_heap hkr];exact hc0
     have d1:wr.cell? ⟨k,off+i*2+1,none⟩=some (.slice ua un uc):=by rw[Lib.cell_of_heap hkr];exact hc1
     have htk:(dG [32] ((xs.map dB).take (i+1))).length≤(dG [32] (xs.map dB)).length:=zn _ _ _
     have hst:=uD [32] (xs.map dB) i (by simpa using hil)
     by_cases hi0:i=0
     ·rw[if_pos hi0,List.getElem_map] at hst
      rw[hst] at htk
      have HST:Aside (dG [32] ((xs.map dB).take (i+1))=dB xs[i]):=hst
      have HI:Aside (i=0):=hi0
      have Xt:¬(0:Int)<(i:Int):=by omega
      clear hst hi0
      have hc:=ih xs[i] hx b _ (wr.alloc (.cells #[.string ⟨xs[i].bf.toArray⟩,.slice ua un uc] 78)) _ CS (hbw.trans (hbx.trans ((Below.refl B wr).alloc (Nat.le_trans hBw hbx.size) _))) (hbd.alloc _) (by
       simp only[List.length_append,Lib.byteCells_length,List.length_cons,List.length_nil]
       have hz:dG [32] ((xs.map dB).take i)=[]:=by rw[HI.out];rfl
       rw[hz,List.length_nil];omega)
      go_wp2_with (go_at_call 119;refine hc.mono ?_;rintro e w2 ⟨rfl,h2,hb2,hk2⟩)
      go_roundg g
      case measure=>omega
      case rel=>
       refine⟨i+1,by omega,rfl,?_,hbx.trans (((Below.refl B wr).alloc (Nat.le_trans hBw hbx.size) _).trans hb2),hkx.trans (((Lib.OthersKept.refl _ _ wr).alloc _).trans hk2)⟩
       rw[HST.out]
       have hz:dG [32] ((xs.map dB).take i)=[]:=by rw[HI.out];rfl
       rw[hz,List.append_nil,List.append_assoc,←Lib.byteCells_append] at h2
       exact h2
     ·rw[if_neg hi0,List.getElem_map] at hst
      rw[hst] at htk
      have HST:Aside (dG [32] ((xs.map dB).take (i+1))=dG [32] ((xs.map dB).take i)++[32]++dB xs[i]):=hst
      have hpg:(0:Int)<(i:Int):=by omega
      clear hst
      simp only[List.length_append,List.length_cons,List.length_nil] at htk
      go_wp2_with (go_at_call 211;refine(uo B b _ 32 _ (hbd.alloc _) ?_ ?_).mono ?_)
      ·simp only[List.length_append,Lib.byteCells_length,List.length_cons,List.length_nil];omega
      ·exact Nat.le_trans (Nat.le_trans hBw hbx.size) (by simp)
      rintro e w2 ⟨rfl,h2,hb2,hk2⟩
      have hwr:b<wr.heap.size:=hbd.elim (fun z=>z.lt) (fun z=>z.lt)
      have hq:w2.heap[wr.heap.size]? =_:=hk2 wr.heap.size _ (heap_alloc_new wr _) (fun z=>by have:=Option.some.inj z;omega) (fun c fz z=>by cases z)
      have q0:w2.cell? ⟨wr.heap.size,0,none⟩=some (.string ⟨xs[i].bf.toArray⟩):=by rw[Lib.cell_of_heap hq];rfl
      have q1:w2.cell? ⟨wr.heap.size,1,none⟩=some (.slice ua un uc):=by rw[Lib.cell_of_heap hq];rfl
      have hb2':Below B wr w2:=((Below.refl B wr).alloc (Nat.le_trans hBw hbx.size) _).trans hb2
      have Wq:Lib.OthersKept 5 (some b) wr w2:=((Lib.OthersKept.refl _ _ wr).alloc _).trans hk2
      have hc:=ih xs[i] hx b _ w2 _ CS (hbw.trans (hbx.trans hb2')) (.inr h2) (by
       simp only[List.length_append,Lib.byteCells_length,List.length_cons,List.length_nil];omega)
      clear hq hb2 hk2
      go_wp2_with (go_at_call 119;refine hc.mono ?_;rintro e w3 ⟨rfl,h3,hb3,hk3⟩)
      go_roundg g
      case measure=>omega
      case rel=>
       refine⟨i+1,by omega,rfl,?_,hbx.trans (hb2'.trans hb3),hkx.trans (Wq.trans hk3)⟩
       rw[HST.out]
       simpa [Lib.byteCells,List.append_assoc] using h3
  ·have ht:dB (.mk s xs)=s:=by rw[dB,if_neg ha]
   rw[ht] at hlen ⊢
   clear ht hx
   go_enter Tryz.func119,Tryz.ntmps119
   have hm:s.isEmpty=false:=by simpa using ha
   go_wp2_with (go_at_call 210;refine(Ew B b bs _ _ (h.alloc _) ?_ ?_).mono ?_)
   ·exact hlen
   ·simp;omega
   ·rintro e w1 ⟨rfl,h1,hb1,hk1⟩
    go_wp2
    refine bodyPost_ret (results_none rfl _ _ _) rfl ?_
    rw[Lib.strCells_eq] at h1
    exact⟨rfl,.inr h1,((Below.refl B w).alloc hBw _).trans hb1,((Lib.OthersKept.refl _ _ w).alloc _).trans hk1⟩
end Go.Proofs.YtcfhnaohbaplhaaGreatDoor
namespace Go.Proofs.YtcfhnaohbaplhaaGreatDoor
open Go Go.Ab
theorem zu:∀n:Nat,(∀x:ak,SizeOf.sizeOf x<n→∀left:Int,0≤left→left≤1048576→ku x.enc→aA Tryz.prog 38 [x.v,.c (.d (.i .i64 left))] (.c (.d (.i .i64 (cO left x.sz)))))∧
 (∀xs:List ak,SizeOf.sizeOf xs<n→∀left:Int,0≤left→left≤1048576→(D.sl (xs.map ak.enc)).Fit→aA Tryz.prog 107 [.c (.d (.sl (xs.map ak.enc))),.c (.d (.i .i64 left))] (.c (.d (.i .i64 (cO left (xs.length+aP (xs.map ak.enc)))))))
 |0=>⟨fun x h=>by omega,fun x h=>by omega⟩
 |n+1=>by
  obtain⟨vI,sN⟩:=zu n
  refine⟨fun x hn left h0 h1 hf S=> ?_,fun xs hn left h0 h1 hf S=> ?_⟩
  ·have iR:=ak.eH x
   simp only[ak.aB,List.cons_append,List.nil_append,lM,oO,qI,and_true] at hf
   obtain⟨aG,fName,fArgs⟩:=hf
   have hz:x.sz=x.fName.length+((x.fArgs.length+aP (x.fArgs.map ak.enc))):=by
    simp only[ak.sz,ak.aB,bB,bU,D.sz,List.length_map,Nat.add_zero,Nat.zero_add]<;>omega
   refine au (rs:=[.tmp 4]) Tryz.checked.mixed Tryz.func38 Tryz.ntmps38 rfl rfl rfl rfl rfl ?_
   rw[hz]
   have U0:=yX fName
   refine W1 ?_
   refine S0 (fun hb h=>?_) fun hb h=>?_
   ·exact int_eq (eB (by omega)).symm
   refine C1 (sN x.fArgs (by omega) _ (by omega) (by omega) fArgs) ?_
   refine S0 (fun hb h=>?_) fun hb h=>?_
   ·have h':=iC h
    exact int_eq (eB (by omega)).symm
   have Jw:=iQ h
   simp only[Jw.1]
   refine int_eq ?_
   rw[kC (by omega)]
   omega
  ·obtain⟨hf1,hf2⟩:=yY hf
   rw[List.length_map] at hf1
   refine au (rs:=[.tmp 4]) Tryz.checked.mixed Tryz.func107 Tryz.ntmps107 rfl rfl rfl rfl rfl ?_
   refine W1 ?_
   refine S0 (fun hb h=>?_) fun hb h=>?_
   ·exact int_eq (eB (by omega)).symm
   refine aT (ι:=Nat×Int) Tryz.checked.mixed rfl [0,1,5] (fun y=>[.c (.d (.sl (xs.map ak.enc))),.c (.d (.i .i64 y.2)),.c (.d (.i .i64 y.1))]) (fun _=>[]::S)
    (fun y=>y.1≤xs.length∧0≤y.2∧y.2≤1048576∧cO y.2 (aP ((xs.map ak.enc).drop y.1))=cO left (xs.length+aP (xs.map ak.enc))) (fun y=>xs.length-y.1) (0,left-xs.length) rfl rfl ⟨by omega,by omega,by omega,?_⟩ ?_
   ·unfold cO
    rw[List.drop_zero]
    split<;>split<;>omega
   rintro⟨i,l⟩ ⟨p1,p2,p3,p4⟩
   simp only at p1 p2 p3 p4
   refine W1 ?_
   refine S0 (fun hb h=>?_) fun hb h=>?_
   ·have hi:i<xs.length:=by omega
    rw[List.drop_eq_getElem_cons (by rw[List.length_map];exact hi),aP,List.getElem_map,ak.dK] at p4
    refine W3 ?_
    refine C1 (vI xs[i] (by have:=List.sizeOf_lt_of_mem (List.getElem_mem hi);omega) _ (by omega) (by omega) (hf2 _ (List.mem_map_of_mem (List.getElem_mem hi)))) ?_
    refine S0 (fun hb h=>?_) fun hb h=>?_
    ·have h':=iC h
     rw[←p4,eB (by omega)]
    ·have h':=iQ h
     refine bG (i+1,cO l _) (by simp only;omega) rfl rfl ⟨by simp only;omega,by simp only;omega,by simp only;omega,?_⟩
     simp only
     rw[←p4,h'.1]
     unfold cO
     split<;>split<;>omega
   ·have hi:i=xs.length:=by omega
    rw[hi,List.drop_of_length_le (by simp),aP,kC (by omega)] at p4
    rw[←p4]
    refine int_eq ?_
    omega
theorem L8(x:ak):∀left:Int,0≤left→left≤1048576→ku x.enc→aA Tryz.prog 38 [x.v,.c (.d (.i .i64 left))] (.c (.d (.i .i64 (cO left x.sz)))):=(zu _).1 x (Nat.lt_succ_self _)
theorem zw:∀n:Nat,(∀x:ak,SizeOf.sizeOf x<n→x.sz≤1048576→aA Tryz.prog 43 [x.v] x.v)∧
 (∀xs:List ak,SizeOf.sizeOf xs<n→xs.length+aP (xs.map ak.enc)≤1048576→aA Tryz.prog 112 [.c (.d (.sl (xs.map ak.enc)))] (.c (.d (.sl (xs.map ak.enc)))))
 |0=>⟨fun x h=>by omega,fun x h=>by omega⟩
 |n+1=>by
  obtain⟨vI,sN⟩:=zw n
  refine⟨fun x hn hsz S=> ?_,fun xs hn hsz S=> ?_⟩
  ·have iR:=ak.eH x
   simp only[ak.sz,ak.aB,bB,bU,D.sz,List.length_map] at hsz
   refine au (rs:=[.cell 2 33]) Tryz.checked.mixed Tryz.func43 Tryz.ntmps43 rfl rfl rfl rfl rfl ?_
   refine W1 ?_
   exact C3 (sN x.fArgs (by omega) (by omega))
  ·refine au (rs:=[.tmp 2]) Tryz.checked.mixed Tryz.func112 Tryz.ntmps112 rfl rfl rfl rfl rfl ?_
   refine W1 ?_
   refine W3 ?_
   refine aT (ι:=Nat×List (List D)) Tryz.checked.mixed rfl [0,3,4] (fun y=>[.c (.d (.sl (xs.map ak.enc))),.c (.gI (0,0)),.c (.d (.i .i64 y.1))]) (fun y=>[.dw 3 y.2]::S)
    (fun y=>y.1≤xs.length∧jg 3 y.1 y.2 (xs.map ak.enc)) (fun y=>xs.length-y.1) (0,_) rfl rfl ⟨Nat.zero_le _,jg.start (by simp) rfl⟩ ?_
   rintro⟨i,R⟩ ⟨p1,p2⟩
   simp only at p1 p2
   refine W1 ?_
   refine S0 (fun hb h=>?_) fun hb h=>?_
   ·have hi:i<xs.length:=by omega
    have hx:xs[i].sz≤aP (xs.map ak.enc):=dX (List.mem_map_of_mem (List.getElem_mem hi))
    refine W3 ?_
    refine C1 (vI xs[i] (by have:=List.sizeOf_lt_of_mem (List.getElem_mem hi);omega) (by omega)) ?_
    have hR:=p2.1
    rw[List.length_map] at hR
    refine W3 ?_
    refine bG (i+1,_) (by simp only;omega) rfl rfl ⟨by simp only;omega,p2.step (by simp[hi,ak.aB]) rfl⟩
   ·have hi:i=xs.length:=by omega
    rw[p2.done (by rw[List.length_map];omega)]
theorem L9(x:ak):x.sz≤1048576→aA Tryz.prog 43 [x.v] x.v:=(zw _).1 x (Nat.lt_succ_self _)
theorem zx:∀n:Nat,(∀x:ak,SizeOf.sizeOf x<n→∀y:ak,x.sz≤1048576→aA Tryz.prog 49 [x.v,y.v] (.c (.d (.b (dec (x=y))))))∧
 (∀xs:List ak,SizeOf.sizeOf xs<n→∀ys:List ak,xs.length+aP (xs.map ak.enc)≤1048576→aA Tryz.prog 121 [.c (.d (.sl (xs.map ak.enc))),.c (.d (.sl (ys.map ak.enc)))] (.c (.d (.b (dec (xs=ys))))))
 |0=>⟨fun x h=>by omega,fun x h=>by omega⟩
 |n+1=>by
  obtain⟨vI,sN⟩:=zx n
  refine⟨fun x hn y hsz S=> ?_,fun xs hn ys hsz S=> ?_⟩
  ·have iR:=ak.eH x
   simp only[ak.sz,ak.aB,bB,bU,D.sz,List.length_map] at hsz
   refine au (rs:=[.tmp 4]) Tryz.checked.mixed Tryz.func49 Tryz.ntmps49 rfl rfl rfl rfl rfl ?_
   refine W1 ?_
   refine S0 (fun hb h=>?_) fun hb h=>?_
   ·exact aF (aL (fun e=>h (by rw[e]))).symm
   have Jy:=h
   clear h
   refine S0 (fun hb h=>?_) fun hb h=>?_
   ·exact aF (aL (fun e=>h (by rw[e]))).symm
   have Jz:=h
   clear h
   refine C1 (sN x.fArgs (by omega) _ (by omega)) ?_
   refine S0 (fun hb h=>?_) fun hb h=>?_
   ·exact aF (aL (fun e=>h (by rw[e]))).symm
   have eArgs:=h
   clear h
   exact aF (bR (ak.ext Jy Jz eArgs)).symm
  ·refine au (rs:=[.tmp 4]) Tryz.checked.mixed Tryz.func121 Tryz.ntmps121 rfl rfl rfl rfl rfl ?_
   refine W1 ?_
   refine S0 (fun hb h=>?_) fun hb h=>?_
   ·exact aF (aL (fun e=>h (by rw[e]))).symm
   have hl:xs.length=ys.length:=by omega
   refine aT (ι:=Nat) Tryz.checked.mixed rfl [0,1,5] (fun y=>[.c (.d (.sl (xs.map ak.enc))),.c (.d (.sl (ys.map ak.enc))),.c (.d (.i .i64 y))]) (fun y=>[]::S)
    (fun i=>i≤xs.length∧∀j,j<i→xs[j]? =ys[j]?) (fun y=>xs.length-y) 0 rfl rfl ⟨Nat.zero_le _,fun j h=>by omega⟩ ?_
   rintro i ⟨p1,p2⟩
   refine W1 ?_
   refine S0 (fun hb h=>?_) fun hb h=>?_
   ·have hi:i<xs.length:=by omega
    have hi':i<ys.length:=by omega
    have hx:xs[i].sz≤aP (xs.map ak.enc):=dX (List.mem_map_of_mem (List.getElem_mem hi))
    refine W3 ?_
    refine C1 (vI xs[i] (by have:=List.sizeOf_lt_of_mem (List.getElem_mem hi);omega) ys[i] (by omega)) ?_
    refine S0 (fun hb h=>?_) fun hb h=>?_
    ·exact aF (aL (fun e=>h (by simp only[e]))).symm
    refine bG (i+1) (by omega) rfl rfl ⟨by omega,fun j hj=> ?_⟩
    by_cases e:j=i
    ·subst e
     rw[List.getElem?_eq_getElem hi,List.getElem?_eq_getElem hi',h]
    ·exact p2 j (by omega)
   ·have hi:i=xs.length:=by omega
    refine aF (bR (List.ext_getElem? fun j=> ?_)).symm
    by_cases hj:j<i
    ·exact p2 j hj
    ·rw[List.getElem?_eq_none (by omega),List.getElem?_eq_none (by omega)]
theorem Ma(x:ak):∀y:ak,x.sz≤1048576→aA Tryz.prog 49 [x.v,y.v] (.c (.d (.b (dec (x=y))))):=(zx _).1 x (Nat.lt_succ_self _)
end Go.Proofs.YtcfhnaohbaplhaaGreatDoor
namespace Go.Proofs.YtcfhnaohbaplhaaGreatDoor
open Go Go.Ab
end Go.Proofs.YtcfhnaohbaplhaaGreatDoor
namespace Go.Proofs.YtcfhnaohbaplhaaGreatDoor
open Go Go.Ab
end Go.Proofs.YtcfhnaohbaplhaaGreatDoor
namespace Go.Proofs.YtcfhnaohbaplhaaGreatDoor
open Go Go.Ab
theorem zy:∀n:Nat,(∀x:aj,SizeOf.sizeOf x<n→∀left:Int,0≤left→left≤1048576→ku x.enc→aA Tryz.prog 9 [x.v,.c (.d (.i .i64 left))] (.c (.d (.i .i64 (cO left x.sz)))))∧
 (∀xs:List aj,SizeOf.sizeOf xs<n→∀left:Int,0≤left→left≤1048576→(D.sl (xs.map aj.enc)).Fit→aA Tryz.prog 39 [.c (.d (.sl (xs.map aj.enc))),.c (.d (.i .i64 left))] (.c (.d (.i .i64 (cO left (xs.length+aP (xs.map aj.enc)))))))∧
 (∀x:ay,SizeOf.sizeOf x<n→∀left:Int,0≤left→left≤1048576→ku x.enc→aA Tryz.prog 108 [x.v,.c (.d (.i .i64 left))] (.c (.d (.i .i64 (cO left x.sz)))))∧
 (∀xs:List ay,SizeOf.sizeOf xs<n→∀left:Int,0≤left→left≤1048576→(D.sl (xs.map ay.enc)).Fit→aA Tryz.prog 40 [.c (.d (.sl (xs.map ay.enc))),.c (.d (.i .i64 left))] (.c (.d (.i .i64 (cO left (xs.length+aP (xs.map ay.enc)))))))
 |0=>⟨fun x h=>by omega,fun x h=>by omega,fun x h=>by omega,fun x h=>by omega⟩
 |n+1=>by
  obtain⟨pJ,sO,zA,vJ⟩:=zy n
  refine⟨fun x hn left h0 h1 hf S=> ?_,fun xs hn left h0 h1 hf S=> ?_,fun x hn left h0 h1 hf S=> ?_,fun xs hn left h0 h1 hf S=> ?_⟩
  ·have iR:=aj.eH x
   have rC:=aj.lZ x
   simp only[aj.aB,List.cons_append,List.nil_append,lM,oO,qI,and_true] at hf
   obtain⟨aG,aQ,fName,fN,fType,fArgs,aD⟩:=hf
   have hz:x.sz=x.aQ.length+(x.fName.length+(x.fType.sz+((x.fArgs.length+aP (x.fArgs.map aj.enc))+((x.aD.length+aP (x.aD.map ay.enc)))))):=by
    simp only[aj.sz,aj.aB,bB,bU,D.sz,List.length_map,Nat.add_zero,Nat.zero_add,ak.dK]<;>omega
   refine au (rs:=[.tmp 4]) Tryz.checked.mixed Tryz.func9 Tryz.ntmps9 rfl rfl rfl rfl rfl ?_
   rw[hz]
   have Xa:=yX aQ
   have U0:=yX fName
   refine W1 ?_
   refine S0 (fun hb h=>?_) fun hb h=>?_
   ·exact int_eq (eB (by omega)).symm
   refine S0 (fun hb h=>?_) fun hb h=>?_
   ·exact int_eq (eB (by omega)).symm
   refine C1 (L8 x.fType _ (by omega) (by omega) fType) ?_
   refine S0 (fun hb h=>?_) fun hb h=>?_
   ·have h':=iC h
    exact int_eq (eB (by omega)).symm
   have hType:=iQ h
   simp only[hType.1]
   refine C1 (sO x.fArgs (by omega) _ (by omega) (by omega) fArgs) ?_
   refine S0 (fun hb h=>?_) fun hb h=>?_
   ·have h':=iC h
    exact int_eq (eB (by omega)).symm
   have Jw:=iQ h
   simp only[Jw.1]
   refine C1 (vJ x.aD (by omega) _ (by omega) (by omega) aD) ?_
   refine S0 (fun hb h=>?_) fun hb h=>?_
   ·have h':=iC h
    exact int_eq (eB (by omega)).symm
   have U1:=iQ h
   simp only[U1.1]
   refine int_eq ?_
   rw[kC (by omega)]
   omega
  ·obtain⟨hf1,hf2⟩:=yY hf
   rw[List.length_map] at hf1
   refine au (rs:=[.tmp 4]) Tryz.checked.mixed Tryz.func39 Tryz.ntmps39 rfl rfl rfl rfl rfl ?_
   refine W1 ?_
   refine S0 (fun hb h=>?_) fun hb h=>?_
   ·exact int_eq (eB (by omega)).symm
   refine aT (ι:=Nat×Int) Tryz.checked.mixed rfl [0,1,5] (fun y=>[.c (.d (.sl (xs.map aj.enc))),.c (.d (.i .i64 y.2)),.c (.d (.i .i64 y.1))]) (fun _=>[]::S)
    (fun y=>y.1≤xs.length∧0≤y.2∧y.2≤1048576∧cO y.2 (aP ((xs.map aj.enc).drop y.1))=cO left (xs.length+aP (xs.map aj.enc))) (fun y=>xs.length-y.1) (0,left-xs.length) rfl rfl ⟨by omega,by omega,by omega,?_⟩ ?_
   ·unfold cO
    rw[List.drop_zero]
    split<;>split<;>omega
   rintro⟨i,l⟩ ⟨p1,p2,p3,p4⟩
   simp only at p1 p2 p3 p4
   refine W1 ?_
   refine S0 (fun hb h=>?_) fun hb h=>?_
   ·have hi:i<xs.length:=by omega
    rw[List.drop_eq_getElem_cons (by rw[List.length_map];exact hi),aP,List.getElem_map,aj.dK] at p4
    refine W3 ?_
    refine C1 (pJ xs[i] (by have:=List.sizeOf_lt_of_mem (List.getElem_mem hi);omega) _ (by omega) (by omega) (hf2 _ (List.mem_map_of_mem (List.getElem_mem hi)))) ?_
    refine S0 (fun hb h=>?_) fun hb h=>?_
    ·have h':=iC h
     rw[←p4,eB (by omega)]
    ·have h':=iQ h
     refine bG (i+1,cO l _) (by simp only;omega) rfl rfl ⟨by simp only;omega,by simp only;omega,by simp only;omega,?_⟩
     simp only
     rw[←p4,h'.1]
     unfold cO
     split<;>split<;>omega
   ·have hi:i=xs.length:=by omega
    rw[hi,List.drop_of_length_le (by simp),aP,kC (by omega)] at p4
    rw[←p4]
    refine int_eq ?_
    omega
  ·have PG:=ay.kT x
   simp only[ay.aB,List.cons_append,List.nil_append,lM,oO,qI,and_true] at hf
   obtain⟨aV,aU,fBody⟩:=hf
   have hz:x.sz=x.aV.length+((x.aU.length+aP (x.aU.map encS))+(x.fBody.sz)):=by
    simp only[ay.sz,ay.aB,bB,bU,D.sz,List.length_map,Nat.add_zero,Nat.zero_add,aj.dK]<;>omega
   refine au (rs:=[.tmp 4]) Tryz.checked.mixed Tryz.func108 Tryz.ntmps108 rfl rfl rfl rfl rfl ?_
   rw[hz]
   have Sr:=yX aV
   refine W1 ?_
   refine S0 (fun hb h=>?_) fun hb h=>?_
   ·exact int_eq (eB (by omega)).symm
   refine C1 (Eh x.aU _ (by omega) (by omega) aU) ?_
   refine S0 (fun hb h=>?_) fun hb h=>?_
   ·have h':=iC h
    exact int_eq (eB (by omega)).symm
   have hVars:=iQ h
   simp only[hVars.1]
   refine C1 (pJ x.fBody (by omega) _ (by omega) (by omega) fBody) ?_
   refine S0 (fun hb h=>?_) fun hb h=>?_
   ·have h':=iC h
    exact int_eq (eB (by omega)).symm
   have U2:=iQ h
   simp only[U2.1]
   refine int_eq ?_
   rw[kC (by omega)]
   omega
  ·obtain⟨hf1,hf2⟩:=yY hf
   rw[List.length_map] at hf1
   refine au (rs:=[.tmp 4]) Tryz.checked.mixed Tryz.func40 Tryz.ntmps40 rfl rfl rfl rfl rfl ?_
   refine W1 ?_
   refine S0 (fun hb h=>?_) fun hb h=>?_
   ·exact int_eq (eB (by omega)).symm
   refine aT (ι:=Nat×Int) Tryz.checked.mixed rfl [0,1,5] (fun y=>[.c (.d (.sl (xs.map ay.enc))),.c (.d (.i .i64 y.2)),.c (.d (.i .i64 y.1))]) (fun _=>[]::S)
    (fun y=>y.1≤xs.length∧0≤y.2∧y.2≤1048576∧cO y.2 (aP ((xs.map ay.enc).drop y.1))=cO left (xs.length+aP (xs.map ay.enc))) (fun y=>xs.length-y.1) (0,left-xs.length) rfl rfl ⟨by omega,by omega,by omega,?_⟩ ?_
   ·unfold cO
    rw[List.drop_zero]
    split<;>split<;>omega
   rintro⟨i,l⟩ ⟨p1,p2,p3,p4⟩
   simp only at p1 p2 p3 p4
   refine W1 ?_
   refine S0 (fun hb h=>?_) fun hb h=>?_
   ·have hi:i<xs.length:=by omega
    rw[List.drop_eq_getElem_cons (by rw[List.length_map];exact hi),aP,List.getElem_map,ay.dK] at p4
    refine W3 ?_
    refine C1 (zA xs[i] (by have:=List.sizeOf_lt_of_mem (List.getElem_mem hi);omega) _ (by omega) (by omega) (hf2 _ (List.mem_map_of_mem (List.getElem_mem hi)))) ?_
    refine S0 (fun hb h=>?_) fun hb h=>?_
    ·have h':=iC h
     rw[←p4,eB (by omega)]
    ·have h':=iQ h
     refine bG (i+1,cO l _) (by simp only;omega) rfl rfl ⟨by simp only;omega,by simp only;omega,by simp only;omega,?_⟩
     simp only
     rw[←p4,h'.1]
     unfold cO
     split<;>split<;>omega
   ·have hi:i=xs.length:=by omega
    rw[hi,List.drop_of_length_le (by simp),aP,kC (by omega)] at p4
    rw[←p4]
    refine int_eq ?_
    omega
theorem Mc(x:aj):∀left:Int,0≤left→left≤1048576→ku x.enc→aA Tryz.prog 9 [x.v,.c (.d (.i .i64 left))] (.c (.d (.i .i64 (cO left x.sz)))):=(zy _).1 x (Nat.lt_succ_self _)
theorem zB:∀n:Nat,(∀x:aj,SizeOf.sizeOf x<n→x.sz≤1048576→aA Tryz.prog 11 [x.v] x.v)∧
 (∀xs:List aj,SizeOf.sizeOf xs<n→xs.length+aP (xs.map aj.enc)≤1048576→aA Tryz.prog 44 [.c (.d (.sl (xs.map aj.enc)))] (.c (.d (.sl (xs.map aj.enc)))))∧
 (∀x:ay,SizeOf.sizeOf x<n→x.sz≤1048576→aA Tryz.prog 113 [x.v] x.v)∧
 (∀xs:List ay,SizeOf.sizeOf xs<n→xs.length+aP (xs.map ay.enc)≤1048576→aA Tryz.prog 45 [.c (.d (.sl (xs.map ay.enc)))] (.c (.d (.sl (xs.map ay.enc)))))
 |0=>⟨fun x h=>by omega,fun x h=>by omega,fun x h=>by omega,fun x h=>by omega⟩
 |n+1=>by
  obtain⟨pJ,sO,zA,vJ⟩:=zB n
  refine⟨fun x hn hsz S=> ?_,fun xs hn hsz S=> ?_,fun x hn hsz S=> ?_,fun xs hn hsz S=> ?_⟩
  ·have iR:=aj.eH x
   have rC:=aj.lZ x
   simp only[aj.sz,aj.aB,bB,bU,D.sz,List.length_map,ak.dK] at hsz
   refine au (rs:=[.cell 2 37]) Tryz.checked.mixed Tryz.func11 Tryz.ntmps11 rfl rfl rfl rfl rfl ?_
   refine W1 ?_
   refine C1 (L9 x.fType (by omega)) ?_
   refine C1 (sO x.fArgs (by omega) (by omega)) ?_
   exact C3 (vJ x.aD (by omega) (by omega))
  ·refine au (rs:=[.tmp 2]) Tryz.checked.mixed Tryz.func44 Tryz.ntmps44 rfl rfl rfl rfl rfl ?_
   refine W1 ?_
   refine W3 ?_
   refine aT (ι:=Nat×List (List D)) Tryz.checked.mixed rfl [0,3,4] (fun y=>[.c (.d (.sl (xs.map aj.enc))),.c (.gI (0,0)),.c (.d (.i .i64 y.1))]) (fun y=>[.dw 9 y.2]::S)
    (fun y=>y.1≤xs.length∧jg 9 y.1 y.2 (xs.map aj.enc)) (fun y=>xs.length-y.1) (0,_) rfl rfl ⟨Nat.zero_le _,jg.start (by simp) rfl⟩ ?_
   rintro⟨i,R⟩ ⟨p1,p2⟩
   simp only at p1 p2
   refine W1 ?_
   refine S0 (fun hb h=>?_) fun hb h=>?_
   ·have hi:i<xs.length:=by omega
    have hx:xs[i].sz≤aP (xs.map aj.enc):=dX (List.mem_map_of_mem (List.getElem_mem hi))
    refine W3 ?_
    refine C1 (pJ xs[i] (by have:=List.sizeOf_lt_of_mem (List.getElem_mem hi);omega) (by omega)) ?_
    have hR:=p2.1
    rw[List.length_map] at hR
    refine W3 ?_
    refine bG (i+1,_) (by simp only;omega) rfl rfl ⟨by simp only;omega,p2.step (by simp[hi,aj.aB,ak.aB]) rfl⟩
   ·have hi:i=xs.length:=by omega
    rw[p2.done (by rw[List.length_map];omega)]
  ·have PG:=ay.kT x
   simp only[ay.sz,ay.aB,bB,bU,D.sz,List.length_map,aj.dK] at hsz
   refine au (rs:=[.cell 2 149]) Tryz.checked.mixed Tryz.func113 Tryz.ntmps113 rfl rfl rfl rfl rfl ?_
   refine W1 ?_
   refine C1 (Ei x.aU (by omega)) ?_
   exact C3 (pJ x.fBody (by omega) (by omega))
  ·refine au (rs:=[.tmp 2]) Tryz.checked.mixed Tryz.func45 Tryz.ntmps45 rfl rfl rfl rfl rfl ?_
   refine W1 ?_
   refine W3 ?_
   refine aT (ι:=Nat×List (List D)) Tryz.checked.mixed rfl [0,3,4] (fun y=>[.c (.d (.sl (xs.map ay.enc))),.c (.gI (0,0)),.c (.d (.i .i64 y.1))]) (fun y=>[.dw 11 y.2]::S)
    (fun y=>y.1≤xs.length∧jg 11 y.1 y.2 (xs.map ay.enc)) (fun y=>xs.length-y.1) (0,_) rfl rfl ⟨Nat.zero_le _,jg.start (by simp) rfl⟩ ?_
   rintro⟨i,R⟩ ⟨p1,p2⟩
   simp only at p1 p2
   refine W1 ?_
   refine S0 (fun hb h=>?_) fun hb h=>?_
   ·have hi:i<xs.length:=by omega
    have hx:xs[i].sz≤aP (xs.map ay.enc):=dX (List.mem_map_of_mem (List.getElem_mem hi))
    refine W3 ?_
    refine C1 (zA xs[i] (by have:=List.sizeOf_lt_of_mem (List.getElem_mem hi);omega) (by omega)) ?_
    have hR:=p2.1
    rw[List.length_map] at hR
    refine W3 ?_
    refine bG (i+1,_) (by simp only;omega) rfl rfl ⟨by simp only;omega,p2.step (by simp[hi,ay.aB,aj.aB,ak.aB]) rfl⟩
   ·have hi:i=xs.length:=by omega
    rw[p2.done (by rw[List.length_map];omega)]
theorem vK(x:aj):x.sz≤1048576→aA Tryz.prog 11 [x.v] x.v:=(zB _).1 x (Nat.lt_succ_self _)
theorem zC:∀n:Nat,(∀x:aj,SizeOf.sizeOf x<n→∀y:aj,x.sz≤1048576→aA Tryz.prog 13 [x.v,y.v] (.c (.d (.b (dec (x=y))))))∧
 (∀xs:List aj,SizeOf.sizeOf xs<n→∀ys:List aj,xs.length+aP (xs.map aj.enc)≤1048576→aA Tryz.prog 50 [.c (.d (.sl (xs.map aj.enc))),.c (.d (.sl (ys.map aj.enc)))] (.c (.d (.b (dec (xs=ys))))))∧
 (∀x:ay,SizeOf.sizeOf x<n→∀y:ay,x.sz≤1048576→aA Tryz.prog 122 [x.v,y.v] (.c (.d (.b (dec (x=y))))))∧
 (∀xs:List ay,SizeOf.sizeOf xs<n→∀ys:List ay,xs.length+aP (xs.map ay.enc)≤1048576→aA Tryz.prog 51 [.c (.d (.sl (xs.map ay.enc))),.c (.d (.sl (ys.map ay.enc)))] (.c (.d (.b (dec (xs=ys))))))
 |0=>⟨fun x h=>by omega,fun x h=>by omega,fun x h=>by omega,fun x h=>by omega⟩
 |n+1=>by
  obtain⟨pJ,sO,zA,vJ⟩:=zC n
  refine⟨fun x hn y hsz S=> ?_,fun xs hn ys hsz S=> ?_,fun x hn y hsz S=> ?_,fun xs hn ys hsz S=> ?_⟩
  ·have iR:=aj.eH x
   have rC:=aj.lZ x
   simp only[aj.sz,aj.aB,bB,bU,D.sz,List.length_map,ak.dK] at hsz
   refine au (rs:=[.tmp 4]) Tryz.checked.mixed Tryz.func13 Tryz.ntmps13 rfl rfl rfl rfl rfl ?_
   refine W1 ?_
   refine S0 (fun hb h=>?_) fun hb h=>?_
   ·exact aF (aL (fun e=>h (by rw[e]))).symm
   have Jy:=h
   clear h
   refine S0 (fun hb h=>?_) fun hb h=>?_
   ·exact aF (aL (fun e=>h (by rw[e]))).symm
   have Sv:=h
   clear h
   refine S0 (fun hb h=>?_) fun hb h=>?_
   ·exact aF (aL (fun e=>h (by rw[e]))).symm
   have Jz:=h
   clear h
   refine S0 (fun hb h=>?_) fun hb h=>?_
   ·exact aF (aL (fun e=>h (by rw[e]))).symm
   have eN:=h
   clear h
   refine C1 (Ma x.fType _ (by omega)) ?_
   refine S0 (fun hb h=>?_) fun hb h=>?_
   ·exact aF (aL (fun e=>h (by rw[e]))).symm
   have eType:=h
   clear h
   refine C1 (sO x.fArgs (by omega) _ (by omega)) ?_
   refine S0 (fun hb h=>?_) fun hb h=>?_
   ·exact aF (aL (fun e=>h (by rw[e]))).symm
   have eArgs:=h
   clear h
   refine C1 (vJ x.aD (by omega) _ (by omega)) ?_
   refine S0 (fun hb h=>?_) fun hb h=>?_
   ·exact aF (aL (fun e=>h (by rw[e]))).symm
   have U3:=h
   clear h
   exact aF (bR (aj.ext Jy Sv Jz eN eType eArgs U3)).symm
  ·refine au (rs:=[.tmp 4]) Tryz.checked.mixed Tryz.func50 Tryz.ntmps50 rfl rfl rfl rfl rfl ?_
   refine W1 ?_
   refine S0 (fun hb h=>?_) fun hb h=>?_
   ·exact aF (aL (fun e=>h (by rw[e]))).symm
   have hl:xs.length=ys.length:=by omega
   refine aT (ι:=Nat) Tryz.checked.mixed rfl [0,1,5] (fun y=>[.c (.d (.sl (xs.map aj.enc))),.c (.d (.sl (ys.map aj.enc))),.c (.d (.i .i64 y))]) (fun y=>[]::S)
    (fun i=>i≤xs.length∧∀j,j<i→xs[j]? =ys[j]?) (fun y=>xs.length-y) 0 rfl rfl ⟨Nat.zero_le _,fun j h=>by omega⟩ ?_
   rintro i ⟨p1,p2⟩
   refine W1 ?_
   refine S0 (fun hb h=>?_) fun hb h=>?_
   ·have hi:i<xs.length:=by omega
    have hi':i<ys.length:=by omega
    have hx:xs[i].sz≤aP (xs.map aj.enc):=dX (List.mem_map_of_mem (List.getElem_mem hi))
    refine W3 ?_
    refine C1 (pJ xs[i] (by have:=List.sizeOf_lt_of_mem (List.getElem_mem hi);omega) ys[i] (by omega)) ?_
    refine S0 (fun hb h=>?_) fun hb h=>?_
    ·exact aF (aL (fun e=>h (by simp only[e]))).symm
    refine bG (i+1) (by omega) rfl rfl ⟨by omega,fun j hj=> ?_⟩
    by_cases e:j=i
    ·subst e
     rw[List.getElem?_eq_getElem hi,List.getElem?_eq_getElem hi',h]
    ·exact p2 j (by omega)
   ·have hi:i=xs.length:=by omega
    refine aF (bR (List.ext_getElem? fun j=> ?_)).symm
    by_cases hj:j<i
    ·exact p2 j hj
    ·rw[List.getElem?_eq_none (by omega),List.getElem?_eq_none (by omega)]
  ·have PG:=ay.kT x
   simp only[ay.sz,ay.aB,bB,bU,D.sz,List.length_map,aj.dK] at hsz
   refine au (rs:=[.tmp 4]) Tryz.checked.mixed Tryz.func122 Tryz.ntmps122 rfl rfl rfl rfl rfl ?_
   refine W1 ?_
   refine S0 (fun hb h=>?_) fun hb h=>?_
   ·exact aF (aL (fun e=>h (by rw[e]))).symm
   have EH:=h
   clear h
   refine C1 (Ej x.aU _ (by omega)) ?_
   refine S0 (fun hb h=>?_) fun hb h=>?_
   ·exact aF (aL (fun e=>h (by rw[e]))).symm
   have U4:=h
   clear h
   refine C1 (pJ x.fBody (by omega) _ (by omega)) ?_
   refine S0 (fun hb h=>?_) fun hb h=>?_
   ·exact aF (aL (fun e=>h (by rw[e]))).symm
   have U5:=h
   clear h
   exact aF (bR (ay.ext EH U4 U5)).symm
  ·refine au (rs:=[.tmp 4]) Tryz.checked.mixed Tryz.func51 Tryz.ntmps51 rfl rfl rfl rfl rfl ?_
   refine W1 ?_
   refine S0 (fun hb h=>?_) fun hb h=>?_
   ·exact aF (aL (fun e=>h (by rw[e]))).symm
   have hl:xs.length=ys.length:=by omega
   refine aT (ι:=Nat) Tryz.checked.mixed rfl [0,1,5] (fun y=>[.c (.d (.sl (xs.map ay.enc))),.c (.d (.sl (ys.map ay.enc))),.c (.d (.i .i64 y))]) (fun y=>[]::S)
    (fun i=>i≤xs.length∧∀j,j<i→xs[j]? =ys[j]?) (fun y=>xs.length-y) 0 rfl rfl ⟨Nat.zero_le _,fun j h=>by omega⟩ ?_
   rintro i ⟨p1,p2⟩
   refine W1 ?_
   refine S0 (fun hb h=>?_) fun hb h=>?_
   ·have hi:i<xs.length:=by omega
    have hi':i<ys.length:=by omega
    have hx:xs[i].sz≤aP (xs.map ay.enc):=dX (List.mem_map_of_mem (List.getElem_mem hi))
    refine W3 ?_
    refine C1 (zA xs[i] (by have:=List.sizeOf_lt_of_mem (List.getElem_mem hi);omega) ys[i] (by omega)) ?_
    refine S0 (fun hb h=>?_) fun hb h=>?_
    ·exact aF (aL (fun e=>h (by simp only[e]))).symm
    refine bG (i+1) (by omega) rfl rfl ⟨by omega,fun j hj=> ?_⟩
    by_cases e:j=i
    ·subst e
     rw[List.getElem?_eq_getElem hi,List.getElem?_eq_getElem hi',h]
    ·exact p2 j (by omega)
   ·have hi:i=xs.length:=by omega
    refine aF (bR (List.ext_getElem? fun j=> ?_)).symm
    by_cases hj:j<i
    ·exact p2 j hj
    ·rw[List.getElem?_eq_none (by omega),List.getElem?_eq_none (by omega)]
theorem Me(x:aj):∀y:aj,x.sz≤1048576→aA Tryz.prog 13 [x.v,y.v] (.c (.d (.b (dec (x=y))))):=(zC _).1 x (Nat.lt_succ_self _)
end Go.Proofs.YtcfhnaohbaplhaaGreatDoor
namespace Go.Ab
mutual
def aj.cnt:aj→Nat
 | .mk _ _ _ _ _ a b=>1+(aj.bY a+ay.bY b)
def aj.bY:List aj→Nat
 |[]=>0
 |x::xs=>x.cnt+aj.bY xs
def ay.cnt:ay→Nat
 | .mk _ _ b=>b.cnt
def ay.bY:List ay→Nat
 |[]=>0
 |x::xs=>x.cnt+ay.bY xs
end
theorem aj.kJ(x:aj):x.cnt=1+(aj.bY x.fArgs+ay.bY x.aD):=by cases x;rw[aj.cnt];rfl
theorem ay.kJ(x:ay):x.cnt=x.fBody.cnt:=by cases x;rw[ay.cnt];rfl
theorem aj.jC{xs:List aj}{i:Nat}(hi:i<xs.length):aj.bY (xs.drop i)=xs[i].cnt+aj.bY (xs.drop (i+1)):=by rw[List.drop_eq_getElem_cons hi,aj.bY]
theorem ay.jC{xs:List ay}{i:Nat}(hi:i<xs.length):ay.bY (xs.drop i)=xs[i].fBody.cnt+ay.bY (xs.drop (i+1)):=by rw[List.drop_eq_getElem_cons hi,ay.bY,ay.kJ]
theorem aj.OJ(x:aj):x.fArgs.length+aP (x.fArgs.map aj.enc)≤x.sz∧x.aD.length+aP (x.aD.map ay.enc)≤x.sz:=by
 simp only[aj.sz,aj.aB,bB,bU,D.sz,List.length_map]
 omega
theorem ay.AJ(x:ay):x.fBody.sz≤x.sz:=by
 simp only[ay.sz,ay.aB,aj.sz,bB,bU,D.sz,List.length_map]
 omega
mutual
theorem aj.kK:∀x:aj,x.cnt≤1+x.sz
 | .mk k t n m ty a b=>by
   have h1:=aj.ng a
   have h2:=ay.ng b
   rw[aj.cnt]
   simp only[aj.sz,aj.aB,bB,bU,D.sz,List.length_map,aj.fArgs,aj.aD]
   omega
theorem aj.ng:∀xs:List aj,aj.bY xs≤xs.length+aP (xs.map aj.enc)
 |[]=>by simp[aj.bY]
 |x::xs=>by
  have h1:=aj.kK x
  have h2:=aj.ng xs
  rw[aj.bY,List.length_cons,List.map_cons,aP,aj.dK]
  omega
theorem ay.kK:∀x:ay,x.cnt≤1+x.sz
 | .mk c v b=>by
   have h1:=aj.kK b
   have h2:=ay.AJ (.mk c v b)
   rw[ay.cnt]
   simp only[ay.fBody] at h2
   omega
theorem ay.ng:∀xs:List ay,ay.bY xs≤xs.length+aP (xs.map ay.enc)
 |[]=>by simp[ay.bY]
 |x::xs=>by
  have h1:=ay.kK x
  have h2:=ay.ng xs
  rw[ay.bY,List.length_cons,List.map_cons,aP,ay.dK]
  omega
end
end Go.Ab
namespace Go.Proofs.YtcfhnaohbaplhaaGreatDoor
open Go Go.Ab
theorem qL:∀n:Nat,∀x:aj,SizeOf.sizeOf x<n→x.sz≤4194304→aA Tryz.prog 201 [x.v] (.c (.d (.i .i64 x.cnt)))
 |0=>fun x h=>by omega
 |n+1=>by
  have ih:=qL n
  intro x hn hsz S
  have iR:=aj.eH x
  have rC:=aj.lZ x
  have hp:=aj.OJ x
  have hc:=aj.kK x
  have he:=aj.kJ x
  refine au (rs:=[.tmp 2]) Tryz.checked.mixed Tryz.func201 Tryz.ntmps201 rfl rfl rfl rfl rfl ?_
  refine W1 ?_
  refine aT (ι:=Nat×Nat) Tryz.checked.mixed rfl [1,3,9,10,11] (fun y=>[.c (.ptr (0,0) 0),.c (.d (.i .i64 y.2)),.c (.d (.sl (x.fArgs.map aj.enc))),.c (.d (.i .i64 x.fArgs.length)),.c (.d (.i .i64 y.1))]) (fun y=>[.box (x.enc.map .d)]::S)
   (fun y=>y.1≤x.fArgs.length∧x.cnt=y.2+aj.bY (x.fArgs.drop y.1)+ay.bY x.aD) (fun y=>x.fArgs.length-y.1) (0,1) rfl ?_ ⟨Nat.zero_le _,by simp only[List.drop_zero];omega⟩ ?_
  ·exact Z1
  rintro⟨i,c⟩ ⟨p1,p2⟩
  simp only at p1 p2
  refine W1 ?_
  refine S0 (fun hb h=>?_) fun hb h=>?_
  ·have hi:i<x.fArgs.length:=by omega
   have hx:x.fArgs[i].sz≤aP (x.fArgs.map aj.enc):=dX (List.mem_map_of_mem (List.getElem_mem hi))
   rw[aj.jC hi] at p2
   refine W3 ?_
   refine C2 (ih x.fArgs[i] (by have:=List.sizeOf_lt_of_mem (List.getElem_mem hi);omega) (by omega)) ?_
   rw[show(c:Int)+(x.fArgs[i].cnt:Int)=((c+x.fArgs[i].cnt:Nat):Int) by omega]
   exact iT 1 (by decide) (i+1,c+x.fArgs[i].cnt) (by simp only;omega) rfl rfl rfl rfl ⟨by simp only;omega,by simp only;omega⟩
  have hi:i=x.fArgs.length:=by omega
  rw[hi,List.drop_length,aj.bY] at p2
  refine aT (ι:=Nat×Nat) Tryz.checked.mixed rfl [3,21,22,23] (fun y=>[.c (.d (.i .i64 y.2)),.c (.d (.sl (x.aD.map ay.enc))),.c (.d (.i .i64 x.aD.length)),.c (.d (.i .i64 y.1))]) (fun y=>[.box (x.enc.map .d)]::S)
   (fun y=>y.1≤x.aD.length∧x.cnt=y.2+ay.bY (x.aD.drop y.1)) (fun y=>x.aD.length-y.1) (0,c) rfl ?_ ⟨Nat.zero_le _,by simp only[List.drop_zero];omega⟩ ?_
  ·exact Z1
  clear p1 p2 hb h hi i
  rintro⟨i,d⟩ ⟨p1,p2⟩
  simp only at p1 p2
  refine W1 ?_
  refine S0 (fun hb h=>?_) fun hb h=>?_
  ·have hi:i<x.aD.length:=by omega
   have hx:x.aD[i].sz≤aP (x.aD.map ay.enc):=dX (List.mem_map_of_mem (List.getElem_mem hi))
   have hy:=ay.AJ x.aD[i]
   have hs:=List.sizeOf_lt_of_mem (List.getElem_mem hi)
   have hs':=ay.kT x.aD[i]
   rw[ay.jC hi] at p2
   refine W3 ?_
   refine C2 (ih x.aD[i].fBody (by omega) (by omega)) ?_
   rw[show(d:Int)+(x.aD[i].fBody.cnt:Int)=((d+x.aD[i].fBody.cnt:Nat):Int) by omega]
   exact iT 1 (by decide) (i+1,d+x.aD[i].fBody.cnt) (by simp only;omega) rfl rfl rfl rfl ⟨by simp only;omega,by simp only;omega⟩
  ·have hi:i=x.aD.length:=by omega
   rw[hi,List.drop_length,ay.bY] at p2
   exact int_eq (by omega)
theorem zD(x:aj)(hsz:x.sz≤4194304):aA Tryz.prog 201 [x.v] (.c (.d (.i .i64 x.cnt))):=qL _ x (Nat.lt_succ_self _) hsz
end Go.Proofs.YtcfhnaohbaplhaaGreatDoor
namespace Go.Ab
def ops:List (List UInt8):=[[43],[45],[42],[60],[61]]
def uE(t:ak):Prop:=t.aG=0∧t.fName=[]∧t.fArgs.length=0
def kV(e:aj):Prop:=
 (1≤e.aG∧e.aG≤12)∧
 (if e.aG=5∨e.aG=11 then validName e.aQ=true else e.aQ=[])∧
 (if e.aG=3∨e.aG=4∨e.aG=5∨e.aG=6∨e.aG=8 then validName e.fName=true else if e.aG=10 then e.fName∈ops else e.fName=[])∧
 (if e.aG=1 then -999999≤e.fN∧e.fN≤999999 else if e.aG=2 then e.fN=0∨e.fN=1 else e.fN=0)∧
 (if e.aG=12 then ni e.fType=true else uE e.fType)∧
 (if e.aG=4∨e.aG=6 then True else if e.aG=5 then 1≤e.fArgs.length else if e.aG=7∨e.aG=11∨e.aG=12 then e.fArgs.length=1 else if e.aG=8∨e.aG=10 then e.fArgs.length=2 else if e.aG=9 then e.fArgs.length=3 else e.fArgs.length=0)∧
 (e.aG=7↔0<e.aD.length)
mutual
noncomputable def fu:aj→Bool
 | .mk k t n m ty a b=>dec (kV (.mk k t n m ty a b))&&(gT a&&jk b)
noncomputable def gT:List aj→Bool
 |[]=>true
 |x::xs=>fu x&&gT xs
noncomputable def nU:ay→Bool
 | .mk c v b=>validName c&&(nk v&&fu b)
noncomputable def jk:List ay→Bool
 |[]=>true
 |x::xs=>nU x&&jk xs
end
theorem ny(x:aj):fu x=(dec (kV x)&&(gT x.fArgs&&jk x.aD)):=by cases x;rw[fu];rfl
theorem jJ(x:ay):nU x=(validName x.aV&&(nk x.aU&&fu x.fBody)):=by cases x;rw[nU];rfl
theorem EI{xs:List aj}{i:Nat}(hi:i<xs.length):gT (xs.drop i)=(fu xs[i]&&gT (xs.drop (i+1))):=by rw[List.drop_eq_getElem_cons hi,gT]
theorem F9{xs:List ay}{i:Nat}(hi:i<xs.length):jk (xs.drop i)=(nU xs[i]&&jk (xs.drop (i+1))):=by rw[List.drop_eq_getElem_cons hi,jk]
theorem wZ:∀{xs:List aj},(xs.any fun t=> !fu t)= !gT xs
 |[]=>rfl
 |t::ts=>by rw[List.any_cons,wZ (xs:=ts),gT];simp
theorem zF:∀{xs:List ay},(xs.any fun t=> !nU t)= !jk xs
 |[]=>rfl
 |t::ts=>by rw[List.any_cons,zF (xs:=ts),jk];simp
noncomputable def iM(e:aj):Bool:=dec (e.cnt≤300)&&fu e
def iN(l:Int)(c:Nat):Int:=if l<0 then -1 else if c≤l then l-c else -1
theorem uF{l:Int}{a b:Nat}:iN (iN l a) b=iN l (a+b):=by unfold iN;split<;>split<;>(try split)<;>(try split)<;>omega
theorem xP{l:Int}{a:Nat}(h:l<0):iN l a= -1:=if_pos h
theorem vL{l:Int}(h: -1≤l):iN l 0=l:=by unfold iN;split<;>(try split)<;>omega
theorem AL{l:Int}{c:Nat}(h:0≤l): -1≤iN l c∧iN l c≤l:=by unfold iN;split<;>(try split)<;>omega
theorem OL{l:Int}{c:Nat}(h:0≤l):decide (iN l c≥0)=decide ((c:Int)≤l):=by unfold iN;rw[if_neg (by omega)];split<;>simp<;>omega
theorem Cg:validName []=false:=aL fun h=>by have:=h.1.1;simp at this
theorem Sw{s:List UInt8}(h:s∈ops):s.length=1:=by simp[ops] at h;rcases h with h|h|h|h|h<;>rw[h]<;>rfl
theorem EJ{s:List UInt8}(h:s∈ops):validName s=false:=aL fun x=>by
 have h1:=x.2.2 0 (by have:=x.1.1;omega)
 simp[ops] at h;rcases h with h|h|h|h|h<;>rw[h] at h1<;>simp[lowerB,jQ] at h1
theorem zG{t:ak}(h:uE t):ni t=false:=aL fun x=>by
 have h1:=x.1
 rw[pE,Bool.and_eq_true] at h1
 have h2:=lN h1.1
 rw[h.1] at h2
 omega
end Go.Ab
namespace Go.Ab
structure Hold (p:Prop):Prop where
 out:p
theorem OM{P:Program}{N:Nat}{c:Code}{Q:Exit→St→Prop}{tm:List (Nat×V)}{st st':Store}(ts:List Nat)(vs:List V)(hv:ts.map (look tm)=vs)(hs:st=st')
 (h:AW P N c Q ⟨lY ts vs,st'⟩):AW P N c Q ⟨tm,st⟩:=by
 subst hs
 refine lK h ?_
 rw[←hv]
 exact Dw fun t=>uh _ ts t
end Go.Ab
namespace Go.Ab
theorem QK(b:UInt8):decide (firstIdx ⟨[43,45,42,60,61].toArray⟩ b≥0)=dec ([b]∈ops):=by
 have h:∀n:Nat,n<256→decide (firstIdx ⟨[43,45,42,60,61].toArray⟩ (UInt8.ofNat n)≥0)=decide ([UInt8.ofNat n]∈ops):=by decide +kernel
 have h1:=h b.toNat (UInt8.toNat_lt b)
 rw[UInt8.ofNat_toNat] at h1
 rw[h1]
 by_cases h2:[b]∈ops
 ·rw[bR h2];simp[h2]
 ·rw[aL h2];simp[h2]
def JA(k:Int):Int:=if k=5∨k=7∨k=11∨k=12 then 1 else if k=8∨k=10 then 2 else if k=9 then 3 else 0
def JB(k:Int):Int:=if k=4∨k=6∨k=5 then 300 else if k=7∨k=11∨k=12 then 1 else if k=8∨k=10 then 2 else if k=9 then 3 else 0
end Go.Ab
namespace Go.Proofs.YtcfhnaohbaplhaaGreatDoor
open Go Go.Ab
theorem wP(l:List UInt8)(b:UInt8):Ii Tryz.prog 366 [.c (.d (.s l)),.c (.d (.i .u8 b.toNat))] (.c (.d (.i .i64 (firstIdx ⟨l.toArray⟩ b)))):=by
 refine⟨_,Extern.BytealgIndexByte.indexByte,Tryz.func366,by kernel_rfl,by kernel_rfl,by kernel_rfl,by kernel_rfl,fun w σ S β vs hS hv=> ?_⟩
 obtain⟨hl,h⟩:=hv
 obtain⟨v0,e0,h0,_⟩:=h 0 _ rfl
 obtain⟨v1,e1,h1,_⟩:=h 1 _ rfl
 cases h0
 cases h1
 have hvs:vs=[.string ⟨l.toArray⟩,.int .u8 b.toNat]:=by
  match vs,hl,e0,e1 with
  |[x,y],_,e0,e1=>simp at e0 e1;rw[e0,e1]
 subst hvs
 refine⟨_,run_indexByte_string _ _ w,?_,rfl⟩
 have hb:(b.toNat:Int).toNat.toUInt8=b:=by simp
 rw[hb]
 exact .i _ _
theorem vM(l:List UInt8)(b:UInt8):aA Tryz.prog 339 [.c (.d (.s l)),.c (.d (.i .u8 b.toNat))] (.c (.d (.i .i64 (firstIdx ⟨l.toArray⟩ b)))):=fun S=>by
 refine au (rs:=[.tmp 4]) Tryz.checked.mixed Tryz.func339 Tryz.ntmps339 rfl rfl rfl rfl rfl ?_
 refine W1 ?_
 refine RQ (wP l b) ?_
 exact Z1
theorem Ga(l:List UInt8)(b:UInt8)(hl:[b]≠l):aA Tryz.prog 400 [.c (.d (.s l)),.c (.d (.s [b]))] (.c (.d (.i .i64 (firstIdx ⟨l.toArray⟩ b)))):=fun S=>by
 have c1:decide (((1:Nat):Int)=0)=false:=rfl
 have c2:decide (((1:Nat):Int)=1)=true:=rfl
 refine au (rs:=[.tmp 4]) Tryz.checked.mixed Tryz.func400 Tryz.ntmps400 rfl rfl rfl rfl rfl ?_
 simp -implicitDefEqProofs (disch:=omega) only[go_sem,c1,c2]
 with_reducible refine dV (fun hb=> ?_) (fun hb=> ?_)<;>have h:=hb<;>(try simp only[wf_preprocess] at h)<;>simp -implicitDefEqProofs (disch:=omega) only[go_sem,hb,c1,c2]<;>refine W3 ?_
 ·exact absurd h hl
 exact C4 (vM l b)
theorem Mf(l:List UInt8)(b:UInt8)(hl:[b]≠l):aA Tryz.prog 386 [.c (.d (.s l)),.c (.d (.s [b]))] (.c (.d (.i .i64 (firstIdx ⟨l.toArray⟩ b)))):=fun S=>by
 refine au (rs:=[.tmp 4]) Tryz.checked.mixed Tryz.func386 Tryz.ntmps386 rfl rfl rfl rfl rfl ?_
 refine W1 ?_
 exact C4 (Ga l b hl)
theorem EK(l:List UInt8)(b:UInt8)(hl:[b]≠l):aA Tryz.prog 369 [.c (.d (.s l)),.c (.d (.s [b]))] (.c (.d (.b (decide (firstIdx ⟨l.toArray⟩ b≥0))))):=fun S=>by
 refine au (rs:=[.tmp 4]) Tryz.checked.mixed Tryz.func369 Tryz.ntmps369 rfl rfl rfl rfl rfl ?_
 refine W1 ?_
 exact C4 (Mf l b hl)
theorem Ch(s:List UInt8):aA Tryz.prog 345 [.c (.d (.s s))] (.c (.d (.b (dec (s∈ops))))):=fun S=>by
 refine au (rs:=[.tmp 2]) Tryz.checked.mixed Tryz.func345 Tryz.ntmps345 rfl rfl rfl rfl rfl ?_
 refine W1 ?_
 refine S0 (fun hb h=>?_) fun hb h=>?_
 ·obtain⟨b,rfl⟩:=List.length_eq_one_iff.1 (show s.length=1 by omega)
  refine C2 (EK [43,45,42,60,61] b (by intro x;cases x)) ?_
  exact aF (QK b)
 ·exact aF (aL fun x=>h (by rw[Sw x];rfl)).symm
theorem Ci(t:ak):aA Tryz.prog 266 [t.v] (.c (.d (.b (dec (uE t))))):=fun S=>by
 refine au (rs:=[.tmp 2]) Tryz.checked.mixed Tryz.func266 Tryz.ntmps266 rfl rfl rfl rfl rfl ?_
 refine W1 ?_
 repeat' (first
  |refine S0 (fun hb h=>?_) fun hb h=>?_
  |(refine aF ?_;unfold uE;grind [bR,aL,lN,lQ]))
theorem w9(k:Int):aA Tryz.prog 344 [.c (.d (.i .i64 k))] (.d9 [(false,[.d (.i .i64 (JA k))]),(false,[.d (.i .i64 (JB k))])]):=fun S=>by
 refine au (rs:=[.tmp 2,.tmp 3]) Tryz.checked.mixed Tryz.func344 Tryz.ntmps344 rfl rfl rfl rfl rfl ?_
 refine W1 ?_
 repeat' (first
  |refine S0 (fun hb h=>?_) fun hb h=>?_
  |(unfold JA JB;grind))
end Go.Proofs.YtcfhnaohbaplhaaGreatDoor
namespace Go.Ab
theorem Mg(b:UInt8):decide (firstIdx ⟨[39,45,43,42,60,61,46].toArray⟩ b≥0)=decide (b∈([39,45,43,42,60,61,46]:List UInt8)):=by
 have h:∀n:Nat,n<256→decide (firstIdx ⟨[39,45,43,42,60,61,46].toArray⟩ (UInt8.ofNat n)≥0)=decide (UInt8.ofNat n∈([39,45,43,42,60,61,46]:List UInt8)):=by decide +kernel
 have h1:=h b.toNat (UInt8.toNat_lt b)
 rwa [UInt8.ofNat_toNat] at h1
theorem OO(b:UInt8):b∈([39,45,43,42,60,61,46]:List UInt8)↔(b.toNat=39∨b.toNat=45∨b.toNat=43∨b.toNat=42∨b.toNat=60∨b.toNat=61∨b.toNat=46):=by
 have h:∀n:Nat,n<256→(UInt8.ofNat n∈([39,45,43,42,60,61,46]:List UInt8)↔(n=39∨n=45∨n=43∨n=42∨n=60∨n=61∨n=46)):=by decide +kernel
 have h1:=h b.toNat (UInt8.toNat_lt b)
 rwa [UInt8.ofNat_toNat] at h1
theorem lV(b:UInt8):fG b=true↔(97≤b.toNat∧b.toNat≤122)∨(48≤b.toNat∧b.toNat≤57)∨b.toNat=39∨b.toNat=45∨b.toNat=43∨b.toNat=42∨b.toNat=60∨b.toNat=61∨b.toNat=46:=by
 unfold fG
 rw[Bool.or_eq_true,Bool.or_eq_true,decide_eq_true_eq,decide_eq_true_eq,decide_eq_true_eq,OO,or_assoc]
theorem all_false{s:List UInt8}{i:Nat}(hi:i<s.length)(h:fG s[i]=false):s.all fG=false:=by
 rw[List.all_eq_false]
 exact⟨s[i],List.getElem_mem hi,by simp[h]⟩
theorem all_true{s:List UInt8}(h:∀j (hj:j<s.length),fG s[j]=true):s.all fG=true:=by
 rw[List.all_eq_true]
 intro b hb
 obtain⟨j,hj,e⟩:=List.getElem_of_mem hb
 rw[←e];exact h j hj
theorem oI{x:ah}{i:Nat}(hi:i<x.aH.length)(h:x.sz≤67108864):x.aH[i].sz≤67108864∧x.aH.length≤67108864∧x.bf.length≤67108864:=by
 have:=wJ (List.getElem_mem hi)
 rw[l7,kE] at h
 omega
theorem qM{x:ah}(h:x.sz≤67108864):x.aH.length≤67108864∧x.bf.length≤67108864:=by
 rw[l7,kE] at h
 omega
theorem Gb{l:List ah}{i:Nat}(hi:i<l.length):jS (l.drop i)=(jO l[i]&&jS (l.drop (i+1))):=by rw[List.drop_eq_getElem_cons hi,jS]
theorem vN{l:List ah}{i:Nat}(hi:i<l.length):iZ (l.drop i)=max (gP l[i]) (iZ (l.drop (i+1))):=by rw[List.drop_eq_getElem_cons hi,iZ]
theorem xg{l:List ah}{i:Nat}(hi:i<l.length):iL (l.drop i)=fU l[i]+iL (l.drop (i+1)):=by rw[List.drop_eq_getElem_cons hi,iL]
theorem xQ{x:ah}(h:x.sz≤67108864):fU x≤67108865:=by have:=EC x;omega
theorem ah.wL{x:ah}{i:Nat}(hi:i<x.aH.length):SizeOf.sizeOf x.aH[i]<SizeOf.sizeOf x:=by
 have:=List.sizeOf_lt_of_mem (List.getElem_mem hi)
 have:=ah.AA x
 omega
end Go.Ab
namespace Go.Proofs.YtcfhnaohbaplhaaGreatDoor
open Go Go.Ab
theorem zH(l:List UInt8)(b:UInt8):aA Tryz.prog 277 [.c (.d (.s l)),.c (.d (.i .u8 b.toNat))] (.c (.d (.i .i64 (firstIdx ⟨l.toArray⟩ b)))):=fun S=>by
 refine au (rs:=[.tmp 4]) Tryz.checked.mixed Tryz.func277 Tryz.ntmps277 rfl rfl rfl rfl rfl ?_
 refine W1 ?_
 exact C4 (vM l b)
theorem Cj(b:UInt8):aA Tryz.prog 193 [.c (.d (.i .u8 b.toNat))] (.c (.d (.b (fG b)))):=fun S=>by
 refine au (rs:=[.tmp 2]) Tryz.checked.mixed Tryz.func193 Tryz.ntmps193 rfl rfl rfl rfl rfl ?_
 refine W1 ?_
 refine C2 (za b) ?_
 refine S0 (fun hb h=>?_) fun hb h=>?_
 ·exact aF ((lV b).2 (.inl h)).symm
 have h1:=h
 refine C2 (ze b) ?_
 refine S0 (fun hb h=>?_) fun hb h=>?_
 ·exact aF ((lV b).2 (.inr (.inl h))).symm
 have h2:=h
 refine C2 (zH [39,45,43,42,60,61,46] b) ?_
 refine aF ?_
 rw[Mg]
 unfold fG
 unfold lowerB at h1
 unfold jQ at h2
 simp[h1,h2]
theorem JC(s:List UInt8)(hs:s.length≤1073741824):aA Tryz.prog 292 [.c (.d (.s s))] (.c (.d (.b (validAtom s)))):=fun S=>by
 refine au (rs:=[.tmp 2]) Tryz.checked.mixed Tryz.func292 Tryz.ntmps292 rfl rfl rfl rfl rfl ?_
 refine W1 ?_
 refine aT (ι:=Nat) Tryz.checked.mixed rfl [0,5,6] (fun i=>[.c (.d (.s s)),.c (.d (.i .i64 s.length)),.c (.d (.i .i64 i))]) (fun _=>[]::S)
  (fun i=>i≤s.length∧∀j,∀hj:j<s.length,j<i→fG s[j]=true) (fun i=>s.length-i) 0 rfl rfl ⟨Nat.zero_le _,fun j _ h=>by omega⟩ ?_
 rintro i ⟨p1,p2⟩
 refine W1 ?_
 refine S0 (fun hb h=>?_) fun hb h=>?_
 ·have hi:i<s.length:=by omega
  have e:s.getD i 0=s[i]:=by simp[List.getD,hi]
  refine W3 ?_
  rw[e]
  refine C2 (Cj s[i]) ?_
  refine S0 (fun hb h=>?_) fun hb h=>?_
  ·exact aF (by unfold validAtom;rw[all_false hi h];rfl)
  ·refine bG (i+1) (by omega) rfl rfl ⟨by omega,fun j hj hji=> ?_⟩
   by_cases e':j=i
   ·subst e';exact h
   ·exact p2 j hj (by omega)
 ·have ha:=all_true (s:=s) (fun j hj=>p2 j hj (by omega))
  refine S0 (fun hb h=>?_) fun hb h=>?_
  ·refine aF ?_
   unfold validAtom
   rw[ha,Bool.true_and]
   exact decide_eq_decide.2 (by omega)
  ·refine aF ?_
   unfold validAtom
   rw[ha,Bool.true_and]
   exact(decide_eq_false (by omega)).symm
theorem Mh(b:UInt8):aA Tryz.prog 270 [.c (.d (.i .u8 b.toNat))] (.c (.d (.b (fG b)))):=fun S=>by
 have yes:((97≤b.toNat∧b.toNat≤122)∨(48≤b.toNat∧b.toNat≤57)∨b.toNat=39∨b.toNat=45∨b.toNat=43∨b.toNat=42∨b.toNat=60∨b.toNat=61∨b.toNat=46)→fG b=true:=(lV b).2
 have no:¬((97≤b.toNat∧b.toNat≤122)∨(48≤b.toNat∧b.toNat≤57)∨b.toNat=39∨b.toNat=45∨b.toNat=43∨b.toNat=42∨b.toNat=60∨b.toNat=61∨b.toNat=46)→fG b=false:=fun h=>by
  cases hb:fG b with
  |false=>rfl
  |true=>exact absurd ((lV b).1 hb) h
 refine au (rs:=[.tmp 2]) Tryz.checked.mixed Tryz.func270 Tryz.ntmps270 rfl rfl rfl rfl rfl ?_
 refine W1 ?_
 repeat' (first|(refine S0 (fun hb h=>?_) fun hb h=>?_))
 all_goals first
  |exact aF (yes (by omega)).symm
  |exact aF (no (by omega)).symm
  |(refine aF ?_;cases hb:fG b<;>simp only[decide_eq_true_eq,decide_eq_false_iff_not]<;>(first|(have:=(lV b).1 hb;omega)|(intro q;have:=yes (by omega);rw[hb] at this;cases this)))
theorem JD(s:List UInt8)(hs:s.length≤1073741824):aA Tryz.prog 236 [.c (.d (.s s))] (.c (.d (.b (validAtom s)))):=fun S=>by
 refine au (rs:=[.tmp 2]) Tryz.checked.mixed Tryz.func236 Tryz.ntmps236 rfl rfl rfl rfl rfl ?_
 refine W1 ?_
 refine aT (ι:=Nat) Tryz.checked.mixed rfl [0,3] (fun i=>[.c (.d (.s s)),.c (.d (.i .i64 i))]) (fun _=>[]::S)
  (fun i=>i≤s.length∧∀j,∀hj:j<s.length,j<i→fG s[j]=true) (fun i=>s.length-i) 0 rfl rfl ⟨Nat.zero_le _,fun j _ h=>by omega⟩ ?_
 rintro i ⟨p1,p2⟩
 refine W1 ?_
 refine S0 (fun hb h=>?_) fun hb h=>?_
 ·have hi:i<s.length:=by omega
  have e:s.getD i 0=s[i]:=by simp[List.getD,hi]
  refine W3 ?_
  rw[e]
  refine C2 (Mh s[i]) ?_
  refine S0 (fun hb h=>?_) fun hb h=>?_
  ·exact aF (by unfold validAtom;rw[all_false hi h];rfl)
  ·refine bG (i+1) (by omega) rfl rfl ⟨by omega,fun j hj hji=> ?_⟩
   by_cases e':j=i
   ·subst e';exact h
   ·exact p2 j hj (by omega)
 ·have ha:=all_true (s:=s) (fun j hj=>p2 j hj (by omega))
  refine C2 (sJ s.length 1 12) ?_
  refine aF ?_
  unfold validAtom
  rw[ha,Bool.true_and,←jw]
  exact decide_eq_decide.2 (by omega)
theorem vO:∀n:Nat,(∀x:ah,SizeOf.sizeOf x<n→x.sz≤67108864→aA Tryz.prog 207 [x.v] (.c (.d (.b (jO x)))))∧
 (∀xs:List ah,SizeOf.sizeOf xs<n→xs.length≤67108864→(∀t∈xs,t.sz≤67108864)→aA Tryz.prog 293 [.c (.d (.sl (xs.map ah.enc))),.c (.fn 294 [])] (.c (.d (.b (!jS xs)))))
 |0=>⟨fun x h=>by omega,fun x h=>by omega⟩
 |n+1=>by
  obtain⟨ih,Es⟩:=vO n
  refine⟨fun x hn hsz S=> ?_,fun xs hn hlen hsz S=> ?_⟩
  ·have iR:=ah.AA x
   have hts:=qM hsz
   have hall:∀t∈x.aH,t.sz≤67108864:=fun t ht=>by
    obtain⟨i,hi,e⟩:=List.getElem_of_mem ht
    rw[←e];exact(oI hi hsz).1
   have tail:=Es x.aH (by omega) hts.1 hall
   have hf:=EA x
   refine au (rs:=[.tmp 2]) Tryz.checked.mixed Tryz.func207 Tryz.ntmps207 rfl rfl rfl rfl rfl ?_
   refine W1 ?_
   refine S0 (fun hb h=>?_) fun hb h=>?_
   ·rw[if_neg h] at hf
    refine C2 (JC x.bf (by omega)) ?_
    refine S0 (fun hb h=>?_) fun hb h=>?_
    ·rw[hf,h,Bool.true_and]
     exact aF (decide_eq_decide.2 (by omega))
    ·rw[hf,h,Bool.false_and]
   ·rw[if_pos h] at hf
    refine bW tail ?_
    refine W1 ?_
    rw[hf,Bool.not_not]
  ·have hcl:∀y∈xs,aA Tryz.prog 294 [y.v] (.c (.d (.b (!jO y)))):=fun y hy S=>by
    have hys:=List.sizeOf_lt_of_mem hy
    refine au (rs:=[.tmp 2]) Tryz.checked.mixed Tryz.func294 Tryz.ntmps294 rfl rfl rfl rfl rfl ?_
    refine W1 ?_
    exact C4 (ih y (by omega) (hsz y hy))
   have hidx:aA Tryz.prog 349 [.c (.d (.sl (xs.map ah.enc))),.c (.fn 294 [])] (.c (.d (.i .i64 (lT (fun y=> !jO y) xs)))):=fun S=>by
    refine au (rs:=[.tmp 4]) Tryz.checked.mixed Tryz.func349 Tryz.ntmps349 rfl rfl rfl rfl rfl ?_
    refine W1 ?_
    refine aT (ι:=Nat) Tryz.checked.mixed rfl [0,1,7,8] (fun i=>[.c (.d (.sl (xs.map ah.enc))),.c (.fn 294 []),.c (.d (.i .i64 xs.length)),.c (.d (.i .i64 i))]) (fun _=>[]::S)
     (fun i=>i≤xs.length∧∀j,∀hj:j<xs.length,j<i→jO xs[j]=true) (fun i=>xs.length-i) 0 rfl rfl ⟨Nat.zero_le _,fun j _ h=>by omega⟩ ?_
    rintro i ⟨p1,p2⟩
    refine W1 ?_
    refine S0 (fun hb h=>?_) fun hb h=>?_
    ·have hi:i<xs.length:=by omega
     refine W3 ?_
     refine C2 (hcl xs[i] (List.getElem_mem hi)) ?_
     refine S0 (fun hb h=>?_) fun hb h=>?_
     ·rw[mF hi (fun j hj hji=>by rw[p2 j hj hji];rfl) (by rw[h];rfl)]
     ·refine bG (i+1) (by omega) rfl rfl ⟨by omega,fun j hj hji=> ?_⟩
      by_cases e:j=i
      ·subst e;exact h
      ·exact p2 j hj (by omega)
    ·rw[pz (fun j hj=>by rw[p2 j hj (by omega)];rfl)]
   refine au (rs:=[.tmp 4]) Tryz.checked.mixed Tryz.func293 Tryz.ntmps293 rfl rfl rfl rfl rfl ?_
   refine W1 ?_
   refine C2 (hidx) ?_
   rw[←zm]
   exact aF nT
theorem Gc(x:ah)(hsz:x.sz≤67108864):aA Tryz.prog 207 [x.v] (.c (.d (.b (jO x)))):=(vO _).1 x (Nat.lt_succ_self _) hsz
theorem sP:∀n:Nat,∀x:ah,SizeOf.sizeOf x<n→x.sz≤67108864→aA Tryz.prog 208 [x.v] (.c (.d (.i .i64 (gP x))))
 |0=>fun x h=>by omega
 |n+1=>by
  have ih:=sP n
  intro x hn hsz S
  have hts:=qM hsz
  have hd:=BF x
  have hd1:=rT x
  have hd2:=xQ hsz
  refine au (rs:=[.tmp 2]) Tryz.checked.mixed Tryz.func208 Tryz.ntmps208 rfl rfl rfl rfl rfl ?_
  refine W1 ?_
  refine S0 (fun hb h=>?_) fun hb h=>?_
  ·rw[if_neg h] at hd
   rw[hd];rfl
  rw[if_pos h] at hd
  refine aT (ι:=Nat×Nat) Tryz.checked.mixed rfl [3,10,11,12] (fun y=>[.c (.d (.i .i64 y.2)),.c (.d (.sl (x.aH.map ah.enc))),.c (.d (.i .i64 x.aH.length)),.c (.d (.i .i64 y.1))]) (fun y=>[.box [.d (.s x.bf),.d (.sl (x.aH.map ah.enc))]]::S)
   (fun y=>y.1≤x.aH.length∧gP x=max y.2 (iZ (x.aH.drop y.1))+1) (fun y=>x.aH.length-y.1) (0,0) rfl rfl ⟨Nat.zero_le _,by simp[hd]⟩ ?_
  rintro⟨i,c⟩ ⟨p1,p2⟩
  simp only at p1 p2
  refine W1 ?_
  refine S0 (fun hb h=>?_) fun hb h=>?_
  ·have hi:i<x.aH.length:=by omega
   have hsz':=oI hi hsz
   rw[vN hi] at p2
   refine W3 ?_
   refine C2 (ih x.aH[i] (by have:=ah.wL hi;omega) (by omega)) ?_
   rw[show max (c:Int) ((gP x.aH[i]:Int))=((max c (gP x.aH[i]):Nat):Int) by omega]
   exact iT 1 (by decide) (i+1,max c (gP x.aH[i])) (by simp only;omega) rfl rfl rfl rfl ⟨by simp only;omega,by simp only;omega⟩
  ·have hi:i=x.aH.length:=by omega
   rw[hi,List.drop_length,iZ] at p2
   refine W3 ?_
   exact int_eq (by omega)
theorem Ck(x:ah)(hsz:x.sz≤67108864):aA Tryz.prog 208 [x.v] (.c (.d (.i .i64 (gP x)))):=sP _ x (Nat.lt_succ_self _) hsz
theorem uT:∀n:Nat,∀x:ah,SizeOf.sizeOf x<n→x.sz≤67108864→aA Tryz.prog 209 [x.v] (.c (.d (.i .i64 (fU x))))
 |0=>fun x h=>by omega
 |n+1=>by
  have ih:=uT n
  intro x hn hsz S
  have hts:=qM hsz
  have hd2:=xQ hsz
  refine au (rs:=[.tmp 2]) Tryz.checked.mixed Tryz.func209 Tryz.ntmps209 rfl rfl rfl rfl rfl ?_
  refine W1 ?_
  refine aT (ι:=Nat×Nat) Tryz.checked.mixed rfl [3,7,8,9] (fun y=>[.c (.d (.i .i64 y.2)),.c (.d (.sl (x.aH.map ah.enc))),.c (.d (.i .i64 x.aH.length)),.c (.d (.i .i64 y.1))]) (fun y=>[.box [.d (.s x.bf),.d (.sl (x.aH.map ah.enc))]]::S)
   (fun y=>y.1≤x.aH.length∧fU x=y.2+iL (x.aH.drop y.1)) (fun y=>x.aH.length-y.1) (0,1) rfl rfl ⟨Nat.zero_le _,by simp[EB];omega⟩ ?_
  rintro⟨i,c⟩ ⟨p1,p2⟩
  simp only at p1 p2
  refine W1 ?_
  refine S0 (fun hb h=>?_) fun hb h=>?_
  ·have hi:i<x.aH.length:=by omega
   have hsz':=oI hi hsz
   rw[xg hi] at p2
   refine W3 ?_
   refine C2 (ih x.aH[i] (by have:=ah.wL hi;omega) (by omega)) ?_
   rw[show(c:Int)+(fU x.aH[i]:Int)=((c+fU x.aH[i]:Nat):Int) by omega]
   exact iT 1 (by decide) (i+1,c+fU x.aH[i]) (by simp only;omega) rfl rfl rfl rfl ⟨by simp only;omega,by simp only;omega⟩
  ·have hi:i=x.aH.length:=by omega
   rw[hi,List.drop_length,iL] at p2
   exact int_eq (by omega)
theorem EL(x:ah)(hsz:x.sz≤67108864):aA Tryz.prog 209 [x.v] (.c (.d (.i .i64 (fU x)))):=uT _ x (Nat.lt_succ_self _) hsz
theorem pW(x:ah)(hsz:x.sz≤67108864):aA Tryz.prog 118 [x.v] (.c (.d (.b (iy x)))):=fun S=>by
 refine au (rs:=[.tmp 2]) Tryz.checked.mixed Tryz.func118 Tryz.ntmps118 rfl rfl rfl rfl rfl ?_
 refine W1 ?_
 refine C2 (Gc x hsz) ?_
 refine S0 (fun hb h=>?_) fun hb h=>?_
 ·have hf:=h
  refine C2 (Ck x hsz) ?_
  refine S0 (fun hb h=>?_) fun hb h=>?_
  ·refine C2 (EL x hsz) ?_
   refine aF ?_
   unfold iy
   rw[hf,Bool.true_and]
   exact decide_eq_decide.2 (by omega)
  ·refine aF ?_
   unfold iy
   rw[hf,Bool.true_and]
   exact(decide_eq_false (by omega)).symm
 ·refine aF ?_
  unfold iy
  rw[h,Bool.false_and]
theorem zI:∀n:Nat,∀x:ah,SizeOf.sizeOf x<n→∀l:Int,0≤l→l≤1073741824→x.sz≤67108864→aA Tryz.prog 151 [x.v,.c (.d (.i .i64 l))] (.c (.d (.i .i64 (cO l (fU x)))))
 |0=>fun x h=>by omega
 |n+1=>by
  have ih:=zI n
  intro x hn l h0 h1 hsz S
  have hts:=qM hsz
  have hcn:=EB x
  refine au (rs:=[.tmp 4]) Tryz.checked.mixed Tryz.func151 Tryz.ntmps151 rfl rfl rfl rfl rfl ?_
  refine W1 ?_
  refine aT (ι:=Nat×Int) Tryz.checked.mixed rfl [1,2,5] (fun y=>[.c (.d (.i .i64 y.2)),.c (.ptr (0,0) 0),.c (.d (.i .i64 y.1))]) (fun y=>[.box [.d (.s x.bf),.d (.sl (x.aH.map ah.enc))]]::S)
   (fun y=>y.1≤x.aH.length∧ -1≤y.2∧y.2≤1073741824∧(0≤y.2→cO l (fU x)=cO y.2 (iL (x.aH.drop y.1)))∧(y.2<0→cO l (fU x)= -1)) (fun y=>x.aH.length-y.1) (0,l-1) rfl rfl ⟨Nat.zero_le _,by simp only;omega,by simp only;omega,fun h=> ?_,fun h=> ?_⟩ ?_
  ·simp only[List.drop_zero] at h ⊢
   unfold cO
   rw[hcn]
   split<;>split<;>omega
  ·simp only at h
   exact eB (by omega)
  rintro⟨i,c⟩ ⟨p1,p2,p3,p4,p5⟩
  simp only at p1 p2 p3 p4 p5
  refine W1 ?_
  refine S0 (fun hb h=>?_) fun hb h=>?_
  ·have hi:i<x.aH.length:=by omega
   refine S0 (fun hb h=>?_) fun hb h=>?_
   ·have hsz':=oI hi hsz
    have p6:=p4 h
    rw[xg hi] at p6
    refine W3 ?_
    refine C2 (ih x.aH[i] (by have:=ah.wL hi;omega) c (by omega) (by omega) (by omega)) ?_
    refine bG (i+1,cO c _) (by simp only;omega) rfl rfl ⟨by simp only;omega,?_,?_,fun h=> ?_,fun h=> ?_⟩
    ·simp only;unfold cO;split<;>omega
    ·simp only;unfold cO;split<;>omega
    ·simp only at h ⊢
     rw[p6]
     have:=iQ (l:=c) (a:=fU x.aH[i]) (by omega)
     rw[this.1]
     unfold cO
     split<;>split<;>omega
    ·simp only at h ⊢
     rw[p6]
     have:=iC h
     exact eB (by omega)
   ·have hc:c= -1:=by omega
    rw[p5 (by omega),hc]
  ·have hi:i=x.aH.length:=by omega
   by_cases hc:0≤c
   ·rw[p4 hc,hi,List.drop_length,iL,kC (by omega)]
    exact int_eq (by simp)
   ·rw[p5 (by omega)]
    exact int_eq (by omega)
theorem Mi(x:ah)(l:Int)(h0:0≤l)(h1:l≤1073741824)(hsz:x.sz≤67108864):aA Tryz.prog 151 [x.v,.c (.d (.i .i64 l))] (.c (.d (.i .i64 (cO l (fU x))))):=zI _ x (Nat.lt_succ_self _) l h0 h1 hsz
theorem zJ:∀n:Nat,∀x:ah,SizeOf.sizeOf x<n→x.sz≤67108864→aA Tryz.prog 152 [x.v] (.c (.d (.b (jO x))))
 |0=>fun x h=>by omega
 |n+1=>by
  have ih:=zJ n
  intro x hn hsz S
  have hts:=qM hsz
  have hf:=EA x
  refine au (rs:=[.tmp 2]) Tryz.checked.mixed Tryz.func152 Tryz.ntmps152 rfl rfl rfl rfl rfl ?_
  refine W1 ?_
  refine S0 (fun hb h=>?_) fun hb h=>?_
  ·rw[if_neg h] at hf
   refine C2 (JD x.bf (by omega)) ?_
   refine S0 (fun hb h=>?_) fun hb h=>?_
   ·rw[hf,h,Bool.true_and]
    exact aF (decide_eq_decide.2 (by omega))
   ·rw[hf,h,Bool.false_and]
  rw[if_pos h] at hf
  refine aT (ι:=Nat) Tryz.checked.mixed rfl [1,3] (fun y=>[.c (.ptr (0,0) 0),.c (.d (.i .i64 y))]) (fun y=>[.box [.d (.s x.bf),.d (.sl (x.aH.map ah.enc))]]::S)
   (fun y=>y≤x.aH.length∧jO x=jS (x.aH.drop y)) (fun y=>x.aH.length-y) 0 rfl rfl ⟨Nat.zero_le _,hf⟩ ?_
  rintro i ⟨p1,p2⟩
  refine W1 ?_
  refine S0 (fun hb h=>?_) fun hb h=>?_
  ·have hi:i<x.aH.length:=by omega
   have hsz':=oI hi hsz
   rw[Gb hi] at p2
   refine W3 ?_
   refine C2 (ih x.aH[i] (by have:=ah.wL hi;omega) (by omega)) ?_
   refine S0 (fun hb h=>?_) fun hb h=>?_
   ·rw[p2,h,Bool.false_and]
   ·exact bG (i+1) (by omega) rfl rfl ⟨by omega,by rw[p2,h,Bool.true_and]⟩
  ·have hi:i=x.aH.length:=by omega
   rw[hi,List.drop_length,jS] at p2
   rw[p2]
theorem Mj(x:ah)(hsz:x.sz≤67108864):aA Tryz.prog 152 [x.v] (.c (.d (.b (jO x)))):=zJ _ x (Nat.lt_succ_self _) hsz
theorem sQ:∀n:Nat,∀x:ah,SizeOf.sizeOf x<n→x.sz≤67108864→aA Tryz.prog 153 [x.v] (.c (.d (.i .i64 (gP x))))
 |0=>fun x h=>by omega
 |n+1=>by
  have ih:=sQ n
  intro x hn hsz S
  have hts:=qM hsz
  have hd:=BF x
  have hd1:=rT x
  have hd2:=xQ hsz
  refine au (rs:=[.tmp 2]) Tryz.checked.mixed Tryz.func153 Tryz.ntmps153 rfl rfl rfl rfl rfl ?_
  refine W1 ?_
  refine S0 (fun hb h=>?_) fun hb h=>?_
  ·rw[if_neg h] at hd
   rw[hd];rfl
  rw[if_pos h] at hd
  refine aT (ι:=Nat×Nat) Tryz.checked.mixed rfl [1,3,4] (fun y=>[.c (.ptr (0,0) 0),.c (.d (.i .i64 y.2)),.c (.d (.i .i64 y.1))]) (fun y=>[.box [.d (.s x.bf),.d (.sl (x.aH.map ah.enc))]]::S)
   (fun y=>y.1≤x.aH.length∧gP x=max y.2 (iZ (x.aH.drop y.1))+1) (fun y=>x.aH.length-y.1) (0,0) rfl rfl ⟨Nat.zero_le _,by simp[hd]⟩ ?_
  rintro⟨i,c⟩ ⟨p1,p2⟩
  simp only at p1 p2
  refine W1 ?_
  refine S0 (fun hb h=>?_) fun hb h=>?_
  ·have hi:i<x.aH.length:=by omega
   have hsz':=oI hi hsz
   rw[vN hi] at p2
   refine W3 ?_
   refine C2 (ih x.aH[i] (by have:=ah.wL hi;omega) (by omega)) ?_
   refine C2 (Eo _ _) ?_
   rw[show max (c:Int) ((gP x.aH[i]:Int))=((max c (gP x.aH[i]):Nat):Int) by omega]
   exact bG (i+1,max c (gP x.aH[i])) (by simp only;omega) rfl rfl ⟨by simp only;omega,by simp only;omega⟩
  ·have hi:i=x.aH.length:=by omega
   rw[hi,List.drop_length,iZ] at p2
   refine W3 ?_
   exact int_eq (by omega)
theorem Cm(x:ah)(hsz:x.sz≤67108864):aA Tryz.prog 153 [x.v] (.c (.d (.i .i64 (gP x)))):=sQ _ x (Nat.lt_succ_self _) hsz
theorem pX(x:ah)(hsz:x.sz≤67108864):aA Tryz.prog 77 [x.v] (.c (.d (.b (iy x)))):=fun S=>by
 refine au (rs:=[.tmp 2]) Tryz.checked.mixed Tryz.func77 Tryz.ntmps77 rfl rfl rfl rfl rfl ?_
 refine W1 ?_
 refine C2 (Mi x 900 (by omega) (by omega) hsz) ?_
 refine S0 (fun hb h=>?_) fun hb h=>?_
 ·have h1:=(iQ (l:=900) (a:=fU x) (by omega)).2
  refine C2 (Mj x hsz) ?_
  refine S0 (fun hb h=>?_) fun hb h=>?_
  ·have hf:=h
   refine C2 (Cm x hsz) ?_
   refine aF ?_
   unfold iy
   rw[hf,Bool.true_and]
   exact decide_eq_decide.2 (by omega)
  ·refine aF ?_
   unfold iy
   rw[h,Bool.false_and]
 ·have h1:=iC (l:=900) (a:=fU x) (by omega)
  refine aF ?_
  unfold iy
  rw[decide_eq_false (by omega),Bool.and_false]
end Go.Proofs.YtcfhnaohbaplhaaGreatDoor
namespace Go.Ab
theorem OP{w:World}{σ:Nat→Nat}(hl:∀b,b<w.heap.size∨σ b=0)(hg:mG w σ):bM w σ [] []:=
 ⟨fun k o h=>(by cases h),fun k k' o o' h h' b h1=>(by cases h1),⟨rfl,fun l fr h=>(by cases h)⟩,hl,hg⟩
theorem JE{P:Program}{f:FuncId}{args:List V}{r:V}(h:aA P f args r){w:World}{σ:Nat→Nat}(hl:∀b,b<w.heap.size∨σ b=0)(hg:mG w σ){vs:List Value}(hv:jr w σ [] [] args vs):
 Calls P f vs.toArray w fun e w'=>∃v σ',e=.returned v∧aW w' σ' [] [] r v∧Grow w σ w' σ'∧mG w' σ':=
 ((h []).2 w σ [] vs (OP hl hg) hv).mono fun e w' ⟨v,r',S',σ',β',he,hS,hk,hst,Bh,hr,hS'⟩=>by
   subst hr hS'
   cases β' with
   |cons a l=>have:=hS.shape.1;simp at this
   |nil=>exact⟨v,σ',he,Bh,⟨hst.size,hst.os,hst.output,fun b hb=>hst.far b hb (fun⟨k,o,h,e,_⟩=>by cases e),hS.live⟩,hS.l8⟩
theorem OQ{x:V}{vs:List Value}{w:World}{σ:Nat→Nat}{S:Store}{β:Hs}(h:jr w σ S β [x] vs):∃v,vs=[v]∧aW w σ S β x v:=by
 obtain⟨hl,h⟩:=h
 obtain⟨v,e0,h0⟩:=h 0 x rfl
 match vs,hl,e0 with
 |[a],_,e0=>simp at e0;subst e0;exact⟨_,rfl,h0⟩
theorem OT(x:ah):dB x≠[]:=by
 rw[EF]
 split
 ·simp
 ·assumption
theorem Sy{w:World}{σ:Nat→Nat}{S:Store}{β:Hs}{x:ah}{u:Value}(h:aW w σ S β x.v u):∃lv,u=.agg #[.string ⟨x.bf.toArray⟩,lv]∧bq w σ (.sl (x.aH.map ah.enc)) lv∧lv.oneCell'=true:=by
 rw[←ah.jI,ah.aB] at h
 obtain⟨a,rfl,hl,h⟩:=h
 obtain⟨v0,e0,h0,_⟩:=h 0 _ rfl
 obtain⟨v1,e1,h1,h1c⟩:=h 1 _ rfl
 obtain rfl:v0=.string ⟨x.bf.toArray⟩:=by cases h0;rfl
 refine⟨v1,?_,h1,h1c⟩
 have:a.toList=[.string ⟨x.bf.toArray⟩,v1]:=by
  match hq:a.toList,hl,e0,e1 with
  |[p,q],_,e0,e1=>simp at e0 e1;rw[e0,e1]
 rw[←this]
end Go.Ab
namespace Go.Proofs.YtcfhnaohbaplhaaGreatDoor
open Go Go.Ab Go.RowKit
set_option maxHeartbeats 2000000 in
theorem Gd(x:ah)(hsz:x.sz≤67108864)(w:World)(σ:Nat→Nat)(hl:∀b,b<w.heap.size∨σ b=0)(hgl:mG w σ)(lv:Value)(hr:bq w σ (.sl (x.aH.map ah.enc)) lv)(hlv:lv.oneCell'=true):
 Calls Tryz.prog 48 #[.agg #[.string ⟨x.bf.toArray⟩,lv]] w fun e w'=>e=.returned (.string ⟨(pV x).toArray⟩)∧∃σ',Grow w σ w' σ'∧mG w' σ':=by
 obtain⟨wb,hwb⟩:∃wb,wb=w.alloc (.cells #[.string ⟨x.bf.toArray⟩,lv] 78):=⟨_,rfl⟩
 have hg0:Grow w σ wb σ:=by
  rw[hwb]
  refine⟨by simp,rfl,rfl,fun b hb=>⟨Lib.alloc_old w _ b hb,rfl⟩,fun b=> ?_⟩
  rcases hl b with h|h
  ·left;simp;omega
  ·exact .inr h
 have hrb:=bq.mono hg0.near hr
 have hv:jr wb σ [] [] [x.v] [.agg #[.string ⟨x.bf.toArray⟩,lv]]:=by
  refine⟨rfl,fun j y hy=> ?_⟩
  match j,hy with
  |0,hy=>
   simp at hy
   subst hy
   refine⟨_,rfl,?_⟩
   rw[←ah.jI,ah.aB]
   refine⟨_,rfl,rfl,fun j y hy=> ?_⟩
   match j,hy with
   |0,hy=>simp at hy;subst hy;exact⟨_,rfl,.s _,rfl⟩
   |1,hy=>simp at hy;subst hy;exact⟨_,rfl,hrb,hlv⟩
 have hc:=JE (pW x hsz) hg0.live (hgl.near hg0.near) hv
 have hc:Calls Tryz.prog 118 #[.agg #[.string ⟨x.bf.toArray⟩,lv]] wb fun e w'=>e=.returned (.bool (iy x))∧∃σ',Grow wb σ w' σ'∧mG w' σ':=
  hc.mono fun e w' ⟨v,σ',he,Bh,hg,hgl⟩=>by
   obtain rfl:v=.bool (iy x):=by cases Bh.1;rfl
   exact⟨he,σ',hg,hgl⟩
 rw[hwb] at hc hg0
 have HF:Aside (pV x=if iy x=true then dB x else []):=rfl
 obtain⟨T,hT⟩:∃T,T=pV x:=⟨_,rfl⟩
 rw[←hT] at HF ⊢
 clear hT
 by_cases Mk:iy x=true
 ·rw[if_pos Mk] at HF
  rw[Mk] at hc
  go_enter Tryz.func48,Tryz.ntmps48
  go_wp2_with (go_at_call 118;refine hc.mono ?_)
  rintro e w1 ⟨rfl,σ1,hg1,OU⟩
  have hlt:w.heap.size<(w.alloc (.cells #[.string ⟨x.bf.toArray⟩,lv] 78)).heap.size:=by simp
  have hq:w1.heap[w.heap.size]? =_:=(hg1.old _ hlt).1.trans (heap_alloc_new w _)
  have c0:w1.cell? ⟨w.heap.size,0,none⟩=some (.string ⟨x.bf.toArray⟩):=by rw[Lib.cell_of_heap hq];rfl
  have c1:w1.cell? ⟨w.heap.size,1,none⟩=some lv:=by rw[Lib.cell_of_heap hq];rfl
  have hlt1:w.heap.size<w1.heap.size:=Nat.lt_of_lt_of_le hlt hg1.size
  have hq1:=(Lib.alloc_old w1 (.cells #[.pointer none,.slice none 0 0] 156) _ hlt1).trans hq
  have d0:(w1.alloc (.cells #[.pointer none,.slice none 0 0] 156)).cell? ⟨w.heap.size,0,none⟩=some (.string ⟨x.bf.toArray⟩):=by rw[Lib.cell_of_heap hq1];rfl
  have d1:(w1.alloc (.cells #[.pointer none,.slice none 0 0] 156)).cell? ⟨w.heap.size,1,none⟩=some lv:=by rw[Lib.cell_of_heap hq1];rfl
  have hr1:bq w1 σ1 (.sl (x.aH.map ah.enc)) lv:=bq.mono (hg0.trans hg1).near hr
  have hbd:Lib.IsBuilderF 156 5 w1.heap.size w1.heap.size [] (w1.alloc (.cells #[.pointer none,.slice none 0 0] 156)):=
   .inl ⟨Nat.le_refl _,_,heap_alloc_new w1 _,⟨rfl,.inl ⟨rfl,rfl⟩⟩,by simp[Value.ownBlock]⟩
  have hW:=zq w1 σ1 (x.sz+1) x (Nat.lt_succ_self _) w1.heap.size [] _ lv hr1 ((Below.refl _ w1).alloc (Nat.le_refl _) _) hbd (by
   have:=vH x
   simp only[List.length_nil];omega)
  clear hq hbd hq1
  go_wp2_with (go_at_call 119;refine hW.mono ?_)
  rintro e w2 ⟨rfl,h2,hb2,hk2⟩
  rw[List.nil_append] at h2
  have hT:=Js w1.heap.size w1.heap.size (dB x) w2 h2 (OT x)
  go_wp2_with (go_at_call 120;refine hT.mono ?_)
  rintro e w3 ⟨rfl,hb3⟩
  go_wp2
  go_ret
  rw[HF.out]
  have hb:Below w1.heap.size w1 w3:=(((Below.refl _ w1).alloc (Nat.le_refl _) _).trans hb2).trans hb3
  have hg3:Grow w1 σ1 w3 σ1:=⟨hb.size,hb.os,hb.output,fun k hk=>⟨hb.block k hk,rfl⟩,fun k=>(hg1.live k).elim (fun h=>.inl (Nat.lt_of_lt_of_le h hb.size)) .inr⟩
  exact⟨rfl,σ1,(hg0.trans hg1).trans hg3,OU.near hg3.near⟩
 ·rw[if_neg Mk] at HF
  simp only[Bool.not_eq_true] at Mk
  rw[Mk] at hc
  go_enter Tryz.func48,Tryz.ntmps48
  go_wp2_with (go_at_call 118;refine hc.mono ?_;rintro e w1 ⟨rfl,σ1,hg1,OU⟩)
  go_ret
  rw[HF.out]
  exact⟨rfl,σ1,hg0.trans hg1,OU⟩
theorem AO(x:ah)(hsz:x.sz≤67108864):aA Tryz.prog 48 [x.v] (.c (.d (.s (pV x)))):=fun S=>by
 refine⟨⟨_,Tryz.func48,by kernel_rfl,by kernel_rfl⟩,fun w σ β vs hS hv=> ?_⟩
 obtain⟨u,rfl,hu⟩:=OQ hv
 obtain⟨lv,rfl,hr,hlv⟩:=Sy hu
 refine(Gd x hsz w σ hS.live hS.l8 lv hr hlv).mono fun e w' ⟨he,σ',hg,_⟩=> ?_
 exact⟨_,.c (.d (.s (pV x))),S,σ',β,he,hS.grow hg,Keep.refl _ _,Step.iO hg,⟨.s _,rfl⟩,rfl,rfl⟩
end Go.Proofs.YtcfhnaohbaplhaaGreatDoor
namespace Go.Ab
mutual
def nV:D→Nat
 | .sl es=>oU es+1
 | .ol _ _=>0
 | .b _=>0
 | .i _ _=>0
 | .s _=>0
 | .o _=>0
def nW:List D→Nat
 |[]=>0
 |d::ds=>nV d+nW ds
def oU:List (List D)→Nat
 |[]=>0
 |r::rs=>nW r+oU rs
end
mutual
def mh:D→Nat→D
 | .sl es,n=>.ol n (eF es (n+1))
 | .ol m es,_=>.ol m es
 | .b x,_=>.b x
 | .i k x,_=>.i k x
 | .s l,_=>.s l
 | .o v,_=>.o v
def gQ:List D→Nat→List D
 |[],_=>[]
 |d::ds,n=>mh d n::gQ ds (n+nV d)
def eF:List (List D)→Nat→List (List D)
 |[],_=>[]
 |r::rs,n=>gQ r n::eF rs (n+nW r)
end
mutual
def jX:D→Bool
 | .sl es=>fC es
 | .ol _ _=>false
 | .b _=>true
 | .i _ _=>true
 | .s _=>true
 | .o _=>false
def eY:List D→Bool
 |[]=>true
 |d::ds=>jX d&&eY ds
def fC:List (List D)→Bool
 |[]=>true
 |r::rs=>eY r&&fC rs
end
theorem vP:∀a b n,eF (a++b) n=eF a n++eF b (n+oU a)
 |[],b,n=>by simp[eF,oU]
 |d::ds,b,n=>by rw[List.cons_append,eF,eF,vP ds b,oU,Nat.add_assoc];rfl
theorem fB:∀r n,(gQ r n).length=r.length
 |[],_=>rfl
 |d::ds,n=>by rw[gQ,List.length_cons,fB ds,List.length_cons]
theorem nX:∀rs n,(eF rs n).length=rs.length
 |[],_=>rfl
 |r::rs,n=>by rw[eF,List.length_cons,nX rs,List.length_cons]
theorem zK{z:Nat}:∀{rs:List (List D)} {n:Nat},(∀r∈rs,r.length=z)→∀r∈eF rs n,r.length=z
 |[],_,_,r,h=>by rw[eF] at h;cases h
 |a::rs,n,ha,r,h=>by
  rw[eF] at h
  rcases List.mem_cons.1 h with e|h
  ·rw[e,fB];exact ha a (by simp)
  ·exact zK (fun r hr=>ha r (by simp[hr])) r h
theorem dL:∀a b,eY (a++b)=(eY a&&eY b)
 |[],b=>by simp[eY]
 |d::ds,b=>by rw[List.cons_append,eY,eY,dL ds b,Bool.and_assoc]
theorem fV{α:Type}{f:α→List D}:∀{xs:List α},(∀x∈xs,eY (f x)=true)→fC (xs.map f)=true
 |[],_=>rfl
 |x::xs,h=>by
  rw[List.map_cons,fC,h x (by simp),fV fun y hy=>h y (by simp[hy])];rfl
section
variable {P:Program} {w:World} {σ σ':Nat→Nat} {S:Store} {β:Hs} {N:Nat} {s:St}
mutual
theorem Sz:∀(d:D) (n:Nat) (v:Value),bq w σ (mh d n) v→bq w σ d v
 | .sl es,n,v,h=>by
   rw[mh] at h
   have hl:=nX es (n+1)
   have hrec:=PI es (n+1)
   generalize eF es (n+1)=q at h hl hrec
   cases h with
   |pR n a cap=>
    have:es=[]:=List.eq_nil_of_length_eq_zero (by simpa using hl.symm)
    subst this
    exact .nil a cap
   |ol n b off cap aC q vals c t hcap hlen hb hσ hfit hc hv=>
    obtain⟨r1,r2⟩:=hrec vals hv
    rw[hl] at hcap hfit hc ⊢
    refine .sl b off cap aC es vals c t (0,0) hcap (fun e he=> ?_) hb (by omega) hc r2
    obtain⟨e',h1,h2⟩:=r1 e he
    rw[←h2];exact hlen e' h1
 | .ol m es,n,v,h=>h
 | .b x,n,v,h=>h
 | .i k x,n,v,h=>h
 | .s l,n,v,h=>h
 | .o u,n,v,h=>h
theorem SA:∀(r:List D) (n:Nat) (vals:Nat→Value),(∀j d,(gQ r n)[j]? =some d→bq w σ d (vals j))→∀(j:Nat) d,r[j]? =some d→bq w σ d (vals j)
 |[],n,vals,h,j,d,hd=>by simp at hd
 |a::r,n,vals,h,j,d,hd=>by
  cases j with
  |zero=>
   simp at hd;subst hd
   exact Sz a n _ (h 0 _ rfl)
  |succ j=>exact SA r (n+nV a) (fun i=>vals (i+1)) (fun i d hi=>h (i+1) d (by rw[gQ];exact hi)) j d hd
theorem PI:∀(rs:List (List D)) (n:Nat) (vals:Nat→Value),(∀j d,(eF rs n).flatten[j]? =some d→bq w σ d (vals j))→
 (∀e∈rs,∃e'∈eF rs n,e'.length=e.length)∧∀(j:Nat) d,rs.flatten[j]? =some d→bq w σ d (vals j)
 |[],n,vals,h=>⟨fun e he=>(by cases he),fun j d hd=>(by simp at hd)⟩
 |r::rs,n,vals,h=>by
  rw[eF,List.flatten_cons] at h
  have h1:=SA r n vals fun j d hd=>h j d (by rw[List.getElem?_append_left (List.getElem?_eq_some_iff.1 hd).1];exact hd)
  obtain⟨h2,h3⟩:=PI rs (n+nW r) (fun i=>vals (r.length+i)) fun j d hd=>h (r.length+j) d (by rw[List.getElem?_append_right (by rw[fB];omega),fB,Nat.add_sub_cancel_left];exact hd)
  refine⟨fun e he=> ?_,fun j d hd=> ?_⟩
  ·rcases List.mem_cons.1 he with e1|he
   ·subst e1;exact⟨_,by rw[eF];exact List.mem_cons_self ..,fB _ _⟩
   ·obtain⟨e',q1,q2⟩:=h2 e he
    exact⟨e',by rw[eF];exact List.mem_cons_of_mem _ q1,q2⟩
  ·rw[List.flatten_cons] at hd
   by_cases hj:j<r.length
   ·rw[List.getElem?_append_left hj] at hd;exact h1 j d hd
   ·rw[List.getElem?_append_right (by omega)] at hd
    have:=h3 (j-r.length) d hd
    rwa [show r.length+(j-r.length)=j by omega] at this
end
theorem EM{r:List D}{n:Nat}:Less (.agg ((gQ r n).map .d)) (.agg (r.map .d)):=by
 rintro w σ S β v ⟨a,ha,hl,hc⟩
 rw[List.length_map,fB] at hl
 refine⟨a,ha,by rw[List.length_map];exact hl,?_⟩
 have key:∀(r:List D) (n:Nat) (vs:List Value),(∀(j:Nat) (x:C),((gQ r n).map C.d)[j]? =some x→∃v:Value,vs[j]? =some v∧eP w σ S β x v∧v.oneCell'=true)→
  ∀(j:Nat) (x:C),(r.map C.d)[j]? =some x→∃v:Value,vs[j]? =some v∧eP w σ S β x v∧v.oneCell'=true:=by
  intro r
  induction r with
  |nil=>intro n vs h j x hx;simp at hx
  |cons d ds ih=>
   intro n vs h j x hx
   cases j with
   |zero=>
    simp at hx;subst hx
    obtain⟨v,h1,h2,h3⟩:=h 0 (.d (mh d n)) rfl
    exact⟨v,h1,Sz d n v h2,h3⟩
   |succ j=>
    have:=ih (n+nV d) vs.tail (fun i y hy=>by
     obtain⟨v,h1,h2⟩:=h (i+1) y (by rw[gQ,List.map_cons];exact hy)
     refine⟨v,?_,h2⟩
     cases vs with
     |nil=>simp at h1
     |cons a b=>exact h1) j x hx
    obtain⟨v,h1,h2⟩:=this
    refine⟨v,?_,h2⟩
    cases vs with
    |nil=>simp at h1
    |cons a b=>exact h1
 exact key r n _ hc
inductive kL:List V→List V→Prop
 |nil:kL [] []
 |cons {x y:V} {xs ys:List V}:Less x y→kL xs ys→kL (x::xs) (y::ys)
theorem kL.length:∀{xs ys:List V},kL xs ys→xs.length=ys.length
 |_,_,.nil=>rfl
 |_,_,.cons _ h=>by rw[List.length_cons,List.length_cons,kL.length h]
theorem kL.at:∀{xs ys:List V},kL xs ys→∀(j:Nat) (x y:V),xs[j]? =some x→ys[j]? =some y→Less x y
 |_,_,.nil,j,x,y,h,_=>by simp at h
 |_,_,.cons a h,0,x,y,h1,h2=>by simp at h1 h2;subst h1;subst h2;exact a
 |_,_,.cons a h,j+1,x,y,h1,h2=>kL.at h j x y (by simpa using h1) (by simpa using h2)
theorem aA.args{f:FuncId}{args args':List V}{r:V}(h:aA P f args' r)(hl:kL args args'):aA P f args r:=fun S=>(h S).weaken hl.length fun j x y hx hy w σ β v hr=>hl.at j x y hx hy w σ S β v hr
theorem sS{dr:Option Nat}{f:FuncId}{args args':List V}{dst:Option Nat}{K:St→Prop}{r:V}(h:aA P f args' r)(hl:kL (args.map V.jL) args')(hK:K (s.put dst r)):gM P dr f args s dst K:=bW (h.args hl) hK
def OV(row:Bool)(j n:Nat)(es:List (List D))(tm:List (Nat×V)):List (Nat×V):=tm.map fun x=>(x.1,x.2.fP (C.lab row j n es))
theorem Ml{row:Bool}{j n:Nat}{es:List (List D)}{tm:List (Nat×V)}{t:Nat}:look (OV row j n es tm) t=(look tm t).fP (C.lab row j n es):=uf (f:=V.fP (C.lab row j n es)) rfl tm t
def JF(j n:Nat)(tm:List (Nat×V))(own:List Obj)(Ω:Store):Option Obj→St
 |some (.dw _ es)=>⟨OV true j n es tm,(own.map (Obj.fP (C.lab true j n es))).set j .dead::Ω⟩
 |some (.dF m _ es)=>⟨OV false j m es tm,(own.map (Obj.fP (C.lab false j m es))).set j .dead::Ω⟩
 |_=>⟨tm,own::Ω⟩
def JG(j n:Nat)(s:St):St:=
 match s.st with
 |own::Ω=>JF j n s.tm own Ω (own[j]?)
 |[]=>s
def zL:Nat→Nat→St→St
 |0,_,s=>s
 |k+1,n,s=>zL k n (JG k n s)
def sU(n:Nat)(s:St):St:=
 match s.st with
 |own::_=>zL own.length n s
 |[]=>s
theorem Gf(j n:Nat)(s:St):eD N s (JG j n s):=by
 obtain⟨tm,st⟩:=s
 cases st with
 |nil=>exact eD.refl _ _
 |cons own Ω=>
  show eD N ⟨tm,own::Ω⟩ (JF j n tm own Ω (own[j]?))
  cases ho:own[j]? with
  |none=>exact eD.refl _ _
  |some o=>
   cases o with
   |dw z es=>exact fun a w σ β hR=>GH j n z es true ho hR
   |dF m z es=>exact fun a w σ β hR=>GH j m z es false ho hR
   |_=>exact eD.refl _ _
theorem xk:∀(k n:Nat) (s:St),eD N s (zL k n s)
 |0,n,s=>eD.refl _ _
 |k+1,n,s=>(Gf k n s).trans (xk k n _)
theorem vQ(n:Nat)(s:St):eD N s (sU n s):=by
 unfold sU
 split
 ·exact xk _ _ _
 ·exact eD.refl _ _
theorem OW{j n:Nat}{tm:List (Nat×V)}{own:List Obj}{Ω:Store}:JG j n ⟨tm,own::Ω⟩=JF j n tm own Ω (own[j]?):=rfl
theorem Mq{n:Nat}{tm:List (Nat×V)}{own:List Obj}{Ω:Store}:sU n ⟨tm,own::Ω⟩=zL own.length n ⟨tm,own::Ω⟩:=rfl
def JH(P:Program)(n:Nat)(rs:List ResultVar)(post:V→Store→Prop)(e:Exit)(s:St):Prop:=MX P rs post e (sU n s)
theorem OX{n:Nat}{rs:List ResultVar}{post:V→Store→Prop}:JH P n rs post .ret s=D8 P rs post (sU n s):=rfl
theorem Gg{n:Nat}{rs:List ResultVar}{post:V→Store→Prop}:JH P n rs post .normal s=D8 P rs post (sU n s):=rfl
theorem rD(n:Nat){f:FuncId}{fn:Func}{c:Code}{args:List V}{post:V→Store→Prop}{rs:List ResultVar}(gL:P.follows .mixedOrders=true)(hf:P.funcs[f]? =some fn)(hN:fn.ntmps=N)
 (hb:fn.body=some c) (hn:(fn.name== "runtime.NumGoroutine")=false) (hr:fn.results.toList=rs) (hl:Nat.ble args.length N=true) (hok:codeOk N c=true)
 (h:CW P N c (JH P n rs post) ⟨jN (args.map (V.up 1)) 0,[.seed n]::S⟩):bN P f args S post:=by
 subst hN
 subst hr
 exact rP hf hb hn (Nat.le_of_ble_eq_true hl) (Ao n (DI (vQ n) (jf gL c _ _ hok h)))
theorem OY{row:Bool}{j n l i:Nat}{es es':List (List D)}:C.lab row j n es (.bL (1+l,i) es')=.bL (1+l,i) es':=by rw[Nat.add_comm];rfl
theorem OZ{row:Bool}{j n i:Nat}{es es':List (List D)}:C.lab row j n es (.bL (0,i) es')=if i=j∧row=false∧es'.length=es.length then .d (.ol n es) else .bL (0,i) es':=rfl
theorem O0{row:Bool}{j n l i:Nat}{es:List (List D)}:C.lab row j n es (.gI (1+l,i))=.gI (1+l,i):=by rw[Nat.add_comm];rfl
theorem O1{row:Bool}{j n i:Nat}{es:List (List D)}:C.lab row j n es (.gI (0,i))=if i=j∧row=true then .d (.ol n es) else .gI (0,i):=rfl
theorem U6{row:Bool}{j n:Nat}{es:List (List D)}{x:D}:C.lab row j n es (.d x)=.d x:=rfl
theorem QL{row:Bool}{j n:Nat}{es:List (List D)}:C.lab row j n es .any=.any:=rfl
theorem QM{row:Bool}{j n:Nat}{es es':List (List D)}:C.lab row j n es (.aY es')=.aY es':=rfl
theorem QN{row:Bool}{j n m:Nat}{es es':List (List D)}:C.lab row j n es (.gu m es')=.gu m es':=rfl
theorem QO{row:Bool}{j n off:Nat}{es:List (List D)}{k:Key}:C.lab row j n es (.ptr k off)=.ptr k off:=rfl
theorem SB{row:Bool}{j n f:Nat}{es:List (List D)}{caps:List (Key×Nat)}:C.lab row j n es (.fn f caps)=.fn f caps:=rfl
theorem O3{row:Bool}{j n:Nat}{es:List (List D)}{cs:List D}:C.lab row j n es (.gG cs)=.gG cs:=rfl
end
attribute [go_sem ↓] OX Gg Mq
attribute [go_sem] zL OW JF Ml V.fP Obj.fP OY OZ O0 O1 U6 QL QM QN QO SB O3
end Go.Ab
namespace Go.Ab
def PK(k:Key):Nat→List (List D)→V
 |0,_=>.c (.aY [])
 |_+1,es=>.c (.bL k es)
def PL(z:Nat):Nat→List (List D)→List Obj
 |0,_=>[]
 |_+1,es=>[.tok z es]
theorem eT(k:Key)(es:List (List D)):PK k 0 es=.c (.aY []):=rfl
theorem dN(k:Key)(n:Nat)(es:List (List D)):PK k (n+1) es=.c (.bL k es):=rfl
theorem eU(z:Nat)(es:List (List D)):PL z 0 es=[]:=rfl
theorem dO(z n:Nat)(es:List (List D)):PL z (n+1) es=[.tok z es]:=rfl
end Go.Ab
namespace Go.Proofs.YtcfhnaohbaplhaaGreatDoor
open Go Go.Ab
theorem QS(xs:List (List UInt8))(b:List UInt8)(hl:xs.length≤1073741824)(hf:(dG b xs).length≤1073741824)(hp:∀i,(dG b (xs.take i)).length≤(dG b xs).length):aA Tryz.prog 70 [.c (.d (.sl (xs.map encS))),.c (.d (.s b))] (.c (.d (.s (dG b xs)))):=fun S=>by
 refine au (rs:=[.tmp 4]) Tryz.checked.mixed Tryz.func70 Tryz.ntmps70 rfl rfl rfl rfl rfl ?_
 refine W1 ?_
 refine aT (ι:=Nat) Tryz.checked.mixed rfl [0,1,5,6] (fun i=>[.c (.d (.sl (xs.map encS))),.c (.d (.s b)),PK (0,0) i (jE (dG b (xs.take i))),.c (.d (.i .i64 i))]) (fun i=>PL 1 i (jE (dG b (xs.take i)))::S)
  (fun i=>i≤xs.length) (fun i=>xs.length-i) 0 rfl rfl (Nat.zero_le _) ?_
 rintro i p1
 have hi1:=hp (i+1)
 by_cases hi:i<xs.length
 ·have hst:=uD b xs i hi
  cases i with
  |zero=>
   simp -implicitDefEqProofs (disch:=omega) only[go_sem,eT,dN,eU,dO]
   with_reducible refine dV (fun hb=> ?_) (fun hb=> ?_)<;>have h:=hb<;>(try simp only[wf_preprocess] at h)<;>simp -implicitDefEqProofs (disch:=omega) only[go_sem,hb,eT,dN,eU,dO]<;>refine W3 ?_
   ·refine W3 ?_
    with_reducible refine dV (fun hb=> ?_) (fun hb=> ?_)<;>have h:=hb<;>(try simp only[wf_preprocess] at h)<;>simp -implicitDefEqProofs (disch:=omega) only[go_sem,hb,eT,dN,eU,dO]<;>refine W3 ?_
    ·omega
    ·have e:jE (dG b (xs.take (0+1)))=xs[0].map (fun b=>[D.i .u8 b.toNat]):=by rw[hst,if_pos rfl];rfl
     rw[hst,if_pos rfl] at hi1
     exact⟨by omega,bG (0+1) (by omega) (by rw[dN,e];rfl) (by rw[dO,e]) (by omega)⟩
   ·omega
  |succ j=>
   simp -implicitDefEqProofs (disch:=omega) only[go_sem,eT,dN,eU,dO]
   with_reducible refine dV (fun hb=> ?_) (fun hb=> ?_)<;>have h:=hb<;>(try simp only[wf_preprocess] at h)<;>simp -implicitDefEqProofs (disch:=omega) only[go_sem,hb,eT,dN,eU,dO]<;>refine W3 ?_
   ·refine W3 ?_
    with_reducible refine dV (fun hb=> ?_) (fun hb=> ?_)<;>have h:=hb<;>(try simp only[wf_preprocess] at h)<;>simp -implicitDefEqProofs (disch:=omega) only[go_sem,hb,eT,dN,eU,dO]<;>refine W3 ?_
    ·have e:jE (dG b (xs.take (j+1+1)))=jE (dG b (xs.take (j+1)))++b.map (fun b=>[D.i .u8 b.toNat])++xs[j+1].map (fun b=>[D.i .u8 b.toNat]):=by
      rw[hst,if_neg (by omega),uR,uR];rfl
     rw[hst,if_neg (by omega)] at hi1
     simp only[List.length_append] at hi1
     refine⟨by rw[uS];omega,⟨by omega,hi⟩,fun y hy=> ?_,⟨_,rfl,rfl⟩,by rw[List.length_append,List.length_map,uS];omega,?_⟩
     ·obtain⟨z,_,rfl⟩:=List.mem_map.1 hy
      rfl
     ·exact bG (j+1+1) (by omega) (by rw[dN,e];rfl) (by rw[dO,e]) (by omega)
    ·omega
   ·omega
 ·have hi:i=xs.length:=by omega
  cases i with
  |zero=>
   simp -implicitDefEqProofs (disch:=omega) only[go_sem,eT,dN,eU,dO]
   with_reducible refine dV (fun hb=> ?_) (fun hb=> ?_)<;>have h:=hb<;>(try simp only[wf_preprocess] at h)<;>simp -implicitDefEqProofs (disch:=omega) only[go_sem,hb,eT,dN,eU,dO]<;>refine W3 ?_
   ·omega
   ·rw[List.eq_nil_of_length_eq_zero hi.symm];rfl
  |succ j=>
   simp -implicitDefEqProofs (disch:=omega) only[go_sem,eT,dN,eU,dO]
   with_reducible refine dV (fun hb=> ?_) (fun hb=> ?_)<;>have h:=hb<;>(try simp only[wf_preprocess] at h)<;>simp -implicitDefEqProofs (disch:=omega) only[go_sem,hb,eT,dN,eU,dO]<;>refine W3 ?_
   ·omega
   ·refine⟨fun y hy=>Jv _ y hy,?_⟩
    rw[F8,hi,List.take_length]
theorem zM:∀n:Nat,∀x:ah,SizeOf.sizeOf x<n→x.sz≤67108864→aA Tryz.prog 111 [x.v] (.c (.d (.s (dB x))))
 |0=>fun x h=>by omega
 |n+1=>by
  have ih:=zM n
  intro x hn hsz S
  have ht:=EF x
  have hln:=vH x
  have hts:=qM hsz
  have hll:x.aH.length≤67108864:=by
   have h2:=l7 x
   omega
  have hE:∀i (hi:i<x.aH.length),(((x.aH.take (i+1)).map dB).map encS)=((x.aH.take i).map dB).map encS++[[.s (dB x.aH[i])]]:=fun i hi=>by
   rw[List.take_succ_eq_append_getElem hi,List.map_append,List.map_append];rfl
  refine au (rs:=[.tmp 2]) Tryz.checked.mixed Tryz.func111 Tryz.ntmps111 rfl rfl rfl rfl rfl ?_
  refine W1 ?_
  refine S0 (fun hb h=>?_) fun hb h=>?_
  ·rw[ht,if_neg (by simpa using h)]
  ·rw[if_pos (by simpa using h)] at ht
   have hf:(dG [32] (x.aH.map dB)).length≤1073741824:=by
    rw[ht] at hln
    simp only[List.length_append,List.length_cons,List.length_nil] at hln
    omega
   have hj:=QS (x.aH.map dB) [32] (by rw[List.length_map];omega) hf (zn _ _)
   refine aT (ι:=Nat) Tryz.checked.mixed rfl [1,3,4] (fun i=>[.c (.ptr (0,0) 0),PK (0,1) i (((x.aH.take i).map dB).map encS),.c (.d (.i .i64 i))]) (fun i=>(.box [.d (.s x.bf),.d (.sl (x.aH.map ah.enc))]::PL 1 i (((x.aH.take i).map dB).map encS))::S)
    (fun i=>i≤x.aH.length) (fun i=>x.aH.length-i) 0 rfl rfl (Nat.zero_le _) ?_
   rintro i p1
   by_cases hi:i<x.aH.length
   ·have hsz':=oI hi hsz
    have he:=hE i hi
    have hl:=ah.wL hi
    cases i with
    |zero=>
     simp -implicitDefEqProofs (disch:=omega) only[go_sem,eT,dN,eU,dO]
     with_reducible refine dV (fun hb=> ?_) (fun hb=> ?_)<;>have h:=hb<;>(try simp only[wf_preprocess] at h)<;>simp -implicitDefEqProofs (disch:=omega) only[go_sem,hb,eT,dN,eU,dO]<;>refine W3 ?_
     ·refine W3 ?_
      refine C2 (ih x.aH[0] (by omega) hsz'.1) ?_
      exact bG (0+1) (by omega) (by rw[dN,he];rfl) (by rw[dO,he];rfl) (by omega)
     ·omega
    |succ j=>
     simp -implicitDefEqProofs (disch:=omega) only[go_sem,eT,dN,eU,dO]
     with_reducible refine dV (fun hb=> ?_) (fun hb=> ?_)<;>have h:=hb<;>(try simp only[wf_preprocess] at h)<;>simp -implicitDefEqProofs (disch:=omega) only[go_sem,hb,eT,dN,eU,dO]<;>refine W3 ?_
     ·refine W3 ?_
      refine C2 (ih x.aH[j+1] (by omega) hsz'.1) ?_
      exact bG (j+1+1) (by omega) (by rw[dN,he];rfl) (by rw[dO,he]) (by omega)
     ·omega
   ·have hi:i=x.aH.length:=by omega
    cases i with
    |zero=>
     simp -implicitDefEqProofs (disch:=omega) only[go_sem,eT,dN,eU,dO]
     with_reducible refine dV (fun hb=> ?_) (fun hb=> ?_)<;>have h:=hb<;>(try simp only[wf_preprocess] at h)<;>simp -implicitDefEqProofs (disch:=omega) only[go_sem,hb,eT,dN,eU,dO]<;>refine W3 ?_
     ·omega
     ·rw[List.eq_nil_of_length_eq_zero hi.symm] at ht hj
      refine sS hj (.cons (by exact Less.refl _) (.cons (Less.refl _) .nil)) ?_
      refine W1 ?_
      exact⟨by decide,by decide,by rw[ht];rfl⟩
    |succ j=>
     simp -implicitDefEqProofs (disch:=omega) only[go_sem,eT,dN,eU,dO]
     with_reducible refine dV (fun hb=> ?_) (fun hb=> ?_)<;>have h:=hb<;>(try simp only[wf_preprocess] at h)<;>simp -implicitDefEqProofs (disch:=omega) only[go_sem,hb,eT,dN,eU,dO]<;>refine W3 ?_
     ·omega
     ·rw[hi,List.take_length]
      refine sS hj (.cons (by exact Less.refl _) (.cons (Less.refl _) .nil)) ?_
      refine W1 ?_
      exact⟨by omega,by omega,by rw[ht];rfl⟩
theorem Mr(x:ah)(hsz:x.sz≤67108864):aA Tryz.prog 111 [x.v] (.c (.d (.s (dB x)))):=zM _ x (Nat.lt_succ_self _) hsz
theorem sV(x:ah)(hsz:x.sz≤67108864):aA Tryz.prog 42 [x.v] (.c (.d (.s (pV x)))):=fun S=>by
 refine au (rs:=[.tmp 2]) Tryz.checked.mixed Tryz.func42 Tryz.ntmps42 rfl rfl rfl rfl rfl ?_
 refine W1 ?_
 refine C2 (pX x hsz) ?_
 refine S0 (fun hb h=>?_) fun hb h=>?_
 ·rw[pV,if_neg (by simpa using h)]
 ·refine C2 (Mr x hsz) ?_
  rw[pV,if_pos (by simpa using h)]
end Go.Proofs.YtcfhnaohbaplhaaGreatDoor
namespace Go.Ab
def JI:List UInt8:=[116,114,117,101]
def EN:List UInt8:=[102,97,108,115,101]
def rE:List UInt8:=[99,97,108,108]
def nA:List UInt8:=[109,101,116,104,111,100]
def vR:List UInt8:=[110,101,119]
def kG:List UInt8:=[99,97,115,101]
def vS:List UInt8:=[108,101,116]
def BJ:List UInt8:=[105,102]
def rF:List UInt8:=[112,97,99,107]
def xR:List UInt8:=[116,104,101]
def fD(k:Int)(tr nm:List UInt8)(ty:ak):List ah:=
 if k=4 then aK [rE,nm] else if k=5 then aK [nA,tr,nm] else if k=6 then aK [vR,nm] else if k=8 then aK [vS,nm] else
 if k=9 then aK [BJ] else if k=10 then aK [nm] else if k=11 then aK [rF,tr] else if k=12 then [aM xR,dS ty] else aK [kG]
mutual
def dD:aj→ah
 | .mk k tr nm n ty zs ms=>if k=1 then aM (Lib.itoa n) else if k=2 then aM (if n=1 then JI else EN) else if k=3 then aM nm else
   lC (fD k tr nm ty++xS zs++(if k=4∨k=5∨k=6∨k=8∨k=9∨k=10∨k=11∨k=12 then [] else xU ms))
def xS:List aj→List ah
 |[]=>[]
 |t::ts=>dD t::xS ts
def pY:ay→ah
 | .mk c vs b=>lC ([aM c]++aK vs++[dD b])
def xU:List ay→List ah
 |[]=>[]
 |t::ts=>pY t::xU ts
end
theorem uG:∀l,xS l=l.map dD
 |[]=>rfl
 |t::ts=>by rw[xS,List.map_cons,uG ts]
theorem uH:∀l,xU l=l.map pY
 |[]=>rfl
 |t::ts=>by rw[xU,List.map_cons,uH ts]
theorem vT(x:aj):dD x=if x.aG=1 then aM (Lib.itoa x.fN) else if x.aG=2 then aM (if x.fN=1 then JI else EN) else if x.aG=3 then aM x.fName else
 lC (fD x.aG x.aQ x.fName x.fType++x.fArgs.map dD++(if x.aG=4∨x.aG=5∨x.aG=6∨x.aG=8∨x.aG=9∨x.aG=10∨x.aG=11∨x.aG=12 then [] else x.aD.map pY)):=by
 cases x;rw[dD,uG,uH];rfl
theorem Ms(x:ay):pY x=lC ([aM x.aV]++aK x.aU++[dD x.fBody]):=by cases x;rw[pY];rfl
def EO:List aj→Nat
 |[]=>0
 |x::xs=>x.sz+EO xs
theorem xV:∀l,aP (l.map aj.enc)=EO l
 |[]=>rfl
 |x::xs=>by rw[List.map_cons,aP,EO,xV xs];rfl
def EP:List ay→Nat
 |[]=>0
 |x::xs=>x.sz+EP xs
theorem xW:∀l,aP (l.map ay.enc)=EP l
 |[]=>rfl
 |x::xs=>by rw[List.map_cons,aP,EP,xW xs];rfl
theorem xX(x:aj):x.sz=x.aQ.length+x.fName.length+x.fType.sz+(x.fArgs.length+EO x.fArgs)+(x.aD.length+EP x.aD):=by
 rw[←xV,←xW];simp only[aj.sz,aj.aB,bB,bU,D.sz,List.length_map,ak.dK];omega
theorem vU(x:ay):x.sz=x.aV.length+(x.aU.length+(x.aU.map List.length).sum)+x.fBody.sz:=by
 rw[←wY];simp only[ay.sz,ay.aB,bB,bU,D.sz,List.length_map,aj.dK];omega
theorem wM:∀(k n:Nat),n<10^ (k+1)→(Lib.decDigits n).length≤k+1
 |0,n,h=>by rw[Lib.decDigits,dif_pos (by simpa using h)];simp
 |k+1,n,h=>by
  rw[Lib.decDigits]
  split
  ·simp
  ·rw[List.length_append]
   have:=wM k (n/10) (by rw[Nat.pow_succ] at h;omega)
   simp;omega
theorem O4{n:Int}(h: -999999≤n∧n≤999999):(Lib.itoa n).length≤7:=by
 unfold Lib.itoa
 split
 ·have:=wM 5 n.natAbs (by omega)
  simp;omega
 ·have:=wM 5 n.toNat (by omega)
  omega
theorem Mt(k:Int)(tr nm:List UInt8)(ty:ak):(fD k tr nm ty).length≤3∧gV (fD k tr nm ty)≤18+tr.length+nm.length+16*ty.sz:=by
 have h:=LW ty
 unfold fD
 repeat' (first|(split;·refine⟨by simp[aK],?_⟩;simp[gV,aK,jR,rE,nA,vR,vS,BJ,rF,xR,kG];omega))
 refine⟨by simp[aK],?_⟩;simp[gV,aK,jR,kG];omega
mutual
theorem zN:∀x:aj,fu x=true→(dD x).sz≤24+32*x.sz
 | .mk k tr nm n ty zs ms=>fun hok=>by
   rw[fu,Bool.and_eq_true,Bool.and_eq_true] at hok
   have hf:=lN hok.1
   have h1:=GV zs hok.2.1
   have h2:=GX ms hok.2.2
   have h3:=Mt k tr nm ty
   rw[xX]
   simp only[aj.fName,aj.fArgs,aj.aQ,aj.fType,aj.aD]
   rw[dD]
   split
   ·rename_i hk
    have h4:=hf.2.2.2.1
    simp only[aj.aG,aj.fN,hk,if_true] at h4
    have:=O4 h4
    rw[jR];omega
   ·split
    ·rw[jR];split<;>simp[JI,EN]<;>omega
    ·split
     ·rw[jR];omega
     ·rw[wK,kF,kF,List.length_append,List.length_append,uG,List.length_map,←uG]
      split
      ·simp[gV];omega
      ·rw[uH,List.length_map,←uH];omega
theorem GV:∀xs:List aj,gT xs=true→gV (xS xs)≤24*xs.length+32*EO xs
 |[],_=>by simp[xS,gV]
 |x::xs,h=>by
  rw[gT,Bool.and_eq_true] at h
  have h1:=zN x h.1
  have h2:=GV xs h.2
  rw[xS,gV,EO,List.length_cons];omega
theorem SC:∀x:ay,nU x=true→(pY x).sz≤26+32*x.sz
 | .mk c vs b=>fun hok=>by
   rw[nU,Bool.and_eq_true,Bool.and_eq_true] at hok
   have h1:=zN b hok.2.2
   rw[vU]
   simp only[ay.aV,ay.aU,ay.fBody]
   rw[pY,wK,kF,kF,List.length_append,List.length_append,iX,BD]
   simp[gV,jR];omega
theorem GX:∀xs:List ay,jk xs=true→gV (xU xs)≤26*xs.length+32*EP xs
 |[],_=>by simp[xU,gV]
 |x::xs,h=>by
  rw[jk,Bool.and_eq_true] at h
  have h1:=SC x h.1
  have h2:=GX xs h.2
  rw[xU,gV,EP,List.length_cons];omega
end
end Go.Ab
namespace Go.Ab
section
variable {P:Program} {N:Nat} {S:Store} {s:St} {tm:List (Nat×V)}
def wN(E:Md)(R:Array Oper)(K:St→Prop)(s:St):Prop:=Cq E R s.tm=true∧K s
@[congr] theorem Tp {E:Md} {R:Array Oper} {K:St→Prop} {s s':St} (h2:s=s'):wN E R K s=wN E R K s':=by rw[h2]
def p8(P:Program)(N:Nat):Code→(Exit→St→Prop)→St→Prop
 | .seq x y,Q,s=>p8 P N x (kg (p8 P N y Q) Q) s
 | .region _ R true,Q,s=>jH P (o8 R N) R R.toList s (wN (o8 R N) R (Q .normal))
 | .region id R false,Q,s=>CW P N (.region id R false) Q s
 | .cond c x y,Q,s=>CW P N (.cond c x y) Q s
 | .block id c,Q,s=>CW P N (.block id c) Q s
 | .exit id,Q,s=>CW P N (.exit id) Q s
 | .ret,Q,s=>CW P N .ret Q s
 | .skip,Q,s=>CW P N .skip Q s
 | .loop c,Q,s=>CW P N (.loop c) Q s
 |_,_,_=>False
theorem QT{x y:Code}{Q:Exit→St→Prop}:p8 P N (.seq x y) Q s=p8 P N x (kg (p8 P N y Q) Q) s:=by rw[p8]
theorem O5{id:Nat}{l:List Oper}{Q:Exit→St→Prop}:p8 P N (.region id ⟨l⟩ true) Q s=jH P (o8 ⟨l⟩ N) ⟨l⟩ l s (wN (o8 ⟨l⟩ N) ⟨l⟩ (Q .normal)):=by rw[p8]
theorem JJ{id:Nat}{l:List Oper}{Q:Exit→St→Prop}:p8 P N (.region id ⟨l⟩ false) Q s=CW P N (.region id ⟨l⟩ false) Q s:=by rw[p8]
theorem O6{c:Operand}{x y:Code}{Q:Exit→St→Prop}:p8 P N (.cond c x y) Q s=CW P N (.cond c x y) Q s:=by rw[p8]
theorem QU{Q:Exit→St→Prop}:p8 P N .ret Q s=CW P N .ret Q s:=by rw[p8]
theorem O7{Q:Exit→St→Prop}:p8 P N .skip Q s=CW P N .skip Q s:=by rw[p8]
end
attribute [go_sem ↓] QT O5 JJ O6 QU O7
end Go.Ab
namespace Go.Ab
section
variable {P:Program} {N:Nat} {S:Store} {s:St} {tm:List (Nat×V)}
def jM(P:Program)(N:Nat):Code→(Exit→St→Prop)→St→Prop
 | .seq x y,Q,s=>jM P N x (kg (jM P N y Q) Q) s
 | .region _ R true,Q,s=>jH P (o8 R N) R R.toList s (wN (o8 R N) R (Q .normal))
 | .region id R false,Q,s=>CW P N (.region id R false) Q s
 | .cond c x y,Q,s=>wG (ev s.tm c) (jM P N x Q) (jM P N y Q) s
 | .block id c,Q,s=>jM P N c (qg id Q) s
 | .exit id,Q,s=>CW P N (.exit id) Q s
 | .ret,Q,s=>CW P N .ret Q s
 | .skip,Q,s=>CW P N .skip Q s
 | .loop c,Q,s=>CW P N (.loop c) Q s
 |_,_,_=>False
theorem QV{x y:Code}{Q:Exit→St→Prop}:jM P N (.seq x y) Q s=jM P N x (kg (jM P N y Q) Q) s:=by rw[jM]
theorem O8{id:Nat}{l:List Oper}{Q:Exit→St→Prop}:jM P N (.region id ⟨l⟩ true) Q s=jH P (o8 ⟨l⟩ N) ⟨l⟩ l s (wN (o8 ⟨l⟩ N) ⟨l⟩ (Q .normal)):=by rw[jM]
theorem JK{id:Nat}{l:List Oper}{Q:Exit→St→Prop}:jM P N (.region id ⟨l⟩ false) Q s=CW P N (.region id ⟨l⟩ false) Q s:=by rw[jM]
theorem O9{c:Operand}{x y:Code}{Q:Exit→St→Prop}:jM P N (.cond c x y) Q s=wG (ev s.tm c) (jM P N x Q) (jM P N y Q) s:=by rw[jM]
theorem Mv{id:Nat}{c:Code}{Q:Exit→St→Prop}:jM P N (.block id c) Q s=jM P N c (qg id Q) s:=by rw[jM]
theorem Pb{id:Nat}{Q:Exit→St→Prop}:jM P N (.exit id) Q s=CW P N (.exit id) Q s:=by rw[jM]
theorem QW{Q:Exit→St→Prop}:jM P N .ret Q s=CW P N .ret Q s:=by rw[jM]
theorem Pf{Q:Exit→St→Prop}:jM P N .skip Q s=CW P N .skip Q s:=by rw[jM]
theorem Pg{c:Code}{Q:Exit→St→Prop}:jM P N (.loop c) Q s=CW P N (.loop c) Q s:=by rw[jM]
end
attribute [go_sem ↓] QV O8 JK O9 Mv Pb QW Pf Pg
end Go.Ab
namespace Go.Ab
section
variable {P:Program} {N:Nat} {S:Store} {s:St} {tm:List (Nat×V)}
end
end Go.Ab
