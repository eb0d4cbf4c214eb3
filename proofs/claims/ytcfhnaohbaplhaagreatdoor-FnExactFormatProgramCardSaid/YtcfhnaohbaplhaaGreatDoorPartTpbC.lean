/-
  SEVERAL TEXTS IN ONE (merged by program): contracts and models, each with its own heading.
-/
import Derived.Test.YtcfhnaohbaplhaaGreatDoorPartTpbB
import Derived.Test.YtcfhnaohbaplhaaGreatDoorChecked
import Derived.Eval
import Derived.KernelRfl
import Derived.WalkKit
import Derived.ProofKit
import Derived.Lib.FrozenHead2
import Derived.Lib.OthersKept
import Derived.Lib.AppendStr
import Derived.Lib.UnsafeStr
import Derived.Lib.Builder
import Derived.Laws.Externs
import Derived.Deep.LoopGhost
set_option linter.unusedSimpArgs false
set_option linter.unusedVariables false
set_option maxRecDepth 4000
set_option maxRecDepth 100000
namespace Go.Ab
mutual
def D.sz:D→Nat
 | .s l=>l.length
 | .sl es=>es.length+aI es
 | .b _=>0
 | .i _ _=>0
 | .o _=>0
 | .ol _ es=>es.length+aI es
def bH:List D→Nat
 |[]=>0
 |d::ds=>d.sz+bH ds
def aI:List (List D)→Nat
 |[]=>0
 |r::rs=>bH r+aI rs
end
theorem bf:∀(a b:List D),bH (a++b)=bH a+bH b
 |[],b=>by simp[bH]
 |d::ds,b=>by rw[List.cons_append,bH,bf ds b,bH];omega
def cB(left:Int)(n:Nat):Int:=if left-n<0 then -1 else left-n
theorem dO{l:Int}{a:Nat}(h:¬cB l a<0):cB l a=l-a∧0≤l-a:=by
 unfold cB at *
 split at h
 ·omega
 ·rename_i h';exact⟨if_neg h',by omega⟩
theorem dA{l:Int}{a:Nat}(h:cB l a<0):l-a<0:=by
 unfold cB at *
 split at h<;>omega
theorem bT{l:Int}{a:Nat}(h:l-a<0):cB l a= -1:=if_pos h
theorem fq{l:Int}{a:Nat}(h:0≤l-a):cB l a=l-a:=if_neg (by omega)
theorem int_eq{k:IntKind}{a b:Int}(h:a=b):V.c (.d (.i k a))=V.c (.d (.i k b)):=by rw[h]
theorem ay{a b:Bool}(h:a=b):V.c (.d (.b a))=V.c (.d (.b b)):=by rw[h]
noncomputable def dec(p:Prop):Bool:= @decide p (Classical.propDecidable p)
theorem bq{p:Prop}(h:p):dec p=true:=by simp[dec,h]
theorem aC{p:Prop}(h:¬p):dec p=false:=by simp[dec,h]
theorem iO{p:Prop}(h:dec p=true):p:=by simpa [dec] using h
theorem iK{p:Prop}(h:dec p=false):¬p:=by simpa [dec] using h
theorem vJ{p:Prop}:(dec p=true)=p:=by simp[dec]
theorem BL{p:Prop}:(dec p=false)=¬p:=by simp[dec]
attribute [wf_preprocess] vJ BL
theorem gP{p q:Prop}(h:p↔q):dec p=dec q:=by rw[propext h]
theorem XM:dec True=true:=bq trivial
theorem U6:dec False=false:=aC id
attribute [go_sem] XM U6
theorem lW{p:Prop}[Decidable p]:decide p=dec p:=by by_cases h:p<;>simp[dec,h]
theorem bD{r:List D}:∀{rs:List (List D)},r∈rs→bH r≤aI rs
 |a::rs,h=>by
  rw[aI]
  rcases List.mem_cons.1 h with rfl|h
  ·omega
  ·have:=bD h;omega
def fI(z i:Nat)(R rows:List (List D)):Prop:=R.length=rows.length∧(∀r∈R,r.length=z)∧∀j,j<i→R[j]? =rows[j]?
theorem fI.start{z:Nat}{rows:List (List D)}{zero:List D}{n:Nat}(hn:n=rows.length)(h:zero.length=z):fI z 0 (List.replicate n zero) rows:=by
 subst hn
 exact⟨by simp,fun r hr=>by rw[List.eq_of_mem_replicate hr];exact h,fun j h=>by omega⟩
theorem fI.step{z i:Nat}{R rows:List (List D)}{row:List D}(h:fI z i R rows)(hi:rows[i]? =some row)(hr:row.length=z):fI z (i+1) (R.set i (qp (R.getD i []) 0 row)) rows:=by
 obtain⟨h1,h2,h3⟩:=h
 have hlt:i<rows.length:=(List.getElem?_eq_some_iff.1 hi).1
 have hs:qp (R.getD i []) 0 row=row:=by
  have hm:R.getD i []∈R:=by
   rw[List.getD_eq_getElem?_getD,List.getElem?_eq_getElem (by omega)]
   exact List.getElem_mem _
  have:=h2 _ hm
  unfold qp
  rw[List.take_zero,List.nil_append,Nat.zero_add,hr,List.drop_eq_nil_of_le (by omega),List.append_nil]
 rw[hs]
 refine⟨by simpa using h1,fun r hr'=> ?_,fun j hj=> ?_⟩
 ·rcases List.mem_or_eq_of_mem_set hr' with h|h
  ·exact h2 r h
  ·rw[h];exact hr
 ·by_cases e:j=i
  ·subst e
   rw[hi,List.getElem?_set_self (by omega)]
  ·rw[List.getElem?_set_ne (by omega)]
   exact h3 j (by omega)
theorem fI.done{z i:Nat}{R rows:List (List D)}(h:fI z i R rows)(hi:rows.length≤i):R=rows:=by
 obtain⟨h1,h2,h3⟩:=h
 refine List.ext_getElem? fun j=> ?_
 by_cases hj:j<i
 ·exact h3 j hj
 ·rw[List.getElem?_eq_none (by omega),List.getElem?_eq_none (by omega)]
end Go.Ab
namespace Go.Ab
def encS(s:List UInt8):List D:=[.s s]
def encI(n:Int):List D:=[.i .i64 n]
inductive ah where
 |mk (aV:Int) (fName:List UInt8) (fArgs:List ah)
def ah.aV:ah→Int| .mk x _ _=>x
def ah.fName:ah→List UInt8| .mk _ x _=>x
def ah.fArgs:ah→List ah| .mk _ _ x=>x
theorem ah.eta(x:ah):ah.mk x.aV x.fName x.fArgs=x:=by cases x;rfl
theorem ah.ext{x y:ah}(h0:x.aV=y.aV)(h1:x.fName=y.fName)(h2:x.fArgs=y.fArgs):x=y:=by
 rw[←ah.eta x,←ah.eta y,h0,h1,h2]
mutual
def ah.enc:ah→List D
 | .mk a0 a1 a2=>[.i .i64 a0,.s a1,.sl (ah.encs a2)]
def ah.encs:List ah→List (List D)
 |[]=>[]
 |x::xs=>x.enc::ah.encs xs
end
theorem ah.jw:∀l,ah.encs l=l.map ah.enc
 |[]=>rfl
 |x::xs=>by rw[ah.encs,List.map_cons,ah.jw xs]
theorem ah.aH(x:ah):x.enc=[.i .i64 x.aV,.s x.fName,.sl (x.fArgs.map ah.enc)]:=by
 cases x;simp only[ah.enc,ah.jw,ah.aV,ah.fName,ah.fArgs]
abbrev ah.v (x:ah):V:=.agg [.d (.i .i64 x.aV),.d (.s x.fName),.d (.sl (x.fArgs.map ah.enc))]
theorem ah.ow(x:ah): .agg (x.enc.map .d)=x.v:=by
 simp only[ah.aH,List.map_cons,List.map_nil,List.cons_append,List.nil_append,List.map_append]
theorem ah.dh(x:ah):x.enc.length=3:=by
 simp only[ah.aH,List.length_append,List.length_cons,List.length_nil]
def ah.sz(x:ah):Nat:=bH x.enc
theorem ah.cZ(x:ah):bH x.enc=x.sz:=rfl
theorem ah.fE(x:ah):SizeOf.sizeOf x.fArgs<SizeOf.sizeOf x:=by cases x;simp[ah.fArgs];omega
structure dU where
 fVar:List UInt8
 fType:ah
def dU.enc(x:dU):List D:=[.s x.fVar]++(x.fType.enc)
theorem dU.aH(x:dU):x.enc=[.s x.fVar]++(x.fType.enc):=rfl
theorem dU.eta(x:dU):dU.mk x.fVar x.fType=x:=rfl
theorem dU.ext'{x y:dU}(h0:x.fVar=y.fVar)(h1:x.fType=y.fType):x=y:=by
 cases x;cases y;simp_all
abbrev dU.v (x:dU):V:=.agg [.d (.s x.fVar),.d (.i .i64 x.fType.aV),.d (.s x.fType.fName),.d (.sl (x.fType.fArgs.map ah.enc))]
theorem dU.ow(x:dU): .agg (x.enc.map .d)=x.v:=by
 simp only[dU.aH,ah.aH,List.map_cons,List.map_nil,List.cons_append,List.nil_append,List.map_append]
theorem dU.dh(x:dU):x.enc.length=4:=by
 simp only[dU.aH,ah.dh,List.length_append,List.length_cons,List.length_nil]
def dU.sz(x:dU):Nat:=bH x.enc
theorem dU.cZ(x:dU):bH x.enc=x.sz:=rfl
structure bA where
 bJ:List UInt8
 fType:ah
def bA.enc(x:bA):List D:=[.s x.bJ]++(x.fType.enc)
theorem bA.aH(x:bA):x.enc=[.s x.bJ]++(x.fType.enc):=rfl
theorem bA.eta(x:bA):bA.mk x.bJ x.fType=x:=rfl
theorem bA.ext'{x y:bA}(h0:x.bJ=y.bJ)(h1:x.fType=y.fType):x=y:=by
 cases x;cases y;simp_all
abbrev bA.v (x:bA):V:=.agg [.d (.s x.bJ),.d (.i .i64 x.fType.aV),.d (.s x.fType.fName),.d (.sl (x.fType.fArgs.map ah.enc))]
theorem bA.ow(x:bA): .agg (x.enc.map .d)=x.v:=by
 simp only[bA.aH,ah.aH,List.map_cons,List.map_nil,List.cons_append,List.nil_append,List.map_append]
theorem bA.dh(x:bA):x.enc.length=4:=by
 simp only[bA.aH,ah.dh,List.length_append,List.length_cons,List.length_nil]
def bA.sz(x:bA):Nat:=bH x.enc
theorem bA.cZ(x:bA):bH x.enc=x.sz:=rfl
mutual
inductive au where
 |mk (aV:Int) (bJ:List UInt8) (fName:List UInt8) (fN:Int) (fType:ah) (fArgs:List au) (aW:List aX)
inductive aX where
 |mk (dx:List UInt8) (aF:List (List UInt8)) (fBody:au)
end
def au.aV:au→Int| .mk x _ _ _ _ _ _=>x
def au.bJ:au→List UInt8| .mk _ x _ _ _ _ _=>x
def au.fName:au→List UInt8| .mk _ _ x _ _ _ _=>x
def au.fN:au→Int| .mk _ _ _ x _ _ _=>x
def au.fType:au→ah| .mk _ _ _ _ x _ _=>x
def au.fArgs:au→List au| .mk _ _ _ _ _ x _=>x
def au.aW:au→List aX| .mk _ _ _ _ _ _ x=>x
theorem au.eta(x:au):au.mk x.aV x.bJ x.fName x.fN x.fType x.fArgs x.aW=x:=by cases x;rfl
theorem au.ext{x y:au}(h0:x.aV=y.aV)(h1:x.bJ=y.bJ)(h2:x.fName=y.fName)(h3:x.fN=y.fN)(h4:x.fType=y.fType)(h5:x.fArgs=y.fArgs)(h6:x.aW=y.aW):x=y:=by
 rw[←au.eta x,←au.eta y,h0,h1,h2,h3,h4,h5,h6]
def aX.dx:aX→List UInt8| .mk x _ _=>x
def aX.aF:aX→List (List UInt8)| .mk _ x _=>x
def aX.fBody:aX→au| .mk _ _ x=>x
theorem aX.eta(x:aX):aX.mk x.dx x.aF x.fBody=x:=by cases x;rfl
theorem aX.ext{x y:aX}(h0:x.dx=y.dx)(h1:x.aF=y.aF)(h2:x.fBody=y.fBody):x=y:=by
 rw[←aX.eta x,←aX.eta y,h0,h1,h2]
mutual
def au.enc:au→List D
 | .mk a0 a1 a2 a3 a4 a5 a6=>[.i .i64 a0,.s a1,.s a2,.i .i64 a3]++(a4.enc++([.sl (au.encs a5),.sl (aX.encs a6)]))
def au.encs:List au→List (List D)
 |[]=>[]
 |x::xs=>x.enc::au.encs xs
def aX.enc:aX→List D
 | .mk a0 a1 a2=>[.s a0,.sl (a1.map encS)]++(au.enc a2)
def aX.encs:List aX→List (List D)
 |[]=>[]
 |x::xs=>x.enc::aX.encs xs
end
theorem au.jw:∀l,au.encs l=l.map au.enc
 |[]=>rfl
 |x::xs=>by rw[au.encs,List.map_cons,au.jw xs]
theorem aX.jw:∀l,aX.encs l=l.map aX.enc
 |[]=>rfl
 |x::xs=>by rw[aX.encs,List.map_cons,aX.jw xs]
theorem au.aH(x:au):x.enc=[.i .i64 x.aV,.s x.bJ,.s x.fName,.i .i64 x.fN]++(x.fType.enc++([.sl (x.fArgs.map au.enc),.sl (x.aW.map aX.enc)])):=by
 cases x;simp only[au.enc,au.jw,aX.jw,au.aV,au.bJ,au.fName,au.fN,au.fType,au.fArgs,au.aW]
theorem aX.aH(x:aX):x.enc=[.s x.dx,.sl (x.aF.map encS)]++(x.fBody.enc):=by
 cases x;simp only[aX.enc,au.jw,aX.jw,aX.dx,aX.aF,aX.fBody]
abbrev au.v (x:au):V:=.agg [.d (.i .i64 x.aV),.d (.s x.bJ),.d (.s x.fName),.d (.i .i64 x.fN),.d (.i .i64 x.fType.aV),.d (.s x.fType.fName),.d (.sl (x.fType.fArgs.map ah.enc)),.d (.sl (x.fArgs.map au.enc)),.d (.sl (x.aW.map aX.enc))]
theorem au.ow(x:au): .agg (x.enc.map .d)=x.v:=by
 simp only[au.aH,ah.aH,List.map_cons,List.map_nil,List.cons_append,List.nil_append,List.map_append]
theorem au.dh(x:au):x.enc.length=9:=by
 simp only[au.aH,ah.dh,List.length_append,List.length_cons,List.length_nil]
def au.sz(x:au):Nat:=bH x.enc
theorem au.cZ(x:au):bH x.enc=x.sz:=rfl
theorem au.fE(x:au):SizeOf.sizeOf x.fArgs<SizeOf.sizeOf x:=by cases x;simp[au.fArgs];omega
theorem au.nD(x:au):SizeOf.sizeOf x.aW<SizeOf.sizeOf x:=by cases x;simp[au.aW];omega
abbrev aX.v (x:aX):V:=.agg [.d (.s x.dx),.d (.sl (x.aF.map encS)),.d (.i .i64 x.fBody.aV),.d (.s x.fBody.bJ),.d (.s x.fBody.fName),.d (.i .i64 x.fBody.fN),.d (.i .i64 x.fBody.fType.aV),.d (.s x.fBody.fType.fName),.d (.sl (x.fBody.fType.fArgs.map ah.enc)),.d (.sl (x.fBody.fArgs.map au.enc)),.d (.sl (x.fBody.aW.map aX.enc))]
theorem aX.ow(x:aX): .agg (x.enc.map .d)=x.v:=by
 simp only[aX.aH,au.aH,ah.aH,List.map_cons,List.map_nil,List.cons_append,List.nil_append,List.map_append]
theorem aX.dh(x:aX):x.enc.length=11:=by
 simp only[aX.aH,au.dh,List.length_append,List.length_cons,List.length_nil]
def aX.sz(x:aX):Nat:=bH x.enc
theorem aX.cZ(x:aX):bH x.enc=x.sz:=rfl
theorem aX.mI(x:aX):SizeOf.sizeOf x.fBody<SizeOf.sizeOf x:=by cases x;simp[aX.fBody];omega
inductive aj where
 |mk (bS:List UInt8) (aY:List aj)
def aj.bS:aj→List UInt8| .mk x _=>x
def aj.aY:aj→List aj| .mk _ x=>x
theorem aj.eta(x:aj):aj.mk x.bS x.aY=x:=by cases x;rfl
theorem aj.ext{x y:aj}(h0:x.bS=y.bS)(h1:x.aY=y.aY):x=y:=by
 rw[←aj.eta x,←aj.eta y,h0,h1]
mutual
def aj.enc:aj→List D
 | .mk a0 a1=>[.s a0,.sl (aj.encs a1)]
def aj.encs:List aj→List (List D)
 |[]=>[]
 |x::xs=>x.enc::aj.encs xs
end
theorem aj.jw:∀l,aj.encs l=l.map aj.enc
 |[]=>rfl
 |x::xs=>by rw[aj.encs,List.map_cons,aj.jw xs]
theorem aj.aH(x:aj):x.enc=[.s x.bS,.sl (x.aY.map aj.enc)]:=by
 cases x;simp only[aj.enc,aj.jw,aj.bS,aj.aY]
abbrev aj.v (x:aj):V:=.agg [.d (.s x.bS),.d (.sl (x.aY.map aj.enc))]
theorem aj.ow(x:aj): .agg (x.enc.map .d)=x.v:=by
 simp only[aj.aH,List.map_cons,List.map_nil,List.cons_append,List.nil_append,List.map_append]
theorem aj.dh(x:aj):x.enc.length=2:=by
 simp only[aj.aH,List.length_append,List.length_cons,List.length_nil]
def aj.sz(x:aj):Nat:=bH x.enc
theorem aj.cZ(x:aj):bH x.enc=x.sz:=rfl
theorem aj.Im(x:aj):SizeOf.sizeOf x.aY<SizeOf.sizeOf x:=by cases x;simp[aj.aY];omega
structure aT where
 fName:List UInt8
 aZ:List ah
 bU:ah
 iy:Bool
 aF:List (List UInt8)
 fBody:au
def aT.enc(x:aT):List D:=[.s x.fName,.sl (x.aZ.map ah.enc)]++(x.bU.enc++([.b x.iy,.sl (x.aF.map encS)]++(x.fBody.enc)))
theorem aT.aH(x:aT):x.enc=[.s x.fName,.sl (x.aZ.map ah.enc)]++(x.bU.enc++([.b x.iy,.sl (x.aF.map encS)]++(x.fBody.enc))):=rfl
theorem aT.eta(x:aT):aT.mk x.fName x.aZ x.bU x.iy x.aF x.fBody=x:=rfl
theorem aT.ext'{x y:aT}(h0:x.fName=y.fName)(h1:x.aZ=y.aZ)(h2:x.bU=y.bU)(h3:x.iy=y.iy)(h4:x.aF=y.aF)(h5:x.fBody=y.fBody):x=y:=by
 cases x;cases y;simp_all
abbrev aT.v (x:aT):V:=.agg [.d (.s x.fName),.d (.sl (x.aZ.map ah.enc)),.d (.i .i64 x.bU.aV),.d (.s x.bU.fName),.d (.sl (x.bU.fArgs.map ah.enc)),.d (.b x.iy),.d (.sl (x.aF.map encS)),.d (.i .i64 x.fBody.aV),.d (.s x.fBody.bJ),.d (.s x.fBody.fName),.d (.i .i64 x.fBody.fN),.d (.i .i64 x.fBody.fType.aV),.d (.s x.fBody.fType.fName),.d (.sl (x.fBody.fType.fArgs.map ah.enc)),.d (.sl (x.fBody.fArgs.map au.enc)),.d (.sl (x.fBody.aW.map aX.enc))]
theorem aT.ow(x:aT): .agg (x.enc.map .d)=x.v:=by
 simp only[aT.aH,au.aH,ah.aH,List.map_cons,List.map_nil,List.cons_append,List.nil_append,List.map_append]
theorem aT.dh(x:aT):x.enc.length=16:=by
 simp only[aT.aH,au.dh,ah.dh,List.length_append,List.length_cons,List.length_nil]
def aT.sz(x:aT):Nat:=bH x.enc
theorem aT.cZ(x:aT):bH x.enc=x.sz:=rfl
structure bg where
 fName:List UInt8
 bE:List (List UInt8)
 nO:Bool
 bQ:Bool
 aA:List aT
def bg.enc(x:bg):List D:=[.s x.fName,.sl (x.bE.map encS),.b x.nO,.b x.bQ,.sl (x.aA.map aT.enc)]
theorem bg.aH(x:bg):x.enc=[.s x.fName,.sl (x.bE.map encS),.b x.nO,.b x.bQ,.sl (x.aA.map aT.enc)]:=rfl
theorem bg.eta(x:bg):bg.mk x.fName x.bE x.nO x.bQ x.aA=x:=rfl
theorem bg.ext'{x y:bg}(h0:x.fName=y.fName)(h1:x.bE=y.bE)(h2:x.nO=y.nO)(h3:x.bQ=y.bQ)(h4:x.aA=y.aA):x=y:=by
 cases x;cases y;simp_all
abbrev bg.v (x:bg):V:=.agg [.d (.s x.fName),.d (.sl (x.bE.map encS)),.d (.b x.nO),.d (.b x.bQ),.d (.sl (x.aA.map aT.enc))]
theorem bg.ow(x:bg): .agg (x.enc.map .d)=x.v:=by
 simp only[bg.aH,List.map_cons,List.map_nil,List.cons_append,List.nil_append,List.map_append]
theorem bg.dh(x:bg):x.enc.length=5:=by
 simp only[bg.aH,List.length_append,List.length_cons,List.length_nil]
def bg.sz(x:bg):Nat:=bH x.enc
theorem bg.cZ(x:bg):bH x.enc=x.sz:=rfl
structure aP where
 fName:List UInt8
 eP:List ah
def aP.enc(x:aP):List D:=[.s x.fName,.sl (x.eP.map ah.enc)]
theorem aP.aH(x:aP):x.enc=[.s x.fName,.sl (x.eP.map ah.enc)]:=rfl
theorem aP.eta(x:aP):aP.mk x.fName x.eP=x:=rfl
theorem aP.ext'{x y:aP}(h0:x.fName=y.fName)(h1:x.eP=y.eP):x=y:=by
 cases x;cases y;simp_all
abbrev aP.v (x:aP):V:=.agg [.d (.s x.fName),.d (.sl (x.eP.map ah.enc))]
theorem aP.ow(x:aP): .agg (x.enc.map .d)=x.v:=by
 simp only[aP.aH,List.map_cons,List.map_nil,List.cons_append,List.nil_append,List.map_append]
theorem aP.dh(x:aP):x.enc.length=2:=by
 simp only[aP.aH,List.length_append,List.length_cons,List.length_nil]
def aP.sz(x:aP):Nat:=bH x.enc
theorem aP.cZ(x:aP):bH x.enc=x.sz:=rfl
structure aO where
 fName:List UInt8
 aF:List (List UInt8)
 aG:List aP
def aO.enc(x:aO):List D:=[.s x.fName,.sl (x.aF.map encS),.sl (x.aG.map aP.enc)]
theorem aO.aH(x:aO):x.enc=[.s x.fName,.sl (x.aF.map encS),.sl (x.aG.map aP.enc)]:=rfl
theorem aO.eta(x:aO):aO.mk x.fName x.aF x.aG=x:=rfl
theorem aO.ext'{x y:aO}(h0:x.fName=y.fName)(h1:x.aF=y.aF)(h2:x.aG=y.aG):x=y:=by
 cases x;cases y;simp_all
abbrev aO.v (x:aO):V:=.agg [.d (.s x.fName),.d (.sl (x.aF.map encS)),.d (.sl (x.aG.map aP.enc))]
theorem aO.ow(x:aO): .agg (x.enc.map .d)=x.v:=by
 simp only[aO.aH,List.map_cons,List.map_nil,List.cons_append,List.nil_append,List.map_append]
theorem aO.dh(x:aO):x.enc.length=3:=by
 simp only[aO.aH,List.length_append,List.length_cons,List.length_nil]
def aO.sz(x:aO):Nat:=bH x.enc
theorem aO.cZ(x:aO):bH x.enc=x.sz:=rfl
structure bB where
 fName:List UInt8
 aF:List (List UInt8)
 fBody:au
def bB.enc(x:bB):List D:=[.s x.fName,.sl (x.aF.map encS)]++(x.fBody.enc)
theorem bB.aH(x:bB):x.enc=[.s x.fName,.sl (x.aF.map encS)]++(x.fBody.enc):=rfl
theorem bB.eta(x:bB):bB.mk x.fName x.aF x.fBody=x:=rfl
theorem bB.ext'{x y:bB}(h0:x.fName=y.fName)(h1:x.aF=y.aF)(h2:x.fBody=y.fBody):x=y:=by
 cases x;cases y;simp_all
abbrev bB.v (x:bB):V:=.agg [.d (.s x.fName),.d (.sl (x.aF.map encS)),.d (.i .i64 x.fBody.aV),.d (.s x.fBody.bJ),.d (.s x.fBody.fName),.d (.i .i64 x.fBody.fN),.d (.i .i64 x.fBody.fType.aV),.d (.s x.fBody.fType.fName),.d (.sl (x.fBody.fType.fArgs.map ah.enc)),.d (.sl (x.fBody.fArgs.map au.enc)),.d (.sl (x.fBody.aW.map aX.enc))]
theorem bB.ow(x:bB): .agg (x.enc.map .d)=x.v:=by
 simp only[bB.aH,au.aH,ah.aH,List.map_cons,List.map_nil,List.cons_append,List.nil_append,List.map_append]
theorem bB.dh(x:bB):x.enc.length=11:=by
 simp only[bB.aH,au.dh,List.length_append,List.length_cons,List.length_nil]
def bB.sz(x:bB):Nat:=bH x.enc
theorem bB.cZ(x:bB):bH x.enc=x.sz:=rfl
structure aQ where
 bJ:List UInt8
 aF:List (List UInt8)
 bV:ah
 bY:List bA
 iT:Bool
 fA:Bool
 bQ:ah
 aL:List bB
def aQ.enc(x:aQ):List D:=[.s x.bJ,.sl (x.aF.map encS)]++(x.bV.enc++([.sl (x.bY.map bA.enc),.b x.iT,.b x.fA]++(x.bQ.enc++([.sl (x.aL.map bB.enc)]))))
theorem aQ.aH(x:aQ):x.enc=[.s x.bJ,.sl (x.aF.map encS)]++(x.bV.enc++([.sl (x.bY.map bA.enc),.b x.iT,.b x.fA]++(x.bQ.enc++([.sl (x.aL.map bB.enc)])))):=rfl
theorem aQ.eta(x:aQ):aQ.mk x.bJ x.aF x.bV x.bY x.iT x.fA x.bQ x.aL=x:=rfl
theorem aQ.ext'{x y:aQ}(h0:x.bJ=y.bJ)(h1:x.aF=y.aF)(h2:x.bV=y.bV)(h3:x.bY=y.bY)(h4:x.iT=y.iT)(h5:x.fA=y.fA)(h6:x.bQ=y.bQ)(h7:x.aL=y.aL):x=y:=by
 cases x;cases y;simp_all
abbrev aQ.v (x:aQ):V:=.agg [.d (.s x.bJ),.d (.sl (x.aF.map encS)),.d (.i .i64 x.bV.aV),.d (.s x.bV.fName),.d (.sl (x.bV.fArgs.map ah.enc)),.d (.sl (x.bY.map bA.enc)),.d (.b x.iT),.d (.b x.fA),.d (.i .i64 x.bQ.aV),.d (.s x.bQ.fName),.d (.sl (x.bQ.fArgs.map ah.enc)),.d (.sl (x.aL.map bB.enc))]
theorem aQ.ow(x:aQ): .agg (x.enc.map .d)=x.v:=by
 simp only[aQ.aH,ah.aH,List.map_cons,List.map_nil,List.cons_append,List.nil_append,List.map_append]
theorem aQ.dh(x:aQ):x.enc.length=12:=by
 simp only[aQ.aH,ah.dh,List.length_append,List.length_cons,List.length_nil]
def aQ.sz(x:aQ):Nat:=bH x.enc
theorem aQ.cZ(x:aQ):bH x.enc=x.sz:=rfl
structure bG where
 fName:List UInt8
 fType:ah
def bG.enc(x:bG):List D:=[.s x.fName]++(x.fType.enc)
theorem bG.aH(x:bG):x.enc=[.s x.fName]++(x.fType.enc):=rfl
theorem bG.eta(x:bG):bG.mk x.fName x.fType=x:=rfl
theorem bG.ext'{x y:bG}(h0:x.fName=y.fName)(h1:x.fType=y.fType):x=y:=by
 cases x;cases y;simp_all
abbrev bG.v (x:bG):V:=.agg [.d (.s x.fName),.d (.i .i64 x.fType.aV),.d (.s x.fType.fName),.d (.sl (x.fType.fArgs.map ah.enc))]
theorem bG.ow(x:bG): .agg (x.enc.map .d)=x.v:=by
 simp only[bG.aH,ah.aH,List.map_cons,List.map_nil,List.cons_append,List.nil_append,List.map_append]
theorem bG.dh(x:bG):x.enc.length=4:=by
 simp only[bG.aH,ah.dh,List.length_append,List.length_cons,List.length_nil]
def bG.sz(x:bG):Nat:=bH x.enc
theorem bG.cZ(x:bG):bH x.enc=x.sz:=rfl
structure aS where
 fName:List UInt8
 aF:List (List UInt8)
 bY:List bA
 aZ:List bG
 bU:ah
 fBody:au
def aS.enc(x:aS):List D:=[.s x.fName,.sl (x.aF.map encS),.sl (x.bY.map bA.enc),.sl (x.aZ.map bG.enc)]++(x.bU.enc++(x.fBody.enc))
theorem aS.aH(x:aS):x.enc=[.s x.fName,.sl (x.aF.map encS),.sl (x.bY.map bA.enc),.sl (x.aZ.map bG.enc)]++(x.bU.enc++(x.fBody.enc)):=rfl
theorem aS.eta(x:aS):aS.mk x.fName x.aF x.bY x.aZ x.bU x.fBody=x:=rfl
theorem aS.ext'{x y:aS}(h0:x.fName=y.fName)(h1:x.aF=y.aF)(h2:x.bY=y.bY)(h3:x.aZ=y.aZ)(h4:x.bU=y.bU)(h5:x.fBody=y.fBody):x=y:=by
 cases x;cases y;simp_all
abbrev aS.v (x:aS):V:=.agg [.d (.s x.fName),.d (.sl (x.aF.map encS)),.d (.sl (x.bY.map bA.enc)),.d (.sl (x.aZ.map bG.enc)),.d (.i .i64 x.bU.aV),.d (.s x.bU.fName),.d (.sl (x.bU.fArgs.map ah.enc)),.d (.i .i64 x.fBody.aV),.d (.s x.fBody.bJ),.d (.s x.fBody.fName),.d (.i .i64 x.fBody.fN),.d (.i .i64 x.fBody.fType.aV),.d (.s x.fBody.fType.fName),.d (.sl (x.fBody.fType.fArgs.map ah.enc)),.d (.sl (x.fBody.fArgs.map au.enc)),.d (.sl (x.fBody.aW.map aX.enc))]
theorem aS.ow(x:aS): .agg (x.enc.map .d)=x.v:=by
 simp only[aS.aH,au.aH,ah.aH,List.map_cons,List.map_nil,List.cons_append,List.nil_append,List.map_append]
theorem aS.dh(x:aS):x.enc.length=16:=by
 simp only[aS.aH,au.dh,ah.dh,List.length_append,List.length_cons,List.length_nil]
def aS.sz(x:aS):Nat:=bH x.enc
theorem aS.cZ(x:aS):bH x.enc=x.sz:=rfl
structure aN where
 fName:List UInt8
 dZ:List (List UInt8)
 aK:List bg
 ak:List aO
 aJ:List aQ
 aM:List aS
def aN.enc(x:aN):List D:=[.s x.fName,.sl (x.dZ.map encS),.sl (x.aK.map bg.enc),.sl (x.ak.map aO.enc),.sl (x.aJ.map aQ.enc),.sl (x.aM.map aS.enc)]
theorem aN.aH(x:aN):x.enc=[.s x.fName,.sl (x.dZ.map encS),.sl (x.aK.map bg.enc),.sl (x.ak.map aO.enc),.sl (x.aJ.map aQ.enc),.sl (x.aM.map aS.enc)]:=rfl
theorem aN.eta(x:aN):aN.mk x.fName x.dZ x.aK x.ak x.aJ x.aM=x:=rfl
theorem aN.ext'{x y:aN}(h0:x.fName=y.fName)(h1:x.dZ=y.dZ)(h2:x.aK=y.aK)(h3:x.ak=y.ak)(h4:x.aJ=y.aJ)(h5:x.aM=y.aM):x=y:=by
 cases x;cases y;simp_all
abbrev aN.v (x:aN):V:=.agg [.d (.s x.fName),.d (.sl (x.dZ.map encS)),.d (.sl (x.aK.map bg.enc)),.d (.sl (x.ak.map aO.enc)),.d (.sl (x.aJ.map aQ.enc)),.d (.sl (x.aM.map aS.enc))]
theorem aN.ow(x:aN): .agg (x.enc.map .d)=x.v:=by
 simp only[aN.aH,List.map_cons,List.map_nil,List.cons_append,List.nil_append,List.map_append]
theorem aN.dh(x:aN):x.enc.length=6:=by
 simp only[aN.aH,List.length_append,List.length_cons,List.length_nil]
def aN.sz(x:aN):Nat:=bH x.enc
theorem aN.cZ(x:aN):bH x.enc=x.sz:=rfl
structure dw where
 gH:List aN
def dw.enc(x:dw):List D:=[.sl (x.gH.map aN.enc)]
theorem dw.aH(x:dw):x.enc=[.sl (x.gH.map aN.enc)]:=rfl
theorem dw.eta(x:dw):dw.mk x.gH=x:=rfl
theorem dw.ext'{x y:dw}(h0:x.gH=y.gH):x=y:=by
 cases x;cases y;simp_all
abbrev dw.v (x:dw):V:=.agg [.d (.sl (x.gH.map aN.enc))]
theorem dw.ow(x:dw): .agg (x.enc.map .d)=x.v:=by
 simp only[dw.aH,List.map_cons,List.map_nil,List.cons_append,List.nil_append,List.map_append]
theorem dw.dh(x:dw):x.enc.length=1:=by
 simp only[dw.aH,List.length_append,List.length_cons,List.length_nil]
def dw.sz(x:dw):Nat:=bH x.enc
theorem dw.cZ(x:dw):bH x.enc=x.sz:=rfl
structure dN where
 u6:Int
 Qk:Int
def dN.enc(x:dN):List D:=[.i .i64 x.u6,.i .i64 x.Qk]
theorem dN.aH(x:dN):x.enc=[.i .i64 x.u6,.i .i64 x.Qk]:=rfl
theorem dN.eta(x:dN):dN.mk x.u6 x.Qk=x:=rfl
theorem dN.ext'{x y:dN}(h0:x.u6=y.u6)(h1:x.Qk=y.Qk):x=y:=by
 cases x;cases y;simp_all
abbrev dN.v (x:dN):V:=.agg [.d (.i .i64 x.u6),.d (.i .i64 x.Qk)]
theorem dN.ow(x:dN): .agg (x.enc.map .d)=x.v:=by
 simp only[dN.aH,List.map_cons,List.map_nil,List.cons_append,List.nil_append,List.map_append]
theorem dN.dh(x:dN):x.enc.length=2:=by
 simp only[dN.aH,List.length_append,List.length_cons,List.length_nil]
def dN.sz(x:dN):Nat:=bH x.enc
theorem dN.cZ(x:dN):bH x.enc=x.sz:=rfl
attribute [go_sem] ah.aH dU.aH bA.aH au.aH aX.aH aj.aH aT.aH bg.aH aP.aH aO.aH bB.aH aQ.aH bG.aH aS.aH aN.aH dw.aH dN.aH encS encI
end Go.Ab
namespace Go.Ab
def Ql:List dU→List UInt8→Option ah
 |[],_=>none
 |b::bs,v=>if b.fVar=v then some b.fType else Ql bs v
mutual
noncomputable def yg(s:List dU):ah→ah→Option (List dU)
 | .mk k n a,t=>
   if k=1 then
    match Ql s n with
    |some u=>if dec (u=t)=true then some s else none
    |none=>some (s++[⟨n,t⟩])
   else if k=t.aV∧n=t.fName∧a.length=t.fArgs.length then rW s a t.fArgs else none
noncomputable def rW(s:List dU):List ah→List ah→Option (List dU)
 |[],_=>some s
 |_::_,[]=>none
 |p::ps,t::ts=>
  match yg s p t with
  |some s'=>rW s' ps ts
  |none=>none
end
mutual
def ah.cnt:ah→Nat
 | .mk _ _ a=>1+ah.dR a
def ah.dR:List ah→Nat
 |[]=>0
 |t::ts=>t.cnt+ah.dR ts
end
theorem ah.mW(t:ah):t.cnt=1+ah.dR t.fArgs:=by cases t;rw[ah.cnt];rfl
mutual
theorem jW:∀t:ah,t.cnt≤1+t.sz
 | .mk k n a=>by
   have h:=sQ a
   rw[ah.cnt]
   have e:(ah.mk k n a).sz=n.length+(a.length+aI (a.map ah.enc)):=by
    simp only[ah.sz,ah.aH,bH,D.sz,List.length_map,ah.fName,ah.fArgs,Nat.add_zero,Nat.zero_add]
   omega
theorem sQ:∀ts:List ah,ah.dR ts≤ts.length+aI (ts.map ah.enc)
 |[]=>by simp[ah.dR]
 |t::ts=>by
  have h1:=jW t
  have h2:=sQ ts
  rw[ah.dR,List.length_cons,List.map_cons,aI,ah.cZ]
  omega
end
mutual
theorem RZ:∀(p:ah) (s:List dU) (t:ah) (s':List dU),yg s p t=some s'→s'.length≤s.length+p.cnt
 | .mk k n a,s,t,s',h=>by
   rw[yg] at h
   rw[ah.cnt]
   split at h
   ·split at h
    ·split at h
     ·cases h;omega
     ·cases h
    ·cases h;simp
   ·split at h
    ·have:=FR a s t.fArgs s' h;omega
    ·cases h
theorem FR:∀(ps:List ah) (s:List dU) (ts:List ah) (s':List dU),rW s ps ts=some s'→s'.length≤s.length+ah.dR ps
 |[],s,ts,s',h=>by rw[rW] at h;cases h;omega
 |p::ps,s,[],s',h=>by rw[rW] at h;cases h
 |p::ps,s,t::ts,s',h=>by
  rw[rW] at h
  rw[ah.dR]
  cases hm:yg s p t with
  |none=>rw[hm] at h;cases h
  |some s1=>
   rw[hm] at h
   have h1:=RZ p s t s1 hm
   have h2:=FR ps s1 ts s' h
   omega
end
def Small(s:List dU):Prop:=∀b∈s,b.fType.sz≤4194304
mutual
theorem MQ:∀(p:ah) (s:List dU) (t:ah) (s':List dU),t.sz≤4194304→Small s→yg s p t=some s'→Small s'
 | .mk k n a,s,t,s',ht,hs,h=>by
   rw[yg] at h
   split at h
   ·split at h
    ·split at h
     ·cases h;exact hs
     ·cases h
    ·cases h
     intro b hb
     rcases List.mem_append.1 hb with hb|hb
     ·exact hs b hb
     ·simp at hb;subst hb;exact ht
   ·split at h
    ·refine BM a s t.fArgs s' ?_ hs h
     intro x hx
     have h1:=bD (List.mem_map_of_mem (f:=ah.enc) hx)
     have h2:t.sz=t.fName.length+(t.fArgs.length+aI (t.fArgs.map ah.enc)):=by
      simp only[ah.sz,ah.aH,bH,bf,D.sz,List.length_map,Nat.add_zero,Nat.zero_add]
     rw[ah.cZ] at h1
     omega
    ·cases h
theorem BM:∀(ps:List ah) (s:List dU) (ts:List ah) (s':List dU),(∀t∈ts,t.sz≤4194304)→Small s→rW s ps ts=some s'→Small s'
 |[],s,ts,s',ht,hs,h=>by rw[rW] at h;cases h;exact hs
 |p::ps,s,[],s',ht,hs,h=>by rw[rW] at h;cases h
 |p::ps,s,t::ts,s',ht,hs,h=>by
  rw[rW] at h
  cases hm:yg s p t with
  |none=>rw[hm] at h;cases h
  |some s1=>
   rw[hm] at h
   exact BM ps s1 ts s' (fun x hx=>ht x (by simp[hx])) (MQ p s t s1 (ht t (by simp)) hs hm) h
end
end Go.Ab
namespace Go.Ab
def lowerB(b:UInt8):Prop:=97≤b.toNat∧b.toNat≤122
def oO(b:UInt8):Prop:=48≤b.toNat∧b.toNat≤57
def MR(s:List UInt8):Prop:=∀i,i<s.length→lowerB (s.getD i 0)∨(i≠0∧oO (s.getD i 0))
def reserved:List (List UInt8):=[[105,110,116],[98,111,111,108],[97,115,115,111,99],[100,121,110],[105,102],[108,101,116],[99,97,115,101],[110,101,119],[109,101,116,104,111,100],[112,97,99,107],[116,114,117,101],[102,97,108,115,101]]
noncomputable def validName(s:List UInt8):Bool:=dec ((1≤s.length∧s.length≤8)∧s∉reserved∧MR s)
noncomputable def sF(s:List UInt8):Bool:=dec (s=[105,110,116]∨s=[98,111,111,108])
noncomputable def rX(xs:List (List UInt8))(s:List UInt8):Int:=if s∈xs then((xs.findIdx fun x=>dec (x=s):Nat):Int) else -1
theorem O0{xs:List (List UInt8)}{s:List UInt8}{i:Nat}(hi:i<xs.length)(hj:∀j,j<i→xs.getD j []≠s)(h:xs.getD i []=s):rX xs s=i:=by
 have e:∀j,∀hj:j<xs.length,xs.getD j []=xs[j]:=fun j hj=>by simp[List.getD,hj]
 have hm:s∈xs:=by rw[←h,e i hi];exact List.getElem_mem hi
 unfold rX
 rw[if_pos hm]
 congr 1
 rw[List.findIdx_eq hi]
 exact⟨bq (by rw[←e i hi];exact h),fun j hji=>aC (by rw[←e j (by omega)];exact hj j hji)⟩
theorem U7{xs:List (List UInt8)}{s:List UInt8}(hj:∀j,j<xs.length→xs.getD j []≠s):rX xs s= -1:=by
 unfold rX
 refine if_neg fun hm=> ?_
 obtain⟨j,h1,h2⟩:=List.getElem_of_mem hm
 exact hj j h1 (by simp[List.getD,h1,h2])
theorem FT{xs:List (List UInt8)}{s:List UInt8}:decide (rX xs s≥0)=dec (s∈xs):=by
 rw[lW]
 refine gP ?_
 unfold rX
 split
 ·rename_i h;exact⟨fun _=>h,fun _=>by omega⟩
 ·rename_i h;exact⟨fun x=>by omega,fun x=>absurd x h⟩
def oP{α:Type}(p:α→Bool)(xs:List α):Int:=if xs.any p then((xs.findIdx p:Nat):Int) else -1
theorem oz{α:Type}{p:α→Bool}{xs:List α}{i:Nat}(hi:i<xs.length)(hj:∀j,∀hj:j<xs.length,j<i→p xs[j]=false)(h:p xs[i]=true):oP p xs=i:=by
 unfold oP
 rw[if_pos (List.any_eq_true.2 ⟨xs[i],List.getElem_mem hi,h⟩)]
 congr 1
 rw[List.findIdx_eq hi]
 exact⟨h,fun j hji=>hj j (by omega) hji⟩
theorem qR{α:Type}{p:α→Bool}{xs:List α}(hj:∀j,∀hj:j<xs.length,p xs[j]=false):oP p xs= -1:=by
 unfold oP
 refine if_neg fun h=> ?_
 obtain⟨x,hx,hp⟩:=List.any_eq_true.1 h
 obtain⟨j,h1,h2⟩:=List.getElem_of_mem hx
 rw[←h2,hj j h1] at hp
 cases hp
theorem pO{α:Type}{p:α→Bool}{xs:List α}:decide (oP p xs≥0)=xs.any p:=by
 unfold oP
 cases h:xs.any p with
 |true=>simp
 |false=>simp
noncomputable def wZ(k:Int)(n:List UInt8)(len:Nat):Bool:=
 dec ((k=1∨k=4)∧validName n=true∧len=0∨k=3∧validName n=true∧len=1∨k=2∧(validName n=true∧len≤3∨sF n=true∧len=0))
mutual
noncomputable def formed:ah→Bool
 | .mk k n a=>wZ k n a.length&&iQ a
noncomputable def iQ:List ah→Bool
 |[]=>true
 |t::ts=>formed t&&iQ ts
end
theorem sS(t:ah):formed t=(wZ t.aV t.fName t.fArgs.length&&iQ t.fArgs):=by cases t;rw[formed];rfl
theorem rY:∀{ts:List ah},iQ ts=true↔∀t∈ts,formed t=true
 |[]=>by simp[iQ]
 |t::ts=>by simp[iQ,rY (ts:=ts)]
theorem DR:∀{ts:List ah},(ts.any fun t=> !formed t)= !iQ ts
 |[]=>rfl
 |t::ts=>by rw[List.any_cons,DR (ts:=ts),iQ];simp
mutual
def kR:ah→Nat
 | .mk _ _ a=>depths a
def depths:List ah→Nat
 |[]=>0
 |t::ts=>max (kR t+1) (depths ts)
end
theorem JF(t:ah):kR t=depths t.fArgs:=by cases t;rw[kR];rfl
mutual
theorem vX:∀t:ah,kR t+1≤t.cnt
 | .mk k n a=>by
   have:=JG a
   rw[kR,ah.cnt];omega
theorem JG:∀ts:List ah,depths ts≤ah.dR ts
 |[]=>by simp[depths]
 |t::ts=>by
  have h1:=vX t
  have h2:=JG ts
  rw[depths,ah.dR]
  omega
end
noncomputable def lg(t:ah):Bool:=dec (formed t=true∧kR t≤6∧t.cnt≤60)
end Go.Ab
namespace Go.Ab
mutual
def mX:ah→List ah
 | .mk k n a=>.mk k n a::mh a
def mh:List ah→List ah
 |[]=>[]
 |t::ts=>mX t++mh ts
end
theorem vY(t:ah):mX t=t::mh t.fArgs:=by cases t;rw[mX];rfl
theorem vK{ts:List ah}{i:Nat}(hi:i<ts.length):mh (ts.drop i)=mX ts[i]++mh (ts.drop (i+1)):=by rw[List.drop_eq_getElem_cons hi,mh]
mutual
theorem BN:∀t:ah,(mX t).length=t.cnt
 | .mk k n a=>by rw[mX,List.length_cons,ah.cnt,FU a];omega
theorem FU:∀ts:List ah,(mh ts).length=ah.dR ts
 |[]=>rfl
 |t::ts=>by rw[mh,List.length_append,ah.dR,BN t,FU ts]
end
def qH(out:List (List UInt8))(u:ah):List (List UInt8):=if u.aV=1∧u.fName∉out then out++[u.fName] else out
def iB(out:List (List UInt8))(t:ah):List (List UInt8):=(mX t).foldl qH out
def qd(out:List (List UInt8))(ts:List ah):List (List UInt8):=(mh ts).foldl qH out
theorem Ep(out:List (List UInt8))(u:ah):(qH out u).length≤out.length+1:=by
 unfold qH
 split<;>simp
theorem JH:∀(us:List ah) (out:List (List UInt8)),(us.foldl qH out).length≤out.length+us.length
 |[],out=>by simp
 |u::us,out=>by
  have h1:=Ep out u
  have h2:=JH us (qH out u)
  rw[List.foldl_cons,List.length_cons]
  omega
theorem vZ(t:ah)(out:List (List UInt8)):(iB out t).length≤out.length+t.cnt:=by
 have:=JH (mX t) out
 rw[BN] at this
 exact this
theorem XO(out:List (List UInt8))(t:ah):iB out t=qd (qH out t) t.fArgs:=by
 unfold iB qd
 rw[vY,List.foldl_cons]
theorem DT{ts:List ah}{i:Nat}(hi:i<ts.length)(out:List (List UInt8)):qd out (ts.drop i)=qd (iB out ts[i]) (ts.drop (i+1)):=by
 unfold qd iB
 rw[vK hi,List.foldl_append]
def nS(t:ah):Bool:=(mX t).any fun u=>decide (u.aV=3)
def qU(ts:List ah):Bool:=(mh ts).any fun u=>decide (u.aV=3)
theorem Ar(t:ah):nS t=(decide (t.aV=3)||qU t.fArgs):=by
 unfold nS qU
 rw[vY,List.any_cons]
theorem Kw{ts:List ah}{i:Nat}(hi:i<ts.length):qU (ts.drop i)=(nS ts[i]||qU (ts.drop (i+1))):=by
 unfold qU nS
 rw[vK hi,List.any_append]
theorem MS(us:List ah):∀b:Bool,us.foldl (fun b u=>b||decide (u.aV=3)) b=(b||us.any fun u=>decide (u.aV=3)):=by
 induction us with
 |nil=>intro b;simp
 |cons u us ih=>intro b;rw[List.foldl_cons,ih,List.any_cons,Bool.or_assoc]
def FV(v:List UInt8)(u:ah):Bool:=decide (u.aV=1∧u.fName=v)
def nI(v:List UInt8)(t:ah):Nat:=(mX t).countP (FV v)
def rF(v:List UInt8)(ts:List ah):Nat:=(mh ts).countP (FV v)
theorem U8(v:List UInt8)(t:ah):nI v t=(if FV v t then 1 else 0)+rF v t.fArgs:=by
 unfold nI rF
 rw[vY,List.countP_cons]
 omega
theorem MU{v:List UInt8}{ts:List ah}{i:Nat}(hi:i<ts.length):rF v (ts.drop i)=nI v ts[i]+rF v (ts.drop (i+1)):=by
 unfold rF nI
 rw[vK hi,List.countP_append]
theorem U9(v:List UInt8)(t:ah):nI v t≤t.cnt:=by
 unfold nI
 rw[←BN]
 exact List.countP_le_length
def occurs(v:List UInt8)(t:ah):Bool:=decide (0<nI v t)
end Go.Ab
namespace Go.Proofs.YtcfhnaohbaplhaaGreatDoor.Fa
open Go Go.Ab
abbrev dJ (t c b:Nat) (z:List C):Prop:=Tryz.prog.cellsOf t=c∧Tryz.prog.bytesOf t=b∧(Tryz.prog.info? t).isSome=true∧jF Tryz.prog t=some z
theorem dM{t c b:Nat}{z:List C}(h1:Tryz.prog.cellsOf t=c:=by kernel_rfl)(h2:Tryz.prog.bytesOf t=b:=by kernel_rfl)(h3:(Tryz.prog.info? t).isSome=true:=by kernel_rfl)(h4:jF Tryz.prog t=some z:=by kernel_rfl):dJ t c b z:=⟨h1,h2,h3,h4⟩
theorem ty1:dJ 1 1 8 [.d (.o .nilFunc)]:=dM
theorem ty2:dJ 2 1 8 [.d (.i .i64 0)]:=dM
theorem ty3:dJ 3 1 8 [.d (.i .i64 0)]:=dM
theorem ty4:dJ 4 1 1 [.d (.b false)]:=dM
theorem acR:zeroV Tryz.prog 4=some (.bool false):=by kernel_rfl
theorem ty5:dJ 5 1 1 [.d (.i .u8 0)]:=dM
theorem ty9:dJ 9 1 16 [.d (.s [])]:=dM
theorem aeC:dJ 12 1 8 [.d (.i .u64 0)]:=dM
theorem aeD:dJ 20 1 16 [.d (.o .nilIface)]:=dM
theorem aeE:dJ 21 1 4 [.d (.i .i32 0)]:=dM
theorem aeF:dJ 22 1 24 [.bC []]:=dM
theorem aeG:dJ 23 3 48 [.d (.i .i64 0),.d (.s []),.bC []]:=dM
theorem aeH:dJ 24 3 48 [.d (.i .i64 0),.d (.s []),.bC []]:=dM
theorem aeI:dJ 25 1 24 [.bC []]:=dM
theorem aeJ:dJ 26 1 24 [.bC []]:=dM
theorem aeK:dJ 27 9 144 [.d (.i .i64 0),.d (.s []),.d (.s []),.d (.i .i64 0),.d (.i .i64 0),.d (.s []),.bC [],.bC [],.bC []]:=dM
theorem aeL:dJ 28 9 144 [.d (.i .i64 0),.d (.s []),.d (.s []),.d (.i .i64 0),.d (.i .i64 0),.d (.s []),.bC [],.bC [],.bC []]:=dM
theorem aeM:dJ 29 1 8 [.d (.o .nilFunc)]:=dM
theorem aeN:dJ 30 1 8 [.d (.o .nilFunc)]:=dM
theorem aeO:dJ 31 1 24 [.bC []]:=dM
theorem aeP:dJ 32 3 48 [.d (.i .i64 0),.d (.s []),.bC []]:=dM
theorem aeQ:dJ 33 3 48 [.d (.i .i64 0),.d (.s []),.bC []]:=dM
theorem aeR:dJ 34 1 24 [.bC []]:=dM
theorem aeS:dJ 35 1 24 [.bC []]:=dM
theorem aeT:dJ 36 9 144 [.d (.i .i64 0),.d (.s []),.d (.s []),.d (.i .i64 0),.d (.i .i64 0),.d (.s []),.bC [],.bC [],.bC []]:=dM
theorem aeU:dJ 37 9 144 [.d (.i .i64 0),.d (.s []),.d (.s []),.d (.i .i64 0),.d (.i .i64 0),.d (.s []),.bC [],.bC [],.bC []]:=dM
theorem aeV:dJ 38 1 8 [.d (.o .nilFunc)]:=dM
theorem aeW:dJ 39 1 8 [.d (.o .nilFunc)]:=dM
theorem aeX:dJ 40 1 8 [.d (.o .nilFunc)]:=dM
theorem aeY:dJ 41 1 24 [.bC []]:=dM
theorem aeZ:dJ 42 1 24 [.bC []]:=dM
theorem ae0:dJ 43 1 24 [.bC []]:=dM
theorem ae1:dJ 44 1 24 [.bC []]:=dM
theorem ae2:dJ 45 1 24 [.bC []]:=dM
theorem ae3:dJ 47 6 136 [.d (.s []),.bC [],.bC [],.bC [],.bC [],.bC []]:=dM
theorem ae4:dJ 48 1 8 [.d (.o .nilFunc)]:=dM
theorem ae5:dJ 49 1 8 [.d (.o .nilFunc)]:=dM
theorem ae6:dJ 50 1 24 [.bC []]:=dM
theorem ae7:dJ 51 1 24 [.bC []]:=dM
theorem ae8:dJ 52 1 24 [.bC []]:=dM
theorem ae9:dJ 53 1 24 [.bC []]:=dM
theorem afa:dJ 54 6 136 [.d (.s []),.bC [],.bC [],.bC [],.bC [],.bC []]:=dM
theorem afb:dJ 55 6 136 [.d (.s []),.bC [],.bC [],.bC [],.bC [],.bC []]:=dM
theorem afc:dJ 56 1 8 [.d (.o .nilFunc)]:=dM
theorem afd:dJ 57 1 8 [.d (.o .nilFunc)]:=dM
theorem afe:dJ 58 1 8 [.d (.o .nilFunc)]:=dM
theorem aff:dJ 59 1 24 [.bC []]:=dM
theorem afg:dJ 61 1 24 [.bC []]:=dM
theorem afh:dJ 63 1 8 [.d (.o .nilFunc)]:=dM
theorem afi:dJ 64 1 24 [.bC []]:=dM
theorem afj:dJ 65 1 24 [.bC []]:=dM
theorem afk:dJ 66 1 24 [.bC []]:=dM
theorem afl:dJ 67 1 8 [.d (.o .nilFunc)]:=dM
theorem afm:dJ 68 1 8 [.d (.o .nilFunc)]:=dM
theorem afn:dJ 69 1 8 [.d (.o .nilFunc)]:=dM
theorem afo:dJ 70 1 24 [.bC []]:=dM
theorem afp:dJ 71 2 40 [.d (.s []),.bC []]:=dM
theorem afq:dJ 72 2 40 [.d (.s []),.bC []]:=dM
theorem afr:dJ 76 1 24 [.bC []]:=dM
theorem afs:dJ 78 2 40 [.d (.s []),.bC []]:=dM
theorem aft:dJ 79 1 8 [.d (.o .nilFunc)]:=dM
theorem afu:dJ 80 1 8 [.d (.o .nilFunc)]:=dM
theorem afv:dJ 81 1 8 [.d (.o .nilFunc)]:=dM
theorem afw:dJ 82 1 8 [.d (.o .nilFunc)]:=dM
theorem afx:dJ 83 1 8 [.d (.o .nilFunc)]:=dM
theorem afy:dJ 87 1 8 [.d (.o .nilFunc)]:=dM
theorem afz:dJ 91 1 8 [.d (.o .nilFunc)]:=dM
theorem afA:dJ 92 1 8 [.d (.o .nilFunc)]:=dM
theorem afB:dJ 93 1 8 [.d (.o .nilFunc)]:=dM
theorem afC:dJ 95 1 8 [.d (.o .nilFunc)]:=dM
theorem afD:dJ 96 1 8 [.d (.o .nilFunc)]:=dM
theorem afE:dJ 97 1 8 [.d (.o .nilFunc)]:=dM
theorem acS:dJ 124 1 8 [.d (.o .nilFunc)]:=dM
theorem acT:dJ 145 11 184 [.d (.s []),.bC [],.d (.i .i64 0),.d (.s []),.d (.s []),.d (.i .i64 0),.d (.i .i64 0),.d (.s []),.bC [],.bC [],.bC []]:=dM
theorem acU:dJ 146 1 8 [.d (.o .nilFunc)]:=dM
theorem acV:dJ 149 11 184 [.d (.s []),.bC [],.d (.i .i64 0),.d (.s []),.d (.s []),.d (.i .i64 0),.d (.i .i64 0),.d (.s []),.bC [],.bC [],.bC []]:=dM
theorem acW:dJ 153 1 8 [.d (.o (.pointer none))]:=dM
theorem acX:dJ 154 1 24 [.bC []]:=dM
theorem acY:dJ 156 2 32 [.d (.o (.pointer none)),.bC []]:=dM
theorem acZ:dJ 160 1 8 [.d (.o .nilFunc)]:=dM
theorem ac0:dJ 162 1 24 [.bC []]:=dM
theorem ac1:dJ 164 5 72 [.d (.s []),.bC [],.d (.b false),.d (.b false),.bC []]:=dM
theorem ac2:dJ 166 1 24 [.bC []]:=dM
theorem ac3:dJ 168 3 64 [.d (.s []),.bC [],.bC []]:=dM
theorem ac4:dJ 170 1 24 [.bC []]:=dM
theorem ac5:dJ 171 1 24 [.bC []]:=dM
theorem ac6:dJ 173 12 192 [.d (.s []),.bC [],.d (.i .i64 0),.d (.s []),.bC [],.bC [],.d (.b false),.d (.b false),.d (.i .i64 0),.d (.s []),.bC [],.bC []]:=dM
theorem ac7:dJ 175 1 24 [.bC []]:=dM
theorem ac8:dJ 177 16 280 [.d (.s []),.bC [],.bC [],.bC [],.d (.i .i64 0),.d (.s []),.bC [],.d (.i .i64 0),.d (.s []),.d (.s []),.d (.i .i64 0),.d (.i .i64 0),.d (.s []),.bC [],.bC [],.bC []]:=dM
theorem ac9:dJ 182 1 24 [.bC []]:=dM
theorem ada:dJ 184 5 72 [.d (.s []),.bC [],.d (.b false),.d (.b false),.bC []]:=dM
theorem adb:dJ 186 1 24 [.bC []]:=dM
theorem ade:dJ 188 3 64 [.d (.s []),.bC [],.bC []]:=dM
theorem adf:dJ 190 1 24 [.bC []]:=dM
theorem adg:dJ 191 1 24 [.bC []]:=dM
theorem adh:dJ 193 12 192 [.d (.s []),.bC [],.d (.i .i64 0),.d (.s []),.bC [],.bC [],.d (.b false),.d (.b false),.d (.i .i64 0),.d (.s []),.bC [],.bC []]:=dM
theorem adi:dJ 195 1 24 [.bC []]:=dM
theorem adj:dJ 197 16 280 [.d (.s []),.bC [],.bC [],.bC [],.d (.i .i64 0),.d (.s []),.bC [],.d (.i .i64 0),.d (.s []),.d (.s []),.d (.i .i64 0),.d (.i .i64 0),.d (.s []),.bC [],.bC [],.bC []]:=dM
theorem adk:dJ 240 1 24 [.bC []]:=dM
theorem adl:dJ 248 1 16 [.d (.o .nilIface)]:=dM
theorem adn:dJ 252 1 8 [.d (.o (.pointer none))]:=dM
theorem ado:dJ 259 16 264 [.d (.s []),.bC [],.d (.i .i64 0),.d (.s []),.bC [],.d (.b false),.bC [],.d (.i .i64 0),.d (.s []),.d (.s []),.d (.i .i64 0),.d (.i .i64 0),.d (.s []),.bC [],.bC [],.bC []]:=dM
theorem adp:dJ 262 2 40 [.d (.s []),.bC []]:=dM
theorem adq:dJ 265 11 184 [.d (.s []),.bC [],.d (.i .i64 0),.d (.s []),.d (.s []),.d (.i .i64 0),.d (.i .i64 0),.d (.s []),.bC [],.bC [],.bC []]:=dM
theorem adr:dJ 267 4 64 [.d (.s []),.d (.i .i64 0),.d (.s []),.bC []]:=dM
theorem ads:dJ 288 4 96 [.bC [],.bC [],.bC [],.bC []]:=dM
theorem adt:dJ 293 1 8 [.d (.o .nilFunc)]:=dM
theorem adu:dJ 300 4 64 [.d (.s []),.d (.i .i64 0),.d (.s []),.bC []]:=dM
theorem adv:dJ 312 1 8 [.d (.o .nilFunc)]:=dM
theorem adw:dJ 317 16 264 [.d (.s []),.bC [],.d (.i .i64 0),.d (.s []),.bC [],.d (.b false),.bC [],.d (.i .i64 0),.d (.s []),.d (.s []),.d (.i .i64 0),.d (.i .i64 0),.d (.s []),.bC [],.bC [],.bC []]:=dM
theorem adx:dJ 320 2 40 [.d (.s []),.bC []]:=dM
theorem ady:dJ 323 4 64 [.d (.s []),.d (.i .i64 0),.d (.s []),.bC []]:=dM
theorem adz:dJ 326 11 184 [.d (.s []),.bC [],.d (.i .i64 0),.d (.s []),.d (.s []),.d (.i .i64 0),.d (.i .i64 0),.d (.s []),.bC [],.bC [],.bC []]:=dM
theorem adA:dJ 329 4 64 [.d (.s []),.d (.i .i64 0),.d (.s []),.bC []]:=dM
theorem adB:dJ 346 1 8 [.d (.o (.map none))]:=dM
theorem adC:dJ 350 1 8 [.d (.o .nilFunc)]:=dM
theorem adD:dJ 353 1 8 [.d (.o .nilFunc)]:=dM
theorem adE:dJ 379 24 24 [.d (.i .u8 0),.d (.i .u8 0),.d (.i .u8 0),.d (.i .u8 0),.d (.i .u8 0),.d (.i .u8 0),.d (.i .u8 0),.d (.i .u8 0),.d (.i .u8 0),.d (.i .u8 0),.d (.i .u8 0),.d (.i .u8 0),.d (.i .u8 0),.d (.i .u8 0),.d (.i .u8 0),.d (.i .u8 0),.d (.i .u8 0),.d (.i .u8 0),.d (.i .u8 0),.d (.i .u8 0),.d (.i .u8 0),.d (.i .u8 0),.d (.i .u8 0),.d (.i .u8 0)]:=dM
theorem adF:dJ 380 1 8 [.d (.i .u64 0)]:=dM
theorem adG:dJ 386 1 24 [.bC []]:=dM
theorem adH:dJ 396 20 160 [.d (.i .u64 0),.d (.i .u64 0),.d (.i .u64 0),.d (.i .u64 0),.d (.i .u64 0),.d (.i .u64 0),.d (.i .u64 0),.d (.i .u64 0),.d (.i .u64 0),.d (.i .u64 0),.d (.i .u64 0),.d (.i .u64 0),.d (.i .u64 0),.d (.i .u64 0),.d (.i .u64 0),.d (.i .u64 0),.d (.i .u64 0),.d (.i .u64 0),.d (.i .u64 0),.d (.i .u64 0)]:=dM
theorem adI:dJ 397 1 4 [.d (.i .u32 0)]:=dM
theorem adJ:dJ 398 65 65 [.d (.i .u8 0),.d (.i .u8 0),.d (.i .u8 0),.d (.i .u8 0),.d (.i .u8 0),.d (.i .u8 0),.d (.i .u8 0),.d (.i .u8 0),.d (.i .u8 0),.d (.i .u8 0),.d (.i .u8 0),.d (.i .u8 0),.d (.i .u8 0),.d (.i .u8 0),.d (.i .u8 0),.d (.i .u8 0),.d (.i .u8 0),.d (.i .u8 0),.d (.i .u8 0),.d (.i .u8 0),.d (.i .u8 0),.d (.i .u8 0),.d (.i .u8 0),.d (.i .u8 0),.d (.i .u8 0),.d (.i .u8 0),.d (.i .u8 0),.d (.i .u8 0),.d (.i .u8 0),.d (.i .u8 0),.d (.i .u8 0),.d (.i .u8 0),.d (.i .u8 0),.d (.i .u8 0),.d (.i .u8 0),.d (.i .u8 0),.d (.i .u8 0),.d (.i .u8 0),.d (.i .u8 0),.d (.i .u8 0),.d (.i .u8 0),.d (.i .u8 0),.d (.i .u8 0),.d (.i .u8 0),.d (.i .u8 0),.d (.i .u8 0),.d (.i .u8 0),.d (.i .u8 0),.d (.i .u8 0),.d (.i .u8 0),.d (.i .u8 0),.d (.i .u8 0),.d (.i .u8 0),.d (.i .u8 0),.d (.i .u8 0),.d (.i .u8 0),.d (.i .u8 0),.d (.i .u8 0),.d (.i .u8 0),.d (.i .u8 0),.d (.i .u8 0),.d (.i .u8 0),.d (.i .u8 0),.d (.i .u8 0),.d (.i .u8 0)]:=dM
theorem adK:dJ 400 1 8 [.d (.i .u64 0)]:=dM
theorem adL:dJ 415 32 32 [.d (.i .u8 0),.d (.i .u8 0),.d (.i .u8 0),.d (.i .u8 0),.d (.i .u8 0),.d (.i .u8 0),.d (.i .u8 0),.d (.i .u8 0),.d (.i .u8 0),.d (.i .u8 0),.d (.i .u8 0),.d (.i .u8 0),.d (.i .u8 0),.d (.i .u8 0),.d (.i .u8 0),.d (.i .u8 0),.d (.i .u8 0),.d (.i .u8 0),.d (.i .u8 0),.d (.i .u8 0),.d (.i .u8 0),.d (.i .u8 0),.d (.i .u8 0),.d (.i .u8 0),.d (.i .u8 0),.d (.i .u8 0),.d (.i .u8 0),.d (.i .u8 0),.d (.i .u8 0),.d (.i .u8 0),.d (.i .u8 0),.d (.i .u8 0)]:=dM
theorem adM:dJ 416 64 64 [.d (.i .u8 0),.d (.i .u8 0),.d (.i .u8 0),.d (.i .u8 0),.d (.i .u8 0),.d (.i .u8 0),.d (.i .u8 0),.d (.i .u8 0),.d (.i .u8 0),.d (.i .u8 0),.d (.i .u8 0),.d (.i .u8 0),.d (.i .u8 0),.d (.i .u8 0),.d (.i .u8 0),.d (.i .u8 0),.d (.i .u8 0),.d (.i .u8 0),.d (.i .u8 0),.d (.i .u8 0),.d (.i .u8 0),.d (.i .u8 0),.d (.i .u8 0),.d (.i .u8 0),.d (.i .u8 0),.d (.i .u8 0),.d (.i .u8 0),.d (.i .u8 0),.d (.i .u8 0),.d (.i .u8 0),.d (.i .u8 0),.d (.i .u8 0),.d (.i .u8 0),.d (.i .u8 0),.d (.i .u8 0),.d (.i .u8 0),.d (.i .u8 0),.d (.i .u8 0),.d (.i .u8 0),.d (.i .u8 0),.d (.i .u8 0),.d (.i .u8 0),.d (.i .u8 0),.d (.i .u8 0),.d (.i .u8 0),.d (.i .u8 0),.d (.i .u8 0),.d (.i .u8 0),.d (.i .u8 0),.d (.i .u8 0),.d (.i .u8 0),.d (.i .u8 0),.d (.i .u8 0),.d (.i .u8 0),.d (.i .u8 0),.d (.i .u8 0),.d (.i .u8 0),.d (.i .u8 0),.d (.i .u8 0),.d (.i .u8 0),.d (.i .u8 0),.d (.i .u8 0),.d (.i .u8 0),.d (.i .u8 0)]:=dM
theorem laidOut:laidOutB Tryz.prog=true:=by kernel_rfl
theorem own:ownKnob Tryz.prog.godebug=none:=by kernel_rfl
attribute [go_sem] ty1 Tryz.underlying1 ty2 Tryz.underlying2 ty3 Tryz.underlying3 ty4 Tryz.underlying4 acR ty5 Tryz.underlying5 ty9 Tryz.underlying9 aeC Tryz.underlying12 aeD Tryz.underlying20 aeE Tryz.underlying21 aeF Tryz.underlying22 aeG Tryz.underlying23 aeH Tryz.underlying24 aeI Tryz.underlying25 aeJ Tryz.underlying26 aeK Tryz.underlying27 aeL Tryz.underlying28 aeM Tryz.underlying29 aeN Tryz.underlying30 aeO Tryz.underlying31 aeP Tryz.underlying32 aeQ Tryz.underlying33 aeR Tryz.underlying34 aeS Tryz.underlying35 aeT Tryz.underlying36 aeU Tryz.underlying37 aeV Tryz.underlying38 aeW Tryz.underlying39 aeX Tryz.underlying40 aeY Tryz.underlying41 aeZ Tryz.underlying42 ae0 Tryz.underlying43 ae1 Tryz.underlying44 ae2 Tryz.underlying45 ae3 Tryz.underlying47 ae4 Tryz.underlying48 ae5 Tryz.underlying49 ae6 Tryz.underlying50 ae7 Tryz.underlying51 ae8 Tryz.underlying52 ae9 Tryz.underlying53 afa Tryz.underlying54 afb Tryz.underlying55 afc Tryz.underlying56 afd Tryz.underlying57 afe Tryz.underlying58 aff Tryz.underlying59 afg Tryz.underlying61 afh Tryz.underlying63 afi Tryz.underlying64 afj Tryz.underlying65 afk Tryz.underlying66 afl Tryz.underlying67 afm Tryz.underlying68 afn Tryz.underlying69 afo Tryz.underlying70 afp Tryz.underlying71 afq Tryz.underlying72 afr Tryz.underlying76 afs Tryz.underlying78 aft Tryz.underlying79 afu Tryz.underlying80 afv Tryz.underlying81 afw Tryz.underlying82 afx Tryz.underlying83 afy Tryz.underlying87 afz Tryz.underlying91 afA Tryz.underlying92 afB Tryz.underlying93 afC Tryz.underlying95 afD Tryz.underlying96 afE Tryz.underlying97 acS Tryz.underlying124 acT Tryz.underlying145 acU Tryz.underlying146 acV Tryz.underlying149 acW Tryz.underlying153 acX Tryz.underlying154 acY Tryz.underlying156 acZ Tryz.underlying160 ac0 Tryz.underlying162 ac1 Tryz.underlying164 ac2 Tryz.underlying166 ac3 Tryz.underlying168 ac4 Tryz.underlying170 ac5 Tryz.underlying171 ac6 Tryz.underlying173 ac7 Tryz.underlying175 ac8 Tryz.underlying177 ac9 Tryz.underlying182 ada Tryz.underlying184 adb Tryz.underlying186 ade Tryz.underlying188 adf Tryz.underlying190 adg Tryz.underlying191 adh Tryz.underlying193 adi Tryz.underlying195 adj Tryz.underlying197 adk Tryz.underlying240 adl Tryz.underlying248 adn Tryz.underlying252 ado Tryz.underlying259 adp Tryz.underlying262 adq Tryz.underlying265 adr Tryz.underlying267 ads Tryz.underlying288 adt Tryz.underlying293 adu Tryz.underlying300 adv Tryz.underlying312 adw Tryz.underlying317 adx Tryz.underlying320 ady Tryz.underlying323 adz Tryz.underlying326 adA Tryz.underlying329 adB Tryz.underlying346 adC Tryz.underlying350 adD Tryz.underlying353 adE Tryz.underlying379 adF Tryz.underlying380 adG Tryz.underlying386 adH Tryz.underlying396 adI Tryz.underlying397 adJ Tryz.underlying398 adK Tryz.underlying400 adL Tryz.underlying415 adM Tryz.underlying416
end Go.Proofs.YtcfhnaohbaplhaaGreatDoor.Fa
namespace Go.Proofs.YtcfhnaohbaplhaaGreatDoor
open Go Go.Ab
theorem mo(xs:List (List UInt8))(left:Int)(h0:0≤left)(h1:left≤1048576)(hf:(D.sl (xs.map encS)).Fit):
 aD Tryz.prog 52 [.c (.d (.sl (xs.map encS))),.c (.d (.i .i64 left))] (.c (.d (.i .i64 (cB left (xs.length+aI (xs.map encS)))))):=by
 intro S
 obtain⟨hf1,hf2⟩:=nY hf
 rw[List.length_map] at hf1
 refine aB (rs:=[.tmp 4]) Tryz.checked.mixed Tryz.func52 Tryz.ntmps52 rfl rfl rfl rfl rfl ?_
 refine W1 ?_
 refine S0 (fun hb h=>?_) fun hb h=>?_
 ·exact int_eq (bT (by omega)).symm
 refine aR (ι:=Nat×Int) Tryz.checked.mixed rfl [0,1,5] (fun y=>[.c (.d (.sl (xs.map encS))),.c (.d (.i .i64 y.2)),.c (.d (.i .i64 y.1))]) (fun _=>[]::S)
  (fun y=>y.1≤xs.length∧0≤y.2∧y.2≤1048576∧cB y.2 (aI ((xs.map encS).drop y.1))=cB left (xs.length+aI (xs.map encS))) (fun y=>xs.length-y.1) (0,left-xs.length) rfl rfl ⟨by omega,by omega,by omega,?_⟩ ?_
 ·unfold cB
  rw[List.drop_zero]
  split<;>split<;>omega
 rintro⟨i,l⟩ ⟨p1,p2,p3,p4⟩
 simp only at p1 p2 p3 p4
 refine W1 ?_
 refine S0 (fun hb h=>?_) fun hb h=>?_
 ·have hi:i<xs.length:=by omega
  have hl:xs[i].length≤9223372036854775807:=pK (hf2 (encS xs[i]) (List.mem_map_of_mem (List.getElem_mem hi)) (.s xs[i]) (by simp[encS]))
  rw[List.drop_eq_getElem_cons (by rw[List.length_map];exact hi),aI,List.getElem_map] at p4
  simp only[encS,bH,D.sz] at p4
  refine W1 ?_
  refine W3 ?_
  refine S0 (fun hb h=>?_) fun hb h=>?_
  ·rw[←p4,bT (by omega)]
  ·refine bF (i+1,l-xs[i].length) (by simp only;omega) rfl rfl ⟨by simp only;omega,by simp only;omega,by simp only;omega,?_⟩
   simp only
   rw[←p4]
   unfold cB
   split<;>split<;>omega
 ·have hi:i=xs.length:=by omega
  rw[hi,List.drop_of_length_le (by simp),aI,fq (by omega)] at p4
  rw[←p4]
  refine int_eq ?_
  omega
theorem mq(xs:List (List UInt8))(hsz:xs.length+aI (xs.map encS)≤1048576):aD Tryz.prog 58 [.c (.d (.sl (xs.map encS)))] (.c (.d (.sl (xs.map encS)))):=by
 intro S
 refine aB (rs:=[.tmp 2]) Tryz.checked.mixed Tryz.func58 Tryz.ntmps58 rfl rfl rfl rfl rfl ?_
 refine W1 ?_
 refine W3 ?_
 refine aR (ι:=Nat×List (List D)) Tryz.checked.mixed rfl [0,3,4] (fun y=>[.c (.d (.sl (xs.map encS))),.c (.jd (0,0)),.c (.d (.i .i64 y.1))]) (fun y=>[.eT 1 y.2]::S)
  (fun y=>y.1≤xs.length∧fI 1 y.1 y.2 (xs.map encS)) (fun y=>xs.length-y.1) (0,_) rfl rfl ⟨Nat.zero_le _,fI.start (by simp) rfl⟩ ?_
 rintro⟨i,R⟩ ⟨p1,p2⟩
 simp only at p1 p2
 refine W1 ?_
 refine S0 (fun hb h=>?_) fun hb h=>?_
 ·have hi:i<xs.length:=by omega
  have hR:=p2.1
  rw[List.length_map] at hR
  refine W3 ?_
  refine bF (i+1,_) (by simp only;omega) rfl rfl ⟨by simp only;omega,p2.step (by simp[hi,encS]) rfl⟩
 ·have hi:i=xs.length:=by omega
  rw[p2.done (by rw[List.length_map];omega)]
theorem mD(xs ys:List (List UInt8))(hsz:xs.length≤1073741824):aD Tryz.prog 64 [.c (.d (.sl (xs.map encS))),.c (.d (.sl (ys.map encS)))] (.c (.d (.b (dec (xs=ys))))):=by
 intro S
 refine aB (rs:=[.tmp 4]) Tryz.checked.mixed Tryz.func64 Tryz.ntmps64 rfl rfl rfl rfl rfl ?_
 refine W1 ?_
 refine S0 (fun hb h=>?_) fun hb h=>?_
 ·exact ay (aC (fun e=>h (by rw[e]))).symm
 have hl:xs.length=ys.length:=by omega
 refine aR (ι:=Nat) Tryz.checked.mixed rfl [0,1,5] (fun y=>[.c (.d (.sl (xs.map encS))),.c (.d (.sl (ys.map encS))),.c (.d (.i .i64 y))]) (fun y=>[]::S)
  (fun i=>i≤xs.length∧∀j,j<i→xs[j]? =ys[j]?) (fun y=>xs.length-y) 0 rfl rfl ⟨Nat.zero_le _,fun j h=>by omega⟩ ?_
 rintro i ⟨p1,p2⟩
 refine W1 ?_
 refine S0 (fun hb h=>?_) fun hb h=>?_
 ·have hi:i<xs.length:=by omega
  have hi':i<ys.length:=by omega
  refine W3 ?_
  refine S0 (fun hb h=>?_) fun hb h=>?_
  ·exact ay (aC (fun e=>h (by simp only[e]))).symm
  refine bF (i+1) (by omega) rfl rfl ⟨by omega,fun j hj=> ?_⟩
  by_cases e:j=i
  ·subst e
   rw[List.getElem?_eq_getElem hi,List.getElem?_eq_getElem hi',h]
  ·exact p2 j (by omega)
 ·have hi:i=xs.length:=by omega
  refine ay (bq (List.ext_getElem? fun j=> ?_)).symm
  by_cases hj:j<i
  ·exact p2 j hj
  ·rw[List.getElem?_eq_none (by omega),List.getElem?_eq_none (by omega)]
end Go.Proofs.YtcfhnaohbaplhaaGreatDoor
namespace Go.Proofs.YtcfhnaohbaplhaaGreatDoor
open Go Go.Ab
theorem zI(n a b:Int):aD Tryz.prog 243 [.c (.d (.i .i64 n)),.c (.d (.i .i64 a)),.c (.d (.i .i64 b))] (.c (.d (.b (dec (a≤n∧n≤b))))):=fun S=>by
 refine aB (rs:=[.tmp 6]) Tryz.checked.mixed Tryz.func243 Tryz.ntmps243 rfl rfl rfl rfl rfl ?_
 refine W1 ?_
 refine S0 (fun hb h=>?_) fun hb h=>?_
 ·exact ay (by rw[lW];exact gP ⟨fun x=>⟨by omega,x⟩,fun x=>x.2⟩)
 ·exact ay (aC (by omega)).symm
theorem pQ(xs:List (List UInt8))(s:List UInt8)(hl:xs.length≤1073741824):aD Tryz.prog 161 [.c (.d (.sl (xs.map encS))),.c (.d (.s s))] (.c (.d (.b (dec (s∈xs))))):=fun S=>by
 refine aB (rs:=[.tmp 4]) Tryz.checked.mixed Tryz.func161 Tryz.ntmps161 rfl rfl rfl rfl rfl ?_
 simp -implicitDefEqProofs (disch:=omega) only[go_sem,encS]
 refine aR (ι:=Nat) Tryz.checked.mixed rfl [0,1,5] (fun i=>[.c (.d (.sl (xs.map encS))),.c (.d (.s s)),.c (.d (.i .i64 i))]) (fun _=>[]::S)
  (fun i=>i≤xs.length∧∀j,j<i→∀h:j<xs.length,xs[j]≠s) (fun i=>xs.length-i) 0 rfl rfl ⟨Nat.zero_le _,fun j h=>by omega⟩ ?_
 rintro i ⟨p1,p2⟩
 simp -implicitDefEqProofs (disch:=omega) only[go_sem,encS]
 with_reducible refine eY (fun hb=> ?_) (fun hb=> ?_)<;>have h:=hb<;>(try simp only[wf_preprocess] at h)<;>simp -implicitDefEqProofs (disch:=omega) only[go_sem,hb,encS]<;>refine W3 ?_
 ·have hi:i<xs.length:=by omega
  with_reducible refine eY (fun hb=> ?_) (fun hb=> ?_)<;>have h:=hb<;>(try simp only[wf_preprocess] at h)<;>simp -implicitDefEqProofs (disch:=omega) only[go_sem,hb,encS]<;>refine W3 ?_
  ·exact ay (bq (by rw[←h];exact List.getElem_mem hi)).symm
  ·refine bF (i+1) (by omega) rfl rfl ⟨by omega,fun j hj hl=> ?_⟩
   by_cases e:j=i
   ·subst e;exact h
   ·exact p2 j (by omega) hl
 ·refine ay (aC fun hm=> ?_).symm
  obtain⟨j,h1,h2⟩:=List.getElem_of_mem hm
  exact p2 j (by omega) h1 h2
theorem JI(xs:List (List UInt8))(s:List UInt8)(hl:xs.length≤1073741824):aD Tryz.prog 257 [.c (.d (.sl (xs.map encS))),.c (.d (.s s))] (.c (.d (.i .i64 (rX xs s)))):=fun S=>by
 refine aB (rs:=[.tmp 4]) Tryz.checked.mixed Tryz.func257 Tryz.ntmps257 rfl rfl rfl rfl rfl ?_
 simp -implicitDefEqProofs (disch:=omega) only[go_sem,encS]
 refine aR (ι:=Nat) Tryz.checked.mixed rfl [0,1,7,8] (fun i=>[.c (.d (.sl (xs.map encS))),.c (.d (.s s)),.c (.d (.i .i64 xs.length)),.c (.d (.i .i64 i))]) (fun _=>[]::S)
  (fun i=>i≤xs.length∧∀j,j<i→xs.getD j []≠s) (fun i=>xs.length-i) 0 rfl rfl ⟨Nat.zero_le _,fun j h=>by omega⟩ ?_
 rintro i ⟨p1,p2⟩
 simp -implicitDefEqProofs (disch:=omega) only[go_sem,encS]
 with_reducible refine eY (fun hb=> ?_) (fun hb=> ?_)<;>have h:=hb<;>(try simp only[wf_preprocess] at h)<;>simp -implicitDefEqProofs (disch:=omega) only[go_sem,hb,encS]<;>refine W3 ?_
 ·have hi:i<xs.length:=by omega
  have e:xs.getD i []=xs[i]:=by simp[List.getD,hi]
  with_reducible refine eY (fun hb=> ?_) (fun hb=> ?_)<;>have h:=hb<;>(try simp only[wf_preprocess] at h)<;>simp -implicitDefEqProofs (disch:=omega) only[go_sem,hb,encS]<;>refine W3 ?_
  ·rw[O0 hi p2 (by rw[e];exact h.symm)]
  ·refine bF (i+1) (by omega) rfl rfl ⟨by omega,fun j hj=> ?_⟩
   by_cases e':j=i
   ·subst e';rw[e];exact fun x=>h x.symm
   ·exact p2 j (by omega)
 ·rw[U7 (fun j hj=>p2 j (by omega))]
theorem qV(xs:List (List UInt8))(s:List UInt8)(hl:xs.length≤1073741824):aD Tryz.prog 321 [.c (.d (.sl (xs.map encS))),.c (.d (.s s))] (.c (.d (.b (dec (s∈xs))))):=fun S=>by
 refine aB (rs:=[.tmp 4]) Tryz.checked.mixed Tryz.func321 Tryz.ntmps321 rfl rfl rfl rfl rfl ?_
 refine W1 ?_
 refine C2 (JI xs s hl) ?_
 exact ay FT
theorem FW(s:List UInt8):aD Tryz.prog 244 [.c (.d (.s s))] (.c (.d (.b (dec (s∈reserved))))):=fun S=>by
 refine aB (rs:=[.tmp 2]) Tryz.checked.mixed Tryz.func244 Tryz.ntmps244 rfl rfl rfl rfl rfl ?_
 refine W1 ?_
 refine W3 ?_
 exact C4 (pQ reserved s (by decide))
theorem FX(s:List UInt8):aD Tryz.prog 253 [.c (.d (.s s))] (.c (.d (.b (dec (s∈reserved))))):=fun S=>by
 refine aB (rs:=[.tmp 2]) Tryz.checked.mixed Tryz.func253 Tryz.ntmps253 rfl rfl rfl rfl rfl ?_
 refine W1 ?_
 refine W3 ?_
 exact C4 (qV reserved s (by decide))
theorem FY(b:UInt8):aD Tryz.prog 251 [.c (.d (.i .u8 b.toNat))] (.c (.d (.b (dec (lowerB b))))):=fun S=>by
 refine aB (rs:=[.tmp 2]) Tryz.checked.mixed Tryz.func251 Tryz.ntmps251 rfl rfl rfl rfl rfl ?_
 refine W1 ?_
 refine S0 (fun hb h=>?_) fun hb h=>?_
 ·exact ay (by rw[lW];exact gP ⟨fun x=>⟨by omega,by omega⟩,fun x=>by have:=x.2;omega⟩)
 ·exact ay (aC fun x=>by have:=x.1;omega).symm
theorem FZ(b:UInt8):aD Tryz.prog 252 [.c (.d (.i .u8 b.toNat))] (.c (.d (.b (dec (oO b))))):=fun S=>by
 refine aB (rs:=[.tmp 2]) Tryz.checked.mixed Tryz.func252 Tryz.ntmps252 rfl rfl rfl rfl rfl ?_
 refine W1 ?_
 refine S0 (fun hb h=>?_) fun hb h=>?_
 ·exact ay (by rw[lW];exact gP ⟨fun x=>⟨by omega,by omega⟩,fun x=>by have:=x.2;omega⟩)
 ·exact ay (aC fun x=>by have:=x.1;omega).symm
theorem fT(s:List UInt8)(hl:s.length≤1073741824):aD Tryz.prog 168 [.c (.d (.s s))] (.c (.d (.b (validName s)))):=fun S=>by
 refine aB (rs:=[.tmp 2]) Tryz.checked.mixed Tryz.func168 Tryz.ntmps168 rfl rfl rfl rfl rfl ?_
 refine W1 ?_
 refine aR (ι:=Nat) Tryz.checked.mixed rfl [0,5,6] (fun i=>[.c (.d (.s s)),.c (.d (.i .i64 s.length)),.c (.d (.i .i64 i))]) (fun _=>[]::S)
  (fun i=>i≤s.length∧∀j,j<i→lowerB (s.getD j 0)∨(j≠0∧oO (s.getD j 0))) (fun i=>s.length-i) 0 rfl rfl ⟨Nat.zero_le _,fun j h=>by omega⟩ ?_
 rintro i ⟨p1,p2⟩
 have next:i<s.length→(lowerB (s.getD i 0)∨(i≠0∧oO (s.getD i 0)))→∀j,j<i+1→lowerB (s.getD j 0)∨(j≠0∧oO (s.getD j 0)):=fun hi h j hj=>by
  by_cases e:j=i
  ·subst e;exact h
  ·exact p2 j (by omega)
 have bad:i<s.length→¬(lowerB (s.getD i 0)∨(i≠0∧oO (s.getD i 0)))→validName s=false:=fun hi h=>aC fun x=>h (x.2.2 i hi)
 refine W1 ?_
 refine S0 (fun hb h=>?_) fun hb h=>?_
 ·have hi:i<s.length:=by omega
  refine W3 ?_
  refine C2 (FY (s.getD i 0)) ?_
  refine S0 (fun hb h=>?_) fun hb h=>?_
  ·have nl:=h
   refine S0 (fun hb h=>?_) fun hb h=>?_
   ·have i0:i=0:=by omega
    rw[bad hi (fun x=>x.elim nl fun y=>y.1 i0)]
   ·have ne:=h
    refine W3 ?_
    refine C2 (FZ (s.getD i 0)) ?_
    refine S0 (fun hb h=>?_) fun hb h=>?_
    ·rw[bad hi (fun x=>x.elim nl fun y=>h y.2)]
    ·exact bF (i+1) (by omega) rfl rfl ⟨by omega,next hi (.inr ⟨by omega,h⟩)⟩
  ·exact bF (i+1) (by omega) rfl rfl ⟨by omega,next hi (.inl h)⟩
 ·have hn:MR s:=fun j hj=>p2 j (by omega)
  have h0:∀b,dec (s∈reserved)=b→∀c,decide ((s.length:Int)≥1)=c→∀d,decide ((s.length:Int)≤8)=d→validName s=(c&&d&& !b):=by
   rintro b rfl c rfl d rfl
   unfold validName
   rw[Bool.eq_iff_iff]
   simp only[vJ,Bool.and_eq_true,decide_eq_true_eq,Bool.not_eq_true',BL]
   exact⟨fun x=>⟨⟨by omega,by omega⟩,x.2.1⟩,fun x=>⟨⟨by omega,by omega⟩,x.2,hn⟩⟩
  refine S0 (fun hb h=>?_) fun hb h=>?_
  ·have c1:=hb
   refine S0 (fun hb h=>?_) fun hb h=>?_
   ·refine C2 (FX s) ?_
    exact ay (by rw[h0 _ rfl _ c1 _ hb];simp)
   ·exact ay (by rw[h0 _ rfl _ c1 _ hb];simp)
  ·exact ay (by rw[h0 _ rfl _ hb _ rfl];simp)
theorem fU(s:List UInt8)(hl:s.length≤1073741824):aD Tryz.prog 159 [.c (.d (.s s))] (.c (.d (.b (validName s)))):=fun S=>by
 have bad:¬MR s→validName s=false:=fun h=>aC fun x=>h x.2.2
 refine aB (rs:=[.tmp 2]) Tryz.checked.mixed Tryz.func159 Tryz.ntmps159 rfl rfl rfl rfl rfl ?_
 refine W1 ?_
 refine C2 (zI s.length 1 8) ?_
 refine S0 (fun hb h=>?_) fun hb h=>?_
 ·rw[show validName s=false from aC fun x=>h (by omega)]
 have hlen:=h
 refine C2 (FW s) ?_
 refine S0 (fun hb h=>?_) fun hb h=>?_
 ·rw[show validName s=false from aC fun x=>x.2.1 h]
 have hres:=h
 refine aR (ι:=Nat) Tryz.checked.mixed rfl [0,3] (fun i=>[.c (.d (.s s)),.c (.d (.i .i64 i))]) (fun _=>[]::S)
  (fun i=>i≤s.length∧∀j,j<i→lowerB (s.getD j 0)∨(j≠0∧oO (s.getD j 0))) (fun i=>s.length-i) 0 rfl rfl ⟨Nat.zero_le _,fun j h=>by omega⟩ ?_
 rintro i ⟨p1,p2⟩
 have next:i<s.length→(lowerB (s.getD i 0)∨(i≠0∧oO (s.getD i 0)))→∀j,j<i+1→lowerB (s.getD j 0)∨(j≠0∧oO (s.getD j 0)):=fun hi h j hj=>by
  by_cases e:j=i
  ·subst e;exact h
  ·exact p2 j (by omega)
 refine W1 ?_
 refine S0 (fun hb h=>?_) fun hb h=>?_
 ·have hi:i<s.length:=by omega
  have bad':¬(lowerB (s.getD i 0)∨(i≠0∧oO (s.getD i 0)))→validName s=false:=fun h=>bad fun x=>h (x i hi)
  have next:=next hi
  unfold lowerB oO at bad' next
  all_goals try(refine S0 (fun hb h=>?_) fun hb h=>?_)
  all_goals try(refine S0 (fun hb h=>?_) fun hb h=>?_)
  all_goals try(refine S0 (fun hb h=>?_) fun hb h=>?_)
  all_goals try(refine S0 (fun hb h=>?_) fun hb h=>?_)
  all_goals try(refine S0 (fun hb h=>?_) fun hb h=>?_)
  all_goals try(with_reducible refine eY (fun hb=> ?_) (fun hb=> ?_)<;>have h:=hb<;>(try simp only[wf_preprocess] at h)<;>simp -implicitDefEqProofs (disch:=omega) only[go_sem,hb]<;>(repeat(with_reducible refine And.intro ?_ ?_;focus first|omega|rfl|assumption|exact⟨_,rfl,rfl⟩|(simp;omega)|(simp;done))))
  all_goals first
   |exact bF (i+1) (by omega) rfl rfl ⟨by omega,next (by omega)⟩
   |exact ay (bad' (by omega)).symm
 ·rw[show validName s=true from bq ⟨by omega,hres,fun j hj=>p2 j (by omega)⟩]
theorem Va(s:List UInt8):aD Tryz.prog 368 [.c (.d (.s s))] (.c (.d (.b (sF s)))):=fun S=>by
 refine aB (rs:=[.tmp 2]) Tryz.checked.mixed Tryz.func368 Tryz.ntmps368 rfl rfl rfl rfl rfl ?_
 refine W1 ?_
 refine S0 (fun hb h=>?_) fun hb h=>?_
 ·exact ay (bq (.inl h)).symm
 ·exact ay (by rw[lW];exact gP ⟨fun x=>.inr x,fun x=>x.resolve_left h⟩)
theorem MV(s:List UInt8):aD Tryz.prog 380 [.c (.d (.s s))] (.c (.d (.b (sF s)))):=fun S=>by
 refine aB (rs:=[.tmp 2]) Tryz.checked.mixed Tryz.func380 Tryz.ntmps380 rfl rfl rfl rfl rfl ?_
 refine W1 ?_
 refine S0 (fun hb h=>?_) fun hb h=>?_
 ·exact ay (bq (.inl h)).symm
 ·exact ay (by rw[lW];exact gP ⟨fun x=>.inr x,fun x=>x.resolve_left h⟩)
end Go.Proofs.YtcfhnaohbaplhaaGreatDoor
namespace Go.Proofs.YtcfhnaohbaplhaaGreatDoor
open Go Go.Ab
theorem xD{x:ah}{i:Nat}(hi:i<x.fArgs.length)(h:x.sz≤4194304):x.fArgs[i].sz≤4194304∧x.fArgs.length≤4194304∧x.fName.length≤4194304:=by
 have hx:x.fArgs[i].sz≤aI (x.fArgs.map ah.enc):=bD (List.mem_map_of_mem (List.getElem_mem hi))
 simp only[ah.sz,ah.aH,bH,D.sz,List.length_map] at h
 omega
theorem BO{x:ah}(h:x.sz≤4194304):x.fArgs.length≤4194304∧x.fName.length≤4194304:=by
 simp only[ah.sz,ah.aH,bH,D.sz,List.length_map] at h
 omega
theorem BP:∀n:Nat,∀t:ah,SizeOf.sizeOf t<n→t.sz≤4194304→∀(g:Nat) (caps:List (Key×Nat)) (α:Type) (st:α→Store) (I:Nat→α→Prop) (f:α→ah→α) (hf:Ap Tryz.prog g caps st I f ah.v (fun u=>u.sz≤4194304)) (m:Nat) (a:α),I (m+t.cnt) a→
 I m ((mX t).foldl f a)∧dG Tryz.prog 330 [t.v,.c (.fn g caps)] (st a) (fun r S'=>r=.iE []∧S'=st ((mX t).foldl f a))
 |0=>fun t h=>by omega
 |n+1=>by
  have ih:=BP n
  intro t hn hsz g caps α st I f hf m a ha
  have iX:=ah.fE t
  have hts:=BO hsz
  rw[ah.mW,show m+(1+ah.dR t.fArgs)=(m+ah.dR t.fArgs)+1 by omega] at ha
  have h1:=hf _ a t ha hsz
  have hI:∀(ts:List ah),SizeOf.sizeOf ts<n→(∀x∈ts,x.sz≤4194304)→∀a,I (m+ah.dR ts) a→I m ((mh ts).foldl f a):=by
   intro ts
   induction ts with
   |nil=>intro _ _ a ha;exact ha
   |cons x xs ihx=>
    intro hs hz a ha
    simp only[List.cons.sizeOf_spec] at hs
    rw[mh,List.foldl_append]
    rw[ah.dR,show m+(x.cnt+ah.dR xs)=(m+ah.dR xs)+x.cnt by omega] at ha
    exact ihx (by omega) (fun y hy=>hz y (by simp[hy])) _ (ih x (by omega) (hz x (by simp)) g caps α st I f hf _ a ha).1
  have hall:∀x∈t.fArgs,x.sz≤4194304:=fun x hx=>by
   obtain⟨i,hi,e⟩:=List.getElem_of_mem hx
   rw[←e];exact(xD hi hsz).1
  refine⟨by rw[vY,List.foldl_cons];exact hI t.fArgs (by omega) hall _ h1.1,?_⟩
  refine aB (rs:=[]) Tryz.checked.mixed Tryz.func330 Tryz.ntmps330 rfl rfl rfl rfl rfl ?_
  refine W1 ?_
  refine dS rfl (h1.2 [_]) ?_
  refine W1 ?_
  refine aR (ι:=Nat×α) Tryz.checked.mixed rfl [1,10,11,12] (fun y=>[.c (.fn g (iJ 1 caps)),.c (.d (.sl (t.fArgs.map ah.enc))),.c (.d (.i .i64 t.fArgs.length)),.c (.d (.i .i64 y.1))]) (fun y=>[.box [.d (.i .i64 t.aV),.d (.s t.fName),.d (.sl (t.fArgs.map ah.enc))]]::st y.2)
   (fun y=>y.1≤t.fArgs.length∧I (m+ah.dR (t.fArgs.drop y.1)) y.2∧(mh (t.fArgs.drop y.1)).foldl f y.2=(mX t).foldl f a) (fun y=>t.fArgs.length-y.1) (0,f a t) rfl rfl ⟨Nat.zero_le _,h1.1,by rw[vY,List.foldl_cons];rfl⟩ ?_
  rintro⟨i,b⟩ ⟨p1,p2,p3⟩
  simp only at p1 p2 p3
  refine W1 ?_
  refine S0 (fun hb h=>?_) fun hb h=>?_
  ·have hi:i<t.fArgs.length:=by omega
   have hs:=List.sizeOf_lt_of_mem (List.getElem_mem hi)
   rw[vK hi,List.foldl_append] at p3
   rw[List.drop_eq_getElem_cons hi,ah.dR,show m+(t.fArgs[i].cnt+ah.dR (t.fArgs.drop (i+1)))=(m+ah.dR (t.fArgs.drop (i+1)))+t.fArgs[i].cnt by omega] at p2
   have h2:=(ih t.fArgs[i] (by omega) (xD hi hsz).1 g caps α st I f hf _ b p2).1
   refine W3 ?_
   refine dS rfl (((ih t.fArgs[i] (by omega) (xD hi hsz).1 g (iJ 1 caps) α (fun a=>[.box [.d (.i .i64 t.aV),.d (.s t.fName),.d (.sl (t.fArgs.map ah.enc))],.box [.d (.i .i64 t.fArgs[i].aV),.d (.s t.fArgs[i].fName),.d (.sl (t.fArgs[i].fArgs.map ah.enc))]]::st a) I f (hf.push _) _ b p2)).2) ?_
   refine W1 ?_
   exact bX 1 (by decide) (i+1,(mX t.fArgs[i]).foldl f b) (by simp only;omega) rfl rfl (by simp only[fH,gG,List.all_cons,List.all_nil,V.refs,C.refs,ML,Bool.and_true]) rfl ⟨by simp only;omega,h2,p3⟩
  ·have hi:i=t.fArgs.length:=by omega
   rw[hi,List.drop_length,mh,List.foldl_nil] at p3
   rw[p3]
theorem DU{t:ah}(hsz:t.sz≤4194304){g:Nat}{caps:List (Key×Nat)}{α:Type}{st:α→Store}{I:Nat→α→Prop}{f:α→ah→α}(hf:Ap Tryz.prog g caps st I f ah.v (fun u=>u.sz≤4194304))(m:Nat)(a:α)(ha:I (m+t.cnt) a):
 I m ((mX t).foldl f a)∧dG Tryz.prog 330 [t.v,.c (.fn g caps)] (st a) (fun r S'=>r=.iE []∧S'=st ((mX t).foldl f a)):=BP _ t (Nat.lt_succ_self _) hsz g caps α st I f hf m a ha
theorem Dr(rest:List Ab.Obj)(S:Store):Ap Tryz.prog 363 [((0,0),0)] (fun out:List (List UInt8)=>(.box [.bI (0,1) (out.map encS)]:: .tok 1 (out.map encS)::rest)::S) (fun n out=>out.length+n≤1073741824) qH ah.v (fun u=>u.sz≤4194304):=by
 intro n out u hI hu
 refine⟨by have:=Ep out u;omega,fun F=> ?_⟩
 have hts:=BO hu
 refine aB (rs:=[]) Tryz.checked.mixed Tryz.func363 Tryz.ntmps363 rfl rfl rfl rfl rfl ?_
 refine W1 ?_
 refine S0 (fun hb h=>?_) fun hb h=>?_
 ·have h1:=h
  refine C2 (qV out u.fName (by omega)) ?_
  refine S0 (fun hb h=>?_) fun hb h=>?_
  ·refine W3 ?_
   have ha:qH out u=out++[u.fName]:=if_pos ⟨h1,h⟩
   rw[ha];simp[encS]
  ·have ha:qH out u=out:=if_neg fun x=>x.2 h
   rw[ha]
 ·have ha:qH out u=out:=if_neg fun x=>h x.1
  rw[ha]
theorem Io(ts:List ah)(hl:ts.length≤4194304)(hz:∀t∈ts,t.sz≤4194304)(hc:ah.dR ts≤1073741823):aD Tryz.prog 333 [.c (.d (.sl (ts.map ah.enc)))] (.c (.d (.sl ((qd [] ts).map encS)))):=fun S=>by
 refine aB (rs:=[.tmp 2]) Tryz.checked.mixed Tryz.func333 Tryz.ntmps333 rfl rfl rfl rfl rfl ?_
 refine W1 ?_
 refine W3 ?_
 refine nX 0 0 1 [] [.bC []] rfl rfl (by simp) ?_
 refine aR (ι:=Nat×List (List UInt8)) Tryz.checked.mixed rfl [3,7,8,9] (fun y=>[.c (.ptr (0,0) 0),.c (.d (.sl (ts.map ah.enc))),.c (.d (.i .i64 ts.length)),.c (.d (.i .i64 y.1))]) (fun y=>[.box [.bI (0,1) (y.2.map encS)],.tok 1 (y.2.map encS)]::S)
  (fun y=>y.1≤ts.length∧y.2.length+ah.dR (ts.drop y.1)≤1073741824∧qd y.2 (ts.drop y.1)=qd [] ts) (fun y=>ts.length-y.1) (0,[]) rfl rfl ⟨Nat.zero_le _,by simp only[List.drop_zero,List.length_nil];omega,rfl⟩ ?_
 rintro⟨i,out⟩ ⟨p1,p2,p3⟩
 simp only at p1 p2 p3
 refine W1 ?_
 refine S0 (fun hb h=>?_) fun hb h=>?_
 ·have hi:i<ts.length:=by omega
  rw[DT hi] at p3
  rw[List.drop_eq_getElem_cons hi,ah.dR] at p2
  have hlen:=vZ ts[i] out
  refine W3 ?_
  refine dS rfl (DU (hz _ (List.getElem_mem hi)) (Dr [Ab.Obj.box [.d (.i .i64 ts[i].aV),.d (.s ts[i].fName),.d (.sl (ts[i].fArgs.map ah.enc))]] S) (ah.dR (ts.drop (i+1))) out (by omega)).2 ?_
  refine W1 ?_
  exact bX 2 (by decide) (i+1,iB out ts[i]) (by simp only;omega) rfl rfl rfl rfl ⟨by simp only;omega,by simp only;omega,p3⟩
 ·have hi:i=ts.length:=by omega
  rw[hi,List.drop_length] at p3
  rw[←p3];rfl
theorem uj(t:ah)(hsz:t.sz≤4194304):aD Tryz.prog 264 [t.v] (.c (.d (.sl ((iB [] t).map encS)))):=fun S=>by
 have hc:=jW t
 have h0:=Io [t] (by simp) (by simpa using hsz) (by simp[ah.dR];omega)
 simp only[List.map_cons,List.map_nil,ah.aH] at h0
 refine aB (rs:=[.tmp 2]) Tryz.checked.mixed Tryz.func264 Tryz.ntmps264 rfl rfl rfl rfl rfl ?_
 refine W1 ?_
 refine W3 ?_
 refine bN h0 ?_
 refine W1 ?_
 rw[show qd [] [t]=iB [] t by simp[qd,iB,mh]]
theorem F3:∀n:Nat,∀t:ah,SizeOf.sizeOf t<n→t.sz≤4194304→∀(out:List (List UInt8)) (l j:Nat) (S:Store),bL S (l,j)=some (.tok 1 (out.map encS))→out.length+t.cnt≤1073741824→
 dG Tryz.prog 372 [t.v,.c (.bI (l,j) (out.map encS))] S (fun r S'=>r=.c (.bI (l,j) ((iB out t).map encS))∧S'=cu S (l,j) (.tok 1 ((iB out t).map encS)))
 |0=>fun t h=>by omega
 |n+1=>by
  have ih:=F3 n
  intro t hn hsz out l j S hk hc
  have iX:=ah.fE t
  have hts:=BO hsz
  have hcn:=ah.mW t
  have F4:∀x:Ab.Obj,bL (cu S (l,j) x) (l,j)=some x:=fun x=>gq _ _ _ _ hk
  have hS0:cu S (l,j) (.tok 1 (out.map encS))=S:=yO _ _ hk
  have fin:iB out t=qd (qH out t) t.fArgs:=XO out t
  have hal:=Ep out t
  have e0:(out++[t.fName]).map encS=out.map encS++[[D.s t.fName]]:=by simp[encS]
  refine aB (rs:=[.tmp 4]) Tryz.checked.mixed Tryz.func372 Tryz.ntmps372 rfl rfl rfl rfl rfl ?_
  simp -implicitDefEqProofs (disch:=omega) only[go_sem,hk]
  repeat' (first
   |(with_reducible refine eY (fun hb=> ?_) (fun hb=> ?_)<;>have h:=hb<;>(try simp only[wf_preprocess] at h)<;>simp -implicitDefEqProofs (disch:=omega) only[go_sem,hb,hk]<;>refine W3 ?_)
   |(refine bN (pQ out t.fName (by omega)) ?_;simp -implicitDefEqProofs (disch:=omega) only[go_sem,hk];refine W3 ?_))
  all_goals first
   |(have ha:qH out t=out++[t.fName]:=if_pos ⟨by assumption,by assumption⟩)
   |(have ha:qH out t=out:=if_neg (fun x=>by have:=x.1;have:=x.2;contradiction))
  all_goals
   refine aR (ι:=Nat×List (List UInt8)) Tryz.checked.mixed rfl [1,2,5] (fun y=>[.c (.bI (1+l,j) (y.2.map encS)),.c (.ptr (0,0) 0),.c (.d (.i .i64 y.1))]) (fun y=>[.box [.d (.i .i64 t.aV),.d (.s t.fName),.d (.sl (t.fArgs.map ah.enc))]]::cu S (l,j) (.tok 1 (y.2.map encS)))
    (fun y=>y.1≤t.fArgs.length∧y.2.length+ah.dR (t.fArgs.drop y.1)≤1073741824∧qd y.2 (t.fArgs.drop y.1)=iB out t) (fun y=>t.fArgs.length-y.1) (0,qH out t) (by first|(rw[ha,e0];rfl)|(rw[ha];rfl)) (by first|(simp only[ha,e0];done)|(simp only[ha,hS0];done)) ⟨Nat.zero_le _,by simp only[List.drop_zero];omega,by rw[fin];rfl⟩ ?_
   rintro⟨i,b⟩ ⟨p1,p2,p3⟩
   simp only at p1 p2 p3
   refine W1 ?_
   refine S0 (fun hb h=>?_) fun hb h=>?_
   ·have hi:i<t.fArgs.length:=by omega
    have hs:=List.sizeOf_lt_of_mem (List.getElem_mem hi)
    rw[DT hi] at p3
    rw[List.drop_eq_getElem_cons hi,ah.dR] at p2
    have hlen:=vZ t.fArgs[i] b
    refine W3 ?_
    refine dS rfl (ih t.fArgs[i] (by omega) (xD hi hsz).1 b (1+l) j _ (by rw[MJ];exact F4 _) (by omega)) ?_
    simp -implicitDefEqProofs (disch:=omega) only[go_sem,nW]
    exact bF (i+1,iB b t.fArgs[i]) (by simp only;omega) rfl rfl ⟨by simp only;omega,by simp only;omega,p3⟩
   ·have hi:i=t.fArgs.length:=by omega
    rw[hi,List.drop_length] at p3
    rw[←p3]
    exact⟨rfl,rfl⟩
theorem F5(t:ah)(hsz:t.sz≤4194304):aD Tryz.prog 352 [t.v] (.c (.d (.sl ((iB [] t).map encS)))):=fun S=>by
 have hc:=jW t
 have h0:∀S,dG Tryz.prog 372 [t.v,.c (.bC [])] S (fun r S'=>r=.c (.d (.sl ((iB [] t).map encS)))∧S'=S):=fun S=>by
  refine dG.XI 1 (es:=[]) (bn:=1) rfl (by simp) (F3 _ t (Nat.lt_succ_self _) hsz [] 0 0 ([.tok 1 []]::S) rfl (by simp;omega)) ?_
  rintro r fr S' ⟨rfl,h2⟩
  injection h2 with h2 h3
  exact⟨_,rfl,rfl,h3⟩
 refine aB (rs:=[.tmp 2]) Tryz.checked.mixed Tryz.func352 Tryz.ntmps352 rfl rfl rfl rfl rfl ?_
 refine W1 ?_
 refine W3 ?_
 refine kQ [true,true] rfl (h0 _) ?_
 exact Z1
theorem yP:∀n:Nat,∀t:ah,SizeOf.sizeOf t<n→t.sz≤4194304→aD Tryz.prog 304 [t.v] (.c (.d (.b (nS t))))
 |0=>fun t h=>by omega
 |n+1=>by
  have ih:=yP n
  intro t hn hsz S
  have iX:=ah.fE t
  have hts:=BO hsz
  refine aB (rs:=[.tmp 2]) Tryz.checked.mixed Tryz.func304 Tryz.ntmps304 rfl rfl rfl rfl rfl ?_
  refine W1 ?_
  refine aR (ι:=Nat) Tryz.checked.mixed rfl [1,3] (fun i=>[.c (.ptr (0,0) 0),.c (.d (.i .i64 i))]) (fun _=>[.box [.d (.i .i64 t.aV),.d (.s t.fName),.d (.sl (t.fArgs.map ah.enc))]]::S)
   (fun i=>i≤t.fArgs.length∧qU (t.fArgs.drop i)=qU t.fArgs) (fun i=>t.fArgs.length-i) 0 rfl rfl ⟨Nat.zero_le _,rfl⟩ ?_
  rintro i ⟨p1,p2⟩
  refine W1 ?_
  refine S0 (fun hb h=>?_) fun hb h=>?_
  ·have hi:i<t.fArgs.length:=by omega
   rw[Kw hi] at p2
   refine W3 ?_
   refine C2 (ih t.fArgs[i] (by have:=List.sizeOf_lt_of_mem (List.getElem_mem hi);omega) (xD hi hsz).1) ?_
   refine S0 (fun hb h=>?_) fun hb h=>?_
   ·rw[Ar,←p2,h];simp
   ·exact bF (i+1) (by omega) rfl rfl ⟨by omega,by rw[←p2,h];rfl⟩
  ·have hi:i=t.fArgs.length:=by omega
   rw[hi,List.drop_length] at p2
   rw[Ar,←p2]
   exact ay (by simp[qU,mh])
theorem zJ(t:ah)(hsz:t.sz≤4194304):aD Tryz.prog 304 [t.v] (.c (.d (.b (nS t)))):=yP _ t (Nat.lt_succ_self _) hsz
theorem Ky(rest:List Ab.Obj)(cs:List C)(S:Store):Ap Tryz.prog 331 [((0,1),0)] (fun b:Bool=>(.box cs:: .box [.d (.b b)]::rest)::S) (fun _ _=>True) (fun b u=>b||decide (u.aV=3)) ah.v (fun u=>u.sz≤4194304):=by
 intro n b u _ hu
 refine⟨trivial,fun F=> ?_⟩
 refine aB (rs:=[]) Tryz.checked.mixed Tryz.func331 Tryz.ntmps331 rfl rfl rfl rfl rfl ?_
 refine W1 ?_
 cases b with
 |true=>
  refine W1 ?_
  rfl
 |false=>
  refine W1 ?_
  rfl
theorem zK(t:ah)(hsz:t.sz≤4194304):aD Tryz.prog 262 [t.v] (.c (.d (.b (nS t)))):=fun S=>by
 refine aB (rs:=[.tmp 2]) Tryz.checked.mixed Tryz.func262 Tryz.ntmps262 rfl rfl rfl rfl rfl ?_
 refine W1 ?_
 refine W3 ?_
 refine dS rfl (DU hsz (Ky [] [.d (.i .i64 t.aV),.d (.s t.fName),.d (.sl (t.fArgs.map ah.enc))] S) 0 false trivial).2 ?_
 refine W1 ?_
 rw[MS]
 rfl
end Go.Proofs.YtcfhnaohbaplhaaGreatDoor
namespace Go.Proofs.YtcfhnaohbaplhaaGreatDoor
open Go Go.Ab
theorem qW{x:ah}{i:Nat}(hi:i<x.fArgs.length)(h:x.sz≤4194304):x.fArgs[i].sz≤4194304∧x.fArgs.length≤4194304∧x.fName.length≤4194304:=by
 have hx:x.fArgs[i].sz≤aI (x.fArgs.map ah.enc):=bD (List.mem_map_of_mem (List.getElem_mem hi))
 simp only[ah.sz,ah.aH,bH,D.sz,List.length_map] at h
 omega
theorem yQ{x:ah}(h:x.sz≤4194304):x.fArgs.length≤4194304∧x.fName.length≤4194304:=by
 simp only[ah.sz,ah.aH,bH,D.sz,List.length_map] at h
 omega
theorem kC:∀{ts:List ah} {i:Nat} (hi:i<ts.length),ah.dR (ts.drop i)=ts[i].cnt+ah.dR (ts.drop (i+1)):=fun {ts} {i} hi=>by
 rw[List.drop_eq_getElem_cons hi,ah.dR]
theorem DV:∀{ts:List ah} {i:Nat} (hi:i<ts.length),depths (ts.drop i)=max (kR ts[i]+1) (depths (ts.drop (i+1))):=fun {ts} {i} hi=>by
 rw[List.drop_eq_getElem_cons hi,depths]
theorem MW:∀{ts:List ah} {i:Nat} (hi:i<ts.length),iQ (ts.drop i)=(formed ts[i]&&iQ (ts.drop (i+1))):=fun {ts} {i} hi=>by
 rw[List.drop_eq_getElem_cons hi,iQ]
theorem F6:∀n:Nat,∀x:ah,SizeOf.sizeOf x<n→∀l:Int,0≤l→l≤1073741824→x.sz≤4194304→aD Tryz.prog 341 [x.v,.c (.d (.i .i64 l))] (.c (.d (.i .i64 (cB l x.cnt))))
 |0=>fun x h=>by omega
 |n+1=>by
  have ih:=F6 n
  intro x hn l h0 h1 hsz S
  have iX:=ah.fE x
  have hts:=yQ hsz
  have hcn:=ah.mW x
  refine aB (rs:=[.tmp 4]) Tryz.checked.mixed Tryz.func341 Tryz.ntmps341 rfl rfl rfl rfl rfl ?_
  refine W1 ?_
  refine aR (ι:=Nat×Int) Tryz.checked.mixed rfl [1,2,5] (fun y=>[.c (.d (.i .i64 y.2)),.c (.ptr (0,0) 0),.c (.d (.i .i64 y.1))]) (fun y=>[.box [.d (.i .i64 x.aV),.d (.s x.fName),.d (.sl (x.fArgs.map ah.enc))]]::S)
   (fun y=>y.1≤x.fArgs.length∧ -1≤y.2∧y.2≤1073741824∧(0≤y.2→cB l x.cnt=cB y.2 (ah.dR (x.fArgs.drop y.1)))∧(y.2<0→cB l x.cnt= -1)) (fun y=>x.fArgs.length-y.1) (0,l-1) rfl rfl ⟨Nat.zero_le _,by simp only;omega,by simp only;omega,fun h=> ?_,fun h=> ?_⟩ ?_
  ·simp only[List.drop_zero] at h ⊢
   unfold cB
   rw[hcn]
   split<;>split<;>omega
  ·simp only at h
   exact bT (by omega)
  rintro⟨i,c⟩ ⟨p1,p2,p3,p4,p5⟩
  simp only at p1 p2 p3 p4 p5
  refine W1 ?_
  refine S0 (fun hb h=>?_) fun hb h=>?_
  ·have hi:i<x.fArgs.length:=by omega
   refine S0 (fun hb h=>?_) fun hb h=>?_
   ·have hsz':=qW hi hsz
    have p6:=p4 h
    rw[kC hi] at p6
    refine W3 ?_
    refine C2 (ih x.fArgs[i] (by have:=List.sizeOf_lt_of_mem (List.getElem_mem hi);omega) c (by omega) (by omega) (by omega)) ?_
    refine bF (i+1,cB c _) (by simp only;omega) rfl rfl ⟨by simp only;omega,?_,?_,fun h=> ?_,fun h=> ?_⟩
    ·simp only;unfold cB;split<;>omega
    ·simp only;unfold cB;split<;>omega
    ·simp only at h ⊢
     rw[p6]
     have:=dO (l:=c) (a:=x.fArgs[i].cnt) (by omega)
     rw[this.1]
     unfold cB
     split<;>split<;>omega
    ·simp only at h ⊢
     rw[p6]
     have:=dA h
     exact bT (by omega)
   ·have hc:c= -1:=by omega
    rw[p5 (by omega),hc]
  ·have hi:i=x.fArgs.length:=by omega
   by_cases hc:0≤c
   ·rw[p4 hc,hi,List.drop_length,ah.dR,fq (by omega)]
    exact int_eq (by simp)
   ·rw[p5 (by omega)]
    exact int_eq (by omega)
theorem Vb(x:ah)(l:Int)(h0:0≤l)(h1:l≤1073741824)(hsz:x.sz≤4194304):aD Tryz.prog 341 [x.v,.c (.d (.i .i64 l))] (.c (.d (.i .i64 (cB l x.cnt)))):=F6 _ x (Nat.lt_succ_self _) l h0 h1 hsz
theorem MX(a b:Int):aD Tryz.prog 237 [.c (.d (.i .i64 a)),.c (.d (.i .i64 b))] (.c (.d (.i .i64 (max a b)))):=fun S=>by
 refine aB (rs:=[.tmp 4]) Tryz.checked.mixed Tryz.func237 Tryz.ntmps237 rfl rfl rfl rfl rfl ?_
 refine W1 ?_
 refine S0 (fun hb h=>?_) fun hb h=>?_
 ·exact int_eq (by omega)
 ·exact int_eq (by omega)
theorem Bg:∀n:Nat,∀x:ah,SizeOf.sizeOf x<n→x.sz≤4194304→aD Tryz.prog 342 [x.v] (.c (.d (.i .i64 (kR x))))
 |0=>fun x h=>by omega
 |n+1=>by
  have ih:=Bg n
  intro x hn hsz S
  have iX:=ah.fE x
  have hts:=yQ hsz
  have hd1:=vX x
  have hd2:=jW x
  refine aB (rs:=[.tmp 2]) Tryz.checked.mixed Tryz.func342 Tryz.ntmps342 rfl rfl rfl rfl rfl ?_
  refine W1 ?_
  refine aR (ι:=Nat×Nat) Tryz.checked.mixed rfl [1,3,4] (fun y=>[.c (.ptr (0,0) 0),.c (.d (.i .i64 y.2)),.c (.d (.i .i64 y.1))]) (fun y=>[.box [.d (.i .i64 x.aV),.d (.s x.fName),.d (.sl (x.fArgs.map ah.enc))]]::S)
   (fun y=>y.1≤x.fArgs.length∧kR x=max y.2 (depths (x.fArgs.drop y.1))) (fun y=>x.fArgs.length-y.1) (0,0) rfl rfl ⟨Nat.zero_le _,by simp[JF]⟩ ?_
  rintro⟨i,c⟩ ⟨p1,p2⟩
  simp only at p1 p2
  refine W1 ?_
  refine S0 (fun hb h=>?_) fun hb h=>?_
  ·have hi:i<x.fArgs.length:=by omega
   have hsz':=qW hi hsz
   rw[DV hi] at p2
   have hd3:=vX x.fArgs[i]
   have hd4:=jW x.fArgs[i]
   refine W3 ?_
   refine C2 (ih x.fArgs[i] (by have:=List.sizeOf_lt_of_mem (List.getElem_mem hi);omega) (by omega)) ?_
   refine C2 (MX _ _) ?_
   rw[show max (c:Int) (1+(kR x.fArgs[i]:Int))=((max c (1+kR x.fArgs[i]):Nat):Int) by omega]
   exact bF (i+1,max c (1+kR x.fArgs[i])) (by simp only;omega) rfl rfl ⟨by simp only;omega,by simp only;omega⟩
  ·have hi:i=x.fArgs.length:=by omega
   rw[hi,List.drop_length,depths] at p2
   exact int_eq (by omega)
theorem MZ(x:ah)(hsz:x.sz≤4194304):aD Tryz.prog 342 [x.v] (.c (.d (.i .i64 (kR x)))):=Bg _ x (Nat.lt_succ_self _) hsz
theorem Bh:∀n:Nat,∀x:ah,SizeOf.sizeOf x<n→x.sz≤4194304→aD Tryz.prog 361 [x.v] (.c (.d (.i .i64 (kR x))))
 |0=>fun x h=>by omega
 |n+1=>by
  have ih:=Bh n
  intro x hn hsz S
  have iX:=ah.fE x
  have hts:=yQ hsz
  have hd1:=vX x
  have hd2:=jW x
  refine aB (rs:=[.tmp 2]) Tryz.checked.mixed Tryz.func361 Tryz.ntmps361 rfl rfl rfl rfl rfl ?_
  refine W1 ?_
  refine aR (ι:=Nat×Nat) Tryz.checked.mixed rfl [3,7,8,9] (fun y=>[.c (.d (.i .i64 y.2)),.c (.d (.sl (x.fArgs.map ah.enc))),.c (.d (.i .i64 x.fArgs.length)),.c (.d (.i .i64 y.1))]) (fun y=>[.box [.d (.i .i64 x.aV),.d (.s x.fName),.d (.sl (x.fArgs.map ah.enc))]]::S)
   (fun y=>y.1≤x.fArgs.length∧kR x=max y.2 (depths (x.fArgs.drop y.1))) (fun y=>x.fArgs.length-y.1) (0,0) rfl rfl ⟨Nat.zero_le _,by simp[JF]⟩ ?_
  rintro⟨i,c⟩ ⟨p1,p2⟩
  simp only at p1 p2
  refine W1 ?_
  refine S0 (fun hb h=>?_) fun hb h=>?_
  ·have hi:i<x.fArgs.length:=by omega
   have hsz':=qW hi hsz
   rw[DV hi] at p2
   have hd3:=vX x.fArgs[i]
   have hd4:=jW x.fArgs[i]
   refine W3 ?_
   refine C2 (ih x.fArgs[i] (by have:=List.sizeOf_lt_of_mem (List.getElem_mem hi);omega) (by omega)) ?_
   rw[show max (c:Int) ((kR x.fArgs[i]:Int)+1)=((max c (kR x.fArgs[i]+1):Nat):Int) by omega]
   exact bX 1 (by decide) (i+1,max c (kR x.fArgs[i]+1)) (by simp only;omega) rfl rfl rfl rfl ⟨by simp only;omega,by simp only;omega⟩
  ·have hi:i=x.fArgs.length:=by omega
   rw[hi,List.drop_length,depths] at p2
   exact int_eq (by omega)
theorem M0(x:ah)(hsz:x.sz≤4194304):aD Tryz.prog 361 [x.v] (.c (.d (.i .i64 (kR x)))):=Bh _ x (Nat.lt_succ_self _) hsz
theorem BQ:∀n:Nat,∀x:ah,SizeOf.sizeOf x<n→x.sz≤4194304→aD Tryz.prog 362 [x.v] (.c (.d (.i .i64 x.cnt)))
 |0=>fun x h=>by omega
 |n+1=>by
  have ih:=BQ n
  intro x hn hsz S
  have iX:=ah.fE x
  have hts:=yQ hsz
  have hd2:=jW x
  refine aB (rs:=[.tmp 2]) Tryz.checked.mixed Tryz.func362 Tryz.ntmps362 rfl rfl rfl rfl rfl ?_
  refine W1 ?_
  refine aR (ι:=Nat×Nat) Tryz.checked.mixed rfl [3,7,8,9] (fun y=>[.c (.d (.i .i64 y.2)),.c (.d (.sl (x.fArgs.map ah.enc))),.c (.d (.i .i64 x.fArgs.length)),.c (.d (.i .i64 y.1))]) (fun y=>[.box [.d (.i .i64 x.aV),.d (.s x.fName),.d (.sl (x.fArgs.map ah.enc))]]::S)
   (fun y=>y.1≤x.fArgs.length∧x.cnt=y.2+ah.dR (x.fArgs.drop y.1)) (fun y=>x.fArgs.length-y.1) (0,1) rfl rfl ⟨Nat.zero_le _,by simp[ah.mW]⟩ ?_
  rintro⟨i,c⟩ ⟨p1,p2⟩
  simp only at p1 p2
  refine W1 ?_
  refine S0 (fun hb h=>?_) fun hb h=>?_
  ·have hi:i<x.fArgs.length:=by omega
   have hsz':=qW hi hsz
   rw[kC hi] at p2
   refine W3 ?_
   refine C2 (ih x.fArgs[i] (by have:=List.sizeOf_lt_of_mem (List.getElem_mem hi);omega) (by omega)) ?_
   rw[show(c:Int)+(x.fArgs[i].cnt:Int)=((c+x.fArgs[i].cnt:Nat):Int) by omega]
   exact bX 1 (by decide) (i+1,c+x.fArgs[i].cnt) (by simp only;omega) rfl rfl rfl rfl ⟨by simp only;omega,by simp only;omega⟩
  ·have hi:i=x.fArgs.length:=by omega
   rw[hi,List.drop_length,ah.dR] at p2
   exact int_eq (by omega)
theorem O1(x:ah)(hsz:x.sz≤4194304):aD Tryz.prog 362 [x.v] (.c (.d (.i .i64 x.cnt))):=BQ _ x (Nat.lt_succ_self _) hsz
theorem BR:∀n:Nat,(∀x:ah,SizeOf.sizeOf x<n→x.sz≤4194304→aD Tryz.prog 360 [x.v] (.c (.d (.b (formed x)))))∧
 (∀xs:List ah,SizeOf.sizeOf xs<n→xs.length≤4194304→(∀t∈xs,t.sz≤4194304)→aD Tryz.prog 327 [.c (.d (.sl (xs.map ah.enc))),.c (.fn 381 [])] (.c (.d (.b (!iQ xs)))))
 |0=>⟨fun x h=>by omega,fun x h=>by omega⟩
 |n+1=>by
  obtain⟨ih,BS⟩:=BR n
  refine⟨fun x hn hsz S=> ?_,fun xs hn hlen hsz S=> ?_⟩
  ·have iX:=ah.fE x
   have hts:=yQ hsz
   have fin:∀b,wZ x.aV x.fName x.fArgs.length=b→formed x=(b&&iQ x.fArgs):=fun b hb=>by rw[←hb];exact sS x
   have hall:∀t∈x.fArgs,t.sz≤4194304:=fun t ht=>by
    obtain⟨i,hi,e⟩:=List.getElem_of_mem ht
    rw[←e];exact(qW hi hsz).1
   have tail:=BS x.fArgs (by omega) hts.1 hall
   have yes:wZ x.aV x.fName x.fArgs.length=true→formed x= !(!iQ x.fArgs):=fun h=>by rw[fin _ h];simp
   have no:wZ x.aV x.fName x.fArgs.length=false→formed x=false:=fun h=>by rw[fin _ h];simp
   have shut:¬((x.aV=1∨x.aV=4)∧validName x.fName=true∧x.fArgs.length=0∨x.aV=3∧validName x.fName=true∧x.fArgs.length=1∨x.aV=2∧(validName x.fName=true∧x.fArgs.length≤3∨sF x.fName=true∧x.fArgs.length=0))→V.c (.d (.b false))=V.c (.d (.b (formed x))):=fun h=>ay (no (aC h)).symm
   have open_:((x.aV=1∨x.aV=4)∧validName x.fName=true∧x.fArgs.length=0∨x.aV=3∧validName x.fName=true∧x.fArgs.length=1∨x.aV=2∧(validName x.fName=true∧x.fArgs.length≤3∨sF x.fName=true∧x.fArgs.length=0))→V.c (.d (.b (!(!iQ x.fArgs))))=V.c (.d (.b (formed x))):=fun h=>ay (yes (bq h)).symm
   clear yes no fin
   refine aB (rs:=[.tmp 2]) Tryz.checked.mixed Tryz.func360 Tryz.ntmps360 rfl rfl rfl rfl rfl ?_
   refine W1 ?_
   repeat' (first
    |(refine S0 (fun hb h=>?_) fun hb h=>?_)
    |(refine bN (fT x.fName (by omega)) ?_;refine W1 ?_)
    |(refine bN (MV x.fName) ?_;refine W1 ?_)
    |(refine bN tail ?_;refine W1 ?_))
   all_goals first
    |(refine shut (fun y=> ?_);rcases y with⟨_,_,_⟩|⟨_,_,_⟩|⟨_,⟨_,_⟩|⟨_,_⟩⟩<;>first|omega|(simp_all;done))
    |(refine open_ ?_;first
       |exact .inl ⟨by omega,by assumption,by omega⟩
       |exact .inr (.inl ⟨by omega,by assumption,by omega⟩)
       |exact .inr (.inr ⟨by omega,.inl ⟨by assumption,by omega⟩⟩)
       |exact .inr (.inr ⟨by omega,.inr ⟨by assumption,by omega⟩⟩))
  ·have hcl:∀y∈xs,aD Tryz.prog 381 [y.v] (.c (.d (.b (!formed y)))):=fun y hy S=>by
    have hys:=List.sizeOf_lt_of_mem hy
    refine aB (rs:=[.tmp 2]) Tryz.checked.mixed Tryz.func381 Tryz.ntmps381 rfl rfl rfl rfl rfl ?_
    refine W1 ?_
    exact C4 (ih y (by omega) (hsz y hy))
   have hidx:aD Tryz.prog 359 [.c (.d (.sl (xs.map ah.enc))),.c (.fn 381 [])] (.c (.d (.i .i64 (oP (fun y=> !formed y) xs)))):=fun S=>by
    refine aB (rs:=[.tmp 4]) Tryz.checked.mixed Tryz.func359 Tryz.ntmps359 rfl rfl rfl rfl rfl ?_
    refine W1 ?_
    refine aR (ι:=Nat) Tryz.checked.mixed rfl [0,1,7,8] (fun i=>[.c (.d (.sl (xs.map ah.enc))),.c (.fn 381 []),.c (.d (.i .i64 xs.length)),.c (.d (.i .i64 i))]) (fun _=>[]::S)
     (fun i=>i≤xs.length∧∀j,∀hj:j<xs.length,j<i→formed xs[j]=true) (fun i=>xs.length-i) 0 rfl rfl ⟨Nat.zero_le _,fun j _ h=>by omega⟩ ?_
    rintro i ⟨p1,p2⟩
    refine W1 ?_
    refine S0 (fun hb h=>?_) fun hb h=>?_
    ·have hi:i<xs.length:=by omega
     refine W3 ?_
     refine C2 (hcl xs[i] (List.getElem_mem hi)) ?_
     refine S0 (fun hb h=>?_) fun hb h=>?_
     ·rw[oz hi (fun j hj hji=>by rw[p2 j hj hji];rfl) (by rw[h];rfl)]
     ·refine bF (i+1) (by omega) rfl rfl ⟨by omega,fun j hj hji=> ?_⟩
      by_cases e:j=i
      ·subst e;exact h
      ·exact p2 j hj (by omega)
    ·rw[qR (fun j hj=>by rw[p2 j hj (by omega)];rfl)]
   refine aB (rs:=[.tmp 4]) Tryz.checked.mixed Tryz.func327 Tryz.ntmps327 rfl rfl rfl rfl rfl ?_
   refine W1 ?_
   refine C2 (hidx) ?_
   rw[←DR]
   exact ay pO
theorem O3(x:ah)(hsz:x.sz≤4194304):aD Tryz.prog 360 [x.v] (.c (.d (.b (formed x)))):=(BR _).1 x (Nat.lt_succ_self _) hsz
theorem sG(x:ah)(hsz:x.sz≤4194304):aD Tryz.prog 329 [x.v] (.c (.d (.b (lg x)))):=fun S=>by
 refine aB (rs:=[.tmp 2]) Tryz.checked.mixed Tryz.func329 Tryz.ntmps329 rfl rfl rfl rfl rfl ?_
 refine W1 ?_
 refine C2 (O3 x hsz) ?_
 refine S0 (fun hb h=>?_) fun hb h=>?_
 ·have h1:=h
  refine C2 (M0 x hsz) ?_
  refine S0 (fun hb h=>?_) fun hb h=>?_
  ·refine C2 (O1 x hsz) ?_
   exact ay (by rw[lW];exact gP ⟨fun y=>⟨h1,by omega,by omega⟩,fun y=>by have:=y.2.2;omega⟩)
  ·exact ay (aC fun y=>by have:=y.2.1;omega).symm
 ·exact ay (aC fun y=>by rw[y.1] at h;cases h).symm
set_option maxHeartbeats 1000000 in
theorem F7:∀n:Nat,∀x:ah,SizeOf.sizeOf x<n→x.sz≤4194304→aD Tryz.prog 343 [x.v] (.c (.d (.b (formed x))))
 |0=>fun x h=>by omega
 |n+1=>by
  have ih:=F7 n
  intro x hn hsz S
  have iX:=ah.fE x
  have hts:=yQ hsz
  have shut:¬((x.aV=1∨x.aV=4)∧validName x.fName=true∧x.fArgs.length=0∨x.aV=3∧validName x.fName=true∧x.fArgs.length=1∨x.aV=2∧(validName x.fName=true∧x.fArgs.length≤3∨sF x.fName=true∧x.fArgs.length=0))→V.c (.d (.b false))=V.c (.d (.b (formed x))):=fun h=>ay (by rw[sS,show wZ x.aV x.fName x.fArgs.length=false from aC h];rfl)
  have adN:∀b:Bool,(b=true↔((x.aV=1∨x.aV=4)∧validName x.fName=true∧x.fArgs.length=0∨x.aV=3∧validName x.fName=true∧x.fArgs.length=1∨x.aV=2∧(validName x.fName=true∧x.fArgs.length≤3∨sF x.fName=true∧x.fArgs.length=0)))→b=wZ x.aV x.fName x.fArgs.length:=fun b h=>by
   rw[Bool.eq_iff_iff,h]
   unfold wZ
   rw[vJ]
  refine aB (rs:=[.tmp 2]) Tryz.checked.mixed Tryz.func343 Tryz.ntmps343 rfl rfl rfl rfl rfl ?_
  refine W1 ?_
  refine C2 (fU x.fName (by omega)) ?_
  repeat' (first
   |(refine S0 (fun hb h=>?_) fun hb h=>?_)
   |(refine bN (Va x.fName) ?_;refine W1 ?_))
  all_goals first
   |(refine shut (fun y=> ?_);rcases y with⟨_,_,_⟩|⟨_,_,_⟩|⟨_,⟨_,_⟩|⟨_,_⟩⟩<;>first|omega|(simp_all;done))
   |skip
  all_goals
   refine aR (ι:=Nat×Bool) Tryz.checked.mixed rfl [1,3,4] (fun y=>[.c (.ptr (0,0) 0),.c (.d (.b y.2)),.c (.d (.i .i64 y.1))]) (fun y=>[.box [.d (.i .i64 x.aV),.d (.s x.fName),.d (.sl (x.fArgs.map ah.enc))]]::S)
    (fun y=>y.1≤x.fArgs.length∧(y.2&&iQ (x.fArgs.drop y.1))=formed x) (fun y=>x.fArgs.length-y.1) (0,wZ x.aV x.fName x.fArgs.length) ?_ rfl ⟨Nat.zero_le _,by rw[sS];rfl⟩ ?_
   ·simp only[List.map_cons,List.map_nil]
    simp -implicitDefEqProofs (disch:=omega) only[go_sem,List.cons.injEq,V.c.injEq,C.d.injEq,D.b.injEq,Int.natCast_zero]
    refine adN _ ⟨fun y=> ?_,fun y=> ?_⟩
    ·(try simp only[decide_eq_true_eq,Bool.false_eq_true] at y)<;>first
       |exact .inl ⟨by omega,by assumption,by omega⟩
       |exact .inr (.inl ⟨by omega,by assumption,by omega⟩)
       |exact .inr (.inr ⟨by omega,.inl ⟨by assumption,by omega⟩⟩)
       |exact .inr (.inr ⟨by omega,.inr ⟨by assumption,by omega⟩⟩)
    ·rcases y with⟨_,_,_⟩|⟨_,_,_⟩|⟨_,⟨_,_⟩|⟨_,_⟩⟩<;>first|omega|(simp only[decide_eq_true_eq];omega)|(simp_all;done)
   rintro⟨i,c⟩ ⟨p1,p2⟩
   simp only at p1 p2
   refine W1 ?_
   refine S0 (fun hb h=>?_) fun hb h=>?_
   ·have hi:i<x.fArgs.length:=by omega
    have hsz':=qW hi hsz
    rw[MW hi] at p2
    refine S0 (fun hb h=>?_) fun hb h=>?_
    ·refine C1 (ih x.fArgs[i] (by have:=List.sizeOf_lt_of_mem (List.getElem_mem hi);omega) (by omega)) ?_
     exact bF (i+1,formed x.fArgs[i]) (by simp only;omega) rfl rfl ⟨by simp only;omega,by rw[←p2,h];rfl⟩
    ·exact bF (i+1,false) (by simp only;omega) rfl rfl ⟨by simp only;omega,by rw[←p2,h];rfl⟩
   ·have hi:i=x.fArgs.length:=by omega
    rw[hi,List.drop_length,iQ,Bool.and_true] at p2
    rw[p2]
theorem Vd(x:ah)(hsz:x.sz≤4194304):aD Tryz.prog 343 [x.v] (.c (.d (.b (formed x)))):=F7 _ x (Nat.lt_succ_self _) hsz
theorem sH(x:ah)(hsz:x.sz≤4194304):aD Tryz.prog 283 [x.v] (.c (.d (.b (lg x)))):=fun S=>by
 refine aB (rs:=[.tmp 2]) Tryz.checked.mixed Tryz.func283 Tryz.ntmps283 rfl rfl rfl rfl rfl ?_
 refine W1 ?_
 refine C2 (Vb x 60 (by omega) (by omega) hsz) ?_
 refine S0 (fun hb h=>?_) fun hb h=>?_
 ·have h1:=(dO (l:=60) (a:=x.cnt) (by omega)).2
  refine C2 (MZ x hsz) ?_
  refine S0 (fun hb h=>?_) fun hb h=>?_
  ·refine C2 (Vd x hsz) ?_
   refine ay ?_
   cases hf:formed x with
   |false=>exact(aC fun y=>by rw[hf] at y;cases y.1).symm
   |true=>exact(bq ⟨hf,by omega,by omega⟩).symm
  ·exact ay (aC fun y=>by have:=y.2.1;omega).symm
 ·have h1:=dA (l:=60) (a:=x.cnt) (by omega)
  exact ay (aC fun y=>by have:=y.2.2;omega).symm
theorem Dt(x:bA)(hn:x.bJ.length≤1073741824)(hsz:x.fType.sz≤4194304):aD Tryz.prog 353 [x.v] (.c (.d (.b (validName x.bJ&&lg x.fType)))):=fun S=>by
 refine aB (rs:=[.tmp 2]) Tryz.checked.mixed Tryz.func353 Tryz.ntmps353 rfl rfl rfl rfl rfl ?_
 refine W1 ?_
 refine C2 (fU x.bJ hn) ?_
 refine S0 (fun hb h=>?_) fun hb h=>?_
 ·exact C4 (sH x.fType hsz)
 ·rfl
theorem Du(x:bA)(hn:x.bJ.length≤1073741824)(hsz:x.fType.sz≤4194304):aD Tryz.prog 336 [x.v] (.c (.d (.b (validName x.bJ&&lg x.fType)))):=fun S=>by
 refine aB (rs:=[.tmp 2]) Tryz.checked.mixed Tryz.func336 Tryz.ntmps336 rfl rfl rfl rfl rfl ?_
 refine W1 ?_
 refine C2 (fT x.bJ hn) ?_
 refine S0 (fun hb h=>?_) fun hb h=>?_
 ·exact C4 (sG x.fType hsz)
 ·rfl
end Go.Proofs.YtcfhnaohbaplhaaGreatDoor
namespace Go.Proofs.YtcfhnaohbaplhaaGreatDoor
open Go Go.Ab
theorem Er(g:Nat)(xs ys:List au)(hl:xs.length≤1073741824)(hg:∀x∈xs,∀y,aD Tryz.prog g [x.v,y.v] (.c (.d (.b (dec (x=y)))))):
 aD Tryz.prog 376 [.c (.d (.sl (xs.map au.enc))),.c (.d (.sl (ys.map au.enc))),.c (.fn g [])] (.c (.d (.b (dec (xs=ys))))):=fun S=>by
 refine aB (rs:=[.tmp 6]) Tryz.checked.mixed Tryz.func376 Tryz.ntmps376 rfl rfl rfl rfl rfl ?_
 refine W1 ?_
 refine S0 (fun hb h=>?_) fun hb h=>?_
 ·exact ay (aC (fun e=>h (by rw[e]))).symm
 have hl':xs.length=ys.length:=by omega
 refine aR (ι:=Nat) Tryz.checked.mixed rfl [1,2,15,16,17] (fun y=>[.c (.d (.sl (ys.map au.enc))),.c (.fn g []),.c (.d (.sl (xs.map au.enc))),.c (.d (.i .i64 xs.length)),.c (.d (.i .i64 y))]) (fun y=>[]::S)
  (fun i=>i≤xs.length∧∀j,j<i→xs[j]? =ys[j]?) (fun y=>xs.length-y) 0 rfl rfl ⟨Nat.zero_le _,fun j h=>by omega⟩ ?_
 rintro i ⟨p1,p2⟩
 refine W1 ?_
 refine S0 (fun hb h=>?_) fun hb h=>?_
 ·have hi:i<xs.length:=by omega
  have hi':i<ys.length:=by omega
  refine W3 ?_
  refine C1 (hg xs[i] (List.getElem_mem hi) ys[i]) ?_
  refine S0 (fun hb h=>?_) fun hb h=>?_
  ·exact ay (aC (fun e=>h (by simp only[e]))).symm
  refine bX 0 (by decide) (i+1) (by omega) rfl rfl rfl rfl ⟨by omega,fun j hj=> ?_⟩
  by_cases e:j=i
  ·subst e
   rw[List.getElem?_eq_getElem hi,List.getElem?_eq_getElem hi',h]
  ·exact p2 j (by omega)
 ·have hi:i=xs.length:=by omega
  refine ay (bq (List.ext_getElem? fun j=> ?_)).symm
  by_cases hj:j<i
  ·exact p2 j hj
  ·rw[List.getElem?_eq_none (by omega),List.getElem?_eq_none (by omega)]
theorem F8(g:Nat)(xs ys:List aX)(hl:xs.length≤1073741824)(hg:∀x∈xs,∀y,aD Tryz.prog g [x.v,y.v] (.c (.d (.b (dec (x=y)))))):
 aD Tryz.prog 377 [.c (.d (.sl (xs.map aX.enc))),.c (.d (.sl (ys.map aX.enc))),.c (.fn g [])] (.c (.d (.b (dec (xs=ys))))):=fun S=>by
 refine aB (rs:=[.tmp 6]) Tryz.checked.mixed Tryz.func377 Tryz.ntmps377 rfl rfl rfl rfl rfl ?_
 refine W1 ?_
 refine S0 (fun hb h=>?_) fun hb h=>?_
 ·exact ay (aC (fun e=>h (by rw[e]))).symm
 have hl':xs.length=ys.length:=by omega
 refine aR (ι:=Nat) Tryz.checked.mixed rfl [1,2,15,16,17] (fun y=>[.c (.d (.sl (ys.map aX.enc))),.c (.fn g []),.c (.d (.sl (xs.map aX.enc))),.c (.d (.i .i64 xs.length)),.c (.d (.i .i64 y))]) (fun y=>[]::S)
  (fun i=>i≤xs.length∧∀j,j<i→xs[j]? =ys[j]?) (fun y=>xs.length-y) 0 rfl rfl ⟨Nat.zero_le _,fun j h=>by omega⟩ ?_
 rintro i ⟨p1,p2⟩
 refine W1 ?_
 refine S0 (fun hb h=>?_) fun hb h=>?_
 ·have hi:i<xs.length:=by omega
  have hi':i<ys.length:=by omega
  refine W3 ?_
  refine C1 (hg xs[i] (List.getElem_mem hi) ys[i]) ?_
  refine S0 (fun hb h=>?_) fun hb h=>?_
  ·exact ay (aC (fun e=>h (by simp only[e]))).symm
  refine bX 0 (by decide) (i+1) (by omega) rfl rfl rfl rfl ⟨by omega,fun j hj=> ?_⟩
  by_cases e:j=i
  ·subst e
   rw[List.getElem?_eq_getElem hi,List.getElem?_eq_getElem hi',h]
  ·exact p2 j (by omega)
 ·have hi:i=xs.length:=by omega
  refine ay (bq (List.ext_getElem? fun j=> ?_)).symm
  by_cases hj:j<i
  ·exact p2 j hj
  ·rw[List.getElem?_eq_none (by omega),List.getElem?_eq_none (by omega)]
theorem Es(g:Nat)(caps:List (Key×Nat))(S:Store)(xs:List ah)(p:ah→Bool)(hl:xs.length≤1073741824)(hp:∀x∈xs,lV Tryz.prog g caps S [x.v] (.c (.d (.b (p x))))):
 dG Tryz.prog 359 [.c (.d (.sl (xs.map ah.enc))),.c (.fn g caps)] S (fun r S'=>r=.c (.d (.i .i64 (oP p xs)))∧S'=S):=by
 refine aB (rs:=[.tmp 4]) Tryz.checked.mixed Tryz.func359 Tryz.ntmps359 rfl rfl rfl rfl rfl ?_
 refine W1 ?_
 refine aR (ι:=Nat) Tryz.checked.mixed rfl [0,1,7,8] (fun i=>[.c (.d (.sl (xs.map ah.enc))),.c (.fn g (iJ 1 caps)),.c (.d (.i .i64 xs.length)),.c (.d (.i .i64 i))]) (fun _=>[]::S)
  (fun i=>i≤xs.length∧∀j,∀hj:j<xs.length,j<i→p xs[j]=false) (fun i=>xs.length-i) 0 rfl rfl ⟨Nat.zero_le _,fun j _ h=>by omega⟩ ?_
 rintro i ⟨p1,p2⟩
 refine W1 ?_
 refine S0 (fun hb h=>?_) fun hb h=>?_
 ·have hi:i<xs.length:=by omega
  refine W3 ?_
  refine dS rfl (hp xs[i] (List.getElem_mem hi) [_]) ?_
  refine W1 ?_
  refine S0 (fun hb h=>?_) fun hb h=>?_
  ·rw[oz hi p2 h]
  ·refine bF (i+1) (by omega) rfl rfl ⟨by omega,fun j hj hji=> ?_⟩
   by_cases e:j=i
   ·subst e;exact h
   ·exact p2 j hj (by omega)
 ·rw[qR (fun j hj=>p2 j hj (by omega))]
theorem Bt(g:Nat)(caps:List (Key×Nat))(S:Store)(xs:List ah)(p:ah→Bool)(hl:xs.length≤1073741824)(hp:∀x∈xs,lV Tryz.prog g caps S [x.v] (.c (.d (.b (p x))))):
 dG Tryz.prog 327 [.c (.d (.sl (xs.map ah.enc))),.c (.fn g caps)] S (fun r S'=>r=.c (.d (.b (xs.any p)))∧S'=S):=by
 refine aB (rs:=[.tmp 4]) Tryz.checked.mixed Tryz.func327 Tryz.ntmps327 rfl rfl rfl rfl rfl ?_
 refine W1 ?_
 refine dS rfl (Es g (iJ 1 caps) _ xs p hl fun x hx=>(hp x hx).push _) ?_
 refine W1 ?_
 exact ay pO
theorem Et(g:Nat)(caps:List (Key×Nat))(S:Store)(xs:List au)(p:au→Bool)(hl:xs.length≤1073741824)(hp:∀x∈xs,lV Tryz.prog g caps S [x.v] (.c (.d (.b (p x))))):
 dG Tryz.prog 346 [.c (.d (.sl (xs.map au.enc))),.c (.fn g caps)] S (fun r S'=>r=.c (.d (.i .i64 (oP p xs)))∧S'=S):=by
 refine aB (rs:=[.tmp 4]) Tryz.checked.mixed Tryz.func346 Tryz.ntmps346 rfl rfl rfl rfl rfl ?_
 refine W1 ?_
 refine aR (ι:=Nat) Tryz.checked.mixed rfl [0,1,7,8] (fun i=>[.c (.d (.sl (xs.map au.enc))),.c (.fn g (iJ 1 caps)),.c (.d (.i .i64 xs.length)),.c (.d (.i .i64 i))]) (fun _=>[]::S)
  (fun i=>i≤xs.length∧∀j,∀hj:j<xs.length,j<i→p xs[j]=false) (fun i=>xs.length-i) 0 rfl rfl ⟨Nat.zero_le _,fun j _ h=>by omega⟩ ?_
 rintro i ⟨p1,p2⟩
 refine W1 ?_
 refine S0 (fun hb h=>?_) fun hb h=>?_
 ·have hi:i<xs.length:=by omega
  refine W3 ?_
  refine dS rfl (hp xs[i] (List.getElem_mem hi) [_]) ?_
  refine W1 ?_
  refine S0 (fun hb h=>?_) fun hb h=>?_
  ·rw[oz hi p2 h]
  ·refine bF (i+1) (by omega) rfl rfl ⟨by omega,fun j hj hji=> ?_⟩
   by_cases e:j=i
   ·subst e;exact h
   ·exact p2 j hj (by omega)
 ·rw[qR (fun j hj=>p2 j hj (by omega))]
theorem Bu(g:Nat)(caps:List (Key×Nat))(S:Store)(xs:List au)(p:au→Bool)(hl:xs.length≤1073741824)(hp:∀x∈xs,lV Tryz.prog g caps S [x.v] (.c (.d (.b (p x))))):
 dG Tryz.prog 286 [.c (.d (.sl (xs.map au.enc))),.c (.fn g caps)] S (fun r S'=>r=.c (.d (.b (xs.any p)))∧S'=S):=by
 refine aB (rs:=[.tmp 4]) Tryz.checked.mixed Tryz.func286 Tryz.ntmps286 rfl rfl rfl rfl rfl ?_
 refine W1 ?_
 refine dS rfl (Et g (iJ 1 caps) _ xs p hl fun x hx=>(hp x hx).push _) ?_
 refine W1 ?_
 exact ay pO
theorem F9(g:Nat)(caps:List (Key×Nat))(S:Store)(xs:List aX)(p:aX→Bool)(hl:xs.length≤1073741824)(hp:∀x∈xs,lV Tryz.prog g caps S [x.v] (.c (.d (.b (p x))))):
 dG Tryz.prog 347 [.c (.d (.sl (xs.map aX.enc))),.c (.fn g caps)] S (fun r S'=>r=.c (.d (.i .i64 (oP p xs)))∧S'=S):=by
 refine aB (rs:=[.tmp 4]) Tryz.checked.mixed Tryz.func347 Tryz.ntmps347 rfl rfl rfl rfl rfl ?_
 refine W1 ?_
 refine aR (ι:=Nat) Tryz.checked.mixed rfl [0,1,7,8] (fun i=>[.c (.d (.sl (xs.map aX.enc))),.c (.fn g (iJ 1 caps)),.c (.d (.i .i64 xs.length)),.c (.d (.i .i64 i))]) (fun _=>[]::S)
  (fun i=>i≤xs.length∧∀j,∀hj:j<xs.length,j<i→p xs[j]=false) (fun i=>xs.length-i) 0 rfl rfl ⟨Nat.zero_le _,fun j _ h=>by omega⟩ ?_
 rintro i ⟨p1,p2⟩
 refine W1 ?_
 refine S0 (fun hb h=>?_) fun hb h=>?_
 ·have hi:i<xs.length:=by omega
  refine W3 ?_
  refine dS rfl (hp xs[i] (List.getElem_mem hi) [_]) ?_
  refine W1 ?_
  refine S0 (fun hb h=>?_) fun hb h=>?_
  ·rw[oz hi p2 h]
  ·refine bF (i+1) (by omega) rfl rfl ⟨by omega,fun j hj hji=> ?_⟩
   by_cases e:j=i
   ·subst e;exact h
   ·exact p2 j hj (by omega)
 ·rw[qR (fun j hj=>p2 j hj (by omega))]
theorem BU(g:Nat)(caps:List (Key×Nat))(S:Store)(xs:List aX)(p:aX→Bool)(hl:xs.length≤1073741824)(hp:∀x∈xs,lV Tryz.prog g caps S [x.v] (.c (.d (.b (p x))))):
 dG Tryz.prog 288 [.c (.d (.sl (xs.map aX.enc))),.c (.fn g caps)] S (fun r S'=>r=.c (.d (.b (xs.any p)))∧S'=S):=by
 refine aB (rs:=[.tmp 4]) Tryz.checked.mixed Tryz.func288 Tryz.ntmps288 rfl rfl rfl rfl rfl ?_
 refine W1 ?_
 refine dS rfl (F9 g (iJ 1 caps) _ xs p hl fun x hx=>(hp x hx).push _) ?_
 refine W1 ?_
 exact ay pO
theorem Dv(g:Nat)(caps:List (Key×Nat))(S:Store)(xs:List bA)(p:bA→Bool)(hl:xs.length≤1073741824)(hp:∀x∈xs,lV Tryz.prog g caps S [x.v] (.c (.d (.b (p x))))):
 dG Tryz.prog 364 [.c (.d (.sl (xs.map bA.enc))),.c (.fn g caps)] S (fun r S'=>r=.c (.d (.i .i64 (oP p xs)))∧S'=S):=by
 refine aB (rs:=[.tmp 4]) Tryz.checked.mixed Tryz.func364 Tryz.ntmps364 rfl rfl rfl rfl rfl ?_
 refine W1 ?_
 refine aR (ι:=Nat) Tryz.checked.mixed rfl [0,1,7,8] (fun i=>[.c (.d (.sl (xs.map bA.enc))),.c (.fn g (iJ 1 caps)),.c (.d (.i .i64 xs.length)),.c (.d (.i .i64 i))]) (fun _=>[]::S)
  (fun i=>i≤xs.length∧∀j,∀hj:j<xs.length,j<i→p xs[j]=false) (fun i=>xs.length-i) 0 rfl rfl ⟨Nat.zero_le _,fun j _ h=>by omega⟩ ?_
 rintro i ⟨p1,p2⟩
 refine W1 ?_
 refine S0 (fun hb h=>?_) fun hb h=>?_
 ·have hi:i<xs.length:=by omega
  refine W3 ?_
  refine dS rfl (hp xs[i] (List.getElem_mem hi) [_]) ?_
  refine W1 ?_
  refine S0 (fun hb h=>?_) fun hb h=>?_
  ·rw[oz hi p2 h]
  ·refine bF (i+1) (by omega) rfl rfl ⟨by omega,fun j hj hji=> ?_⟩
   by_cases e:j=i
   ·subst e;exact h
   ·exact p2 j hj (by omega)
 ·rw[qR (fun j hj=>p2 j hj (by omega))]
theorem Au(g:Nat)(caps:List (Key×Nat))(S:Store)(xs:List bA)(p:bA→Bool)(hl:xs.length≤1073741824)(hp:∀x∈xs,lV Tryz.prog g caps S [x.v] (.c (.d (.b (p x))))):
 dG Tryz.prog 334 [.c (.d (.sl (xs.map bA.enc))),.c (.fn g caps)] S (fun r S'=>r=.c (.d (.b (xs.any p)))∧S'=S):=by
 refine aB (rs:=[.tmp 4]) Tryz.checked.mixed Tryz.func334 Tryz.ntmps334 rfl rfl rfl rfl rfl ?_
 refine W1 ?_
 refine dS rfl (Dv g (iJ 1 caps) _ xs p hl fun x hx=>(hp x hx).push _) ?_
 refine W1 ?_
 exact ay pO
theorem BX(g:Nat)(caps:List (Key×Nat))(S:Store)(xs:List (List UInt8))(p:(List UInt8)→Bool)(hl:xs.length≤1073741824)(hp:∀x∈xs,lV Tryz.prog g caps S [.c (.d (.s x))] (.c (.d (.b (p x))))):
 dG Tryz.prog 325 [.c (.d (.sl (xs.map encS))),.c (.fn g caps)] S (fun r S'=>r=.c (.d (.i .i64 (oP p xs)))∧S'=S):=by
 refine aB (rs:=[.tmp 4]) Tryz.checked.mixed Tryz.func325 Tryz.ntmps325 rfl rfl rfl rfl rfl ?_
 simp -implicitDefEqProofs (disch:=omega) only[go_sem,encS]
 refine aR (ι:=Nat) Tryz.checked.mixed rfl [0,1,7,8] (fun i=>[.c (.d (.sl (xs.map encS))),.c (.fn g (iJ 1 caps)),.c (.d (.i .i64 xs.length)),.c (.d (.i .i64 i))]) (fun _=>[]::S)
  (fun i=>i≤xs.length∧∀j,∀hj:j<xs.length,j<i→p xs[j]=false) (fun i=>xs.length-i) 0 rfl rfl ⟨Nat.zero_le _,fun j _ h=>by omega⟩ ?_
 rintro i ⟨p1,p2⟩
 simp -implicitDefEqProofs (disch:=omega) only[go_sem,encS]
 with_reducible refine eY (fun hb=> ?_) (fun hb=> ?_)<;>have h:=hb<;>(try simp only[wf_preprocess] at h)<;>simp -implicitDefEqProofs (disch:=omega) only[go_sem,hb,encS]<;>refine W3 ?_
 ·have hi:i<xs.length:=by omega
  refine W3 ?_
  refine dS rfl (hp xs[i] (List.getElem_mem hi) [_]) ?_
  simp -implicitDefEqProofs (disch:=omega) only[go_sem,encS]
  with_reducible refine eY (fun hb=> ?_) (fun hb=> ?_)<;>have h:=hb<;>(try simp only[wf_preprocess] at h)<;>simp -implicitDefEqProofs (disch:=omega) only[go_sem,hb,encS]<;>refine W3 ?_
  ·rw[oz hi p2 h]
  ·refine bF (i+1) (by omega) rfl rfl ⟨by omega,fun j hj hji=> ?_⟩
   by_cases e:j=i
   ·subst e;exact h
   ·exact p2 j hj (by omega)
 ·rw[qR (fun j hj=>p2 j hj (by omega))]
theorem sU(g:Nat)(caps:List (Key×Nat))(S:Store)(xs:List (List UInt8))(p:(List UInt8)→Bool)(hl:xs.length≤1073741824)(hp:∀x∈xs,lV Tryz.prog g caps S [.c (.d (.s x))] (.c (.d (.b (p x))))):
 dG Tryz.prog 255 [.c (.d (.sl (xs.map encS))),.c (.fn g caps)] S (fun r S'=>r=.c (.d (.b (xs.any p)))∧S'=S):=by
 refine aB (rs:=[.tmp 4]) Tryz.checked.mixed Tryz.func255 Tryz.ntmps255 rfl rfl rfl rfl rfl ?_
 simp -implicitDefEqProofs (disch:=omega) only[go_sem,encS]
 refine dS rfl (BX g (iJ 1 caps) _ xs p hl fun x hx=>(hp x hx).push _) ?_
 simp -implicitDefEqProofs (disch:=omega) only[go_sem,encS]
 exact ay pO
theorem Ve(xs ys:List (List UInt8))(hl:xs.length≤1073741824):aD Tryz.prog 379 [.c (.d (.sl (xs.map encS))),.c (.d (.sl (ys.map encS)))] (.c (.d (.b (dec (xs=ys))))):=fun S=>by
 refine aB (rs:=[.tmp 4]) Tryz.checked.mixed Tryz.func379 Tryz.ntmps379 rfl rfl rfl rfl rfl ?_
 simp -implicitDefEqProofs (disch:=omega) only[go_sem,encS]
 with_reducible refine eY (fun hb=> ?_) (fun hb=> ?_)<;>have h:=hb<;>(try simp only[wf_preprocess] at h)<;>simp -implicitDefEqProofs (disch:=omega) only[go_sem,hb,encS]<;>refine W3 ?_
 ·exact ay (aC (fun e=>h (by rw[e]))).symm
 have hl':xs.length=ys.length:=by omega
 refine aR (ι:=Nat) Tryz.checked.mixed rfl [0,1,12,13] (fun i=>[.c (.d (.sl (xs.map encS))),.c (.d (.sl (ys.map encS))),.c (.d (.i .i64 xs.length)),.c (.d (.i .i64 i))]) (fun _=>[]::S)
  (fun i=>i≤xs.length∧∀j,j<i→xs[j]? =ys[j]?) (fun y=>xs.length-y) 0 rfl rfl ⟨Nat.zero_le _,fun j h=>by omega⟩ ?_
 rintro i ⟨p1,p2⟩
 simp -implicitDefEqProofs (disch:=omega) only[go_sem,encS]
 with_reducible refine eY (fun hb=> ?_) (fun hb=> ?_)<;>have h:=hb<;>(try simp only[wf_preprocess] at h)<;>simp -implicitDefEqProofs (disch:=omega) only[go_sem,hb,encS]<;>refine W3 ?_
 ·have hi:i<xs.length:=by omega
  have hi':i<ys.length:=by omega
  refine W3 ?_
  with_reducible refine eY (fun hb=> ?_) (fun hb=> ?_)<;>have h:=hb<;>(try simp only[wf_preprocess] at h)<;>simp -implicitDefEqProofs (disch:=omega) only[go_sem,hb,encS]<;>refine W3 ?_
  ·exact ay (aC (fun e=>h (by simp only[e]))).symm
  refine bF (i+1) (by omega) rfl rfl ⟨by omega,fun j hj=> ?_⟩
  by_cases e:j=i
  ·subst e
   rw[List.getElem?_eq_getElem hi,List.getElem?_eq_getElem hi',h]
  ·exact p2 j (by omega)
 ·have hi:i=xs.length:=by omega
  refine ay (bq (List.ext_getElem? fun j=> ?_)).symm
  by_cases hj:j<i
  ·exact p2 j hj
  ·rw[List.getElem?_eq_none (by omega),List.getElem?_eq_none (by omega)]
theorem O4(xs ys:List (List UInt8))(hl:xs.length≤1073741824):aD Tryz.prog 392 [.c (.d (.sl (xs.map encS))),.c (.d (.sl (ys.map encS)))] (.c (.d (.b (dec (xs=ys))))):=fun S=>by
 refine aB (rs:=[.tmp 4]) Tryz.checked.mixed Tryz.func392 Tryz.ntmps392 rfl rfl rfl rfl rfl ?_
 simp -implicitDefEqProofs (disch:=omega) only[go_sem,encS]
 with_reducible refine eY (fun hb=> ?_) (fun hb=> ?_)<;>have h:=hb<;>(try simp only[wf_preprocess] at h)<;>simp -implicitDefEqProofs (disch:=omega) only[go_sem,hb,encS]<;>refine W3 ?_
 ·exact ay (aC (fun e=>h (by rw[e]))).symm
 have hl':xs.length=ys.length:=by omega
 refine aR (ι:=Nat) Tryz.checked.mixed rfl [0,1,5] (fun i=>[.c (.d (.sl (xs.map encS))),.c (.d (.sl (ys.map encS))),.c (.d (.i .i64 i))]) (fun _=>[]::S)
  (fun i=>i≤xs.length∧∀j,j<i→xs[j]? =ys[j]?) (fun y=>xs.length-y) 0 rfl rfl ⟨Nat.zero_le _,fun j h=>by omega⟩ ?_
 rintro i ⟨p1,p2⟩
 simp -implicitDefEqProofs (disch:=omega) only[go_sem,encS]
 with_reducible refine eY (fun hb=> ?_) (fun hb=> ?_)<;>have h:=hb<;>(try simp only[wf_preprocess] at h)<;>simp -implicitDefEqProofs (disch:=omega) only[go_sem,hb,encS]<;>refine W3 ?_
 ·have hi:i<xs.length:=by omega
  have hi':i<ys.length:=by omega
  refine W3 ?_
  with_reducible refine eY (fun hb=> ?_) (fun hb=> ?_)<;>have h:=hb<;>(try simp only[wf_preprocess] at h)<;>simp -implicitDefEqProofs (disch:=omega) only[go_sem,hb,encS]<;>refine W3 ?_
  ·exact ay (aC (fun e=>h (by simp only[e]))).symm
  refine bF (i+1) (by omega) rfl rfl ⟨by omega,fun j hj=> ?_⟩
  by_cases e:j=i
  ·subst e
   rw[List.getElem?_eq_getElem hi,List.getElem?_eq_getElem hi',h]
  ·exact p2 j (by omega)
 ·have hi:i=xs.length:=by omega
  refine ay (bq (List.ext_getElem? fun j=> ?_)).symm
  by_cases hj:j<i
  ·exact p2 j hj
  ·rw[List.getElem?_eq_none (by omega),List.getElem?_eq_none (by omega)]
end Go.Proofs.YtcfhnaohbaplhaaGreatDoor
namespace Go.Ab
theorem nZ{s:List UInt8}{xs:List (List UInt8)}(h:s∈xs):s.length≤aI (xs.map encS):=by
 have:=bD (List.mem_map_of_mem (f:=encS) h)
 simpa [encS,bH,D.sz] using this
noncomputable def gQ(xs:List (List UInt8)):Bool:=dec xs.Nodup&&xs.all validName
noncomputable def among(xs ys:List (List UInt8)):Bool:=xs.all fun s=>dec (s∈ys)
noncomputable def fF(vars:List (List UInt8))(t:ah):Bool:=lg t&&among (iB [] t) vars
noncomputable def jN(vars:List (List UInt8))(ts:List ah):Bool:=ts.all (fF vars)
theorem XP{s l:List UInt8}{m:List (List UInt8)}:s∈BA l m↔s=l∨s∈m:=by
 unfold BA
 split
 ·rename_i h
  exact⟨.inr,fun x=>x.elim (fun e=>e▸h) id⟩
 ·rw[List.mem_append,List.mem_singleton];exact Or.comm
theorem gI{α:Type}{xs:List α}{i:Nat}(hi:i<xs.length):xs.take (i+1)=xs.take i++[xs[i]]:=List.take_succ_eq_append_getElem hi
theorem Av{α:Type}{xs:List α}{x:α}:(xs++[x]).Nodup↔xs.Nodup∧x∉xs:=by
 rw[List.nodup_append]
 constructor
 ·rintro⟨h1,_,h3⟩
  exact⟨h1,fun hx=>h3 x hx x (by simp) rfl⟩
 ·rintro⟨h1,h2⟩
  exact⟨h1,by simp,fun a ha b hb e=>by simp at hb;subst hb;exact h2 (e▸ha)⟩
theorem JJ{α:Type}{xs:List α}{i:Nat}(hi:i<xs.length)(h:xs[i]∈xs.take i):¬xs.Nodup:=fun hn=>by
 have h1:(xs.take (i+1)).Nodup:=hn.sublist (List.take_sublist _ _)
 rw[gI hi] at h1
 exact(Av.1 h1).2 h
end Go.Ab
namespace Go.Proofs.YtcfhnaohbaplhaaGreatDoor
open Go Go.Ab
theorem mJ(xs:List (List UInt8))(hl:xs.length≤1073741824):aD Tryz.prog 254 [.c (.d (.sl (xs.map encS)))] (.c (.d (.b (dec xs.Nodup)))):=fun S=>by
 refine aB (rs:=[.tmp 2]) Tryz.checked.mixed Tryz.func254 Tryz.ntmps254 rfl rfl rfl rfl rfl ?_
 simp -implicitDefEqProofs (disch:=omega) only[go_sem,encS]
 refine W3 ?_
 refine aR (ι:=Nat×List (List UInt8)) Tryz.checked.mixed rfl [3,7,8,9] (fun y=>[.c (.mp (0,0)),.c (.d (.sl (xs.map encS))),.c (.d (.i .i64 xs.length)),.c (.d (.i .i64 y.1))]) (fun y=>[.mp y.2]::S)
  (fun y=>y.1≤xs.length∧(∀s,s∈y.2↔s∈xs.take y.1)∧(xs.take y.1).Nodup) (fun y=>xs.length-y.1) (0,[]) rfl rfl ⟨Nat.zero_le _,fun s=>by simp,by simp⟩ ?_
 rintro⟨i,m⟩ ⟨p1,p2,p3⟩
 simp only at p1 p2 p3
 simp -implicitDefEqProofs (disch:=omega) only[go_sem,encS]
 with_reducible refine eY (fun hb=> ?_) (fun hb=> ?_)<;>have h:=hb<;>(try simp only[wf_preprocess] at h)<;>simp -implicitDefEqProofs (disch:=omega) only[go_sem,hb,encS]<;>refine W3 ?_
 ·have hi:i<xs.length:=by omega
  refine W3 ?_
  with_reducible refine eY (fun hb=> ?_) (fun hb=> ?_)<;>have h:=hb<;>(try simp only[wf_preprocess] at h)<;>simp -implicitDefEqProofs (disch:=omega) only[go_sem,hb,encS]<;>refine W3 ?_
  ·exact ay (aC (JJ hi ((p2 _).1 h))).symm
  ·refine bF (i+1,BA xs[i] m) (by simp only;omega) rfl rfl ⟨by simp only;omega,fun s=> ?_,?_⟩
   ·simp only
    rw[XP,gI hi,List.mem_append,List.mem_singleton,p2]
    exact Or.comm
   ·simp only
    rw[gI hi,Av]
    exact⟨p3,fun hx=>h ((p2 _).2 hx)⟩
 ·rw[List.take_of_length_le (by omega)] at p3
  exact ay (bq p3).symm
theorem mK(xs:List (List UInt8))(hl:xs.length≤1073741824):aD Tryz.prog 162 [.c (.d (.sl (xs.map encS)))] (.c (.d (.b (dec xs.Nodup)))):=fun S=>by
 refine aB (rs:=[.tmp 2]) Tryz.checked.mixed Tryz.func162 Tryz.ntmps162 rfl rfl rfl rfl rfl ?_
 simp -implicitDefEqProofs (disch:=omega) only[go_sem,encS]
 refine aR (ι:=Nat) Tryz.checked.mixed rfl [0,3] (fun i=>[.c (.d (.sl (xs.map encS))),.c (.d (.i .i64 i))]) (fun _=>[]::S)
  (fun i=>i≤xs.length∧(xs.take i).Nodup) (fun i=>xs.length-i) 0 rfl rfl ⟨Nat.zero_le _,by simp⟩ ?_
 rintro i ⟨p1,p3⟩
 simp -implicitDefEqProofs (disch:=omega) only[go_sem,encS]
 with_reducible refine eY (fun hb=> ?_) (fun hb=> ?_)<;>have h:=hb<;>(try simp only[wf_preprocess] at h)<;>simp -implicitDefEqProofs (disch:=omega) only[go_sem,hb,encS]<;>refine W3 ?_
 ·have hi:i<xs.length:=by omega
  have hc:∀y∈xs.map encS,y.length=1:=fun y hy=>by
   obtain⟨s,_,rfl⟩:=List.mem_map.1 hy
   rfl
  have e:(xs.map encS).take i=(xs.take i).map encS:=List.map_take.symm
  refine And.intro ⟨by omega,by omega,hc⟩ ?_
  refine W3 ?_
  simp -implicitDefEqProofs (disch:=omega) only[go_sem,Int.toNat_zero,e]
  refine C2 (pQ (xs.take i) xs[i] (by simp;omega)) ?_
  refine S0 (fun hb h=>?_) fun hb h=>?_
  ·exact ay (aC (JJ hi h)).symm
  ·refine bF (i+1) (by omega) rfl rfl ⟨by omega,?_⟩
   rw[gI hi,Av]
   exact⟨p3,h⟩
 ·rw[List.take_of_length_le (by omega)] at p3
  exact ay (bq p3).symm
theorem Ga(xs:List (List UInt8))(hl:xs.length≤1073741824)(hs:∀s∈xs,s.length≤4194304):aD Tryz.prog 245 [.c (.d (.sl (xs.map encS)))] (.c (.d (.b (xs.all validName)))):=fun S=>by
 refine aB (rs:=[.tmp 2]) Tryz.checked.mixed Tryz.func245 Tryz.ntmps245 rfl rfl rfl rfl rfl ?_
 simp -implicitDefEqProofs (disch:=omega) only[go_sem,encS]
 refine aR (ι:=Nat) Tryz.checked.mixed rfl [0,3] (fun i=>[.c (.d (.sl (xs.map encS))),.c (.d (.i .i64 i))]) (fun _=>[]::S)
  (fun i=>i≤xs.length∧(xs.drop i).all validName=xs.all validName) (fun i=>xs.length-i) 0 rfl rfl ⟨Nat.zero_le _,rfl⟩ ?_
 rintro i ⟨p1,p2⟩
 simp -implicitDefEqProofs (disch:=omega) only[go_sem,encS]
 with_reducible refine eY (fun hb=> ?_) (fun hb=> ?_)<;>have h:=hb<;>(try simp only[wf_preprocess] at h)<;>simp -implicitDefEqProofs (disch:=omega) only[go_sem,hb,encS]<;>refine W3 ?_
 ·have hi:i<xs.length:=by omega
  have hz:=hs _ (List.getElem_mem hi)
  rw[List.drop_eq_getElem_cons hi,List.all_cons] at p2
  refine W3 ?_
  refine C2 (fU xs[i] (by omega)) ?_
  refine S0 (fun hb h=>?_) fun hb h=>?_
  ·rw[←p2,h];rfl
  ·exact bF (i+1) (by omega) rfl rfl ⟨by omega,by rw[←p2,h];rfl⟩
 ·rw[List.drop_of_length_le (by omega)] at p2
  rw[←p2];rfl
theorem lX(xs:List (List UInt8))(hl:xs.length≤1073741824)(hs:∀s∈xs,s.length≤4194304):aD Tryz.prog 169 [.c (.d (.sl (xs.map encS)))] (.c (.d (.b (gQ xs)))):=fun S=>by
 have hcl:∀s∈xs,aD Tryz.prog 256 [.c (.d (.s s))] (.c (.d (.b (!validName s)))):=fun s hx S=>by
  have:=hs s hx
  refine aB (rs:=[.tmp 2]) Tryz.checked.mixed Tryz.func256 Tryz.ntmps256 rfl rfl rfl rfl rfl ?_
  refine W1 ?_
  exact C4 (fT s (by omega))
 have ha:(xs.any fun s=> !validName s)= !xs.all validName:=by rw[List.not_all_eq_any_not]
 refine aB (rs:=[.tmp 2]) Tryz.checked.mixed Tryz.func169 Tryz.ntmps169 rfl rfl rfl rfl rfl ?_
 refine W1 ?_
 refine C2 (mJ xs hl) ?_
 refine S0 (fun hb h=>?_) fun hb h=>?_
 ·refine dS rfl (sU 256 [] _ xs (fun s=> !validName s) hl fun s hx=>lV.Ik (hcl s hx)) ?_
  refine W1 ?_
  rw[ha]
  exact ay (by unfold gQ;rw[hb];simp)
 ·exact ay (by unfold gQ;rw[hb];rfl)
theorem vL(xs ys:List (List UInt8))(hl:xs.length≤1073741824)(hl':ys.length≤1073741824):aD Tryz.prog 263 [.c (.d (.sl (xs.map encS))),.c (.d (.sl (ys.map encS)))] (.c (.d (.b (among xs ys)))):=fun S=>by
 have ha:(xs.any fun s=> !dec (s∈ys))= !among xs ys:=by unfold among;rw[List.not_all_eq_any_not]
 have hcl:∀(rest:List Ab.Obj) (s:List UInt8),lV Tryz.prog 332 [((0,0),0)] ((.box [.d (.sl (ys.map encS))]::rest)::S) [.c (.d (.s s))] (.c (.d (.b (!dec (s∈ys))))):=fun rest s F=>by
  refine aB (rs:=[.tmp 3]) Tryz.checked.mixed Tryz.func332 Tryz.ntmps332 rfl rfl rfl rfl rfl ?_
  refine W1 ?_
  exact C4 (qV ys s hl')
 refine aB (rs:=[.tmp 4]) Tryz.checked.mixed Tryz.func263 Tryz.ntmps263 rfl rfl rfl rfl rfl ?_
 refine W1 ?_
 refine dS rfl (sU 332 [((0,0),0)] _ xs (fun s=> !dec (s∈ys)) hl fun s hx=>hcl [] s) ?_
 refine W1 ?_
 rw[ha]
 exact ay (by simp)
theorem qg(t:ah)(vars:List (List UInt8))(hsz:t.sz≤4194304)(hv:vars.length≤1073741824):aD Tryz.prog 261 [t.v,.c (.d (.sl (vars.map encS)))] (.c (.d (.b (fF vars t)))):=fun S=>by
 have h1:=vZ t []
 have h2:=jW t
 refine aB (rs:=[.tmp 4]) Tryz.checked.mixed Tryz.func261 Tryz.ntmps261 rfl rfl rfl rfl rfl ?_
 refine W1 ?_
 refine C2 (sG t hsz) ?_
 refine S0 (fun hb h=>?_) fun hb h=>?_
 ·refine C2 (uj t hsz) ?_
  refine C2 (vL (iB [] t) vars (by simp at h1;omega) hv) ?_
  exact ay (by unfold fF;rw[hb];rfl)
 ·exact ay (by unfold fF;rw[hb];rfl)
theorem um(ts:List ah)(vars:List (List UInt8))(hl:ts.length≤1073741824)(hsz:∀t∈ts,t.sz≤4194304)(hv:vars.length≤1073741824):aD Tryz.prog 260 [.c (.d (.sl (ts.map ah.enc))),.c (.d (.sl (vars.map encS)))] (.c (.d (.b (jN vars ts)))):=fun S=>by
 have ha:(ts.any fun t=> !fF vars t)= !jN vars ts:=by unfold jN;rw[List.not_all_eq_any_not]
 have hcl:∀(rest:List Ab.Obj) (t:ah),t.sz≤4194304→lV Tryz.prog 328 [((0,0),0)] ((.box [.d (.sl (vars.map encS))]::rest)::S) [t.v] (.c (.d (.b (!fF vars t)))):=fun rest t ht F=>by
  refine aB (rs:=[.tmp 3]) Tryz.checked.mixed Tryz.func328 Tryz.ntmps328 rfl rfl rfl rfl rfl ?_
  refine W1 ?_
  exact C4 (qg t vars ht hv)
 refine aB (rs:=[.tmp 4]) Tryz.checked.mixed Tryz.func260 Tryz.ntmps260 rfl rfl rfl rfl rfl ?_
 refine W1 ?_
 refine dS rfl (Bt 328 [((0,0),0)] _ ts (fun t=> !fF vars t) hl fun t hx=>hcl [] t (hsz t hx)) ?_
 refine W1 ?_
 rw[ha]
 exact ay (by simp)
theorem jX(xs:List (List UInt8))(most:Int)(hl:xs.length≤1073741824)(hs:∀s∈xs,s.length≤4194304):aD Tryz.prog 160 [.c (.d (.sl (xs.map encS))),.c (.d (.i .i64 most))] (.c (.d (.b (dec ((xs.length:Int)≤most)&&gQ xs)))):=fun S=>by
 refine aB (rs:=[.tmp 4]) Tryz.checked.mixed Tryz.func160 Tryz.ntmps160 rfl rfl rfl rfl rfl ?_
 refine W1 ?_
 refine S0 (fun hb h=>?_) fun hb h=>?_
 ·have h1:=h
  refine C2 (Ga xs hl hs) ?_
  refine S0 (fun hb h=>?_) fun hb h=>?_
  ·refine C2 (mK xs hl) ?_
   exact ay (by rw[bq h1];unfold gQ;rw[hb];simp)
  ·exact ay (by rw[bq h1];unfold gQ;rw[hb];simp)
 ·exact ay (by rw[aC h];rfl)
theorem pR(t:ah)(vars:List (List UInt8))(hsz:t.sz≤4194304)(hv:vars.length≤1073741824):aD Tryz.prog 303 [t.v,.c (.d (.sl (vars.map encS)))] (.c (.d (.b (fF vars t)))):=fun S=>by
 have h1:=vZ t []
 have h2:=jW t
 have hlen:(iB [] t).length≤1073741824:=by simp at h1;omega
 refine aB (rs:=[.tmp 4]) Tryz.checked.mixed Tryz.func303 Tryz.ntmps303 rfl rfl rfl rfl rfl ?_
 refine W1 ?_
 refine C2 (F5 t hsz) ?_
 generalize hxs:iB [] t=xs at hlen
 refine aR (ι:=Nat) Tryz.checked.mixed rfl [1,2,5,6] (fun i=>[.c (.d (.sl (vars.map encS))),.c (.ptr (0,0) 0),.c (.d (.sl (xs.map encS))),.c (.d (.i .i64 i))]) (fun _=>[.box [.d (.i .i64 t.aV),.d (.s t.fName),.d (.sl (t.fArgs.map ah.enc))]]::S)
  (fun i=>i≤xs.length∧among (xs.drop i) vars=among xs vars) (fun i=>xs.length-i) 0 rfl rfl ⟨Nat.zero_le _,rfl⟩ ?_
 rintro i ⟨p1,p2⟩
 simp -implicitDefEqProofs (disch:=omega) only[go_sem,encS]
 with_reducible refine eY (fun hb=> ?_) (fun hb=> ?_)<;>have h:=hb<;>(try simp only[wf_preprocess] at h)<;>simp -implicitDefEqProofs (disch:=omega) only[go_sem,hb,encS]<;>refine W3 ?_
 ·have hi:i<xs.length:=by omega
  rw[List.drop_eq_getElem_cons hi] at p2
  have p3:among xs vars=(dec (xs[i]∈vars)&&among (xs.drop (i+1)) vars):=p2.symm
  refine W3 ?_
  refine C2 (pQ vars xs[i] hv) ?_
  refine S0 (fun hb h=>?_) fun hb h=>?_
  ·exact ay (by unfold fF;rw[hxs,p3,aC h];simp)
  ·exact bF (i+1) (by omega) rfl rfl ⟨by omega,by rw[p3,bq h];rfl⟩
 ·rw[List.drop_of_length_le (by omega)] at p2
  have p3:among xs vars=true:=p2.symm
  refine W3 ?_
  refine C2 (sH t hsz) ?_
  exact ay (by unfold fF;rw[hxs,p3];simp)
theorem JK(ts:List ah)(vars:List (List UInt8))(hl:ts.length≤1073741824)(hsz:∀t∈ts,t.sz≤4194304)(hv:vars.length≤1073741824):aD Tryz.prog 302 [.c (.d (.sl (ts.map ah.enc))),.c (.d (.sl (vars.map encS)))] (.c (.d (.b (jN vars ts)))):=fun S=>by
 refine aB (rs:=[.tmp 4]) Tryz.checked.mixed Tryz.func302 Tryz.ntmps302 rfl rfl rfl rfl rfl ?_
 refine W1 ?_
 refine aR (ι:=Nat) Tryz.checked.mixed rfl [0,1,5] (fun i=>[.c (.d (.sl (ts.map ah.enc))),.c (.d (.sl (vars.map encS))),.c (.d (.i .i64 i))]) (fun _=>[]::S)
  (fun i=>i≤ts.length∧jN vars (ts.drop i)=jN vars ts) (fun i=>ts.length-i) 0 rfl rfl ⟨Nat.zero_le _,rfl⟩ ?_
 rintro i ⟨p1,p2⟩
 refine W1 ?_
 refine S0 (fun hb h=>?_) fun hb h=>?_
 ·have hi:i<ts.length:=by omega
  rw[List.drop_eq_getElem_cons hi] at p2
  have p3:jN vars ts=(fF vars ts[i]&&jN vars (ts.drop (i+1))):=p2.symm
  refine W3 ?_
  refine C2 (pR ts[i] vars (hsz _ (List.getElem_mem hi)) hv) ?_
  refine S0 (fun hb h=>?_) fun hb h=>?_
  ·rw[p3,h];rfl
  ·exact bF (i+1) (by omega) rfl rfl ⟨by omega,by rw[p3,h];rfl⟩
 ·rw[List.drop_of_length_le (by omega)] at p2
  rw[←p2];rfl
end Go.Proofs.YtcfhnaohbaplhaaGreatDoor
namespace Go.Ab
def zL(n:Nat):Key→Key
 |(0,j)=>(0,n+j)
 |(l+1,j)=>(l,j)
def C.mg(n:Nat):C→C
 | .d x=>.d x
 | .any=>.any
 | .bI k es=>.bI (zL n k) es
 | .bC es=>.bC es
 | .ptr k off=>.ptr (zL n k) off
 | .kH cs=>.kH cs
 | .lC k i off=>.lC (zL n k) i off
 | .jd k=>.jd (zL n k)
 | .fn f caps=>.fn f (caps.map fun x=>(zL n x.1,x.2))
 | .mp k=>.mp (zL n k)
 | .kg m es=>.kg m es
 | .xp k r p=>.xp (zL n k) r p
 | .xq k r p z i off=>.xq (zL n k) r p z i off
def V.mg(n:Nat):V→V
 | .c x=>.c (x.mg n)
 | .agg cs=>.agg (cs.map (C.mg n))
 | .iE xs=>.iE (xs.map fun y=>(y.1,y.2.map (C.mg n)))
 | .any=>.any
def Obj.mg(n:Nat):Obj→Obj
 | .box cs=>.box (cs.map (C.mg n))
 |o=>o
section
variable {P:Program} {w:World} {σ:Nat→Nat} {own bM:List Obj} {Ω:Store} {bo og:List Value} {bΩ:Hs}
theorem Ip{n:Nat}{o:Obj}{h:Value}{b:Nat}:owns (o.mg n) h b↔owns o h b:=by
 cases o with
 |box cs=>
  cases h with
  |pointer a=>cases a<;>exact Iff.rfl
  |_=>exact Iff.rfl
 |_=>exact Iff.rfl
theorem yR{k:Key}{o:Obj}(h:bL (own::bM::Ω) k=some o):
 bL ((bM++own.map (Obj.mg bM.length))::Ω) (zL bM.length k)=some (if k.1=0 then o.mg bM.length else o):=by
 obtain⟨l,j⟩:=k
 cases l with
 |zero=>
  rw[bP] at h
  show bL _ (0,bM.length+j)=_
  rw[bP,List.getElem?_append_right (by omega),show bM.length+j-bM.length=j by omega,List.getElem?_map,h]
  rfl
 |succ l=>
  rw[dn] at h
  show bL _ (l,j)=some o
  cases l with
  |zero=>
   rw[bP] at h ⊢
   rw[List.getElem?_append_left (List.getElem?_eq_some_iff.1 h).1]
   exact h
  |succ l=>rw[dn] at h ⊢;exact h
theorem yS(hl:og.length=bM.length){k:Key}{h:Value}(e:bL (bo::og::bΩ) k=some h):bL ((og++bo)::bΩ) (zL bM.length k)=some h:=by
 obtain⟨l,j⟩:=k
 cases l with
 |zero=>
  rw[bP] at e
  show bL _ (0,bM.length+j)=_
  rw[bP,List.getElem?_append_right (by omega),show bM.length+j-og.length=j by omega,e]
 |succ l=>
  rw[dn] at e
  show bL _ (l,j)=some h
  cases l with
  |zero=>
   rw[bP] at e ⊢
   rw[List.getElem?_append_left (List.getElem?_eq_some_iff.1 e).1]
   exact e
  |succ l=>rw[dn] at e ⊢;exact e
theorem Df(hl:og.length=bM.length)(hlo:bo.length=own.length){k:Key}{o:Obj}(h:bL ((bM++own.map (Obj.mg bM.length))::Ω) k=some o):
 ∃k0 o0,zL bM.length k0=k∧bL (own::bM::Ω) k0=some o0∧o=(if k0.1=0 then o0.mg bM.length else o0)∧bL ((og++bo)::bΩ) k=bL (bo::og::bΩ) k0:=by
 obtain⟨l,j⟩:=k
 cases l with
 |zero=>
  rw[bP] at h
  by_cases hj:j<bM.length
  ·rw[List.getElem?_append_left hj] at h
   refine⟨(1,j),o,rfl,by rw[dn,bP];exact h,rfl,?_⟩
   rw[bP,dn,bP,List.getElem?_append_left (by omega)]
  ·rw[List.getElem?_append_right (by omega),List.getElem?_map] at h
   cases hx:own[j-bM.length]? with
   |none=>rw[hx] at h;cases h
   |some x=>
    rw[hx] at h;cases h
    refine⟨(0,j-bM.length),x,?_,by rw[bP];exact hx,rfl,?_⟩
    ·show(0,bM.length+(j-bM.length))=(0,j)
     rw[show bM.length+(j-bM.length)=j by omega]
    ·rw[bP,bP,List.getElem?_append_right (by omega),hl]
 |succ l=>
  rw[dn] at h
  exact⟨(l+2,j),o,rfl,by rw[dn,dn];exact h,rfl,by rw[dn,dn,dn]⟩
theorem sV{n:Nat}{k:Key}{o:Obj}:(∀bn es,pq (if k.1=0 then o.mg n else o) bn es→pq o bn es)∧(∀bn es,(if k.1=0 then o.mg n else o)=.eT bn es→o=.eT bn es)∧
 (∀m,(if k.1=0 then o.mg n else o)=.mp m→o=.mp m)∧(∀cs,(if k.1=0 then o.mg n else o)=.box cs→∃cs',o=.box cs')∧(∀rs,(if k.1=0 then o.mg n else o)=.xf rs→o=.xf rs):=by
 by_cases e:k.1=0
 ·simp only[if_pos e]
  cases o<;>simp[Obj.mg,pq]
 ·simp only[if_neg e]
  exact⟨fun _ _ h=>h,fun _ _ h=>h,fun _ h=>h,fun cs h=>⟨cs,h⟩,fun _ h=>h⟩
theorem XQ(hl:og.length=bM.length){c:C}{v:Value}(h:je w σ (own::bM::Ω) (bo::og::bΩ) c v):
 je w σ ((bM++own.map (Obj.mg bM.length))::Ω) ((og++bo)::bΩ) (c.mg bM.length) v:=by
 cases c with
 |d x=>exact h
 |any=>exact trivial
 |bC es=>exact h
 |kH cs=>exact h
 |kg m es=>exact h
 |xp k r p=>
  obtain⟨o,ho,h2⟩:=h
  refine⟨_,yR ho,fun rs e=> ?_⟩
  obtain⟨hh,q1,q2⟩:=h2 rs (sV.2.2.2.2 _ e)
  exact⟨hh,yS hl q1,q2⟩
 |xq k r p z i off=>
  obtain⟨o,ho,h2⟩:=h
  refine⟨_,yR ho,fun rs e=> ?_⟩
  obtain⟨hh,b,a,n,cap,q1,q2⟩:=h2 rs (sV.2.2.2.2 _ e)
  exact⟨hh,b,a,n,cap,yS hl q1,q2⟩
 |bI k es=>
  obtain⟨h1,o,ho,h2⟩:=h
  refine⟨h1,_,yR ho,fun bn es' e=> ?_⟩
  obtain⟨q1,q2⟩:=h2 bn es' (sV.1 _ _ e)
  exact⟨q1,fun e'=>yS hl (q2 e')⟩
 |ptr k off=>
  obtain⟨o,ho,h2⟩:=h
  refine⟨_,yR ho,fun cs e=> ?_⟩
  obtain⟨cs',e'⟩:=sV.2.2.2.1 _ e
  obtain⟨b,q1,q2⟩:=h2 cs' e'
  exact⟨b,yS hl q1,q2⟩
 |lC k i off=>
  obtain⟨o,ho,h2⟩:=h
  refine⟨_,yR ho,fun bn es e=> ?_⟩
  obtain⟨b,n,cap,q1,q2⟩:=h2 bn es (sV.2.1 _ _ e)
  exact⟨b,n,cap,yS hl q1,q2⟩
 |jd k=>
  obtain⟨o,ho,h2⟩:=h
  exact⟨_,yR ho,fun bn es e=>yS hl (h2 bn es (sV.2.1 _ _ e))⟩
 |mp k=>
  obtain⟨o,ho,h2⟩:=h
  exact⟨_,yR ho,fun m e=>yS hl (h2 m (sV.2.2.1 _ e))⟩
 |fn f caps=>
  obtain⟨vs,e,hsz,hc⟩:=h
  refine⟨vs,e,by rw[hsz,List.length_map],fun j k off hj=> ?_⟩
  rw[List.getElem?_map] at hj
  cases hx:caps[j]? with
  |none=>rw[hx] at hj;cases hj
  |some y=>
   rw[hx] at hj
   injection hj with hj
   injection hj with e1 e2
   obtain⟨u,q1,q2,o,q3,q4⟩:=hc j y.1 y.2 hx
   refine⟨u,q1,q2,_,by rw[←e1];exact yR q3,fun cs e=> ?_⟩
   obtain⟨cs',e'⟩:=sV.2.2.2.1 _ e
   obtain⟨b,q5,q6⟩:=q4 cs' e'
   exact⟨b,by rw[←e1];exact yS hl q5,by rw[←e2];exact q6⟩
theorem R3(hl:og.length=bM.length){cs:List C}{vs:List Value}(h:gy w σ (own::bM::Ω) (bo::og::bΩ) cs vs):
 gy w σ ((bM++own.map (Obj.mg bM.length))::Ω) ((og++bo)::bΩ) (cs.map (C.mg bM.length)) vs:=by
 refine⟨by rw[List.length_map];exact h.1,fun j x hj=> ?_⟩
 rw[List.getElem?_map] at hj
 cases hx:cs[j]? with
 |none=>rw[hx] at hj;cases hj
 |some y=>
  rw[hx] at hj;cases hj
  obtain⟨v,h1,h2,h3⟩:=h.2 j y hx
  exact⟨v,h1,XQ hl h2,h3⟩
theorem afF(hl:og.length=bM.length){x:V}{v:Value}(h:dF w σ (own::bM::Ω) (bo::og::bΩ) x v):
 dF w σ ((bM++own.map (Obj.mg bM.length))::Ω) ((og++bo)::bΩ) (x.mg bM.length) v:=by
 cases x with
 |c x=>exact⟨XQ hl h.1,h.2⟩
 |agg cs=>obtain⟨a,ha,hc⟩:=h;exact⟨a,ha,R3 hl hc⟩
 |any=>exact trivial
 |iE xs=>
  obtain⟨a,ha,hlen,hc⟩:=h
  refine⟨a,ha,by rw[List.length_map];exact hlen,fun j y hj=> ?_⟩
  rw[List.getElem?_map] at hj
  cases hx:xs[j]? with
  |none=>rw[hx] at hj;cases hj
  |some z=>
   rw[hx] at hj;cases hj
   obtain⟨u,hu,hr⟩:=hc j z hx
   refine⟨u,hu,?_⟩
   obtain⟨b,cs⟩:=z
   cases b with
   |true=>obtain⟨a',e,hcs⟩:=hr;exact⟨a',e,R3 hl hcs⟩
   |false=>obtain⟨x1,e,hx1,ho⟩:=hr;subst e;exact⟨_,rfl,XQ hl hx1,ho⟩
theorem Qm(hl:og.length=bM.length):Keep (bM::Ω) (og::bΩ) ((bM++own.map (Obj.mg bM.length))::Ω) ((og++bo)::bΩ):=by
 rintro⟨l,j⟩ o h
 cases l with
 |zero=>
  rw[bP] at h
  have hj:=(List.getElem?_eq_some_iff.1 h).1
  refine⟨o,by rw[bP,List.getElem?_append_left hj];exact h,?_⟩
  rw[bP,bP,List.getElem?_append_left (by omega)]
  exact lD.refl _ _
 |succ l=>
  rw[dn] at h
  exact⟨o,by rw[dn];exact h,by rw[dn,dn];exact lD.refl _ _⟩
theorem afG(hS:eF w σ (own::bM::Ω) (bo::og::bΩ)):eF w σ ((bM++own.map (Obj.mg bM.length))::Ω) ((og++bo)::bΩ):=by
 have hlo:bo.length=own.length:=by
  obtain⟨gr,h1,h2⟩:=hS.shape.2 0 own rfl
  simp at h1;rw[h1];exact h2
 have hl:og.length=bM.length:=by
  obtain⟨gr,h1,h2⟩:=hS.shape.2 1 bM rfl
  simp at h1;rw[h1];exact h2
 have hn:fG w σ w σ:=fG.refl _ _
 refine⟨fun k o ho=> ?_,fun k k' o o' h h' b e1 e2 e3 e4 e5 e6=> ?_,⟨by have:=hS.shape.1;simpa using this,fun l fr hfr=> ?_⟩,hS.live,hS.rO⟩
 ·obtain⟨k0,o0,hk,ho0,rfl,hh⟩:=Df (bo:=bo) (bΩ:=bΩ) hl hlo ho
  obtain⟨h,h1,h2⟩:=hS.obj k0 o0 ho0
  refine⟨h,by rw[hh];exact h1,?_⟩
  obtain⟨l0,j0⟩:=k0
  cases l0 with
  |zero=>
   subst hk
   have h2:ig w σ (own::bM::Ω) (bo::og::bΩ) o0 h:=h2
   show ig w σ ((bM++own.map (Obj.mg bM.length))::Ω) ((og++bo)::bΩ) (o0.mg bM.length) h
   cases o0 with
   |box cs=>
    obtain⟨b,c,t,e,q1,q2,q3⟩:=h2
    exact⟨b,c,t,e,q1,q2,R3 hl q3⟩
   |dead=>exact trivial
   |tok bn es=>exact h2
   |eT bn es=>exact h2
   |mp m=>exact h2
   |eB n bn es=>exact h2
   |seed n=>exact trivial
   |xf rs=>exact h2
  |succ l0=>
   have hk':k=(l0,j0):=hk.symm
   subst hk'
   have h2:ig w σ ((bM::Ω).drop l0) ((og::bΩ).drop l0) o0 h:=h2
   exact h2.mono hn ((Qm hl).drop l0) fun _ _=>⟨rfl,rfl⟩
 ·obtain⟨k0,o0,hk,ho0,ho,hh⟩:=Df (bo:=bo) (bΩ:=bΩ) hl hlo e1
  obtain⟨k1,o1,hk1,ho1,ho',U2⟩:=Df (bo:=bo) (bΩ:=bΩ) hl hlo e4
  rw[hh] at e2
  rw[U2] at e5
  have b0:owns o0 h b:=by
   rw[ho] at e3
   split at e3
   ·rw[Ip] at e3;exact e3
   ·exact e3
  have b1:owns o1 h' b:=by
   rw[ho'] at e6
   split at e6
   ·rw[Ip] at e6;exact e6
   ·exact e6
  have:=hS.apart k0 k1 o0 o1 h h' b ho0 e2 b0 ho1 e5 b1
  rw[←hk,←hk1,this]
 ·cases l with
  |zero=>
   simp at hfr
   exact⟨_,rfl,by rw[←hfr];simp[hl,hlo]⟩
  |succ l=>exact hS.shape.2 (l+2) fr (by simpa using hfr)
theorem abq(hS:eF w σ (own::bM::Ω) (bo::og::bΩ)){b:Nat}(h:Own ((bM++own.map (Obj.mg bM.length))::Ω) ((og++bo)::bΩ) b):Own (own::bM::Ω) (bo::og::bΩ) b:=by
 have hlo:bo.length=own.length:=by
  obtain⟨gr,h1,h2⟩:=hS.shape.2 0 own rfl
  simp at h1;rw[h1];exact h2
 have hl:og.length=bM.length:=by
  obtain⟨gr,h1,h2⟩:=hS.shape.2 1 bM rfl
  simp at h1;rw[h1];exact h2
 obtain⟨k,o,hv,e1,e2,e3⟩:=h
 obtain⟨k0,o0,hk,ho0,ho,hh⟩:=Df (bo:=bo) (bΩ:=bΩ) hl hlo e1
 rw[hh] at e2
 refine⟨k0,o0,hv,ho0,e2,?_⟩
 rw[ho] at e3
 split at e3
 ·rw[Ip] at e3;exact e3
 ·exact e3
end
def M4(P:Program)(rs:List ResultVar)(post:V→Store→Prop)(e:Exit)(s:St):Prop:=
 match e with
 | .normal| .ret=>(qE P rs s).1∧match s.st with
   |own::bM::Ω=>post ((qE P rs s).2.mg bM.length) ((bM++own.map (Obj.mg bM.length))::Ω)
   |_=>False
 |_=>False
section
variable {P:Program} {N:Nat} {s:St}
theorem JL{f:FuncId}{fn:Func}{c:Code}{args:List V}{bM:List Obj}{Ω:Store}{post:V→Store→Prop}(hf:P.funcs[f]? =some fn)(hb:fn.body=some c)(hn:(fn.name== "runtime.NumGoroutine")=false)
 (hl:args.length≤fn.ntmps) (h:AW P fn.ntmps c (M4 P fn.results.toList post) ⟨nV (args.map (V.up 1)) 0,[]::bM::Ω⟩):dG P f args (bM::Ω) post:=by
 refine⟨⟨fn,hf,hn,by simp[hb]⟩,fun w σ β vs hS hargs=> ?_⟩
 refine calls_of_wp hf hb ?_
 have hlen:vs.length=args.length:=hargs.1.symm
 have Wn:jM fn.ntmps ⟨nV (args.map (V.up 1)) 0,[]::bM::Ω⟩ {tmps:=vs.toArray++Array.replicate (fn.ntmps-vs.toArray.size) undef,defers:=[]} w σ ([]::β):=by
  refine⟨by simp;omega,rfl,hS.up1,fun t=> ?_⟩
  show dF w σ ([]::bM::Ω) ([]::β) (look (nV (args.map (V.up 1)) 0) t) _
  rw[Ag,if_pos (Nat.zero_le _),Nat.sub_zero,List.getElem?_map]
  cases ha:args[t]? with
  |none=>exact trivial
  |some x=>
   obtain⟨v,hv,hr⟩:=hargs.2 t x ha
   have ht:=(List.getElem?_eq_some_iff.1 hv).1
   have:(vs.toArray++Array.replicate (fn.ntmps-vs.toArray.size) undef).getD t undef=v:=by
    rw[Array.getD_eq_getD_getElem?,Array.getElem?_append_left (by simpa using ht)]
    simp[hv]
   rw[this]
   exact H8 (S:=[]::bM::Ω) (β:=[]::β) 1 hr
 refine wp_mono (h _ w σ ([]::β) Wn) ?_
 rintro e a' w' ⟨s',σ',β',hR,hst,hkp,hq⟩
 have main:((qE P fn.results.toList s').1∧match s'.st with
  |own::bM::Ω=>post ((qE P fn.results.toList s').2.mg bM.length) ((bM++own.map (Obj.mg bM.length))::Ω)
  |_=>False)→
   a'.defers=[]∧∃v,(results fn a'.tmps).run P w'=.ok v w'∧∃v_1 r S' σ' β',Ending.returned v=Ending.returned v_1∧eF w' σ' S' β'∧Keep (bM::Ω) β S' β'∧Step (bM::Ω) β σ w S' β' σ' w'∧dF w' σ' S' β' r v_1∧post r S':=by
  rintro⟨q1,q2⟩
  obtain⟨v,hv,hrep⟩:=Jy (fn:=fn) hR q1
  obtain⟨tm,st⟩:=s'
  simp only at q2
  split at q2
  ·rename_i own R4 Ω1
   obtain⟨bo,bΩ',rfl,hlo⟩:=frames hR
   cases bΩ' with
   |nil=>have:=hR.S.shape.1;simp at this
   |cons bo1 bΩ1=>
    have hl1:bo1.length=R4.length:=by
     obtain⟨gr,h1,h2⟩:=hR.S.shape.2 1 R4 rfl
     simp at h1;rw[h1];exact h2
    have uW:Keep (bM::Ω) β (R4::Ω1) (bo1::bΩ1):=hkp
    have hst':Step ([]::bM::Ω) ([]::β) σ w (own::R4::Ω1) (bo::bo1::bΩ1) σ' w':=hst
    exact⟨hR.defers,v,hv,v,_,_,σ',_,rfl,afG hR.S,uW.trans (Qm hl1),⟨hst'.size,hst'.os,hst'.output,fun b hb ho=>hst'.far b hb (fun x=>ho (C8 x)),hst'.near,fun b hb=>(hst'.own b (abq hR.S hb)).imp C8 id⟩,afF hl1 hrep,q2⟩
  ·exact q2.elim
 cases e with
 |normal=>exact main hq
 |ret=>exact main hq
 |_=>exact hq.elim
def M5(P:Program)(rs:List ResultVar)(post:V→Store→Prop)(s:St)(r:R):Prop:=r.1∧match s.st with
 |own::bM::Ω=>post (r.2.mg bM.length) ((bM++own.map (Obj.mg bM.length))::Ω)
 |_=>False
@[congr] theorem adO {rs:List ResultVar} {post:V→Store→Prop} {s s':St} {r r':R} (h1:s=s') (h2:r=r'):M5 P rs post s r=M5 P rs post s' r':=by rw[h1,h2]
theorem XR{rs:List ResultVar}{post:V→Store→Prop}{tm:List (Nat×V)}{S:Store}:M4 P rs post .ret ⟨tm,S⟩=M5 P rs post ⟨tm,S⟩ (qE P rs ⟨tm,S⟩):=rfl
theorem O5{rs:List ResultVar}{post:V→Store→Prop}{tm:List (Nat×V)}{S:Store}:M4 P rs post .normal ⟨tm,S⟩=M5 P rs post ⟨tm,S⟩ (qE P rs ⟨tm,S⟩):=rfl
theorem Z5{rs:List ResultVar}{post:V→Store→Prop}{tm:List (Nat×V)}{own bM:List Obj}{Ω:Store}{p:Prop}{v:V}:
 M5 P rs post ⟨tm,own::bM::Ω⟩ (p,v)=(p∧post (v.mg bM.length) ((bM++own.map (Obj.mg bM.length))::Ω)):=rfl
theorem JM{f:FuncId}{fn:Func}{c:Code}{args:List V}{bM:List Obj}{Ω:Store}{post:V→Store→Prop}{rs:List ResultVar}(jv:P.follows .mixedOrders=true)(hf:P.funcs[f]? =some fn)(hN:fn.ntmps=N)
 (hb:fn.body=some c) (hn:(fn.name== "runtime.NumGoroutine")=false) (hr:fn.results.toList=rs) (hl:Nat.ble args.length N=true) (hok:codeOk N c=true)
 (h:CW P N c (M4 P rs post) ⟨nV (args.map (V.up 1)) 0,[]::bM::Ω⟩):dG P f args (bM::Ω) post:=by
 subst hN
 subst hr
 exact JL hf hb hn (Nat.le_of_ble_eq_true hl) (lN jv c _ _ hok h)
theorem mgK_0{n j:Nat}:zL n (0,j)=(0,n+j):=rfl
theorem mgK_1{n l j:Nat}:zL n (1+l,j)=(l,j):=by rw[Nat.add_comm];rfl
end
attribute [go_sem ↓] XR O5
attribute [go_sem] Z5 V.mg C.mg Obj.mg mgK_0 mgK_1
end Go.Ab
namespace Go.Proofs.YtcfhnaohbaplhaaGreatDoor
open Go Go.Ab Go.RowKit
theorem Vf:(Tryz.prog.info? 156).map (·.size)=some 2:=by kernel_rfl
theorem abt:liesAt Tryz.prog Tryz.prog.depth 156 (2/Tryz.prog.cellsOf 156) 0 156 1=true:=by kernel_rfl
theorem Vg:(Tryz.prog.info? 5).map (fun i=>(i.zero,i.size,i.bytes))=some (some (.int .u8 0),1,1):=by kernel_rfl
set_option maxHeartbeats 1000000 in
theorem M6(b:Nat)(w:World)(h0:w.cell? ⟨b,0,none⟩=some (.pointer (some ⟨b,0,none⟩))):
 Calls Tryz.prog 295 #[.pointer (some ⟨b,0,none⟩)] w fun e w'=>e=.returned (.tuple #[])∧w'=w:=by
 obtain⟨j,hj,_⟩:=Option.map_eq_some_iff.1 Vf
 go_enter Tryz.func295,Tryz.ntmps295
 go_wp2
 rw[Lib.run_neq_ptr_same w _ Tryz.underlying153 hj]
 go_wp2
 go_end0
 exact⟨rfl,rfl⟩
set_option maxHeartbeats 1000000 in
theorem Bj(b:Nat)(w:World)(h0:w.cell? ⟨b,0,none⟩=some (.pointer none))(hsh:w.shape? b=some (156,2))(hfz:w.frozen? ⟨b,0,none⟩=false):
 Calls Tryz.prog 295 #[.pointer (some ⟨b,0,none⟩)] w fun e w'=>e=.returned (.tuple #[])∧w'=w.setCell ⟨b,0,none⟩ (.pointer (some ⟨b,0,none⟩)):=by
 obtain⟨j,hj,hjs⟩:=Option.map_eq_some_iff.1 Vf
 go_enter Tryz.func295,Tryz.ntmps295
 go_wp2
 rw[Lib.run_to_unsafe w ⟨b,0,none⟩ Tryz.underlying153 Tryz.underlying363 hj (by rw[hjs];decide) hsh (Nat.zero_lt_succ 1)]
 simp only[Result.andThen]
 rw[Oper.upon_value]
 go_wp2
 rw[run_callFunc_extern Tryz.func350 (by kernel_rfl) (by kernel_rfl) (by kernel_rfl) (e:=Extern.AbiNoEscape.same) (by kernel_rfl)]
 rw[Lib.run_noEscape]
 simp only[Result.andThen]
 rw[Oper.upon_value]
 go_wp2
 rw[Lib.run_from_unsafe w ⟨b,0,none⟩ Tryz.underlying363 Tryz.underlying153 hj hsh abt]
 simp only[Result.andThen]
 rw[Oper.upon_value]
 go_wp2
 go_end0
 exact⟨rfl,rfl⟩
theorem Qn(B b:Nat)(bs:List Value)(w:World)(h:Lib.IsBuilderF 156 5 B b bs w):
 Calls Tryz.prog 295 #[.pointer (some ⟨b,0,none⟩)] w fun e w'=>e=.returned (.tuple #[])∧(Lib.BuilderAtF 156 5 B b (.pointer (some ⟨b,0,none⟩)) bs w'∧Below B w w'∧Lib.OthersKept 5 (some b) w w'):=by
 rcases h with h|h
 ·refine(Bj b w h.cell0 h.shape h.frozen0).mono ?_
  rintro e w' ⟨rfl,rfl⟩
  exact⟨rfl,h.used _,(Below.refl B w).setCell (p:=⟨b,0,none⟩) h.1 _,(Lib.OthersKept.refl _ _ w).setCell ⟨b,0,none⟩ rfl _⟩
 ·refine(M6 b w h.cell0).mono ?_
  rintro e w' ⟨rfl,rfl⟩
  exact⟨rfl,h,Below.refl B _,Lib.OthersKept.refl _ _ _⟩
set_option maxHeartbeats 2000000 in
theorem Aw(B b:Nat)(bs:List Value)(c:Int)(w:World)(h:Lib.IsBuilderF 156 5 B b bs w)(hlen:bs.length+1≤140737488355328)(hBw:B≤w.heap.size):
 Calls Tryz.prog 211 #[.pointer (some ⟨b,0,none⟩),.int .u8 c] w fun e w'=>e=.returned .nilIface∧(Lib.BuilderAtF 156 5 B b (.pointer (some ⟨b,0,none⟩)) (bs++[.int .u8 c]) w'∧Below B w w'∧Lib.OthersKept 5 (some b) w w'):=by
 obtain⟨i0,hi,hz0,hz1,hz2⟩:=info_parts Vg
 go_enter Tryz.func211,Tryz.ntmps211
 go_wp2_with (go_at_call 295;refine(Qn B b bs _ h).mono ?_)
 rintro e w1 ⟨rfl,⟨hB,v,hbk,hown,hne⟩,hb1,hk1⟩
 have c0:w1.cell? ⟨b,0,none⟩=some (.pointer (some ⟨b,0,none⟩)):=by rw[Lib.cell_of_heap hbk];rfl
 have c1:w1.cell? ⟨b,1,none⟩=some v:=by rw[Lib.cell_of_heap hbk];rfl
 go_wp2_with (at_builtin;refine wpList_append_ownF _ rfl _ _ 154 rfl B 5 i0 (.int .u8 0) 1 1 Tryz.underlying154 hi hz0 hz1 hz2 rfl (by decide) _ _ _ rfl (hown.alloc _) ⟨w1.heap.size,0,none⟩ 1 1 [.int .u8 c] rfl rfl ?c1 ?c2 ?c3 ?c4 ?c5 ?_)
 case c1=>
  intro j u hj
  match j,hj with
  |0,hj=>simp at hj;subst hj;simp[Addr.add]
 case c2=>intro u hu;simp at hu;subst hu;rfl
 case c3=>unfold maxLen;omega
 case c4=>omega
 case c5=>have:=hb1.size;simp;omega
 intro v' w2 hown' hgrow _
 have hlt:b<w1.heap.size:=by
  rcases Nat.lt_or_ge b w1.heap.size with h'|h'
  ·exact h'
  ·simp[Array.getElem?_eq_none h'] at hbk
 have hb2:w2.heap[b]? =some (.cells #[.pointer (some ⟨b,0,none⟩),v] 156 (0,0)):=by
  rw[hgrow.block b (by simp;omega) (fun e=>hne e.symm),Lib.alloc_old w1 _ b hlt]
  exact hbk
 have d0:w2.cell? ⟨b,0,none⟩=some (.pointer (some ⟨b,0,none⟩)):=by rw[Lib.cell_of_heap hb2];rfl
 have d1:w2.cell? ⟨b,1,none⟩=some v:=by rw[Lib.cell_of_heap hb2];rfl
 have f1:w2.frozen? ⟨b,1,none⟩=false:=Lib.frozen_of_heap hb2 1
 obtain⟨g,cap,rfl⟩:∃g cap,v'=.slice (some ⟨g,0,none⟩) (bs.length+1) cap:=by
  rcases hown'.2 with⟨_,h0⟩|⟨g,cap,cur,fz,hv,_⟩
  ·omega
  ·exact⟨g,cap,hv⟩
 go_wp2
 go_ret
 refine⟨rfl,?_,?_,((hk1.alloc _).grown hgrow (Lib.ownsRowF_kind (hown.alloc _))).setCell ⟨b,1,none⟩ rfl _⟩
 ·exact Lib.BuilderAtF.put (T:=156) (e:=5) hB hb2 (bs':=bs++[.int .u8 c]) (by simpa using hown') (by decide)
 ·exact((hb1.alloc (by have:=hb1.size;omega) _).grown hgrow (by have:=hb1.size;simp;omega) (fun k hk=>(hown.lt k hk).1)).setCell (p:=⟨b,1,none⟩) hB _
set_option maxHeartbeats 2000000 in
theorem uo(B b:Nat)(bs:List Value)(s:ByteArray)(w:World)(h:Lib.IsBuilderF 156 5 B b bs w)(hlen:bs.length+s.size≤140737488355328)(hBw:B≤w.heap.size):
 Calls Tryz.prog 210 #[.pointer (some ⟨b,0,none⟩),.string s] w fun e w'=>e=.returned (.tuple #[.int .i64 s.size,.nilIface])∧(Lib.BuilderAtF 156 5 B b (.pointer (some ⟨b,0,none⟩)) (bs++Lib.strCells s) w'∧Below B w w'∧Lib.OthersKept 5 (some b) w w'):=by
 obtain⟨i0,hi,hz0,hz1,hz2⟩:=info_parts Vg
 go_enter Tryz.func210,Tryz.ntmps210
 go_wp2_with (go_at_call 295;refine(Qn B b bs _ h).mono ?_)
 rintro e w1 ⟨rfl,⟨hB,v,hbk,hown,hne⟩,hb1,hk1⟩
 have c0:w1.cell? ⟨b,0,none⟩=some (.pointer (some ⟨b,0,none⟩)):=by rw[Lib.cell_of_heap hbk];rfl
 have c1:w1.cell? ⟨b,1,none⟩=some v:=by rw[Lib.cell_of_heap hbk];rfl
 go_wp2_with (at_builtin;refine Lib.wpList_append_own_stringF _ rfl _ _ 154 9 rfl B 5 i0 Tryz.underlying154 Tryz.underlying9 hi hz0 hz1 hz2 _ _ _ rfl hown s rfl ?c3 ?c4 ?c5 ?_)
 case c3=>unfold maxLen;omega
 case c4=>omega
 case c5=>have:=hb1.size;omega
 intro v' w2 hown' hgrow _
 have hlt:b<w1.heap.size:=by
  rcases Nat.lt_or_ge b w1.heap.size with h'|h'
  ·exact h'
  ·simp[Array.getElem?_eq_none h'] at hbk
 have hb2:w2.heap[b]? =some (.cells #[.pointer (some ⟨b,0,none⟩),v] 156 (0,0)):=by
  rw[hgrow.block b hlt (fun e=>hne e.symm)]
  exact hbk
 have d0:w2.cell? ⟨b,0,none⟩=some (.pointer (some ⟨b,0,none⟩)):=by rw[Lib.cell_of_heap hb2];rfl
 have d1:w2.cell? ⟨b,1,none⟩=some v:=by rw[Lib.cell_of_heap hb2];rfl
 have f1:w2.frozen? ⟨b,1,none⟩=false:=Lib.frozen_of_heap hb2 1
 obtain⟨ao,n',cap,rfl⟩:∃ao n' cap,v'=.slice ao n' cap:=by
  rcases hown'.2 with⟨hv,_⟩|⟨g,cap,cur,fz,hv,_⟩
  ·exact⟨_,_,_,hv⟩
  ·exact⟨_,_,_,hv⟩
 go_wp2
 go_ret2
 refine⟨rfl,?_,?_,(hk1.grown hgrow (Lib.ownsRowF_kind hown)).setCell ⟨b,1,none⟩ rfl _⟩
 ·exact Lib.BuilderAtF.put (T:=156) (e:=5) hB hb2 (bs':=bs++Lib.strCells s) (by simpa [Lib.strCells_length] using hown') (by decide)
 ·exact(hb1.grown hgrow (by have:=hb1.size;omega) (fun k hk=>(hown.lt k hk).1)).setCell (p:=⟨b,1,none⟩) hB _
set_option maxHeartbeats 2000000 in
theorem Gb(B b:Nat)(l:List UInt8)(w:World)(h:Lib.IsBuilderF 156 5 B b (Lib.byteCells l) w)(h0:l≠[]):
 Calls Tryz.prog 120 #[.pointer (some ⟨b,0,none⟩)] w fun e w'=>e=.returned (.string ⟨l.toArray⟩)∧Below B w w':=by
 obtain⟨p,hA⟩:∃p,Lib.BuilderAtF 156 5 B b p (Lib.byteCells l) w:=h.elim (fun x=>⟨_,x⟩) (fun x=>⟨_,x⟩)
 obtain⟨hB,v,hbk,hown,-⟩:=hA
 have hl:l.length≠0:=by simpa using h0
 rw[Lib.byteCells_length] at hown
 have hcell:=fun g hg=>hown.cells (g:=g) hg
 obtain⟨-,⟨-,hz⟩|⟨g,cap,cur,fz,rfl,hbg,hg,-,hnc,hcm,hcs,-⟩⟩:=hown
 ·exact absurd hz hl
 have hg':w.drew.heap[g]? =some (.cells cur 5 fz):=hg
 have hb':w.drew.heap[b]? =some (.cells #[p,.slice (some ⟨g,0,none⟩) l.length cap] 156 (0,0)):=hbk
 have c1:w.drew.cell? ⟨b,1,none⟩=some (.slice (some ⟨g,0,none⟩) l.length cap):=by rw[Lib.cell_of_heap hb'];rfl
 have hSD:(Builtin.unsafeSliceData_ #[154] 252 #[.slice (some ⟨g,0,none⟩) l.length cap]).run Tryz.prog w.drew=.ok (.pointer (some ⟨g,0,none⟩)) w.drew:=
  Lib.run_unsafeSliceData_row _ _ _ _ _ _ (by omega)
 have hUS:(Builtin.unsafeString_ #[252,3] 9 #[.pointer (some ⟨g,0,none⟩),.int .i64 l.length]).run Tryz.prog w.drew=.ok (.string ⟨l.toArray⟩) (w.drew.freeze ⟨g,0,none⟩ l.length):=
  Lib.run_unsafeString_row w.drew 252 3 9 5 Tryz.underlying252 (by kernel_rfl) g cur.size (by simp[World.shape?,hg']) l h0 (by omega) (by unfold maxLen at hcm;omega) fun j x hx=>
   hcell g rfl j (.int .u8 x.toNat) (by simp[Lib.byteCells,hx])
 clear hcell hg' hb'
 go_enter Tryz.func120,Tryz.ntmps120
 go_wp2
 go_region
 all_goals (go_wp2;go_ret;exact⟨rfl,Lib.below_freeze (Below.drew (Below.refl B w)) (p:=⟨g,0,none⟩) hbg _⟩)
end Go.Proofs.YtcfhnaohbaplhaaGreatDoor
namespace Go.Ab
def bO(s:List UInt8):aj:=.mk s []
def bR(l:List aj):aj:=.mk [] l
def aU(l:List (List UInt8)):List aj:=l.map bO
def w9:aj:=.mk [] []
theorem jl(s:List UInt8):(bO s).bS=s:=rfl
theorem jm(s:List UInt8):(bO s).aY=[]:=rfl
theorem dL(l:List aj):(bR l).bS=[]:=rfl
theorem cO(l:List aj):(bR l).aY=l:=rfl
def R5:List UInt8:=[100,121,110]
def kD:List UInt8:=[97,115,115,111,99]
mutual
def cK:ah→aj
 | .mk k n zs=>if k=1 then bO ([39]++n) else if k=4 then bR [bO R5,bO n] else if k=2∧zs.length=0 then bO n else
   bR ((if k=3 then [bO kD] else [])++[bO n]++Eu zs)
def Eu:List ah→List aj
 |[]=>[]
 |t::ts=>cK t::Eu ts
end
theorem yh:∀l,Eu l=l.map cK
 |[]=>rfl
 |t::ts=>by rw[Eu,List.map_cons,yh ts]
theorem Vh(x:ah):cK x=if x.aV=1 then bO ([39]++x.fName) else if x.aV=4 then bR [bO R5,bO x.fName] else if x.aV=2∧x.fArgs.length=0 then bO x.fName else
 bR ((if x.aV=3 then [bO kD] else [])++[bO x.fName]++x.fArgs.map cK):=by
 cases x;rw[cK,yh];rfl
theorem uq{t:ah}(h:lg t=true):formed t=true:=(iO h).1
theorem rG(x:aj):x.sz=x.bS.length+(x.aY.length+aI (x.aY.map aj.enc)):=by
 simp only[aj.sz,aj.aH,bH,D.sz,List.length_map];omega
def fB:List aj→Nat
 |[]=>0
 |x::xs=>x.sz+fB xs
theorem pV:∀l,aI (l.map aj.enc)=fB l
 |[]=>rfl
 |x::xs=>by rw[List.map_cons,aI,fB,pV xs];rfl
theorem gK:∀a b,fB (a++b)=fB a+fB b
 |[],b=>by simp[fB]
 |x::a,b=>by rw[List.cons_append,fB,fB,gK a b];omega
theorem xE{x:aj}:∀{l:List aj},x∈l→x.sz≤fB l
 |y::l,h=>by
  rw[fB]
  rcases List.mem_cons.1 h with rfl|h
  ·omega
  ·have:=xE h;omega
theorem iR(s:List UInt8):(bO s).sz=s.length:=by rw[rG];simp[bO,aj.bS,aj.aY,aI]
theorem iL(l:List aj):(bR l).sz=l.length+fB l:=by rw[rG,pV];simp[bR,aj.bS,aj.aY]
theorem ny:∀l:List (List UInt8),fB (aU l)=(l.map List.length).sum
 |[]=>rfl
 |s::l=>by rw[aU,List.map_cons,fB,iR,←aU,ny l,List.map_cons,List.sum_cons]
theorem iH(l:List (List UInt8)):(aU l).length=l.length:=by simp[aU]
theorem dD:∀l:List (List UInt8),aI (l.map encS)=(l.map List.length).sum
 |[]=>rfl
 |s::l=>by rw[List.map_cons,aI,dD l,List.map_cons,List.sum_cons];simp[encS,bH,D.sz]
def Gc:List ah→Nat
 |[]=>0
 |x::xs=>x.sz+Gc xs
theorem yj:∀l,aI (l.map ah.enc)=Gc l
 |[]=>rfl
 |x::xs=>by rw[List.map_cons,aI,Gc,yj xs];rfl
theorem XT(x:ah):x.sz=x.fName.length+(x.fArgs.length+Gc x.fArgs):=by
 rw[←yj];simp only[ah.sz,ah.aH,bH,D.sz,List.length_map];omega
mutual
theorem wh:∀x:ah,(cK x).sz≤12+16*x.sz
 | .mk k n zs=>by
   have h:=Iq zs
   rw[XT]
   simp only[ah.fName,ah.fArgs]
   rw[cK]
   split
   ·rw[iR];simp;omega
   ·split
    ·rw[iL];simp[fB,iR,R5];omega
    ·split
     ·rw[iR];omega
     ·rw[iL,gK,gK,List.length_append,List.length_append,yh,List.length_map,←yh]
      split<;>simp[fB,iR,kD]<;>omega
theorem Iq:∀xs:List ah,fB (Eu xs)≤12*xs.length+16*Gc xs
 |[]=>by simp[Eu,fB]
 |x::xs=>by
  have h1:=wh x
  have h2:=Iq xs
  rw[Eu,fB,Gc,List.length_cons];omega
end
theorem Gd(xs:List ah):fB (xs.map cK)≤12*xs.length+16*Gc xs:=by rw[←yh];exact Iq xs
def jI(b:UInt8):Bool:=decide (97≤b.toNat∧b.toNat≤122)||decide (48≤b.toNat∧b.toNat≤57)||decide (b∈([39,45,43,42,60,61,46]:List UInt8))
def validAtom(s:List UInt8):Bool:=s.all jI&&decide (1≤s.length∧s.length≤12)
mutual
def oK:aj→Bool
 | .mk a l=>if a=[] then oQ l else validAtom a&&decide (l.length=0)
def oQ:List aj→Bool
 |[]=>true
 |x::xs=>oK x&&oQ xs
end
mutual
def kS:aj→Nat
 | .mk a l=>if a=[] then nE l+1 else 0
def nE:List aj→Nat
 |[]=>0
 |x::xs=>max (kS x) (nE xs)
end
mutual
def j4:aj→Nat
 | .mk _ l=>mE l+1
def mE:List aj→Nat
 |[]=>0
 |x::xs=>j4 x+mE xs
end
theorem M7(x:aj):oK x=if x.bS=[] then oQ x.aY else validAtom x.bS&&decide (x.aY.length=0):=by cases x;rw[oK];rfl
theorem JN(x:aj):kS x=if x.bS=[] then nE x.aY+1 else 0:=by cases x;rw[kS];rfl
theorem M8(x:aj):j4 x=mE x.aY+1:=by cases x;rw[j4];rfl
theorem Gf:∀{l:List aj},(l.any fun t=> !oK t)= !oQ l
 |[]=>rfl
 |t::ts=>by rw[List.any_cons,Gf (l:=ts),oQ];simp
mutual
theorem zh:∀x:aj,kS x≤j4 x
 | .mk a l=>by
   have:=BZ l
   rw[kS,j4];split<;>omega
theorem BZ:∀l:List aj,nE l≤mE l
 |[]=>by simp[nE]
 |x::xs=>by
  have h1:=zh x
  have h2:=BZ xs
  rw[nE,mE];omega
end
mutual
theorem M9:∀x:aj,j4 x≤x.sz+1
 | .mk a l=>by
   have:=JO l
   rw[rG,j4,pV];simp only[aj.bS,aj.aY];omega
theorem JO:∀l:List aj,mE l≤l.length+fB l
 |[]=>by simp[mE]
 |x::xs=>by
  have h1:=M9 x
  have h2:=JO xs
  rw[mE,fB,List.length_cons];omega
end
def gV(x:aj):Bool:=oK x&&decide (kS x≤14∧j4 x≤900)
mutual
theorem Na:∀x:aj,oK x=true→x.sz+1≤13*j4 x
 | .mk a l=>fun h=>by
   rw[oK] at h
   rw[rG,j4,pV]
   simp only[aj.bS,aj.aY]
   split at h
   ·rename_i ha
    have:=JQ l h
    subst ha
    simp only[List.length_nil];omega
   ·rw[Bool.and_eq_true,decide_eq_true_eq] at h
    have h1:=h.1
    unfold validAtom at h1
    rw[Bool.and_eq_true,decide_eq_true_eq] at h1
    have:l=[]:=List.eq_nil_of_length_eq_zero h.2
    subst this
    simp[fB];omega
theorem JQ:∀l:List aj,oQ l=true→l.length+fB l≤13*mE l
 |[],_=>by simp[fB]
 |x::xs,h=>by
  rw[oQ,Bool.and_eq_true] at h
  have h1:=Na x h.1
  have h2:=JQ xs h.2
  rw[fB,mE,List.length_cons];omega
end
theorem JR{x:aj}(h:gV x=true):x.sz≤11700:=by
 unfold gV at h
 rw[Bool.and_eq_true,decide_eq_true_eq] at h
 have:=Na x h.1
 omega
def o7(x:aj):aj:=if gV x=true then x else w9
def qX:Bool→aj→aj
 |true,x=>o7 x
 |false,_=>w9
theorem abu(x:aj):(o7 x).sz≤11700:=by
 unfold o7
 split
 ·rename_i h;exact JR h
 ·rw[rG];simp[w9,aj.bS,aj.aY,aI]
theorem Z6(b:Bool)(x:aj):(qX b x).sz≤11700:=by
 cases b with
 |true=>exact abu x
 |false=>rw[qX,rG];simp[w9,aj.bS,aj.aY,aI]
end Go.Ab
namespace Go.Ab
def d9(by':List UInt8):List (List UInt8)→List UInt8
 |[]=>[]
 |x::xs=>x++(xs.map fun y=>by'++y).flatten
theorem R6(b:List UInt8)(l:List (List UInt8))(x:List UInt8):d9 b (l++[x])=if l=[] then x else d9 b l++b++x:=by
 cases l with
 |nil=>simp[d9]
 |cons y l=>simp[d9,List.append_assoc]
mutual
def fO:aj→List UInt8
 | .mk a l=>if a=[] then [40]++d9 [32] (wm l)++[41] else a
def wm:List aj→List (List UInt8)
 |[]=>[]
 |x::xs=>fO x::wm xs
end
theorem Ay:∀l,wm l=l.map fO
 |[]=>rfl
 |x::xs=>by rw[wm,List.map_cons,Ay xs]
theorem Nb(x:aj):fO x=if x.bS=[] then [40]++d9 [32] (x.aY.map fO)++[41] else x.bS:=by cases x;rw[fO,Ay];rfl
theorem xg(b:List UInt8)(l:List (List UInt8))(i:Nat)(hi:i<l.length):d9 b (l.take (i+1))=if i=0 then l[i] else d9 b (l.take i)++b++l[i]:=by
 rw[List.take_succ_eq_append_getElem hi,R6]
 by_cases h:i=0
 ·rw[if_pos h,if_pos (by rw[h];rfl)]
 ·rw[if_neg h,if_neg (fun e=>h (by have:=congrArg List.length e;rw[List.length_take,List.length_nil] at this;omega))]
theorem XU(b:List UInt8)(hb:b.length=1):∀l:List (List UInt8),l.length≤(d9 b l).length+1
 |[]=>by simp
 |x::xs=>by
  have h:∀ys:List (List UInt8),ys.length≤((ys.map fun y=>b++y).flatten).length:=by
   intro ys
   induction ys with
   |nil=>simp
   |cons y ys ih=>rw[List.map_cons,List.flatten_cons,List.length_append,List.length_append,List.length_cons];omega
  have:=h xs
  rw[d9,List.length_append,List.length_cons];omega
theorem xk(b:List UInt8)(l:List (List UInt8))(i:Nat):(d9 b (l.take i)).length≤(d9 b l).length:=by
 by_cases hi:i<l.length
 ·have:∀k,i+k≤l.length→(d9 b (l.take i)).length≤(d9 b (l.take (i+k))).length:=by
   intro k
   induction k with
   |zero=>intro _;exact Nat.le_refl _
   |succ k ih=>
    intro hk
    have h1:=ih (by omega)
    rw[←Nat.add_assoc,xg b l (i+k) (by omega)]
    split
    ·rename_i h0
     have:i=0:=by omega
     subst this
     simp[d9]
    ·simp only[List.length_append];omega
  have:=this (l.length-i) (by omega)
  rwa [show i+(l.length-i)=l.length by omega,List.take_length] at this
 ·rw[List.take_of_length_le (by omega)]
  exact Nat.le_refl _
theorem JU(b:List UInt8):∀l:List (List UInt8),(d9 b l).length≤(l.map fun x=>b.length+x.length).sum
 |[]=>by simp[d9]
 |x::xs=>by
  have h:∀ys:List (List UInt8),((ys.map fun y=>b++y).flatten).length=(ys.map fun x=>b.length+x.length).sum:=by
   intro ys
   induction ys with
   |nil=>rfl
   |cons y ys ih=>rw[List.map_cons,List.flatten_cons,List.length_append,List.length_append,ih,List.map_cons,List.sum_cons]
  rw[d9,List.length_append,h,List.map_cons,List.sum_cons];omega
mutual
theorem yT:∀x:aj,(fO x).length≤2+3*x.sz
 | .mk a l=>by
   have h:=Gg l
   rw[rG,pV]
   simp only[aj.bS,aj.aY]
   rw[fO]
   split
   ·have:=JU [32] (wm l)
    simp only[List.length_append,List.length_cons,List.length_nil] at this ⊢
    omega
   ·omega
theorem Gg:∀l:List aj,((wm l).map fun x=>0+1+x.length).sum≤3*l.length+3*fB l
 |[]=>by simp[wm]
 |x::xs=>by
  have h1:=yT x
  have h2:=Gg xs
  rw[wm,List.map_cons,List.sum_cons,fB,List.length_cons];omega
end
def oh(l:List UInt8):List (List D):=l.map fun b=>[D.i .u8 b.toNat]
theorem Bl(a b:List UInt8):oh (a++b)=oh a++oh b:=by unfold oh;rw[List.map_append]
theorem Bn(a:List UInt8):(oh a).length=a.length:=by unfold oh;rw[List.length_map]
theorem O6(a:List UInt8):(oh a).map EY=a:=by
 unfold oh
 rw[List.map_map]
 conv=>rhs;rw[←List.map_id a]
 refine List.map_congr_left fun b _=> ?_
 show UInt8.ofNat ((b.toNat:Int)).toNat=b
 rw[Int.toNat_natCast,UInt8.ofNat_toNat]
theorem R7(a:List UInt8):∀y∈oh a,y=[.i .u8 (zY y)]:=fun y hy=>by
 obtain⟨b,_,rfl⟩:=List.mem_map.1 hy
 rfl
def wF(x:aj):List UInt8:=if gV x=true then fO x else []
def sI(x:aj):List UInt8:=if x.bS=[]∧x.aY.length=0 then [] else wF x
theorem Nc(x:aj):(x.bS=[]∧x.aY.length=0)↔x=w9:=by
 refine⟨fun⟨h1,h2⟩=>aj.ext h1 (List.eq_nil_of_length_eq_zero h2),fun h=>by rw[h];exact⟨rfl,rfl⟩⟩
theorem Vi{x:aj}(h:x=w9):sI x=[]:=by
 unfold sI
 rw[if_pos ((Nc _).2 h)]
theorem Vj{x:aj}(h:¬x=w9):sI x=wF x:=by
 unfold sI
 rw[if_neg (fun e=>h ((Nc _).1 e))]
theorem abv{x:aj}(h:¬x.aY.length=0):sI x=wF x:=by
 unfold sI
 rw[if_neg (fun e=>h e.2)]
theorem abw{x:aj}(h:x.bS=[])(h':x.aY.length=0):sI x=[]:=by
 unfold sI
 rw[if_pos ⟨h,h'⟩]
theorem XV(x:aj):(sI x).length≤40000:=by
 unfold sI wF
 split
 ·simp
 ·split
  ·rename_i h
   have:=JR h
   have:=yT x
   omega
  ·simp
end Go.Ab
namespace Go.Ab
theorem abx{w:World}{σ:Nat→Nat}{xs:List aj}{lv:Value}(h:dK w σ (.sl (xs.map aj.enc)) lv):∃a cap,lv=.slice a xs.length cap∧∀i (hi:i<xs.length),∃k off,a=some ⟨k,off,none⟩∧∃c t fz u,
 w.heap[k]? =some (.cells c t fz)∧c[off+i*2]? =some (.string ⟨xs[i].bS.toArray⟩)∧c[off+(i*2+1)]? =some u∧dK w σ (.sl (xs[i].aY.map aj.enc)) u:=by
 generalize he:xs.map aj.enc=es at h
 have hl:es.length=xs.length:=by rw[←he,List.length_map]
 cases h with
 |nil a cap=>
  have h0:xs.length=0:=hl.symm
  exact⟨a,cap,by rw[h0],fun i hi=>absurd hi (by omega)⟩
 |sl k off cap bn es vals c t fz hcap hlen hb hσ hc hv=>
  refine⟨_,cap,by rw[hl],fun i hi=>⟨k,off,rfl,c,t,fz,?_⟩⟩
  have e1:es[i]'(by omega)=[.s xs[i].bS,.sl (xs[i].aY.map aj.enc)]:=by
   subst he
   rw[List.getElem_map,aj.aH]
   first|rfl|done
  have hz:bn=2:=by
   have:=hlen _ (List.getElem_mem (l:=es) (n:=i) (by omega))
   rw[e1] at this
   exact this.symm
  subst hz
  have hf:∀o (ho:o<2),es.flatten[i*2+o]? =(es[i]'(by omega))[o]? :=fun o ho=>flat_get es 2 hlen i o (by omega) ho
  have h0:=hv (i*2+0) (.s xs[i].bS) (by rw[hf 0 (by omega),e1];rfl)
  have h1:=hv (i*2+1) (.sl (xs[i].aY.map aj.enc)) (by rw[hf 1 (by omega),e1];rfl)
  refine⟨vals (i*2+1),hb,?_,hc _ (by omega),h1⟩
  have:=hc (i*2+0) (by omega)
  generalize vals (i*2+0)=v0 at h0 this
  cases h0
  exact this
theorem aby{w:World}{σ:Nat→Nat}{es:List (List D)}{u:Value}(h:dK w σ (.sl es) u):∃a n c,u=.slice a n c:=by
 cases h with
 |nil a c=>exact⟨_,_,_,rfl⟩
 |sl=>exact⟨_,_,_,rfl⟩
end Go.Ab
namespace Go.Proofs.YtcfhnaohbaplhaaGreatDoor
open Go Go.Ab Go.RowKit
set_option maxHeartbeats 2000000 in
theorem Gh(w0:World)(σ:Nat→Nat):∀(n:Nat) (x:aj),x.sz<n→∀(b:Nat) (bs:List Value) (w:World) (lv:Value),dK w0 σ (.sl (x.aY.map aj.enc)) lv→Below w0.heap.size w0 w→
 Lib.IsBuilderF 156 5 w0.heap.size b bs w→bs.length+(fO x).length≤140737488355328→
 Calls Tryz.prog 119 #[.pointer (some ⟨b,0,none⟩),.agg #[.string ⟨x.bS.toArray⟩,lv]] w fun e w'=>e=.returned (.tuple #[])∧Lib.IsBuilderF 156 5 w0.heap.size b (bs++Lib.byteCells (fO x)) w'∧Below w0.heap.size w w'∧Lib.OthersKept 5 (some b) w w'
 |0=>fun x h=>by omega
 |n+1=>fun x hx b bs w lv hr hbw h hlen=>by
  obtain⟨B,hB⟩:∃B,B=w0.heap.size:=⟨_,rfl⟩
  have hBw:B≤w.heap.size:=by rw[hB];exact hbw.size
  rw[←hB] at hbw h ⊢
  cases x with|mk s xs=> ?_
  simp only[aj.bS,aj.aY] at *
  have ih:=Gh w0 σ n
  rw[←hB] at ih
  have HB:Aside (B=w0.heap.size):=hB
  clear hB
  by_cases ha:s=[]
  ·subst ha
   have ht:fO (.mk [] xs)=[40]++d9 [32] (xs.map fO)++[41]:=by rw[fO,if_pos rfl,Ay]
   rw[ht] at hlen ⊢
   have hx:∀i (hi:i<xs.length),xs[i].sz<n:=fun i hi=>by
    have h1:=xE (List.getElem_mem hi)
    rw[rG,pV] at hx
    simp only[aj.bS,aj.aY,List.length_nil] at hx
    omega
   simp only[List.length_append,List.length_cons,List.length_nil] at hlen
   have hj:=XU [32] rfl (xs.map fO)
   rw[List.length_map] at hj
   obtain⟨ad,cap,rfl,hrow⟩:=abx hr
   clear hr
   obtain⟨T,hT⟩:∃T,T=[40]++d9 [32] (xs.map fO)++[41]:=⟨_,rfl⟩
   rw[←hT]
   have HT:Aside (T=[40]++d9 [32] (xs.map fO)++[41]):=hT
   clear hT ht
   go_enter Tryz.func119,Tryz.ntmps119
   go_wp2_with (go_at_call 211;refine(Aw B b bs 40 _ (h.alloc _) ?_ ?_).mono ?_)
   ·omega
   ·simp;omega
   rintro e w1 ⟨rfl,h1,hb1,hk1⟩
   have hbne:w.heap.size≠b:=fun e=>by
    have:b<w.heap.size:=h.elim (fun z=>z.lt) (fun z=>z.lt)
    omega
   have c1:w1.cell? ⟨w.heap.size,1,none⟩=some (.slice ad xs.length cap):=by
    have:=hk1 w.heap.size _ (heap_alloc_new w _) (fun z=>hbne (Option.some.inj z)) (fun c fz z=>by cases z)
    rw[Lib.cell_of_heap this];rfl
   have hb1':Below B w w1:=((Below.refl B w).alloc hBw _).trans hb1
   have afH:Lib.OthersKept 5 (some b) w w1:=((Lib.OthersKept.refl _ _ w).alloc _).trans hk1
   clear hb1 hk1
   go_wp2
   go_loopg [18] xs.length (fun g v wx=>∃i:Nat,i+g=xs.length∧v=.int .i64 i∧Lib.IsBuilderF 156 5 B b (bs++Lib.byteCells ([40]++d9 [32] ((xs.map fO).take i))) wx∧Below B w wx∧Lib.OthersKept 5 (some b) w wx)
   case atStart=>exact⟨0,by omega,rfl,.inr (by simpa [Lib.byteCells,d9] using h1),hb1',afH⟩
   case round=>
    obtain⟨i,hi,rfl,hbd,hbx,hkx⟩:=hrel
    cases gk with
    |zero=>
     obtain rfl:i=xs.length:=by omega
     rw[List.take_of_length_le (by simp)] at hbd
     go_wp2_with (go_at_call 211;refine(Aw B b _ 41 _ hbd ?_ ?_).mono ?_)
     ·simp only[List.length_append,Lib.byteCells_length,List.length_cons,List.length_nil];omega
     ·exact Nat.le_trans hBw hbx.size
     rintro e w2 ⟨rfl,h2,hb2,hk2⟩
     go_wp2
     go_end0
     rw[HT.out]
     refine⟨rfl,.inr ?_,hbx.trans hb2,hkx.trans hk2⟩
     rw[Lib.byteCells_append,←List.append_assoc]
     exact h2
    |succ g=>
     have hil:i<xs.length:=by omega
     have hx:=hx i hil
     obtain⟨k,off,rfl,c,t,fz,u,hk,hc0,hc1,Lv⟩:=hrow i hil
     obtain⟨ua,un,uc,rfl⟩:=aby Lv
     clear hrow
     have hkB:k<B:=by
      rw[HB.out]
      exact(Array.getElem?_eq_some_iff.1 hk).1
     have hkr:wr.heap[k]? =some (.cells c t fz):=by rw[(hbw.trans hbx).block k hkB];exact hk
     have d0:wr.cell? ⟨k,off+i*2,none⟩=some (.string ⟨xs[i].bS.toArray⟩):=by rw[Lib.cell_of_heap hkr];exact hc0
     have d1:wr.cell? ⟨k,off+i*2+1,none⟩=some (.slice ua un uc):=by rw[Lib.cell_of_heap hkr];exact hc1
     have htk:(d9 [32] ((xs.map fO).take (i+1))).length≤(d9 [32] (xs.map fO)).length:=xk _ _ _
     have hst:=xg [32] (xs.map fO) i (by simpa using hil)
     by_cases hi0:i=0
     ·rw[if_pos hi0,List.getElem_map] at hst
      rw[hst] at htk
      have HST:Aside (d9 [32] ((xs.map fO).take (i+1))=fO xs[i]):=hst
      have HI:Aside (i=0):=hi0
      have hng:¬(0:Int)<(i:Int):=by omega
      clear hst hi0
      have hc:=ih xs[i] hx b _ (wr.alloc (.cells #[.string ⟨xs[i].bS.toArray⟩,.slice ua un uc] 78)) _ Lv (hbw.trans (hbx.trans ((Below.refl B wr).alloc (Nat.le_trans hBw hbx.size) _))) (hbd.alloc _) (by
       simp only[List.length_append,Lib.byteCells_length,List.length_cons,List.length_nil]
       have hz:d9 [32] ((xs.map fO).take i)=[]:=by rw[HI.out];rfl
       rw[hz,List.length_nil];omega)
      go_wp2_with (go_at_call 119;refine hc.mono ?_;rintro e w2 ⟨rfl,h2,hb2,hk2⟩)
      go_roundg g
      case measure=>omega
      case rel=>
       refine⟨i+1,by omega,rfl,?_,hbx.trans (((Below.refl B wr).alloc (Nat.le_trans hBw hbx.size) _).trans hb2),hkx.trans (((Lib.OthersKept.refl _ _ wr).alloc _).trans hk2)⟩
       rw[HST.out]
       have hz:d9 [32] ((xs.map fO).take i)=[]:=by rw[HI.out];rfl
       rw[hz,List.append_nil,List.append_assoc,←Lib.byteCells_append] at h2
       exact h2
     ·rw[if_neg hi0,List.getElem_map] at hst
      rw[hst] at htk
      have HST:Aside (d9 [32] ((xs.map fO).take (i+1))=d9 [32] ((xs.map fO).take i)++[32]++fO xs[i]):=hst
      have hpg:(0:Int)<(i:Int):=by omega
      clear hst
      simp only[List.length_append,List.length_cons,List.length_nil] at htk
      go_wp2_with (go_at_call 211;refine(Aw B b _ 32 _ (hbd.alloc _) ?_ ?_).mono ?_)
      ·simp only[List.length_append,Lib.byteCells_length,List.length_cons,List.length_nil];omega
      ·exact Nat.le_trans (Nat.le_trans hBw hbx.size) (by simp)
      rintro e w2 ⟨rfl,h2,hb2,hk2⟩
      have hwr:b<wr.heap.size:=hbd.elim (fun z=>z.lt) (fun z=>z.lt)
      have hq:w2.heap[wr.heap.size]? =_:=hk2 wr.heap.size _ (heap_alloc_new wr _) (fun z=>by have:=Option.some.inj z;omega) (fun c fz z=>by cases z)
      have q0:w2.cell? ⟨wr.heap.size,0,none⟩=some (.string ⟨xs[i].bS.toArray⟩):=by rw[Lib.cell_of_heap hq];rfl
      have q1:w2.cell? ⟨wr.heap.size,1,none⟩=some (.slice ua un uc):=by rw[Lib.cell_of_heap hq];rfl
      have hb2':Below B wr w2:=((Below.refl B wr).alloc (Nat.le_trans hBw hbx.size) _).trans hb2
      have afI:Lib.OthersKept 5 (some b) wr w2:=((Lib.OthersKept.refl _ _ wr).alloc _).trans hk2
      have hc:=ih xs[i] hx b _ w2 _ Lv (hbw.trans (hbx.trans hb2')) (.inr h2) (by
       simp only[List.length_append,Lib.byteCells_length,List.length_cons,List.length_nil];omega)
      clear hq hb2 hk2
      go_wp2_with (go_at_call 119;refine hc.mono ?_;rintro e w3 ⟨rfl,h3,hb3,hk3⟩)
      go_roundg g
      case measure=>omega
      case rel=>
       refine⟨i+1,by omega,rfl,?_,hbx.trans (hb2'.trans hb3),hkx.trans (afI.trans hk3)⟩
       rw[HST.out]
       simpa [Lib.byteCells,List.append_assoc] using h3
  ·have ht:fO (.mk s xs)=s:=by rw[fO,if_neg ha]
   rw[ht] at hlen ⊢
   clear ht hx
   go_enter Tryz.func119,Tryz.ntmps119
   have hm:s.isEmpty=false:=by simpa using ha
   go_wp2_with (go_at_call 210;refine(uo B b bs _ _ (h.alloc _) ?_ ?_).mono ?_)
   ·exact hlen
   ·simp;omega
   ·rintro e w1 ⟨rfl,h1,hb1,hk1⟩
    go_wp2
    refine bodyPost_ret (results_none rfl _ _ _) rfl ?_
    rw[Lib.strCells_eq] at h1
    exact⟨rfl,.inr h1,((Below.refl B w).alloc hBw _).trans hb1,((Lib.OthersKept.refl _ _ w).alloc _).trans hk1⟩
end Go.Proofs.YtcfhnaohbaplhaaGreatDoor
namespace Go.Proofs.YtcfhnaohbaplhaaGreatDoor
open Go Go.Ab
theorem Az:∀n:Nat,(∀x:ah,SizeOf.sizeOf x<n→∀left:Int,0≤left→left≤1048576→kK x.enc→aD Tryz.prog 38 [x.v,.c (.d (.i .i64 left))] (.c (.d (.i .i64 (cB left x.sz)))))∧
 (∀xs:List ah,SizeOf.sizeOf xs<n→∀left:Int,0≤left→left≤1048576→(D.sl (xs.map ah.enc)).Fit→aD Tryz.prog 107 [.c (.d (.sl (xs.map ah.enc))),.c (.d (.i .i64 left))] (.c (.d (.i .i64 (cB left (xs.length+aI (xs.map ah.enc)))))))
 |0=>⟨fun x h=>by omega,fun x h=>by omega⟩
 |n+1=>by
  obtain⟨Ca,zM⟩:=Az n
  refine⟨fun x hn left h0 h1 hf S=> ?_,fun xs hn left h0 h1 hf S=> ?_⟩
  ·have iX:=ah.fE x
   simp only[ah.aH,List.cons_append,List.nil_append,iG,iw,iq,and_true] at hf
   obtain⟨aV,fName,fArgs⟩:=hf
   have hz:x.sz=x.fName.length+((x.fArgs.length+aI (x.fArgs.map ah.enc))):=by
    simp only[ah.sz,ah.aH,bH,bf,D.sz,List.length_map,Nat.add_zero,Nat.zero_add]<;>omega
   refine aB (rs:=[.tmp 4]) Tryz.checked.mixed Tryz.func38 Tryz.ntmps38 rfl rfl rfl rfl rfl ?_
   rw[hz]
   have xu:=pK fName
   refine W1 ?_
   refine S0 (fun hb h=>?_) fun hb h=>?_
   ·exact int_eq (bT (by omega)).symm
   refine C1 (zM x.fArgs (by omega) _ (by omega) (by omega) fArgs) ?_
   refine S0 (fun hb h=>?_) fun hb h=>?_
   ·have h':=dA h
    exact int_eq (bT (by omega)).symm
   have R8:=dO h
   simp only[R8.1]
   refine int_eq ?_
   rw[fq (by omega)]
   omega
  ·obtain⟨hf1,hf2⟩:=nY hf
   rw[List.length_map] at hf1
   refine aB (rs:=[.tmp 4]) Tryz.checked.mixed Tryz.func107 Tryz.ntmps107 rfl rfl rfl rfl rfl ?_
   refine W1 ?_
   refine S0 (fun hb h=>?_) fun hb h=>?_
   ·exact int_eq (bT (by omega)).symm
   refine aR (ι:=Nat×Int) Tryz.checked.mixed rfl [0,1,5] (fun y=>[.c (.d (.sl (xs.map ah.enc))),.c (.d (.i .i64 y.2)),.c (.d (.i .i64 y.1))]) (fun _=>[]::S)
    (fun y=>y.1≤xs.length∧0≤y.2∧y.2≤1048576∧cB y.2 (aI ((xs.map ah.enc).drop y.1))=cB left (xs.length+aI (xs.map ah.enc))) (fun y=>xs.length-y.1) (0,left-xs.length) rfl rfl ⟨by omega,by omega,by omega,?_⟩ ?_
   ·unfold cB
    rw[List.drop_zero]
    split<;>split<;>omega
   rintro⟨i,l⟩ ⟨p1,p2,p3,p4⟩
   simp only at p1 p2 p3 p4
   refine W1 ?_
   refine S0 (fun hb h=>?_) fun hb h=>?_
   ·have hi:i<xs.length:=by omega
    rw[List.drop_eq_getElem_cons (by rw[List.length_map];exact hi),aI,List.getElem_map,ah.cZ] at p4
    refine W3 ?_
    refine C1 (Ca xs[i] (by have:=List.sizeOf_lt_of_mem (List.getElem_mem hi);omega) _ (by omega) (by omega) (hf2 _ (List.mem_map_of_mem (List.getElem_mem hi)))) ?_
    refine S0 (fun hb h=>?_) fun hb h=>?_
    ·have h':=dA h
     rw[←p4,bT (by omega)]
    ·have h':=dO h
     refine bF (i+1,cB l _) (by simp only;omega) rfl rfl ⟨by simp only;omega,by simp only;omega,by simp only;omega,?_⟩
     simp only
     rw[←p4,h'.1]
     unfold cB
     split<;>split<;>omega
   ·have hi:i=xs.length:=by omega
    rw[hi,List.drop_of_length_le (by simp),aI,fq (by omega)] at p4
    rw[←p4]
    refine int_eq ?_
    omega
theorem qY(x:ah):∀left:Int,0≤left→left≤1048576→kK x.enc→aD Tryz.prog 38 [x.v,.c (.d (.i .i64 left))] (.c (.d (.i .i64 (cB left x.sz)))):=(Az _).1 x (Nat.lt_succ_self _)
theorem Gi(xs:List ah):∀left:Int,0≤left→left≤1048576→(D.sl (xs.map ah.enc)).Fit→aD Tryz.prog 107 [.c (.d (.sl (xs.map ah.enc))),.c (.d (.i .i64 left))] (.c (.d (.i .i64 (cB left (xs.length+aI (xs.map ah.enc)))))):=(Az _).2 xs (Nat.lt_succ_self _)
theorem AA:∀n:Nat,(∀x:ah,SizeOf.sizeOf x<n→x.sz≤1048576→aD Tryz.prog 43 [x.v] x.v)∧
 (∀xs:List ah,SizeOf.sizeOf xs<n→xs.length+aI (xs.map ah.enc)≤1048576→aD Tryz.prog 112 [.c (.d (.sl (xs.map ah.enc)))] (.c (.d (.sl (xs.map ah.enc)))))
 |0=>⟨fun x h=>by omega,fun x h=>by omega⟩
 |n+1=>by
  obtain⟨Ca,zM⟩:=AA n
  refine⟨fun x hn hsz S=> ?_,fun xs hn hsz S=> ?_⟩
  ·have iX:=ah.fE x
   simp only[ah.sz,ah.aH,bH,bf,D.sz,List.length_map] at hsz
   refine aB (rs:=[.cell 2 33]) Tryz.checked.mixed Tryz.func43 Tryz.ntmps43 rfl rfl rfl rfl rfl ?_
   refine W1 ?_
   exact C3 (zM x.fArgs (by omega) (by omega))
  ·refine aB (rs:=[.tmp 2]) Tryz.checked.mixed Tryz.func112 Tryz.ntmps112 rfl rfl rfl rfl rfl ?_
   refine W1 ?_
   refine W3 ?_
   refine aR (ι:=Nat×List (List D)) Tryz.checked.mixed rfl [0,3,4] (fun y=>[.c (.d (.sl (xs.map ah.enc))),.c (.jd (0,0)),.c (.d (.i .i64 y.1))]) (fun y=>[.eT 3 y.2]::S)
    (fun y=>y.1≤xs.length∧fI 3 y.1 y.2 (xs.map ah.enc)) (fun y=>xs.length-y.1) (0,_) rfl rfl ⟨Nat.zero_le _,fI.start (by simp) rfl⟩ ?_
   rintro⟨i,R⟩ ⟨p1,p2⟩
   simp only at p1 p2
   refine W1 ?_
   refine S0 (fun hb h=>?_) fun hb h=>?_
   ·have hi:i<xs.length:=by omega
    have hx:xs[i].sz≤aI (xs.map ah.enc):=bD (List.mem_map_of_mem (List.getElem_mem hi))
    refine W3 ?_
    refine C1 (Ca xs[i] (by have:=List.sizeOf_lt_of_mem (List.getElem_mem hi);omega) (by omega)) ?_
    have hR:=p2.1
    rw[List.length_map] at hR
    refine W3 ?_
    refine bF (i+1,_) (by simp only;omega) rfl rfl ⟨by simp only;omega,p2.step (by simp[hi,ah.aH]) rfl⟩
   ·have hi:i=xs.length:=by omega
    rw[p2.done (by rw[List.length_map];omega)]
theorem qZ(x:ah):x.sz≤1048576→aD Tryz.prog 43 [x.v] x.v:=(AA _).1 x (Nat.lt_succ_self _)
theorem Gj(xs:List ah):xs.length+aI (xs.map ah.enc)≤1048576→aD Tryz.prog 112 [.c (.d (.sl (xs.map ah.enc)))] (.c (.d (.sl (xs.map ah.enc)))):=(AA _).2 xs (Nat.lt_succ_self _)
theorem AB:∀n:Nat,(∀x:ah,SizeOf.sizeOf x<n→∀y:ah,x.sz≤1048576→aD Tryz.prog 49 [x.v,y.v] (.c (.d (.b (dec (x=y))))))∧
 (∀xs:List ah,SizeOf.sizeOf xs<n→∀ys:List ah,xs.length+aI (xs.map ah.enc)≤1048576→aD Tryz.prog 121 [.c (.d (.sl (xs.map ah.enc))),.c (.d (.sl (ys.map ah.enc)))] (.c (.d (.b (dec (xs=ys))))))
 |0=>⟨fun x h=>by omega,fun x h=>by omega⟩
 |n+1=>by
  obtain⟨Ca,zM⟩:=AB n
  refine⟨fun x hn y hsz S=> ?_,fun xs hn ys hsz S=> ?_⟩
  ·have iX:=ah.fE x
   simp only[ah.sz,ah.aH,bH,bf,D.sz,List.length_map] at hsz
   refine aB (rs:=[.tmp 4]) Tryz.checked.mixed Tryz.func49 Tryz.ntmps49 rfl rfl rfl rfl rfl ?_
   refine W1 ?_
   refine S0 (fun hb h=>?_) fun hb h=>?_
   ·exact ay (aC (fun e=>h (by rw[e]))).symm
   have R9:=h
   clear h
   refine S0 (fun hb h=>?_) fun hb h=>?_
   ·exact ay (aC (fun e=>h (by rw[e]))).symm
   have ni:=h
   clear h
   refine C1 (zM x.fArgs (by omega) _ (by omega)) ?_
   refine S0 (fun hb h=>?_) fun hb h=>?_
   ·exact ay (aC (fun e=>h (by rw[e]))).symm
   have eArgs:=h
   clear h
   exact ay (bq (ah.ext R9 ni eArgs)).symm
  ·refine aB (rs:=[.tmp 4]) Tryz.checked.mixed Tryz.func121 Tryz.ntmps121 rfl rfl rfl rfl rfl ?_
   refine W1 ?_
   refine S0 (fun hb h=>?_) fun hb h=>?_
   ·exact ay (aC (fun e=>h (by rw[e]))).symm
   have hl:xs.length=ys.length:=by omega
   refine aR (ι:=Nat) Tryz.checked.mixed rfl [0,1,5] (fun y=>[.c (.d (.sl (xs.map ah.enc))),.c (.d (.sl (ys.map ah.enc))),.c (.d (.i .i64 y))]) (fun y=>[]::S)
    (fun i=>i≤xs.length∧∀j,j<i→xs[j]? =ys[j]?) (fun y=>xs.length-y) 0 rfl rfl ⟨Nat.zero_le _,fun j h=>by omega⟩ ?_
   rintro i ⟨p1,p2⟩
   refine W1 ?_
   refine S0 (fun hb h=>?_) fun hb h=>?_
   ·have hi:i<xs.length:=by omega
    have hi':i<ys.length:=by omega
    have hx:xs[i].sz≤aI (xs.map ah.enc):=bD (List.mem_map_of_mem (List.getElem_mem hi))
    refine W3 ?_
    refine C1 (Ca xs[i] (by have:=List.sizeOf_lt_of_mem (List.getElem_mem hi);omega) ys[i] (by omega)) ?_
    refine S0 (fun hb h=>?_) fun hb h=>?_
    ·exact ay (aC (fun e=>h (by simp only[e]))).symm
    refine bF (i+1) (by omega) rfl rfl ⟨by omega,fun j hj=> ?_⟩
    by_cases e:j=i
    ·subst e
     rw[List.getElem?_eq_getElem hi,List.getElem?_eq_getElem hi',h]
    ·exact p2 j (by omega)
   ·have hi:i=xs.length:=by omega
    refine ay (bq (List.ext_getElem? fun j=> ?_)).symm
    by_cases hj:j<i
    ·exact p2 j hj
    ·rw[List.getElem?_eq_none (by omega),List.getElem?_eq_none (by omega)]
theorem q8(x:ah):∀y:ah,x.sz≤1048576→aD Tryz.prog 49 [x.v,y.v] (.c (.d (.b (dec (x=y))))):=(AB _).1 x (Nat.lt_succ_self _)
theorem Gl(xs:List ah):∀ys:List ah,xs.length+aI (xs.map ah.enc)≤1048576→aD Tryz.prog 121 [.c (.d (.sl (xs.map ah.enc))),.c (.d (.sl (ys.map ah.enc)))] (.c (.d (.b (dec (xs=ys))))):=(AB _).2 xs (Nat.lt_succ_self _)
end Go.Proofs.YtcfhnaohbaplhaaGreatDoor
namespace Go.Proofs.YtcfhnaohbaplhaaGreatDoor
open Go Go.Ab
end Go.Proofs.YtcfhnaohbaplhaaGreatDoor
namespace Go.Proofs.YtcfhnaohbaplhaaGreatDoor
open Go Go.Ab
theorem Sb(x:bA):∀left:Int,0≤left→left≤1048576→kK x.enc→aD Tryz.prog 298 [x.v,.c (.d (.i .i64 left))] (.c (.d (.i .i64 (cB left x.sz)))):=by
 intro left h0 h1 hf S
 simp only[bA.aH,List.cons_append,List.nil_append,iG,iw,iq,and_true] at hf
 obtain⟨bJ,fType⟩:=hf
 have hz:x.sz=x.bJ.length+(x.fType.sz):=by
  simp only[bA.sz,bA.aH,bH,bf,D.sz,List.length_map,Nat.add_zero,Nat.zero_add,ah.cZ]<;>omega
 refine aB (rs:=[.tmp 4]) Tryz.checked.mixed Tryz.func298 Tryz.ntmps298 rfl rfl rfl rfl rfl ?_
 rw[hz]
 have Vk:=pK bJ
 refine W1 ?_
 refine S0 (fun hb h=>?_) fun hb h=>?_
 ·exact int_eq (bT (by omega)).symm
 refine C1 (qY x.fType _ (by omega) (by omega) fType) ?_
 refine S0 (fun hb h=>?_) fun hb h=>?_
 ·have h':=dA h
  exact int_eq (bT (by omega)).symm
 have hType:=dO h
 simp only[hType.1]
 refine int_eq ?_
 rw[fq (by omega)]
 omega
theorem DW(xs:List bA):∀left:Int,0≤left→left≤1048576→(D.sl (xs.map bA.enc)).Fit→aD Tryz.prog 214 [.c (.d (.sl (xs.map bA.enc))),.c (.d (.i .i64 left))] (.c (.d (.i .i64 (cB left (xs.length+aI (xs.map bA.enc)))))):=by
 intro left h0 h1 hf S
 obtain⟨hf1,hf2⟩:=nY hf
 rw[List.length_map] at hf1
 refine aB (rs:=[.tmp 4]) Tryz.checked.mixed Tryz.func214 Tryz.ntmps214 rfl rfl rfl rfl rfl ?_
 refine W1 ?_
 refine S0 (fun hb h=>?_) fun hb h=>?_
 ·exact int_eq (bT (by omega)).symm
 refine aR (ι:=Nat×Int) Tryz.checked.mixed rfl [0,1,5] (fun y=>[.c (.d (.sl (xs.map bA.enc))),.c (.d (.i .i64 y.2)),.c (.d (.i .i64 y.1))]) (fun _=>[]::S)
  (fun y=>y.1≤xs.length∧0≤y.2∧y.2≤1048576∧cB y.2 (aI ((xs.map bA.enc).drop y.1))=cB left (xs.length+aI (xs.map bA.enc))) (fun y=>xs.length-y.1) (0,left-xs.length) rfl rfl ⟨by omega,by omega,by omega,?_⟩ ?_
 ·unfold cB
  rw[List.drop_zero]
  split<;>split<;>omega
 rintro⟨i,l⟩ ⟨p1,p2,p3,p4⟩
 simp only at p1 p2 p3 p4
 refine W1 ?_
 refine S0 (fun hb h=>?_) fun hb h=>?_
 ·have hi:i<xs.length:=by omega
  rw[List.drop_eq_getElem_cons (by rw[List.length_map];exact hi),aI,List.getElem_map,bA.cZ] at p4
  refine W3 ?_
  refine C1 (Sb xs[i] _ (by omega) (by omega) (hf2 _ (List.mem_map_of_mem (List.getElem_mem hi)))) ?_
  refine S0 (fun hb h=>?_) fun hb h=>?_
  ·have h':=dA h
   rw[←p4,bT (by omega)]
  ·have h':=dO h
   refine bF (i+1,cB l _) (by simp only;omega) rfl rfl ⟨by simp only;omega,by simp only;omega,by simp only;omega,?_⟩
   simp only
   rw[←p4,h'.1]
   unfold cB
   split<;>split<;>omega
 ·have hi:i=xs.length:=by omega
  rw[hi,List.drop_of_length_le (by simp),aI,fq (by omega)] at p4
  rw[←p4]
  refine int_eq ?_
  omega
theorem Sc(x:bA):x.sz≤1048576→aD Tryz.prog 310 [x.v] x.v:=by
 intro hsz S
 simp only[bA.sz,bA.aH,bH,bf,D.sz,List.length_map,ah.cZ] at hsz
 refine aB (rs:=[.cell 2 300]) Tryz.checked.mixed Tryz.func310 Tryz.ntmps310 rfl rfl rfl rfl rfl ?_
 refine W1 ?_
 exact C3 (qZ x.fType (by omega))
theorem DX(xs:List bA):xs.length+aI (xs.map bA.enc)≤1048576→aD Tryz.prog 225 [.c (.d (.sl (xs.map bA.enc)))] (.c (.d (.sl (xs.map bA.enc)))):=by
 intro hsz S
 refine aB (rs:=[.tmp 2]) Tryz.checked.mixed Tryz.func225 Tryz.ntmps225 rfl rfl rfl rfl rfl ?_
 refine W1 ?_
 refine W3 ?_
 refine aR (ι:=Nat×List (List D)) Tryz.checked.mixed rfl [0,3,4] (fun y=>[.c (.d (.sl (xs.map bA.enc))),.c (.jd (0,0)),.c (.d (.i .i64 y.1))]) (fun y=>[.eT 4 y.2]::S)
  (fun y=>y.1≤xs.length∧fI 4 y.1 y.2 (xs.map bA.enc)) (fun y=>xs.length-y.1) (0,_) rfl rfl ⟨Nat.zero_le _,fI.start (by simp) rfl⟩ ?_
 rintro⟨i,R⟩ ⟨p1,p2⟩
 simp only at p1 p2
 refine W1 ?_
 refine S0 (fun hb h=>?_) fun hb h=>?_
 ·have hi:i<xs.length:=by omega
  have hx:xs[i].sz≤aI (xs.map bA.enc):=bD (List.mem_map_of_mem (List.getElem_mem hi))
  refine W3 ?_
  refine C1 (Sc xs[i] (by omega)) ?_
  have hR:=p2.1
  rw[List.length_map] at hR
  refine W3 ?_
  refine bF (i+1,_) (by simp only;omega) rfl rfl ⟨by simp only;omega,p2.step (by simp[hi,bA.aH,ah.aH]) rfl⟩
 ·have hi:i=xs.length:=by omega
  rw[p2.done (by rw[List.length_map];omega)]
theorem Sd(x:bA):∀y:bA,x.sz≤1048576→aD Tryz.prog 315 [x.v,y.v] (.c (.d (.b (dec (x=y))))):=by
 intro y hsz S
 simp only[bA.sz,bA.aH,bH,bf,D.sz,List.length_map,ah.cZ] at hsz
 refine aB (rs:=[.tmp 4]) Tryz.checked.mixed Tryz.func315 Tryz.ntmps315 rfl rfl rfl rfl rfl ?_
 refine W1 ?_
 refine S0 (fun hb h=>?_) fun hb h=>?_
 ·exact ay (aC (fun e=>h (by rw[e]))).symm
 have Cb:=h
 clear h
 refine C1 (q8 x.fType _ (by omega)) ?_
 refine S0 (fun hb h=>?_) fun hb h=>?_
 ·exact ay (aC (fun e=>h (by rw[e]))).symm
 have eType:=h
 clear h
 exact ay (bq (bA.ext' Cb eType)).symm
theorem DY(xs:List bA):∀ys:List bA,xs.length+aI (xs.map bA.enc)≤1048576→aD Tryz.prog 232 [.c (.d (.sl (xs.map bA.enc))),.c (.d (.sl (ys.map bA.enc)))] (.c (.d (.b (dec (xs=ys))))):=by
 intro ys hsz S
 refine aB (rs:=[.tmp 4]) Tryz.checked.mixed Tryz.func232 Tryz.ntmps232 rfl rfl rfl rfl rfl ?_
 refine W1 ?_
 refine S0 (fun hb h=>?_) fun hb h=>?_
 ·exact ay (aC (fun e=>h (by rw[e]))).symm
 have hl:xs.length=ys.length:=by omega
 refine aR (ι:=Nat) Tryz.checked.mixed rfl [0,1,5] (fun y=>[.c (.d (.sl (xs.map bA.enc))),.c (.d (.sl (ys.map bA.enc))),.c (.d (.i .i64 y))]) (fun y=>[]::S)
  (fun i=>i≤xs.length∧∀j,j<i→xs[j]? =ys[j]?) (fun y=>xs.length-y) 0 rfl rfl ⟨Nat.zero_le _,fun j h=>by omega⟩ ?_
 rintro i ⟨p1,p2⟩
 refine W1 ?_
 refine S0 (fun hb h=>?_) fun hb h=>?_
 ·have hi:i<xs.length:=by omega
  have hi':i<ys.length:=by omega
  have hx:xs[i].sz≤aI (xs.map bA.enc):=bD (List.mem_map_of_mem (List.getElem_mem hi))
  refine W3 ?_
  refine C1 (Sd xs[i] ys[i] (by omega)) ?_
  refine S0 (fun hb h=>?_) fun hb h=>?_
  ·exact ay (aC (fun e=>h (by simp only[e]))).symm
  refine bF (i+1) (by omega) rfl rfl ⟨by omega,fun j hj=> ?_⟩
  by_cases e:j=i
  ·subst e
   rw[List.getElem?_eq_getElem hi,List.getElem?_eq_getElem hi',h]
  ·exact p2 j (by omega)
 ·have hi:i=xs.length:=by omega
  refine ay (bq (List.ext_getElem? fun j=> ?_)).symm
  by_cases hj:j<i
  ·exact p2 j hj
  ·rw[List.getElem?_eq_none (by omega),List.getElem?_eq_none (by omega)]
end Go.Proofs.YtcfhnaohbaplhaaGreatDoor
namespace Go.Proofs.YtcfhnaohbaplhaaGreatDoor
open Go Go.Ab
theorem Gm:∀n:Nat,(∀x:au,SizeOf.sizeOf x<n→∀left:Int,0≤left→left≤1048576→kK x.enc→aD Tryz.prog 9 [x.v,.c (.d (.i .i64 left))] (.c (.d (.i .i64 (cB left x.sz)))))∧
 (∀xs:List au,SizeOf.sizeOf xs<n→∀left:Int,0≤left→left≤1048576→(D.sl (xs.map au.enc)).Fit→aD Tryz.prog 39 [.c (.d (.sl (xs.map au.enc))),.c (.d (.i .i64 left))] (.c (.d (.i .i64 (cB left (xs.length+aI (xs.map au.enc)))))))∧
 (∀x:aX,SizeOf.sizeOf x<n→∀left:Int,0≤left→left≤1048576→kK x.enc→aD Tryz.prog 108 [x.v,.c (.d (.i .i64 left))] (.c (.d (.i .i64 (cB left x.sz)))))∧
 (∀xs:List aX,SizeOf.sizeOf xs<n→∀left:Int,0≤left→left≤1048576→(D.sl (xs.map aX.enc)).Fit→aD Tryz.prog 40 [.c (.d (.sl (xs.map aX.enc))),.c (.d (.i .i64 left))] (.c (.d (.i .i64 (cB left (xs.length+aI (xs.map aX.enc)))))))
 |0=>⟨fun x h=>by omega,fun x h=>by omega,fun x h=>by omega,fun x h=>by omega⟩
 |n+1=>by
  obtain⟨wo,zN,Gn,Cc⟩:=Gm n
  refine⟨fun x hn left h0 h1 hf S=> ?_,fun xs hn left h0 h1 hf S=> ?_,fun x hn left h0 h1 hf S=> ?_,fun xs hn left h0 h1 hf S=> ?_⟩
  ·have iX:=au.fE x
   have rZ:=au.nD x
   simp only[au.aH,List.cons_append,List.nil_append,iG,iw,iq,and_true] at hf
   obtain⟨aV,bJ,fName,fN,fType,fArgs,aW⟩:=hf
   have hz:x.sz=x.bJ.length+(x.fName.length+(x.fType.sz+((x.fArgs.length+aI (x.fArgs.map au.enc))+((x.aW.length+aI (x.aW.map aX.enc)))))):=by
    simp only[au.sz,au.aH,bH,bf,D.sz,List.length_map,Nat.add_zero,Nat.zero_add,ah.cZ]<;>omega
   refine aB (rs:=[.tmp 4]) Tryz.checked.mixed Tryz.func9 Tryz.ntmps9 rfl rfl rfl rfl rfl ?_
   rw[hz]
   have Vk:=pK bJ
   have xu:=pK fName
   refine W1 ?_
   refine S0 (fun hb h=>?_) fun hb h=>?_
   ·exact int_eq (bT (by omega)).symm
   refine S0 (fun hb h=>?_) fun hb h=>?_
   ·exact int_eq (bT (by omega)).symm
   refine C1 (qY x.fType _ (by omega) (by omega) fType) ?_
   refine S0 (fun hb h=>?_) fun hb h=>?_
   ·have h':=dA h
    exact int_eq (bT (by omega)).symm
   have hType:=dO h
   simp only[hType.1]
   refine C1 (zN x.fArgs (by omega) _ (by omega) (by omega) fArgs) ?_
   refine S0 (fun hb h=>?_) fun hb h=>?_
   ·have h':=dA h
    exact int_eq (bT (by omega)).symm
   have R8:=dO h
   simp only[R8.1]
   refine C1 (Cc x.aW (by omega) _ (by omega) (by omega) aW) ?_
   refine S0 (fun hb h=>?_) fun hb h=>?_
   ·have h':=dA h
    exact int_eq (bT (by omega)).symm
   have adP:=dO h
   simp only[adP.1]
   refine int_eq ?_
   rw[fq (by omega)]
   omega
  ·obtain⟨hf1,hf2⟩:=nY hf
   rw[List.length_map] at hf1
   refine aB (rs:=[.tmp 4]) Tryz.checked.mixed Tryz.func39 Tryz.ntmps39 rfl rfl rfl rfl rfl ?_
   refine W1 ?_
   refine S0 (fun hb h=>?_) fun hb h=>?_
   ·exact int_eq (bT (by omega)).symm
   refine aR (ι:=Nat×Int) Tryz.checked.mixed rfl [0,1,5] (fun y=>[.c (.d (.sl (xs.map au.enc))),.c (.d (.i .i64 y.2)),.c (.d (.i .i64 y.1))]) (fun _=>[]::S)
    (fun y=>y.1≤xs.length∧0≤y.2∧y.2≤1048576∧cB y.2 (aI ((xs.map au.enc).drop y.1))=cB left (xs.length+aI (xs.map au.enc))) (fun y=>xs.length-y.1) (0,left-xs.length) rfl rfl ⟨by omega,by omega,by omega,?_⟩ ?_
   ·unfold cB
    rw[List.drop_zero]
    split<;>split<;>omega
   rintro⟨i,l⟩ ⟨p1,p2,p3,p4⟩
   simp only at p1 p2 p3 p4
   refine W1 ?_
   refine S0 (fun hb h=>?_) fun hb h=>?_
   ·have hi:i<xs.length:=by omega
    rw[List.drop_eq_getElem_cons (by rw[List.length_map];exact hi),aI,List.getElem_map,au.cZ] at p4
    refine W3 ?_
    refine C1 (wo xs[i] (by have:=List.sizeOf_lt_of_mem (List.getElem_mem hi);omega) _ (by omega) (by omega) (hf2 _ (List.mem_map_of_mem (List.getElem_mem hi)))) ?_
    refine S0 (fun hb h=>?_) fun hb h=>?_
    ·have h':=dA h
     rw[←p4,bT (by omega)]
    ·have h':=dO h
     refine bF (i+1,cB l _) (by simp only;omega) rfl rfl ⟨by simp only;omega,by simp only;omega,by simp only;omega,?_⟩
     simp only
     rw[←p4,h'.1]
     unfold cB
     split<;>split<;>omega
   ·have hi:i=xs.length:=by omega
    rw[hi,List.drop_of_length_le (by simp),aI,fq (by omega)] at p4
    rw[←p4]
    refine int_eq ?_
    omega
  ·have K8:=aX.mI x
   simp only[aX.aH,List.cons_append,List.nil_append,iG,iw,iq,and_true] at hf
   obtain⟨dx,aF,fBody⟩:=hf
   have hz:x.sz=x.dx.length+((x.aF.length+aI (x.aF.map encS))+(x.fBody.sz)):=by
    simp only[aX.sz,aX.aH,bH,bf,D.sz,List.length_map,Nat.add_zero,Nat.zero_add,au.cZ]<;>omega
   refine aB (rs:=[.tmp 4]) Tryz.checked.mixed Tryz.func108 Tryz.ntmps108 rfl rfl rfl rfl rfl ?_
   rw[hz]
   have abz:=pK dx
   refine W1 ?_
   refine S0 (fun hb h=>?_) fun hb h=>?_
   ·exact int_eq (bT (by omega)).symm
   refine C1 (mo x.aF _ (by omega) (by omega) aF) ?_
   refine S0 (fun hb h=>?_) fun hb h=>?_
   ·have h':=dA h
    exact int_eq (bT (by omega)).symm
   have hVars:=dO h
   simp only[hVars.1]
   refine C1 (wo x.fBody (by omega) _ (by omega) (by omega) fBody) ?_
   refine S0 (fun hb h=>?_) fun hb h=>?_
   ·have h':=dA h
    exact int_eq (bT (by omega)).symm
   have AJ:=dO h
   simp only[AJ.1]
   refine int_eq ?_
   rw[fq (by omega)]
   omega
  ·obtain⟨hf1,hf2⟩:=nY hf
   rw[List.length_map] at hf1
   refine aB (rs:=[.tmp 4]) Tryz.checked.mixed Tryz.func40 Tryz.ntmps40 rfl rfl rfl rfl rfl ?_
   refine W1 ?_
   refine S0 (fun hb h=>?_) fun hb h=>?_
   ·exact int_eq (bT (by omega)).symm
   refine aR (ι:=Nat×Int) Tryz.checked.mixed rfl [0,1,5] (fun y=>[.c (.d (.sl (xs.map aX.enc))),.c (.d (.i .i64 y.2)),.c (.d (.i .i64 y.1))]) (fun _=>[]::S)
    (fun y=>y.1≤xs.length∧0≤y.2∧y.2≤1048576∧cB y.2 (aI ((xs.map aX.enc).drop y.1))=cB left (xs.length+aI (xs.map aX.enc))) (fun y=>xs.length-y.1) (0,left-xs.length) rfl rfl ⟨by omega,by omega,by omega,?_⟩ ?_
   ·unfold cB
    rw[List.drop_zero]
    split<;>split<;>omega
   rintro⟨i,l⟩ ⟨p1,p2,p3,p4⟩
   simp only at p1 p2 p3 p4
   refine W1 ?_
   refine S0 (fun hb h=>?_) fun hb h=>?_
   ·have hi:i<xs.length:=by omega
    rw[List.drop_eq_getElem_cons (by rw[List.length_map];exact hi),aI,List.getElem_map,aX.cZ] at p4
    refine W3 ?_
    refine C1 (Gn xs[i] (by have:=List.sizeOf_lt_of_mem (List.getElem_mem hi);omega) _ (by omega) (by omega) (hf2 _ (List.mem_map_of_mem (List.getElem_mem hi)))) ?_
    refine S0 (fun hb h=>?_) fun hb h=>?_
    ·have h':=dA h
     rw[←p4,bT (by omega)]
    ·have h':=dO h
     refine bF (i+1,cB l _) (by simp only;omega) rfl rfl ⟨by simp only;omega,by simp only;omega,by simp only;omega,?_⟩
     simp only
     rw[←p4,h'.1]
     unfold cB
     split<;>split<;>omega
   ·have hi:i=xs.length:=by omega
    rw[hi,List.drop_of_length_le (by simp),aI,fq (by omega)] at p4
    rw[←p4]
    refine int_eq ?_
    omega
theorem Ce(x:au):∀left:Int,0≤left→left≤1048576→kK x.enc→aD Tryz.prog 9 [x.v,.c (.d (.i .i64 left))] (.c (.d (.i .i64 (cB left x.sz)))):=(Gm _).1 x (Nat.lt_succ_self _)
theorem Gp:∀n:Nat,(∀x:au,SizeOf.sizeOf x<n→x.sz≤1048576→aD Tryz.prog 11 [x.v] x.v)∧
 (∀xs:List au,SizeOf.sizeOf xs<n→xs.length+aI (xs.map au.enc)≤1048576→aD Tryz.prog 44 [.c (.d (.sl (xs.map au.enc)))] (.c (.d (.sl (xs.map au.enc)))))∧
 (∀x:aX,SizeOf.sizeOf x<n→x.sz≤1048576→aD Tryz.prog 113 [x.v] x.v)∧
 (∀xs:List aX,SizeOf.sizeOf xs<n→xs.length+aI (xs.map aX.enc)≤1048576→aD Tryz.prog 45 [.c (.d (.sl (xs.map aX.enc)))] (.c (.d (.sl (xs.map aX.enc)))))
 |0=>⟨fun x h=>by omega,fun x h=>by omega,fun x h=>by omega,fun x h=>by omega⟩
 |n+1=>by
  obtain⟨wo,zN,Gn,Cc⟩:=Gp n
  refine⟨fun x hn hsz S=> ?_,fun xs hn hsz S=> ?_,fun x hn hsz S=> ?_,fun xs hn hsz S=> ?_⟩
  ·have iX:=au.fE x
   have rZ:=au.nD x
   simp only[au.sz,au.aH,bH,bf,D.sz,List.length_map,ah.cZ] at hsz
   refine aB (rs:=[.cell 2 37]) Tryz.checked.mixed Tryz.func11 Tryz.ntmps11 rfl rfl rfl rfl rfl ?_
   refine W1 ?_
   refine C1 (qZ x.fType (by omega)) ?_
   refine C1 (zN x.fArgs (by omega) (by omega)) ?_
   exact C3 (Cc x.aW (by omega) (by omega))
  ·refine aB (rs:=[.tmp 2]) Tryz.checked.mixed Tryz.func44 Tryz.ntmps44 rfl rfl rfl rfl rfl ?_
   refine W1 ?_
   refine W3 ?_
   refine aR (ι:=Nat×List (List D)) Tryz.checked.mixed rfl [0,3,4] (fun y=>[.c (.d (.sl (xs.map au.enc))),.c (.jd (0,0)),.c (.d (.i .i64 y.1))]) (fun y=>[.eT 9 y.2]::S)
    (fun y=>y.1≤xs.length∧fI 9 y.1 y.2 (xs.map au.enc)) (fun y=>xs.length-y.1) (0,_) rfl rfl ⟨Nat.zero_le _,fI.start (by simp) rfl⟩ ?_
   rintro⟨i,R⟩ ⟨p1,p2⟩
   simp only at p1 p2
   refine W1 ?_
   refine S0 (fun hb h=>?_) fun hb h=>?_
   ·have hi:i<xs.length:=by omega
    have hx:xs[i].sz≤aI (xs.map au.enc):=bD (List.mem_map_of_mem (List.getElem_mem hi))
    refine W3 ?_
    refine C1 (wo xs[i] (by have:=List.sizeOf_lt_of_mem (List.getElem_mem hi);omega) (by omega)) ?_
    have hR:=p2.1
    rw[List.length_map] at hR
    refine W3 ?_
    refine bF (i+1,_) (by simp only;omega) rfl rfl ⟨by simp only;omega,p2.step (by simp[hi,au.aH,ah.aH]) rfl⟩
   ·have hi:i=xs.length:=by omega
    rw[p2.done (by rw[List.length_map];omega)]
  ·have K8:=aX.mI x
   simp only[aX.sz,aX.aH,bH,bf,D.sz,List.length_map,au.cZ] at hsz
   refine aB (rs:=[.cell 2 149]) Tryz.checked.mixed Tryz.func113 Tryz.ntmps113 rfl rfl rfl rfl rfl ?_
   refine W1 ?_
   refine C1 (mq x.aF (by omega)) ?_
   exact C3 (wo x.fBody (by omega) (by omega))
  ·refine aB (rs:=[.tmp 2]) Tryz.checked.mixed Tryz.func45 Tryz.ntmps45 rfl rfl rfl rfl rfl ?_
   refine W1 ?_
   refine W3 ?_
   refine aR (ι:=Nat×List (List D)) Tryz.checked.mixed rfl [0,3,4] (fun y=>[.c (.d (.sl (xs.map aX.enc))),.c (.jd (0,0)),.c (.d (.i .i64 y.1))]) (fun y=>[.eT 11 y.2]::S)
    (fun y=>y.1≤xs.length∧fI 11 y.1 y.2 (xs.map aX.enc)) (fun y=>xs.length-y.1) (0,_) rfl rfl ⟨Nat.zero_le _,fI.start (by simp) rfl⟩ ?_
   rintro⟨i,R⟩ ⟨p1,p2⟩
   simp only at p1 p2
   refine W1 ?_
   refine S0 (fun hb h=>?_) fun hb h=>?_
   ·have hi:i<xs.length:=by omega
    have hx:xs[i].sz≤aI (xs.map aX.enc):=bD (List.mem_map_of_mem (List.getElem_mem hi))
    refine W3 ?_
    refine C1 (Gn xs[i] (by have:=List.sizeOf_lt_of_mem (List.getElem_mem hi);omega) (by omega)) ?_
    have hR:=p2.1
    rw[List.length_map] at hR
    refine W3 ?_
    refine bF (i+1,_) (by simp only;omega) rfl rfl ⟨by simp only;omega,p2.step (by simp[hi,aX.aH,au.aH,ah.aH]) rfl⟩
   ·have hi:i=xs.length:=by omega
    rw[p2.done (by rw[List.length_map];omega)]
theorem Cg(x:au):x.sz≤1048576→aD Tryz.prog 11 [x.v] x.v:=(Gp _).1 x (Nat.lt_succ_self _)
theorem Gq:∀n:Nat,(∀x:au,SizeOf.sizeOf x<n→∀y:au,x.sz≤1048576→aD Tryz.prog 13 [x.v,y.v] (.c (.d (.b (dec (x=y))))))∧
 (∀xs:List au,SizeOf.sizeOf xs<n→∀ys:List au,xs.length+aI (xs.map au.enc)≤1048576→aD Tryz.prog 50 [.c (.d (.sl (xs.map au.enc))),.c (.d (.sl (ys.map au.enc)))] (.c (.d (.b (dec (xs=ys))))))∧
 (∀x:aX,SizeOf.sizeOf x<n→∀y:aX,x.sz≤1048576→aD Tryz.prog 122 [x.v,y.v] (.c (.d (.b (dec (x=y))))))∧
 (∀xs:List aX,SizeOf.sizeOf xs<n→∀ys:List aX,xs.length+aI (xs.map aX.enc)≤1048576→aD Tryz.prog 51 [.c (.d (.sl (xs.map aX.enc))),.c (.d (.sl (ys.map aX.enc)))] (.c (.d (.b (dec (xs=ys))))))
 |0=>⟨fun x h=>by omega,fun x h=>by omega,fun x h=>by omega,fun x h=>by omega⟩
 |n+1=>by
  obtain⟨wo,zN,Gn,Cc⟩:=Gq n
  refine⟨fun x hn y hsz S=> ?_,fun xs hn ys hsz S=> ?_,fun x hn y hsz S=> ?_,fun xs hn ys hsz S=> ?_⟩
  ·have iX:=au.fE x
   have rZ:=au.nD x
   simp only[au.sz,au.aH,bH,bf,D.sz,List.length_map,ah.cZ] at hsz
   refine aB (rs:=[.tmp 4]) Tryz.checked.mixed Tryz.func13 Tryz.ntmps13 rfl rfl rfl rfl rfl ?_
   refine W1 ?_
   refine S0 (fun hb h=>?_) fun hb h=>?_
   ·exact ay (aC (fun e=>h (by rw[e]))).symm
   have R9:=h
   clear h
   refine S0 (fun hb h=>?_) fun hb h=>?_
   ·exact ay (aC (fun e=>h (by rw[e]))).symm
   have Cb:=h
   clear h
   refine S0 (fun hb h=>?_) fun hb h=>?_
   ·exact ay (aC (fun e=>h (by rw[e]))).symm
   have ni:=h
   clear h
   refine S0 (fun hb h=>?_) fun hb h=>?_
   ·exact ay (aC (fun e=>h (by rw[e]))).symm
   have eN:=h
   clear h
   refine C1 (q8 x.fType _ (by omega)) ?_
   refine S0 (fun hb h=>?_) fun hb h=>?_
   ·exact ay (aC (fun e=>h (by rw[e]))).symm
   have eType:=h
   clear h
   refine C1 (zN x.fArgs (by omega) _ (by omega)) ?_
   refine S0 (fun hb h=>?_) fun hb h=>?_
   ·exact ay (aC (fun e=>h (by rw[e]))).symm
   have eArgs:=h
   clear h
   refine C1 (Cc x.aW (by omega) _ (by omega)) ?_
   refine S0 (fun hb h=>?_) fun hb h=>?_
   ·exact ay (aC (fun e=>h (by rw[e]))).symm
   have adQ:=h
   clear h
   exact ay (bq (au.ext R9 Cb ni eN eType eArgs adQ)).symm
  ·refine aB (rs:=[.tmp 4]) Tryz.checked.mixed Tryz.func50 Tryz.ntmps50 rfl rfl rfl rfl rfl ?_
   refine W1 ?_
   refine S0 (fun hb h=>?_) fun hb h=>?_
   ·exact ay (aC (fun e=>h (by rw[e]))).symm
   have hl:xs.length=ys.length:=by omega
   refine aR (ι:=Nat) Tryz.checked.mixed rfl [0,1,5] (fun y=>[.c (.d (.sl (xs.map au.enc))),.c (.d (.sl (ys.map au.enc))),.c (.d (.i .i64 y))]) (fun y=>[]::S)
    (fun i=>i≤xs.length∧∀j,j<i→xs[j]? =ys[j]?) (fun y=>xs.length-y) 0 rfl rfl ⟨Nat.zero_le _,fun j h=>by omega⟩ ?_
   rintro i ⟨p1,p2⟩
   refine W1 ?_
   refine S0 (fun hb h=>?_) fun hb h=>?_
   ·have hi:i<xs.length:=by omega
    have hi':i<ys.length:=by omega
    have hx:xs[i].sz≤aI (xs.map au.enc):=bD (List.mem_map_of_mem (List.getElem_mem hi))
    refine W3 ?_
    refine C1 (wo xs[i] (by have:=List.sizeOf_lt_of_mem (List.getElem_mem hi);omega) ys[i] (by omega)) ?_
    refine S0 (fun hb h=>?_) fun hb h=>?_
    ·exact ay (aC (fun e=>h (by simp only[e]))).symm
    refine bF (i+1) (by omega) rfl rfl ⟨by omega,fun j hj=> ?_⟩
    by_cases e:j=i
    ·subst e
     rw[List.getElem?_eq_getElem hi,List.getElem?_eq_getElem hi',h]
    ·exact p2 j (by omega)
   ·have hi:i=xs.length:=by omega
    refine ay (bq (List.ext_getElem? fun j=> ?_)).symm
    by_cases hj:j<i
    ·exact p2 j hj
    ·rw[List.getElem?_eq_none (by omega),List.getElem?_eq_none (by omega)]
  ·have K8:=aX.mI x
   simp only[aX.sz,aX.aH,bH,bf,D.sz,List.length_map,au.cZ] at hsz
   refine aB (rs:=[.tmp 4]) Tryz.checked.mixed Tryz.func122 Tryz.ntmps122 rfl rfl rfl rfl rfl ?_
   refine W1 ?_
   refine S0 (fun hb h=>?_) fun hb h=>?_
   ·exact ay (aC (fun e=>h (by rw[e]))).symm
   have Nf:=h
   clear h
   refine C1 (mD x.aF _ (by omega)) ?_
   refine S0 (fun hb h=>?_) fun hb h=>?_
   ·exact ay (aC (fun e=>h (by rw[e]))).symm
   have uw:=h
   clear h
   refine C1 (wo x.fBody (by omega) _ (by omega)) ?_
   refine S0 (fun hb h=>?_) fun hb h=>?_
   ·exact ay (aC (fun e=>h (by rw[e]))).symm
   have AL:=h
   clear h
   exact ay (bq (aX.ext Nf uw AL)).symm
  ·refine aB (rs:=[.tmp 4]) Tryz.checked.mixed Tryz.func51 Tryz.ntmps51 rfl rfl rfl rfl rfl ?_
   refine W1 ?_
   refine S0 (fun hb h=>?_) fun hb h=>?_
   ·exact ay (aC (fun e=>h (by rw[e]))).symm
   have hl:xs.length=ys.length:=by omega
   refine aR (ι:=Nat) Tryz.checked.mixed rfl [0,1,5] (fun y=>[.c (.d (.sl (xs.map aX.enc))),.c (.d (.sl (ys.map aX.enc))),.c (.d (.i .i64 y))]) (fun y=>[]::S)
    (fun i=>i≤xs.length∧∀j,j<i→xs[j]? =ys[j]?) (fun y=>xs.length-y) 0 rfl rfl ⟨Nat.zero_le _,fun j h=>by omega⟩ ?_
   rintro i ⟨p1,p2⟩
   refine W1 ?_
   refine S0 (fun hb h=>?_) fun hb h=>?_
   ·have hi:i<xs.length:=by omega
    have hi':i<ys.length:=by omega
    have hx:xs[i].sz≤aI (xs.map aX.enc):=bD (List.mem_map_of_mem (List.getElem_mem hi))
    refine W3 ?_
    refine C1 (Gn xs[i] (by have:=List.sizeOf_lt_of_mem (List.getElem_mem hi);omega) ys[i] (by omega)) ?_
    refine S0 (fun hb h=>?_) fun hb h=>?_
    ·exact ay (aC (fun e=>h (by simp only[e]))).symm
    refine bF (i+1) (by omega) rfl rfl ⟨by omega,fun j hj=> ?_⟩
    by_cases e:j=i
    ·subst e
     rw[List.getElem?_eq_getElem hi,List.getElem?_eq_getElem hi',h]
    ·exact p2 j (by omega)
   ·have hi:i=xs.length:=by omega
    refine ay (bq (List.ext_getElem? fun j=> ?_)).symm
    by_cases hj:j<i
    ·exact p2 j hj
    ·rw[List.getElem?_eq_none (by omega),List.getElem?_eq_none (by omega)]
theorem Ch(x:au):∀y:au,x.sz≤1048576→aD Tryz.prog 13 [x.v,y.v] (.c (.d (.b (dec (x=y))))):=(Gq _).1 x (Nat.lt_succ_self _)
end Go.Proofs.YtcfhnaohbaplhaaGreatDoor
namespace Go.Ab
mutual
def au.cnt:au→Nat
 | .mk _ _ _ _ _ a b=>1+(au.dR a+aX.dR b)
def au.dR:List au→Nat
 |[]=>0
 |x::xs=>x.cnt+au.dR xs
def aX.cnt:aX→Nat
 | .mk _ _ b=>b.cnt
def aX.dR:List aX→Nat
 |[]=>0
 |x::xs=>x.cnt+aX.dR xs
end
theorem au.mW(x:au):x.cnt=1+(au.dR x.fArgs+aX.dR x.aW):=by cases x;rw[au.cnt];rfl
theorem aX.mW(x:aX):x.cnt=x.fBody.cnt:=by cases x;rw[aX.cnt];rfl
theorem au.kC{xs:List au}{i:Nat}(hi:i<xs.length):au.dR (xs.drop i)=xs[i].cnt+au.dR (xs.drop (i+1)):=by rw[List.drop_eq_getElem_cons hi,au.dR]
theorem aX.kC{xs:List aX}{i:Nat}(hi:i<xs.length):aX.dR (xs.drop i)=xs[i].fBody.cnt+aX.dR (xs.drop (i+1)):=by rw[List.drop_eq_getElem_cons hi,aX.dR,aX.mW]
theorem au.yt(x:au):x.fArgs.length+aI (x.fArgs.map au.enc)≤x.sz∧x.aW.length+aI (x.aW.map aX.enc)≤x.sz:=by
 simp only[au.sz,au.aH,bH,bf,D.sz,List.length_map]
 omega
theorem aX.Ir(x:aX):x.fBody.sz≤x.sz:=by
 simp only[aX.sz,aX.aH,au.sz,bH,bf,D.sz,List.length_map]
 omega
mutual
theorem au.jW:∀x:au,x.cnt≤1+x.sz
 | .mk k t n m ty a b=>by
   have h1:=au.sQ a
   have h2:=aX.sQ b
   rw[au.cnt]
   simp only[au.sz,au.aH,bH,bf,D.sz,List.length_map,au.fArgs,au.aW]
   omega
theorem au.sQ:∀xs:List au,au.dR xs≤xs.length+aI (xs.map au.enc)
 |[]=>by simp[au.dR]
 |x::xs=>by
  have h1:=au.jW x
  have h2:=au.sQ xs
  rw[au.dR,List.length_cons,List.map_cons,aI,au.cZ]
  omega
theorem aX.jW:∀x:aX,x.cnt≤1+x.sz
 | .mk c v b=>by
   have h1:=au.jW b
   have h2:=aX.Ir (.mk c v b)
   rw[aX.cnt]
   simp only[aX.fBody] at h2
   omega
theorem aX.sQ:∀xs:List aX,aX.dR xs≤xs.length+aI (xs.map aX.enc)
 |[]=>by simp[aX.dR]
 |x::xs=>by
  have h1:=aX.jW x
  have h2:=aX.sQ xs
  rw[aX.dR,List.length_cons,List.map_cons,aI,aX.cZ]
  omega
end
end Go.Ab
namespace Go.Proofs.YtcfhnaohbaplhaaGreatDoor
open Go Go.Ab
theorem yu:∀n:Nat,∀x:au,SizeOf.sizeOf x<n→x.sz≤4194304→aD Tryz.prog 201 [x.v] (.c (.d (.i .i64 x.cnt)))
 |0=>fun x h=>by omega
 |n+1=>by
  have ih:=yu n
  intro x hn hsz S
  have iX:=au.fE x
  have rZ:=au.nD x
  have hp:=au.yt x
  have hc:=au.jW x
  have he:=au.mW x
  refine aB (rs:=[.tmp 2]) Tryz.checked.mixed Tryz.func201 Tryz.ntmps201 rfl rfl rfl rfl rfl ?_
  refine W1 ?_
  refine aR (ι:=Nat×Nat) Tryz.checked.mixed rfl [1,3,9,10,11] (fun y=>[.c (.ptr (0,0) 0),.c (.d (.i .i64 y.2)),.c (.d (.sl (x.fArgs.map au.enc))),.c (.d (.i .i64 x.fArgs.length)),.c (.d (.i .i64 y.1))]) (fun y=>[.box (x.enc.map .d)]::S)
   (fun y=>y.1≤x.fArgs.length∧x.cnt=y.2+au.dR (x.fArgs.drop y.1)+aX.dR x.aW) (fun y=>x.fArgs.length-y.1) (0,1) rfl ?_ ⟨Nat.zero_le _,by simp only[List.drop_zero];omega⟩ ?_
  ·exact Z1
  rintro⟨i,c⟩ ⟨p1,p2⟩
  simp only at p1 p2
  refine W1 ?_
  refine S0 (fun hb h=>?_) fun hb h=>?_
  ·have hi:i<x.fArgs.length:=by omega
   have hx:x.fArgs[i].sz≤aI (x.fArgs.map au.enc):=bD (List.mem_map_of_mem (List.getElem_mem hi))
   rw[au.kC hi] at p2
   refine W3 ?_
   refine C2 (ih x.fArgs[i] (by have:=List.sizeOf_lt_of_mem (List.getElem_mem hi);omega) (by omega)) ?_
   rw[show(c:Int)+(x.fArgs[i].cnt:Int)=((c+x.fArgs[i].cnt:Nat):Int) by omega]
   exact bX 1 (by decide) (i+1,c+x.fArgs[i].cnt) (by simp only;omega) rfl rfl rfl rfl ⟨by simp only;omega,by simp only;omega⟩
  have hi:i=x.fArgs.length:=by omega
  rw[hi,List.drop_length,au.dR] at p2
  refine aR (ι:=Nat×Nat) Tryz.checked.mixed rfl [3,21,22,23] (fun y=>[.c (.d (.i .i64 y.2)),.c (.d (.sl (x.aW.map aX.enc))),.c (.d (.i .i64 x.aW.length)),.c (.d (.i .i64 y.1))]) (fun y=>[.box (x.enc.map .d)]::S)
   (fun y=>y.1≤x.aW.length∧x.cnt=y.2+aX.dR (x.aW.drop y.1)) (fun y=>x.aW.length-y.1) (0,c) rfl ?_ ⟨Nat.zero_le _,by simp only[List.drop_zero];omega⟩ ?_
  ·exact Z1
  clear p1 p2 hb h hi i
  rintro⟨i,d⟩ ⟨p1,p2⟩
  simp only at p1 p2
  refine W1 ?_
  refine S0 (fun hb h=>?_) fun hb h=>?_
  ·have hi:i<x.aW.length:=by omega
   have hx:x.aW[i].sz≤aI (x.aW.map aX.enc):=bD (List.mem_map_of_mem (List.getElem_mem hi))
   have hy:=aX.Ir x.aW[i]
   have hs:=List.sizeOf_lt_of_mem (List.getElem_mem hi)
   have hs':=aX.mI x.aW[i]
   rw[aX.kC hi] at p2
   refine W3 ?_
   refine C2 (ih x.aW[i].fBody (by omega) (by omega)) ?_
   rw[show(d:Int)+(x.aW[i].fBody.cnt:Int)=((d+x.aW[i].fBody.cnt:Nat):Int) by omega]
   exact bX 1 (by decide) (i+1,d+x.aW[i].fBody.cnt) (by simp only;omega) rfl rfl rfl rfl ⟨by simp only;omega,by simp only;omega⟩
  ·have hi:i=x.aW.length:=by omega
   rw[hi,List.drop_length,aX.dR] at p2
   exact int_eq (by omega)
theorem Gs(x:au)(hsz:x.sz≤4194304):aD Tryz.prog 201 [x.v] (.c (.d (.i .i64 x.cnt))):=yu _ x (Nat.lt_succ_self _) hsz
end Go.Proofs.YtcfhnaohbaplhaaGreatDoor
namespace Go.Ab
def ops:List (List UInt8):=[[43],[45],[42],[60],[61]]
def uy(t:ah):Prop:=t.aV=0∧t.fName=[]∧t.fArgs.length=0
def qA(e:au):Prop:=
 (1≤e.aV∧e.aV≤12)∧
 (if e.aV=5∨e.aV=11 then validName e.bJ=true else e.bJ=[])∧
 (if e.aV=3∨e.aV=4∨e.aV=5∨e.aV=6∨e.aV=8 then validName e.fName=true else if e.aV=10 then e.fName∈ops else e.fName=[])∧
 (if e.aV=1 then -999999≤e.fN∧e.fN≤999999 else if e.aV=2 then e.fN=0∨e.fN=1 else e.fN=0)∧
 (if e.aV=12 then lg e.fType=true else uy e.fType)∧
 (if e.aV=4∨e.aV=6 then True else if e.aV=5 then 1≤e.fArgs.length else if e.aV=7∨e.aV=11∨e.aV=12 then e.fArgs.length=1 else if e.aV=8∨e.aV=10 then e.fArgs.length=2 else if e.aV=9 then e.fArgs.length=3 else e.fArgs.length=0)∧
 (e.aV=7↔0<e.aW.length)
mutual
noncomputable def gW:au→Bool
 | .mk k t n m ty a b=>dec (qA (.mk k t n m ty a b))&&(kX a&&nJ b)
noncomputable def kX:List au→Bool
 |[]=>true
 |x::xs=>gW x&&kX xs
noncomputable def uz:aX→Bool
 | .mk c v b=>validName c&&(gQ v&&gW b)
noncomputable def nJ:List aX→Bool
 |[]=>true
 |x::xs=>uz x&&nJ xs
end
theorem sW(x:au):gW x=(dec (qA x)&&(kX x.fArgs&&nJ x.aW)):=by cases x;rw[gW];rfl
theorem oC(x:aX):uz x=(validName x.dx&&(gQ x.aF&&gW x.fBody)):=by cases x;rw[uz];rfl
theorem Ng{xs:List au}{i:Nat}(hi:i<xs.length):kX (xs.drop i)=(gW xs[i]&&kX (xs.drop (i+1))):=by rw[List.drop_eq_getElem_cons hi,kX]
theorem O7{xs:List aX}{i:Nat}(hi:i<xs.length):nJ (xs.drop i)=(uz xs[i]&&nJ (xs.drop (i+1))):=by rw[List.drop_eq_getElem_cons hi,nJ]
theorem DZ:∀{xs:List au},(xs.any fun t=> !gW t)= !kX xs
 |[]=>rfl
 |t::ts=>by rw[List.any_cons,DZ (xs:=ts),kX];simp
theorem Gt:∀{xs:List aX},(xs.any fun t=> !uz t)= !nJ xs
 |[]=>rfl
 |t::ts=>by rw[List.any_cons,Gt (xs:=ts),nJ];simp
noncomputable def om(e:au):Bool:=dec (e.cnt≤300)&&gW e
def mF(l:Int)(c:Nat):Int:=if l<0 then -1 else if c≤l then l-c else -1
theorem AO{l:Int}{a b:Nat}:mF (mF l a) b=mF l (a+b):=by unfold mF;split<;>split<;>(try split)<;>(try split)<;>omega
theorem Ev{l:Int}{a:Nat}(h:l<0):mF l a= -1:=if_pos h
theorem Ci{l:Int}(h: -1≤l):mF l 0=l:=by unfold mF;split<;>(try split)<;>omega
theorem Iu{l:Int}{c:Nat}(h:0≤l): -1≤mF l c∧mF l c≤l:=by unfold mF;split<;>(try split)<;>omega
theorem XW{l:Int}{c:Nat}(h:0≤l):decide (mF l c≥0)=decide ((c:Int)≤l):=by unfold mF;rw[if_neg (by omega)];split<;>simp<;>omega
theorem Kz:validName []=false:=aC fun h=>by have:=h.1.1;simp at this
theorem abA{s:List UInt8}(h:s∈ops):s.length=1:=by simp[ops] at h;rcases h with h|h|h|h|h<;>rw[h]<;>rfl
theorem Nh{s:List UInt8}(h:s∈ops):validName s=false:=aC fun x=>by
 have h1:=x.2.2 0 (by have:=x.1.1;omega)
 simp[ops] at h;rcases h with h|h|h|h|h<;>rw[h] at h1<;>simp[lowerB,oO] at h1
theorem Gu{t:ah}(h:uy t):lg t=false:=aC fun x=>by
 have h1:=x.1
 rw[sS,Bool.and_eq_true] at h1
 have h2:=iO h1.1
 rw[h.1] at h2
 omega
end Go.Ab
namespace Go.Ab
structure Hold (p:Prop):Prop where
 out:p
theorem oD{P:Program}{N:Nat}{c:Code}{Q:Exit→St→Prop}{tm:List (Nat×V)}{st st':Store}(ts:List Nat)(vs:List V)(hv:ts.map (look tm)=vs)(hs:st=st')
 (h:AW P N c Q ⟨fH ts vs,st'⟩):AW P N c Q ⟨tm,st⟩:=by
 subst hs
 refine oq h ?_
 rw[←hv]
 exact Em fun t=>xZ _ ts t
end Go.Ab
namespace Go.Ab
theorem Z7(b:UInt8):decide (firstIdx ⟨[43,45,42,60,61].toArray⟩ b≥0)=dec ([b]∈ops):=by
 have h:∀n:Nat,n<256→decide (firstIdx ⟨[43,45,42,60,61].toArray⟩ (UInt8.ofNat n)≥0)=decide ([UInt8.ofNat n]∈ops):=by decide +kernel
 have h1:=h b.toNat (UInt8.toNat_lt b)
 rw[UInt8.ofNat_toNat] at h1
 rw[h1]
 by_cases h2:[b]∈ops
 ·rw[bq h2];simp[h2]
 ·rw[aC h2];simp[h2]
def Sg(k:Int):Int:=if k=5∨k=7∨k=11∨k=12 then 1 else if k=8∨k=10 then 2 else if k=9 then 3 else 0
def Si(k:Int):Int:=if k=4∨k=6∨k=5 then 300 else if k=7∨k=11∨k=12 then 1 else if k=8∨k=10 then 2 else if k=9 then 3 else 0
end Go.Ab
namespace Go.Proofs.YtcfhnaohbaplhaaGreatDoor
open Go Go.Ab
theorem Dw(l:List UInt8)(b:UInt8):Q6 Tryz.prog 366 [.c (.d (.s l)),.c (.d (.i .u8 b.toNat))] (.c (.d (.i .i64 (firstIdx ⟨l.toArray⟩ b)))):=by
 refine⟨_,Extern.BytealgIndexByte.indexByte,Tryz.func366,by kernel_rfl,by kernel_rfl,by kernel_rfl,by kernel_rfl,fun w σ S β vs hS hv=> ?_⟩
 obtain⟨hl,h⟩:=hv
 obtain⟨v0,e0,h0,_⟩:=h 0 _ rfl
 obtain⟨v1,e1,h1,_⟩:=h 1 _ rfl
 cases h0
 cases h1
 have hvs:vs=[.string ⟨l.toArray⟩,.int .u8 b.toNat]:=by
  match vs,hl,e0,e1 with
  |[x,y],_,e0,e1=>simp at e0 e1;rw[e0,e1]
 subst hvs
 refine⟨_,run_indexByte_string _ _ w,?_,rfl⟩
 have hb:(b.toNat:Int).toNat.toUInt8=b:=by simp
 rw[hb]
 exact .i _ _
theorem Cj(l:List UInt8)(b:UInt8):aD Tryz.prog 339 [.c (.d (.s l)),.c (.d (.i .u8 b.toNat))] (.c (.d (.i .i64 (firstIdx ⟨l.toArray⟩ b)))):=fun S=>by
 refine aB (rs:=[.tmp 4]) Tryz.checked.mixed Tryz.func339 Tryz.ntmps339 rfl rfl rfl rfl rfl ?_
 refine W1 ?_
 refine aa8 (Dw l b) ?_
 exact Z1
theorem O8(l:List UInt8)(b:UInt8)(hl:[b]≠l):aD Tryz.prog 400 [.c (.d (.s l)),.c (.d (.s [b]))] (.c (.d (.i .i64 (firstIdx ⟨l.toArray⟩ b)))):=fun S=>by
 have c1:decide (((1:Nat):Int)=0)=false:=rfl
 have c2:decide (((1:Nat):Int)=1)=true:=rfl
 refine aB (rs:=[.tmp 4]) Tryz.checked.mixed Tryz.func400 Tryz.ntmps400 rfl rfl rfl rfl rfl ?_
 simp -implicitDefEqProofs (disch:=omega) only[go_sem,c1,c2]
 with_reducible refine eY (fun hb=> ?_) (fun hb=> ?_)<;>have h:=hb<;>(try simp only[wf_preprocess] at h)<;>simp -implicitDefEqProofs (disch:=omega) only[go_sem,hb,c1,c2]<;>refine W3 ?_
 ·exact absurd h hl
 exact C4 (Cj l b)
theorem Vl(l:List UInt8)(b:UInt8)(hl:[b]≠l):aD Tryz.prog 386 [.c (.d (.s l)),.c (.d (.s [b]))] (.c (.d (.i .i64 (firstIdx ⟨l.toArray⟩ b)))):=fun S=>by
 refine aB (rs:=[.tmp 4]) Tryz.checked.mixed Tryz.func386 Tryz.ntmps386 rfl rfl rfl rfl rfl ?_
 refine W1 ?_
 exact C4 (O8 l b hl)
theorem Ni(l:List UInt8)(b:UInt8)(hl:[b]≠l):aD Tryz.prog 369 [.c (.d (.s l)),.c (.d (.s [b]))] (.c (.d (.b (decide (firstIdx ⟨l.toArray⟩ b≥0))))):=fun S=>by
 refine aB (rs:=[.tmp 4]) Tryz.checked.mixed Tryz.func369 Tryz.ntmps369 rfl rfl rfl rfl rfl ?_
 refine W1 ?_
 exact C4 (Vl l b hl)
theorem KA(s:List UInt8):aD Tryz.prog 345 [.c (.d (.s s))] (.c (.d (.b (dec (s∈ops))))):=fun S=>by
 refine aB (rs:=[.tmp 2]) Tryz.checked.mixed Tryz.func345 Tryz.ntmps345 rfl rfl rfl rfl rfl ?_
 refine W1 ?_
 refine S0 (fun hb h=>?_) fun hb h=>?_
 ·obtain⟨b,rfl⟩:=List.length_eq_one_iff.1 (show s.length=1 by omega)
  refine C2 (Ni [43,45,42,60,61] b (by intro x;cases x)) ?_
  exact ay (Z7 b)
 ·exact ay (aC fun x=>h (by rw[abA x];rfl)).symm
theorem Bo(t:ah):aD Tryz.prog 266 [t.v] (.c (.d (.b (dec (uy t))))):=fun S=>by
 refine aB (rs:=[.tmp 2]) Tryz.checked.mixed Tryz.func266 Tryz.ntmps266 rfl rfl rfl rfl rfl ?_
 refine W1 ?_
 repeat' (first
  |refine S0 (fun hb h=>?_) fun hb h=>?_
  |(refine ay ?_;unfold uy;grind [bq,aC,iO,iK]))
theorem D5(k:Int):aD Tryz.prog 344 [.c (.d (.i .i64 k))] (.iE [(false,[.d (.i .i64 (Sg k))]),(false,[.d (.i .i64 (Si k))])]):=fun S=>by
 refine aB (rs:=[.tmp 2,.tmp 3]) Tryz.checked.mixed Tryz.func344 Tryz.ntmps344 rfl rfl rfl rfl rfl ?_
 refine W1 ?_
 repeat' (first
  |refine S0 (fun hb h=>?_) fun hb h=>?_
  |(unfold Sg Si;grind))
end Go.Proofs.YtcfhnaohbaplhaaGreatDoor
