/-
  SEVERAL TEXTS IN ONE (merged by program): contracts and models, each with its own heading.
-/
import Derived.Test.YtcfhnaohbaplhaaGreatDoorPartTgbB
import Derived.Test.YtcfhnaohbaplhaaGreatDoorChecked
import Derived.Eval
import Derived.KernelRfl
import Derived.WalkKit
import Derived.ProofKit
import Derived.Lib.FrozenHead2
import Derived.Lib.OthersKept
import Derived.Lib.AppendStr
import Derived.Lib.UnsafeStr
import Derived.Lib.Builder
import Derived.Laws.Externs
import Derived.Deep.LoopGhost
set_option linter.unusedSimpArgs false
set_option linter.unusedVariables false
set_option maxRecDepth 4000
set_option maxRecDepth 100000
namespace Go.Ab
mutual
def D.sz:D→Nat
 | .s l=>l.length
 | .sl es=>es.length+aI es
 | .b _=>0
 | .i _ _=>0
 | .o _=>0
 | .ol _ es=>es.length+aI es
def bL:List D→Nat
 |[]=>0
 |d::ds=>d.sz+bL ds
def aI:List (List D)→Nat
 |[]=>0
 |r::rs=>bL r+aI rs
end
theorem bf:∀(a b:List D),bL (a++b)=bL a+bL b
 |[],b=>by simp[bL]
 |d::ds,b=>by rw[List.cons_append,bL,bf ds b,bL];omega
def cK(left:Int)(n:Nat):Int:=if left-n<0 then -1 else left-n
theorem dP{l:Int}{a:Nat}(h:¬cK l a<0):cK l a=l-a∧0≤l-a:=by
 unfold cK at *
 split at h
 ·omega
 ·rename_i h';exact⟨if_neg h',by omega⟩
theorem dB{l:Int}{a:Nat}(h:cK l a<0):l-a<0:=by
 unfold cK at *
 split at h<;>omega
theorem bV{l:Int}{a:Nat}(h:l-a<0):cK l a= -1:=if_pos h
theorem fA{l:Int}{a:Nat}(h:0≤l-a):cK l a=l-a:=if_neg (by omega)
theorem int_eq{k:IntKind}{a b:Int}(h:a=b):V.c (.d (.i k a))=V.c (.d (.i k b)):=by rw[h]
theorem ay{a b:Bool}(h:a=b):V.c (.d (.b a))=V.c (.d (.b b)):=by rw[h]
noncomputable def dec(p:Prop):Bool:= @decide p (Classical.propDecidable p)
theorem bq{p:Prop}(h:p):dec p=true:=by simp[dec,h]
theorem aC{p:Prop}(h:¬p):dec p=false:=by simp[dec,h]
theorem iN{p:Prop}(h:dec p=true):p:=by simpa [dec] using h
theorem iH{p:Prop}(h:dec p=false):¬p:=by simpa [dec] using h
theorem vF{p:Prop}:(dec p=true)=p:=by simp[dec]
theorem BF{p:Prop}:(dec p=false)=¬p:=by simp[dec]
attribute [wf_preprocess] vF BF
theorem gN{p q:Prop}(h:p↔q):dec p=dec q:=by rw[propext h]
theorem Xn:dec True=true:=bq trivial
theorem UE:dec False=false:=aC id
attribute [go_sem] Xn UE
theorem lU{p:Prop}[Decidable p]:decide p=dec p:=by by_cases h:p<;>simp[dec,h]
theorem bD{r:List D}:∀{rs:List (List D)},r∈rs→bL r≤aI rs
 |a::rs,h=>by
  rw[aI]
  rcases List.mem_cons.1 h with rfl|h
  ·omega
  ·have:=bD h;omega
def gq(z i:Nat)(R rows:List (List D)):Prop:=R.length=rows.length∧(∀r∈R,r.length=z)∧∀j,j<i→R[j]? =rows[j]?
theorem gq.start{z:Nat}{rows:List (List D)}{zero:List D}{n:Nat}(hn:n=rows.length)(h:zero.length=z):gq z 0 (List.replicate n zero) rows:=by
 subst hn
 exact⟨by simp,fun r hr=>by rw[List.eq_of_mem_replicate hr];exact h,fun j h=>by omega⟩
theorem gq.step{z i:Nat}{R rows:List (List D)}{row:List D}(h:gq z i R rows)(hi:rows[i]? =some row)(hr:row.length=z):gq z (i+1) (R.set i (qm (R.getD i []) 0 row)) rows:=by
 obtain⟨h1,h2,h3⟩:=h
 have hlt:i<rows.length:=(List.getElem?_eq_some_iff.1 hi).1
 have hs:qm (R.getD i []) 0 row=row:=by
  have hm:R.getD i []∈R:=by
   rw[List.getD_eq_getElem?_getD,List.getElem?_eq_getElem (by omega)]
   exact List.getElem_mem _
  have:=h2 _ hm
  unfold qm
  rw[List.take_zero,List.nil_append,Nat.zero_add,hr,List.drop_eq_nil_of_le (by omega),List.append_nil]
 rw[hs]
 refine⟨by simpa using h1,fun r hr'=> ?_,fun j hj=> ?_⟩
 ·rcases List.mem_or_eq_of_mem_set hr' with h|h
  ·exact h2 r h
  ·rw[h];exact hr
 ·by_cases e:j=i
  ·subst e
   rw[hi,List.getElem?_set_self (by omega)]
  ·rw[List.getElem?_set_ne (by omega)]
   exact h3 j (by omega)
theorem gq.done{z i:Nat}{R rows:List (List D)}(h:gq z i R rows)(hi:rows.length≤i):R=rows:=by
 obtain⟨h1,h2,h3⟩:=h
 refine List.ext_getElem? fun j=> ?_
 by_cases hj:j<i
 ·exact h3 j hj
 ·rw[List.getElem?_eq_none (by omega),List.getElem?_eq_none (by omega)]
end Go.Ab
namespace Go.Ab
def encS(s:List UInt8):List D:=[.s s]
def encI(n:Int):List D:=[.i .i64 n]
inductive ah where
 |mk (aU:Int) (fName:List UInt8) (fArgs:List ah)
def ah.aU:ah→Int| .mk x _ _=>x
def ah.fName:ah→List UInt8| .mk _ x _=>x
def ah.fArgs:ah→List ah| .mk _ _ x=>x
theorem ah.eta(x:ah):ah.mk x.aU x.fName x.fArgs=x:=by cases x;rfl
theorem ah.ext{x y:ah}(h0:x.aU=y.aU)(h1:x.fName=y.fName)(h2:x.fArgs=y.fArgs):x=y:=by
 rw[←ah.eta x,←ah.eta y,h0,h1,h2]
mutual
def ah.enc:ah→List D
 | .mk a0 a1 a2=>[.i .i64 a0,.s a1,.sl (ah.encs a2)]
def ah.encs:List ah→List (List D)
 |[]=>[]
 |x::xs=>x.enc::ah.encs xs
end
theorem ah.jv:∀l,ah.encs l=l.map ah.enc
 |[]=>rfl
 |x::xs=>by rw[ah.encs,List.map_cons,ah.jv xs]
theorem ah.aH(x:ah):x.enc=[.i .i64 x.aU,.s x.fName,.sl (x.fArgs.map ah.enc)]:=by
 cases x;simp only[ah.enc,ah.jv,ah.aU,ah.fName,ah.fArgs]
abbrev ah.v (x:ah):V:=.agg [.d (.i .i64 x.aU),.d (.s x.fName),.d (.sl (x.fArgs.map ah.enc))]
theorem ah.oq(x:ah): .agg (x.enc.map .d)=x.v:=by
 simp only[ah.aH,List.map_cons,List.map_nil,List.cons_append,List.nil_append,List.map_append]
theorem ah.cZ(x:ah):x.enc.length=3:=by
 simp only[ah.aH,List.length_append,List.length_cons,List.length_nil]
def ah.sz(x:ah):Nat:=bL x.enc
theorem ah.dn(x:ah):bL x.enc=x.sz:=rfl
theorem ah.fD(x:ah):SizeOf.sizeOf x.fArgs<SizeOf.sizeOf x:=by cases x;simp[ah.fArgs];omega
structure dS where
 fVar:List UInt8
 fType:ah
def dS.enc(x:dS):List D:=[.s x.fVar]++(x.fType.enc)
theorem dS.aH(x:dS):x.enc=[.s x.fVar]++(x.fType.enc):=rfl
theorem dS.eta(x:dS):dS.mk x.fVar x.fType=x:=rfl
theorem dS.ext'{x y:dS}(h0:x.fVar=y.fVar)(h1:x.fType=y.fType):x=y:=by
 cases x;cases y;simp_all
abbrev dS.v (x:dS):V:=.agg [.d (.s x.fVar),.d (.i .i64 x.fType.aU),.d (.s x.fType.fName),.d (.sl (x.fType.fArgs.map ah.enc))]
theorem dS.oq(x:dS): .agg (x.enc.map .d)=x.v:=by
 simp only[dS.aH,ah.aH,List.map_cons,List.map_nil,List.cons_append,List.nil_append,List.map_append]
theorem dS.cZ(x:dS):x.enc.length=4:=by
 simp only[dS.aH,ah.cZ,List.length_append,List.length_cons,List.length_nil]
def dS.sz(x:dS):Nat:=bL x.enc
theorem dS.dn(x:dS):bL x.enc=x.sz:=rfl
structure bA where
 bI:List UInt8
 fType:ah
def bA.enc(x:bA):List D:=[.s x.bI]++(x.fType.enc)
theorem bA.aH(x:bA):x.enc=[.s x.bI]++(x.fType.enc):=rfl
theorem bA.eta(x:bA):bA.mk x.bI x.fType=x:=rfl
theorem bA.ext'{x y:bA}(h0:x.bI=y.bI)(h1:x.fType=y.fType):x=y:=by
 cases x;cases y;simp_all
abbrev bA.v (x:bA):V:=.agg [.d (.s x.bI),.d (.i .i64 x.fType.aU),.d (.s x.fType.fName),.d (.sl (x.fType.fArgs.map ah.enc))]
theorem bA.oq(x:bA): .agg (x.enc.map .d)=x.v:=by
 simp only[bA.aH,ah.aH,List.map_cons,List.map_nil,List.cons_append,List.nil_append,List.map_append]
theorem bA.cZ(x:bA):x.enc.length=4:=by
 simp only[bA.aH,ah.cZ,List.length_append,List.length_cons,List.length_nil]
def bA.sz(x:bA):Nat:=bL x.enc
theorem bA.dn(x:bA):bL x.enc=x.sz:=rfl
mutual
inductive au where
 |mk (aU:Int) (bI:List UInt8) (fName:List UInt8) (fN:Int) (fType:ah) (fArgs:List au) (aW:List aX)
inductive aX where
 |mk (dw:List UInt8) (aF:List (List UInt8)) (fBody:au)
end
def au.aU:au→Int| .mk x _ _ _ _ _ _=>x
def au.bI:au→List UInt8| .mk _ x _ _ _ _ _=>x
def au.fName:au→List UInt8| .mk _ _ x _ _ _ _=>x
def au.fN:au→Int| .mk _ _ _ x _ _ _=>x
def au.fType:au→ah| .mk _ _ _ _ x _ _=>x
def au.fArgs:au→List au| .mk _ _ _ _ _ x _=>x
def au.aW:au→List aX| .mk _ _ _ _ _ _ x=>x
theorem au.eta(x:au):au.mk x.aU x.bI x.fName x.fN x.fType x.fArgs x.aW=x:=by cases x;rfl
theorem au.ext{x y:au}(h0:x.aU=y.aU)(h1:x.bI=y.bI)(h2:x.fName=y.fName)(h3:x.fN=y.fN)(h4:x.fType=y.fType)(h5:x.fArgs=y.fArgs)(h6:x.aW=y.aW):x=y:=by
 rw[←au.eta x,←au.eta y,h0,h1,h2,h3,h4,h5,h6]
def aX.dw:aX→List UInt8| .mk x _ _=>x
def aX.aF:aX→List (List UInt8)| .mk _ x _=>x
def aX.fBody:aX→au| .mk _ _ x=>x
theorem aX.eta(x:aX):aX.mk x.dw x.aF x.fBody=x:=by cases x;rfl
theorem aX.ext{x y:aX}(h0:x.dw=y.dw)(h1:x.aF=y.aF)(h2:x.fBody=y.fBody):x=y:=by
 rw[←aX.eta x,←aX.eta y,h0,h1,h2]
mutual
def au.enc:au→List D
 | .mk a0 a1 a2 a3 a4 a5 a6=>[.i .i64 a0,.s a1,.s a2,.i .i64 a3]++(a4.enc++([.sl (au.encs a5),.sl (aX.encs a6)]))
def au.encs:List au→List (List D)
 |[]=>[]
 |x::xs=>x.enc::au.encs xs
def aX.enc:aX→List D
 | .mk a0 a1 a2=>[.s a0,.sl (a1.map encS)]++(au.enc a2)
def aX.encs:List aX→List (List D)
 |[]=>[]
 |x::xs=>x.enc::aX.encs xs
end
theorem au.jv:∀l,au.encs l=l.map au.enc
 |[]=>rfl
 |x::xs=>by rw[au.encs,List.map_cons,au.jv xs]
theorem aX.jv:∀l,aX.encs l=l.map aX.enc
 |[]=>rfl
 |x::xs=>by rw[aX.encs,List.map_cons,aX.jv xs]
theorem au.aH(x:au):x.enc=[.i .i64 x.aU,.s x.bI,.s x.fName,.i .i64 x.fN]++(x.fType.enc++([.sl (x.fArgs.map au.enc),.sl (x.aW.map aX.enc)])):=by
 cases x;simp only[au.enc,au.jv,aX.jv,au.aU,au.bI,au.fName,au.fN,au.fType,au.fArgs,au.aW]
theorem aX.aH(x:aX):x.enc=[.s x.dw,.sl (x.aF.map encS)]++(x.fBody.enc):=by
 cases x;simp only[aX.enc,au.jv,aX.jv,aX.dw,aX.aF,aX.fBody]
abbrev au.v (x:au):V:=.agg [.d (.i .i64 x.aU),.d (.s x.bI),.d (.s x.fName),.d (.i .i64 x.fN),.d (.i .i64 x.fType.aU),.d (.s x.fType.fName),.d (.sl (x.fType.fArgs.map ah.enc)),.d (.sl (x.fArgs.map au.enc)),.d (.sl (x.aW.map aX.enc))]
theorem au.oq(x:au): .agg (x.enc.map .d)=x.v:=by
 simp only[au.aH,ah.aH,List.map_cons,List.map_nil,List.cons_append,List.nil_append,List.map_append]
theorem au.cZ(x:au):x.enc.length=9:=by
 simp only[au.aH,ah.cZ,List.length_append,List.length_cons,List.length_nil]
def au.sz(x:au):Nat:=bL x.enc
theorem au.dn(x:au):bL x.enc=x.sz:=rfl
theorem au.fD(x:au):SizeOf.sizeOf x.fArgs<SizeOf.sizeOf x:=by cases x;simp[au.fArgs];omega
theorem au.nu(x:au):SizeOf.sizeOf x.aW<SizeOf.sizeOf x:=by cases x;simp[au.aW];omega
abbrev aX.v (x:aX):V:=.agg [.d (.s x.dw),.d (.sl (x.aF.map encS)),.d (.i .i64 x.fBody.aU),.d (.s x.fBody.bI),.d (.s x.fBody.fName),.d (.i .i64 x.fBody.fN),.d (.i .i64 x.fBody.fType.aU),.d (.s x.fBody.fType.fName),.d (.sl (x.fBody.fType.fArgs.map ah.enc)),.d (.sl (x.fBody.fArgs.map au.enc)),.d (.sl (x.fBody.aW.map aX.enc))]
theorem aX.oq(x:aX): .agg (x.enc.map .d)=x.v:=by
 simp only[aX.aH,au.aH,ah.aH,List.map_cons,List.map_nil,List.cons_append,List.nil_append,List.map_append]
theorem aX.cZ(x:aX):x.enc.length=11:=by
 simp only[aX.aH,au.cZ,List.length_append,List.length_cons,List.length_nil]
def aX.sz(x:aX):Nat:=bL x.enc
theorem aX.dn(x:aX):bL x.enc=x.sz:=rfl
theorem aX.mG(x:aX):SizeOf.sizeOf x.fBody<SizeOf.sizeOf x:=by cases x;simp[aX.fBody];omega
inductive aj where
 |mk (bS:List UInt8) (aY:List aj)
def aj.bS:aj→List UInt8| .mk x _=>x
def aj.aY:aj→List aj| .mk _ x=>x
theorem aj.eta(x:aj):aj.mk x.bS x.aY=x:=by cases x;rfl
theorem aj.ext{x y:aj}(h0:x.bS=y.bS)(h1:x.aY=y.aY):x=y:=by
 rw[←aj.eta x,←aj.eta y,h0,h1]
mutual
def aj.enc:aj→List D
 | .mk a0 a1=>[.s a0,.sl (aj.encs a1)]
def aj.encs:List aj→List (List D)
 |[]=>[]
 |x::xs=>x.enc::aj.encs xs
end
theorem aj.jv:∀l,aj.encs l=l.map aj.enc
 |[]=>rfl
 |x::xs=>by rw[aj.encs,List.map_cons,aj.jv xs]
theorem aj.aH(x:aj):x.enc=[.s x.bS,.sl (x.aY.map aj.enc)]:=by
 cases x;simp only[aj.enc,aj.jv,aj.bS,aj.aY]
abbrev aj.v (x:aj):V:=.agg [.d (.s x.bS),.d (.sl (x.aY.map aj.enc))]
theorem aj.oq(x:aj): .agg (x.enc.map .d)=x.v:=by
 simp only[aj.aH,List.map_cons,List.map_nil,List.cons_append,List.nil_append,List.map_append]
theorem aj.cZ(x:aj):x.enc.length=2:=by
 simp only[aj.aH,List.length_append,List.length_cons,List.length_nil]
def aj.sz(x:aj):Nat:=bL x.enc
theorem aj.dn(x:aj):bL x.enc=x.sz:=rfl
theorem aj.Ig(x:aj):SizeOf.sizeOf x.aY<SizeOf.sizeOf x:=by cases x;simp[aj.aY];omega
structure aS where
 fName:List UInt8
 aZ:List ah
 bT:ah
 ig:Bool
 aF:List (List UInt8)
 fBody:au
def aS.enc(x:aS):List D:=[.s x.fName,.sl (x.aZ.map ah.enc)]++(x.bT.enc++([.b x.ig,.sl (x.aF.map encS)]++(x.fBody.enc)))
theorem aS.aH(x:aS):x.enc=[.s x.fName,.sl (x.aZ.map ah.enc)]++(x.bT.enc++([.b x.ig,.sl (x.aF.map encS)]++(x.fBody.enc))):=rfl
theorem aS.eta(x:aS):aS.mk x.fName x.aZ x.bT x.ig x.aF x.fBody=x:=rfl
theorem aS.ext'{x y:aS}(h0:x.fName=y.fName)(h1:x.aZ=y.aZ)(h2:x.bT=y.bT)(h3:x.ig=y.ig)(h4:x.aF=y.aF)(h5:x.fBody=y.fBody):x=y:=by
 cases x;cases y;simp_all
abbrev aS.v (x:aS):V:=.agg [.d (.s x.fName),.d (.sl (x.aZ.map ah.enc)),.d (.i .i64 x.bT.aU),.d (.s x.bT.fName),.d (.sl (x.bT.fArgs.map ah.enc)),.d (.b x.ig),.d (.sl (x.aF.map encS)),.d (.i .i64 x.fBody.aU),.d (.s x.fBody.bI),.d (.s x.fBody.fName),.d (.i .i64 x.fBody.fN),.d (.i .i64 x.fBody.fType.aU),.d (.s x.fBody.fType.fName),.d (.sl (x.fBody.fType.fArgs.map ah.enc)),.d (.sl (x.fBody.fArgs.map au.enc)),.d (.sl (x.fBody.aW.map aX.enc))]
theorem aS.oq(x:aS): .agg (x.enc.map .d)=x.v:=by
 simp only[aS.aH,au.aH,ah.aH,List.map_cons,List.map_nil,List.cons_append,List.nil_append,List.map_append]
theorem aS.cZ(x:aS):x.enc.length=16:=by
 simp only[aS.aH,au.cZ,ah.cZ,List.length_append,List.length_cons,List.length_nil]
def aS.sz(x:aS):Nat:=bL x.enc
theorem aS.dn(x:aS):bL x.enc=x.sz:=rfl
structure bg where
 fName:List UInt8
 bE:List (List UInt8)
 nL:Bool
 bQ:Bool
 aA:List aS
def bg.enc(x:bg):List D:=[.s x.fName,.sl (x.bE.map encS),.b x.nL,.b x.bQ,.sl (x.aA.map aS.enc)]
theorem bg.aH(x:bg):x.enc=[.s x.fName,.sl (x.bE.map encS),.b x.nL,.b x.bQ,.sl (x.aA.map aS.enc)]:=rfl
theorem bg.eta(x:bg):bg.mk x.fName x.bE x.nL x.bQ x.aA=x:=rfl
theorem bg.ext'{x y:bg}(h0:x.fName=y.fName)(h1:x.bE=y.bE)(h2:x.nL=y.nL)(h3:x.bQ=y.bQ)(h4:x.aA=y.aA):x=y:=by
 cases x;cases y;simp_all
abbrev bg.v (x:bg):V:=.agg [.d (.s x.fName),.d (.sl (x.bE.map encS)),.d (.b x.nL),.d (.b x.bQ),.d (.sl (x.aA.map aS.enc))]
theorem bg.oq(x:bg): .agg (x.enc.map .d)=x.v:=by
 simp only[bg.aH,List.map_cons,List.map_nil,List.cons_append,List.nil_append,List.map_append]
theorem bg.cZ(x:bg):x.enc.length=5:=by
 simp only[bg.aH,List.length_append,List.length_cons,List.length_nil]
def bg.sz(x:bg):Nat:=bL x.enc
theorem bg.dn(x:bg):bL x.enc=x.sz:=rfl
structure aO where
 fName:List UInt8
 eO:List ah
def aO.enc(x:aO):List D:=[.s x.fName,.sl (x.eO.map ah.enc)]
theorem aO.aH(x:aO):x.enc=[.s x.fName,.sl (x.eO.map ah.enc)]:=rfl
theorem aO.eta(x:aO):aO.mk x.fName x.eO=x:=rfl
theorem aO.ext'{x y:aO}(h0:x.fName=y.fName)(h1:x.eO=y.eO):x=y:=by
 cases x;cases y;simp_all
abbrev aO.v (x:aO):V:=.agg [.d (.s x.fName),.d (.sl (x.eO.map ah.enc))]
theorem aO.oq(x:aO): .agg (x.enc.map .d)=x.v:=by
 simp only[aO.aH,List.map_cons,List.map_nil,List.cons_append,List.nil_append,List.map_append]
theorem aO.cZ(x:aO):x.enc.length=2:=by
 simp only[aO.aH,List.length_append,List.length_cons,List.length_nil]
def aO.sz(x:aO):Nat:=bL x.enc
theorem aO.dn(x:aO):bL x.enc=x.sz:=rfl
structure aN where
 fName:List UInt8
 aF:List (List UInt8)
 aG:List aO
def aN.enc(x:aN):List D:=[.s x.fName,.sl (x.aF.map encS),.sl (x.aG.map aO.enc)]
theorem aN.aH(x:aN):x.enc=[.s x.fName,.sl (x.aF.map encS),.sl (x.aG.map aO.enc)]:=rfl
theorem aN.eta(x:aN):aN.mk x.fName x.aF x.aG=x:=rfl
theorem aN.ext'{x y:aN}(h0:x.fName=y.fName)(h1:x.aF=y.aF)(h2:x.aG=y.aG):x=y:=by
 cases x;cases y;simp_all
abbrev aN.v (x:aN):V:=.agg [.d (.s x.fName),.d (.sl (x.aF.map encS)),.d (.sl (x.aG.map aO.enc))]
theorem aN.oq(x:aN): .agg (x.enc.map .d)=x.v:=by
 simp only[aN.aH,List.map_cons,List.map_nil,List.cons_append,List.nil_append,List.map_append]
theorem aN.cZ(x:aN):x.enc.length=3:=by
 simp only[aN.aH,List.length_append,List.length_cons,List.length_nil]
def aN.sz(x:aN):Nat:=bL x.enc
theorem aN.dn(x:aN):bL x.enc=x.sz:=rfl
structure bB where
 fName:List UInt8
 aF:List (List UInt8)
 fBody:au
def bB.enc(x:bB):List D:=[.s x.fName,.sl (x.aF.map encS)]++(x.fBody.enc)
theorem bB.aH(x:bB):x.enc=[.s x.fName,.sl (x.aF.map encS)]++(x.fBody.enc):=rfl
theorem bB.eta(x:bB):bB.mk x.fName x.aF x.fBody=x:=rfl
theorem bB.ext'{x y:bB}(h0:x.fName=y.fName)(h1:x.aF=y.aF)(h2:x.fBody=y.fBody):x=y:=by
 cases x;cases y;simp_all
abbrev bB.v (x:bB):V:=.agg [.d (.s x.fName),.d (.sl (x.aF.map encS)),.d (.i .i64 x.fBody.aU),.d (.s x.fBody.bI),.d (.s x.fBody.fName),.d (.i .i64 x.fBody.fN),.d (.i .i64 x.fBody.fType.aU),.d (.s x.fBody.fType.fName),.d (.sl (x.fBody.fType.fArgs.map ah.enc)),.d (.sl (x.fBody.fArgs.map au.enc)),.d (.sl (x.fBody.aW.map aX.enc))]
theorem bB.oq(x:bB): .agg (x.enc.map .d)=x.v:=by
 simp only[bB.aH,au.aH,ah.aH,List.map_cons,List.map_nil,List.cons_append,List.nil_append,List.map_append]
theorem bB.cZ(x:bB):x.enc.length=11:=by
 simp only[bB.aH,au.cZ,List.length_append,List.length_cons,List.length_nil]
def bB.sz(x:bB):Nat:=bL x.enc
theorem bB.dn(x:bB):bL x.enc=x.sz:=rfl
structure aP where
 bI:List UInt8
 aF:List (List UInt8)
 bU:ah
 bX:List bA
 iR:Bool
 fq:Bool
 bQ:ah
 aL:List bB
def aP.enc(x:aP):List D:=[.s x.bI,.sl (x.aF.map encS)]++(x.bU.enc++([.sl (x.bX.map bA.enc),.b x.iR,.b x.fq]++(x.bQ.enc++([.sl (x.aL.map bB.enc)]))))
theorem aP.aH(x:aP):x.enc=[.s x.bI,.sl (x.aF.map encS)]++(x.bU.enc++([.sl (x.bX.map bA.enc),.b x.iR,.b x.fq]++(x.bQ.enc++([.sl (x.aL.map bB.enc)])))):=rfl
theorem aP.eta(x:aP):aP.mk x.bI x.aF x.bU x.bX x.iR x.fq x.bQ x.aL=x:=rfl
theorem aP.ext'{x y:aP}(h0:x.bI=y.bI)(h1:x.aF=y.aF)(h2:x.bU=y.bU)(h3:x.bX=y.bX)(h4:x.iR=y.iR)(h5:x.fq=y.fq)(h6:x.bQ=y.bQ)(h7:x.aL=y.aL):x=y:=by
 cases x;cases y;simp_all
abbrev aP.v (x:aP):V:=.agg [.d (.s x.bI),.d (.sl (x.aF.map encS)),.d (.i .i64 x.bU.aU),.d (.s x.bU.fName),.d (.sl (x.bU.fArgs.map ah.enc)),.d (.sl (x.bX.map bA.enc)),.d (.b x.iR),.d (.b x.fq),.d (.i .i64 x.bQ.aU),.d (.s x.bQ.fName),.d (.sl (x.bQ.fArgs.map ah.enc)),.d (.sl (x.aL.map bB.enc))]
theorem aP.oq(x:aP): .agg (x.enc.map .d)=x.v:=by
 simp only[aP.aH,ah.aH,List.map_cons,List.map_nil,List.cons_append,List.nil_append,List.map_append]
theorem aP.cZ(x:aP):x.enc.length=12:=by
 simp only[aP.aH,ah.cZ,List.length_append,List.length_cons,List.length_nil]
def aP.sz(x:aP):Nat:=bL x.enc
theorem aP.dn(x:aP):bL x.enc=x.sz:=rfl
structure bG where
 fName:List UInt8
 fType:ah
def bG.enc(x:bG):List D:=[.s x.fName]++(x.fType.enc)
theorem bG.aH(x:bG):x.enc=[.s x.fName]++(x.fType.enc):=rfl
theorem bG.eta(x:bG):bG.mk x.fName x.fType=x:=rfl
theorem bG.ext'{x y:bG}(h0:x.fName=y.fName)(h1:x.fType=y.fType):x=y:=by
 cases x;cases y;simp_all
abbrev bG.v (x:bG):V:=.agg [.d (.s x.fName),.d (.i .i64 x.fType.aU),.d (.s x.fType.fName),.d (.sl (x.fType.fArgs.map ah.enc))]
theorem bG.oq(x:bG): .agg (x.enc.map .d)=x.v:=by
 simp only[bG.aH,ah.aH,List.map_cons,List.map_nil,List.cons_append,List.nil_append,List.map_append]
theorem bG.cZ(x:bG):x.enc.length=4:=by
 simp only[bG.aH,ah.cZ,List.length_append,List.length_cons,List.length_nil]
def bG.sz(x:bG):Nat:=bL x.enc
theorem bG.dn(x:bG):bL x.enc=x.sz:=rfl
structure aR where
 fName:List UInt8
 aF:List (List UInt8)
 bX:List bA
 aZ:List bG
 bT:ah
 fBody:au
def aR.enc(x:aR):List D:=[.s x.fName,.sl (x.aF.map encS),.sl (x.bX.map bA.enc),.sl (x.aZ.map bG.enc)]++(x.bT.enc++(x.fBody.enc))
theorem aR.aH(x:aR):x.enc=[.s x.fName,.sl (x.aF.map encS),.sl (x.bX.map bA.enc),.sl (x.aZ.map bG.enc)]++(x.bT.enc++(x.fBody.enc)):=rfl
theorem aR.eta(x:aR):aR.mk x.fName x.aF x.bX x.aZ x.bT x.fBody=x:=rfl
theorem aR.ext'{x y:aR}(h0:x.fName=y.fName)(h1:x.aF=y.aF)(h2:x.bX=y.bX)(h3:x.aZ=y.aZ)(h4:x.bT=y.bT)(h5:x.fBody=y.fBody):x=y:=by
 cases x;cases y;simp_all
abbrev aR.v (x:aR):V:=.agg [.d (.s x.fName),.d (.sl (x.aF.map encS)),.d (.sl (x.bX.map bA.enc)),.d (.sl (x.aZ.map bG.enc)),.d (.i .i64 x.bT.aU),.d (.s x.bT.fName),.d (.sl (x.bT.fArgs.map ah.enc)),.d (.i .i64 x.fBody.aU),.d (.s x.fBody.bI),.d (.s x.fBody.fName),.d (.i .i64 x.fBody.fN),.d (.i .i64 x.fBody.fType.aU),.d (.s x.fBody.fType.fName),.d (.sl (x.fBody.fType.fArgs.map ah.enc)),.d (.sl (x.fBody.fArgs.map au.enc)),.d (.sl (x.fBody.aW.map aX.enc))]
theorem aR.oq(x:aR): .agg (x.enc.map .d)=x.v:=by
 simp only[aR.aH,au.aH,ah.aH,List.map_cons,List.map_nil,List.cons_append,List.nil_append,List.map_append]
theorem aR.cZ(x:aR):x.enc.length=16:=by
 simp only[aR.aH,au.cZ,ah.cZ,List.length_append,List.length_cons,List.length_nil]
def aR.sz(x:aR):Nat:=bL x.enc
theorem aR.dn(x:aR):bL x.enc=x.sz:=rfl
structure aV where
 fName:List UInt8
 dY:List (List UInt8)
 aK:List bg
 ak:List aN
 aJ:List aP
 aM:List aR
def aV.enc(x:aV):List D:=[.s x.fName,.sl (x.dY.map encS),.sl (x.aK.map bg.enc),.sl (x.ak.map aN.enc),.sl (x.aJ.map aP.enc),.sl (x.aM.map aR.enc)]
theorem aV.aH(x:aV):x.enc=[.s x.fName,.sl (x.dY.map encS),.sl (x.aK.map bg.enc),.sl (x.ak.map aN.enc),.sl (x.aJ.map aP.enc),.sl (x.aM.map aR.enc)]:=rfl
theorem aV.eta(x:aV):aV.mk x.fName x.dY x.aK x.ak x.aJ x.aM=x:=rfl
theorem aV.ext'{x y:aV}(h0:x.fName=y.fName)(h1:x.dY=y.dY)(h2:x.aK=y.aK)(h3:x.ak=y.ak)(h4:x.aJ=y.aJ)(h5:x.aM=y.aM):x=y:=by
 cases x;cases y;simp_all
abbrev aV.v (x:aV):V:=.agg [.d (.s x.fName),.d (.sl (x.dY.map encS)),.d (.sl (x.aK.map bg.enc)),.d (.sl (x.ak.map aN.enc)),.d (.sl (x.aJ.map aP.enc)),.d (.sl (x.aM.map aR.enc))]
theorem aV.oq(x:aV): .agg (x.enc.map .d)=x.v:=by
 simp only[aV.aH,List.map_cons,List.map_nil,List.cons_append,List.nil_append,List.map_append]
theorem aV.cZ(x:aV):x.enc.length=6:=by
 simp only[aV.aH,List.length_append,List.length_cons,List.length_nil]
def aV.sz(x:aV):Nat:=bL x.enc
theorem aV.dn(x:aV):bL x.enc=x.sz:=rfl
structure eB where
 nW:List aV
def eB.enc(x:eB):List D:=[.sl (x.nW.map aV.enc)]
theorem eB.aH(x:eB):x.enc=[.sl (x.nW.map aV.enc)]:=rfl
theorem eB.eta(x:eB):eB.mk x.nW=x:=rfl
theorem eB.ext'{x y:eB}(h0:x.nW=y.nW):x=y:=by
 cases x;cases y;simp_all
abbrev eB.v (x:eB):V:=.agg [.d (.sl (x.nW.map aV.enc))]
theorem eB.oq(x:eB): .agg (x.enc.map .d)=x.v:=by
 simp only[eB.aH,List.map_cons,List.map_nil,List.cons_append,List.nil_append,List.map_append]
theorem eB.cZ(x:eB):x.enc.length=1:=by
 simp only[eB.aH,List.length_append,List.length_cons,List.length_nil]
def eB.sz(x:eB):Nat:=bL x.enc
theorem eB.dn(x:eB):bL x.enc=x.sz:=rfl
structure dM where
 uW:Int
 PV:Int
def dM.enc(x:dM):List D:=[.i .i64 x.uW,.i .i64 x.PV]
theorem dM.aH(x:dM):x.enc=[.i .i64 x.uW,.i .i64 x.PV]:=rfl
theorem dM.eta(x:dM):dM.mk x.uW x.PV=x:=rfl
theorem dM.ext'{x y:dM}(h0:x.uW=y.uW)(h1:x.PV=y.PV):x=y:=by
 cases x;cases y;simp_all
abbrev dM.v (x:dM):V:=.agg [.d (.i .i64 x.uW),.d (.i .i64 x.PV)]
theorem dM.oq(x:dM): .agg (x.enc.map .d)=x.v:=by
 simp only[dM.aH,List.map_cons,List.map_nil,List.cons_append,List.nil_append,List.map_append]
theorem dM.cZ(x:dM):x.enc.length=2:=by
 simp only[dM.aH,List.length_append,List.length_cons,List.length_nil]
def dM.sz(x:dM):Nat:=bL x.enc
theorem dM.dn(x:dM):bL x.enc=x.sz:=rfl
attribute [go_sem] ah.aH dS.aH bA.aH au.aH aX.aH aj.aH aS.aH bg.aH aO.aH aN.aH bB.aH aP.aH bG.aH aR.aH aV.aH eB.aH dM.aH encS encI
end Go.Ab
namespace Go.Ab
def PW:List dS→List UInt8→Option ah
 |[],_=>none
 |b::bs,v=>if b.fVar=v then some b.fType else PW bs v
mutual
noncomputable def xU(s:List dS):ah→ah→Option (List dS)
 | .mk k n a,t=>
   if k=1 then
    match PW s n with
    |some u=>if dec (u=t)=true then some s else none
    |none=>some (s++[⟨n,t⟩])
   else if k=t.aU∧n=t.fName∧a.length=t.fArgs.length then rU s a t.fArgs else none
noncomputable def rU(s:List dS):List ah→List ah→Option (List dS)
 |[],_=>some s
 |_::_,[]=>none
 |p::ps,t::ts=>
  match xU s p t with
  |some s'=>rU s' ps ts
  |none=>none
end
mutual
def ah.cnt:ah→Nat
 | .mk _ _ a=>1+ah.dQ a
def ah.dQ:List ah→Nat
 |[]=>0
 |t::ts=>t.cnt+ah.dQ ts
end
theorem ah.mR(t:ah):t.cnt=1+ah.dQ t.fArgs:=by cases t;rw[ah.cnt];rfl
mutual
theorem jU:∀t:ah,t.cnt≤1+t.sz
 | .mk k n a=>by
   have h:=sN a
   rw[ah.cnt]
   have e:(ah.mk k n a).sz=n.length+(a.length+aI (a.map ah.enc)):=by
    simp only[ah.sz,ah.aH,bL,D.sz,List.length_map,ah.fName,ah.fArgs,Nat.add_zero,Nat.zero_add]
   omega
theorem sN:∀ts:List ah,ah.dQ ts≤ts.length+aI (ts.map ah.enc)
 |[]=>by simp[ah.dQ]
 |t::ts=>by
  have h1:=jU t
  have h2:=sN ts
  rw[ah.dQ,List.length_cons,List.map_cons,aI,ah.dn]
  omega
end
mutual
theorem Rx:∀(p:ah) (s:List dS) (t:ah) (s':List dS),xU s p t=some s'→s'.length≤s.length+p.cnt
 | .mk k n a,s,t,s',h=>by
   rw[xU] at h
   rw[ah.cnt]
   split at h
   ·split at h
    ·split at h
     ·cases h;omega
     ·cases h
    ·cases h;simp
   ·split at h
    ·have:=FJ a s t.fArgs s' h;omega
    ·cases h
theorem FJ:∀(ps:List ah) (s:List dS) (ts:List ah) (s':List dS),rU s ps ts=some s'→s'.length≤s.length+ah.dQ ps
 |[],s,ts,s',h=>by rw[rU] at h;cases h;omega
 |p::ps,s,[],s',h=>by rw[rU] at h;cases h
 |p::ps,s,t::ts,s',h=>by
  rw[rU] at h
  rw[ah.dQ]
  cases hm:xU s p t with
  |none=>rw[hm] at h;cases h
  |some s1=>
   rw[hm] at h
   have h1:=Rx p s t s1 hm
   have h2:=FJ ps s1 ts s' h
   omega
end
def Small(s:List dS):Prop:=∀b∈s,b.fType.sz≤4194304
mutual
theorem MB:∀(p:ah) (s:List dS) (t:ah) (s':List dS),t.sz≤4194304→Small s→xU s p t=some s'→Small s'
 | .mk k n a,s,t,s',ht,hs,h=>by
   rw[xU] at h
   split at h
   ·split at h
    ·split at h
     ·cases h;exact hs
     ·cases h
    ·cases h
     intro b hb
     rcases List.mem_append.1 hb with hb|hb
     ·exact hs b hb
     ·simp at hb;subst hb;exact ht
   ·split at h
    ·refine BG a s t.fArgs s' ?_ hs h
     intro x hx
     have h1:=bD (List.mem_map_of_mem (f:=ah.enc) hx)
     have h2:t.sz=t.fName.length+(t.fArgs.length+aI (t.fArgs.map ah.enc)):=by
      simp only[ah.sz,ah.aH,bL,bf,D.sz,List.length_map,Nat.add_zero,Nat.zero_add]
     rw[ah.dn] at h1
     omega
    ·cases h
theorem BG:∀(ps:List ah) (s:List dS) (ts:List ah) (s':List dS),(∀t∈ts,t.sz≤4194304)→Small s→rU s ps ts=some s'→Small s'
 |[],s,ts,s',ht,hs,h=>by rw[rU] at h;cases h;exact hs
 |p::ps,s,[],s',ht,hs,h=>by rw[rU] at h;cases h
 |p::ps,s,t::ts,s',ht,hs,h=>by
  rw[rU] at h
  cases hm:xU s p t with
  |none=>rw[hm] at h;cases h
  |some s1=>
   rw[hm] at h
   exact BG ps s1 ts s' (fun x hx=>ht x (by simp[hx])) (MB p s t s1 (ht t (by simp)) hs hm) h
end
end Go.Ab
namespace Go.Ab
def lowerB(b:UInt8):Prop:=97≤b.toNat∧b.toNat≤122
def oN(b:UInt8):Prop:=48≤b.toNat∧b.toNat≤57
def MC(s:List UInt8):Prop:=∀i,i<s.length→lowerB (s.getD i 0)∨(i≠0∧oN (s.getD i 0))
def reserved:List (List UInt8):=[[105,110,116],[98,111,111,108],[97,115,115,111,99],[100,121,110],[105,102],[108,101,116],[99,97,115,101],[110,101,119],[109,101,116,104,111,100],[112,97,99,107],[116,114,117,101],[102,97,108,115,101]]
noncomputable def validName(s:List UInt8):Bool:=dec ((1≤s.length∧s.length≤8)∧s∉reserved∧MC s)
noncomputable def sw(s:List UInt8):Bool:=dec (s=[105,110,116]∨s=[98,111,111,108])
noncomputable def rV(xs:List (List UInt8))(s:List UInt8):Int:=if s∈xs then((xs.findIdx fun x=>dec (x=s):Nat):Int) else -1
theorem OC{xs:List (List UInt8)}{s:List UInt8}{i:Nat}(hi:i<xs.length)(hj:∀j,j<i→xs.getD j []≠s)(h:xs.getD i []=s):rV xs s=i:=by
 have e:∀j,∀hj:j<xs.length,xs.getD j []=xs[j]:=fun j hj=>by simp[List.getD,hj]
 have hm:s∈xs:=by rw[←h,e i hi];exact List.getElem_mem hi
 unfold rV
 rw[if_pos hm]
 congr 1
 rw[List.findIdx_eq hi]
 exact⟨bq (by rw[←e i hi];exact h),fun j hji=>aC (by rw[←e j (by omega)];exact hj j hji)⟩
theorem UF{xs:List (List UInt8)}{s:List UInt8}(hj:∀j,j<xs.length→xs.getD j []≠s):rV xs s= -1:=by
 unfold rV
 refine if_neg fun hm=> ?_
 obtain⟨j,h1,h2⟩:=List.getElem_of_mem hm
 exact hj j h1 (by simp[List.getD,h1,h2])
theorem FK{xs:List (List UInt8)}{s:List UInt8}:decide (rV xs s≥0)=dec (s∈xs):=by
 rw[lU]
 refine gN ?_
 unfold rV
 split
 ·rename_i h;exact⟨fun _=>h,fun _=>by omega⟩
 ·rename_i h;exact⟨fun x=>by omega,fun x=>absurd x h⟩
def oO{α:Type}(p:α→Bool)(xs:List α):Int:=if xs.any p then((xs.findIdx p:Nat):Int) else -1
theorem ou{α:Type}{p:α→Bool}{xs:List α}{i:Nat}(hi:i<xs.length)(hj:∀j,∀hj:j<xs.length,j<i→p xs[j]=false)(h:p xs[i]=true):oO p xs=i:=by
 unfold oO
 rw[if_pos (List.any_eq_true.2 ⟨xs[i],List.getElem_mem hi,h⟩)]
 congr 1
 rw[List.findIdx_eq hi]
 exact⟨h,fun j hji=>hj j (by omega) hji⟩
theorem qP{α:Type}{p:α→Bool}{xs:List α}(hj:∀j,∀hj:j<xs.length,p xs[j]=false):oO p xs= -1:=by
 unfold oO
 refine if_neg fun h=> ?_
 obtain⟨x,hx,hp⟩:=List.any_eq_true.1 h
 obtain⟨j,h1,h2⟩:=List.getElem_of_mem hx
 rw[←h2,hj j h1] at hp
 cases hp
theorem pK{α:Type}{p:α→Bool}{xs:List α}:decide (oO p xs≥0)=xs.any p:=by
 unfold oO
 cases h:xs.any p with
 |true=>simp
 |false=>simp
noncomputable def wU(k:Int)(n:List UInt8)(len:Nat):Bool:=
 dec ((k=1∨k=4)∧validName n=true∧len=0∨k=3∧validName n=true∧len=1∨k=2∧(validName n=true∧len≤3∨sw n=true∧len=0))
mutual
noncomputable def formed:ah→Bool
 | .mk k n a=>wU k n a.length&&iP a
noncomputable def iP:List ah→Bool
 |[]=>true
 |t::ts=>formed t&&iP ts
end
theorem sO(t:ah):formed t=(wU t.aU t.fName t.fArgs.length&&iP t.fArgs):=by cases t;rw[formed];rfl
theorem rW:∀{ts:List ah},iP ts=true↔∀t∈ts,formed t=true
 |[]=>by simp[iP]
 |t::ts=>by simp[iP,rW (ts:=ts)]
theorem DF:∀{ts:List ah},(ts.any fun t=> !formed t)= !iP ts
 |[]=>rfl
 |t::ts=>by rw[List.any_cons,DF (ts:=ts),iP];simp
mutual
def kQ:ah→Nat
 | .mk _ _ a=>depths a
def depths:List ah→Nat
 |[]=>0
 |t::ts=>max (kQ t+1) (depths ts)
end
theorem Jv(t:ah):kQ t=depths t.fArgs:=by cases t;rw[kQ];rfl
mutual
theorem vT:∀t:ah,kQ t+1≤t.cnt
 | .mk k n a=>by
   have:=Jw a
   rw[kQ,ah.cnt];omega
theorem Jw:∀ts:List ah,depths ts≤ah.dQ ts
 |[]=>by simp[depths]
 |t::ts=>by
  have h1:=vT t
  have h2:=Jw ts
  rw[depths,ah.dQ]
  omega
end
noncomputable def kZ(t:ah):Bool:=dec (formed t=true∧kQ t≤6∧t.cnt≤60)
end Go.Ab
namespace Go.Ab
mutual
def mU:ah→List ah
 | .mk k n a=>.mk k n a::lZ a
def lZ:List ah→List ah
 |[]=>[]
 |t::ts=>mU t++lZ ts
end
theorem vU(t:ah):mU t=t::lZ t.fArgs:=by cases t;rw[mU];rfl
theorem vG{ts:List ah}{i:Nat}(hi:i<ts.length):lZ (ts.drop i)=mU ts[i]++lZ (ts.drop (i+1)):=by rw[List.drop_eq_getElem_cons hi,lZ]
mutual
theorem BH:∀t:ah,(mU t).length=t.cnt
 | .mk k n a=>by rw[mU,List.length_cons,ah.cnt,FL a];omega
theorem FL:∀ts:List ah,(lZ ts).length=ah.dQ ts
 |[]=>rfl
 |t::ts=>by rw[lZ,List.length_append,ah.dQ,BH t,FL ts]
end
def qE(out:List (List UInt8))(u:ah):List (List UInt8):=if u.aU=1∧u.fName∉out then out++[u.fName] else out
def iw(out:List (List UInt8))(t:ah):List (List UInt8):=(mU t).foldl qE out
def p9(out:List (List UInt8))(ts:List ah):List (List UInt8):=(lZ ts).foldl qE out
theorem Eh(out:List (List UInt8))(u:ah):(qE out u).length≤out.length+1:=by
 unfold qE
 split<;>simp
theorem Jy:∀(us:List ah) (out:List (List UInt8)),(us.foldl qE out).length≤out.length+us.length
 |[],out=>by simp
 |u::us,out=>by
  have h1:=Eh out u
  have h2:=Jy us (qE out u)
  rw[List.foldl_cons,List.length_cons]
  omega
theorem vV(t:ah)(out:List (List UInt8)):(iw out t).length≤out.length+t.cnt:=by
 have:=Jy (mU t) out
 rw[BH] at this
 exact this
theorem Xo(out:List (List UInt8))(t:ah):iw out t=p9 (qE out t) t.fArgs:=by
 unfold iw p9
 rw[vU,List.foldl_cons]
theorem DI{ts:List ah}{i:Nat}(hi:i<ts.length)(out:List (List UInt8)):p9 out (ts.drop i)=p9 (iw out ts[i]) (ts.drop (i+1)):=by
 unfold p9 iw
 rw[vG hi,List.foldl_append]
def nP(t:ah):Bool:=(mU t).any fun u=>decide (u.aU=3)
def qQ(ts:List ah):Bool:=(lZ ts).any fun u=>decide (u.aU=3)
theorem Ak(t:ah):nP t=(decide (t.aU=3)||qQ t.fArgs):=by
 unfold nP qQ
 rw[vU,List.any_cons]
theorem Kj{ts:List ah}{i:Nat}(hi:i<ts.length):qQ (ts.drop i)=(nP ts[i]||qQ (ts.drop (i+1))):=by
 unfold qQ nP
 rw[vG hi,List.any_append]
theorem ME(us:List ah):∀b:Bool,us.foldl (fun b u=>b||decide (u.aU=3)) b=(b||us.any fun u=>decide (u.aU=3)):=by
 induction us with
 |nil=>intro b;simp
 |cons u us ih=>intro b;rw[List.foldl_cons,ih,List.any_cons,Bool.or_assoc]
def FM(v:List UInt8)(u:ah):Bool:=decide (u.aU=1∧u.fName=v)
def nE(v:List UInt8)(t:ah):Nat:=(mU t).countP (FM v)
def rD(v:List UInt8)(ts:List ah):Nat:=(lZ ts).countP (FM v)
theorem UG(v:List UInt8)(t:ah):nE v t=(if FM v t then 1 else 0)+rD v t.fArgs:=by
 unfold nE rD
 rw[vU,List.countP_cons]
 omega
theorem MF{v:List UInt8}{ts:List ah}{i:Nat}(hi:i<ts.length):rD v (ts.drop i)=nE v ts[i]+rD v (ts.drop (i+1)):=by
 unfold rD nE
 rw[vG hi,List.countP_append]
theorem UH(v:List UInt8)(t:ah):nE v t≤t.cnt:=by
 unfold nE
 rw[←BH]
 exact List.countP_le_length
def occurs(v:List UInt8)(t:ah):Bool:=decide (0<nE v t)
end Go.Ab
namespace Go.Proofs.YtcfhnaohbaplhaaGreatDoor.Fa
open Go Go.Ab
abbrev dI (t c b:Nat) (z:List C):Prop:=Tryz.prog.cellsOf t=c∧Tryz.prog.bytesOf t=b∧(Tryz.prog.info? t).isSome=true∧jE Tryz.prog t=some z
theorem dK{t c b:Nat}{z:List C}(h1:Tryz.prog.cellsOf t=c:=by kernel_rfl)(h2:Tryz.prog.bytesOf t=b:=by kernel_rfl)(h3:(Tryz.prog.info? t).isSome=true:=by kernel_rfl)(h4:jE Tryz.prog t=some z:=by kernel_rfl):dI t c b z:=⟨h1,h2,h3,h4⟩
theorem ty1:dI 1 1 8 [.d (.o .nilFunc)]:=dK
theorem ty2:dI 2 1 8 [.d (.i .i64 0)]:=dK
theorem ty3:dI 3 1 8 [.d (.i .i64 0)]:=dK
theorem ty4:dI 4 1 1 [.d (.b false)]:=dK
theorem acg:zeroV Tryz.prog 4=some (.bool false):=by kernel_rfl
theorem ty5:dI 5 1 1 [.d (.i .u8 0)]:=dK
theorem ty9:dI 9 1 16 [.d (.s [])]:=dK
theorem ad5:dI 12 1 8 [.d (.i .u64 0)]:=dK
theorem ad6:dI 20 1 16 [.d (.o .nilIface)]:=dK
theorem ad7:dI 21 1 4 [.d (.i .i32 0)]:=dK
theorem ad8:dI 22 1 24 [.bC []]:=dK
theorem ad9:dI 23 3 48 [.d (.i .i64 0),.d (.s []),.bC []]:=dK
theorem aea:dI 24 3 48 [.d (.i .i64 0),.d (.s []),.bC []]:=dK
theorem aeb:dI 25 1 24 [.bC []]:=dK
theorem aec:dI 26 1 24 [.bC []]:=dK
theorem aed:dI 27 9 144 [.d (.i .i64 0),.d (.s []),.d (.s []),.d (.i .i64 0),.d (.i .i64 0),.d (.s []),.bC [],.bC [],.bC []]:=dK
theorem aee:dI 28 9 144 [.d (.i .i64 0),.d (.s []),.d (.s []),.d (.i .i64 0),.d (.i .i64 0),.d (.s []),.bC [],.bC [],.bC []]:=dK
theorem aef:dI 29 1 8 [.d (.o .nilFunc)]:=dK
theorem aeg:dI 30 1 8 [.d (.o .nilFunc)]:=dK
theorem aeh:dI 31 1 24 [.bC []]:=dK
theorem aei:dI 32 3 48 [.d (.i .i64 0),.d (.s []),.bC []]:=dK
theorem aej:dI 33 3 48 [.d (.i .i64 0),.d (.s []),.bC []]:=dK
theorem aek:dI 34 1 24 [.bC []]:=dK
theorem ael:dI 35 1 24 [.bC []]:=dK
theorem aem:dI 36 9 144 [.d (.i .i64 0),.d (.s []),.d (.s []),.d (.i .i64 0),.d (.i .i64 0),.d (.s []),.bC [],.bC [],.bC []]:=dK
theorem aen:dI 37 9 144 [.d (.i .i64 0),.d (.s []),.d (.s []),.d (.i .i64 0),.d (.i .i64 0),.d (.s []),.bC [],.bC [],.bC []]:=dK
theorem aeo:dI 38 1 8 [.d (.o .nilFunc)]:=dK
theorem aep:dI 39 1 8 [.d (.o .nilFunc)]:=dK
theorem aer:dI 40 1 8 [.d (.o .nilFunc)]:=dK
theorem aes:dI 41 1 24 [.bC []]:=dK
theorem aeu:dI 42 1 24 [.bC []]:=dK
theorem aev:dI 43 1 24 [.bC []]:=dK
theorem aew:dI 44 1 24 [.bC []]:=dK
theorem aex:dI 45 1 24 [.bC []]:=dK
theorem aey:dI 47 6 136 [.d (.s []),.bC [],.bC [],.bC [],.bC [],.bC []]:=dK
theorem aez:dI 48 1 8 [.d (.o .nilFunc)]:=dK
theorem aeA:dI 49 1 8 [.d (.o .nilFunc)]:=dK
theorem aeB:dI 50 1 24 [.bC []]:=dK
theorem aeC:dI 51 1 24 [.bC []]:=dK
theorem aeD:dI 52 1 24 [.bC []]:=dK
theorem aeE:dI 53 1 24 [.bC []]:=dK
theorem aeF:dI 54 6 136 [.d (.s []),.bC [],.bC [],.bC [],.bC [],.bC []]:=dK
theorem aeG:dI 55 6 136 [.d (.s []),.bC [],.bC [],.bC [],.bC [],.bC []]:=dK
theorem aeH:dI 56 1 8 [.d (.o .nilFunc)]:=dK
theorem aeI:dI 57 1 8 [.d (.o .nilFunc)]:=dK
theorem aeJ:dI 58 1 8 [.d (.o .nilFunc)]:=dK
theorem aeK:dI 59 1 24 [.bC []]:=dK
theorem aeL:dI 61 1 24 [.bC []]:=dK
theorem aeM:dI 63 1 8 [.d (.o .nilFunc)]:=dK
theorem aeN:dI 64 1 24 [.bC []]:=dK
theorem aeO:dI 65 1 24 [.bC []]:=dK
theorem aeP:dI 66 1 24 [.bC []]:=dK
theorem aeQ:dI 67 1 8 [.d (.o .nilFunc)]:=dK
theorem aeR:dI 68 1 8 [.d (.o .nilFunc)]:=dK
theorem aeS:dI 69 1 8 [.d (.o .nilFunc)]:=dK
theorem aeT:dI 70 1 24 [.bC []]:=dK
theorem aeU:dI 71 2 40 [.d (.s []),.bC []]:=dK
theorem aeV:dI 72 2 40 [.d (.s []),.bC []]:=dK
theorem aeW:dI 76 1 24 [.bC []]:=dK
theorem aeX:dI 78 2 40 [.d (.s []),.bC []]:=dK
theorem aeY:dI 79 1 8 [.d (.o .nilFunc)]:=dK
theorem aeZ:dI 80 1 8 [.d (.o .nilFunc)]:=dK
theorem ae0:dI 81 1 8 [.d (.o .nilFunc)]:=dK
theorem ae1:dI 82 1 8 [.d (.o .nilFunc)]:=dK
theorem ae2:dI 83 1 8 [.d (.o .nilFunc)]:=dK
theorem ae3:dI 87 1 8 [.d (.o .nilFunc)]:=dK
theorem ae4:dI 91 1 8 [.d (.o .nilFunc)]:=dK
theorem ae5:dI 92 1 8 [.d (.o .nilFunc)]:=dK
theorem ae6:dI 93 1 8 [.d (.o .nilFunc)]:=dK
theorem ae7:dI 95 1 8 [.d (.o .nilFunc)]:=dK
theorem ae8:dI 96 1 8 [.d (.o .nilFunc)]:=dK
theorem ae9:dI 97 1 8 [.d (.o .nilFunc)]:=dK
theorem ach:dI 124 1 8 [.d (.o .nilFunc)]:=dK
theorem aci:dI 145 11 184 [.d (.s []),.bC [],.d (.i .i64 0),.d (.s []),.d (.s []),.d (.i .i64 0),.d (.i .i64 0),.d (.s []),.bC [],.bC [],.bC []]:=dK
theorem acj:dI 146 1 8 [.d (.o .nilFunc)]:=dK
theorem acn:dI 149 11 184 [.d (.s []),.bC [],.d (.i .i64 0),.d (.s []),.d (.s []),.d (.i .i64 0),.d (.i .i64 0),.d (.s []),.bC [],.bC [],.bC []]:=dK
theorem aco:dI 153 1 8 [.d (.o (.pointer none))]:=dK
theorem acp:dI 154 1 24 [.bC []]:=dK
theorem acr:dI 156 2 32 [.d (.o (.pointer none)),.bC []]:=dK
theorem acs:dI 160 1 8 [.d (.o .nilFunc)]:=dK
theorem acu:dI 162 1 24 [.bC []]:=dK
theorem acv:dI 164 5 72 [.d (.s []),.bC [],.d (.b false),.d (.b false),.bC []]:=dK
theorem acw:dI 166 1 24 [.bC []]:=dK
theorem acy:dI 168 3 64 [.d (.s []),.bC [],.bC []]:=dK
theorem acz:dI 170 1 24 [.bC []]:=dK
theorem acA:dI 171 1 24 [.bC []]:=dK
theorem acB:dI 173 12 192 [.d (.s []),.bC [],.d (.i .i64 0),.d (.s []),.bC [],.bC [],.d (.b false),.d (.b false),.d (.i .i64 0),.d (.s []),.bC [],.bC []]:=dK
theorem acC:dI 175 1 24 [.bC []]:=dK
theorem acD:dI 177 16 280 [.d (.s []),.bC [],.bC [],.bC [],.d (.i .i64 0),.d (.s []),.bC [],.d (.i .i64 0),.d (.s []),.d (.s []),.d (.i .i64 0),.d (.i .i64 0),.d (.s []),.bC [],.bC [],.bC []]:=dK
theorem acE:dI 182 1 24 [.bC []]:=dK
theorem acF:dI 184 5 72 [.d (.s []),.bC [],.d (.b false),.d (.b false),.bC []]:=dK
theorem acG:dI 186 1 24 [.bC []]:=dK
theorem acH:dI 188 3 64 [.d (.s []),.bC [],.bC []]:=dK
theorem acI:dI 190 1 24 [.bC []]:=dK
theorem acJ:dI 191 1 24 [.bC []]:=dK
theorem acK:dI 193 12 192 [.d (.s []),.bC [],.d (.i .i64 0),.d (.s []),.bC [],.bC [],.d (.b false),.d (.b false),.d (.i .i64 0),.d (.s []),.bC [],.bC []]:=dK
theorem acL:dI 195 1 24 [.bC []]:=dK
theorem acM:dI 197 16 280 [.d (.s []),.bC [],.bC [],.bC [],.d (.i .i64 0),.d (.s []),.bC [],.d (.i .i64 0),.d (.s []),.d (.s []),.d (.i .i64 0),.d (.i .i64 0),.d (.s []),.bC [],.bC [],.bC []]:=dK
theorem acN:dI 240 1 24 [.bC []]:=dK
theorem acO:dI 248 1 16 [.d (.o .nilIface)]:=dK
theorem acP:dI 252 1 8 [.d (.o (.pointer none))]:=dK
theorem acQ:dI 259 16 264 [.d (.s []),.bC [],.d (.i .i64 0),.d (.s []),.bC [],.d (.b false),.bC [],.d (.i .i64 0),.d (.s []),.d (.s []),.d (.i .i64 0),.d (.i .i64 0),.d (.s []),.bC [],.bC [],.bC []]:=dK
theorem acR:dI 262 2 40 [.d (.s []),.bC []]:=dK
theorem acS:dI 265 11 184 [.d (.s []),.bC [],.d (.i .i64 0),.d (.s []),.d (.s []),.d (.i .i64 0),.d (.i .i64 0),.d (.s []),.bC [],.bC [],.bC []]:=dK
theorem acT:dI 267 4 64 [.d (.s []),.d (.i .i64 0),.d (.s []),.bC []]:=dK
theorem acU:dI 288 4 96 [.bC [],.bC [],.bC [],.bC []]:=dK
theorem acV:dI 293 1 8 [.d (.o .nilFunc)]:=dK
theorem acW:dI 300 4 64 [.d (.s []),.d (.i .i64 0),.d (.s []),.bC []]:=dK
theorem acX:dI 312 1 8 [.d (.o .nilFunc)]:=dK
theorem acY:dI 317 16 264 [.d (.s []),.bC [],.d (.i .i64 0),.d (.s []),.bC [],.d (.b false),.bC [],.d (.i .i64 0),.d (.s []),.d (.s []),.d (.i .i64 0),.d (.i .i64 0),.d (.s []),.bC [],.bC [],.bC []]:=dK
theorem acZ:dI 320 2 40 [.d (.s []),.bC []]:=dK
theorem ac0:dI 323 4 64 [.d (.s []),.d (.i .i64 0),.d (.s []),.bC []]:=dK
theorem ac1:dI 326 11 184 [.d (.s []),.bC [],.d (.i .i64 0),.d (.s []),.d (.s []),.d (.i .i64 0),.d (.i .i64 0),.d (.s []),.bC [],.bC [],.bC []]:=dK
theorem ac2:dI 329 4 64 [.d (.s []),.d (.i .i64 0),.d (.s []),.bC []]:=dK
theorem ac3:dI 346 1 8 [.d (.o (.map none))]:=dK
theorem ac4:dI 350 1 8 [.d (.o .nilFunc)]:=dK
theorem ac5:dI 353 1 8 [.d (.o .nilFunc)]:=dK
theorem ac6:dI 379 24 24 [.d (.i .u8 0),.d (.i .u8 0),.d (.i .u8 0),.d (.i .u8 0),.d (.i .u8 0),.d (.i .u8 0),.d (.i .u8 0),.d (.i .u8 0),.d (.i .u8 0),.d (.i .u8 0),.d (.i .u8 0),.d (.i .u8 0),.d (.i .u8 0),.d (.i .u8 0),.d (.i .u8 0),.d (.i .u8 0),.d (.i .u8 0),.d (.i .u8 0),.d (.i .u8 0),.d (.i .u8 0),.d (.i .u8 0),.d (.i .u8 0),.d (.i .u8 0),.d (.i .u8 0)]:=dK
theorem ac7:dI 380 1 8 [.d (.i .u64 0)]:=dK
theorem ac8:dI 386 1 24 [.bC []]:=dK
theorem ac9:dI 396 20 160 [.d (.i .u64 0),.d (.i .u64 0),.d (.i .u64 0),.d (.i .u64 0),.d (.i .u64 0),.d (.i .u64 0),.d (.i .u64 0),.d (.i .u64 0),.d (.i .u64 0),.d (.i .u64 0),.d (.i .u64 0),.d (.i .u64 0),.d (.i .u64 0),.d (.i .u64 0),.d (.i .u64 0),.d (.i .u64 0),.d (.i .u64 0),.d (.i .u64 0),.d (.i .u64 0),.d (.i .u64 0)]:=dK
theorem ada:dI 397 1 4 [.d (.i .u32 0)]:=dK
theorem adb:dI 398 65 65 [.d (.i .u8 0),.d (.i .u8 0),.d (.i .u8 0),.d (.i .u8 0),.d (.i .u8 0),.d (.i .u8 0),.d (.i .u8 0),.d (.i .u8 0),.d (.i .u8 0),.d (.i .u8 0),.d (.i .u8 0),.d (.i .u8 0),.d (.i .u8 0),.d (.i .u8 0),.d (.i .u8 0),.d (.i .u8 0),.d (.i .u8 0),.d (.i .u8 0),.d (.i .u8 0),.d (.i .u8 0),.d (.i .u8 0),.d (.i .u8 0),.d (.i .u8 0),.d (.i .u8 0),.d (.i .u8 0),.d (.i .u8 0),.d (.i .u8 0),.d (.i .u8 0),.d (.i .u8 0),.d (.i .u8 0),.d (.i .u8 0),.d (.i .u8 0),.d (.i .u8 0),.d (.i .u8 0),.d (.i .u8 0),.d (.i .u8 0),.d (.i .u8 0),.d (.i .u8 0),.d (.i .u8 0),.d (.i .u8 0),.d (.i .u8 0),.d (.i .u8 0),.d (.i .u8 0),.d (.i .u8 0),.d (.i .u8 0),.d (.i .u8 0),.d (.i .u8 0),.d (.i .u8 0),.d (.i .u8 0),.d (.i .u8 0),.d (.i .u8 0),.d (.i .u8 0),.d (.i .u8 0),.d (.i .u8 0),.d (.i .u8 0),.d (.i .u8 0),.d (.i .u8 0),.d (.i .u8 0),.d (.i .u8 0),.d (.i .u8 0),.d (.i .u8 0),.d (.i .u8 0),.d (.i .u8 0),.d (.i .u8 0),.d (.i .u8 0)]:=dK
theorem ade:dI 400 1 8 [.d (.i .u64 0)]:=dK
theorem adf:dI 415 32 32 [.d (.i .u8 0),.d (.i .u8 0),.d (.i .u8 0),.d (.i .u8 0),.d (.i .u8 0),.d (.i .u8 0),.d (.i .u8 0),.d (.i .u8 0),.d (.i .u8 0),.d (.i .u8 0),.d (.i .u8 0),.d (.i .u8 0),.d (.i .u8 0),.d (.i .u8 0),.d (.i .u8 0),.d (.i .u8 0),.d (.i .u8 0),.d (.i .u8 0),.d (.i .u8 0),.d (.i .u8 0),.d (.i .u8 0),.d (.i .u8 0),.d (.i .u8 0),.d (.i .u8 0),.d (.i .u8 0),.d (.i .u8 0),.d (.i .u8 0),.d (.i .u8 0),.d (.i .u8 0),.d (.i .u8 0),.d (.i .u8 0),.d (.i .u8 0)]:=dK
theorem adg:dI 416 64 64 [.d (.i .u8 0),.d (.i .u8 0),.d (.i .u8 0),.d (.i .u8 0),.d (.i .u8 0),.d (.i .u8 0),.d (.i .u8 0),.d (.i .u8 0),.d (.i .u8 0),.d (.i .u8 0),.d (.i .u8 0),.d (.i .u8 0),.d (.i .u8 0),.d (.i .u8 0),.d (.i .u8 0),.d (.i .u8 0),.d (.i .u8 0),.d (.i .u8 0),.d (.i .u8 0),.d (.i .u8 0),.d (.i .u8 0),.d (.i .u8 0),.d (.i .u8 0),.d (.i .u8 0),.d (.i .u8 0),.d (.i .u8 0),.d (.i .u8 0),.d (.i .u8 0),.d (.i .u8 0),.d (.i .u8 0),.d (.i .u8 0),.d (.i .u8 0),.d (.i .u8 0),.d (.i .u8 0),.d (.i .u8 0),.d (.i .u8 0),.d (.i .u8 0),.d (.i .u8 0),.d (.i .u8 0),.d (.i .u8 0),.d (.i .u8 0),.d (.i .u8 0),.d (.i .u8 0),.d (.i .u8 0),.d (.i .u8 0),.d (.i .u8 0),.d (.i .u8 0),.d (.i .u8 0),.d (.i .u8 0),.d (.i .u8 0),.d (.i .u8 0),.d (.i .u8 0),.d (.i .u8 0),.d (.i .u8 0),.d (.i .u8 0),.d (.i .u8 0),.d (.i .u8 0),.d (.i .u8 0),.d (.i .u8 0),.d (.i .u8 0),.d (.i .u8 0),.d (.i .u8 0),.d (.i .u8 0),.d (.i .u8 0)]:=dK
theorem laidOut:laidOutB Tryz.prog=true:=by kernel_rfl
theorem own:ownKnob Tryz.prog.godebug=none:=by kernel_rfl
attribute [go_sem] ty1 Tryz.underlying1 ty2 Tryz.underlying2 ty3 Tryz.underlying3 ty4 Tryz.underlying4 acg ty5 Tryz.underlying5 ty9 Tryz.underlying9 ad5 Tryz.underlying12 ad6 Tryz.underlying20 ad7 Tryz.underlying21 ad8 Tryz.underlying22 ad9 Tryz.underlying23 aea Tryz.underlying24 aeb Tryz.underlying25 aec Tryz.underlying26 aed Tryz.underlying27 aee Tryz.underlying28 aef Tryz.underlying29 aeg Tryz.underlying30 aeh Tryz.underlying31 aei Tryz.underlying32 aej Tryz.underlying33 aek Tryz.underlying34 ael Tryz.underlying35 aem Tryz.underlying36 aen Tryz.underlying37 aeo Tryz.underlying38 aep Tryz.underlying39 aer Tryz.underlying40 aes Tryz.underlying41 aeu Tryz.underlying42 aev Tryz.underlying43 aew Tryz.underlying44 aex Tryz.underlying45 aey Tryz.underlying47 aez Tryz.underlying48 aeA Tryz.underlying49 aeB Tryz.underlying50 aeC Tryz.underlying51 aeD Tryz.underlying52 aeE Tryz.underlying53 aeF Tryz.underlying54 aeG Tryz.underlying55 aeH Tryz.underlying56 aeI Tryz.underlying57 aeJ Tryz.underlying58 aeK Tryz.underlying59 aeL Tryz.underlying61 aeM Tryz.underlying63 aeN Tryz.underlying64 aeO Tryz.underlying65 aeP Tryz.underlying66 aeQ Tryz.underlying67 aeR Tryz.underlying68 aeS Tryz.underlying69 aeT Tryz.underlying70 aeU Tryz.underlying71 aeV Tryz.underlying72 aeW Tryz.underlying76 aeX Tryz.underlying78 aeY Tryz.underlying79 aeZ Tryz.underlying80 ae0 Tryz.underlying81 ae1 Tryz.underlying82 ae2 Tryz.underlying83 ae3 Tryz.underlying87 ae4 Tryz.underlying91 ae5 Tryz.underlying92 ae6 Tryz.underlying93 ae7 Tryz.underlying95 ae8 Tryz.underlying96 ae9 Tryz.underlying97 ach Tryz.underlying124 aci Tryz.underlying145 acj Tryz.underlying146 acn Tryz.underlying149 aco Tryz.underlying153 acp Tryz.underlying154 acr Tryz.underlying156 acs Tryz.underlying160 acu Tryz.underlying162 acv Tryz.underlying164 acw Tryz.underlying166 acy Tryz.underlying168 acz Tryz.underlying170 acA Tryz.underlying171 acB Tryz.underlying173 acC Tryz.underlying175 acD Tryz.underlying177 acE Tryz.underlying182 acF Tryz.underlying184 acG Tryz.underlying186 acH Tryz.underlying188 acI Tryz.underlying190 acJ Tryz.underlying191 acK Tryz.underlying193 acL Tryz.underlying195 acM Tryz.underlying197 acN Tryz.underlying240 acO Tryz.underlying248 acP Tryz.underlying252 acQ Tryz.underlying259 acR Tryz.underlying262 acS Tryz.underlying265 acT Tryz.underlying267 acU Tryz.underlying288 acV Tryz.underlying293 acW Tryz.underlying300 acX Tryz.underlying312 acY Tryz.underlying317 acZ Tryz.underlying320 ac0 Tryz.underlying323 ac1 Tryz.underlying326 ac2 Tryz.underlying329 ac3 Tryz.underlying346 ac4 Tryz.underlying350 ac5 Tryz.underlying353 ac6 Tryz.underlying379 ac7 Tryz.underlying380 ac8 Tryz.underlying386 ac9 Tryz.underlying396 ada Tryz.underlying397 adb Tryz.underlying398 ade Tryz.underlying400 adf Tryz.underlying415 adg Tryz.underlying416
end Go.Proofs.YtcfhnaohbaplhaaGreatDoor.Fa
namespace Go.Proofs.YtcfhnaohbaplhaaGreatDoor
open Go Go.Ab
theorem l8(xs:List (List UInt8))(left:Int)(h0:0≤left)(h1:left≤1048576)(hf:(D.sl (xs.map encS)).Fit):
 aD Tryz.prog 52 [.c (.d (.sl (xs.map encS))),.c (.d (.i .i64 left))] (.c (.d (.i .i64 (cK left (xs.length+aI (xs.map encS)))))):=by
 intro S
 obtain⟨hf1,hf2⟩:=oM hf
 rw[List.length_map] at hf1
 refine aB (rs:=[.tmp 4]) Tryz.checked.mixed Tryz.func52 Tryz.ntmps52 rfl rfl rfl rfl rfl ?_
 refine W1 ?_
 refine S0 (fun hb h=>?_) fun hb h=>?_
 ·exact int_eq (bV (by omega)).symm
 refine aQ (ι:=Nat×Int) Tryz.checked.mixed rfl [0,1,5] (fun y=>[.c (.d (.sl (xs.map encS))),.c (.d (.i .i64 y.2)),.c (.d (.i .i64 y.1))]) (fun _=>[]::S)
  (fun y=>y.1≤xs.length∧0≤y.2∧y.2≤1048576∧cK y.2 (aI ((xs.map encS).drop y.1))=cK left (xs.length+aI (xs.map encS))) (fun y=>xs.length-y.1) (0,left-xs.length) rfl rfl ⟨by omega,by omega,by omega,?_⟩ ?_
 ·unfold cK
  rw[List.drop_zero]
  split<;>split<;>omega
 rintro⟨i,l⟩ ⟨p1,p2,p3,p4⟩
 simp only at p1 p2 p3 p4
 refine W1 ?_
 refine S0 (fun hb h=>?_) fun hb h=>?_
 ·have hi:i<xs.length:=by omega
  have hl:xs[i].length≤9223372036854775807:=pJ (hf2 (encS xs[i]) (List.mem_map_of_mem (List.getElem_mem hi)) (.s xs[i]) (by simp[encS]))
  rw[List.drop_eq_getElem_cons (by rw[List.length_map];exact hi),aI,List.getElem_map] at p4
  simp only[encS,bL,D.sz] at p4
  refine W1 ?_
  refine W3 ?_
  refine S0 (fun hb h=>?_) fun hb h=>?_
  ·rw[←p4,bV (by omega)]
  ·refine bF (i+1,l-xs[i].length) (by simp only;omega) rfl rfl ⟨by simp only;omega,by simp only;omega,by simp only;omega,?_⟩
   simp only
   rw[←p4]
   unfold cK
   split<;>split<;>omega
 ·have hi:i=xs.length:=by omega
  rw[hi,List.drop_of_length_le (by simp),aI,fA (by omega)] at p4
  rw[←p4]
  refine int_eq ?_
  omega
theorem l9(xs:List (List UInt8))(hsz:xs.length+aI (xs.map encS)≤1048576):aD Tryz.prog 58 [.c (.d (.sl (xs.map encS)))] (.c (.d (.sl (xs.map encS)))):=by
 intro S
 refine aB (rs:=[.tmp 2]) Tryz.checked.mixed Tryz.func58 Tryz.ntmps58 rfl rfl rfl rfl rfl ?_
 refine W1 ?_
 refine W3 ?_
 refine aQ (ι:=Nat×List (List D)) Tryz.checked.mixed rfl [0,3,4] (fun y=>[.c (.d (.sl (xs.map encS))),.c (.ji (0,0)),.c (.d (.i .i64 y.1))]) (fun y=>[.eU 1 y.2]::S)
  (fun y=>y.1≤xs.length∧gq 1 y.1 y.2 (xs.map encS)) (fun y=>xs.length-y.1) (0,_) rfl rfl ⟨Nat.zero_le _,gq.start (by simp) rfl⟩ ?_
 rintro⟨i,R⟩ ⟨p1,p2⟩
 simp only at p1 p2
 refine W1 ?_
 refine S0 (fun hb h=>?_) fun hb h=>?_
 ·have hi:i<xs.length:=by omega
  have hR:=p2.1
  rw[List.length_map] at hR
  refine W3 ?_
  refine bF (i+1,_) (by simp only;omega) rfl rfl ⟨by simp only;omega,p2.step (by simp[hi,encS]) rfl⟩
 ·have hi:i=xs.length:=by omega
  rw[p2.done (by rw[List.length_map];omega)]
theorem mh(xs ys:List (List UInt8))(hsz:xs.length≤1073741824):aD Tryz.prog 64 [.c (.d (.sl (xs.map encS))),.c (.d (.sl (ys.map encS)))] (.c (.d (.b (dec (xs=ys))))):=by
 intro S
 refine aB (rs:=[.tmp 4]) Tryz.checked.mixed Tryz.func64 Tryz.ntmps64 rfl rfl rfl rfl rfl ?_
 refine W1 ?_
 refine S0 (fun hb h=>?_) fun hb h=>?_
 ·exact ay (aC (fun e=>h (by rw[e]))).symm
 have hl:xs.length=ys.length:=by omega
 refine aQ (ι:=Nat) Tryz.checked.mixed rfl [0,1,5] (fun y=>[.c (.d (.sl (xs.map encS))),.c (.d (.sl (ys.map encS))),.c (.d (.i .i64 y))]) (fun y=>[]::S)
  (fun i=>i≤xs.length∧∀j,j<i→xs[j]? =ys[j]?) (fun y=>xs.length-y) 0 rfl rfl ⟨Nat.zero_le _,fun j h=>by omega⟩ ?_
 rintro i ⟨p1,p2⟩
 refine W1 ?_
 refine S0 (fun hb h=>?_) fun hb h=>?_
 ·have hi:i<xs.length:=by omega
  have hi':i<ys.length:=by omega
  refine W3 ?_
  refine S0 (fun hb h=>?_) fun hb h=>?_
  ·exact ay (aC (fun e=>h (by simp only[e]))).symm
  refine bF (i+1) (by omega) rfl rfl ⟨by omega,fun j hj=> ?_⟩
  by_cases e:j=i
  ·subst e
   rw[List.getElem?_eq_getElem hi,List.getElem?_eq_getElem hi',h]
  ·exact p2 j (by omega)
 ·have hi:i=xs.length:=by omega
  refine ay (bq (List.ext_getElem? fun j=> ?_)).symm
  by_cases hj:j<i
  ·exact p2 j hj
  ·rw[List.getElem?_eq_none (by omega),List.getElem?_eq_none (by omega)]
end Go.Proofs.YtcfhnaohbaplhaaGreatDoor
namespace Go.Proofs.YtcfhnaohbaplhaaGreatDoor
open Go Go.Ab
theorem zA(n a b:Int):aD Tryz.prog 243 [.c (.d (.i .i64 n)),.c (.d (.i .i64 a)),.c (.d (.i .i64 b))] (.c (.d (.b (dec (a≤n∧n≤b))))):=fun S=>by
 refine aB (rs:=[.tmp 6]) Tryz.checked.mixed Tryz.func243 Tryz.ntmps243 rfl rfl rfl rfl rfl ?_
 refine W1 ?_
 refine S0 (fun hb h=>?_) fun hb h=>?_
 ·exact ay (by rw[lU];exact gN ⟨fun x=>⟨by omega,x⟩,fun x=>x.2⟩)
 ·exact ay (aC (by omega)).symm
theorem pO(xs:List (List UInt8))(s:List UInt8)(hl:xs.length≤1073741824):aD Tryz.prog 161 [.c (.d (.sl (xs.map encS))),.c (.d (.s s))] (.c (.d (.b (dec (s∈xs))))):=fun S=>by
 refine aB (rs:=[.tmp 4]) Tryz.checked.mixed Tryz.func161 Tryz.ntmps161 rfl rfl rfl rfl rfl ?_
 simp -implicitDefEqProofs (disch:=omega) only[go_sem,encS]
 refine aQ (ι:=Nat) Tryz.checked.mixed rfl [0,1,5] (fun i=>[.c (.d (.sl (xs.map encS))),.c (.d (.s s)),.c (.d (.i .i64 i))]) (fun _=>[]::S)
  (fun i=>i≤xs.length∧∀j,j<i→∀h:j<xs.length,xs[j]≠s) (fun i=>xs.length-i) 0 rfl rfl ⟨Nat.zero_le _,fun j h=>by omega⟩ ?_
 rintro i ⟨p1,p2⟩
 simp -implicitDefEqProofs (disch:=omega) only[go_sem,encS]
 with_reducible refine eX (fun hb=> ?_) (fun hb=> ?_)<;>have h:=hb<;>(try simp only[wf_preprocess] at h)<;>simp -implicitDefEqProofs (disch:=omega) only[go_sem,hb,encS]<;>refine W3 ?_
 ·have hi:i<xs.length:=by omega
  with_reducible refine eX (fun hb=> ?_) (fun hb=> ?_)<;>have h:=hb<;>(try simp only[wf_preprocess] at h)<;>simp -implicitDefEqProofs (disch:=omega) only[go_sem,hb,encS]<;>refine W3 ?_
  ·exact ay (bq (by rw[←h];exact List.getElem_mem hi)).symm
  ·refine bF (i+1) (by omega) rfl rfl ⟨by omega,fun j hj hl=> ?_⟩
   by_cases e:j=i
   ·subst e;exact h
   ·exact p2 j (by omega) hl
 ·refine ay (aC fun hm=> ?_).symm
  obtain⟨j,h1,h2⟩:=List.getElem_of_mem hm
  exact p2 j (by omega) h1 h2
theorem Jz(xs:List (List UInt8))(s:List UInt8)(hl:xs.length≤1073741824):aD Tryz.prog 257 [.c (.d (.sl (xs.map encS))),.c (.d (.s s))] (.c (.d (.i .i64 (rV xs s)))):=fun S=>by
 refine aB (rs:=[.tmp 4]) Tryz.checked.mixed Tryz.func257 Tryz.ntmps257 rfl rfl rfl rfl rfl ?_
 simp -implicitDefEqProofs (disch:=omega) only[go_sem,encS]
 refine aQ (ι:=Nat) Tryz.checked.mixed rfl [0,1,7,8] (fun i=>[.c (.d (.sl (xs.map encS))),.c (.d (.s s)),.c (.d (.i .i64 xs.length)),.c (.d (.i .i64 i))]) (fun _=>[]::S)
  (fun i=>i≤xs.length∧∀j,j<i→xs.getD j []≠s) (fun i=>xs.length-i) 0 rfl rfl ⟨Nat.zero_le _,fun j h=>by omega⟩ ?_
 rintro i ⟨p1,p2⟩
 simp -implicitDefEqProofs (disch:=omega) only[go_sem,encS]
 with_reducible refine eX (fun hb=> ?_) (fun hb=> ?_)<;>have h:=hb<;>(try simp only[wf_preprocess] at h)<;>simp -implicitDefEqProofs (disch:=omega) only[go_sem,hb,encS]<;>refine W3 ?_
 ·have hi:i<xs.length:=by omega
  have e:xs.getD i []=xs[i]:=by simp[List.getD,hi]
  with_reducible refine eX (fun hb=> ?_) (fun hb=> ?_)<;>have h:=hb<;>(try simp only[wf_preprocess] at h)<;>simp -implicitDefEqProofs (disch:=omega) only[go_sem,hb,encS]<;>refine W3 ?_
  ·rw[OC hi p2 (by rw[e];exact h.symm)]
  ·refine bF (i+1) (by omega) rfl rfl ⟨by omega,fun j hj=> ?_⟩
   by_cases e':j=i
   ·subst e';rw[e];exact fun x=>h x.symm
   ·exact p2 j (by omega)
 ·rw[UF (fun j hj=>p2 j (by omega))]
theorem qR(xs:List (List UInt8))(s:List UInt8)(hl:xs.length≤1073741824):aD Tryz.prog 321 [.c (.d (.sl (xs.map encS))),.c (.d (.s s))] (.c (.d (.b (dec (s∈xs))))):=fun S=>by
 refine aB (rs:=[.tmp 4]) Tryz.checked.mixed Tryz.func321 Tryz.ntmps321 rfl rfl rfl rfl rfl ?_
 refine W1 ?_
 refine C2 (Jz xs s hl) ?_
 exact ay FK
theorem FN(s:List UInt8):aD Tryz.prog 244 [.c (.d (.s s))] (.c (.d (.b (dec (s∈reserved))))):=fun S=>by
 refine aB (rs:=[.tmp 2]) Tryz.checked.mixed Tryz.func244 Tryz.ntmps244 rfl rfl rfl rfl rfl ?_
 refine W1 ?_
 refine W3 ?_
 exact C4 (pO reserved s (by decide))
theorem FP(s:List UInt8):aD Tryz.prog 253 [.c (.d (.s s))] (.c (.d (.b (dec (s∈reserved))))):=fun S=>by
 refine aB (rs:=[.tmp 2]) Tryz.checked.mixed Tryz.func253 Tryz.ntmps253 rfl rfl rfl rfl rfl ?_
 refine W1 ?_
 refine W3 ?_
 exact C4 (qR reserved s (by decide))
theorem FQ(b:UInt8):aD Tryz.prog 251 [.c (.d (.i .u8 b.toNat))] (.c (.d (.b (dec (lowerB b))))):=fun S=>by
 refine aB (rs:=[.tmp 2]) Tryz.checked.mixed Tryz.func251 Tryz.ntmps251 rfl rfl rfl rfl rfl ?_
 refine W1 ?_
 refine S0 (fun hb h=>?_) fun hb h=>?_
 ·exact ay (by rw[lU];exact gN ⟨fun x=>⟨by omega,by omega⟩,fun x=>by have:=x.2;omega⟩)
 ·exact ay (aC fun x=>by have:=x.1;omega).symm
theorem FR(b:UInt8):aD Tryz.prog 252 [.c (.d (.i .u8 b.toNat))] (.c (.d (.b (dec (oN b))))):=fun S=>by
 refine aB (rs:=[.tmp 2]) Tryz.checked.mixed Tryz.func252 Tryz.ntmps252 rfl rfl rfl rfl rfl ?_
 refine W1 ?_
 refine S0 (fun hb h=>?_) fun hb h=>?_
 ·exact ay (by rw[lU];exact gN ⟨fun x=>⟨by omega,by omega⟩,fun x=>by have:=x.2;omega⟩)
 ·exact ay (aC fun x=>by have:=x.1;omega).symm
theorem fP(s:List UInt8)(hl:s.length≤1073741824):aD Tryz.prog 168 [.c (.d (.s s))] (.c (.d (.b (validName s)))):=fun S=>by
 refine aB (rs:=[.tmp 2]) Tryz.checked.mixed Tryz.func168 Tryz.ntmps168 rfl rfl rfl rfl rfl ?_
 refine W1 ?_
 refine aQ (ι:=Nat) Tryz.checked.mixed rfl [0,5,6] (fun i=>[.c (.d (.s s)),.c (.d (.i .i64 s.length)),.c (.d (.i .i64 i))]) (fun _=>[]::S)
  (fun i=>i≤s.length∧∀j,j<i→lowerB (s.getD j 0)∨(j≠0∧oN (s.getD j 0))) (fun i=>s.length-i) 0 rfl rfl ⟨Nat.zero_le _,fun j h=>by omega⟩ ?_
 rintro i ⟨p1,p2⟩
 have next:i<s.length→(lowerB (s.getD i 0)∨(i≠0∧oN (s.getD i 0)))→∀j,j<i+1→lowerB (s.getD j 0)∨(j≠0∧oN (s.getD j 0)):=fun hi h j hj=>by
  by_cases e:j=i
  ·subst e;exact h
  ·exact p2 j (by omega)
 have bad:i<s.length→¬(lowerB (s.getD i 0)∨(i≠0∧oN (s.getD i 0)))→validName s=false:=fun hi h=>aC fun x=>h (x.2.2 i hi)
 refine W1 ?_
 refine S0 (fun hb h=>?_) fun hb h=>?_
 ·have hi:i<s.length:=by omega
  refine W3 ?_
  refine C2 (FQ (s.getD i 0)) ?_
  refine S0 (fun hb h=>?_) fun hb h=>?_
  ·have nl:=h
   refine S0 (fun hb h=>?_) fun hb h=>?_
   ·have i0:i=0:=by omega
    rw[bad hi (fun x=>x.elim nl fun y=>y.1 i0)]
   ·have ne:=h
    refine W3 ?_
    refine C2 (FR (s.getD i 0)) ?_
    refine S0 (fun hb h=>?_) fun hb h=>?_
    ·rw[bad hi (fun x=>x.elim nl fun y=>h y.2)]
    ·exact bF (i+1) (by omega) rfl rfl ⟨by omega,next hi (.inr ⟨by omega,h⟩)⟩
  ·exact bF (i+1) (by omega) rfl rfl ⟨by omega,next hi (.inl h)⟩
 ·have hn:MC s:=fun j hj=>p2 j (by omega)
  have h0:∀b,dec (s∈reserved)=b→∀c,decide ((s.length:Int)≥1)=c→∀d,decide ((s.length:Int)≤8)=d→validName s=(c&&d&& !b):=by
   rintro b rfl c rfl d rfl
   unfold validName
   rw[Bool.eq_iff_iff]
   simp only[vF,Bool.and_eq_true,decide_eq_true_eq,Bool.not_eq_true',BF]
   exact⟨fun x=>⟨⟨by omega,by omega⟩,x.2.1⟩,fun x=>⟨⟨by omega,by omega⟩,x.2,hn⟩⟩
  refine S0 (fun hb h=>?_) fun hb h=>?_
  ·have c1:=hb
   refine S0 (fun hb h=>?_) fun hb h=>?_
   ·refine C2 (FP s) ?_
    exact ay (by rw[h0 _ rfl _ c1 _ hb];simp)
   ·exact ay (by rw[h0 _ rfl _ c1 _ hb];simp)
  ·exact ay (by rw[h0 _ rfl _ hb _ rfl];simp)
theorem fQ(s:List UInt8)(hl:s.length≤1073741824):aD Tryz.prog 159 [.c (.d (.s s))] (.c (.d (.b (validName s)))):=fun S=>by
 have bad:¬MC s→validName s=false:=fun h=>aC fun x=>h x.2.2
 refine aB (rs:=[.tmp 2]) Tryz.checked.mixed Tryz.func159 Tryz.ntmps159 rfl rfl rfl rfl rfl ?_
 refine W1 ?_
 refine C2 (zA s.length 1 8) ?_
 refine S0 (fun hb h=>?_) fun hb h=>?_
 ·rw[show validName s=false from aC fun x=>h (by omega)]
 have hlen:=h
 refine C2 (FN s) ?_
 refine S0 (fun hb h=>?_) fun hb h=>?_
 ·rw[show validName s=false from aC fun x=>x.2.1 h]
 have hres:=h
 refine aQ (ι:=Nat) Tryz.checked.mixed rfl [0,3] (fun i=>[.c (.d (.s s)),.c (.d (.i .i64 i))]) (fun _=>[]::S)
  (fun i=>i≤s.length∧∀j,j<i→lowerB (s.getD j 0)∨(j≠0∧oN (s.getD j 0))) (fun i=>s.length-i) 0 rfl rfl ⟨Nat.zero_le _,fun j h=>by omega⟩ ?_
 rintro i ⟨p1,p2⟩
 have next:i<s.length→(lowerB (s.getD i 0)∨(i≠0∧oN (s.getD i 0)))→∀j,j<i+1→lowerB (s.getD j 0)∨(j≠0∧oN (s.getD j 0)):=fun hi h j hj=>by
  by_cases e:j=i
  ·subst e;exact h
  ·exact p2 j (by omega)
 refine W1 ?_
 refine S0 (fun hb h=>?_) fun hb h=>?_
 ·have hi:i<s.length:=by omega
  have bad':¬(lowerB (s.getD i 0)∨(i≠0∧oN (s.getD i 0)))→validName s=false:=fun h=>bad fun x=>h (x i hi)
  have next:=next hi
  unfold lowerB oN at bad' next
  all_goals try(refine S0 (fun hb h=>?_) fun hb h=>?_)
  all_goals try(refine S0 (fun hb h=>?_) fun hb h=>?_)
  all_goals try(refine S0 (fun hb h=>?_) fun hb h=>?_)
  all_goals try(refine S0 (fun hb h=>?_) fun hb h=>?_)
  all_goals try(refine S0 (fun hb h=>?_) fun hb h=>?_)
  all_goals try(with_reducible refine eX (fun hb=> ?_) (fun hb=> ?_)<;>have h:=hb<;>(try simp only[wf_preprocess] at h)<;>simp -implicitDefEqProofs (disch:=omega) only[go_sem,hb]<;>(repeat(with_reducible refine And.intro ?_ ?_;focus first|omega|rfl|assumption|exact⟨_,rfl,rfl⟩|(simp;omega)|(simp;done))))
  all_goals first
   |exact bF (i+1) (by omega) rfl rfl ⟨by omega,next (by omega)⟩
   |exact ay (bad' (by omega)).symm
 ·rw[show validName s=true from bq ⟨by omega,hres,fun j hj=>p2 j (by omega)⟩]
theorem UJ(s:List UInt8):aD Tryz.prog 368 [.c (.d (.s s))] (.c (.d (.b (sw s)))):=fun S=>by
 refine aB (rs:=[.tmp 2]) Tryz.checked.mixed Tryz.func368 Tryz.ntmps368 rfl rfl rfl rfl rfl ?_
 refine W1 ?_
 refine S0 (fun hb h=>?_) fun hb h=>?_
 ·exact ay (bq (.inl h)).symm
 ·exact ay (by rw[lU];exact gN ⟨fun x=>.inr x,fun x=>x.resolve_left h⟩)
theorem MG(s:List UInt8):aD Tryz.prog 380 [.c (.d (.s s))] (.c (.d (.b (sw s)))):=fun S=>by
 refine aB (rs:=[.tmp 2]) Tryz.checked.mixed Tryz.func380 Tryz.ntmps380 rfl rfl rfl rfl rfl ?_
 refine W1 ?_
 refine S0 (fun hb h=>?_) fun hb h=>?_
 ·exact ay (bq (.inl h)).symm
 ·exact ay (by rw[lU];exact gN ⟨fun x=>.inr x,fun x=>x.resolve_left h⟩)
end Go.Proofs.YtcfhnaohbaplhaaGreatDoor
namespace Go.Proofs.YtcfhnaohbaplhaaGreatDoor
open Go Go.Ab
theorem xg{x:ah}{i:Nat}(hi:i<x.fArgs.length)(h:x.sz≤4194304):x.fArgs[i].sz≤4194304∧x.fArgs.length≤4194304∧x.fName.length≤4194304:=by
 have hx:x.fArgs[i].sz≤aI (x.fArgs.map ah.enc):=bD (List.mem_map_of_mem (List.getElem_mem hi))
 simp only[ah.sz,ah.aH,bL,D.sz,List.length_map] at h
 omega
theorem BI{x:ah}(h:x.sz≤4194304):x.fArgs.length≤4194304∧x.fName.length≤4194304:=by
 simp only[ah.sz,ah.aH,bL,D.sz,List.length_map] at h
 omega
theorem BJ:∀n:Nat,∀t:ah,SizeOf.sizeOf t<n→t.sz≤4194304→∀(g:Nat) (caps:List (Key×Nat)) (α:Type) (st:α→Store) (I:Nat→α→Prop) (f:α→ah→α) (hf:Ai Tryz.prog g caps st I f ah.v (fun u=>u.sz≤4194304)) (m:Nat) (a:α),I (m+t.cnt) a→
 I m ((mU t).foldl f a)∧dF Tryz.prog 330 [t.v,.c (.fn g caps)] (st a) (fun r S'=>r=.iB []∧S'=st ((mU t).foldl f a))
 |0=>fun t h=>by omega
 |n+1=>by
  have ih:=BJ n
  intro t hn hsz g caps α st I f hf m a ha
  have iW:=ah.fD t
  have hts:=BI hsz
  rw[ah.mR,show m+(1+ah.dQ t.fArgs)=(m+ah.dQ t.fArgs)+1 by omega] at ha
  have h1:=hf _ a t ha hsz
  have hI:∀(ts:List ah),SizeOf.sizeOf ts<n→(∀x∈ts,x.sz≤4194304)→∀a,I (m+ah.dQ ts) a→I m ((lZ ts).foldl f a):=by
   intro ts
   induction ts with
   |nil=>intro _ _ a ha;exact ha
   |cons x xs ihx=>
    intro hs hz a ha
    simp only[List.cons.sizeOf_spec] at hs
    rw[lZ,List.foldl_append]
    rw[ah.dQ,show m+(x.cnt+ah.dQ xs)=(m+ah.dQ xs)+x.cnt by omega] at ha
    exact ihx (by omega) (fun y hy=>hz y (by simp[hy])) _ (ih x (by omega) (hz x (by simp)) g caps α st I f hf _ a ha).1
  have hall:∀x∈t.fArgs,x.sz≤4194304:=fun x hx=>by
   obtain⟨i,hi,e⟩:=List.getElem_of_mem hx
   rw[←e];exact(xg hi hsz).1
  refine⟨by rw[vU,List.foldl_cons];exact hI t.fArgs (by omega) hall _ h1.1,?_⟩
  refine aB (rs:=[]) Tryz.checked.mixed Tryz.func330 Tryz.ntmps330 rfl rfl rfl rfl rfl ?_
  refine W1 ?_
  refine dR rfl (h1.2 [_]) ?_
  refine W1 ?_
  refine aQ (ι:=Nat×α) Tryz.checked.mixed rfl [1,10,11,12] (fun y=>[.c (.fn g (iF 1 caps)),.c (.d (.sl (t.fArgs.map ah.enc))),.c (.d (.i .i64 t.fArgs.length)),.c (.d (.i .i64 y.1))]) (fun y=>[.box [.d (.i .i64 t.aU),.d (.s t.fName),.d (.sl (t.fArgs.map ah.enc))]]::st y.2)
   (fun y=>y.1≤t.fArgs.length∧I (m+ah.dQ (t.fArgs.drop y.1)) y.2∧(lZ (t.fArgs.drop y.1)).foldl f y.2=(mU t).foldl f a) (fun y=>t.fArgs.length-y.1) (0,f a t) rfl rfl ⟨Nat.zero_le _,h1.1,by rw[vU,List.foldl_cons];rfl⟩ ?_
  rintro⟨i,b⟩ ⟨p1,p2,p3⟩
  simp only at p1 p2 p3
  refine W1 ?_
  refine S0 (fun hb h=>?_) fun hb h=>?_
  ·have hi:i<t.fArgs.length:=by omega
   have hs:=List.sizeOf_lt_of_mem (List.getElem_mem hi)
   rw[vG hi,List.foldl_append] at p3
   rw[List.drop_eq_getElem_cons hi,ah.dQ,show m+(t.fArgs[i].cnt+ah.dQ (t.fArgs.drop (i+1)))=(m+ah.dQ (t.fArgs.drop (i+1)))+t.fArgs[i].cnt by omega] at p2
   have h2:=(ih t.fArgs[i] (by omega) (xg hi hsz).1 g caps α st I f hf _ b p2).1
   refine W3 ?_
   refine dR rfl (((ih t.fArgs[i] (by omega) (xg hi hsz).1 g (iF 1 caps) α (fun a=>[.box [.d (.i .i64 t.aU),.d (.s t.fName),.d (.sl (t.fArgs.map ah.enc))],.box [.d (.i .i64 t.fArgs[i].aU),.d (.s t.fArgs[i].fName),.d (.sl (t.fArgs[i].fArgs.map ah.enc))]]::st a) I f (hf.push _) _ b p2)).2) ?_
   refine W1 ?_
   exact cu 1 (by decide) (i+1,(mU t.fArgs[i]).foldl f b) (by simp only;omega) rfl rfl (by simp only[fG,gF,List.all_cons,List.all_nil,V.refs,C.refs,Mt,Bool.and_true]) rfl ⟨by simp only;omega,h2,p3⟩
  ·have hi:i=t.fArgs.length:=by omega
   rw[hi,List.drop_length,lZ,List.foldl_nil] at p3
   rw[p3]
theorem DJ{t:ah}(hsz:t.sz≤4194304){g:Nat}{caps:List (Key×Nat)}{α:Type}{st:α→Store}{I:Nat→α→Prop}{f:α→ah→α}(hf:Ai Tryz.prog g caps st I f ah.v (fun u=>u.sz≤4194304))(m:Nat)(a:α)(ha:I (m+t.cnt) a):
 I m ((mU t).foldl f a)∧dF Tryz.prog 330 [t.v,.c (.fn g caps)] (st a) (fun r S'=>r=.iB []∧S'=st ((mU t).foldl f a)):=BJ _ t (Nat.lt_succ_self _) hsz g caps α st I f hf m a ha
theorem Dk(rest:List Ab.Obj)(S:Store):Ai Tryz.prog 363 [((0,0),0)] (fun out:List (List UInt8)=>(.box [.bH (0,1) (out.map encS)]:: .tok 1 (out.map encS)::rest)::S) (fun n out=>out.length+n≤1073741824) qE ah.v (fun u=>u.sz≤4194304):=by
 intro n out u hI hu
 refine⟨by have:=Eh out u;omega,fun F=> ?_⟩
 have hts:=BI hu
 refine aB (rs:=[]) Tryz.checked.mixed Tryz.func363 Tryz.ntmps363 rfl rfl rfl rfl rfl ?_
 refine W1 ?_
 refine S0 (fun hb h=>?_) fun hb h=>?_
 ·have h1:=h
  refine C2 (qR out u.fName (by omega)) ?_
  refine S0 (fun hb h=>?_) fun hb h=>?_
  ·refine W3 ?_
   have ha:qE out u=out++[u.fName]:=if_pos ⟨h1,h⟩
   rw[ha];simp[encS]
  ·have ha:qE out u=out:=if_neg fun x=>x.2 h
   rw[ha]
 ·have ha:qE out u=out:=if_neg fun x=>h x.1
  rw[ha]
theorem Ih(ts:List ah)(hl:ts.length≤4194304)(hz:∀t∈ts,t.sz≤4194304)(hc:ah.dQ ts≤1073741823):aD Tryz.prog 333 [.c (.d (.sl (ts.map ah.enc)))] (.c (.d (.sl ((p9 [] ts).map encS)))):=fun S=>by
 refine aB (rs:=[.tmp 2]) Tryz.checked.mixed Tryz.func333 Tryz.ntmps333 rfl rfl rfl rfl rfl ?_
 refine W1 ?_
 refine W3 ?_
 refine nV 0 0 1 [] [.bC []] rfl rfl (by simp) ?_
 refine aQ (ι:=Nat×List (List UInt8)) Tryz.checked.mixed rfl [3,7,8,9] (fun y=>[.c (.ptr (0,0) 0),.c (.d (.sl (ts.map ah.enc))),.c (.d (.i .i64 ts.length)),.c (.d (.i .i64 y.1))]) (fun y=>[.box [.bH (0,1) (y.2.map encS)],.tok 1 (y.2.map encS)]::S)
  (fun y=>y.1≤ts.length∧y.2.length+ah.dQ (ts.drop y.1)≤1073741824∧p9 y.2 (ts.drop y.1)=p9 [] ts) (fun y=>ts.length-y.1) (0,[]) rfl rfl ⟨Nat.zero_le _,by simp only[List.drop_zero,List.length_nil];omega,rfl⟩ ?_
 rintro⟨i,out⟩ ⟨p1,p2,p3⟩
 simp only at p1 p2 p3
 refine W1 ?_
 refine S0 (fun hb h=>?_) fun hb h=>?_
 ·have hi:i<ts.length:=by omega
  rw[DI hi] at p3
  rw[List.drop_eq_getElem_cons hi,ah.dQ] at p2
  have hlen:=vV ts[i] out
  refine W3 ?_
  refine dR rfl (DJ (hz _ (List.getElem_mem hi)) (Dk [Ab.Obj.box [.d (.i .i64 ts[i].aU),.d (.s ts[i].fName),.d (.sl (ts[i].fArgs.map ah.enc))]] S) (ah.dQ (ts.drop (i+1))) out (by omega)).2 ?_
  refine W1 ?_
  exact cu 2 (by decide) (i+1,iw out ts[i]) (by simp only;omega) rfl rfl rfl rfl ⟨by simp only;omega,by simp only;omega,p3⟩
 ·have hi:i=ts.length:=by omega
  rw[hi,List.drop_length] at p3
  rw[←p3];rfl
theorem tZ(t:ah)(hsz:t.sz≤4194304):aD Tryz.prog 264 [t.v] (.c (.d (.sl ((iw [] t).map encS)))):=fun S=>by
 have hc:=jU t
 have h0:=Ih [t] (by simp) (by simpa using hsz) (by simp[ah.dQ];omega)
 simp only[List.map_cons,List.map_nil,ah.aH] at h0
 refine aB (rs:=[.tmp 2]) Tryz.checked.mixed Tryz.func264 Tryz.ntmps264 rfl rfl rfl rfl rfl ?_
 refine W1 ?_
 refine W3 ?_
 refine bN h0 ?_
 refine W1 ?_
 rw[show p9 [] [t]=iw [] t by simp[p9,iw,lZ]]
theorem FT:∀n:Nat,∀t:ah,SizeOf.sizeOf t<n→t.sz≤4194304→∀(out:List (List UInt8)) (l j:Nat) (S:Store),bK S (l,j)=some (.tok 1 (out.map encS))→out.length+t.cnt≤1073741824→
 dF Tryz.prog 372 [t.v,.c (.bH (l,j) (out.map encS))] S (fun r S'=>r=.c (.bH (l,j) ((iw out t).map encS))∧S'=bZ S (l,j) (.tok 1 ((iw out t).map encS)))
 |0=>fun t h=>by omega
 |n+1=>by
  have ih:=FT n
  intro t hn hsz out l j S hk hc
  have iW:=ah.fD t
  have hts:=BI hsz
  have hcn:=ah.mR t
  have FU:∀x:Ab.Obj,bK (bZ S (l,j) x) (l,j)=some x:=fun x=>fV _ _ _ _ hk
  have hS0:bZ S (l,j) (.tok 1 (out.map encS))=S:=yI _ _ hk
  have fin:iw out t=p9 (qE out t) t.fArgs:=Xo out t
  have hal:=Eh out t
  have e0:(out++[t.fName]).map encS=out.map encS++[[D.s t.fName]]:=by simp[encS]
  refine aB (rs:=[.tmp 4]) Tryz.checked.mixed Tryz.func372 Tryz.ntmps372 rfl rfl rfl rfl rfl ?_
  simp -implicitDefEqProofs (disch:=omega) only[go_sem,hk]
  repeat' (first
   |(with_reducible refine eX (fun hb=> ?_) (fun hb=> ?_)<;>have h:=hb<;>(try simp only[wf_preprocess] at h)<;>simp -implicitDefEqProofs (disch:=omega) only[go_sem,hb,hk]<;>refine W3 ?_)
   |(refine bN (pO out t.fName (by omega)) ?_;simp -implicitDefEqProofs (disch:=omega) only[go_sem,hk];refine W3 ?_))
  all_goals first
   |(have ha:qE out t=out++[t.fName]:=if_pos ⟨by assumption,by assumption⟩)
   |(have ha:qE out t=out:=if_neg (fun x=>by have:=x.1;have:=x.2;contradiction))
  all_goals
   refine aQ (ι:=Nat×List (List UInt8)) Tryz.checked.mixed rfl [1,2,5] (fun y=>[.c (.bH (1+l,j) (y.2.map encS)),.c (.ptr (0,0) 0),.c (.d (.i .i64 y.1))]) (fun y=>[.box [.d (.i .i64 t.aU),.d (.s t.fName),.d (.sl (t.fArgs.map ah.enc))]]::bZ S (l,j) (.tok 1 (y.2.map encS)))
    (fun y=>y.1≤t.fArgs.length∧y.2.length+ah.dQ (t.fArgs.drop y.1)≤1073741824∧p9 y.2 (t.fArgs.drop y.1)=iw out t) (fun y=>t.fArgs.length-y.1) (0,qE out t) (by first|(rw[ha,e0];rfl)|(rw[ha];rfl)) (by first|(simp only[ha,e0];done)|(simp only[ha,hS0];done)) ⟨Nat.zero_le _,by simp only[List.drop_zero];omega,by rw[fin];rfl⟩ ?_
   rintro⟨i,b⟩ ⟨p1,p2,p3⟩
   simp only at p1 p2 p3
   refine W1 ?_
   refine S0 (fun hb h=>?_) fun hb h=>?_
   ·have hi:i<t.fArgs.length:=by omega
    have hs:=List.sizeOf_lt_of_mem (List.getElem_mem hi)
    rw[DI hi] at p3
    rw[List.drop_eq_getElem_cons hi,ah.dQ] at p2
    have hlen:=vV t.fArgs[i] b
    refine W3 ?_
    refine dR rfl (ih t.fArgs[i] (by omega) (xg hi hsz).1 b (1+l) j _ (by rw[Mr];exact FU _) (by omega)) ?_
    simp -implicitDefEqProofs (disch:=omega) only[go_sem,nU]
    exact bF (i+1,iw b t.fArgs[i]) (by simp only;omega) rfl rfl ⟨by simp only;omega,by simp only;omega,p3⟩
   ·have hi:i=t.fArgs.length:=by omega
    rw[hi,List.drop_length] at p3
    rw[←p3]
    exact⟨rfl,rfl⟩
theorem FV(t:ah)(hsz:t.sz≤4194304):aD Tryz.prog 352 [t.v] (.c (.d (.sl ((iw [] t).map encS)))):=fun S=>by
 have hc:=jU t
 have h0:∀S,dF Tryz.prog 372 [t.v,.c (.bC [])] S (fun r S'=>r=.c (.d (.sl ((iw [] t).map encS)))∧S'=S):=fun S=>by
  refine dF.Xj 1 (es:=[]) (bn:=1) rfl (by simp) (FT _ t (Nat.lt_succ_self _) hsz [] 0 0 ([.tok 1 []]::S) rfl (by simp;omega)) ?_
  rintro r fr S' ⟨rfl,h2⟩
  injection h2 with h2 h3
  exact⟨_,rfl,rfl,h3⟩
 refine aB (rs:=[.tmp 2]) Tryz.checked.mixed Tryz.func352 Tryz.ntmps352 rfl rfl rfl rfl rfl ?_
 refine W1 ?_
 refine W3 ?_
 refine kN [true,true] rfl (h0 _) ?_
 exact Z1
theorem yJ:∀n:Nat,∀t:ah,SizeOf.sizeOf t<n→t.sz≤4194304→aD Tryz.prog 304 [t.v] (.c (.d (.b (nP t))))
 |0=>fun t h=>by omega
 |n+1=>by
  have ih:=yJ n
  intro t hn hsz S
  have iW:=ah.fD t
  have hts:=BI hsz
  refine aB (rs:=[.tmp 2]) Tryz.checked.mixed Tryz.func304 Tryz.ntmps304 rfl rfl rfl rfl rfl ?_
  refine W1 ?_
  refine aQ (ι:=Nat) Tryz.checked.mixed rfl [1,3] (fun i=>[.c (.ptr (0,0) 0),.c (.d (.i .i64 i))]) (fun _=>[.box [.d (.i .i64 t.aU),.d (.s t.fName),.d (.sl (t.fArgs.map ah.enc))]]::S)
   (fun i=>i≤t.fArgs.length∧qQ (t.fArgs.drop i)=qQ t.fArgs) (fun i=>t.fArgs.length-i) 0 rfl rfl ⟨Nat.zero_le _,rfl⟩ ?_
  rintro i ⟨p1,p2⟩
  refine W1 ?_
  refine S0 (fun hb h=>?_) fun hb h=>?_
  ·have hi:i<t.fArgs.length:=by omega
   rw[Kj hi] at p2
   refine W3 ?_
   refine C2 (ih t.fArgs[i] (by have:=List.sizeOf_lt_of_mem (List.getElem_mem hi);omega) (xg hi hsz).1) ?_
   refine S0 (fun hb h=>?_) fun hb h=>?_
   ·rw[Ak,←p2,h];simp
   ·exact bF (i+1) (by omega) rfl rfl ⟨by omega,by rw[←p2,h];rfl⟩
  ·have hi:i=t.fArgs.length:=by omega
   rw[hi,List.drop_length] at p2
   rw[Ak,←p2]
   exact ay (by simp[qQ,lZ])
theorem zB(t:ah)(hsz:t.sz≤4194304):aD Tryz.prog 304 [t.v] (.c (.d (.b (nP t)))):=yJ _ t (Nat.lt_succ_self _) hsz
theorem Kk(rest:List Ab.Obj)(cs:List C)(S:Store):Ai Tryz.prog 331 [((0,1),0)] (fun b:Bool=>(.box cs:: .box [.d (.b b)]::rest)::S) (fun _ _=>True) (fun b u=>b||decide (u.aU=3)) ah.v (fun u=>u.sz≤4194304):=by
 intro n b u _ hu
 refine⟨trivial,fun F=> ?_⟩
 refine aB (rs:=[]) Tryz.checked.mixed Tryz.func331 Tryz.ntmps331 rfl rfl rfl rfl rfl ?_
 refine W1 ?_
 cases b with
 |true=>
  refine W1 ?_
  rfl
 |false=>
  refine W1 ?_
  rfl
theorem zC(t:ah)(hsz:t.sz≤4194304):aD Tryz.prog 262 [t.v] (.c (.d (.b (nP t)))):=fun S=>by
 refine aB (rs:=[.tmp 2]) Tryz.checked.mixed Tryz.func262 Tryz.ntmps262 rfl rfl rfl rfl rfl ?_
 refine W1 ?_
 refine W3 ?_
 refine dR rfl (DJ hsz (Kk [] [.d (.i .i64 t.aU),.d (.s t.fName),.d (.sl (t.fArgs.map ah.enc))] S) 0 false trivial).2 ?_
 refine W1 ?_
 rw[ME]
 rfl
end Go.Proofs.YtcfhnaohbaplhaaGreatDoor
namespace Go.Proofs.YtcfhnaohbaplhaaGreatDoor
open Go Go.Ab
theorem qU{x:ah}{i:Nat}(hi:i<x.fArgs.length)(h:x.sz≤4194304):x.fArgs[i].sz≤4194304∧x.fArgs.length≤4194304∧x.fName.length≤4194304:=by
 have hx:x.fArgs[i].sz≤aI (x.fArgs.map ah.enc):=bD (List.mem_map_of_mem (List.getElem_mem hi))
 simp only[ah.sz,ah.aH,bL,D.sz,List.length_map] at h
 omega
theorem yK{x:ah}(h:x.sz≤4194304):x.fArgs.length≤4194304∧x.fName.length≤4194304:=by
 simp only[ah.sz,ah.aH,bL,D.sz,List.length_map] at h
 omega
theorem kr:∀{ts:List ah} {i:Nat} (hi:i<ts.length),ah.dQ (ts.drop i)=ts[i].cnt+ah.dQ (ts.drop (i+1)):=fun {ts} {i} hi=>by
 rw[List.drop_eq_getElem_cons hi,ah.dQ]
theorem DK:∀{ts:List ah} {i:Nat} (hi:i<ts.length),depths (ts.drop i)=max (kQ ts[i]+1) (depths (ts.drop (i+1))):=fun {ts} {i} hi=>by
 rw[List.drop_eq_getElem_cons hi,depths]
theorem MH:∀{ts:List ah} {i:Nat} (hi:i<ts.length),iP (ts.drop i)=(formed ts[i]&&iP (ts.drop (i+1))):=fun {ts} {i} hi=>by
 rw[List.drop_eq_getElem_cons hi,iP]
theorem FW:∀n:Nat,∀x:ah,SizeOf.sizeOf x<n→∀l:Int,0≤l→l≤1073741824→x.sz≤4194304→aD Tryz.prog 341 [x.v,.c (.d (.i .i64 l))] (.c (.d (.i .i64 (cK l x.cnt))))
 |0=>fun x h=>by omega
 |n+1=>by
  have ih:=FW n
  intro x hn l h0 h1 hsz S
  have iW:=ah.fD x
  have hts:=yK hsz
  have hcn:=ah.mR x
  refine aB (rs:=[.tmp 4]) Tryz.checked.mixed Tryz.func341 Tryz.ntmps341 rfl rfl rfl rfl rfl ?_
  refine W1 ?_
  refine aQ (ι:=Nat×Int) Tryz.checked.mixed rfl [1,2,5] (fun y=>[.c (.d (.i .i64 y.2)),.c (.ptr (0,0) 0),.c (.d (.i .i64 y.1))]) (fun y=>[.box [.d (.i .i64 x.aU),.d (.s x.fName),.d (.sl (x.fArgs.map ah.enc))]]::S)
   (fun y=>y.1≤x.fArgs.length∧ -1≤y.2∧y.2≤1073741824∧(0≤y.2→cK l x.cnt=cK y.2 (ah.dQ (x.fArgs.drop y.1)))∧(y.2<0→cK l x.cnt= -1)) (fun y=>x.fArgs.length-y.1) (0,l-1) rfl rfl ⟨Nat.zero_le _,by simp only;omega,by simp only;omega,fun h=> ?_,fun h=> ?_⟩ ?_
  ·simp only[List.drop_zero] at h ⊢
   unfold cK
   rw[hcn]
   split<;>split<;>omega
  ·simp only at h
   exact bV (by omega)
  rintro⟨i,c⟩ ⟨p1,p2,p3,p4,p5⟩
  simp only at p1 p2 p3 p4 p5
  refine W1 ?_
  refine S0 (fun hb h=>?_) fun hb h=>?_
  ·have hi:i<x.fArgs.length:=by omega
   refine S0 (fun hb h=>?_) fun hb h=>?_
   ·have hsz':=qU hi hsz
    have p6:=p4 h
    rw[kr hi] at p6
    refine W3 ?_
    refine C2 (ih x.fArgs[i] (by have:=List.sizeOf_lt_of_mem (List.getElem_mem hi);omega) c (by omega) (by omega) (by omega)) ?_
    refine bF (i+1,cK c _) (by simp only;omega) rfl rfl ⟨by simp only;omega,?_,?_,fun h=> ?_,fun h=> ?_⟩
    ·simp only;unfold cK;split<;>omega
    ·simp only;unfold cK;split<;>omega
    ·simp only at h ⊢
     rw[p6]
     have:=dP (l:=c) (a:=x.fArgs[i].cnt) (by omega)
     rw[this.1]
     unfold cK
     split<;>split<;>omega
    ·simp only at h ⊢
     rw[p6]
     have:=dB h
     exact bV (by omega)
   ·have hc:c= -1:=by omega
    rw[p5 (by omega),hc]
  ·have hi:i=x.fArgs.length:=by omega
   by_cases hc:0≤c
   ·rw[p4 hc,hi,List.drop_length,ah.dQ,fA (by omega)]
    exact int_eq (by simp)
   ·rw[p5 (by omega)]
    exact int_eq (by omega)
theorem UK(x:ah)(l:Int)(h0:0≤l)(h1:l≤1073741824)(hsz:x.sz≤4194304):aD Tryz.prog 341 [x.v,.c (.d (.i .i64 l))] (.c (.d (.i .i64 (cK l x.cnt)))):=FW _ x (Nat.lt_succ_self _) l h0 h1 hsz
theorem MI(a b:Int):aD Tryz.prog 237 [.c (.d (.i .i64 a)),.c (.d (.i .i64 b))] (.c (.d (.i .i64 (max a b)))):=fun S=>by
 refine aB (rs:=[.tmp 4]) Tryz.checked.mixed Tryz.func237 Tryz.ntmps237 rfl rfl rfl rfl rfl ?_
 refine W1 ?_
 refine S0 (fun hb h=>?_) fun hb h=>?_
 ·exact int_eq (by omega)
 ·exact int_eq (by omega)
theorem Ba:∀n:Nat,∀x:ah,SizeOf.sizeOf x<n→x.sz≤4194304→aD Tryz.prog 342 [x.v] (.c (.d (.i .i64 (kQ x))))
 |0=>fun x h=>by omega
 |n+1=>by
  have ih:=Ba n
  intro x hn hsz S
  have iW:=ah.fD x
  have hts:=yK hsz
  have hd1:=vT x
  have hd2:=jU x
  refine aB (rs:=[.tmp 2]) Tryz.checked.mixed Tryz.func342 Tryz.ntmps342 rfl rfl rfl rfl rfl ?_
  refine W1 ?_
  refine aQ (ι:=Nat×Nat) Tryz.checked.mixed rfl [1,3,4] (fun y=>[.c (.ptr (0,0) 0),.c (.d (.i .i64 y.2)),.c (.d (.i .i64 y.1))]) (fun y=>[.box [.d (.i .i64 x.aU),.d (.s x.fName),.d (.sl (x.fArgs.map ah.enc))]]::S)
   (fun y=>y.1≤x.fArgs.length∧kQ x=max y.2 (depths (x.fArgs.drop y.1))) (fun y=>x.fArgs.length-y.1) (0,0) rfl rfl ⟨Nat.zero_le _,by simp[Jv]⟩ ?_
  rintro⟨i,c⟩ ⟨p1,p2⟩
  simp only at p1 p2
  refine W1 ?_
  refine S0 (fun hb h=>?_) fun hb h=>?_
  ·have hi:i<x.fArgs.length:=by omega
   have hsz':=qU hi hsz
   rw[DK hi] at p2
   have hd3:=vT x.fArgs[i]
   have hd4:=jU x.fArgs[i]
   refine W3 ?_
   refine C2 (ih x.fArgs[i] (by have:=List.sizeOf_lt_of_mem (List.getElem_mem hi);omega) (by omega)) ?_
   refine C2 (MI _ _) ?_
   rw[show max (c:Int) (1+(kQ x.fArgs[i]:Int))=((max c (1+kQ x.fArgs[i]):Nat):Int) by omega]
   exact bF (i+1,max c (1+kQ x.fArgs[i])) (by simp only;omega) rfl rfl ⟨by simp only;omega,by simp only;omega⟩
  ·have hi:i=x.fArgs.length:=by omega
   rw[hi,List.drop_length,depths] at p2
   exact int_eq (by omega)
theorem MJ(x:ah)(hsz:x.sz≤4194304):aD Tryz.prog 342 [x.v] (.c (.d (.i .i64 (kQ x)))):=Ba _ x (Nat.lt_succ_self _) hsz
theorem Bb:∀n:Nat,∀x:ah,SizeOf.sizeOf x<n→x.sz≤4194304→aD Tryz.prog 361 [x.v] (.c (.d (.i .i64 (kQ x))))
 |0=>fun x h=>by omega
 |n+1=>by
  have ih:=Bb n
  intro x hn hsz S
  have iW:=ah.fD x
  have hts:=yK hsz
  have hd1:=vT x
  have hd2:=jU x
  refine aB (rs:=[.tmp 2]) Tryz.checked.mixed Tryz.func361 Tryz.ntmps361 rfl rfl rfl rfl rfl ?_
  refine W1 ?_
  refine aQ (ι:=Nat×Nat) Tryz.checked.mixed rfl [3,7,8,9] (fun y=>[.c (.d (.i .i64 y.2)),.c (.d (.sl (x.fArgs.map ah.enc))),.c (.d (.i .i64 x.fArgs.length)),.c (.d (.i .i64 y.1))]) (fun y=>[.box [.d (.i .i64 x.aU),.d (.s x.fName),.d (.sl (x.fArgs.map ah.enc))]]::S)
   (fun y=>y.1≤x.fArgs.length∧kQ x=max y.2 (depths (x.fArgs.drop y.1))) (fun y=>x.fArgs.length-y.1) (0,0) rfl rfl ⟨Nat.zero_le _,by simp[Jv]⟩ ?_
  rintro⟨i,c⟩ ⟨p1,p2⟩
  simp only at p1 p2
  refine W1 ?_
  refine S0 (fun hb h=>?_) fun hb h=>?_
  ·have hi:i<x.fArgs.length:=by omega
   have hsz':=qU hi hsz
   rw[DK hi] at p2
   have hd3:=vT x.fArgs[i]
   have hd4:=jU x.fArgs[i]
   refine W3 ?_
   refine C2 (ih x.fArgs[i] (by have:=List.sizeOf_lt_of_mem (List.getElem_mem hi);omega) (by omega)) ?_
   rw[show max (c:Int) ((kQ x.fArgs[i]:Int)+1)=((max c (kQ x.fArgs[i]+1):Nat):Int) by omega]
   exact cu 1 (by decide) (i+1,max c (kQ x.fArgs[i]+1)) (by simp only;omega) rfl rfl rfl rfl ⟨by simp only;omega,by simp only;omega⟩
  ·have hi:i=x.fArgs.length:=by omega
   rw[hi,List.drop_length,depths] at p2
   exact int_eq (by omega)
theorem MK(x:ah)(hsz:x.sz≤4194304):aD Tryz.prog 361 [x.v] (.c (.d (.i .i64 (kQ x)))):=Bb _ x (Nat.lt_succ_self _) hsz
theorem BK:∀n:Nat,∀x:ah,SizeOf.sizeOf x<n→x.sz≤4194304→aD Tryz.prog 362 [x.v] (.c (.d (.i .i64 x.cnt)))
 |0=>fun x h=>by omega
 |n+1=>by
  have ih:=BK n
  intro x hn hsz S
  have iW:=ah.fD x
  have hts:=yK hsz
  have hd2:=jU x
  refine aB (rs:=[.tmp 2]) Tryz.checked.mixed Tryz.func362 Tryz.ntmps362 rfl rfl rfl rfl rfl ?_
  refine W1 ?_
  refine aQ (ι:=Nat×Nat) Tryz.checked.mixed rfl [3,7,8,9] (fun y=>[.c (.d (.i .i64 y.2)),.c (.d (.sl (x.fArgs.map ah.enc))),.c (.d (.i .i64 x.fArgs.length)),.c (.d (.i .i64 y.1))]) (fun y=>[.box [.d (.i .i64 x.aU),.d (.s x.fName),.d (.sl (x.fArgs.map ah.enc))]]::S)
   (fun y=>y.1≤x.fArgs.length∧x.cnt=y.2+ah.dQ (x.fArgs.drop y.1)) (fun y=>x.fArgs.length-y.1) (0,1) rfl rfl ⟨Nat.zero_le _,by simp[ah.mR]⟩ ?_
  rintro⟨i,c⟩ ⟨p1,p2⟩
  simp only at p1 p2
  refine W1 ?_
  refine S0 (fun hb h=>?_) fun hb h=>?_
  ·have hi:i<x.fArgs.length:=by omega
   have hsz':=qU hi hsz
   rw[kr hi] at p2
   refine W3 ?_
   refine C2 (ih x.fArgs[i] (by have:=List.sizeOf_lt_of_mem (List.getElem_mem hi);omega) (by omega)) ?_
   rw[show(c:Int)+(x.fArgs[i].cnt:Int)=((c+x.fArgs[i].cnt:Nat):Int) by omega]
   exact cu 1 (by decide) (i+1,c+x.fArgs[i].cnt) (by simp only;omega) rfl rfl rfl rfl ⟨by simp only;omega,by simp only;omega⟩
  ·have hi:i=x.fArgs.length:=by omega
   rw[hi,List.drop_length,ah.dQ] at p2
   exact int_eq (by omega)
theorem OD(x:ah)(hsz:x.sz≤4194304):aD Tryz.prog 362 [x.v] (.c (.d (.i .i64 x.cnt))):=BK _ x (Nat.lt_succ_self _) hsz
theorem BL:∀n:Nat,(∀x:ah,SizeOf.sizeOf x<n→x.sz≤4194304→aD Tryz.prog 360 [x.v] (.c (.d (.b (formed x)))))∧
 (∀xs:List ah,SizeOf.sizeOf xs<n→xs.length≤4194304→(∀t∈xs,t.sz≤4194304)→aD Tryz.prog 327 [.c (.d (.sl (xs.map ah.enc))),.c (.fn 381 [])] (.c (.d (.b (!iP xs)))))
 |0=>⟨fun x h=>by omega,fun x h=>by omega⟩
 |n+1=>by
  obtain⟨ih,BM⟩:=BL n
  refine⟨fun x hn hsz S=> ?_,fun xs hn hlen hsz S=> ?_⟩
  ·have iW:=ah.fD x
   have hts:=yK hsz
   have fin:∀b,wU x.aU x.fName x.fArgs.length=b→formed x=(b&&iP x.fArgs):=fun b hb=>by rw[←hb];exact sO x
   have hall:∀t∈x.fArgs,t.sz≤4194304:=fun t ht=>by
    obtain⟨i,hi,e⟩:=List.getElem_of_mem ht
    rw[←e];exact(qU hi hsz).1
   have tail:=BM x.fArgs (by omega) hts.1 hall
   have yes:wU x.aU x.fName x.fArgs.length=true→formed x= !(!iP x.fArgs):=fun h=>by rw[fin _ h];simp
   have no:wU x.aU x.fName x.fArgs.length=false→formed x=false:=fun h=>by rw[fin _ h];simp
   have shut:¬((x.aU=1∨x.aU=4)∧validName x.fName=true∧x.fArgs.length=0∨x.aU=3∧validName x.fName=true∧x.fArgs.length=1∨x.aU=2∧(validName x.fName=true∧x.fArgs.length≤3∨sw x.fName=true∧x.fArgs.length=0))→V.c (.d (.b false))=V.c (.d (.b (formed x))):=fun h=>ay (no (aC h)).symm
   have open_:((x.aU=1∨x.aU=4)∧validName x.fName=true∧x.fArgs.length=0∨x.aU=3∧validName x.fName=true∧x.fArgs.length=1∨x.aU=2∧(validName x.fName=true∧x.fArgs.length≤3∨sw x.fName=true∧x.fArgs.length=0))→V.c (.d (.b (!(!iP x.fArgs))))=V.c (.d (.b (formed x))):=fun h=>ay (yes (bq h)).symm
   clear yes no fin
   refine aB (rs:=[.tmp 2]) Tryz.checked.mixed Tryz.func360 Tryz.ntmps360 rfl rfl rfl rfl rfl ?_
   refine W1 ?_
   repeat' (first
    |(refine S0 (fun hb h=>?_) fun hb h=>?_)
    |(refine bN (fP x.fName (by omega)) ?_;refine W1 ?_)
    |(refine bN (MG x.fName) ?_;refine W1 ?_)
    |(refine bN tail ?_;refine W1 ?_))
   all_goals first
    |(refine shut (fun y=> ?_);rcases y with⟨_,_,_⟩|⟨_,_,_⟩|⟨_,⟨_,_⟩|⟨_,_⟩⟩<;>first|omega|(simp_all;done))
    |(refine open_ ?_;first
       |exact .inl ⟨by omega,by assumption,by omega⟩
       |exact .inr (.inl ⟨by omega,by assumption,by omega⟩)
       |exact .inr (.inr ⟨by omega,.inl ⟨by assumption,by omega⟩⟩)
       |exact .inr (.inr ⟨by omega,.inr ⟨by assumption,by omega⟩⟩))
  ·have hcl:∀y∈xs,aD Tryz.prog 381 [y.v] (.c (.d (.b (!formed y)))):=fun y hy S=>by
    have hys:=List.sizeOf_lt_of_mem hy
    refine aB (rs:=[.tmp 2]) Tryz.checked.mixed Tryz.func381 Tryz.ntmps381 rfl rfl rfl rfl rfl ?_
    refine W1 ?_
    exact C4 (ih y (by omega) (hsz y hy))
   have hidx:aD Tryz.prog 359 [.c (.d (.sl (xs.map ah.enc))),.c (.fn 381 [])] (.c (.d (.i .i64 (oO (fun y=> !formed y) xs)))):=fun S=>by
    refine aB (rs:=[.tmp 4]) Tryz.checked.mixed Tryz.func359 Tryz.ntmps359 rfl rfl rfl rfl rfl ?_
    refine W1 ?_
    refine aQ (ι:=Nat) Tryz.checked.mixed rfl [0,1,7,8] (fun i=>[.c (.d (.sl (xs.map ah.enc))),.c (.fn 381 []),.c (.d (.i .i64 xs.length)),.c (.d (.i .i64 i))]) (fun _=>[]::S)
     (fun i=>i≤xs.length∧∀j,∀hj:j<xs.length,j<i→formed xs[j]=true) (fun i=>xs.length-i) 0 rfl rfl ⟨Nat.zero_le _,fun j _ h=>by omega⟩ ?_
    rintro i ⟨p1,p2⟩
    refine W1 ?_
    refine S0 (fun hb h=>?_) fun hb h=>?_
    ·have hi:i<xs.length:=by omega
     refine W3 ?_
     refine C2 (hcl xs[i] (List.getElem_mem hi)) ?_
     refine S0 (fun hb h=>?_) fun hb h=>?_
     ·rw[ou hi (fun j hj hji=>by rw[p2 j hj hji];rfl) (by rw[h];rfl)]
     ·refine bF (i+1) (by omega) rfl rfl ⟨by omega,fun j hj hji=> ?_⟩
      by_cases e:j=i
      ·subst e;exact h
      ·exact p2 j hj (by omega)
    ·rw[qP (fun j hj=>by rw[p2 j hj (by omega)];rfl)]
   refine aB (rs:=[.tmp 4]) Tryz.checked.mixed Tryz.func327 Tryz.ntmps327 rfl rfl rfl rfl rfl ?_
   refine W1 ?_
   refine C2 (hidx) ?_
   rw[←DF]
   exact ay pK
theorem OE(x:ah)(hsz:x.sz≤4194304):aD Tryz.prog 360 [x.v] (.c (.d (.b (formed x)))):=(BL _).1 x (Nat.lt_succ_self _) hsz
theorem sD(x:ah)(hsz:x.sz≤4194304):aD Tryz.prog 329 [x.v] (.c (.d (.b (kZ x)))):=fun S=>by
 refine aB (rs:=[.tmp 2]) Tryz.checked.mixed Tryz.func329 Tryz.ntmps329 rfl rfl rfl rfl rfl ?_
 refine W1 ?_
 refine C2 (OE x hsz) ?_
 refine S0 (fun hb h=>?_) fun hb h=>?_
 ·have h1:=h
  refine C2 (MK x hsz) ?_
  refine S0 (fun hb h=>?_) fun hb h=>?_
  ·refine C2 (OD x hsz) ?_
   exact ay (by rw[lU];exact gN ⟨fun y=>⟨h1,by omega,by omega⟩,fun y=>by have:=y.2.2;omega⟩)
  ·exact ay (aC fun y=>by have:=y.2.1;omega).symm
 ·exact ay (aC fun y=>by rw[y.1] at h;cases h).symm
set_option maxHeartbeats 1000000 in
theorem FX:∀n:Nat,∀x:ah,SizeOf.sizeOf x<n→x.sz≤4194304→aD Tryz.prog 343 [x.v] (.c (.d (.b (formed x))))
 |0=>fun x h=>by omega
 |n+1=>by
  have ih:=FX n
  intro x hn hsz S
  have iW:=ah.fD x
  have hts:=yK hsz
  have shut:¬((x.aU=1∨x.aU=4)∧validName x.fName=true∧x.fArgs.length=0∨x.aU=3∧validName x.fName=true∧x.fArgs.length=1∨x.aU=2∧(validName x.fName=true∧x.fArgs.length≤3∨sw x.fName=true∧x.fArgs.length=0))→V.c (.d (.b false))=V.c (.d (.b (formed x))):=fun h=>ay (by rw[sO,show wU x.aU x.fName x.fArgs.length=false from aC h];rfl)
  have adh:∀b:Bool,(b=true↔((x.aU=1∨x.aU=4)∧validName x.fName=true∧x.fArgs.length=0∨x.aU=3∧validName x.fName=true∧x.fArgs.length=1∨x.aU=2∧(validName x.fName=true∧x.fArgs.length≤3∨sw x.fName=true∧x.fArgs.length=0)))→b=wU x.aU x.fName x.fArgs.length:=fun b h=>by
   rw[Bool.eq_iff_iff,h]
   unfold wU
   rw[vF]
  refine aB (rs:=[.tmp 2]) Tryz.checked.mixed Tryz.func343 Tryz.ntmps343 rfl rfl rfl rfl rfl ?_
  refine W1 ?_
  refine C2 (fQ x.fName (by omega)) ?_
  repeat' (first
   |(refine S0 (fun hb h=>?_) fun hb h=>?_)
   |(refine bN (UJ x.fName) ?_;refine W1 ?_))
  all_goals first
   |(refine shut (fun y=> ?_);rcases y with⟨_,_,_⟩|⟨_,_,_⟩|⟨_,⟨_,_⟩|⟨_,_⟩⟩<;>first|omega|(simp_all;done))
   |skip
  all_goals
   refine aQ (ι:=Nat×Bool) Tryz.checked.mixed rfl [1,3,4] (fun y=>[.c (.ptr (0,0) 0),.c (.d (.b y.2)),.c (.d (.i .i64 y.1))]) (fun y=>[.box [.d (.i .i64 x.aU),.d (.s x.fName),.d (.sl (x.fArgs.map ah.enc))]]::S)
    (fun y=>y.1≤x.fArgs.length∧(y.2&&iP (x.fArgs.drop y.1))=formed x) (fun y=>x.fArgs.length-y.1) (0,wU x.aU x.fName x.fArgs.length) ?_ rfl ⟨Nat.zero_le _,by rw[sO];rfl⟩ ?_
   ·simp only[List.map_cons,List.map_nil]
    simp -implicitDefEqProofs (disch:=omega) only[go_sem,List.cons.injEq,V.c.injEq,C.d.injEq,D.b.injEq,Int.natCast_zero]
    refine adh _ ⟨fun y=> ?_,fun y=> ?_⟩
    ·(try simp only[decide_eq_true_eq,Bool.false_eq_true] at y)<;>first
       |exact .inl ⟨by omega,by assumption,by omega⟩
       |exact .inr (.inl ⟨by omega,by assumption,by omega⟩)
       |exact .inr (.inr ⟨by omega,.inl ⟨by assumption,by omega⟩⟩)
       |exact .inr (.inr ⟨by omega,.inr ⟨by assumption,by omega⟩⟩)
    ·rcases y with⟨_,_,_⟩|⟨_,_,_⟩|⟨_,⟨_,_⟩|⟨_,_⟩⟩<;>first|omega|(simp only[decide_eq_true_eq];omega)|(simp_all;done)
   rintro⟨i,c⟩ ⟨p1,p2⟩
   simp only at p1 p2
   refine W1 ?_
   refine S0 (fun hb h=>?_) fun hb h=>?_
   ·have hi:i<x.fArgs.length:=by omega
    have hsz':=qU hi hsz
    rw[MH hi] at p2
    refine S0 (fun hb h=>?_) fun hb h=>?_
    ·refine C1 (ih x.fArgs[i] (by have:=List.sizeOf_lt_of_mem (List.getElem_mem hi);omega) (by omega)) ?_
     exact bF (i+1,formed x.fArgs[i]) (by simp only;omega) rfl rfl ⟨by simp only;omega,by rw[←p2,h];rfl⟩
    ·exact bF (i+1,false) (by simp only;omega) rfl rfl ⟨by simp only;omega,by rw[←p2,h];rfl⟩
   ·have hi:i=x.fArgs.length:=by omega
    rw[hi,List.drop_length,iP,Bool.and_true] at p2
    rw[p2]
theorem UL(x:ah)(hsz:x.sz≤4194304):aD Tryz.prog 343 [x.v] (.c (.d (.b (formed x)))):=FX _ x (Nat.lt_succ_self _) hsz
theorem sF(x:ah)(hsz:x.sz≤4194304):aD Tryz.prog 283 [x.v] (.c (.d (.b (kZ x)))):=fun S=>by
 refine aB (rs:=[.tmp 2]) Tryz.checked.mixed Tryz.func283 Tryz.ntmps283 rfl rfl rfl rfl rfl ?_
 refine W1 ?_
 refine C2 (UK x 60 (by omega) (by omega) hsz) ?_
 refine S0 (fun hb h=>?_) fun hb h=>?_
 ·have h1:=(dP (l:=60) (a:=x.cnt) (by omega)).2
  refine C2 (MJ x hsz) ?_
  refine S0 (fun hb h=>?_) fun hb h=>?_
  ·refine C2 (UL x hsz) ?_
   refine ay ?_
   cases hf:formed x with
   |false=>exact(aC fun y=>by rw[hf] at y;cases y.1).symm
   |true=>exact(bq ⟨hf,by omega,by omega⟩).symm
  ·exact ay (aC fun y=>by have:=y.2.1;omega).symm
 ·have h1:=dB (l:=60) (a:=x.cnt) (by omega)
  exact ay (aC fun y=>by have:=y.2.2;omega).symm
theorem Dl(x:bA)(hn:x.bI.length≤1073741824)(hsz:x.fType.sz≤4194304):aD Tryz.prog 353 [x.v] (.c (.d (.b (validName x.bI&&kZ x.fType)))):=fun S=>by
 refine aB (rs:=[.tmp 2]) Tryz.checked.mixed Tryz.func353 Tryz.ntmps353 rfl rfl rfl rfl rfl ?_
 refine W1 ?_
 refine C2 (fQ x.bI hn) ?_
 refine S0 (fun hb h=>?_) fun hb h=>?_
 ·exact C4 (sF x.fType hsz)
 ·rfl
theorem Dm(x:bA)(hn:x.bI.length≤1073741824)(hsz:x.fType.sz≤4194304):aD Tryz.prog 336 [x.v] (.c (.d (.b (validName x.bI&&kZ x.fType)))):=fun S=>by
 refine aB (rs:=[.tmp 2]) Tryz.checked.mixed Tryz.func336 Tryz.ntmps336 rfl rfl rfl rfl rfl ?_
 refine W1 ?_
 refine C2 (fP x.bI hn) ?_
 refine S0 (fun hb h=>?_) fun hb h=>?_
 ·exact C4 (sD x.fType hsz)
 ·rfl
end Go.Proofs.YtcfhnaohbaplhaaGreatDoor
namespace Go.Proofs.YtcfhnaohbaplhaaGreatDoor
open Go Go.Ab
theorem Ei(g:Nat)(xs ys:List au)(hl:xs.length≤1073741824)(hg:∀x∈xs,∀y,aD Tryz.prog g [x.v,y.v] (.c (.d (.b (dec (x=y)))))):
 aD Tryz.prog 376 [.c (.d (.sl (xs.map au.enc))),.c (.d (.sl (ys.map au.enc))),.c (.fn g [])] (.c (.d (.b (dec (xs=ys))))):=fun S=>by
 refine aB (rs:=[.tmp 6]) Tryz.checked.mixed Tryz.func376 Tryz.ntmps376 rfl rfl rfl rfl rfl ?_
 refine W1 ?_
 refine S0 (fun hb h=>?_) fun hb h=>?_
 ·exact ay (aC (fun e=>h (by rw[e]))).symm
 have hl':xs.length=ys.length:=by omega
 refine aQ (ι:=Nat) Tryz.checked.mixed rfl [1,2,15,16,17] (fun y=>[.c (.d (.sl (ys.map au.enc))),.c (.fn g []),.c (.d (.sl (xs.map au.enc))),.c (.d (.i .i64 xs.length)),.c (.d (.i .i64 y))]) (fun y=>[]::S)
  (fun i=>i≤xs.length∧∀j,j<i→xs[j]? =ys[j]?) (fun y=>xs.length-y) 0 rfl rfl ⟨Nat.zero_le _,fun j h=>by omega⟩ ?_
 rintro i ⟨p1,p2⟩
 refine W1 ?_
 refine S0 (fun hb h=>?_) fun hb h=>?_
 ·have hi:i<xs.length:=by omega
  have hi':i<ys.length:=by omega
  refine W3 ?_
  refine C1 (hg xs[i] (List.getElem_mem hi) ys[i]) ?_
  refine S0 (fun hb h=>?_) fun hb h=>?_
  ·exact ay (aC (fun e=>h (by simp only[e]))).symm
  refine cu 0 (by decide) (i+1) (by omega) rfl rfl rfl rfl ⟨by omega,fun j hj=> ?_⟩
  by_cases e:j=i
  ·subst e
   rw[List.getElem?_eq_getElem hi,List.getElem?_eq_getElem hi',h]
  ·exact p2 j (by omega)
 ·have hi:i=xs.length:=by omega
  refine ay (bq (List.ext_getElem? fun j=> ?_)).symm
  by_cases hj:j<i
  ·exact p2 j hj
  ·rw[List.getElem?_eq_none (by omega),List.getElem?_eq_none (by omega)]
theorem FY(g:Nat)(xs ys:List aX)(hl:xs.length≤1073741824)(hg:∀x∈xs,∀y,aD Tryz.prog g [x.v,y.v] (.c (.d (.b (dec (x=y)))))):
 aD Tryz.prog 377 [.c (.d (.sl (xs.map aX.enc))),.c (.d (.sl (ys.map aX.enc))),.c (.fn g [])] (.c (.d (.b (dec (xs=ys))))):=fun S=>by
 refine aB (rs:=[.tmp 6]) Tryz.checked.mixed Tryz.func377 Tryz.ntmps377 rfl rfl rfl rfl rfl ?_
 refine W1 ?_
 refine S0 (fun hb h=>?_) fun hb h=>?_
 ·exact ay (aC (fun e=>h (by rw[e]))).symm
 have hl':xs.length=ys.length:=by omega
 refine aQ (ι:=Nat) Tryz.checked.mixed rfl [1,2,15,16,17] (fun y=>[.c (.d (.sl (ys.map aX.enc))),.c (.fn g []),.c (.d (.sl (xs.map aX.enc))),.c (.d (.i .i64 xs.length)),.c (.d (.i .i64 y))]) (fun y=>[]::S)
  (fun i=>i≤xs.length∧∀j,j<i→xs[j]? =ys[j]?) (fun y=>xs.length-y) 0 rfl rfl ⟨Nat.zero_le _,fun j h=>by omega⟩ ?_
 rintro i ⟨p1,p2⟩
 refine W1 ?_
 refine S0 (fun hb h=>?_) fun hb h=>?_
 ·have hi:i<xs.length:=by omega
  have hi':i<ys.length:=by omega
  refine W3 ?_
  refine C1 (hg xs[i] (List.getElem_mem hi) ys[i]) ?_
  refine S0 (fun hb h=>?_) fun hb h=>?_
  ·exact ay (aC (fun e=>h (by simp only[e]))).symm
  refine cu 0 (by decide) (i+1) (by omega) rfl rfl rfl rfl ⟨by omega,fun j hj=> ?_⟩
  by_cases e:j=i
  ·subst e
   rw[List.getElem?_eq_getElem hi,List.getElem?_eq_getElem hi',h]
  ·exact p2 j (by omega)
 ·have hi:i=xs.length:=by omega
  refine ay (bq (List.ext_getElem? fun j=> ?_)).symm
  by_cases hj:j<i
  ·exact p2 j hj
  ·rw[List.getElem?_eq_none (by omega),List.getElem?_eq_none (by omega)]
theorem Ej(g:Nat)(caps:List (Key×Nat))(S:Store)(xs:List ah)(p:ah→Bool)(hl:xs.length≤1073741824)(hp:∀x∈xs,lT Tryz.prog g caps S [x.v] (.c (.d (.b (p x))))):
 dF Tryz.prog 359 [.c (.d (.sl (xs.map ah.enc))),.c (.fn g caps)] S (fun r S'=>r=.c (.d (.i .i64 (oO p xs)))∧S'=S):=by
 refine aB (rs:=[.tmp 4]) Tryz.checked.mixed Tryz.func359 Tryz.ntmps359 rfl rfl rfl rfl rfl ?_
 refine W1 ?_
 refine aQ (ι:=Nat) Tryz.checked.mixed rfl [0,1,7,8] (fun i=>[.c (.d (.sl (xs.map ah.enc))),.c (.fn g (iF 1 caps)),.c (.d (.i .i64 xs.length)),.c (.d (.i .i64 i))]) (fun _=>[]::S)
  (fun i=>i≤xs.length∧∀j,∀hj:j<xs.length,j<i→p xs[j]=false) (fun i=>xs.length-i) 0 rfl rfl ⟨Nat.zero_le _,fun j _ h=>by omega⟩ ?_
 rintro i ⟨p1,p2⟩
 refine W1 ?_
 refine S0 (fun hb h=>?_) fun hb h=>?_
 ·have hi:i<xs.length:=by omega
  refine W3 ?_
  refine dR rfl (hp xs[i] (List.getElem_mem hi) [_]) ?_
  refine W1 ?_
  refine S0 (fun hb h=>?_) fun hb h=>?_
  ·rw[ou hi p2 h]
  ·refine bF (i+1) (by omega) rfl rfl ⟨by omega,fun j hj hji=> ?_⟩
   by_cases e:j=i
   ·subst e;exact h
   ·exact p2 j hj (by omega)
 ·rw[qP (fun j hj=>p2 j hj (by omega))]
theorem Bl(g:Nat)(caps:List (Key×Nat))(S:Store)(xs:List ah)(p:ah→Bool)(hl:xs.length≤1073741824)(hp:∀x∈xs,lT Tryz.prog g caps S [x.v] (.c (.d (.b (p x))))):
 dF Tryz.prog 327 [.c (.d (.sl (xs.map ah.enc))),.c (.fn g caps)] S (fun r S'=>r=.c (.d (.b (xs.any p)))∧S'=S):=by
 refine aB (rs:=[.tmp 4]) Tryz.checked.mixed Tryz.func327 Tryz.ntmps327 rfl rfl rfl rfl rfl ?_
 refine W1 ?_
 refine dR rfl (Ej g (iF 1 caps) _ xs p hl fun x hx=>(hp x hx).push _) ?_
 refine W1 ?_
 exact ay pK
theorem El(g:Nat)(caps:List (Key×Nat))(S:Store)(xs:List au)(p:au→Bool)(hl:xs.length≤1073741824)(hp:∀x∈xs,lT Tryz.prog g caps S [x.v] (.c (.d (.b (p x))))):
 dF Tryz.prog 346 [.c (.d (.sl (xs.map au.enc))),.c (.fn g caps)] S (fun r S'=>r=.c (.d (.i .i64 (oO p xs)))∧S'=S):=by
 refine aB (rs:=[.tmp 4]) Tryz.checked.mixed Tryz.func346 Tryz.ntmps346 rfl rfl rfl rfl rfl ?_
 refine W1 ?_
 refine aQ (ι:=Nat) Tryz.checked.mixed rfl [0,1,7,8] (fun i=>[.c (.d (.sl (xs.map au.enc))),.c (.fn g (iF 1 caps)),.c (.d (.i .i64 xs.length)),.c (.d (.i .i64 i))]) (fun _=>[]::S)
  (fun i=>i≤xs.length∧∀j,∀hj:j<xs.length,j<i→p xs[j]=false) (fun i=>xs.length-i) 0 rfl rfl ⟨Nat.zero_le _,fun j _ h=>by omega⟩ ?_
 rintro i ⟨p1,p2⟩
 refine W1 ?_
 refine S0 (fun hb h=>?_) fun hb h=>?_
 ·have hi:i<xs.length:=by omega
  refine W3 ?_
  refine dR rfl (hp xs[i] (List.getElem_mem hi) [_]) ?_
  refine W1 ?_
  refine S0 (fun hb h=>?_) fun hb h=>?_
  ·rw[ou hi p2 h]
  ·refine bF (i+1) (by omega) rfl rfl ⟨by omega,fun j hj hji=> ?_⟩
   by_cases e:j=i
   ·subst e;exact h
   ·exact p2 j hj (by omega)
 ·rw[qP (fun j hj=>p2 j hj (by omega))]
theorem Bn(g:Nat)(caps:List (Key×Nat))(S:Store)(xs:List au)(p:au→Bool)(hl:xs.length≤1073741824)(hp:∀x∈xs,lT Tryz.prog g caps S [x.v] (.c (.d (.b (p x))))):
 dF Tryz.prog 286 [.c (.d (.sl (xs.map au.enc))),.c (.fn g caps)] S (fun r S'=>r=.c (.d (.b (xs.any p)))∧S'=S):=by
 refine aB (rs:=[.tmp 4]) Tryz.checked.mixed Tryz.func286 Tryz.ntmps286 rfl rfl rfl rfl rfl ?_
 refine W1 ?_
 refine dR rfl (El g (iF 1 caps) _ xs p hl fun x hx=>(hp x hx).push _) ?_
 refine W1 ?_
 exact ay pK
theorem FZ(g:Nat)(caps:List (Key×Nat))(S:Store)(xs:List aX)(p:aX→Bool)(hl:xs.length≤1073741824)(hp:∀x∈xs,lT Tryz.prog g caps S [x.v] (.c (.d (.b (p x))))):
 dF Tryz.prog 347 [.c (.d (.sl (xs.map aX.enc))),.c (.fn g caps)] S (fun r S'=>r=.c (.d (.i .i64 (oO p xs)))∧S'=S):=by
 refine aB (rs:=[.tmp 4]) Tryz.checked.mixed Tryz.func347 Tryz.ntmps347 rfl rfl rfl rfl rfl ?_
 refine W1 ?_
 refine aQ (ι:=Nat) Tryz.checked.mixed rfl [0,1,7,8] (fun i=>[.c (.d (.sl (xs.map aX.enc))),.c (.fn g (iF 1 caps)),.c (.d (.i .i64 xs.length)),.c (.d (.i .i64 i))]) (fun _=>[]::S)
  (fun i=>i≤xs.length∧∀j,∀hj:j<xs.length,j<i→p xs[j]=false) (fun i=>xs.length-i) 0 rfl rfl ⟨Nat.zero_le _,fun j _ h=>by omega⟩ ?_
 rintro i ⟨p1,p2⟩
 refine W1 ?_
 refine S0 (fun hb h=>?_) fun hb h=>?_
 ·have hi:i<xs.length:=by omega
  refine W3 ?_
  refine dR rfl (hp xs[i] (List.getElem_mem hi) [_]) ?_
  refine W1 ?_
  refine S0 (fun hb h=>?_) fun hb h=>?_
  ·rw[ou hi p2 h]
  ·refine bF (i+1) (by omega) rfl rfl ⟨by omega,fun j hj hji=> ?_⟩
   by_cases e:j=i
   ·subst e;exact h
   ·exact p2 j hj (by omega)
 ·rw[qP (fun j hj=>p2 j hj (by omega))]
theorem BN(g:Nat)(caps:List (Key×Nat))(S:Store)(xs:List aX)(p:aX→Bool)(hl:xs.length≤1073741824)(hp:∀x∈xs,lT Tryz.prog g caps S [x.v] (.c (.d (.b (p x))))):
 dF Tryz.prog 288 [.c (.d (.sl (xs.map aX.enc))),.c (.fn g caps)] S (fun r S'=>r=.c (.d (.b (xs.any p)))∧S'=S):=by
 refine aB (rs:=[.tmp 4]) Tryz.checked.mixed Tryz.func288 Tryz.ntmps288 rfl rfl rfl rfl rfl ?_
 refine W1 ?_
 refine dR rfl (FZ g (iF 1 caps) _ xs p hl fun x hx=>(hp x hx).push _) ?_
 refine W1 ?_
 exact ay pK
theorem Dn(g:Nat)(caps:List (Key×Nat))(S:Store)(xs:List bA)(p:bA→Bool)(hl:xs.length≤1073741824)(hp:∀x∈xs,lT Tryz.prog g caps S [x.v] (.c (.d (.b (p x))))):
 dF Tryz.prog 364 [.c (.d (.sl (xs.map bA.enc))),.c (.fn g caps)] S (fun r S'=>r=.c (.d (.i .i64 (oO p xs)))∧S'=S):=by
 refine aB (rs:=[.tmp 4]) Tryz.checked.mixed Tryz.func364 Tryz.ntmps364 rfl rfl rfl rfl rfl ?_
 refine W1 ?_
 refine aQ (ι:=Nat) Tryz.checked.mixed rfl [0,1,7,8] (fun i=>[.c (.d (.sl (xs.map bA.enc))),.c (.fn g (iF 1 caps)),.c (.d (.i .i64 xs.length)),.c (.d (.i .i64 i))]) (fun _=>[]::S)
  (fun i=>i≤xs.length∧∀j,∀hj:j<xs.length,j<i→p xs[j]=false) (fun i=>xs.length-i) 0 rfl rfl ⟨Nat.zero_le _,fun j _ h=>by omega⟩ ?_
 rintro i ⟨p1,p2⟩
 refine W1 ?_
 refine S0 (fun hb h=>?_) fun hb h=>?_
 ·have hi:i<xs.length:=by omega
  refine W3 ?_
  refine dR rfl (hp xs[i] (List.getElem_mem hi) [_]) ?_
  refine W1 ?_
  refine S0 (fun hb h=>?_) fun hb h=>?_
  ·rw[ou hi p2 h]
  ·refine bF (i+1) (by omega) rfl rfl ⟨by omega,fun j hj hji=> ?_⟩
   by_cases e:j=i
   ·subst e;exact h
   ·exact p2 j hj (by omega)
 ·rw[qP (fun j hj=>p2 j hj (by omega))]
theorem Al(g:Nat)(caps:List (Key×Nat))(S:Store)(xs:List bA)(p:bA→Bool)(hl:xs.length≤1073741824)(hp:∀x∈xs,lT Tryz.prog g caps S [x.v] (.c (.d (.b (p x))))):
 dF Tryz.prog 334 [.c (.d (.sl (xs.map bA.enc))),.c (.fn g caps)] S (fun r S'=>r=.c (.d (.b (xs.any p)))∧S'=S):=by
 refine aB (rs:=[.tmp 4]) Tryz.checked.mixed Tryz.func334 Tryz.ntmps334 rfl rfl rfl rfl rfl ?_
 refine W1 ?_
 refine dR rfl (Dn g (iF 1 caps) _ xs p hl fun x hx=>(hp x hx).push _) ?_
 refine W1 ?_
 exact ay pK
theorem BO(g:Nat)(caps:List (Key×Nat))(S:Store)(xs:List (List UInt8))(p:(List UInt8)→Bool)(hl:xs.length≤1073741824)(hp:∀x∈xs,lT Tryz.prog g caps S [.c (.d (.s x))] (.c (.d (.b (p x))))):
 dF Tryz.prog 325 [.c (.d (.sl (xs.map encS))),.c (.fn g caps)] S (fun r S'=>r=.c (.d (.i .i64 (oO p xs)))∧S'=S):=by
 refine aB (rs:=[.tmp 4]) Tryz.checked.mixed Tryz.func325 Tryz.ntmps325 rfl rfl rfl rfl rfl ?_
 simp -implicitDefEqProofs (disch:=omega) only[go_sem,encS]
 refine aQ (ι:=Nat) Tryz.checked.mixed rfl [0,1,7,8] (fun i=>[.c (.d (.sl (xs.map encS))),.c (.fn g (iF 1 caps)),.c (.d (.i .i64 xs.length)),.c (.d (.i .i64 i))]) (fun _=>[]::S)
  (fun i=>i≤xs.length∧∀j,∀hj:j<xs.length,j<i→p xs[j]=false) (fun i=>xs.length-i) 0 rfl rfl ⟨Nat.zero_le _,fun j _ h=>by omega⟩ ?_
 rintro i ⟨p1,p2⟩
 simp -implicitDefEqProofs (disch:=omega) only[go_sem,encS]
 with_reducible refine eX (fun hb=> ?_) (fun hb=> ?_)<;>have h:=hb<;>(try simp only[wf_preprocess] at h)<;>simp -implicitDefEqProofs (disch:=omega) only[go_sem,hb,encS]<;>refine W3 ?_
 ·have hi:i<xs.length:=by omega
  refine W3 ?_
  refine dR rfl (hp xs[i] (List.getElem_mem hi) [_]) ?_
  simp -implicitDefEqProofs (disch:=omega) only[go_sem,encS]
  with_reducible refine eX (fun hb=> ?_) (fun hb=> ?_)<;>have h:=hb<;>(try simp only[wf_preprocess] at h)<;>simp -implicitDefEqProofs (disch:=omega) only[go_sem,hb,encS]<;>refine W3 ?_
  ·rw[ou hi p2 h]
  ·refine bF (i+1) (by omega) rfl rfl ⟨by omega,fun j hj hji=> ?_⟩
   by_cases e:j=i
   ·subst e;exact h
   ·exact p2 j hj (by omega)
 ·rw[qP (fun j hj=>p2 j hj (by omega))]
theorem sP(g:Nat)(caps:List (Key×Nat))(S:Store)(xs:List (List UInt8))(p:(List UInt8)→Bool)(hl:xs.length≤1073741824)(hp:∀x∈xs,lT Tryz.prog g caps S [.c (.d (.s x))] (.c (.d (.b (p x))))):
 dF Tryz.prog 255 [.c (.d (.sl (xs.map encS))),.c (.fn g caps)] S (fun r S'=>r=.c (.d (.b (xs.any p)))∧S'=S):=by
 refine aB (rs:=[.tmp 4]) Tryz.checked.mixed Tryz.func255 Tryz.ntmps255 rfl rfl rfl rfl rfl ?_
 simp -implicitDefEqProofs (disch:=omega) only[go_sem,encS]
 refine dR rfl (BO g (iF 1 caps) _ xs p hl fun x hx=>(hp x hx).push _) ?_
 simp -implicitDefEqProofs (disch:=omega) only[go_sem,encS]
 exact ay pK
theorem UM(xs ys:List (List UInt8))(hl:xs.length≤1073741824):aD Tryz.prog 379 [.c (.d (.sl (xs.map encS))),.c (.d (.sl (ys.map encS)))] (.c (.d (.b (dec (xs=ys))))):=fun S=>by
 refine aB (rs:=[.tmp 4]) Tryz.checked.mixed Tryz.func379 Tryz.ntmps379 rfl rfl rfl rfl rfl ?_
 simp -implicitDefEqProofs (disch:=omega) only[go_sem,encS]
 with_reducible refine eX (fun hb=> ?_) (fun hb=> ?_)<;>have h:=hb<;>(try simp only[wf_preprocess] at h)<;>simp -implicitDefEqProofs (disch:=omega) only[go_sem,hb,encS]<;>refine W3 ?_
 ·exact ay (aC (fun e=>h (by rw[e]))).symm
 have hl':xs.length=ys.length:=by omega
 refine aQ (ι:=Nat) Tryz.checked.mixed rfl [0,1,12,13] (fun i=>[.c (.d (.sl (xs.map encS))),.c (.d (.sl (ys.map encS))),.c (.d (.i .i64 xs.length)),.c (.d (.i .i64 i))]) (fun _=>[]::S)
  (fun i=>i≤xs.length∧∀j,j<i→xs[j]? =ys[j]?) (fun y=>xs.length-y) 0 rfl rfl ⟨Nat.zero_le _,fun j h=>by omega⟩ ?_
 rintro i ⟨p1,p2⟩
 simp -implicitDefEqProofs (disch:=omega) only[go_sem,encS]
 with_reducible refine eX (fun hb=> ?_) (fun hb=> ?_)<;>have h:=hb<;>(try simp only[wf_preprocess] at h)<;>simp -implicitDefEqProofs (disch:=omega) only[go_sem,hb,encS]<;>refine W3 ?_
 ·have hi:i<xs.length:=by omega
  have hi':i<ys.length:=by omega
  refine W3 ?_
  with_reducible refine eX (fun hb=> ?_) (fun hb=> ?_)<;>have h:=hb<;>(try simp only[wf_preprocess] at h)<;>simp -implicitDefEqProofs (disch:=omega) only[go_sem,hb,encS]<;>refine W3 ?_
  ·exact ay (aC (fun e=>h (by simp only[e]))).symm
  refine bF (i+1) (by omega) rfl rfl ⟨by omega,fun j hj=> ?_⟩
  by_cases e:j=i
  ·subst e
   rw[List.getElem?_eq_getElem hi,List.getElem?_eq_getElem hi',h]
  ·exact p2 j (by omega)
 ·have hi:i=xs.length:=by omega
  refine ay (bq (List.ext_getElem? fun j=> ?_)).symm
  by_cases hj:j<i
  ·exact p2 j hj
  ·rw[List.getElem?_eq_none (by omega),List.getElem?_eq_none (by omega)]
theorem OG(xs ys:List (List UInt8))(hl:xs.length≤1073741824):aD Tryz.prog 392 [.c (.d (.sl (xs.map encS))),.c (.d (.sl (ys.map encS)))] (.c (.d (.b (dec (xs=ys))))):=fun S=>by
 refine aB (rs:=[.tmp 4]) Tryz.checked.mixed Tryz.func392 Tryz.ntmps392 rfl rfl rfl rfl rfl ?_
 simp -implicitDefEqProofs (disch:=omega) only[go_sem,encS]
 with_reducible refine eX (fun hb=> ?_) (fun hb=> ?_)<;>have h:=hb<;>(try simp only[wf_preprocess] at h)<;>simp -implicitDefEqProofs (disch:=omega) only[go_sem,hb,encS]<;>refine W3 ?_
 ·exact ay (aC (fun e=>h (by rw[e]))).symm
 have hl':xs.length=ys.length:=by omega
 refine aQ (ι:=Nat) Tryz.checked.mixed rfl [0,1,5] (fun i=>[.c (.d (.sl (xs.map encS))),.c (.d (.sl (ys.map encS))),.c (.d (.i .i64 i))]) (fun _=>[]::S)
  (fun i=>i≤xs.length∧∀j,j<i→xs[j]? =ys[j]?) (fun y=>xs.length-y) 0 rfl rfl ⟨Nat.zero_le _,fun j h=>by omega⟩ ?_
 rintro i ⟨p1,p2⟩
 simp -implicitDefEqProofs (disch:=omega) only[go_sem,encS]
 with_reducible refine eX (fun hb=> ?_) (fun hb=> ?_)<;>have h:=hb<;>(try simp only[wf_preprocess] at h)<;>simp -implicitDefEqProofs (disch:=omega) only[go_sem,hb,encS]<;>refine W3 ?_
 ·have hi:i<xs.length:=by omega
  have hi':i<ys.length:=by omega
  refine W3 ?_
  with_reducible refine eX (fun hb=> ?_) (fun hb=> ?_)<;>have h:=hb<;>(try simp only[wf_preprocess] at h)<;>simp -implicitDefEqProofs (disch:=omega) only[go_sem,hb,encS]<;>refine W3 ?_
  ·exact ay (aC (fun e=>h (by simp only[e]))).symm
  refine bF (i+1) (by omega) rfl rfl ⟨by omega,fun j hj=> ?_⟩
  by_cases e:j=i
  ·subst e
   rw[List.getElem?_eq_getElem hi,List.getElem?_eq_getElem hi',h]
  ·exact p2 j (by omega)
 ·have hi:i=xs.length:=by omega
  refine ay (bq (List.ext_getElem? fun j=> ?_)).symm
  by_cases hj:j<i
  ·exact p2 j hj
  ·rw[List.getElem?_eq_none (by omega),List.getElem?_eq_none (by omega)]
end Go.Proofs.YtcfhnaohbaplhaaGreatDoor
namespace Go.Ab
theorem nX{s:List UInt8}{xs:List (List UInt8)}(h:s∈xs):s.length≤aI (xs.map encS):=by
 have:=bD (List.mem_map_of_mem (f:=encS) h)
 simpa [encS,bL,D.sz] using this
noncomputable def gP(xs:List (List UInt8)):Bool:=dec xs.Nodup&&xs.all validName
noncomputable def among(xs ys:List (List UInt8)):Bool:=xs.all fun s=>dec (s∈ys)
noncomputable def fE(vars:List (List UInt8))(t:ah):Bool:=kZ t&&among (iw [] t) vars
noncomputable def jM(vars:List (List UInt8))(ts:List ah):Bool:=ts.all (fE vars)
theorem Xp{s l:List UInt8}{m:List (List UInt8)}:s∈Br l m↔s=l∨s∈m:=by
 unfold Br
 split
 ·rename_i h
  exact⟨.inr,fun x=>x.elim (fun e=>e▸h) id⟩
 ·rw[List.mem_append,List.mem_singleton];exact Or.comm
theorem gG{α:Type}{xs:List α}{i:Nat}(hi:i<xs.length):xs.take (i+1)=xs.take i++[xs[i]]:=List.take_succ_eq_append_getElem hi
theorem Am{α:Type}{xs:List α}{x:α}:(xs++[x]).Nodup↔xs.Nodup∧x∉xs:=by
 rw[List.nodup_append]
 constructor
 ·rintro⟨h1,_,h3⟩
  exact⟨h1,fun hx=>h3 x hx x (by simp) rfl⟩
 ·rintro⟨h1,h2⟩
  exact⟨h1,by simp,fun a ha b hb e=>by simp at hb;subst hb;exact h2 (e▸ha)⟩
theorem JA{α:Type}{xs:List α}{i:Nat}(hi:i<xs.length)(h:xs[i]∈xs.take i):¬xs.Nodup:=fun hn=>by
 have h1:(xs.take (i+1)).Nodup:=hn.sublist (List.take_sublist _ _)
 rw[gG hi] at h1
 exact(Am.1 h1).2 h
end Go.Ab
namespace Go.Proofs.YtcfhnaohbaplhaaGreatDoor
open Go Go.Ab
theorem mH(xs:List (List UInt8))(hl:xs.length≤1073741824):aD Tryz.prog 254 [.c (.d (.sl (xs.map encS)))] (.c (.d (.b (dec xs.Nodup)))):=fun S=>by
 refine aB (rs:=[.tmp 2]) Tryz.checked.mixed Tryz.func254 Tryz.ntmps254 rfl rfl rfl rfl rfl ?_
 simp -implicitDefEqProofs (disch:=omega) only[go_sem,encS]
 refine W3 ?_
 refine aQ (ι:=Nat×List (List UInt8)) Tryz.checked.mixed rfl [3,7,8,9] (fun y=>[.c (.mp (0,0)),.c (.d (.sl (xs.map encS))),.c (.d (.i .i64 xs.length)),.c (.d (.i .i64 y.1))]) (fun y=>[.mp y.2]::S)
  (fun y=>y.1≤xs.length∧(∀s,s∈y.2↔s∈xs.take y.1)∧(xs.take y.1).Nodup) (fun y=>xs.length-y.1) (0,[]) rfl rfl ⟨Nat.zero_le _,fun s=>by simp,by simp⟩ ?_
 rintro⟨i,m⟩ ⟨p1,p2,p3⟩
 simp only at p1 p2 p3
 simp -implicitDefEqProofs (disch:=omega) only[go_sem,encS]
 with_reducible refine eX (fun hb=> ?_) (fun hb=> ?_)<;>have h:=hb<;>(try simp only[wf_preprocess] at h)<;>simp -implicitDefEqProofs (disch:=omega) only[go_sem,hb,encS]<;>refine W3 ?_
 ·have hi:i<xs.length:=by omega
  refine W3 ?_
  with_reducible refine eX (fun hb=> ?_) (fun hb=> ?_)<;>have h:=hb<;>(try simp only[wf_preprocess] at h)<;>simp -implicitDefEqProofs (disch:=omega) only[go_sem,hb,encS]<;>refine W3 ?_
  ·exact ay (aC (JA hi ((p2 _).1 h))).symm
  ·refine bF (i+1,Br xs[i] m) (by simp only;omega) rfl rfl ⟨by simp only;omega,fun s=> ?_,?_⟩
   ·simp only
    rw[Xp,gG hi,List.mem_append,List.mem_singleton,p2]
    exact Or.comm
   ·simp only
    rw[gG hi,Am]
    exact⟨p3,fun hx=>h ((p2 _).2 hx)⟩
 ·rw[List.take_of_length_le (by omega)] at p3
  exact ay (bq p3).symm
theorem mI(xs:List (List UInt8))(hl:xs.length≤1073741824):aD Tryz.prog 162 [.c (.d (.sl (xs.map encS)))] (.c (.d (.b (dec xs.Nodup)))):=fun S=>by
 refine aB (rs:=[.tmp 2]) Tryz.checked.mixed Tryz.func162 Tryz.ntmps162 rfl rfl rfl rfl rfl ?_
 simp -implicitDefEqProofs (disch:=omega) only[go_sem,encS]
 refine aQ (ι:=Nat) Tryz.checked.mixed rfl [0,3] (fun i=>[.c (.d (.sl (xs.map encS))),.c (.d (.i .i64 i))]) (fun _=>[]::S)
  (fun i=>i≤xs.length∧(xs.take i).Nodup) (fun i=>xs.length-i) 0 rfl rfl ⟨Nat.zero_le _,by simp⟩ ?_
 rintro i ⟨p1,p3⟩
 simp -implicitDefEqProofs (disch:=omega) only[go_sem,encS]
 with_reducible refine eX (fun hb=> ?_) (fun hb=> ?_)<;>have h:=hb<;>(try simp only[wf_preprocess] at h)<;>simp -implicitDefEqProofs (disch:=omega) only[go_sem,hb,encS]<;>refine W3 ?_
 ·have hi:i<xs.length:=by omega
  have hc:∀y∈xs.map encS,y.length=1:=fun y hy=>by
   obtain⟨s,_,rfl⟩:=List.mem_map.1 hy
   rfl
  have e:(xs.map encS).take i=(xs.take i).map encS:=List.map_take.symm
  refine And.intro ⟨by omega,by omega,hc⟩ ?_
  refine W3 ?_
  simp -implicitDefEqProofs (disch:=omega) only[go_sem,Int.toNat_zero,e]
  refine C2 (pO (xs.take i) xs[i] (by simp;omega)) ?_
  refine S0 (fun hb h=>?_) fun hb h=>?_
  ·exact ay (aC (JA hi h)).symm
  ·refine bF (i+1) (by omega) rfl rfl ⟨by omega,?_⟩
   rw[gG hi,Am]
   exact⟨p3,h⟩
 ·rw[List.take_of_length_le (by omega)] at p3
  exact ay (bq p3).symm
theorem F3(xs:List (List UInt8))(hl:xs.length≤1073741824)(hs:∀s∈xs,s.length≤4194304):aD Tryz.prog 245 [.c (.d (.sl (xs.map encS)))] (.c (.d (.b (xs.all validName)))):=fun S=>by
 refine aB (rs:=[.tmp 2]) Tryz.checked.mixed Tryz.func245 Tryz.ntmps245 rfl rfl rfl rfl rfl ?_
 simp -implicitDefEqProofs (disch:=omega) only[go_sem,encS]
 refine aQ (ι:=Nat) Tryz.checked.mixed rfl [0,3] (fun i=>[.c (.d (.sl (xs.map encS))),.c (.d (.i .i64 i))]) (fun _=>[]::S)
  (fun i=>i≤xs.length∧(xs.drop i).all validName=xs.all validName) (fun i=>xs.length-i) 0 rfl rfl ⟨Nat.zero_le _,rfl⟩ ?_
 rintro i ⟨p1,p2⟩
 simp -implicitDefEqProofs (disch:=omega) only[go_sem,encS]
 with_reducible refine eX (fun hb=> ?_) (fun hb=> ?_)<;>have h:=hb<;>(try simp only[wf_preprocess] at h)<;>simp -implicitDefEqProofs (disch:=omega) only[go_sem,hb,encS]<;>refine W3 ?_
 ·have hi:i<xs.length:=by omega
  have hz:=hs _ (List.getElem_mem hi)
  rw[List.drop_eq_getElem_cons hi,List.all_cons] at p2
  refine W3 ?_
  refine C2 (fQ xs[i] (by omega)) ?_
  refine S0 (fun hb h=>?_) fun hb h=>?_
  ·rw[←p2,h];rfl
  ·exact bF (i+1) (by omega) rfl rfl ⟨by omega,by rw[←p2,h];rfl⟩
 ·rw[List.drop_of_length_le (by omega)] at p2
  rw[←p2];rfl
theorem lV(xs:List (List UInt8))(hl:xs.length≤1073741824)(hs:∀s∈xs,s.length≤4194304):aD Tryz.prog 169 [.c (.d (.sl (xs.map encS)))] (.c (.d (.b (gP xs)))):=fun S=>by
 have hcl:∀s∈xs,aD Tryz.prog 256 [.c (.d (.s s))] (.c (.d (.b (!validName s)))):=fun s hx S=>by
  have:=hs s hx
  refine aB (rs:=[.tmp 2]) Tryz.checked.mixed Tryz.func256 Tryz.ntmps256 rfl rfl rfl rfl rfl ?_
  refine W1 ?_
  exact C4 (fP s (by omega))
 have ha:(xs.any fun s=> !validName s)= !xs.all validName:=by rw[List.not_all_eq_any_not]
 refine aB (rs:=[.tmp 2]) Tryz.checked.mixed Tryz.func169 Tryz.ntmps169 rfl rfl rfl rfl rfl ?_
 refine W1 ?_
 refine C2 (mH xs hl) ?_
 refine S0 (fun hb h=>?_) fun hb h=>?_
 ·refine dR rfl (sP 256 [] _ xs (fun s=> !validName s) hl fun s hx=>lT.Ic (hcl s hx)) ?_
  refine W1 ?_
  rw[ha]
  exact ay (by unfold gP;rw[hb];simp)
 ·exact ay (by unfold gP;rw[hb];rfl)
theorem vH(xs ys:List (List UInt8))(hl:xs.length≤1073741824)(hl':ys.length≤1073741824):aD Tryz.prog 263 [.c (.d (.sl (xs.map encS))),.c (.d (.sl (ys.map encS)))] (.c (.d (.b (among xs ys)))):=fun S=>by
 have ha:(xs.any fun s=> !dec (s∈ys))= !among xs ys:=by unfold among;rw[List.not_all_eq_any_not]
 have hcl:∀(rest:List Ab.Obj) (s:List UInt8),lT Tryz.prog 332 [((0,0),0)] ((.box [.d (.sl (ys.map encS))]::rest)::S) [.c (.d (.s s))] (.c (.d (.b (!dec (s∈ys))))):=fun rest s F=>by
  refine aB (rs:=[.tmp 3]) Tryz.checked.mixed Tryz.func332 Tryz.ntmps332 rfl rfl rfl rfl rfl ?_
  refine W1 ?_
  exact C4 (qR ys s hl')
 refine aB (rs:=[.tmp 4]) Tryz.checked.mixed Tryz.func263 Tryz.ntmps263 rfl rfl rfl rfl rfl ?_
 refine W1 ?_
 refine dR rfl (sP 332 [((0,0),0)] _ xs (fun s=> !dec (s∈ys)) hl fun s hx=>hcl [] s) ?_
 refine W1 ?_
 rw[ha]
 exact ay (by simp)
theorem qb(t:ah)(vars:List (List UInt8))(hsz:t.sz≤4194304)(hv:vars.length≤1073741824):aD Tryz.prog 261 [t.v,.c (.d (.sl (vars.map encS)))] (.c (.d (.b (fE vars t)))):=fun S=>by
 have h1:=vV t []
 have h2:=jU t
 refine aB (rs:=[.tmp 4]) Tryz.checked.mixed Tryz.func261 Tryz.ntmps261 rfl rfl rfl rfl rfl ?_
 refine W1 ?_
 refine C2 (sD t hsz) ?_
 refine S0 (fun hb h=>?_) fun hb h=>?_
 ·refine C2 (tZ t hsz) ?_
  refine C2 (vH (iw [] t) vars (by simp at h1;omega) hv) ?_
  exact ay (by unfold fE;rw[hb];rfl)
 ·exact ay (by unfold fE;rw[hb];rfl)
theorem uf(ts:List ah)(vars:List (List UInt8))(hl:ts.length≤1073741824)(hsz:∀t∈ts,t.sz≤4194304)(hv:vars.length≤1073741824):aD Tryz.prog 260 [.c (.d (.sl (ts.map ah.enc))),.c (.d (.sl (vars.map encS)))] (.c (.d (.b (jM vars ts)))):=fun S=>by
 have ha:(ts.any fun t=> !fE vars t)= !jM vars ts:=by unfold jM;rw[List.not_all_eq_any_not]
 have hcl:∀(rest:List Ab.Obj) (t:ah),t.sz≤4194304→lT Tryz.prog 328 [((0,0),0)] ((.box [.d (.sl (vars.map encS))]::rest)::S) [t.v] (.c (.d (.b (!fE vars t)))):=fun rest t ht F=>by
  refine aB (rs:=[.tmp 3]) Tryz.checked.mixed Tryz.func328 Tryz.ntmps328 rfl rfl rfl rfl rfl ?_
  refine W1 ?_
  exact C4 (qb t vars ht hv)
 refine aB (rs:=[.tmp 4]) Tryz.checked.mixed Tryz.func260 Tryz.ntmps260 rfl rfl rfl rfl rfl ?_
 refine W1 ?_
 refine dR rfl (Bl 328 [((0,0),0)] _ ts (fun t=> !fE vars t) hl fun t hx=>hcl [] t (hsz t hx)) ?_
 refine W1 ?_
 rw[ha]
 exact ay (by simp)
theorem jV(xs:List (List UInt8))(most:Int)(hl:xs.length≤1073741824)(hs:∀s∈xs,s.length≤4194304):aD Tryz.prog 160 [.c (.d (.sl (xs.map encS))),.c (.d (.i .i64 most))] (.c (.d (.b (dec ((xs.length:Int)≤most)&&gP xs)))):=fun S=>by
 refine aB (rs:=[.tmp 4]) Tryz.checked.mixed Tryz.func160 Tryz.ntmps160 rfl rfl rfl rfl rfl ?_
 refine W1 ?_
 refine S0 (fun hb h=>?_) fun hb h=>?_
 ·have h1:=h
  refine C2 (F3 xs hl hs) ?_
  refine S0 (fun hb h=>?_) fun hb h=>?_
  ·refine C2 (mI xs hl) ?_
   exact ay (by rw[bq h1];unfold gP;rw[hb];simp)
  ·exact ay (by rw[bq h1];unfold gP;rw[hb];simp)
 ·exact ay (by rw[aC h];rfl)
theorem pQ(t:ah)(vars:List (List UInt8))(hsz:t.sz≤4194304)(hv:vars.length≤1073741824):aD Tryz.prog 303 [t.v,.c (.d (.sl (vars.map encS)))] (.c (.d (.b (fE vars t)))):=fun S=>by
 have h1:=vV t []
 have h2:=jU t
 have hlen:(iw [] t).length≤1073741824:=by simp at h1;omega
 refine aB (rs:=[.tmp 4]) Tryz.checked.mixed Tryz.func303 Tryz.ntmps303 rfl rfl rfl rfl rfl ?_
 refine W1 ?_
 refine C2 (FV t hsz) ?_
 generalize hxs:iw [] t=xs at hlen
 refine aQ (ι:=Nat) Tryz.checked.mixed rfl [1,2,5,6] (fun i=>[.c (.d (.sl (vars.map encS))),.c (.ptr (0,0) 0),.c (.d (.sl (xs.map encS))),.c (.d (.i .i64 i))]) (fun _=>[.box [.d (.i .i64 t.aU),.d (.s t.fName),.d (.sl (t.fArgs.map ah.enc))]]::S)
  (fun i=>i≤xs.length∧among (xs.drop i) vars=among xs vars) (fun i=>xs.length-i) 0 rfl rfl ⟨Nat.zero_le _,rfl⟩ ?_
 rintro i ⟨p1,p2⟩
 simp -implicitDefEqProofs (disch:=omega) only[go_sem,encS]
 with_reducible refine eX (fun hb=> ?_) (fun hb=> ?_)<;>have h:=hb<;>(try simp only[wf_preprocess] at h)<;>simp -implicitDefEqProofs (disch:=omega) only[go_sem,hb,encS]<;>refine W3 ?_
 ·have hi:i<xs.length:=by omega
  rw[List.drop_eq_getElem_cons hi] at p2
  have p3:among xs vars=(dec (xs[i]∈vars)&&among (xs.drop (i+1)) vars):=p2.symm
  refine W3 ?_
  refine C2 (pO vars xs[i] hv) ?_
  refine S0 (fun hb h=>?_) fun hb h=>?_
  ·exact ay (by unfold fE;rw[hxs,p3,aC h];simp)
  ·exact bF (i+1) (by omega) rfl rfl ⟨by omega,by rw[p3,bq h];rfl⟩
 ·rw[List.drop_of_length_le (by omega)] at p2
  have p3:among xs vars=true:=p2.symm
  refine W3 ?_
  refine C2 (sF t hsz) ?_
  exact ay (by unfold fE;rw[hxs,p3];simp)
theorem JB(ts:List ah)(vars:List (List UInt8))(hl:ts.length≤1073741824)(hsz:∀t∈ts,t.sz≤4194304)(hv:vars.length≤1073741824):aD Tryz.prog 302 [.c (.d (.sl (ts.map ah.enc))),.c (.d (.sl (vars.map encS)))] (.c (.d (.b (jM vars ts)))):=fun S=>by
 refine aB (rs:=[.tmp 4]) Tryz.checked.mixed Tryz.func302 Tryz.ntmps302 rfl rfl rfl rfl rfl ?_
 refine W1 ?_
 refine aQ (ι:=Nat) Tryz.checked.mixed rfl [0,1,5] (fun i=>[.c (.d (.sl (ts.map ah.enc))),.c (.d (.sl (vars.map encS))),.c (.d (.i .i64 i))]) (fun _=>[]::S)
  (fun i=>i≤ts.length∧jM vars (ts.drop i)=jM vars ts) (fun i=>ts.length-i) 0 rfl rfl ⟨Nat.zero_le _,rfl⟩ ?_
 rintro i ⟨p1,p2⟩
 refine W1 ?_
 refine S0 (fun hb h=>?_) fun hb h=>?_
 ·have hi:i<ts.length:=by omega
  rw[List.drop_eq_getElem_cons hi] at p2
  have p3:jM vars ts=(fE vars ts[i]&&jM vars (ts.drop (i+1))):=p2.symm
  refine W3 ?_
  refine C2 (pQ ts[i] vars (hsz _ (List.getElem_mem hi)) hv) ?_
  refine S0 (fun hb h=>?_) fun hb h=>?_
  ·rw[p3,h];rfl
  ·exact bF (i+1) (by omega) rfl rfl ⟨by omega,by rw[p3,h];rfl⟩
 ·rw[List.drop_of_length_le (by omega)] at p2
  rw[←p2];rfl
end Go.Proofs.YtcfhnaohbaplhaaGreatDoor
namespace Go.Ab
def zD(n:Nat):Key→Key
 |(0,j)=>(0,n+j)
 |(l+1,j)=>(l,j)
def C.mg(n:Nat):C→C
 | .d x=>.d x
 | .any=>.any
 | .bH k es=>.bH (zD n k) es
 | .bC es=>.bC es
 | .ptr k off=>.ptr (zD n k) off
 | .kG cs=>.kG cs
 | .lu k i off=>.lu (zD n k) i off
 | .ji k=>.ji (zD n k)
 | .fn f caps=>.fn f (caps.map fun x=>(zD n x.1,x.2))
 | .mp k=>.mp (zD n k)
 | .j5 m es=>.j5 m es
 | .xp k r p=>.xp (zD n k) r p
 | .xq k r p z i off=>.xq (zD n k) r p z i off
def V.mg(n:Nat):V→V
 | .c x=>.c (x.mg n)
 | .agg cs=>.agg (cs.map (C.mg n))
 | .iB xs=>.iB (xs.map fun y=>(y.1,y.2.map (C.mg n)))
 | .any=>.any
def Obj.mg(n:Nat):Obj→Obj
 | .box cs=>.box (cs.map (C.mg n))
 |o=>o
section
variable {P:Program} {w:World} {σ:Nat→Nat} {own bM:List Obj} {Ω:Store} {bo nY:List Value} {bΩ:Hs}
theorem Ii{n:Nat}{o:Obj}{h:Value}{b:Nat}:owns (o.mg n) h b↔owns o h b:=by
 cases o with
 |box cs=>
  cases h with
  |pointer a=>cases a<;>exact Iff.rfl
  |_=>exact Iff.rfl
 |_=>exact Iff.rfl
theorem yL{k:Key}{o:Obj}(h:bK (own::bM::Ω) k=some o):
 bK ((bM++own.map (Obj.mg bM.length))::Ω) (zD bM.length k)=some (if k.1=0 then o.mg bM.length else o):=by
 obtain⟨l,j⟩:=k
 cases l with
 |zero=>
  rw[bP] at h
  show bK _ (0,bM.length+j)=_
  rw[bP,List.getElem?_append_right (by omega),show bM.length+j-bM.length=j by omega,List.getElem?_map,h]
  rfl
 |succ l=>
  rw[dh] at h
  show bK _ (l,j)=some o
  cases l with
  |zero=>
   rw[bP] at h ⊢
   rw[List.getElem?_append_left (List.getElem?_eq_some_iff.1 h).1]
   exact h
  |succ l=>rw[dh] at h ⊢;exact h
theorem yM(hl:nY.length=bM.length){k:Key}{h:Value}(e:bK (bo::nY::bΩ) k=some h):bK ((nY++bo)::bΩ) (zD bM.length k)=some h:=by
 obtain⟨l,j⟩:=k
 cases l with
 |zero=>
  rw[bP] at e
  show bK _ (0,bM.length+j)=_
  rw[bP,List.getElem?_append_right (by omega),show bM.length+j-nY.length=j by omega,e]
 |succ l=>
  rw[dh] at e
  show bK _ (l,j)=some h
  cases l with
  |zero=>
   rw[bP] at e ⊢
   rw[List.getElem?_append_left (List.getElem?_eq_some_iff.1 e).1]
   exact e
  |succ l=>rw[dh] at e ⊢;exact e
theorem C8(hl:nY.length=bM.length)(hlo:bo.length=own.length){k:Key}{o:Obj}(h:bK ((bM++own.map (Obj.mg bM.length))::Ω) k=some o):
 ∃k0 o0,zD bM.length k0=k∧bK (own::bM::Ω) k0=some o0∧o=(if k0.1=0 then o0.mg bM.length else o0)∧bK ((nY++bo)::bΩ) k=bK (bo::nY::bΩ) k0:=by
 obtain⟨l,j⟩:=k
 cases l with
 |zero=>
  rw[bP] at h
  by_cases hj:j<bM.length
  ·rw[List.getElem?_append_left hj] at h
   refine⟨(1,j),o,rfl,by rw[dh,bP];exact h,rfl,?_⟩
   rw[bP,dh,bP,List.getElem?_append_left (by omega)]
  ·rw[List.getElem?_append_right (by omega),List.getElem?_map] at h
   cases hx:own[j-bM.length]? with
   |none=>rw[hx] at h;cases h
   |some x=>
    rw[hx] at h;cases h
    refine⟨(0,j-bM.length),x,?_,by rw[bP];exact hx,rfl,?_⟩
    ·show(0,bM.length+(j-bM.length))=(0,j)
     rw[show bM.length+(j-bM.length)=j by omega]
    ·rw[bP,bP,List.getElem?_append_right (by omega),hl]
 |succ l=>
  rw[dh] at h
  exact⟨(l+2,j),o,rfl,by rw[dh,dh];exact h,rfl,by rw[dh,dh,dh]⟩
theorem sQ{n:Nat}{k:Key}{o:Obj}:(∀bn es,o9 (if k.1=0 then o.mg n else o) bn es→o9 o bn es)∧(∀bn es,(if k.1=0 then o.mg n else o)=.eU bn es→o=.eU bn es)∧
 (∀m,(if k.1=0 then o.mg n else o)=.mp m→o=.mp m)∧(∀cs,(if k.1=0 then o.mg n else o)=.box cs→∃cs',o=.box cs')∧(∀rs,(if k.1=0 then o.mg n else o)=.xf rs→o=.xf rs):=by
 by_cases e:k.1=0
 ·simp only[if_pos e]
  cases o<;>simp[Obj.mg,o9]
 ·simp only[if_neg e]
  exact⟨fun _ _ h=>h,fun _ _ h=>h,fun _ h=>h,fun cs h=>⟨cs,h⟩,fun _ h=>h⟩
theorem Xq(hl:nY.length=bM.length){c:C}{v:Value}(h:jc w σ (own::bM::Ω) (bo::nY::bΩ) c v):
 jc w σ ((bM++own.map (Obj.mg bM.length))::Ω) ((nY++bo)::bΩ) (c.mg bM.length) v:=by
 cases c with
 |d x=>exact h
 |any=>exact trivial
 |bC es=>exact h
 |kG cs=>exact h
 |j5 m es=>exact h
 |xp k r p=>
  obtain⟨o,ho,h2⟩:=h
  refine⟨_,yL ho,fun rs e=> ?_⟩
  obtain⟨hh,q1,q2⟩:=h2 rs (sQ.2.2.2.2 _ e)
  exact⟨hh,yM hl q1,q2⟩
 |xq k r p z i off=>
  obtain⟨o,ho,h2⟩:=h
  refine⟨_,yL ho,fun rs e=> ?_⟩
  obtain⟨hh,b,a,n,cap,q1,q2⟩:=h2 rs (sQ.2.2.2.2 _ e)
  exact⟨hh,b,a,n,cap,yM hl q1,q2⟩
 |bH k es=>
  obtain⟨h1,o,ho,h2⟩:=h
  refine⟨h1,_,yL ho,fun bn es' e=> ?_⟩
  obtain⟨q1,q2⟩:=h2 bn es' (sQ.1 _ _ e)
  exact⟨q1,fun e'=>yM hl (q2 e')⟩
 |ptr k off=>
  obtain⟨o,ho,h2⟩:=h
  refine⟨_,yL ho,fun cs e=> ?_⟩
  obtain⟨cs',e'⟩:=sQ.2.2.2.1 _ e
  obtain⟨b,q1,q2⟩:=h2 cs' e'
  exact⟨b,yM hl q1,q2⟩
 |lu k i off=>
  obtain⟨o,ho,h2⟩:=h
  refine⟨_,yL ho,fun bn es e=> ?_⟩
  obtain⟨b,n,cap,q1,q2⟩:=h2 bn es (sQ.2.1 _ _ e)
  exact⟨b,n,cap,yM hl q1,q2⟩
 |ji k=>
  obtain⟨o,ho,h2⟩:=h
  exact⟨_,yL ho,fun bn es e=>yM hl (h2 bn es (sQ.2.1 _ _ e))⟩
 |mp k=>
  obtain⟨o,ho,h2⟩:=h
  exact⟨_,yL ho,fun m e=>yM hl (h2 m (sQ.2.2.1 _ e))⟩
 |fn f caps=>
  obtain⟨vs,e,hsz,hc⟩:=h
  refine⟨vs,e,by rw[hsz,List.length_map],fun j k off hj=> ?_⟩
  rw[List.getElem?_map] at hj
  cases hx:caps[j]? with
  |none=>rw[hx] at hj;cases hj
  |some y=>
   rw[hx] at hj
   injection hj with hj
   injection hj with e1 e2
   obtain⟨u,q1,q2,o,q3,q4⟩:=hc j y.1 y.2 hx
   refine⟨u,q1,q2,_,by rw[←e1];exact yL q3,fun cs e=> ?_⟩
   obtain⟨cs',e'⟩:=sQ.2.2.2.1 _ e
   obtain⟨b,q5,q6⟩:=q4 cs' e'
   exact⟨b,by rw[←e1];exact yM hl q5,by rw[←e2];exact q6⟩
theorem Ry(hl:nY.length=bM.length){cs:List C}{vs:List Value}(h:gu w σ (own::bM::Ω) (bo::nY::bΩ) cs vs):
 gu w σ ((bM++own.map (Obj.mg bM.length))::Ω) ((nY++bo)::bΩ) (cs.map (C.mg bM.length)) vs:=by
 refine⟨by rw[List.length_map];exact h.1,fun j x hj=> ?_⟩
 rw[List.getElem?_map] at hj
 cases hx:cs[j]? with
 |none=>rw[hx] at hj;cases hj
 |some y=>
  rw[hx] at hj;cases hj
  obtain⟨v,h1,h2,h3⟩:=h.2 j y hx
  exact⟨v,h1,Xq hl h2,h3⟩
theorem afa(hl:nY.length=bM.length){x:V}{v:Value}(h:dD w σ (own::bM::Ω) (bo::nY::bΩ) x v):
 dD w σ ((bM++own.map (Obj.mg bM.length))::Ω) ((nY++bo)::bΩ) (x.mg bM.length) v:=by
 cases x with
 |c x=>exact⟨Xq hl h.1,h.2⟩
 |agg cs=>obtain⟨a,ha,hc⟩:=h;exact⟨a,ha,Ry hl hc⟩
 |any=>exact trivial
 |iB xs=>
  obtain⟨a,ha,hlen,hc⟩:=h
  refine⟨a,ha,by rw[List.length_map];exact hlen,fun j y hj=> ?_⟩
  rw[List.getElem?_map] at hj
  cases hx:xs[j]? with
  |none=>rw[hx] at hj;cases hj
  |some z=>
   rw[hx] at hj;cases hj
   obtain⟨u,hu,hr⟩:=hc j z hx
   refine⟨u,hu,?_⟩
   obtain⟨b,cs⟩:=z
   cases b with
   |true=>obtain⟨a',e,hcs⟩:=hr;exact⟨a',e,Ry hl hcs⟩
   |false=>obtain⟨x1,e,hx1,ho⟩:=hr;subst e;exact⟨_,rfl,Xq hl hx1,ho⟩
theorem PX(hl:nY.length=bM.length):Keep (bM::Ω) (nY::bΩ) ((bM++own.map (Obj.mg bM.length))::Ω) ((nY++bo)::bΩ):=by
 rintro⟨l,j⟩ o h
 cases l with
 |zero=>
  rw[bP] at h
  have hj:=(List.getElem?_eq_some_iff.1 h).1
  refine⟨o,by rw[bP,List.getElem?_append_left hj];exact h,?_⟩
  rw[bP,bP,List.getElem?_append_left (by omega)]
  exact lC.refl _ _
 |succ l=>
  rw[dh] at h
  exact⟨o,by rw[dh];exact h,by rw[dh,dh];exact lC.refl _ _⟩
theorem afb(hS:eD w σ (own::bM::Ω) (bo::nY::bΩ)):eD w σ ((bM++own.map (Obj.mg bM.length))::Ω) ((nY++bo)::bΩ):=by
 have hlo:bo.length=own.length:=by
  obtain⟨gr,h1,h2⟩:=hS.shape.2 0 own rfl
  simp at h1;rw[h1];exact h2
 have hl:nY.length=bM.length:=by
  obtain⟨gr,h1,h2⟩:=hS.shape.2 1 bM rfl
  simp at h1;rw[h1];exact h2
 have hn:fF w σ w σ:=fF.refl _ _
 refine⟨fun k o ho=> ?_,fun k k' o o' h h' b e1 e2 e3 e4 e5 e6=> ?_,⟨by have:=hS.shape.1;simpa using this,fun l fr hfr=> ?_⟩,hS.live,hS.rJ⟩
 ·obtain⟨k0,o0,hk,ho0,rfl,hh⟩:=C8 (bo:=bo) (bΩ:=bΩ) hl hlo ho
  obtain⟨h,h1,h2⟩:=hS.obj k0 o0 ho0
  refine⟨h,by rw[hh];exact h1,?_⟩
  obtain⟨l0,j0⟩:=k0
  cases l0 with
  |zero=>
   subst hk
   have h2:gZ w σ (own::bM::Ω) (bo::nY::bΩ) o0 h:=h2
   show gZ w σ ((bM++own.map (Obj.mg bM.length))::Ω) ((nY++bo)::bΩ) (o0.mg bM.length) h
   cases o0 with
   |box cs=>
    obtain⟨b,c,t,e,q1,q2,q3⟩:=h2
    exact⟨b,c,t,e,q1,q2,Ry hl q3⟩
   |dead=>exact trivial
   |tok bn es=>exact h2
   |eU bn es=>exact h2
   |mp m=>exact h2
   |d9 n bn es=>exact h2
   |seed n=>exact trivial
   |xf rs=>exact h2
  |succ l0=>
   have hk':k=(l0,j0):=hk.symm
   subst hk'
   have h2:gZ w σ ((bM::Ω).drop l0) ((nY::bΩ).drop l0) o0 h:=h2
   exact h2.mono hn ((PX hl).drop l0) fun _ _=>⟨rfl,rfl⟩
 ·obtain⟨k0,o0,hk,ho0,ho,hh⟩:=C8 (bo:=bo) (bΩ:=bΩ) hl hlo e1
  obtain⟨k1,o1,hk1,ho1,ho',Uz⟩:=C8 (bo:=bo) (bΩ:=bΩ) hl hlo e4
  rw[hh] at e2
  rw[Uz] at e5
  have b0:owns o0 h b:=by
   rw[ho] at e3
   split at e3
   ·rw[Ii] at e3;exact e3
   ·exact e3
  have b1:owns o1 h' b:=by
   rw[ho'] at e6
   split at e6
   ·rw[Ii] at e6;exact e6
   ·exact e6
  have:=hS.apart k0 k1 o0 o1 h h' b ho0 e2 b0 ho1 e5 b1
  rw[←hk,←hk1,this]
 ·cases l with
  |zero=>
   simp at hfr
   exact⟨_,rfl,by rw[←hfr];simp[hl,hlo]⟩
  |succ l=>exact hS.shape.2 (l+2) fr (by simpa using hfr)
theorem aaU(hS:eD w σ (own::bM::Ω) (bo::nY::bΩ)){b:Nat}(h:Own ((bM++own.map (Obj.mg bM.length))::Ω) ((nY++bo)::bΩ) b):Own (own::bM::Ω) (bo::nY::bΩ) b:=by
 have hlo:bo.length=own.length:=by
  obtain⟨gr,h1,h2⟩:=hS.shape.2 0 own rfl
  simp at h1;rw[h1];exact h2
 have hl:nY.length=bM.length:=by
  obtain⟨gr,h1,h2⟩:=hS.shape.2 1 bM rfl
  simp at h1;rw[h1];exact h2
 obtain⟨k,o,hv,e1,e2,e3⟩:=h
 obtain⟨k0,o0,hk,ho0,ho,hh⟩:=C8 (bo:=bo) (bΩ:=bΩ) hl hlo e1
 rw[hh] at e2
 refine⟨k0,o0,hv,ho0,e2,?_⟩
 rw[ho] at e3
 split at e3
 ·rw[Ii] at e3;exact e3
 ·exact e3
end
def ML(P:Program)(rs:List ResultVar)(post:V→Store→Prop)(e:Exit)(s:St):Prop:=
 match e with
 | .normal| .ret=>(qC P rs s).1∧match s.st with
   |own::bM::Ω=>post ((qC P rs s).2.mg bM.length) ((bM++own.map (Obj.mg bM.length))::Ω)
   |_=>False
 |_=>False
section
variable {P:Program} {N:Nat} {s:St}
theorem JC{f:FuncId}{fn:Func}{c:Code}{args:List V}{bM:List Obj}{Ω:Store}{post:V→Store→Prop}(hf:P.funcs[f]? =some fn)(hb:fn.body=some c)(hn:(fn.name== "runtime.NumGoroutine")=false)
 (hl:args.length≤fn.ntmps) (h:AW P fn.ntmps c (ML P fn.results.toList post) ⟨nS (args.map (V.up 1)) 0,[]::bM::Ω⟩):dF P f args (bM::Ω) post:=by
 refine⟨⟨fn,hf,hn,by simp[hb]⟩,fun w σ β vs hS hargs=> ?_⟩
 refine calls_of_wp hf hb ?_
 have hlen:vs.length=args.length:=hargs.1.symm
 have VN:jL fn.ntmps ⟨nS (args.map (V.up 1)) 0,[]::bM::Ω⟩ {tmps:=vs.toArray++Array.replicate (fn.ntmps-vs.toArray.size) undef,defers:=[]} w σ ([]::β):=by
  refine⟨by simp;omega,rfl,hS.up1,fun t=> ?_⟩
  show dD w σ ([]::bM::Ω) ([]::β) (look (nS (args.map (V.up 1)) 0) t) _
  rw[zZ,if_pos (Nat.zero_le _),Nat.sub_zero,List.getElem?_map]
  cases ha:args[t]? with
  |none=>exact trivial
  |some x=>
   obtain⟨v,hv,hr⟩:=hargs.2 t x ha
   have ht:=(List.getElem?_eq_some_iff.1 hv).1
   have:(vs.toArray++Array.replicate (fn.ntmps-vs.toArray.size) undef).getD t undef=v:=by
    rw[Array.getD_eq_getD_getElem?,Array.getElem?_append_left (by simpa using ht)]
    simp[hv]
   rw[this]
   exact Hy (S:=[]::bM::Ω) (β:=[]::β) 1 hr
 refine wp_mono (h _ w σ ([]::β) VN) ?_
 rintro e a' w' ⟨s',σ',β',hR,hst,hkp,hq⟩
 have main:((qC P fn.results.toList s').1∧match s'.st with
  |own::bM::Ω=>post ((qC P fn.results.toList s').2.mg bM.length) ((bM++own.map (Obj.mg bM.length))::Ω)
  |_=>False)→
   a'.defers=[]∧∃v,(results fn a'.tmps).run P w'=.ok v w'∧∃v_1 r S' σ' β',Ending.returned v=Ending.returned v_1∧eD w' σ' S' β'∧Keep (bM::Ω) β S' β'∧Step (bM::Ω) β σ w S' β' σ' w'∧dD w' σ' S' β' r v_1∧post r S':=by
  rintro⟨q1,q2⟩
  obtain⟨v,hv,hrep⟩:=Jp (fn:=fn) hR q1
  obtain⟨tm,st⟩:=s'
  simp only at q2
  split at q2
  ·rename_i own Rz Ω1
   obtain⟨bo,bΩ',rfl,hlo⟩:=frames hR
   cases bΩ' with
   |nil=>have:=hR.S.shape.1;simp at this
   |cons bo1 bΩ1=>
    have hl1:bo1.length=Rz.length:=by
     obtain⟨gr,h1,h2⟩:=hR.S.shape.2 1 Rz rfl
     simp at h1;rw[h1];exact h2
    have uS:Keep (bM::Ω) β (Rz::Ω1) (bo1::bΩ1):=hkp
    have hst':Step ([]::bM::Ω) ([]::β) σ w (own::Rz::Ω1) (bo::bo1::bΩ1) σ' w':=hst
    exact⟨hR.defers,v,hv,v,_,_,σ',_,rfl,afb hR.S,uS.trans (PX hl1),⟨hst'.size,hst'.os,hst'.output,fun b hb ho=>hst'.far b hb (fun x=>ho (CU x)),hst'.near,fun b hb=>(hst'.own b (aaU hR.S hb)).imp CU id⟩,afa hl1 hrep,q2⟩
  ·exact q2.elim
 cases e with
 |normal=>exact main hq
 |ret=>exact main hq
 |_=>exact hq.elim
def MN(P:Program)(rs:List ResultVar)(post:V→Store→Prop)(s:St)(r:R):Prop:=r.1∧match s.st with
 |own::bM::Ω=>post (r.2.mg bM.length) ((bM++own.map (Obj.mg bM.length))::Ω)
 |_=>False
@[congr] theorem adi {rs:List ResultVar} {post:V→Store→Prop} {s s':St} {r r':R} (h1:s=s') (h2:r=r'):MN P rs post s r=MN P rs post s' r':=by rw[h1,h2]
theorem Xr{rs:List ResultVar}{post:V→Store→Prop}{tm:List (Nat×V)}{S:Store}:ML P rs post .ret ⟨tm,S⟩=MN P rs post ⟨tm,S⟩ (qC P rs ⟨tm,S⟩):=rfl
theorem OH{rs:List ResultVar}{post:V→Store→Prop}{tm:List (Nat×V)}{S:Store}:ML P rs post .normal ⟨tm,S⟩=MN P rs post ⟨tm,S⟩ (qC P rs ⟨tm,S⟩):=rfl
theorem Zx{rs:List ResultVar}{post:V→Store→Prop}{tm:List (Nat×V)}{own bM:List Obj}{Ω:Store}{p:Prop}{v:V}:
 MN P rs post ⟨tm,own::bM::Ω⟩ (p,v)=(p∧post (v.mg bM.length) ((bM++own.map (Obj.mg bM.length))::Ω)):=rfl
theorem JD{f:FuncId}{fn:Func}{c:Code}{args:List V}{bM:List Obj}{Ω:Store}{post:V→Store→Prop}{rs:List ResultVar}(jr:P.follows .mixedOrders=true)(hf:P.funcs[f]? =some fn)(hN:fn.ntmps=N)
 (hb:fn.body=some c) (hn:(fn.name== "runtime.NumGoroutine")=false) (hr:fn.results.toList=rs) (hl:Nat.ble args.length N=true) (hok:codeOk N c=true)
 (h:CW P N c (ML P rs post) ⟨nS (args.map (V.up 1)) 0,[]::bM::Ω⟩):dF P f args (bM::Ω) post:=by
 subst hN
 subst hr
 exact JC hf hb hn (Nat.le_of_ble_eq_true hl) (lK jr c _ _ hok h)
theorem mgK_0{n j:Nat}:zD n (0,j)=(0,n+j):=rfl
theorem mgK_1{n l j:Nat}:zD n (1+l,j)=(l,j):=by rw[Nat.add_comm];rfl
end
attribute [go_sem ↓] Xr OH
attribute [go_sem] Zx V.mg C.mg Obj.mg mgK_0 mgK_1
end Go.Ab
namespace Go.Proofs.YtcfhnaohbaplhaaGreatDoor
open Go Go.Ab Go.RowKit
theorem UN:(Tryz.prog.info? 156).map (·.size)=some 2:=by kernel_rfl
theorem aaW:liesAt Tryz.prog Tryz.prog.depth 156 (2/Tryz.prog.cellsOf 156) 0 156 1=true:=by kernel_rfl
theorem UO:(Tryz.prog.info? 5).map (fun i=>(i.zero,i.size,i.bytes))=some (some (.int .u8 0),1,1):=by kernel_rfl
set_option maxHeartbeats 1000000 in
theorem MO(b:Nat)(w:World)(h0:w.cell? ⟨b,0,none⟩=some (.pointer (some ⟨b,0,none⟩))):
 Calls Tryz.prog 295 #[.pointer (some ⟨b,0,none⟩)] w fun e w'=>e=.returned (.tuple #[])∧w'=w:=by
 obtain⟨j,hj,_⟩:=Option.map_eq_some_iff.1 UN
 go_enter Tryz.func295,Tryz.ntmps295
 go_wp2
 rw[Lib.run_neq_ptr_same w _ Tryz.underlying153 hj]
 go_wp2
 go_end0
 exact⟨rfl,rfl⟩
set_option maxHeartbeats 1000000 in
theorem Kl(b:Nat)(w:World)(h0:w.cell? ⟨b,0,none⟩=some (.pointer none))(hsh:w.shape? b=some (156,2))(hfz:w.frozen? ⟨b,0,none⟩=false):
 Calls Tryz.prog 295 #[.pointer (some ⟨b,0,none⟩)] w fun e w'=>e=.returned (.tuple #[])∧w'=w.setCell ⟨b,0,none⟩ (.pointer (some ⟨b,0,none⟩)):=by
 obtain⟨j,hj,hjs⟩:=Option.map_eq_some_iff.1 UN
 go_enter Tryz.func295,Tryz.ntmps295
 go_wp2
 rw[Lib.run_to_unsafe w ⟨b,0,none⟩ Tryz.underlying153 Tryz.underlying363 hj (by rw[hjs];decide) hsh (Nat.zero_lt_succ 1)]
 simp only[Result.andThen]
 rw[Oper.upon_value]
 go_wp2
 rw[run_callFunc_extern Tryz.func350 (by kernel_rfl) (by kernel_rfl) (by kernel_rfl) (e:=Extern.AbiNoEscape.same) (by kernel_rfl)]
 rw[Lib.run_noEscape]
 simp only[Result.andThen]
 rw[Oper.upon_value]
 go_wp2
 rw[Lib.run_from_unsafe w ⟨b,0,none⟩ Tryz.underlying363 Tryz.underlying153 hj hsh aaW]
 simp only[Result.andThen]
 rw[Oper.upon_value]
 go_wp2
 go_end0
 exact⟨rfl,rfl⟩
theorem PY(B b:Nat)(bs:List Value)(w:World)(h:Lib.IsBuilderF 156 5 B b bs w):
 Calls Tryz.prog 295 #[.pointer (some ⟨b,0,none⟩)] w fun e w'=>e=.returned (.tuple #[])∧(Lib.BuilderAtF 156 5 B b (.pointer (some ⟨b,0,none⟩)) bs w'∧Below B w w'∧Lib.OthersKept 5 (some b) w w'):=by
 rcases h with h|h
 ·refine(Kl b w h.cell0 h.shape h.frozen0).mono ?_
  rintro e w' ⟨rfl,rfl⟩
  exact⟨rfl,h.used _,(Below.refl B w).setCell (p:=⟨b,0,none⟩) h.1 _,(Lib.OthersKept.refl _ _ w).setCell ⟨b,0,none⟩ rfl _⟩
 ·refine(MO b w h.cell0).mono ?_
  rintro e w' ⟨rfl,rfl⟩
  exact⟨rfl,h,Below.refl B _,Lib.OthersKept.refl _ _ _⟩
set_option maxHeartbeats 2000000 in
theorem Ao(B b:Nat)(bs:List Value)(c:Int)(w:World)(h:Lib.IsBuilderF 156 5 B b bs w)(hlen:bs.length+1≤140737488355328)(hBw:B≤w.heap.size):
 Calls Tryz.prog 211 #[.pointer (some ⟨b,0,none⟩),.int .u8 c] w fun e w'=>e=.returned .nilIface∧(Lib.BuilderAtF 156 5 B b (.pointer (some ⟨b,0,none⟩)) (bs++[.int .u8 c]) w'∧Below B w w'∧Lib.OthersKept 5 (some b) w w'):=by
 obtain⟨i0,hi,hz0,hz1,hz2⟩:=info_parts UO
 go_enter Tryz.func211,Tryz.ntmps211
 go_wp2_with (go_at_call 295;refine(PY B b bs _ h).mono ?_)
 rintro e w1 ⟨rfl,⟨hB,v,hbk,hown,hne⟩,hb1,hk1⟩
 have c0:w1.cell? ⟨b,0,none⟩=some (.pointer (some ⟨b,0,none⟩)):=by rw[Lib.cell_of_heap hbk];rfl
 have c1:w1.cell? ⟨b,1,none⟩=some v:=by rw[Lib.cell_of_heap hbk];rfl
 go_wp2_with (at_builtin;refine wpList_append_ownF _ rfl _ _ 154 rfl B 5 i0 (.int .u8 0) 1 1 Tryz.underlying154 hi hz0 hz1 hz2 rfl (by decide) _ _ _ rfl (hown.alloc _) ⟨w1.heap.size,0,none⟩ 1 1 [.int .u8 c] rfl rfl ?c1 ?c2 ?c3 ?c4 ?c5 ?_)
 case c1=>
  intro j u hj
  match j,hj with
  |0,hj=>simp at hj;subst hj;simp[Addr.add]
 case c2=>intro u hu;simp at hu;subst hu;rfl
 case c3=>unfold maxLen;omega
 case c4=>omega
 case c5=>have:=hb1.size;simp;omega
 intro v' w2 hown' hgrow _
 have hlt:b<w1.heap.size:=by
  rcases Nat.lt_or_ge b w1.heap.size with h'|h'
  ·exact h'
  ·simp[Array.getElem?_eq_none h'] at hbk
 have hb2:w2.heap[b]? =some (.cells #[.pointer (some ⟨b,0,none⟩),v] 156 (0,0)):=by
  rw[hgrow.block b (by simp;omega) (fun e=>hne e.symm),Lib.alloc_old w1 _ b hlt]
  exact hbk
 have d0:w2.cell? ⟨b,0,none⟩=some (.pointer (some ⟨b,0,none⟩)):=by rw[Lib.cell_of_heap hb2];rfl
 have d1:w2.cell? ⟨b,1,none⟩=some v:=by rw[Lib.cell_of_heap hb2];rfl
 have f1:w2.frozen? ⟨b,1,none⟩=false:=Lib.frozen_of_heap hb2 1
 obtain⟨g,cap,rfl⟩:∃g cap,v'=.slice (some ⟨g,0,none⟩) (bs.length+1) cap:=by
  rcases hown'.2 with⟨_,h0⟩|⟨g,cap,cur,fz,hv,_⟩
  ·omega
  ·exact⟨g,cap,hv⟩
 go_wp2
 go_ret
 refine⟨rfl,?_,?_,((hk1.alloc _).grown hgrow (Lib.ownsRowF_kind (hown.alloc _))).setCell ⟨b,1,none⟩ rfl _⟩
 ·exact Lib.BuilderAtF.put (T:=156) (e:=5) hB hb2 (bs':=bs++[.int .u8 c]) (by simpa using hown') (by decide)
 ·exact((hb1.alloc (by have:=hb1.size;omega) _).grown hgrow (by have:=hb1.size;simp;omega) (fun k hk=>(hown.lt k hk).1)).setCell (p:=⟨b,1,none⟩) hB _
set_option maxHeartbeats 2000000 in
theorem MP(B b:Nat)(bs:List Value)(s:ByteArray)(w:World)(h:Lib.IsBuilderF 156 5 B b bs w)(hlen:bs.length+s.size≤140737488355328)(hBw:B≤w.heap.size):
 Calls Tryz.prog 210 #[.pointer (some ⟨b,0,none⟩),.string s] w fun e w'=>e=.returned (.tuple #[.int .i64 s.size,.nilIface])∧(Lib.BuilderAtF 156 5 B b (.pointer (some ⟨b,0,none⟩)) (bs++Lib.strCells s) w'∧Below B w w'∧Lib.OthersKept 5 (some b) w w'):=by
 obtain⟨i0,hi,hz0,hz1,hz2⟩:=info_parts UO
 go_enter Tryz.func210,Tryz.ntmps210
 go_wp2_with (go_at_call 295;refine(PY B b bs _ h).mono ?_)
 rintro e w1 ⟨rfl,⟨hB,v,hbk,hown,hne⟩,hb1,hk1⟩
 have c0:w1.cell? ⟨b,0,none⟩=some (.pointer (some ⟨b,0,none⟩)):=by rw[Lib.cell_of_heap hbk];rfl
 have c1:w1.cell? ⟨b,1,none⟩=some v:=by rw[Lib.cell_of_heap hbk];rfl
 go_wp2_with (at_builtin;refine Lib.wpList_append_own_stringF _ rfl _ _ 154 9 rfl B 5 i0 Tryz.underlying154 Tryz.underlying9 hi hz0 hz1 hz2 _ _ _ rfl hown s rfl ?c3 ?c4 ?c5 ?_)
 case c3=>unfold maxLen;omega
 case c4=>omega
 case c5=>have:=hb1.size;omega
 intro v' w2 hown' hgrow _
 have hlt:b<w1.heap.size:=by
  rcases Nat.lt_or_ge b w1.heap.size with h'|h'
  ·exact h'
  ·simp[Array.getElem?_eq_none h'] at hbk
 have hb2:w2.heap[b]? =some (.cells #[.pointer (some ⟨b,0,none⟩),v] 156 (0,0)):=by
  rw[hgrow.block b hlt (fun e=>hne e.symm)]
  exact hbk
 have d0:w2.cell? ⟨b,0,none⟩=some (.pointer (some ⟨b,0,none⟩)):=by rw[Lib.cell_of_heap hb2];rfl
 have d1:w2.cell? ⟨b,1,none⟩=some v:=by rw[Lib.cell_of_heap hb2];rfl
 have f1:w2.frozen? ⟨b,1,none⟩=false:=Lib.frozen_of_heap hb2 1
 obtain⟨ao,n',cap,rfl⟩:∃ao n' cap,v'=.slice ao n' cap:=by
  rcases hown'.2 with⟨hv,_⟩|⟨g,cap,cur,fz,hv,_⟩
  ·exact⟨_,_,_,hv⟩
  ·exact⟨_,_,_,hv⟩
 go_wp2
 go_ret2
 refine⟨rfl,?_,?_,(hk1.grown hgrow (Lib.ownsRowF_kind hown)).setCell ⟨b,1,none⟩ rfl _⟩
 ·exact Lib.BuilderAtF.put (T:=156) (e:=5) hB hb2 (bs':=bs++Lib.strCells s) (by simpa [Lib.strCells_length] using hown') (by decide)
 ·exact(hb1.grown hgrow (by have:=hb1.size;omega) (fun k hk=>(hown.lt k hk).1)).setCell (p:=⟨b,1,none⟩) hB _
set_option maxHeartbeats 2000000 in
theorem RA(B b:Nat)(l:List UInt8)(w:World)(h:Lib.IsBuilderF 156 5 B b (Lib.byteCells l) w)(h0:l≠[]):
 Calls Tryz.prog 120 #[.pointer (some ⟨b,0,none⟩)] w fun e w'=>e=.returned (.string ⟨l.toArray⟩)∧Below B w w':=by
 obtain⟨p,hA⟩:∃p,Lib.BuilderAtF 156 5 B b p (Lib.byteCells l) w:=h.elim (fun x=>⟨_,x⟩) (fun x=>⟨_,x⟩)
 obtain⟨hB,v,hbk,hown,-⟩:=hA
 have hl:l.length≠0:=by simpa using h0
 rw[Lib.byteCells_length] at hown
 have hcell:=fun g hg=>hown.cells (g:=g) hg
 obtain⟨-,⟨-,hz⟩|⟨g,cap,cur,fz,rfl,hbg,hg,-,hnc,hcm,hcs,-⟩⟩:=hown
 ·exact absurd hz hl
 have hg':w.drew.heap[g]? =some (.cells cur 5 fz):=hg
 have hb':w.drew.heap[b]? =some (.cells #[p,.slice (some ⟨g,0,none⟩) l.length cap] 156 (0,0)):=hbk
 have c1:w.drew.cell? ⟨b,1,none⟩=some (.slice (some ⟨g,0,none⟩) l.length cap):=by rw[Lib.cell_of_heap hb'];rfl
 have hSD:(Builtin.unsafeSliceData_ #[154] 252 #[.slice (some ⟨g,0,none⟩) l.length cap]).run Tryz.prog w.drew=.ok (.pointer (some ⟨g,0,none⟩)) w.drew:=
  Lib.run_unsafeSliceData_row _ _ _ _ _ _ (by omega)
 have hUS:(Builtin.unsafeString_ #[252,3] 9 #[.pointer (some ⟨g,0,none⟩),.int .i64 l.length]).run Tryz.prog w.drew=.ok (.string ⟨l.toArray⟩) (w.drew.freeze ⟨g,0,none⟩ l.length):=
  Lib.run_unsafeString_row w.drew 252 3 9 5 Tryz.underlying252 (by kernel_rfl) g cur.size (by simp[World.shape?,hg']) l h0 (by omega) (by unfold maxLen at hcm;omega) fun j x hx=>
   hcell g rfl j (.int .u8 x.toNat) (by simp[Lib.byteCells,hx])
 clear hcell hg' hb'
 go_enter Tryz.func120,Tryz.ntmps120
 go_wp2
 go_region
 all_goals (go_wp2;go_ret;exact⟨rfl,Lib.below_freeze (Below.drew (Below.refl B w)) (p:=⟨g,0,none⟩) hbg _⟩)
end Go.Proofs.YtcfhnaohbaplhaaGreatDoor
namespace Go.Ab
def bO(s:List UInt8):aj:=.mk s []
def bR(l:List aj):aj:=.mk [] l
def aT(l:List (List UInt8)):List aj:=l.map bO
def wV:aj:=.mk [] []
theorem jk(s:List UInt8):(bO s).bS=s:=rfl
theorem jl(s:List UInt8):(bO s).aY=[]:=rfl
theorem dJ(l:List aj):(bR l).bS=[]:=rfl
theorem cO(l:List aj):(bR l).aY=l:=rfl
def RB:List UInt8:=[100,121,110]
def ku:List UInt8:=[97,115,115,111,99]
mutual
def cB:ah→aj
 | .mk k n zs=>if k=1 then bO ([39]++n) else if k=4 then bR [bO RB,bO n] else if k=2∧zs.length=0 then bO n else
   bR ((if k=3 then [bO ku] else [])++[bO n]++Em zs)
def Em:List ah→List aj
 |[]=>[]
 |t::ts=>cB t::Em ts
end
theorem xV:∀l,Em l=l.map cB
 |[]=>rfl
 |t::ts=>by rw[Em,List.map_cons,xV ts]
theorem UQ(x:ah):cB x=if x.aU=1 then bO ([39]++x.fName) else if x.aU=4 then bR [bO RB,bO x.fName] else if x.aU=2∧x.fArgs.length=0 then bO x.fName else
 bR ((if x.aU=3 then [bO ku] else [])++[bO x.fName]++x.fArgs.map cB):=by
 cases x;rw[cB,xV];rfl
theorem ug{t:ah}(h:kZ t=true):formed t=true:=(iN h).1
theorem rE(x:aj):x.sz=x.bS.length+(x.aY.length+aI (x.aY.map aj.enc)):=by
 simp only[aj.sz,aj.aH,bL,D.sz,List.length_map];omega
def fu:List aj→Nat
 |[]=>0
 |x::xs=>x.sz+fu xs
theorem pU:∀l,aI (l.map aj.enc)=fu l
 |[]=>rfl
 |x::xs=>by rw[List.map_cons,aI,fu,pU xs];rfl
theorem gJ:∀a b,fu (a++b)=fu a+fu b
 |[],b=>by simp[fu]
 |x::a,b=>by rw[List.cons_append,fu,fu,gJ a b];omega
theorem xk{x:aj}:∀{l:List aj},x∈l→x.sz≤fu l
 |y::l,h=>by
  rw[fu]
  rcases List.mem_cons.1 h with rfl|h
  ·omega
  ·have:=xk h;omega
theorem iQ(s:List UInt8):(bO s).sz=s.length:=by rw[rE];simp[bO,aj.bS,aj.aY,aI]
theorem iI(l:List aj):(bR l).sz=l.length+fu l:=by rw[rE,pU];simp[bR,aj.bS,aj.aY]
theorem ng:∀l:List (List UInt8),fu (aT l)=(l.map List.length).sum
 |[]=>rfl
 |s::l=>by rw[aT,List.map_cons,fu,iQ,←aT,ng l,List.map_cons,List.sum_cons]
theorem iD(l:List (List UInt8)):(aT l).length=l.length:=by simp[aT]
theorem dA:∀l:List (List UInt8),aI (l.map encS)=(l.map List.length).sum
 |[]=>rfl
 |s::l=>by rw[List.map_cons,aI,dA l,List.map_cons,List.sum_cons];simp[encS,bL,D.sz]
def F4:List ah→Nat
 |[]=>0
 |x::xs=>x.sz+F4 xs
theorem xW:∀l,aI (l.map ah.enc)=F4 l
 |[]=>rfl
 |x::xs=>by rw[List.map_cons,aI,F4,xW xs];rfl
theorem Xt(x:ah):x.sz=x.fName.length+(x.fArgs.length+F4 x.fArgs):=by
 rw[←xW];simp only[ah.sz,ah.aH,bL,D.sz,List.length_map];omega
mutual
theorem vW:∀x:ah,(cB x).sz≤12+16*x.sz
 | .mk k n zs=>by
   have h:=Ij zs
   rw[Xt]
   simp only[ah.fName,ah.fArgs]
   rw[cB]
   split
   ·rw[iQ];simp;omega
   ·split
    ·rw[iI];simp[fu,iQ,RB];omega
    ·split
     ·rw[iQ];omega
     ·rw[iI,gJ,gJ,List.length_append,List.length_append,xV,List.length_map,←xV]
      split<;>simp[fu,iQ,ku]<;>omega
theorem Ij:∀xs:List ah,fu (Em xs)≤12*xs.length+16*F4 xs
 |[]=>by simp[Em,fu]
 |x::xs=>by
  have h1:=vW x
  have h2:=Ij xs
  rw[Em,fu,F4,List.length_cons];omega
end
theorem F5(xs:List ah):fu (xs.map cB)≤12*xs.length+16*F4 xs:=by rw[←xV];exact Ij xs
def jH(b:UInt8):Bool:=decide (97≤b.toNat∧b.toNat≤122)||decide (48≤b.toNat∧b.toNat≤57)||decide (b∈([39,45,43,42,60,61,46]:List UInt8))
def validAtom(s:List UInt8):Bool:=s.all jH&&decide (1≤s.length∧s.length≤12)
mutual
def oI:aj→Bool
 | .mk a l=>if a=[] then oP l else validAtom a&&decide (l.length=0)
def oP:List aj→Bool
 |[]=>true
 |x::xs=>oI x&&oP xs
end
mutual
def kR:aj→Nat
 | .mk a l=>if a=[] then ny l+1 else 0
def ny:List aj→Nat
 |[]=>0
 |x::xs=>max (kR x) (ny xs)
end
mutual
def jZ:aj→Nat
 | .mk _ l=>mo l+1
def mo:List aj→Nat
 |[]=>0
 |x::xs=>jZ x+mo xs
end
theorem MQ(x:aj):oI x=if x.bS=[] then oP x.aY else validAtom x.bS&&decide (x.aY.length=0):=by cases x;rw[oI];rfl
theorem JE(x:aj):kR x=if x.bS=[] then ny x.aY+1 else 0:=by cases x;rw[kR];rfl
theorem MR(x:aj):jZ x=mo x.aY+1:=by cases x;rw[jZ];rfl
theorem F6:∀{l:List aj},(l.any fun t=> !oI t)= !oP l
 |[]=>rfl
 |t::ts=>by rw[List.any_cons,F6 (l:=ts),oP];simp
mutual
theorem y5:∀x:aj,kR x≤jZ x
 | .mk a l=>by
   have:=BP l
   rw[kR,jZ];split<;>omega
theorem BP:∀l:List aj,ny l≤mo l
 |[]=>by simp[ny]
 |x::xs=>by
  have h1:=y5 x
  have h2:=BP xs
  rw[ny,mo];omega
end
mutual
theorem MS:∀x:aj,jZ x≤x.sz+1
 | .mk a l=>by
   have:=JF l
   rw[rE,jZ,pU];simp only[aj.bS,aj.aY];omega
theorem JF:∀l:List aj,mo l≤l.length+fu l
 |[]=>by simp[mo]
 |x::xs=>by
  have h1:=MS x
  have h2:=JF xs
  rw[mo,fu,List.length_cons];omega
end
def gU(x:aj):Bool:=oI x&&decide (kR x≤14∧jZ x≤900)
mutual
theorem MU:∀x:aj,oI x=true→x.sz+1≤13*jZ x
 | .mk a l=>fun h=>by
   rw[oI] at h
   rw[rE,jZ,pU]
   simp only[aj.bS,aj.aY]
   split at h
   ·rename_i ha
    have:=JG l h
    subst ha
    simp only[List.length_nil];omega
   ·rw[Bool.and_eq_true,decide_eq_true_eq] at h
    have h1:=h.1
    unfold validAtom at h1
    rw[Bool.and_eq_true,decide_eq_true_eq] at h1
    have:l=[]:=List.eq_nil_of_length_eq_zero h.2
    subst this
    simp[fu];omega
theorem JG:∀l:List aj,oP l=true→l.length+fu l≤13*mo l
 |[],_=>by simp[fu]
 |x::xs,h=>by
  rw[oP,Bool.and_eq_true] at h
  have h1:=MU x h.1
  have h2:=JG xs h.2
  rw[fu,mo,List.length_cons];omega
end
theorem UR{x:aj}(h:gU x=true):x.sz≤11700:=by
 unfold gU at h
 rw[Bool.and_eq_true,decide_eq_true_eq] at h
 have:=MU x h.1
 omega
def oZ(x:aj):aj:=if gU x=true then x else wV
def qV:Bool→aj→aj
 |true,x=>oZ x
 |false,_=>wV
theorem aaX(x:aj):(oZ x).sz≤11700:=by
 unfold oZ
 split
 ·rename_i h;exact UR h
 ·rw[rE];simp[wV,aj.bS,aj.aY,aI]
theorem Zy(b:Bool)(x:aj):(qV b x).sz≤11700:=by
 cases b with
 |true=>exact aaX x
 |false=>rw[qV,rE];simp[wV,aj.bS,aj.aY,aI]
end Go.Ab
namespace Go.Ab
def fU(by':List UInt8):List (List UInt8)→List UInt8
 |[]=>[]
 |x::xs=>x++(xs.map fun y=>by'++y).flatten
theorem RD(b:List UInt8)(l:List (List UInt8))(x:List UInt8):fU b (l++[x])=if l=[] then x else fU b l++b++x:=by
 cases l with
 |nil=>simp[fU]
 |cons y l=>simp[fU,List.append_assoc]
mutual
def fK:aj→List UInt8
 | .mk a l=>if a=[] then [40]++fU [32] (vX l)++[41] else a
def vX:List aj→List (List UInt8)
 |[]=>[]
 |x::xs=>fK x::vX xs
end
theorem Ap:∀l,vX l=l.map fK
 |[]=>rfl
 |x::xs=>by rw[vX,List.map_cons,Ap xs]
theorem MV(x:aj):fK x=if x.bS=[] then [40]++fU [32] (x.aY.map fK)++[41] else x.bS:=by cases x;rw[fK,Ap];rfl
theorem Aq(b:List UInt8)(l:List (List UInt8))(i:Nat)(hi:i<l.length):fU b (l.take (i+1))=if i=0 then l[i] else fU b (l.take i)++b++l[i]:=by
 rw[List.take_succ_eq_append_getElem hi,RD]
 by_cases h:i=0
 ·rw[if_pos h,if_pos (by rw[h];rfl)]
 ·rw[if_neg h,if_neg (fun e=>h (by have:=congrArg List.length e;rw[List.length_take,List.length_nil] at this;omega))]
theorem Xu(b:List UInt8)(hb:b.length=1):∀l:List (List UInt8),l.length≤(fU b l).length+1
 |[]=>by simp
 |x::xs=>by
  have h:∀ys:List (List UInt8),ys.length≤((ys.map fun y=>b++y).flatten).length:=by
   intro ys
   induction ys with
   |nil=>simp
   |cons y ys ih=>rw[List.map_cons,List.flatten_cons,List.length_append,List.length_append,List.length_cons];omega
  have:=h xs
  rw[fU,List.length_append,List.length_cons];omega
theorem F7(b:List UInt8)(l:List (List UInt8))(i:Nat):(fU b (l.take i)).length≤(fU b l).length:=by
 by_cases hi:i<l.length
 ·have:∀k,i+k≤l.length→(fU b (l.take i)).length≤(fU b (l.take (i+k))).length:=by
   intro k
   induction k with
   |zero=>intro _;exact Nat.le_refl _
   |succ k ih=>
    intro hk
    have h1:=ih (by omega)
    rw[←Nat.add_assoc,Aq b l (i+k) (by omega)]
    split
    ·rename_i h0
     have:i=0:=by omega
     subst this
     simp[fU]
    ·simp only[List.length_append];omega
  have:=this (l.length-i) (by omega)
  rwa [show i+(l.length-i)=l.length by omega,List.take_length] at this
 ·rw[List.take_of_length_le (by omega)]
  exact Nat.le_refl _
theorem UU(b:List UInt8):∀l:List (List UInt8),(fU b l).length≤(l.map fun x=>b.length+x.length).sum
 |[]=>by simp[fU]
 |x::xs=>by
  have h:∀ys:List (List UInt8),((ys.map fun y=>b++y).flatten).length=(ys.map fun x=>b.length+x.length).sum:=by
   intro ys
   induction ys with
   |nil=>rfl
   |cons y ys ih=>rw[List.map_cons,List.flatten_cons,List.length_append,List.length_append,ih,List.map_cons,List.sum_cons]
  rw[fU,List.length_append,h,List.map_cons,List.sum_cons];omega
mutual
theorem BQ:∀x:aj,(fK x).length≤2+3*x.sz
 | .mk a l=>by
   have h:=F8 l
   rw[rE,pU]
   simp only[aj.bS,aj.aY]
   rw[fK]
   split
   ·have:=UU [32] (vX l)
    simp only[List.length_append,List.length_cons,List.length_nil] at this ⊢
    omega
   ·omega
theorem F8:∀l:List aj,((vX l).map fun x=>0+1+x.length).sum≤3*l.length+3*fu l
 |[]=>by simp[vX]
 |x::xs=>by
  have h1:=BQ x
  have h2:=F8 xs
  rw[vX,List.map_cons,List.sum_cons,fu,List.length_cons];omega
end
def nZ(l:List UInt8):List (List D):=l.map fun b=>[D.i .u8 b.toNat]
theorem Bc(a b:List UInt8):nZ (a++b)=nZ a++nZ b:=by unfold nZ;rw[List.map_append]
theorem Bd(a:List UInt8):(nZ a).length=a.length:=by unfold nZ;rw[List.length_map]
theorem OI(a:List UInt8):(nZ a).map EP=a:=by
 unfold nZ
 rw[List.map_map]
 conv=>rhs;rw[←List.map_id a]
 refine List.map_congr_left fun b _=> ?_
 show UInt8.ofNat ((b.toNat:Int)).toNat=b
 rw[Int.toNat_natCast,UInt8.ofNat_toNat]
theorem RF(a:List UInt8):∀y∈nZ a,y=[.i .u8 (zR y)]:=fun y hy=>by
 obtain⟨b,_,rfl⟩:=List.mem_map.1 hy
 rfl
def xX(x:aj):List UInt8:=if gU x=true then fK x else []
def xY(x:aj):List UInt8:=if x.bS=[]∧x.aY.length=0 then [] else xX x
theorem MW(x:aj):(x.bS=[]∧x.aY.length=0)↔x=wV:=by
 refine⟨fun⟨h1,h2⟩=>aj.ext h1 (List.eq_nil_of_length_eq_zero h2),fun h=>by rw[h];exact⟨rfl,rfl⟩⟩
theorem UW{x:aj}(h:x=wV):xY x=[]:=by
 unfold xY
 rw[if_pos ((MW _).2 h)]
theorem UY{x:aj}(h:¬x=wV):xY x=xX x:=by
 unfold xY
 rw[if_neg (fun e=>h ((MW _).1 e))]
theorem aaY{x:aj}(h:¬x.aY.length=0):xY x=xX x:=by
 unfold xY
 rw[if_neg (fun e=>h e.2)]
theorem aaZ{x:aj}(h:x.bS=[])(h':x.aY.length=0):xY x=[]:=by
 unfold xY
 rw[if_pos ⟨h,h'⟩]
end Go.Ab
namespace Go.Ab
theorem aa0{w:World}{σ:Nat→Nat}{xs:List aj}{lv:Value}(h:dL w σ (.sl (xs.map aj.enc)) lv):∃a cap,lv=.slice a xs.length cap∧∀i (hi:i<xs.length),∃k off,a=some ⟨k,off,none⟩∧∃c t fz u,
 w.heap[k]? =some (.cells c t fz)∧c[off+i*2]? =some (.string ⟨xs[i].bS.toArray⟩)∧c[off+(i*2+1)]? =some u∧dL w σ (.sl (xs[i].aY.map aj.enc)) u:=by
 generalize he:xs.map aj.enc=es at h
 have hl:es.length=xs.length:=by rw[←he,List.length_map]
 cases h with
 |nil a cap=>
  have h0:xs.length=0:=hl.symm
  exact⟨a,cap,by rw[h0],fun i hi=>absurd hi (by omega)⟩
 |sl k off cap bn es vals c t fz hcap hlen hb hσ hc hv=>
  refine⟨_,cap,by rw[hl],fun i hi=>⟨k,off,rfl,c,t,fz,?_⟩⟩
  have e1:es[i]'(by omega)=[.s xs[i].bS,.sl (xs[i].aY.map aj.enc)]:=by
   subst he
   rw[List.getElem_map,aj.aH]
   first|rfl|done
  have hz:bn=2:=by
   have:=hlen _ (List.getElem_mem (l:=es) (n:=i) (by omega))
   rw[e1] at this
   exact this.symm
  subst hz
  have hf:∀o (ho:o<2),es.flatten[i*2+o]? =(es[i]'(by omega))[o]? :=fun o ho=>flat_get es 2 hlen i o (by omega) ho
  have h0:=hv (i*2+0) (.s xs[i].bS) (by rw[hf 0 (by omega),e1];rfl)
  have h1:=hv (i*2+1) (.sl (xs[i].aY.map aj.enc)) (by rw[hf 1 (by omega),e1];rfl)
  refine⟨vals (i*2+1),hb,?_,hc _ (by omega),h1⟩
  have:=hc (i*2+0) (by omega)
  generalize vals (i*2+0)=v0 at h0 this
  cases h0
  exact this
theorem aa1{w:World}{σ:Nat→Nat}{es:List (List D)}{u:Value}(h:dL w σ (.sl es) u):∃a n c,u=.slice a n c:=by
 cases h with
 |nil a c=>exact⟨_,_,_,rfl⟩
 |sl=>exact⟨_,_,_,rfl⟩
end Go.Ab
namespace Go.Proofs.YtcfhnaohbaplhaaGreatDoor
open Go Go.Ab Go.RowKit
set_option maxHeartbeats 2000000 in
theorem F9(w0:World)(σ:Nat→Nat):∀(n:Nat) (x:aj),x.sz<n→∀(b:Nat) (bs:List Value) (w:World) (lv:Value),dL w0 σ (.sl (x.aY.map aj.enc)) lv→Below w0.heap.size w0 w→
 Lib.IsBuilderF 156 5 w0.heap.size b bs w→bs.length+(fK x).length≤140737488355328→
 Calls Tryz.prog 119 #[.pointer (some ⟨b,0,none⟩),.agg #[.string ⟨x.bS.toArray⟩,lv]] w fun e w'=>e=.returned (.tuple #[])∧Lib.IsBuilderF 156 5 w0.heap.size b (bs++Lib.byteCells (fK x)) w'∧Below w0.heap.size w w'∧Lib.OthersKept 5 (some b) w w'
 |0=>fun x h=>by omega
 |n+1=>fun x hx b bs w lv hr hbw h hlen=>by
  obtain⟨B,hB⟩:∃B,B=w0.heap.size:=⟨_,rfl⟩
  have hBw:B≤w.heap.size:=by rw[hB];exact hbw.size
  rw[←hB] at hbw h ⊢
  cases x with|mk s xs=> ?_
  simp only[aj.bS,aj.aY] at *
  have ih:=F9 w0 σ n
  rw[←hB] at ih
  have HB:Aside (B=w0.heap.size):=hB
  clear hB
  by_cases ha:s=[]
  ·subst ha
   have ht:fK (.mk [] xs)=[40]++fU [32] (xs.map fK)++[41]:=by rw[fK,if_pos rfl,Ap]
   rw[ht] at hlen ⊢
   have hx:∀i (hi:i<xs.length),xs[i].sz<n:=fun i hi=>by
    have h1:=xk (List.getElem_mem hi)
    rw[rE,pU] at hx
    simp only[aj.bS,aj.aY,List.length_nil] at hx
    omega
   simp only[List.length_append,List.length_cons,List.length_nil] at hlen
   have hj:=Xu [32] rfl (xs.map fK)
   rw[List.length_map] at hj
   obtain⟨ad,cap,rfl,hrow⟩:=aa0 hr
   clear hr
   obtain⟨T,hT⟩:∃T,T=[40]++fU [32] (xs.map fK)++[41]:=⟨_,rfl⟩
   rw[←hT]
   have HT:Aside (T=[40]++fU [32] (xs.map fK)++[41]):=hT
   clear hT ht
   go_enter Tryz.func119,Tryz.ntmps119
   go_wp2_with (go_at_call 211;refine(Ao B b bs 40 _ (h.alloc _) ?_ ?_).mono ?_)
   ·omega
   ·simp;omega
   rintro e w1 ⟨rfl,h1,hb1,hk1⟩
   have hbne:w.heap.size≠b:=fun e=>by
    have:b<w.heap.size:=h.elim (fun z=>z.lt) (fun z=>z.lt)
    omega
   have c1:w1.cell? ⟨w.heap.size,1,none⟩=some (.slice ad xs.length cap):=by
    have:=hk1 w.heap.size _ (heap_alloc_new w _) (fun z=>hbne (Option.some.inj z)) (fun c fz z=>by cases z)
    rw[Lib.cell_of_heap this];rfl
   have hb1':Below B w w1:=((Below.refl B w).alloc hBw _).trans hb1
   have afc:Lib.OthersKept 5 (some b) w w1:=((Lib.OthersKept.refl _ _ w).alloc _).trans hk1
   clear hb1 hk1
   go_wp2
   go_loopg [18] xs.length (fun g v wx=>∃i:Nat,i+g=xs.length∧v=.int .i64 i∧Lib.IsBuilderF 156 5 B b (bs++Lib.byteCells ([40]++fU [32] ((xs.map fK).take i))) wx∧Below B w wx∧Lib.OthersKept 5 (some b) w wx)
   case atStart=>exact⟨0,by omega,rfl,.inr (by simpa [Lib.byteCells,fU] using h1),hb1',afc⟩
   case round=>
    obtain⟨i,hi,rfl,hbd,hbx,hkx⟩:=hrel
    cases gk with
    |zero=>
     obtain rfl:i=xs.length:=by omega
     rw[List.take_of_length_le (by simp)] at hbd
     go_wp2_with (go_at_call 211;refine(Ao B b _ 41 _ hbd ?_ ?_).mono ?_)
     ·simp only[List.length_append,Lib.byteCells_length,List.length_cons,List.length_nil];omega
     ·exact Nat.le_trans hBw hbx.size
     rintro e w2 ⟨rfl,h2,hb2,hk2⟩
     go_wp2
     go_end0
     rw[HT.out]
     refine⟨rfl,.inr ?_,hbx.trans hb2,hkx.trans hk2⟩
     rw[Lib.byteCells_append,←List.append_assoc]
     exact h2
    |succ g=>
     have hil:i<xs.length:=by omega
     have hx:=hx i hil
     obtain⟨k,off,rfl,c,t,fz,u,hk,hc0,hc1,Ld⟩:=hrow i hil
     obtain⟨ua,un,uc,rfl⟩:=aa1 Ld
     clear hrow
     have hkB:k<B:=by
      rw[HB.out]
      exact(Array.getElem?_eq_some_iff.1 hk).1
     have hkr:wr.heap[k]? =some (.cells c t fz):=by rw[(hbw.trans hbx).block k hkB];exact hk
     have d0:wr.cell? ⟨k,off+i*2,none⟩=some (.string ⟨xs[i].bS.toArray⟩):=by rw[Lib.cell_of_heap hkr];exact hc0
     have d1:wr.cell? ⟨k,off+i*2+1,none⟩=some (.slice ua un uc):=by rw[Lib.cell_of_heap hkr];exact hc1
     have htk:(fU [32] ((xs.map fK).take (i+1))).length≤(fU [32] (xs.map fK)).length:=F7 _ _ _
     have hst:=Aq [32] (xs.map fK) i (by simpa using hil)
     by_cases hi0:i=0
     ·rw[if_pos hi0,List.getElem_map] at hst
      rw[hst] at htk
      have HST:Aside (fU [32] ((xs.map fK).take (i+1))=fK xs[i]):=hst
      have HI:Aside (i=0):=hi0
      have hng:¬(0:Int)<(i:Int):=by omega
      clear hst hi0
      have hc:=ih xs[i] hx b _ (wr.alloc (.cells #[.string ⟨xs[i].bS.toArray⟩,.slice ua un uc] 78)) _ Ld (hbw.trans (hbx.trans ((Below.refl B wr).alloc (Nat.le_trans hBw hbx.size) _))) (hbd.alloc _) (by
       simp only[List.length_append,Lib.byteCells_length,List.length_cons,List.length_nil]
       have hz:fU [32] ((xs.map fK).take i)=[]:=by rw[HI.out];rfl
       rw[hz,List.length_nil];omega)
      go_wp2_with (go_at_call 119;refine hc.mono ?_;rintro e w2 ⟨rfl,h2,hb2,hk2⟩)
      go_roundg g
      case measure=>omega
      case rel=>
       refine⟨i+1,by omega,rfl,?_,hbx.trans (((Below.refl B wr).alloc (Nat.le_trans hBw hbx.size) _).trans hb2),hkx.trans (((Lib.OthersKept.refl _ _ wr).alloc _).trans hk2)⟩
       rw[HST.out]
       have hz:fU [32] ((xs.map fK).take i)=[]:=by rw[HI.out];rfl
       rw[hz,List.append_nil,List.append_assoc,←Lib.byteCells_append] at h2
       exact h2
     ·rw[if_neg hi0,List.getElem_map] at hst
      rw[hst] at htk
      have HST:Aside (fU [32] ((xs.map fK).take (i+1))=fU [32] ((xs.map fK).take i)++[32]++fK xs[i]):=hst
      have hpg:(0:Int)<(i:Int):=by omega
      clear hst
      simp only[List.length_append,List.length_cons,List.length_nil] at htk
      go_wp2_with (go_at_call 211;refine(Ao B b _ 32 _ (hbd.alloc _) ?_ ?_).mono ?_)
      ·simp only[List.length_append,Lib.byteCells_length,List.length_cons,List.length_nil];omega
      ·exact Nat.le_trans (Nat.le_trans hBw hbx.size) (by simp)
      rintro e w2 ⟨rfl,h2,hb2,hk2⟩
      have hwr:b<wr.heap.size:=hbd.elim (fun z=>z.lt) (fun z=>z.lt)
      have hq:w2.heap[wr.heap.size]? =_:=hk2 wr.heap.size _ (heap_alloc_new wr _) (fun z=>by have:=Option.some.inj z;omega) (fun c fz z=>by cases z)
      have q0:w2.cell? ⟨wr.heap.size,0,none⟩=some (.string ⟨xs[i].bS.toArray⟩):=by rw[Lib.cell_of_heap hq];rfl
      have q1:w2.cell? ⟨wr.heap.size,1,none⟩=some (.slice ua un uc):=by rw[Lib.cell_of_heap hq];rfl
      have hb2':Below B wr w2:=((Below.refl B wr).alloc (Nat.le_trans hBw hbx.size) _).trans hb2
      have afd:Lib.OthersKept 5 (some b) wr w2:=((Lib.OthersKept.refl _ _ wr).alloc _).trans hk2
      have hc:=ih xs[i] hx b _ w2 _ Ld (hbw.trans (hbx.trans hb2')) (.inr h2) (by
       simp only[List.length_append,Lib.byteCells_length,List.length_cons,List.length_nil];omega)
      clear hq hb2 hk2
      go_wp2_with (go_at_call 119;refine hc.mono ?_;rintro e w3 ⟨rfl,h3,hb3,hk3⟩)
      go_roundg g
      case measure=>omega
      case rel=>
       refine⟨i+1,by omega,rfl,?_,hbx.trans (hb2'.trans hb3),hkx.trans (afd.trans hk3)⟩
       rw[HST.out]
       simpa [Lib.byteCells,List.append_assoc] using h3
  ·have ht:fK (.mk s xs)=s:=by rw[fK,if_neg ha]
   rw[ht] at hlen ⊢
   clear ht hx
   go_enter Tryz.func119,Tryz.ntmps119
   have hm:s.isEmpty=false:=by simpa using ha
   go_wp2_with (go_at_call 210;refine(MP B b bs _ _ (h.alloc _) ?_ ?_).mono ?_)
   ·exact hlen
   ·simp;omega
   ·rintro e w1 ⟨rfl,h1,hb1,hk1⟩
    go_wp2
    refine bodyPost_ret (results_none rfl _ _ _) rfl ?_
    rw[Lib.strCells_eq] at h1
    exact⟨rfl,.inr h1,((Below.refl B w).alloc hBw _).trans hb1,((Lib.OthersKept.refl _ _ w).alloc _).trans hk1⟩
end Go.Proofs.YtcfhnaohbaplhaaGreatDoor
namespace Go.Proofs.YtcfhnaohbaplhaaGreatDoor
open Go Go.Ab
theorem Ar:∀n:Nat,(∀x:ah,SizeOf.sizeOf x<n→∀left:Int,0≤left→left≤1048576→kP x.enc→aD Tryz.prog 38 [x.v,.c (.d (.i .i64 left))] (.c (.d (.i .i64 (cK left x.sz)))))∧
 (∀xs:List ah,SizeOf.sizeOf xs<n→∀left:Int,0≤left→left≤1048576→(D.sl (xs.map ah.enc)).Fit→aD Tryz.prog 107 [.c (.d (.sl (xs.map ah.enc))),.c (.d (.i .i64 left))] (.c (.d (.i .i64 (cK left (xs.length+aI (xs.map ah.enc)))))))
 |0=>⟨fun x h=>by omega,fun x h=>by omega⟩
 |n+1=>by
  obtain⟨BR,zF⟩:=Ar n
  refine⟨fun x hn left h0 h1 hf S=> ?_,fun xs hn left h0 h1 hf S=> ?_⟩
  ·have iW:=ah.fD x
   simp only[ah.aH,List.cons_append,List.nil_append,iM,iK,iG,and_true] at hf
   obtain⟨aU,fName,fArgs⟩:=hf
   have hz:x.sz=x.fName.length+((x.fArgs.length+aI (x.fArgs.map ah.enc))):=by
    simp only[ah.sz,ah.aH,bL,bf,D.sz,List.length_map,Nat.add_zero,Nat.zero_add]<;>omega
   refine aB (rs:=[.tmp 4]) Tryz.checked.mixed Tryz.func38 Tryz.ntmps38 rfl rfl rfl rfl rfl ?_
   rw[hz]
   have wW:=pJ fName
   refine W1 ?_
   refine S0 (fun hb h=>?_) fun hb h=>?_
   ·exact int_eq (bV (by omega)).symm
   refine C1 (zF x.fArgs (by omega) _ (by omega) (by omega) fArgs) ?_
   refine S0 (fun hb h=>?_) fun hb h=>?_
   ·have h':=dB h
    exact int_eq (bV (by omega)).symm
   have RG:=dP h
   simp only[RG.1]
   refine int_eq ?_
   rw[fA (by omega)]
   omega
  ·obtain⟨hf1,hf2⟩:=oM hf
   rw[List.length_map] at hf1
   refine aB (rs:=[.tmp 4]) Tryz.checked.mixed Tryz.func107 Tryz.ntmps107 rfl rfl rfl rfl rfl ?_
   refine W1 ?_
   refine S0 (fun hb h=>?_) fun hb h=>?_
   ·exact int_eq (bV (by omega)).symm
   refine aQ (ι:=Nat×Int) Tryz.checked.mixed rfl [0,1,5] (fun y=>[.c (.d (.sl (xs.map ah.enc))),.c (.d (.i .i64 y.2)),.c (.d (.i .i64 y.1))]) (fun _=>[]::S)
    (fun y=>y.1≤xs.length∧0≤y.2∧y.2≤1048576∧cK y.2 (aI ((xs.map ah.enc).drop y.1))=cK left (xs.length+aI (xs.map ah.enc))) (fun y=>xs.length-y.1) (0,left-xs.length) rfl rfl ⟨by omega,by omega,by omega,?_⟩ ?_
   ·unfold cK
    rw[List.drop_zero]
    split<;>split<;>omega
   rintro⟨i,l⟩ ⟨p1,p2,p3,p4⟩
   simp only at p1 p2 p3 p4
   refine W1 ?_
   refine S0 (fun hb h=>?_) fun hb h=>?_
   ·have hi:i<xs.length:=by omega
    rw[List.drop_eq_getElem_cons (by rw[List.length_map];exact hi),aI,List.getElem_map,ah.dn] at p4
    refine W3 ?_
    refine C1 (BR xs[i] (by have:=List.sizeOf_lt_of_mem (List.getElem_mem hi);omega) _ (by omega) (by omega) (hf2 _ (List.mem_map_of_mem (List.getElem_mem hi)))) ?_
    refine S0 (fun hb h=>?_) fun hb h=>?_
    ·have h':=dB h
     rw[←p4,bV (by omega)]
    ·have h':=dP h
     refine bF (i+1,cK l _) (by simp only;omega) rfl rfl ⟨by simp only;omega,by simp only;omega,by simp only;omega,?_⟩
     simp only
     rw[←p4,h'.1]
     unfold cK
     split<;>split<;>omega
   ·have hi:i=xs.length:=by omega
    rw[hi,List.drop_of_length_le (by simp),aI,fA (by omega)] at p4
    rw[←p4]
    refine int_eq ?_
    omega
theorem qW(x:ah):∀left:Int,0≤left→left≤1048576→kP x.enc→aD Tryz.prog 38 [x.v,.c (.d (.i .i64 left))] (.c (.d (.i .i64 (cK left x.sz)))):=(Ar _).1 x (Nat.lt_succ_self _)
theorem Ga(xs:List ah):∀left:Int,0≤left→left≤1048576→(D.sl (xs.map ah.enc)).Fit→aD Tryz.prog 107 [.c (.d (.sl (xs.map ah.enc))),.c (.d (.i .i64 left))] (.c (.d (.i .i64 (cK left (xs.length+aI (xs.map ah.enc)))))):=(Ar _).2 xs (Nat.lt_succ_self _)
theorem Au:∀n:Nat,(∀x:ah,SizeOf.sizeOf x<n→x.sz≤1048576→aD Tryz.prog 43 [x.v] x.v)∧
 (∀xs:List ah,SizeOf.sizeOf xs<n→xs.length+aI (xs.map ah.enc)≤1048576→aD Tryz.prog 112 [.c (.d (.sl (xs.map ah.enc)))] (.c (.d (.sl (xs.map ah.enc)))))
 |0=>⟨fun x h=>by omega,fun x h=>by omega⟩
 |n+1=>by
  obtain⟨BR,zF⟩:=Au n
  refine⟨fun x hn hsz S=> ?_,fun xs hn hsz S=> ?_⟩
  ·have iW:=ah.fD x
   simp only[ah.sz,ah.aH,bL,bf,D.sz,List.length_map] at hsz
   refine aB (rs:=[.cell 2 33]) Tryz.checked.mixed Tryz.func43 Tryz.ntmps43 rfl rfl rfl rfl rfl ?_
   refine W1 ?_
   exact C3 (zF x.fArgs (by omega) (by omega))
  ·refine aB (rs:=[.tmp 2]) Tryz.checked.mixed Tryz.func112 Tryz.ntmps112 rfl rfl rfl rfl rfl ?_
   refine W1 ?_
   refine W3 ?_
   refine aQ (ι:=Nat×List (List D)) Tryz.checked.mixed rfl [0,3,4] (fun y=>[.c (.d (.sl (xs.map ah.enc))),.c (.ji (0,0)),.c (.d (.i .i64 y.1))]) (fun y=>[.eU 3 y.2]::S)
    (fun y=>y.1≤xs.length∧gq 3 y.1 y.2 (xs.map ah.enc)) (fun y=>xs.length-y.1) (0,_) rfl rfl ⟨Nat.zero_le _,gq.start (by simp) rfl⟩ ?_
   rintro⟨i,R⟩ ⟨p1,p2⟩
   simp only at p1 p2
   refine W1 ?_
   refine S0 (fun hb h=>?_) fun hb h=>?_
   ·have hi:i<xs.length:=by omega
    have hx:xs[i].sz≤aI (xs.map ah.enc):=bD (List.mem_map_of_mem (List.getElem_mem hi))
    refine W3 ?_
    refine C1 (BR xs[i] (by have:=List.sizeOf_lt_of_mem (List.getElem_mem hi);omega) (by omega)) ?_
    have hR:=p2.1
    rw[List.length_map] at hR
    refine W3 ?_
    refine bF (i+1,_) (by simp only;omega) rfl rfl ⟨by simp only;omega,p2.step (by simp[hi,ah.aH]) rfl⟩
   ·have hi:i=xs.length:=by omega
    rw[p2.done (by rw[List.length_map];omega)]
theorem qX(x:ah):x.sz≤1048576→aD Tryz.prog 43 [x.v] x.v:=(Au _).1 x (Nat.lt_succ_self _)
theorem Gb(xs:List ah):xs.length+aI (xs.map ah.enc)≤1048576→aD Tryz.prog 112 [.c (.d (.sl (xs.map ah.enc)))] (.c (.d (.sl (xs.map ah.enc)))):=(Au _).2 xs (Nat.lt_succ_self _)
theorem Av:∀n:Nat,(∀x:ah,SizeOf.sizeOf x<n→∀y:ah,x.sz≤1048576→aD Tryz.prog 49 [x.v,y.v] (.c (.d (.b (dec (x=y))))))∧
 (∀xs:List ah,SizeOf.sizeOf xs<n→∀ys:List ah,xs.length+aI (xs.map ah.enc)≤1048576→aD Tryz.prog 121 [.c (.d (.sl (xs.map ah.enc))),.c (.d (.sl (ys.map ah.enc)))] (.c (.d (.b (dec (xs=ys))))))
 |0=>⟨fun x h=>by omega,fun x h=>by omega⟩
 |n+1=>by
  obtain⟨BR,zF⟩:=Av n
  refine⟨fun x hn y hsz S=> ?_,fun xs hn ys hsz S=> ?_⟩
  ·have iW:=ah.fD x
   simp only[ah.sz,ah.aH,bL,bf,D.sz,List.length_map] at hsz
   refine aB (rs:=[.tmp 4]) Tryz.checked.mixed Tryz.func49 Tryz.ntmps49 rfl rfl rfl rfl rfl ?_
   refine W1 ?_
   refine S0 (fun hb h=>?_) fun hb h=>?_
   ·exact ay (aC (fun e=>h (by rw[e]))).symm
   have RH:=h
   clear h
   refine S0 (fun hb h=>?_) fun hb h=>?_
   ·exact ay (aC (fun e=>h (by rw[e]))).symm
   have mX:=h
   clear h
   refine C1 (zF x.fArgs (by omega) _ (by omega)) ?_
   refine S0 (fun hb h=>?_) fun hb h=>?_
   ·exact ay (aC (fun e=>h (by rw[e]))).symm
   have eArgs:=h
   clear h
   exact ay (bq (ah.ext RH mX eArgs)).symm
  ·refine aB (rs:=[.tmp 4]) Tryz.checked.mixed Tryz.func121 Tryz.ntmps121 rfl rfl rfl rfl rfl ?_
   refine W1 ?_
   refine S0 (fun hb h=>?_) fun hb h=>?_
   ·exact ay (aC (fun e=>h (by rw[e]))).symm
   have hl:xs.length=ys.length:=by omega
   refine aQ (ι:=Nat) Tryz.checked.mixed rfl [0,1,5] (fun y=>[.c (.d (.sl (xs.map ah.enc))),.c (.d (.sl (ys.map ah.enc))),.c (.d (.i .i64 y))]) (fun y=>[]::S)
    (fun i=>i≤xs.length∧∀j,j<i→xs[j]? =ys[j]?) (fun y=>xs.length-y) 0 rfl rfl ⟨Nat.zero_le _,fun j h=>by omega⟩ ?_
   rintro i ⟨p1,p2⟩
   refine W1 ?_
   refine S0 (fun hb h=>?_) fun hb h=>?_
   ·have hi:i<xs.length:=by omega
    have hi':i<ys.length:=by omega
    have hx:xs[i].sz≤aI (xs.map ah.enc):=bD (List.mem_map_of_mem (List.getElem_mem hi))
    refine W3 ?_
    refine C1 (BR xs[i] (by have:=List.sizeOf_lt_of_mem (List.getElem_mem hi);omega) ys[i] (by omega)) ?_
    refine S0 (fun hb h=>?_) fun hb h=>?_
    ·exact ay (aC (fun e=>h (by simp only[e]))).symm
    refine bF (i+1) (by omega) rfl rfl ⟨by omega,fun j hj=> ?_⟩
    by_cases e:j=i
    ·subst e
     rw[List.getElem?_eq_getElem hi,List.getElem?_eq_getElem hi',h]
    ·exact p2 j (by omega)
   ·have hi:i=xs.length:=by omega
    refine ay (bq (List.ext_getElem? fun j=> ?_)).symm
    by_cases hj:j<i
    ·exact p2 j hj
    ·rw[List.getElem?_eq_none (by omega),List.getElem?_eq_none (by omega)]
theorem qY(x:ah):∀y:ah,x.sz≤1048576→aD Tryz.prog 49 [x.v,y.v] (.c (.d (.b (dec (x=y))))):=(Av _).1 x (Nat.lt_succ_self _)
theorem Gc(xs:List ah):∀ys:List ah,xs.length+aI (xs.map ah.enc)≤1048576→aD Tryz.prog 121 [.c (.d (.sl (xs.map ah.enc))),.c (.d (.sl (ys.map ah.enc)))] (.c (.d (.b (dec (xs=ys))))):=(Av _).2 xs (Nat.lt_succ_self _)
end Go.Proofs.YtcfhnaohbaplhaaGreatDoor
namespace Go.Proofs.YtcfhnaohbaplhaaGreatDoor
open Go Go.Ab
end Go.Proofs.YtcfhnaohbaplhaaGreatDoor
namespace Go.Proofs.YtcfhnaohbaplhaaGreatDoor
open Go Go.Ab
theorem RI(x:bA):∀left:Int,0≤left→left≤1048576→kP x.enc→aD Tryz.prog 298 [x.v,.c (.d (.i .i64 left))] (.c (.d (.i .i64 (cK left x.sz)))):=by
 intro left h0 h1 hf S
 simp only[bA.aH,List.cons_append,List.nil_append,iM,iK,iG,and_true] at hf
 obtain⟨bI,fType⟩:=hf
 have hz:x.sz=x.bI.length+(x.fType.sz):=by
  simp only[bA.sz,bA.aH,bL,bf,D.sz,List.length_map,Nat.add_zero,Nat.zero_add,ah.dn]<;>omega
 refine aB (rs:=[.tmp 4]) Tryz.checked.mixed Tryz.func298 Tryz.ntmps298 rfl rfl rfl rfl rfl ?_
 rw[hz]
 have UZ:=pJ bI
 refine W1 ?_
 refine S0 (fun hb h=>?_) fun hb h=>?_
 ·exact int_eq (bV (by omega)).symm
 refine C1 (qW x.fType _ (by omega) (by omega) fType) ?_
 refine S0 (fun hb h=>?_) fun hb h=>?_
 ·have h':=dB h
  exact int_eq (bV (by omega)).symm
 have hType:=dP h
 simp only[hType.1]
 refine int_eq ?_
 rw[fA (by omega)]
 omega
theorem DL(xs:List bA):∀left:Int,0≤left→left≤1048576→(D.sl (xs.map bA.enc)).Fit→aD Tryz.prog 214 [.c (.d (.sl (xs.map bA.enc))),.c (.d (.i .i64 left))] (.c (.d (.i .i64 (cK left (xs.length+aI (xs.map bA.enc)))))):=by
 intro left h0 h1 hf S
 obtain⟨hf1,hf2⟩:=oM hf
 rw[List.length_map] at hf1
 refine aB (rs:=[.tmp 4]) Tryz.checked.mixed Tryz.func214 Tryz.ntmps214 rfl rfl rfl rfl rfl ?_
 refine W1 ?_
 refine S0 (fun hb h=>?_) fun hb h=>?_
 ·exact int_eq (bV (by omega)).symm
 refine aQ (ι:=Nat×Int) Tryz.checked.mixed rfl [0,1,5] (fun y=>[.c (.d (.sl (xs.map bA.enc))),.c (.d (.i .i64 y.2)),.c (.d (.i .i64 y.1))]) (fun _=>[]::S)
  (fun y=>y.1≤xs.length∧0≤y.2∧y.2≤1048576∧cK y.2 (aI ((xs.map bA.enc).drop y.1))=cK left (xs.length+aI (xs.map bA.enc))) (fun y=>xs.length-y.1) (0,left-xs.length) rfl rfl ⟨by omega,by omega,by omega,?_⟩ ?_
 ·unfold cK
  rw[List.drop_zero]
  split<;>split<;>omega
 rintro⟨i,l⟩ ⟨p1,p2,p3,p4⟩
 simp only at p1 p2 p3 p4
 refine W1 ?_
 refine S0 (fun hb h=>?_) fun hb h=>?_
 ·have hi:i<xs.length:=by omega
  rw[List.drop_eq_getElem_cons (by rw[List.length_map];exact hi),aI,List.getElem_map,bA.dn] at p4
  refine W3 ?_
  refine C1 (RI xs[i] _ (by omega) (by omega) (hf2 _ (List.mem_map_of_mem (List.getElem_mem hi)))) ?_
  refine S0 (fun hb h=>?_) fun hb h=>?_
  ·have h':=dB h
   rw[←p4,bV (by omega)]
  ·have h':=dP h
   refine bF (i+1,cK l _) (by simp only;omega) rfl rfl ⟨by simp only;omega,by simp only;omega,by simp only;omega,?_⟩
   simp only
   rw[←p4,h'.1]
   unfold cK
   split<;>split<;>omega
 ·have hi:i=xs.length:=by omega
  rw[hi,List.drop_of_length_le (by simp),aI,fA (by omega)] at p4
  rw[←p4]
  refine int_eq ?_
  omega
theorem RJ(x:bA):x.sz≤1048576→aD Tryz.prog 310 [x.v] x.v:=by
 intro hsz S
 simp only[bA.sz,bA.aH,bL,bf,D.sz,List.length_map,ah.dn] at hsz
 refine aB (rs:=[.cell 2 300]) Tryz.checked.mixed Tryz.func310 Tryz.ntmps310 rfl rfl rfl rfl rfl ?_
 refine W1 ?_
 exact C3 (qX x.fType (by omega))
theorem DN(xs:List bA):xs.length+aI (xs.map bA.enc)≤1048576→aD Tryz.prog 225 [.c (.d (.sl (xs.map bA.enc)))] (.c (.d (.sl (xs.map bA.enc)))):=by
 intro hsz S
 refine aB (rs:=[.tmp 2]) Tryz.checked.mixed Tryz.func225 Tryz.ntmps225 rfl rfl rfl rfl rfl ?_
 refine W1 ?_
 refine W3 ?_
 refine aQ (ι:=Nat×List (List D)) Tryz.checked.mixed rfl [0,3,4] (fun y=>[.c (.d (.sl (xs.map bA.enc))),.c (.ji (0,0)),.c (.d (.i .i64 y.1))]) (fun y=>[.eU 4 y.2]::S)
  (fun y=>y.1≤xs.length∧gq 4 y.1 y.2 (xs.map bA.enc)) (fun y=>xs.length-y.1) (0,_) rfl rfl ⟨Nat.zero_le _,gq.start (by simp) rfl⟩ ?_
 rintro⟨i,R⟩ ⟨p1,p2⟩
 simp only at p1 p2
 refine W1 ?_
 refine S0 (fun hb h=>?_) fun hb h=>?_
 ·have hi:i<xs.length:=by omega
  have hx:xs[i].sz≤aI (xs.map bA.enc):=bD (List.mem_map_of_mem (List.getElem_mem hi))
  refine W3 ?_
  refine C1 (RJ xs[i] (by omega)) ?_
  have hR:=p2.1
  rw[List.length_map] at hR
  refine W3 ?_
  refine bF (i+1,_) (by simp only;omega) rfl rfl ⟨by simp only;omega,p2.step (by simp[hi,bA.aH,ah.aH]) rfl⟩
 ·have hi:i=xs.length:=by omega
  rw[p2.done (by rw[List.length_map];omega)]
theorem RL(x:bA):∀y:bA,x.sz≤1048576→aD Tryz.prog 315 [x.v,y.v] (.c (.d (.b (dec (x=y))))):=by
 intro y hsz S
 simp only[bA.sz,bA.aH,bL,bf,D.sz,List.length_map,ah.dn] at hsz
 refine aB (rs:=[.tmp 4]) Tryz.checked.mixed Tryz.func315 Tryz.ntmps315 rfl rfl rfl rfl rfl ?_
 refine W1 ?_
 refine S0 (fun hb h=>?_) fun hb h=>?_
 ·exact ay (aC (fun e=>h (by rw[e]))).symm
 have BS:=h
 clear h
 refine C1 (qY x.fType _ (by omega)) ?_
 refine S0 (fun hb h=>?_) fun hb h=>?_
 ·exact ay (aC (fun e=>h (by rw[e]))).symm
 have eType:=h
 clear h
 exact ay (bq (bA.ext' BS eType)).symm
theorem DR(xs:List bA):∀ys:List bA,xs.length+aI (xs.map bA.enc)≤1048576→aD Tryz.prog 232 [.c (.d (.sl (xs.map bA.enc))),.c (.d (.sl (ys.map bA.enc)))] (.c (.d (.b (dec (xs=ys))))):=by
 intro ys hsz S
 refine aB (rs:=[.tmp 4]) Tryz.checked.mixed Tryz.func232 Tryz.ntmps232 rfl rfl rfl rfl rfl ?_
 refine W1 ?_
 refine S0 (fun hb h=>?_) fun hb h=>?_
 ·exact ay (aC (fun e=>h (by rw[e]))).symm
 have hl:xs.length=ys.length:=by omega
 refine aQ (ι:=Nat) Tryz.checked.mixed rfl [0,1,5] (fun y=>[.c (.d (.sl (xs.map bA.enc))),.c (.d (.sl (ys.map bA.enc))),.c (.d (.i .i64 y))]) (fun y=>[]::S)
  (fun i=>i≤xs.length∧∀j,j<i→xs[j]? =ys[j]?) (fun y=>xs.length-y) 0 rfl rfl ⟨Nat.zero_le _,fun j h=>by omega⟩ ?_
 rintro i ⟨p1,p2⟩
 refine W1 ?_
 refine S0 (fun hb h=>?_) fun hb h=>?_
 ·have hi:i<xs.length:=by omega
  have hi':i<ys.length:=by omega
  have hx:xs[i].sz≤aI (xs.map bA.enc):=bD (List.mem_map_of_mem (List.getElem_mem hi))
  refine W3 ?_
  refine C1 (RL xs[i] ys[i] (by omega)) ?_
  refine S0 (fun hb h=>?_) fun hb h=>?_
  ·exact ay (aC (fun e=>h (by simp only[e]))).symm
  refine bF (i+1) (by omega) rfl rfl ⟨by omega,fun j hj=> ?_⟩
  by_cases e:j=i
  ·subst e
   rw[List.getElem?_eq_getElem hi,List.getElem?_eq_getElem hi',h]
  ·exact p2 j (by omega)
 ·have hi:i=xs.length:=by omega
  refine ay (bq (List.ext_getElem? fun j=> ?_)).symm
  by_cases hj:j<i
  ·exact p2 j hj
  ·rw[List.getElem?_eq_none (by omega),List.getElem?_eq_none (by omega)]
end Go.Proofs.YtcfhnaohbaplhaaGreatDoor
namespace Go.Proofs.YtcfhnaohbaplhaaGreatDoor
open Go Go.Ab
theorem Gd:∀n:Nat,(∀x:au,SizeOf.sizeOf x<n→∀left:Int,0≤left→left≤1048576→kP x.enc→aD Tryz.prog 9 [x.v,.c (.d (.i .i64 left))] (.c (.d (.i .i64 (cK left x.sz)))))∧
 (∀xs:List au,SizeOf.sizeOf xs<n→∀left:Int,0≤left→left≤1048576→(D.sl (xs.map au.enc)).Fit→aD Tryz.prog 39 [.c (.d (.sl (xs.map au.enc))),.c (.d (.i .i64 left))] (.c (.d (.i .i64 (cK left (xs.length+aI (xs.map au.enc)))))))∧
 (∀x:aX,SizeOf.sizeOf x<n→∀left:Int,0≤left→left≤1048576→kP x.enc→aD Tryz.prog 108 [x.v,.c (.d (.i .i64 left))] (.c (.d (.i .i64 (cK left x.sz)))))∧
 (∀xs:List aX,SizeOf.sizeOf xs<n→∀left:Int,0≤left→left≤1048576→(D.sl (xs.map aX.enc)).Fit→aD Tryz.prog 40 [.c (.d (.sl (xs.map aX.enc))),.c (.d (.i .i64 left))] (.c (.d (.i .i64 (cK left (xs.length+aI (xs.map aX.enc)))))))
 |0=>⟨fun x h=>by omega,fun x h=>by omega,fun x h=>by omega,fun x h=>by omega⟩
 |n+1=>by
  obtain⟨vY,zG,Gf,BU⟩:=Gd n
  refine⟨fun x hn left h0 h1 hf S=> ?_,fun xs hn left h0 h1 hf S=> ?_,fun x hn left h0 h1 hf S=> ?_,fun xs hn left h0 h1 hf S=> ?_⟩
  ·have iW:=au.fD x
   have rX:=au.nu x
   simp only[au.aH,List.cons_append,List.nil_append,iM,iK,iG,and_true] at hf
   obtain⟨aU,bI,fName,fN,fType,fArgs,aW⟩:=hf
   have hz:x.sz=x.bI.length+(x.fName.length+(x.fType.sz+((x.fArgs.length+aI (x.fArgs.map au.enc))+((x.aW.length+aI (x.aW.map aX.enc)))))):=by
    simp only[au.sz,au.aH,bL,bf,D.sz,List.length_map,Nat.add_zero,Nat.zero_add,ah.dn]<;>omega
   refine aB (rs:=[.tmp 4]) Tryz.checked.mixed Tryz.func9 Tryz.ntmps9 rfl rfl rfl rfl rfl ?_
   rw[hz]
   have UZ:=pJ bI
   have wW:=pJ fName
   refine W1 ?_
   refine S0 (fun hb h=>?_) fun hb h=>?_
   ·exact int_eq (bV (by omega)).symm
   refine S0 (fun hb h=>?_) fun hb h=>?_
   ·exact int_eq (bV (by omega)).symm
   refine C1 (qW x.fType _ (by omega) (by omega) fType) ?_
   refine S0 (fun hb h=>?_) fun hb h=>?_
   ·have h':=dB h
    exact int_eq (bV (by omega)).symm
   have hType:=dP h
   simp only[hType.1]
   refine C1 (zG x.fArgs (by omega) _ (by omega) (by omega) fArgs) ?_
   refine S0 (fun hb h=>?_) fun hb h=>?_
   ·have h':=dB h
    exact int_eq (bV (by omega)).symm
   have RG:=dP h
   simp only[RG.1]
   refine C1 (BU x.aW (by omega) _ (by omega) (by omega) aW) ?_
   refine S0 (fun hb h=>?_) fun hb h=>?_
   ·have h':=dB h
    exact int_eq (bV (by omega)).symm
   have adj:=dP h
   simp only[adj.1]
   refine int_eq ?_
   rw[fA (by omega)]
   omega
  ·obtain⟨hf1,hf2⟩:=oM hf
   rw[List.length_map] at hf1
   refine aB (rs:=[.tmp 4]) Tryz.checked.mixed Tryz.func39 Tryz.ntmps39 rfl rfl rfl rfl rfl ?_
   refine W1 ?_
   refine S0 (fun hb h=>?_) fun hb h=>?_
   ·exact int_eq (bV (by omega)).symm
   refine aQ (ι:=Nat×Int) Tryz.checked.mixed rfl [0,1,5] (fun y=>[.c (.d (.sl (xs.map au.enc))),.c (.d (.i .i64 y.2)),.c (.d (.i .i64 y.1))]) (fun _=>[]::S)
    (fun y=>y.1≤xs.length∧0≤y.2∧y.2≤1048576∧cK y.2 (aI ((xs.map au.enc).drop y.1))=cK left (xs.length+aI (xs.map au.enc))) (fun y=>xs.length-y.1) (0,left-xs.length) rfl rfl ⟨by omega,by omega,by omega,?_⟩ ?_
   ·unfold cK
    rw[List.drop_zero]
    split<;>split<;>omega
   rintro⟨i,l⟩ ⟨p1,p2,p3,p4⟩
   simp only at p1 p2 p3 p4
   refine W1 ?_
   refine S0 (fun hb h=>?_) fun hb h=>?_
   ·have hi:i<xs.length:=by omega
    rw[List.drop_eq_getElem_cons (by rw[List.length_map];exact hi),aI,List.getElem_map,au.dn] at p4
    refine W3 ?_
    refine C1 (vY xs[i] (by have:=List.sizeOf_lt_of_mem (List.getElem_mem hi);omega) _ (by omega) (by omega) (hf2 _ (List.mem_map_of_mem (List.getElem_mem hi)))) ?_
    refine S0 (fun hb h=>?_) fun hb h=>?_
    ·have h':=dB h
     rw[←p4,bV (by omega)]
    ·have h':=dP h
     refine bF (i+1,cK l _) (by simp only;omega) rfl rfl ⟨by simp only;omega,by simp only;omega,by simp only;omega,?_⟩
     simp only
     rw[←p4,h'.1]
     unfold cK
     split<;>split<;>omega
   ·have hi:i=xs.length:=by omega
    rw[hi,List.drop_of_length_le (by simp),aI,fA (by omega)] at p4
    rw[←p4]
    refine int_eq ?_
    omega
  ·have KR:=aX.mG x
   simp only[aX.aH,List.cons_append,List.nil_append,iM,iK,iG,and_true] at hf
   obtain⟨dw,aF,fBody⟩:=hf
   have hz:x.sz=x.dw.length+((x.aF.length+aI (x.aF.map encS))+(x.fBody.sz)):=by
    simp only[aX.sz,aX.aH,bL,bf,D.sz,List.length_map,Nat.add_zero,Nat.zero_add,au.dn]<;>omega
   refine aB (rs:=[.tmp 4]) Tryz.checked.mixed Tryz.func108 Tryz.ntmps108 rfl rfl rfl rfl rfl ?_
   rw[hz]
   have aa2:=pJ dw
   refine W1 ?_
   refine S0 (fun hb h=>?_) fun hb h=>?_
   ·exact int_eq (bV (by omega)).symm
   refine C1 (l8 x.aF _ (by omega) (by omega) aF) ?_
   refine S0 (fun hb h=>?_) fun hb h=>?_
   ·have h':=dB h
    exact int_eq (bV (by omega)).symm
   have hVars:=dP h
   simp only[hVars.1]
   refine C1 (vY x.fBody (by omega) _ (by omega) (by omega) fBody) ?_
   refine S0 (fun hb h=>?_) fun hb h=>?_
   ·have h':=dB h
    exact int_eq (bV (by omega)).symm
   have Aw:=dP h
   simp only[Aw.1]
   refine int_eq ?_
   rw[fA (by omega)]
   omega
  ·obtain⟨hf1,hf2⟩:=oM hf
   rw[List.length_map] at hf1
   refine aB (rs:=[.tmp 4]) Tryz.checked.mixed Tryz.func40 Tryz.ntmps40 rfl rfl rfl rfl rfl ?_
   refine W1 ?_
   refine S0 (fun hb h=>?_) fun hb h=>?_
   ·exact int_eq (bV (by omega)).symm
   refine aQ (ι:=Nat×Int) Tryz.checked.mixed rfl [0,1,5] (fun y=>[.c (.d (.sl (xs.map aX.enc))),.c (.d (.i .i64 y.2)),.c (.d (.i .i64 y.1))]) (fun _=>[]::S)
    (fun y=>y.1≤xs.length∧0≤y.2∧y.2≤1048576∧cK y.2 (aI ((xs.map aX.enc).drop y.1))=cK left (xs.length+aI (xs.map aX.enc))) (fun y=>xs.length-y.1) (0,left-xs.length) rfl rfl ⟨by omega,by omega,by omega,?_⟩ ?_
   ·unfold cK
    rw[List.drop_zero]
    split<;>split<;>omega
   rintro⟨i,l⟩ ⟨p1,p2,p3,p4⟩
   simp only at p1 p2 p3 p4
   refine W1 ?_
   refine S0 (fun hb h=>?_) fun hb h=>?_
   ·have hi:i<xs.length:=by omega
    rw[List.drop_eq_getElem_cons (by rw[List.length_map];exact hi),aI,List.getElem_map,aX.dn] at p4
    refine W3 ?_
    refine C1 (Gf xs[i] (by have:=List.sizeOf_lt_of_mem (List.getElem_mem hi);omega) _ (by omega) (by omega) (hf2 _ (List.mem_map_of_mem (List.getElem_mem hi)))) ?_
    refine S0 (fun hb h=>?_) fun hb h=>?_
    ·have h':=dB h
     rw[←p4,bV (by omega)]
    ·have h':=dP h
     refine bF (i+1,cK l _) (by simp only;omega) rfl rfl ⟨by simp only;omega,by simp only;omega,by simp only;omega,?_⟩
     simp only
     rw[←p4,h'.1]
     unfold cK
     split<;>split<;>omega
   ·have hi:i=xs.length:=by omega
    rw[hi,List.drop_of_length_le (by simp),aI,fA (by omega)] at p4
    rw[←p4]
    refine int_eq ?_
    omega
theorem BX(x:au):∀left:Int,0≤left→left≤1048576→kP x.enc→aD Tryz.prog 9 [x.v,.c (.d (.i .i64 left))] (.c (.d (.i .i64 (cK left x.sz)))):=(Gd _).1 x (Nat.lt_succ_self _)
theorem Gg:∀n:Nat,(∀x:au,SizeOf.sizeOf x<n→x.sz≤1048576→aD Tryz.prog 11 [x.v] x.v)∧
 (∀xs:List au,SizeOf.sizeOf xs<n→xs.length+aI (xs.map au.enc)≤1048576→aD Tryz.prog 44 [.c (.d (.sl (xs.map au.enc)))] (.c (.d (.sl (xs.map au.enc)))))∧
 (∀x:aX,SizeOf.sizeOf x<n→x.sz≤1048576→aD Tryz.prog 113 [x.v] x.v)∧
 (∀xs:List aX,SizeOf.sizeOf xs<n→xs.length+aI (xs.map aX.enc)≤1048576→aD Tryz.prog 45 [.c (.d (.sl (xs.map aX.enc)))] (.c (.d (.sl (xs.map aX.enc)))))
 |0=>⟨fun x h=>by omega,fun x h=>by omega,fun x h=>by omega,fun x h=>by omega⟩
 |n+1=>by
  obtain⟨vY,zG,Gf,BU⟩:=Gg n
  refine⟨fun x hn hsz S=> ?_,fun xs hn hsz S=> ?_,fun x hn hsz S=> ?_,fun xs hn hsz S=> ?_⟩
  ·have iW:=au.fD x
   have rX:=au.nu x
   simp only[au.sz,au.aH,bL,bf,D.sz,List.length_map,ah.dn] at hsz
   refine aB (rs:=[.cell 2 37]) Tryz.checked.mixed Tryz.func11 Tryz.ntmps11 rfl rfl rfl rfl rfl ?_
   refine W1 ?_
   refine C1 (qX x.fType (by omega)) ?_
   refine C1 (zG x.fArgs (by omega) (by omega)) ?_
   exact C3 (BU x.aW (by omega) (by omega))
  ·refine aB (rs:=[.tmp 2]) Tryz.checked.mixed Tryz.func44 Tryz.ntmps44 rfl rfl rfl rfl rfl ?_
   refine W1 ?_
   refine W3 ?_
   refine aQ (ι:=Nat×List (List D)) Tryz.checked.mixed rfl [0,3,4] (fun y=>[.c (.d (.sl (xs.map au.enc))),.c (.ji (0,0)),.c (.d (.i .i64 y.1))]) (fun y=>[.eU 9 y.2]::S)
    (fun y=>y.1≤xs.length∧gq 9 y.1 y.2 (xs.map au.enc)) (fun y=>xs.length-y.1) (0,_) rfl rfl ⟨Nat.zero_le _,gq.start (by simp) rfl⟩ ?_
   rintro⟨i,R⟩ ⟨p1,p2⟩
   simp only at p1 p2
   refine W1 ?_
   refine S0 (fun hb h=>?_) fun hb h=>?_
   ·have hi:i<xs.length:=by omega
    have hx:xs[i].sz≤aI (xs.map au.enc):=bD (List.mem_map_of_mem (List.getElem_mem hi))
    refine W3 ?_
    refine C1 (vY xs[i] (by have:=List.sizeOf_lt_of_mem (List.getElem_mem hi);omega) (by omega)) ?_
    have hR:=p2.1
    rw[List.length_map] at hR
    refine W3 ?_
    refine bF (i+1,_) (by simp only;omega) rfl rfl ⟨by simp only;omega,p2.step (by simp[hi,au.aH,ah.aH]) rfl⟩
   ·have hi:i=xs.length:=by omega
    rw[p2.done (by rw[List.length_map];omega)]
  ·have KR:=aX.mG x
   simp only[aX.sz,aX.aH,bL,bf,D.sz,List.length_map,au.dn] at hsz
   refine aB (rs:=[.cell 2 149]) Tryz.checked.mixed Tryz.func113 Tryz.ntmps113 rfl rfl rfl rfl rfl ?_
   refine W1 ?_
   refine C1 (l9 x.aF (by omega)) ?_
   exact C3 (vY x.fBody (by omega) (by omega))
  ·refine aB (rs:=[.tmp 2]) Tryz.checked.mixed Tryz.func45 Tryz.ntmps45 rfl rfl rfl rfl rfl ?_
   refine W1 ?_
   refine W3 ?_
   refine aQ (ι:=Nat×List (List D)) Tryz.checked.mixed rfl [0,3,4] (fun y=>[.c (.d (.sl (xs.map aX.enc))),.c (.ji (0,0)),.c (.d (.i .i64 y.1))]) (fun y=>[.eU 11 y.2]::S)
    (fun y=>y.1≤xs.length∧gq 11 y.1 y.2 (xs.map aX.enc)) (fun y=>xs.length-y.1) (0,_) rfl rfl ⟨Nat.zero_le _,gq.start (by simp) rfl⟩ ?_
   rintro⟨i,R⟩ ⟨p1,p2⟩
   simp only at p1 p2
   refine W1 ?_
   refine S0 (fun hb h=>?_) fun hb h=>?_
   ·have hi:i<xs.length:=by omega
    have hx:xs[i].sz≤aI (xs.map aX.enc):=bD (List.mem_map_of_mem (List.getElem_mem hi))
    refine W3 ?_
    refine C1 (Gf xs[i] (by have:=List.sizeOf_lt_of_mem (List.getElem_mem hi);omega) (by omega)) ?_
    have hR:=p2.1
    rw[List.length_map] at hR
    refine W3 ?_
    refine bF (i+1,_) (by simp only;omega) rfl rfl ⟨by simp only;omega,p2.step (by simp[hi,aX.aH,au.aH,ah.aH]) rfl⟩
   ·have hi:i=xs.length:=by omega
    rw[p2.done (by rw[List.length_map];omega)]
theorem BZ(x:au):x.sz≤1048576→aD Tryz.prog 11 [x.v] x.v:=(Gg _).1 x (Nat.lt_succ_self _)
theorem Gh:∀n:Nat,(∀x:au,SizeOf.sizeOf x<n→∀y:au,x.sz≤1048576→aD Tryz.prog 13 [x.v,y.v] (.c (.d (.b (dec (x=y))))))∧
 (∀xs:List au,SizeOf.sizeOf xs<n→∀ys:List au,xs.length+aI (xs.map au.enc)≤1048576→aD Tryz.prog 50 [.c (.d (.sl (xs.map au.enc))),.c (.d (.sl (ys.map au.enc)))] (.c (.d (.b (dec (xs=ys))))))∧
 (∀x:aX,SizeOf.sizeOf x<n→∀y:aX,x.sz≤1048576→aD Tryz.prog 122 [x.v,y.v] (.c (.d (.b (dec (x=y))))))∧
 (∀xs:List aX,SizeOf.sizeOf xs<n→∀ys:List aX,xs.length+aI (xs.map aX.enc)≤1048576→aD Tryz.prog 51 [.c (.d (.sl (xs.map aX.enc))),.c (.d (.sl (ys.map aX.enc)))] (.c (.d (.b (dec (xs=ys))))))
 |0=>⟨fun x h=>by omega,fun x h=>by omega,fun x h=>by omega,fun x h=>by omega⟩
 |n+1=>by
  obtain⟨vY,zG,Gf,BU⟩:=Gh n
  refine⟨fun x hn y hsz S=> ?_,fun xs hn ys hsz S=> ?_,fun x hn y hsz S=> ?_,fun xs hn ys hsz S=> ?_⟩
  ·have iW:=au.fD x
   have rX:=au.nu x
   simp only[au.sz,au.aH,bL,bf,D.sz,List.length_map,ah.dn] at hsz
   refine aB (rs:=[.tmp 4]) Tryz.checked.mixed Tryz.func13 Tryz.ntmps13 rfl rfl rfl rfl rfl ?_
   refine W1 ?_
   refine S0 (fun hb h=>?_) fun hb h=>?_
   ·exact ay (aC (fun e=>h (by rw[e]))).symm
   have RH:=h
   clear h
   refine S0 (fun hb h=>?_) fun hb h=>?_
   ·exact ay (aC (fun e=>h (by rw[e]))).symm
   have BS:=h
   clear h
   refine S0 (fun hb h=>?_) fun hb h=>?_
   ·exact ay (aC (fun e=>h (by rw[e]))).symm
   have mX:=h
   clear h
   refine S0 (fun hb h=>?_) fun hb h=>?_
   ·exact ay (aC (fun e=>h (by rw[e]))).symm
   have eN:=h
   clear h
   refine C1 (qY x.fType _ (by omega)) ?_
   refine S0 (fun hb h=>?_) fun hb h=>?_
   ·exact ay (aC (fun e=>h (by rw[e]))).symm
   have eType:=h
   clear h
   refine C1 (zG x.fArgs (by omega) _ (by omega)) ?_
   refine S0 (fun hb h=>?_) fun hb h=>?_
   ·exact ay (aC (fun e=>h (by rw[e]))).symm
   have eArgs:=h
   clear h
   refine C1 (BU x.aW (by omega) _ (by omega)) ?_
   refine S0 (fun hb h=>?_) fun hb h=>?_
   ·exact ay (aC (fun e=>h (by rw[e]))).symm
   have adk:=h
   clear h
   exact ay (bq (au.ext RH BS mX eN eType eArgs adk)).symm
  ·refine aB (rs:=[.tmp 4]) Tryz.checked.mixed Tryz.func50 Tryz.ntmps50 rfl rfl rfl rfl rfl ?_
   refine W1 ?_
   refine S0 (fun hb h=>?_) fun hb h=>?_
   ·exact ay (aC (fun e=>h (by rw[e]))).symm
   have hl:xs.length=ys.length:=by omega
   refine aQ (ι:=Nat) Tryz.checked.mixed rfl [0,1,5] (fun y=>[.c (.d (.sl (xs.map au.enc))),.c (.d (.sl (ys.map au.enc))),.c (.d (.i .i64 y))]) (fun y=>[]::S)
    (fun i=>i≤xs.length∧∀j,j<i→xs[j]? =ys[j]?) (fun y=>xs.length-y) 0 rfl rfl ⟨Nat.zero_le _,fun j h=>by omega⟩ ?_
   rintro i ⟨p1,p2⟩
   refine W1 ?_
   refine S0 (fun hb h=>?_) fun hb h=>?_
   ·have hi:i<xs.length:=by omega
    have hi':i<ys.length:=by omega
    have hx:xs[i].sz≤aI (xs.map au.enc):=bD (List.mem_map_of_mem (List.getElem_mem hi))
    refine W3 ?_
    refine C1 (vY xs[i] (by have:=List.sizeOf_lt_of_mem (List.getElem_mem hi);omega) ys[i] (by omega)) ?_
    refine S0 (fun hb h=>?_) fun hb h=>?_
    ·exact ay (aC (fun e=>h (by simp only[e]))).symm
    refine bF (i+1) (by omega) rfl rfl ⟨by omega,fun j hj=> ?_⟩
    by_cases e:j=i
    ·subst e
     rw[List.getElem?_eq_getElem hi,List.getElem?_eq_getElem hi',h]
    ·exact p2 j (by omega)
   ·have hi:i=xs.length:=by omega
    refine ay (bq (List.ext_getElem? fun j=> ?_)).symm
    by_cases hj:j<i
    ·exact p2 j hj
    ·rw[List.getElem?_eq_none (by omega),List.getElem?_eq_none (by omega)]
  ·have KR:=aX.mG x
   simp only[aX.sz,aX.aH,bL,bf,D.sz,List.length_map,au.dn] at hsz
   refine aB (rs:=[.tmp 4]) Tryz.checked.mixed Tryz.func122 Tryz.ntmps122 rfl rfl rfl rfl rfl ?_
   refine W1 ?_
   refine S0 (fun hb h=>?_) fun hb h=>?_
   ·exact ay (aC (fun e=>h (by rw[e]))).symm
   have MX:=h
   clear h
   refine C1 (mh x.aF _ (by omega)) ?_
   refine S0 (fun hb h=>?_) fun hb h=>?_
   ·exact ay (aC (fun e=>h (by rw[e]))).symm
   have uh:=h
   clear h
   refine C1 (vY x.fBody (by omega) _ (by omega)) ?_
   refine S0 (fun hb h=>?_) fun hb h=>?_
   ·exact ay (aC (fun e=>h (by rw[e]))).symm
   have Ay:=h
   clear h
   exact ay (bq (aX.ext MX uh Ay)).symm
  ·refine aB (rs:=[.tmp 4]) Tryz.checked.mixed Tryz.func51 Tryz.ntmps51 rfl rfl rfl rfl rfl ?_
   refine W1 ?_
   refine S0 (fun hb h=>?_) fun hb h=>?_
   ·exact ay (aC (fun e=>h (by rw[e]))).symm
   have hl:xs.length=ys.length:=by omega
   refine aQ (ι:=Nat) Tryz.checked.mixed rfl [0,1,5] (fun y=>[.c (.d (.sl (xs.map aX.enc))),.c (.d (.sl (ys.map aX.enc))),.c (.d (.i .i64 y))]) (fun y=>[]::S)
    (fun i=>i≤xs.length∧∀j,j<i→xs[j]? =ys[j]?) (fun y=>xs.length-y) 0 rfl rfl ⟨Nat.zero_le _,fun j h=>by omega⟩ ?_
   rintro i ⟨p1,p2⟩
   refine W1 ?_
   refine S0 (fun hb h=>?_) fun hb h=>?_
   ·have hi:i<xs.length:=by omega
    have hi':i<ys.length:=by omega
    have hx:xs[i].sz≤aI (xs.map aX.enc):=bD (List.mem_map_of_mem (List.getElem_mem hi))
    refine W3 ?_
    refine C1 (Gf xs[i] (by have:=List.sizeOf_lt_of_mem (List.getElem_mem hi);omega) ys[i] (by omega)) ?_
    refine S0 (fun hb h=>?_) fun hb h=>?_
    ·exact ay (aC (fun e=>h (by simp only[e]))).symm
    refine bF (i+1) (by omega) rfl rfl ⟨by omega,fun j hj=> ?_⟩
    by_cases e:j=i
    ·subst e
     rw[List.getElem?_eq_getElem hi,List.getElem?_eq_getElem hi',h]
    ·exact p2 j (by omega)
   ·have hi:i=xs.length:=by omega
    refine ay (bq (List.ext_getElem? fun j=> ?_)).symm
    by_cases hj:j<i
    ·exact p2 j hj
    ·rw[List.getElem?_eq_none (by omega),List.getElem?_eq_none (by omega)]
theorem Ca(x:au):∀y:au,x.sz≤1048576→aD Tryz.prog 13 [x.v,y.v] (.c (.d (.b (dec (x=y))))):=(Gh _).1 x (Nat.lt_succ_self _)
end Go.Proofs.YtcfhnaohbaplhaaGreatDoor
namespace Go.Ab
mutual
def au.cnt:au→Nat
 | .mk _ _ _ _ _ a b=>1+(au.dQ a+aX.dQ b)
def au.dQ:List au→Nat
 |[]=>0
 |x::xs=>x.cnt+au.dQ xs
def aX.cnt:aX→Nat
 | .mk _ _ b=>b.cnt
def aX.dQ:List aX→Nat
 |[]=>0
 |x::xs=>x.cnt+aX.dQ xs
end
theorem au.mR(x:au):x.cnt=1+(au.dQ x.fArgs+aX.dQ x.aW):=by cases x;rw[au.cnt];rfl
theorem aX.mR(x:aX):x.cnt=x.fBody.cnt:=by cases x;rw[aX.cnt];rfl
theorem au.kr{xs:List au}{i:Nat}(hi:i<xs.length):au.dQ (xs.drop i)=xs[i].cnt+au.dQ (xs.drop (i+1)):=by rw[List.drop_eq_getElem_cons hi,au.dQ]
theorem aX.kr{xs:List aX}{i:Nat}(hi:i<xs.length):aX.dQ (xs.drop i)=xs[i].fBody.cnt+aX.dQ (xs.drop (i+1)):=by rw[List.drop_eq_getElem_cons hi,aX.dQ,aX.mR]
theorem au.xZ(x:au):x.fArgs.length+aI (x.fArgs.map au.enc)≤x.sz∧x.aW.length+aI (x.aW.map aX.enc)≤x.sz:=by
 simp only[au.sz,au.aH,bL,bf,D.sz,List.length_map]
 omega
theorem aX.Ik(x:aX):x.fBody.sz≤x.sz:=by
 simp only[aX.sz,aX.aH,au.sz,bL,bf,D.sz,List.length_map]
 omega
mutual
theorem au.jU:∀x:au,x.cnt≤1+x.sz
 | .mk k t n m ty a b=>by
   have h1:=au.sN a
   have h2:=aX.sN b
   rw[au.cnt]
   simp only[au.sz,au.aH,bL,bf,D.sz,List.length_map,au.fArgs,au.aW]
   omega
theorem au.sN:∀xs:List au,au.dQ xs≤xs.length+aI (xs.map au.enc)
 |[]=>by simp[au.dQ]
 |x::xs=>by
  have h1:=au.jU x
  have h2:=au.sN xs
  rw[au.dQ,List.length_cons,List.map_cons,aI,au.dn]
  omega
theorem aX.jU:∀x:aX,x.cnt≤1+x.sz
 | .mk c v b=>by
   have h1:=au.jU b
   have h2:=aX.Ik (.mk c v b)
   rw[aX.cnt]
   simp only[aX.fBody] at h2
   omega
theorem aX.sN:∀xs:List aX,aX.dQ xs≤xs.length+aI (xs.map aX.enc)
 |[]=>by simp[aX.dQ]
 |x::xs=>by
  have h1:=aX.jU x
  have h2:=aX.sN xs
  rw[aX.dQ,List.length_cons,List.map_cons,aI,aX.dn]
  omega
end
end Go.Ab
namespace Go.Proofs.YtcfhnaohbaplhaaGreatDoor
open Go Go.Ab
theorem x9:∀n:Nat,∀x:au,SizeOf.sizeOf x<n→x.sz≤4194304→aD Tryz.prog 201 [x.v] (.c (.d (.i .i64 x.cnt)))
 |0=>fun x h=>by omega
 |n+1=>by
  have ih:=x9 n
  intro x hn hsz S
  have iW:=au.fD x
  have rX:=au.nu x
  have hp:=au.xZ x
  have hc:=au.jU x
  have he:=au.mR x
  refine aB (rs:=[.tmp 2]) Tryz.checked.mixed Tryz.func201 Tryz.ntmps201 rfl rfl rfl rfl rfl ?_
  refine W1 ?_
  refine aQ (ι:=Nat×Nat) Tryz.checked.mixed rfl [1,3,9,10,11] (fun y=>[.c (.ptr (0,0) 0),.c (.d (.i .i64 y.2)),.c (.d (.sl (x.fArgs.map au.enc))),.c (.d (.i .i64 x.fArgs.length)),.c (.d (.i .i64 y.1))]) (fun y=>[.box (x.enc.map .d)]::S)
   (fun y=>y.1≤x.fArgs.length∧x.cnt=y.2+au.dQ (x.fArgs.drop y.1)+aX.dQ x.aW) (fun y=>x.fArgs.length-y.1) (0,1) rfl ?_ ⟨Nat.zero_le _,by simp only[List.drop_zero];omega⟩ ?_
  ·exact Z1
  rintro⟨i,c⟩ ⟨p1,p2⟩
  simp only at p1 p2
  refine W1 ?_
  refine S0 (fun hb h=>?_) fun hb h=>?_
  ·have hi:i<x.fArgs.length:=by omega
   have hx:x.fArgs[i].sz≤aI (x.fArgs.map au.enc):=bD (List.mem_map_of_mem (List.getElem_mem hi))
   rw[au.kr hi] at p2
   refine W3 ?_
   refine C2 (ih x.fArgs[i] (by have:=List.sizeOf_lt_of_mem (List.getElem_mem hi);omega) (by omega)) ?_
   rw[show(c:Int)+(x.fArgs[i].cnt:Int)=((c+x.fArgs[i].cnt:Nat):Int) by omega]
   exact cu 1 (by decide) (i+1,c+x.fArgs[i].cnt) (by simp only;omega) rfl rfl rfl rfl ⟨by simp only;omega,by simp only;omega⟩
  have hi:i=x.fArgs.length:=by omega
  rw[hi,List.drop_length,au.dQ] at p2
  refine aQ (ι:=Nat×Nat) Tryz.checked.mixed rfl [3,21,22,23] (fun y=>[.c (.d (.i .i64 y.2)),.c (.d (.sl (x.aW.map aX.enc))),.c (.d (.i .i64 x.aW.length)),.c (.d (.i .i64 y.1))]) (fun y=>[.box (x.enc.map .d)]::S)
   (fun y=>y.1≤x.aW.length∧x.cnt=y.2+aX.dQ (x.aW.drop y.1)) (fun y=>x.aW.length-y.1) (0,c) rfl ?_ ⟨Nat.zero_le _,by simp only[List.drop_zero];omega⟩ ?_
  ·exact Z1
  clear p1 p2 hb h hi i
  rintro⟨i,d⟩ ⟨p1,p2⟩
  simp only at p1 p2
  refine W1 ?_
  refine S0 (fun hb h=>?_) fun hb h=>?_
  ·have hi:i<x.aW.length:=by omega
   have hx:x.aW[i].sz≤aI (x.aW.map aX.enc):=bD (List.mem_map_of_mem (List.getElem_mem hi))
   have hy:=aX.Ik x.aW[i]
   have hs:=List.sizeOf_lt_of_mem (List.getElem_mem hi)
   have hs':=aX.mG x.aW[i]
   rw[aX.kr hi] at p2
   refine W3 ?_
   refine C2 (ih x.aW[i].fBody (by omega) (by omega)) ?_
   rw[show(d:Int)+(x.aW[i].fBody.cnt:Int)=((d+x.aW[i].fBody.cnt:Nat):Int) by omega]
   exact cu 1 (by decide) (i+1,d+x.aW[i].fBody.cnt) (by simp only;omega) rfl rfl rfl rfl ⟨by simp only;omega,by simp only;omega⟩
  ·have hi:i=x.aW.length:=by omega
   rw[hi,List.drop_length,aX.dQ] at p2
   exact int_eq (by omega)
theorem Gi(x:au)(hsz:x.sz≤4194304):aD Tryz.prog 201 [x.v] (.c (.d (.i .i64 x.cnt))):=x9 _ x (Nat.lt_succ_self _) hsz
end Go.Proofs.YtcfhnaohbaplhaaGreatDoor
namespace Go.Ab
def ops:List (List UInt8):=[[43],[45],[42],[60],[61]]
def uj(t:ah):Prop:=t.aU=0∧t.fName=[]∧t.fArgs.length=0
def qy(e:au):Prop:=
 (1≤e.aU∧e.aU≤12)∧
 (if e.aU=5∨e.aU=11 then validName e.bI=true else e.bI=[])∧
 (if e.aU=3∨e.aU=4∨e.aU=5∨e.aU=6∨e.aU=8 then validName e.fName=true else if e.aU=10 then e.fName∈ops else e.fName=[])∧
 (if e.aU=1 then -999999≤e.fN∧e.fN≤999999 else if e.aU=2 then e.fN=0∨e.fN=1 else e.fN=0)∧
 (if e.aU=12 then kZ e.fType=true else uj e.fType)∧
 (if e.aU=4∨e.aU=6 then True else if e.aU=5 then 1≤e.fArgs.length else if e.aU=7∨e.aU=11∨e.aU=12 then e.fArgs.length=1 else if e.aU=8∨e.aU=10 then e.fArgs.length=2 else if e.aU=9 then e.fArgs.length=3 else e.fArgs.length=0)∧
 (e.aU=7↔0<e.aW.length)
mutual
noncomputable def gV:au→Bool
 | .mk k t n m ty a b=>dec (qy (.mk k t n m ty a b))&&(kW a&&nG b)
noncomputable def kW:List au→Bool
 |[]=>true
 |x::xs=>gV x&&kW xs
noncomputable def um:aX→Bool
 | .mk c v b=>validName c&&(gP v&&gV b)
noncomputable def nG:List aX→Bool
 |[]=>true
 |x::xs=>um x&&nG xs
end
theorem sS(x:au):gV x=(dec (qy x)&&(kW x.fArgs&&nG x.aW)):=by cases x;rw[gV];rfl
theorem ow(x:aX):um x=(validName x.dw&&(gP x.aF&&gV x.fBody)):=by cases x;rw[um];rfl
theorem MZ{xs:List au}{i:Nat}(hi:i<xs.length):kW (xs.drop i)=(gV xs[i]&&kW (xs.drop (i+1))):=by rw[List.drop_eq_getElem_cons hi,kW]
theorem OJ{xs:List aX}{i:Nat}(hi:i<xs.length):nG (xs.drop i)=(um xs[i]&&nG (xs.drop (i+1))):=by rw[List.drop_eq_getElem_cons hi,nG]
theorem DT:∀{xs:List au},(xs.any fun t=> !gV t)= !kW xs
 |[]=>rfl
 |t::ts=>by rw[List.any_cons,DT (xs:=ts),kW];simp
theorem Gj:∀{xs:List aX},(xs.any fun t=> !um t)= !nG xs
 |[]=>rfl
 |t::ts=>by rw[List.any_cons,Gj (xs:=ts),nG];simp
noncomputable def og(e:au):Bool:=dec (e.cnt≤300)&&gV e
def mq(l:Int)(c:Nat):Int:=if l<0 then -1 else if c≤l then l-c else -1
theorem Az{l:Int}{a b:Nat}:mq (mq l a) b=mq l (a+b):=by unfold mq;split<;>split<;>(try split)<;>(try split)<;>omega
theorem En{l:Int}{a:Nat}(h:l<0):mq l a= -1:=if_pos h
theorem Cb{l:Int}(h: -1≤l):mq l 0=l:=by unfold mq;split<;>(try split)<;>omega
theorem Il{l:Int}{c:Nat}(h:0≤l): -1≤mq l c∧mq l c≤l:=by unfold mq;split<;>(try split)<;>omega
theorem Xv{l:Int}{c:Nat}(h:0≤l):decide (mq l c≥0)=decide ((c:Int)≤l):=by unfold mq;rw[if_neg (by omega)];split<;>simp<;>omega
theorem Km:validName []=false:=aC fun h=>by have:=h.1.1;simp at this
theorem aa3{s:List UInt8}(h:s∈ops):s.length=1:=by simp[ops] at h;rcases h with h|h|h|h|h<;>rw[h]<;>rfl
theorem M0{s:List UInt8}(h:s∈ops):validName s=false:=aC fun x=>by
 have h1:=x.2.2 0 (by have:=x.1.1;omega)
 simp[ops] at h;rcases h with h|h|h|h|h<;>rw[h] at h1<;>simp[lowerB,oN] at h1
theorem Gl{t:ah}(h:uj t):kZ t=false:=aC fun x=>by
 have h1:=x.1
 rw[sO,Bool.and_eq_true] at h1
 have h2:=iN h1.1
 rw[h.1] at h2
 omega
end Go.Ab
namespace Go.Ab
structure Hold (p:Prop):Prop where
 out:p
theorem oz{P:Program}{N:Nat}{c:Code}{Q:Exit→St→Prop}{tm:List (Nat×V)}{st st':Store}(ts:List Nat)(vs:List V)(hv:ts.map (look tm)=vs)(hs:st=st')
 (h:AW P N c Q ⟨fG ts vs,st'⟩):AW P N c Q ⟨tm,st⟩:=by
 subst hs
 refine oo h ?_
 rw[←hv]
 exact Ed fun t=>xR _ ts t
end Go.Ab
namespace Go.Ab
theorem Zz(b:UInt8):decide (firstIdx ⟨[43,45,42,60,61].toArray⟩ b≥0)=dec ([b]∈ops):=by
 have h:∀n:Nat,n<256→decide (firstIdx ⟨[43,45,42,60,61].toArray⟩ (UInt8.ofNat n)≥0)=decide ([UInt8.ofNat n]∈ops):=by decide +kernel
 have h1:=h b.toNat (UInt8.toNat_lt b)
 rw[UInt8.ofNat_toNat] at h1
 rw[h1]
 by_cases h2:[b]∈ops
 ·rw[bq h2];simp[h2]
 ·rw[aC h2];simp[h2]
def RN(k:Int):Int:=if k=5∨k=7∨k=11∨k=12 then 1 else if k=8∨k=10 then 2 else if k=9 then 3 else 0
def RO(k:Int):Int:=if k=4∨k=6∨k=5 then 300 else if k=7∨k=11∨k=12 then 1 else if k=8∨k=10 then 2 else if k=9 then 3 else 0
end Go.Ab
namespace Go.Proofs.YtcfhnaohbaplhaaGreatDoor
open Go Go.Ab
theorem Dp(l:List UInt8)(b:UInt8):QE Tryz.prog 366 [.c (.d (.s l)),.c (.d (.i .u8 b.toNat))] (.c (.d (.i .i64 (firstIdx ⟨l.toArray⟩ b)))):=by
 refine⟨_,Extern.BytealgIndexByte.indexByte,Tryz.func366,by kernel_rfl,by kernel_rfl,by kernel_rfl,by kernel_rfl,fun w σ S β vs hS hv=> ?_⟩
 obtain⟨hl,h⟩:=hv
 obtain⟨v0,e0,h0,_⟩:=h 0 _ rfl
 obtain⟨v1,e1,h1,_⟩:=h 1 _ rfl
 cases h0
 cases h1
 have hvs:vs=[.string ⟨l.toArray⟩,.int .u8 b.toNat]:=by
  match vs,hl,e0,e1 with
  |[x,y],_,e0,e1=>simp at e0 e1;rw[e0,e1]
 subst hvs
 refine⟨_,run_indexByte_string _ _ w,?_,rfl⟩
 have hb:(b.toNat:Int).toNat.toUInt8=b:=by simp
 rw[hb]
 exact .i _ _
theorem Cc(l:List UInt8)(b:UInt8):aD Tryz.prog 339 [.c (.d (.s l)),.c (.d (.i .u8 b.toNat))] (.c (.d (.i .i64 (firstIdx ⟨l.toArray⟩ b)))):=fun S=>by
 refine aB (rs:=[.tmp 4]) Tryz.checked.mixed Tryz.func339 Tryz.ntmps339 rfl rfl rfl rfl rfl ?_
 refine W1 ?_
 refine aaF (Dp l b) ?_
 exact Z1
theorem OL(l:List UInt8)(b:UInt8)(hl:[b]≠l):aD Tryz.prog 400 [.c (.d (.s l)),.c (.d (.s [b]))] (.c (.d (.i .i64 (firstIdx ⟨l.toArray⟩ b)))):=fun S=>by
 have c1:decide (((1:Nat):Int)=0)=false:=rfl
 have c2:decide (((1:Nat):Int)=1)=true:=rfl
 refine aB (rs:=[.tmp 4]) Tryz.checked.mixed Tryz.func400 Tryz.ntmps400 rfl rfl rfl rfl rfl ?_
 simp -implicitDefEqProofs (disch:=omega) only[go_sem,c1,c2]
 with_reducible refine eX (fun hb=> ?_) (fun hb=> ?_)<;>have h:=hb<;>(try simp only[wf_preprocess] at h)<;>simp -implicitDefEqProofs (disch:=omega) only[go_sem,hb,c1,c2]<;>refine W3 ?_
 ·exact absurd h hl
 exact C4 (Cc l b)
theorem U0(l:List UInt8)(b:UInt8)(hl:[b]≠l):aD Tryz.prog 386 [.c (.d (.s l)),.c (.d (.s [b]))] (.c (.d (.i .i64 (firstIdx ⟨l.toArray⟩ b)))):=fun S=>by
 refine aB (rs:=[.tmp 4]) Tryz.checked.mixed Tryz.func386 Tryz.ntmps386 rfl rfl rfl rfl rfl ?_
 refine W1 ?_
 exact C4 (OL l b hl)
theorem M4(l:List UInt8)(b:UInt8)(hl:[b]≠l):aD Tryz.prog 369 [.c (.d (.s l)),.c (.d (.s [b]))] (.c (.d (.b (decide (firstIdx ⟨l.toArray⟩ b≥0))))):=fun S=>by
 refine aB (rs:=[.tmp 4]) Tryz.checked.mixed Tryz.func369 Tryz.ntmps369 rfl rfl rfl rfl rfl ?_
 refine W1 ?_
 exact C4 (U0 l b hl)
theorem Kn(s:List UInt8):aD Tryz.prog 345 [.c (.d (.s s))] (.c (.d (.b (dec (s∈ops))))):=fun S=>by
 refine aB (rs:=[.tmp 2]) Tryz.checked.mixed Tryz.func345 Tryz.ntmps345 rfl rfl rfl rfl rfl ?_
 refine W1 ?_
 refine S0 (fun hb h=>?_) fun hb h=>?_
 ·obtain⟨b,rfl⟩:=List.length_eq_one_iff.1 (show s.length=1 by omega)
  refine C2 (M4 [43,45,42,60,61] b (by intro x;cases x)) ?_
  exact ay (Zz b)
 ·exact ay (aC fun x=>h (by rw[aa3 x];rfl)).symm
theorem Bf(t:ah):aD Tryz.prog 266 [t.v] (.c (.d (.b (dec (uj t))))):=fun S=>by
 refine aB (rs:=[.tmp 2]) Tryz.checked.mixed Tryz.func266 Tryz.ntmps266 rfl rfl rfl rfl rfl ?_
 refine W1 ?_
 repeat' (first
  |refine S0 (fun hb h=>?_) fun hb h=>?_
  |(refine ay ?_;unfold uj;grind [bq,aC,iN,iH]))
theorem DU(k:Int):aD Tryz.prog 344 [.c (.d (.i .i64 k))] (.iB [(false,[.d (.i .i64 (RN k))]),(false,[.d (.i .i64 (RO k))])]):=fun S=>by
 refine aB (rs:=[.tmp 2,.tmp 3]) Tryz.checked.mixed Tryz.func344 Tryz.ntmps344 rfl rfl rfl rfl rfl ?_
 refine W1 ?_
 repeat' (first
  |refine S0 (fun hb h=>?_) fun hb h=>?_
  |(unfold RN RO;grind))
end Go.Proofs.YtcfhnaohbaplhaaGreatDoor
