/-
  SEVERAL TEXTS IN ONE (merged by program): contracts and models, each with its own heading.
-/
import Derived.Test.YtocpgjlbagncjaaGreatDoorPartRvbB
import Derived.Test.YtocpgjlbagncjaaGreatDoorChecked
import Derived.Eval
import Derived.KernelRfl
set_option linter.unusedSimpArgs false
set_option linter.unusedVariables false
set_option maxRecDepth 4000
namespace Go.Ab
mutual
def D.sz:D→Nat
 | .s l=>l.length
 | .sl es=>es.length+bD es
 | .b _=>0
 | .i _ _=>0
 | .o _=>0
 | .ol _ es=>es.length+bD es
def cu:List D→Nat
 |[]=>0
 |d::ds=>d.sz+cu ds
def bD:List (List D)→Nat
 |[]=>0
 |r::rs=>cu r+bD rs
end
theorem bN:∀(a b:List D),cu (a++b)=cu a+cu b
 |[],b=>by simp[cu]
 |d::ds,b=>by rw[List.cons_append,cu,bN ds b,cu];omega
def kR(left:Int)(n:Nat):Int:=if left-n<0 then -1 else left-n
theorem zm{l:Int}{a:Nat}(h:¬kR l a<0):kR l a=l-a∧0≤l-a:=by
 unfold kR at *
 split at h
 ·omega
 ·rename_i h';exact⟨if_neg h',by omega⟩
theorem zn{l:Int}{a:Nat}(h:kR l a<0):l-a<0:=by
 unfold kR at *
 split at h<;>omega
theorem xR{l:Int}{a:Nat}(h:l-a<0):kR l a= -1:=if_pos h
theorem Fg{l:Int}{a:Nat}(h:0≤l-a):kR l a=l-a:=if_neg (by omega)
theorem int_eq{k:IntKind}{a b:Int}(h:a=b):V.c (.d (.i k a))=V.c (.d (.i k b)):=by rw[h]
theorem aB{a b:Bool}(h:a=b):V.c (.d (.b a))=V.c (.d (.b b)):=by rw[h]
noncomputable def dec(p:Prop):Bool:= @decide p (Classical.propDecidable p)
theorem bA{p:Prop}(h:p):dec p=true:=by simp[dec,h]
theorem aF{p:Prop}(h:¬p):dec p=false:=by simp[dec,h]
theorem gH{p:Prop}(h:dec p=true):p:=by simpa [dec] using h
theorem jM{p:Prop}(h:dec p=false):¬p:=by simpa [dec] using h
theorem zR{p:Prop}:(dec p=true)=p:=by simp[dec]
theorem GK{p:Prop}:(dec p=false)=¬p:=by simp[dec]
attribute [wf_preprocess] zR GK
theorem iq{p q:Prop}(h:p↔q):dec p=dec q:=by rw[propext h]
theorem adi:dec True=true:=bA trivial
theorem aao:dec False=false:=aF id
attribute [go_sem] adi aao
theorem jY{p:Prop}[Decidable p]:decide p=dec p:=by by_cases h:p<;>simp[dec,h]
theorem dA{r:List D}:∀{rs:List (List D)},r∈rs→cu r≤bD rs
 |a::rs,h=>by
  rw[bD]
  rcases List.mem_cons.1 h with rfl|h
  ·omega
  ·have:=dA h;omega
def vJ(z i:Nat)(R rows:List (List D)):Prop:=R.length=rows.length∧(∀r∈R,r.length=z)∧∀j,j<i→R[j]? =rows[j]?
theorem vJ.start{z:Nat}{rows:List (List D)}{zero:List D}{n:Nat}(hn:n=rows.length)(h:zero.length=z):vJ z 0 (List.replicate n zero) rows:=by
 subst hn
 exact⟨by simp,fun r hr=>by rw[List.eq_of_mem_replicate hr];exact h,fun j h=>by omega⟩
theorem vJ.step{z i:Nat}{R rows:List (List D)}{row:List D}(h:vJ z i R rows)(hi:rows[i]? =some row)(hr:row.length=z):vJ z (i+1) (R.set i (uM (R.getD i []) 0 row)) rows:=by
 obtain⟨h1,h2,h3⟩:=h
 have hlt:i<rows.length:=(List.getElem?_eq_some_iff.1 hi).1
 have hs:uM (R.getD i []) 0 row=row:=by
  have hm:R.getD i []∈R:=by
   rw[List.getD_eq_getElem?_getD,List.getElem?_eq_getElem (by omega)]
   exact List.getElem_mem _
  have:=h2 _ hm
  unfold uM
  rw[List.take_zero,List.nil_append,Nat.zero_add,hr,List.drop_eq_nil_of_le (by omega),List.append_nil]
 rw[hs]
 refine⟨by simpa using h1,fun r hr'=> ?_,fun j hj=> ?_⟩
 ·rcases List.mem_or_eq_of_mem_set hr' with h|h
  ·exact h2 r h
  ·rw[h];exact hr
 ·by_cases e:j=i
  ·subst e
   rw[hi,List.getElem?_set_self (by omega)]
  ·rw[List.getElem?_set_ne (by omega)]
   exact h3 j (by omega)
theorem vJ.done{z i:Nat}{R rows:List (List D)}(h:vJ z i R rows)(hi:rows.length≤i):R=rows:=by
 obtain⟨h1,h2,h3⟩:=h
 refine List.ext_getElem? fun j=> ?_
 by_cases hj:j<i
 ·exact h3 j hj
 ·rw[List.getElem?_eq_none (by omega),List.getElem?_eq_none (by omega)]
end Go.Ab
namespace Go.Ab
def encS(s:List UInt8):List D:=[.s s]
def encI(n:Int):List D:=[.i .i64 n]
inductive au where
 |mk (aK:Int) (fName:List UInt8) (fArgs:List au)
def au.aK:au→Int| .mk x _ _=>x
def au.fName:au→List UInt8| .mk _ x _=>x
def au.fArgs:au→List au| .mk _ _ x=>x
theorem au.eta(x:au):au.mk x.aK x.fName x.fArgs=x:=by cases x;rfl
theorem au.ext{x y:au}(h0:x.aK=y.aK)(h1:x.fName=y.fName)(h2:x.fArgs=y.fArgs):x=y:=by
 rw[←au.eta x,←au.eta y,h0,h1,h2]
mutual
def au.enc:au→List D
 | .mk a0 a1 a2=>[.i .i64 a0,.s a1,.sl (au.encs a2)]
def au.encs:List au→List (List D)
 |[]=>[]
 |x::xs=>x.enc::au.encs xs
end
theorem au.kS:∀l,au.encs l=l.map au.enc
 |[]=>rfl
 |x::xs=>by rw[au.encs,List.map_cons,au.kS xs]
theorem au.aD(x:au):x.enc=[.i .i64 x.aK,.s x.fName,.sl (x.fArgs.map au.enc)]:=by
 cases x;simp only[au.enc,au.kS,au.aK,au.fName,au.fArgs]
abbrev au.v (x:au):V:=.agg [.d (.i .i64 x.aK),.d (.s x.fName),.d (.sl (x.fArgs.map au.enc))]
theorem au.tY(x:au): .agg (x.enc.map .d)=x.v:=by
 simp only[au.aD,List.map_cons,List.map_nil,List.cons_append,List.nil_append,List.map_append]
theorem au.dn(x:au):x.enc.length=3:=by
 simp only[au.aD,List.length_append,List.length_cons,List.length_nil]
def au.sz(x:au):Nat:=cu x.enc
theorem au.dZ(x:au):cu x.enc=x.sz:=rfl
theorem au.gM(x:au):SizeOf.sizeOf x.fArgs<SizeOf.sizeOf x:=by cases x;simp[au.fArgs];omega
structure eH where
 fVar:List UInt8
 fType:au
def eH.enc(x:eH):List D:=[.s x.fVar]++(x.fType.enc)
theorem eH.aD(x:eH):x.enc=[.s x.fVar]++(x.fType.enc):=rfl
theorem eH.eta(x:eH):eH.mk x.fVar x.fType=x:=rfl
theorem eH.ext'{x y:eH}(h0:x.fVar=y.fVar)(h1:x.fType=y.fType):x=y:=by
 cases x;cases y;simp_all
abbrev eH.v (x:eH):V:=.agg [.d (.s x.fVar),.d (.i .i64 x.fType.aK),.d (.s x.fType.fName),.d (.sl (x.fType.fArgs.map au.enc))]
theorem eH.tY(x:eH): .agg (x.enc.map .d)=x.v:=by
 simp only[eH.aD,au.aD,List.map_cons,List.map_nil,List.cons_append,List.nil_append,List.map_append]
theorem eH.dn(x:eH):x.enc.length=4:=by
 simp only[eH.aD,au.dn,List.length_append,List.length_cons,List.length_nil]
def eH.sz(x:eH):Nat:=cu x.enc
theorem eH.dZ(x:eH):cu x.enc=x.sz:=rfl
structure aO where
 bL:List UInt8
 fType:au
def aO.enc(x:aO):List D:=[.s x.bL]++(x.fType.enc)
theorem aO.aD(x:aO):x.enc=[.s x.bL]++(x.fType.enc):=rfl
theorem aO.eta(x:aO):aO.mk x.bL x.fType=x:=rfl
theorem aO.ext'{x y:aO}(h0:x.bL=y.bL)(h1:x.fType=y.fType):x=y:=by
 cases x;cases y;simp_all
abbrev aO.v (x:aO):V:=.agg [.d (.s x.bL),.d (.i .i64 x.fType.aK),.d (.s x.fType.fName),.d (.sl (x.fType.fArgs.map au.enc))]
theorem aO.tY(x:aO): .agg (x.enc.map .d)=x.v:=by
 simp only[aO.aD,au.aD,List.map_cons,List.map_nil,List.cons_append,List.nil_append,List.map_append]
theorem aO.dn(x:aO):x.enc.length=4:=by
 simp only[aO.aD,au.dn,List.length_append,List.length_cons,List.length_nil]
def aO.sz(x:aO):Nat:=cu x.enc
theorem aO.dZ(x:aO):cu x.enc=x.sz:=rfl
mutual
inductive ay where
 |mk (aK:Int) (bL:List UInt8) (fName:List UInt8) (fN:Int) (fType:au) (fArgs:List ay) (aP:List aR)
inductive aR where
 |mk (dL:List UInt8) (aA:List (List UInt8)) (fBody:ay)
end
def ay.aK:ay→Int| .mk x _ _ _ _ _ _=>x
def ay.bL:ay→List UInt8| .mk _ x _ _ _ _ _=>x
def ay.fName:ay→List UInt8| .mk _ _ x _ _ _ _=>x
def ay.fN:ay→Int| .mk _ _ _ x _ _ _=>x
def ay.fType:ay→au| .mk _ _ _ _ x _ _=>x
def ay.fArgs:ay→List ay| .mk _ _ _ _ _ x _=>x
def ay.aP:ay→List aR| .mk _ _ _ _ _ _ x=>x
theorem ay.eta(x:ay):ay.mk x.aK x.bL x.fName x.fN x.fType x.fArgs x.aP=x:=by cases x;rfl
theorem ay.ext{x y:ay}(h0:x.aK=y.aK)(h1:x.bL=y.bL)(h2:x.fName=y.fName)(h3:x.fN=y.fN)(h4:x.fType=y.fType)(h5:x.fArgs=y.fArgs)(h6:x.aP=y.aP):x=y:=by
 rw[←ay.eta x,←ay.eta y,h0,h1,h2,h3,h4,h5,h6]
def aR.dL:aR→List UInt8| .mk x _ _=>x
def aR.aA:aR→List (List UInt8)| .mk _ x _=>x
def aR.fBody:aR→ay| .mk _ _ x=>x
theorem aR.eta(x:aR):aR.mk x.dL x.aA x.fBody=x:=by cases x;rfl
theorem aR.ext{x y:aR}(h0:x.dL=y.dL)(h1:x.aA=y.aA)(h2:x.fBody=y.fBody):x=y:=by
 rw[←aR.eta x,←aR.eta y,h0,h1,h2]
mutual
def ay.enc:ay→List D
 | .mk a0 a1 a2 a3 a4 a5 a6=>[.i .i64 a0,.s a1,.s a2,.i .i64 a3]++(a4.enc++([.sl (ay.encs a5),.sl (aR.encs a6)]))
def ay.encs:List ay→List (List D)
 |[]=>[]
 |x::xs=>x.enc::ay.encs xs
def aR.enc:aR→List D
 | .mk a0 a1 a2=>[.s a0,.sl (a1.map encS)]++(ay.enc a2)
def aR.encs:List aR→List (List D)
 |[]=>[]
 |x::xs=>x.enc::aR.encs xs
end
theorem ay.kS:∀l,ay.encs l=l.map ay.enc
 |[]=>rfl
 |x::xs=>by rw[ay.encs,List.map_cons,ay.kS xs]
theorem aR.kS:∀l,aR.encs l=l.map aR.enc
 |[]=>rfl
 |x::xs=>by rw[aR.encs,List.map_cons,aR.kS xs]
theorem ay.aD(x:ay):x.enc=[.i .i64 x.aK,.s x.bL,.s x.fName,.i .i64 x.fN]++(x.fType.enc++([.sl (x.fArgs.map ay.enc),.sl (x.aP.map aR.enc)])):=by
 cases x;simp only[ay.enc,ay.kS,aR.kS,ay.aK,ay.bL,ay.fName,ay.fN,ay.fType,ay.fArgs,ay.aP]
theorem aR.aD(x:aR):x.enc=[.s x.dL,.sl (x.aA.map encS)]++(x.fBody.enc):=by
 cases x;simp only[aR.enc,ay.kS,aR.kS,aR.dL,aR.aA,aR.fBody]
abbrev ay.v (x:ay):V:=.agg [.d (.i .i64 x.aK),.d (.s x.bL),.d (.s x.fName),.d (.i .i64 x.fN),.d (.i .i64 x.fType.aK),.d (.s x.fType.fName),.d (.sl (x.fType.fArgs.map au.enc)),.d (.sl (x.fArgs.map ay.enc)),.d (.sl (x.aP.map aR.enc))]
theorem ay.tY(x:ay): .agg (x.enc.map .d)=x.v:=by
 simp only[ay.aD,au.aD,List.map_cons,List.map_nil,List.cons_append,List.nil_append,List.map_append]
theorem ay.dn(x:ay):x.enc.length=9:=by
 simp only[ay.aD,au.dn,List.length_append,List.length_cons,List.length_nil]
def ay.sz(x:ay):Nat:=cu x.enc
theorem ay.dZ(x:ay):cu x.enc=x.sz:=rfl
theorem ay.gM(x:ay):SizeOf.sizeOf x.fArgs<SizeOf.sizeOf x:=by cases x;simp[ay.fArgs];omega
theorem ay.oN(x:ay):SizeOf.sizeOf x.aP<SizeOf.sizeOf x:=by cases x;simp[ay.aP];omega
abbrev aR.v (x:aR):V:=.agg [.d (.s x.dL),.d (.sl (x.aA.map encS)),.d (.i .i64 x.fBody.aK),.d (.s x.fBody.bL),.d (.s x.fBody.fName),.d (.i .i64 x.fBody.fN),.d (.i .i64 x.fBody.fType.aK),.d (.s x.fBody.fType.fName),.d (.sl (x.fBody.fType.fArgs.map au.enc)),.d (.sl (x.fBody.fArgs.map ay.enc)),.d (.sl (x.fBody.aP.map aR.enc))]
theorem aR.tY(x:aR): .agg (x.enc.map .d)=x.v:=by
 simp only[aR.aD,ay.aD,au.aD,List.map_cons,List.map_nil,List.cons_append,List.nil_append,List.map_append]
theorem aR.dn(x:aR):x.enc.length=11:=by
 simp only[aR.aD,ay.dn,List.length_append,List.length_cons,List.length_nil]
def aR.sz(x:aR):Nat:=cu x.enc
theorem aR.dZ(x:aR):cu x.enc=x.sz:=rfl
theorem aR.nW(x:aR):SizeOf.sizeOf x.fBody<SizeOf.sizeOf x:=by cases x;simp[aR.fBody];omega
inductive aj where
 |mk (bf:List UInt8) (ah:List aj)
def aj.bf:aj→List UInt8| .mk x _=>x
def aj.ah:aj→List aj| .mk _ x=>x
theorem aj.eta(x:aj):aj.mk x.bf x.ah=x:=by cases x;rfl
theorem aj.ext{x y:aj}(h0:x.bf=y.bf)(h1:x.ah=y.ah):x=y:=by
 rw[←aj.eta x,←aj.eta y,h0,h1]
mutual
def aj.enc:aj→List D
 | .mk a0 a1=>[.s a0,.sl (aj.encs a1)]
def aj.encs:List aj→List (List D)
 |[]=>[]
 |x::xs=>x.enc::aj.encs xs
end
theorem aj.kS:∀l,aj.encs l=l.map aj.enc
 |[]=>rfl
 |x::xs=>by rw[aj.encs,List.map_cons,aj.kS xs]
theorem aj.aD(x:aj):x.enc=[.s x.bf,.sl (x.ah.map aj.enc)]:=by
 cases x;simp only[aj.enc,aj.kS,aj.bf,aj.ah]
abbrev aj.v (x:aj):V:=.agg [.d (.s x.bf),.d (.sl (x.ah.map aj.enc))]
theorem aj.tY(x:aj): .agg (x.enc.map .d)=x.v:=by
 simp only[aj.aD,List.map_cons,List.map_nil,List.cons_append,List.nil_append,List.map_append]
theorem aj.dn(x:aj):x.enc.length=2:=by
 simp only[aj.aD,List.length_append,List.length_cons,List.length_nil]
def aj.sz(x:aj):Nat:=cu x.enc
theorem aj.dZ(x:aj):cu x.enc=x.sz:=rfl
theorem aj.oO(x:aj):SizeOf.sizeOf x.ah<SizeOf.sizeOf x:=by cases x;simp[aj.ah];omega
structure aN where
 fName:List UInt8
 aJ:List au
 aU:au
 gF:Bool
 aA:List (List UInt8)
 fBody:ay
def aN.enc(x:aN):List D:=[.s x.fName,.sl (x.aJ.map au.enc)]++(x.aU.enc++([.b x.gF,.sl (x.aA.map encS)]++(x.fBody.enc)))
theorem aN.aD(x:aN):x.enc=[.s x.fName,.sl (x.aJ.map au.enc)]++(x.aU.enc++([.b x.gF,.sl (x.aA.map encS)]++(x.fBody.enc))):=rfl
theorem aN.eta(x:aN):aN.mk x.fName x.aJ x.aU x.gF x.aA x.fBody=x:=rfl
theorem aN.ext'{x y:aN}(h0:x.fName=y.fName)(h1:x.aJ=y.aJ)(h2:x.aU=y.aU)(h3:x.gF=y.gF)(h4:x.aA=y.aA)(h5:x.fBody=y.fBody):x=y:=by
 cases x;cases y;simp_all
abbrev aN.v (x:aN):V:=.agg [.d (.s x.fName),.d (.sl (x.aJ.map au.enc)),.d (.i .i64 x.aU.aK),.d (.s x.aU.fName),.d (.sl (x.aU.fArgs.map au.enc)),.d (.b x.gF),.d (.sl (x.aA.map encS)),.d (.i .i64 x.fBody.aK),.d (.s x.fBody.bL),.d (.s x.fBody.fName),.d (.i .i64 x.fBody.fN),.d (.i .i64 x.fBody.fType.aK),.d (.s x.fBody.fType.fName),.d (.sl (x.fBody.fType.fArgs.map au.enc)),.d (.sl (x.fBody.fArgs.map ay.enc)),.d (.sl (x.fBody.aP.map aR.enc))]
theorem aN.tY(x:aN): .agg (x.enc.map .d)=x.v:=by
 simp only[aN.aD,ay.aD,au.aD,List.map_cons,List.map_nil,List.cons_append,List.nil_append,List.map_append]
theorem aN.dn(x:aN):x.enc.length=16:=by
 simp only[aN.aD,ay.dn,au.dn,List.length_append,List.length_cons,List.length_nil]
def aN.sz(x:aN):Nat:=cu x.enc
theorem aN.dZ(x:aN):cu x.enc=x.sz:=rfl
structure bC where
 fName:List UInt8
 bF:List (List UInt8)
 kY:Bool
 bK:Bool
 aC:List aN
def bC.enc(x:bC):List D:=[.s x.fName,.sl (x.bF.map encS),.b x.kY,.b x.bK,.sl (x.aC.map aN.enc)]
theorem bC.aD(x:bC):x.enc=[.s x.fName,.sl (x.bF.map encS),.b x.kY,.b x.bK,.sl (x.aC.map aN.enc)]:=rfl
theorem bC.eta(x:bC):bC.mk x.fName x.bF x.kY x.bK x.aC=x:=rfl
theorem bC.ext'{x y:bC}(h0:x.fName=y.fName)(h1:x.bF=y.bF)(h2:x.kY=y.kY)(h3:x.bK=y.bK)(h4:x.aC=y.aC):x=y:=by
 cases x;cases y;simp_all
abbrev bC.v (x:bC):V:=.agg [.d (.s x.fName),.d (.sl (x.bF.map encS)),.d (.b x.kY),.d (.b x.bK),.d (.sl (x.aC.map aN.enc))]
theorem bC.tY(x:bC): .agg (x.enc.map .d)=x.v:=by
 simp only[bC.aD,List.map_cons,List.map_nil,List.cons_append,List.nil_append,List.map_append]
theorem bC.dn(x:bC):x.enc.length=5:=by
 simp only[bC.aD,List.length_append,List.length_cons,List.length_nil]
def bC.sz(x:bC):Nat:=cu x.enc
theorem bC.dZ(x:bC):cu x.enc=x.sz:=rfl
structure aM where
 fName:List UInt8
 fG:List au
def aM.enc(x:aM):List D:=[.s x.fName,.sl (x.fG.map au.enc)]
theorem aM.aD(x:aM):x.enc=[.s x.fName,.sl (x.fG.map au.enc)]:=rfl
theorem aM.eta(x:aM):aM.mk x.fName x.fG=x:=rfl
theorem aM.ext'{x y:aM}(h0:x.fName=y.fName)(h1:x.fG=y.fG):x=y:=by
 cases x;cases y;simp_all
abbrev aM.v (x:aM):V:=.agg [.d (.s x.fName),.d (.sl (x.fG.map au.enc))]
theorem aM.tY(x:aM): .agg (x.enc.map .d)=x.v:=by
 simp only[aM.aD,List.map_cons,List.map_nil,List.cons_append,List.nil_append,List.map_append]
theorem aM.dn(x:aM):x.enc.length=2:=by
 simp only[aM.aD,List.length_append,List.length_cons,List.length_nil]
def aM.sz(x:aM):Nat:=cu x.enc
theorem aM.dZ(x:aM):cu x.enc=x.sz:=rfl
structure aS where
 fName:List UInt8
 aA:List (List UInt8)
 aH:List aM
def aS.enc(x:aS):List D:=[.s x.fName,.sl (x.aA.map encS),.sl (x.aH.map aM.enc)]
theorem aS.aD(x:aS):x.enc=[.s x.fName,.sl (x.aA.map encS),.sl (x.aH.map aM.enc)]:=rfl
theorem aS.eta(x:aS):aS.mk x.fName x.aA x.aH=x:=rfl
theorem aS.ext'{x y:aS}(h0:x.fName=y.fName)(h1:x.aA=y.aA)(h2:x.aH=y.aH):x=y:=by
 cases x;cases y;simp_all
abbrev aS.v (x:aS):V:=.agg [.d (.s x.fName),.d (.sl (x.aA.map encS)),.d (.sl (x.aH.map aM.enc))]
theorem aS.tY(x:aS): .agg (x.enc.map .d)=x.v:=by
 simp only[aS.aD,List.map_cons,List.map_nil,List.cons_append,List.nil_append,List.map_append]
theorem aS.dn(x:aS):x.enc.length=3:=by
 simp only[aS.aD,List.length_append,List.length_cons,List.length_nil]
def aS.sz(x:aS):Nat:=cu x.enc
theorem aS.dZ(x:aS):cu x.enc=x.sz:=rfl
structure bH where
 fName:List UInt8
 aA:List (List UInt8)
 fBody:ay
def bH.enc(x:bH):List D:=[.s x.fName,.sl (x.aA.map encS)]++(x.fBody.enc)
theorem bH.aD(x:bH):x.enc=[.s x.fName,.sl (x.aA.map encS)]++(x.fBody.enc):=rfl
theorem bH.eta(x:bH):bH.mk x.fName x.aA x.fBody=x:=rfl
theorem bH.ext'{x y:bH}(h0:x.fName=y.fName)(h1:x.aA=y.aA)(h2:x.fBody=y.fBody):x=y:=by
 cases x;cases y;simp_all
abbrev bH.v (x:bH):V:=.agg [.d (.s x.fName),.d (.sl (x.aA.map encS)),.d (.i .i64 x.fBody.aK),.d (.s x.fBody.bL),.d (.s x.fBody.fName),.d (.i .i64 x.fBody.fN),.d (.i .i64 x.fBody.fType.aK),.d (.s x.fBody.fType.fName),.d (.sl (x.fBody.fType.fArgs.map au.enc)),.d (.sl (x.fBody.fArgs.map ay.enc)),.d (.sl (x.fBody.aP.map aR.enc))]
theorem bH.tY(x:bH): .agg (x.enc.map .d)=x.v:=by
 simp only[bH.aD,ay.aD,au.aD,List.map_cons,List.map_nil,List.cons_append,List.nil_append,List.map_append]
theorem bH.dn(x:bH):x.enc.length=11:=by
 simp only[bH.aD,ay.dn,List.length_append,List.length_cons,List.length_nil]
def bH.sz(x:bH):Nat:=cu x.enc
theorem bH.dZ(x:bH):cu x.enc=x.sz:=rfl
structure aQ where
 bL:List UInt8
 aA:List (List UInt8)
 bM:au
 bn:List aO
 gy:Bool
 dW:Bool
 bK:au
 aL:List bH
def aQ.enc(x:aQ):List D:=[.s x.bL,.sl (x.aA.map encS)]++(x.bM.enc++([.sl (x.bn.map aO.enc),.b x.gy,.b x.dW]++(x.bK.enc++([.sl (x.aL.map bH.enc)]))))
theorem aQ.aD(x:aQ):x.enc=[.s x.bL,.sl (x.aA.map encS)]++(x.bM.enc++([.sl (x.bn.map aO.enc),.b x.gy,.b x.dW]++(x.bK.enc++([.sl (x.aL.map bH.enc)])))):=rfl
theorem aQ.eta(x:aQ):aQ.mk x.bL x.aA x.bM x.bn x.gy x.dW x.bK x.aL=x:=rfl
theorem aQ.ext'{x y:aQ}(h0:x.bL=y.bL)(h1:x.aA=y.aA)(h2:x.bM=y.bM)(h3:x.bn=y.bn)(h4:x.gy=y.gy)(h5:x.dW=y.dW)(h6:x.bK=y.bK)(h7:x.aL=y.aL):x=y:=by
 cases x;cases y;simp_all
abbrev aQ.v (x:aQ):V:=.agg [.d (.s x.bL),.d (.sl (x.aA.map encS)),.d (.i .i64 x.bM.aK),.d (.s x.bM.fName),.d (.sl (x.bM.fArgs.map au.enc)),.d (.sl (x.bn.map aO.enc)),.d (.b x.gy),.d (.b x.dW),.d (.i .i64 x.bK.aK),.d (.s x.bK.fName),.d (.sl (x.bK.fArgs.map au.enc)),.d (.sl (x.aL.map bH.enc))]
theorem aQ.tY(x:aQ): .agg (x.enc.map .d)=x.v:=by
 simp only[aQ.aD,au.aD,List.map_cons,List.map_nil,List.cons_append,List.nil_append,List.map_append]
theorem aQ.dn(x:aQ):x.enc.length=12:=by
 simp only[aQ.aD,au.dn,List.length_append,List.length_cons,List.length_nil]
def aQ.sz(x:aQ):Nat:=cu x.enc
theorem aQ.dZ(x:aQ):cu x.enc=x.sz:=rfl
structure bg where
 fName:List UInt8
 fType:au
def bg.enc(x:bg):List D:=[.s x.fName]++(x.fType.enc)
theorem bg.aD(x:bg):x.enc=[.s x.fName]++(x.fType.enc):=rfl
theorem bg.eta(x:bg):bg.mk x.fName x.fType=x:=rfl
theorem bg.ext'{x y:bg}(h0:x.fName=y.fName)(h1:x.fType=y.fType):x=y:=by
 cases x;cases y;simp_all
abbrev bg.v (x:bg):V:=.agg [.d (.s x.fName),.d (.i .i64 x.fType.aK),.d (.s x.fType.fName),.d (.sl (x.fType.fArgs.map au.enc))]
theorem bg.tY(x:bg): .agg (x.enc.map .d)=x.v:=by
 simp only[bg.aD,au.aD,List.map_cons,List.map_nil,List.cons_append,List.nil_append,List.map_append]
theorem bg.dn(x:bg):x.enc.length=4:=by
 simp only[bg.aD,au.dn,List.length_append,List.length_cons,List.length_nil]
def bg.sz(x:bg):Nat:=cu x.enc
theorem bg.dZ(x:bg):cu x.enc=x.sz:=rfl
structure aY where
 fName:List UInt8
 aA:List (List UInt8)
 bn:List aO
 aJ:List bg
 aU:au
 fBody:ay
def aY.enc(x:aY):List D:=[.s x.fName,.sl (x.aA.map encS),.sl (x.bn.map aO.enc),.sl (x.aJ.map bg.enc)]++(x.aU.enc++(x.fBody.enc))
theorem aY.aD(x:aY):x.enc=[.s x.fName,.sl (x.aA.map encS),.sl (x.bn.map aO.enc),.sl (x.aJ.map bg.enc)]++(x.aU.enc++(x.fBody.enc)):=rfl
theorem aY.eta(x:aY):aY.mk x.fName x.aA x.bn x.aJ x.aU x.fBody=x:=rfl
theorem aY.ext'{x y:aY}(h0:x.fName=y.fName)(h1:x.aA=y.aA)(h2:x.bn=y.bn)(h3:x.aJ=y.aJ)(h4:x.aU=y.aU)(h5:x.fBody=y.fBody):x=y:=by
 cases x;cases y;simp_all
abbrev aY.v (x:aY):V:=.agg [.d (.s x.fName),.d (.sl (x.aA.map encS)),.d (.sl (x.bn.map aO.enc)),.d (.sl (x.aJ.map bg.enc)),.d (.i .i64 x.aU.aK),.d (.s x.aU.fName),.d (.sl (x.aU.fArgs.map au.enc)),.d (.i .i64 x.fBody.aK),.d (.s x.fBody.bL),.d (.s x.fBody.fName),.d (.i .i64 x.fBody.fN),.d (.i .i64 x.fBody.fType.aK),.d (.s x.fBody.fType.fName),.d (.sl (x.fBody.fType.fArgs.map au.enc)),.d (.sl (x.fBody.fArgs.map ay.enc)),.d (.sl (x.fBody.aP.map aR.enc))]
theorem aY.tY(x:aY): .agg (x.enc.map .d)=x.v:=by
 simp only[aY.aD,ay.aD,au.aD,List.map_cons,List.map_nil,List.cons_append,List.nil_append,List.map_append]
theorem aY.dn(x:aY):x.enc.length=16:=by
 simp only[aY.aD,ay.dn,au.dn,List.length_append,List.length_cons,List.length_nil]
def aY.sz(x:aY):Nat:=cu x.enc
theorem aY.dZ(x:aY):cu x.enc=x.sz:=rfl
structure bB where
 fName:List UInt8
 fU:List (List UInt8)
 dz:List bC
 aX:List aS
 dx:List aQ
 cZ:List aY
def bB.enc(x:bB):List D:=[.s x.fName,.sl (x.fU.map encS),.sl (x.dz.map bC.enc),.sl (x.aX.map aS.enc),.sl (x.dx.map aQ.enc),.sl (x.cZ.map aY.enc)]
theorem bB.aD(x:bB):x.enc=[.s x.fName,.sl (x.fU.map encS),.sl (x.dz.map bC.enc),.sl (x.aX.map aS.enc),.sl (x.dx.map aQ.enc),.sl (x.cZ.map aY.enc)]:=rfl
theorem bB.eta(x:bB):bB.mk x.fName x.fU x.dz x.aX x.dx x.cZ=x:=rfl
theorem bB.ext'{x y:bB}(h0:x.fName=y.fName)(h1:x.fU=y.fU)(h2:x.dz=y.dz)(h3:x.aX=y.aX)(h4:x.dx=y.dx)(h5:x.cZ=y.cZ):x=y:=by
 cases x;cases y;simp_all
abbrev bB.v (x:bB):V:=.agg [.d (.s x.fName),.d (.sl (x.fU.map encS)),.d (.sl (x.dz.map bC.enc)),.d (.sl (x.aX.map aS.enc)),.d (.sl (x.dx.map aQ.enc)),.d (.sl (x.cZ.map aY.enc))]
theorem bB.tY(x:bB): .agg (x.enc.map .d)=x.v:=by
 simp only[bB.aD,List.map_cons,List.map_nil,List.cons_append,List.nil_append,List.map_append]
theorem bB.dn(x:bB):x.enc.length=6:=by
 simp only[bB.aD,List.length_append,List.length_cons,List.length_nil]
def bB.sz(x:bB):Nat:=cu x.enc
theorem bB.dZ(x:bB):cu x.enc=x.sz:=rfl
structure fV where
 rP:List bB
def fV.enc(x:fV):List D:=[.sl (x.rP.map bB.enc)]
theorem fV.aD(x:fV):x.enc=[.sl (x.rP.map bB.enc)]:=rfl
theorem fV.eta(x:fV):fV.mk x.rP=x:=rfl
theorem fV.ext'{x y:fV}(h0:x.rP=y.rP):x=y:=by
 cases x;cases y;simp_all
abbrev fV.v (x:fV):V:=.agg [.d (.sl (x.rP.map bB.enc))]
theorem fV.tY(x:fV): .agg (x.enc.map .d)=x.v:=by
 simp only[fV.aD,List.map_cons,List.map_nil,List.cons_append,List.nil_append,List.map_append]
theorem fV.dn(x:fV):x.enc.length=1:=by
 simp only[fV.aD,List.length_append,List.length_cons,List.length_nil]
def fV.sz(x:fV):Nat:=cu x.enc
theorem fV.dZ(x:fV):cu x.enc=x.sz:=rfl
structure eD where
 zo:Int
 V5:Int
def eD.enc(x:eD):List D:=[.i .i64 x.zo,.i .i64 x.V5]
theorem eD.aD(x:eD):x.enc=[.i .i64 x.zo,.i .i64 x.V5]:=rfl
theorem eD.eta(x:eD):eD.mk x.zo x.V5=x:=rfl
theorem eD.ext'{x y:eD}(h0:x.zo=y.zo)(h1:x.V5=y.V5):x=y:=by
 cases x;cases y;simp_all
abbrev eD.v (x:eD):V:=.agg [.d (.i .i64 x.zo),.d (.i .i64 x.V5)]
theorem eD.tY(x:eD): .agg (x.enc.map .d)=x.v:=by
 simp only[eD.aD,List.map_cons,List.map_nil,List.cons_append,List.nil_append,List.map_append]
theorem eD.dn(x:eD):x.enc.length=2:=by
 simp only[eD.aD,List.length_append,List.length_cons,List.length_nil]
def eD.sz(x:eD):Nat:=cu x.enc
theorem eD.dZ(x:eD):cu x.enc=x.sz:=rfl
attribute [go_sem] au.aD eH.aD aO.aD ay.aD aR.aD aj.aD aN.aD bC.aD aM.aD aS.aD bH.aD aQ.aD bg.aD aY.aD bB.aD fV.aD eD.aD encS encI
end Go.Ab
namespace Go.Ab
def V6:List eH→List UInt8→Option au
 |[],_=>none
 |b::bs,v=>if b.fVar=v then some b.fType else V6 bs v
mutual
noncomputable def Ch(s:List eH):au→au→Option (List eH)
 | .mk k n a,t=>
   if k=1 then
    match V6 s n with
    |some u=>if dec (u=t)=true then some s else none
    |none=>some (s++[⟨n,t⟩])
   else if k=t.aK∧n=t.fName∧a.length=t.fArgs.length then wT s a t.fArgs else none
noncomputable def wT(s:List eH):List au→List au→Option (List eH)
 |[],_=>some s
 |_::_,[]=>none
 |p::ps,t::ts=>
  match Ch s p t with
  |some s'=>wT s' ps ts
  |none=>none
end
mutual
def au.cnt:au→Nat
 | .mk _ _ a=>1+au.eG a
def au.eG:List au→Nat
 |[]=>0
 |t::ts=>t.cnt+au.eG ts
end
theorem au.qC(t:au):t.cnt=1+au.eG t.fArgs:=by cases t;rw[au.cnt];rfl
mutual
theorem mh:∀t:au,t.cnt≤1+t.sz
 | .mk k n a=>by
   have h:=xS a
   rw[au.cnt]
   have e:(au.mk k n a).sz=n.length+(a.length+bD (a.map au.enc)):=by
    simp only[au.sz,au.aD,cu,D.sz,List.length_map,au.fName,au.fArgs,Nat.add_zero,Nat.zero_add]
   omega
theorem xS:∀ts:List au,au.eG ts≤ts.length+bD (ts.map au.enc)
 |[]=>by simp[au.eG]
 |t::ts=>by
  have h1:=mh t
  have h2:=xS ts
  rw[au.eG,List.length_cons,List.map_cons,bD,au.dZ]
  omega
end
mutual
theorem X9:∀(p:au) (s:List eH) (t:au) (s':List eH),Ch s p t=some s'→s'.length≤s.length+p.cnt
 | .mk k n a,s,t,s',h=>by
   rw[Ch] at h
   rw[au.cnt]
   split at h
   ·split at h
    ·split at h
     ·cases h;omega
     ·cases h
    ·cases h;simp
   ·split at h
    ·have:=Le a s t.fArgs s' h;omega
    ·cases h
theorem Le:∀(ps:List au) (s:List eH) (ts:List au) (s':List eH),wT s ps ts=some s'→s'.length≤s.length+au.eG ps
 |[],s,ts,s',h=>by rw[wT] at h;cases h;omega
 |p::ps,s,[],s',h=>by rw[wT] at h;cases h
 |p::ps,s,t::ts,s',h=>by
  rw[wT] at h
  rw[au.eG]
  cases hm:Ch s p t with
  |none=>rw[hm] at h;cases h
  |some s1=>
   rw[hm] at h
   have h1:=X9 p s t s1 hm
   have h2:=Le ps s1 ts s' h
   omega
end
def Small(s:List eH):Prop:=∀b∈s,b.fType.sz≤4194304
mutual
theorem RY:∀(p:au) (s:List eH) (t:au) (s':List eH),t.sz≤4194304→Small s→Ch s p t=some s'→Small s'
 | .mk k n a,s,t,s',ht,hs,h=>by
   rw[Ch] at h
   split at h
   ·split at h
    ·split at h
     ·cases h;exact hs
     ·cases h
    ·cases h
     intro b hb
     rcases List.mem_append.1 hb with hb|hb
     ·exact hs b hb
     ·simp at hb;subst hb;exact ht
   ·split at h
    ·refine GL a s t.fArgs s' ?_ hs h
     intro x hx
     have h1:=dA (List.mem_map_of_mem (f:=au.enc) hx)
     have h2:t.sz=t.fName.length+(t.fArgs.length+bD (t.fArgs.map au.enc)):=by
      simp only[au.sz,au.aD,cu,bN,D.sz,List.length_map,Nat.add_zero,Nat.zero_add]
     rw[au.dZ] at h1
     omega
    ·cases h
theorem GL:∀(ps:List au) (s:List eH) (ts:List au) (s':List eH),(∀t∈ts,t.sz≤4194304)→Small s→wT s ps ts=some s'→Small s'
 |[],s,ts,s',ht,hs,h=>by rw[wT] at h;cases h;exact hs
 |p::ps,s,[],s',ht,hs,h=>by rw[wT] at h;cases h
 |p::ps,s,t::ts,s',ht,hs,h=>by
  rw[wT] at h
  cases hm:Ch s p t with
  |none=>rw[hm] at h;cases h
  |some s1=>
   rw[hm] at h
   exact GL ps s1 ts s' (fun x hx=>ht x (by simp[hx])) (RY p s t s1 (ht t (by simp)) hs hm) h
end
end Go.Ab
namespace Go.Ab
def lowerB(b:UInt8):Prop:=97≤b.toNat∧b.toNat≤122
def rQ(b:UInt8):Prop:=48≤b.toNat∧b.toNat≤57
def RZ(s:List UInt8):Prop:=∀i,i<s.length→lowerB (s.getD i 0)∨(i≠0∧rQ (s.getD i 0))
def reserved:List (List UInt8):=[[105,110,116],[98,111,111,108],[97,115,115,111,99],[100,121,110],[105,102],[108,101,116],[99,97,115,101],[110,101,119],[109,101,116,104,111,100],[112,97,99,107],[116,114,117,101],[102,97,108,115,101]]
noncomputable def validName(s:List UInt8):Bool:=dec ((1≤s.length∧s.length≤8)∧s∉reserved∧RZ s)
noncomputable def xE(s:List UInt8):Bool:=dec (s=[105,110,116]∨s=[98,111,111,108])
noncomputable def wU(xs:List (List UInt8))(s:List UInt8):Int:=if s∈xs then((xs.findIdx fun x=>dec (x=s):Nat):Int) else -1
theorem UY{xs:List (List UInt8)}{s:List UInt8}{i:Nat}(hi:i<xs.length)(hj:∀j,j<i→xs.getD j []≠s)(h:xs.getD i []=s):wU xs s=i:=by
 have e:∀j,∀hj:j<xs.length,xs.getD j []=xs[j]:=fun j hj=>by simp[List.getD,hj]
 have hm:s∈xs:=by rw[←h,e i hi];exact List.getElem_mem hi
 unfold wU
 rw[if_pos hm]
 congr 1
 rw[List.findIdx_eq hi]
 exact⟨bA (by rw[←e i hi];exact h),fun j hji=>aF (by rw[←e j (by omega)];exact hj j hji)⟩
theorem aap{xs:List (List UInt8)}{s:List UInt8}(hj:∀j,j<xs.length→xs.getD j []≠s):wU xs s= -1:=by
 unfold wU
 refine if_neg fun hm=> ?_
 obtain⟨j,h1,h2⟩:=List.getElem_of_mem hm
 exact hj j h1 (by simp[List.getD,h1,h2])
theorem Lf{xs:List (List UInt8)}{s:List UInt8}:decide (wU xs s≥0)=dec (s∈xs):=by
 rw[jY]
 refine iq ?_
 unfold wU
 split
 ·rename_i h;exact⟨fun _=>h,fun _=>by omega⟩
 ·rename_i h;exact⟨fun x=>by omega,fun x=>absurd x h⟩
def sS{α:Type}(p:α→Bool)(xs:List α):Int:=if xs.any p then((xs.findIdx p:Nat):Int) else -1
theorem sj{α:Type}{p:α→Bool}{xs:List α}{i:Nat}(hi:i<xs.length)(hj:∀j,∀hj:j<xs.length,j<i→p xs[j]=false)(h:p xs[i]=true):sS p xs=i:=by
 unfold sS
 rw[if_pos (List.any_eq_true.2 ⟨xs[i],List.getElem_mem hi,h⟩)]
 congr 1
 rw[List.findIdx_eq hi]
 exact⟨h,fun j hji=>hj j (by omega) hji⟩
theorem vK{α:Type}{p:α→Bool}{xs:List α}(hj:∀j,∀hj:j<xs.length,p xs[j]=false):sS p xs= -1:=by
 unfold sS
 refine if_neg fun h=> ?_
 obtain⟨x,hx,hp⟩:=List.any_eq_true.1 h
 obtain⟨j,h1,h2⟩:=List.getElem_of_mem hx
 rw[←h2,hj j h1] at hp
 cases hp
theorem tZ{α:Type}{p:α→Bool}{xs:List α}:decide (sS p xs≥0)=xs.any p:=by
 unfold sS
 cases h:xs.any p with
 |true=>simp
 |false=>simp
noncomputable def Bq(k:Int)(n:List UInt8)(len:Nat):Bool:=
 dec ((k=1∨k=4)∧validName n=true∧len=0∨k=3∧validName n=true∧len=1∨k=2∧(validName n=true∧len≤3∨xE n=true∧len=0))
mutual
noncomputable def formed:au→Bool
 | .mk k n a=>Bq k n a.length&&iZ a
noncomputable def iZ:List au→Bool
 |[]=>true
 |t::ts=>formed t&&iZ ts
end
theorem xU(t:au):formed t=(Bq t.aK t.fName t.fArgs.length&&iZ t.fArgs):=by cases t;rw[formed];rfl
theorem wV:∀{ts:List au},iZ ts=true↔∀t∈ts,formed t=true
 |[]=>by simp[iZ]
 |t::ts=>by simp[iZ,wV (ts:=ts)]
theorem Jo:∀{ts:List au},(ts.any fun t=> !formed t)= !iZ ts
 |[]=>rfl
 |t::ts=>by rw[List.any_cons,Jo (ts:=ts),iZ];simp
mutual
def nI:au→Nat
 | .mk _ _ a=>depths a
def depths:List au→Nat
 |[]=>0
 |t::ts=>max (nI t+1) (depths ts)
end
theorem OC(t:au):nI t=depths t.fArgs:=by cases t;rw[nI];rfl
mutual
theorem Ai:∀t:au,nI t+1≤t.cnt
 | .mk k n a=>by
   have:=OD a
   rw[nI,au.cnt];omega
theorem OD:∀ts:List au,depths ts≤au.eG ts
 |[]=>by simp[depths]
 |t::ts=>by
  have h1:=Ai t
  have h2:=OD ts
  rw[depths,au.eG]
  omega
end
noncomputable def oh(t:au):Bool:=dec (formed t=true∧nI t≤6∧t.cnt≤60)
end Go.Ab
namespace Go.Ab
def bT(s:List UInt8):aj:=.mk s []
def bY(l:List aj):aj:=.mk [] l
def aV(l:List (List UInt8)):List aj:=l.map bT
def dB:aj:=.mk [] []
theorem kG(s:List UInt8):(bT s).bf=s:=rfl
theorem kH(s:List UInt8):(bT s).ah=[]:=rfl
theorem eu(l:List aj):(bY l).bf=[]:=rfl
theorem dJ(l:List aj):(bY l).ah=l:=rfl
def Fh:List UInt8:=[100,121,110]
def iO:List UInt8:=[97,115,115,111,99]
mutual
def dw:au→aj
 | .mk k n zs=>if k=1 then bT ([39]++n) else if k=4 then bY [bT Fh,bT n] else if k=2∧zs.length=0 then bT n else
   bY ((if k=3 then [bT iO] else [])++[bT n]++Ci zs)
def Ci:List au→List aj
 |[]=>[]
 |t::ts=>dw t::Ci ts
end
theorem vL:∀l,Ci l=l.map dw
 |[]=>rfl
 |t::ts=>by rw[Ci,List.map_cons,vL ts]
theorem aaq(x:au):dw x=if x.aK=1 then bT ([39]++x.fName) else if x.aK=4 then bY [bT Fh,bT x.fName] else if x.aK=2∧x.fArgs.length=0 then bT x.fName else
 bY ((if x.aK=3 then [bT iO] else [])++[bT x.fName]++x.fArgs.map dw):=by
 cases x;rw[dw,vL];rfl
theorem vM{t:au}(h:oh t=true):formed t=true:=(gH h).1
theorem kI(x:aj):x.sz=x.bf.length+(x.ah.length+bD (x.ah.map aj.enc)):=by
 simp only[aj.sz,aj.aD,cu,D.sz,List.length_map];omega
def dQ:List aj→Nat
 |[]=>0
 |x::xs=>x.sz+dQ xs
theorem mI:∀l,bD (l.map aj.enc)=dQ l
 |[]=>rfl
 |x::xs=>by rw[List.map_cons,bD,dQ,mI xs];rfl
theorem kZ:∀a b,dQ (a++b)=dQ a+dQ b
 |[],b=>by simp[dQ]
 |x::a,b=>by rw[List.cons_append,dQ,dQ,kZ a b];omega
theorem iK{x:aj}:∀{l:List aj},x∈l→x.sz≤dQ l
 |y::l,h=>by
  rw[dQ]
  rcases List.mem_cons.1 h with rfl|h
  ·omega
  ·have:=iK h;omega
theorem kr(s:List UInt8):(bT s).sz=s.length:=by rw[kI];simp[bT,aj.bf,aj.ah,bD]
theorem ku(l:List aj):(bY l).sz=l.length+dQ l:=by rw[kI,mI];simp[bY,aj.bf,aj.ah]
theorem rR:∀l:List (List UInt8),dQ (aV l)=(l.map List.length).sum
 |[]=>rfl
 |s::l=>by rw[aV,List.map_cons,dQ,kr,←aV,rR l,List.map_cons,List.sum_cons]
theorem jH(l:List (List UInt8)):(aV l).length=l.length:=by simp[aV]
theorem dN:∀l:List (List UInt8),bD (l.map encS)=(l.map List.length).sum
 |[]=>rfl
 |s::l=>by rw[List.map_cons,bD,dN l,List.map_cons,List.sum_cons];simp[encS,cu,D.sz]
def tC:List au→Nat
 |[]=>0
 |x::xs=>x.sz+tC xs
theorem zq:∀l,bD (l.map au.enc)=tC l
 |[]=>rfl
 |x::xs=>by rw[List.map_cons,bD,tC,zq xs];rfl
theorem vN(x:au):x.sz=x.fName.length+(x.fArgs.length+tC x.fArgs):=by
 rw[←zq];simp only[au.sz,au.aD,cu,D.sz,List.length_map];omega
mutual
theorem Aj:∀x:au,(dw x).sz≤12+16*x.sz
 | .mk k n zs=>by
   have h:=Nr zs
   rw[vN]
   simp only[au.fName,au.fArgs]
   rw[dw]
   split
   ·rw[kr];simp;omega
   ·split
    ·rw[ku];simp[dQ,kr,Fh];omega
    ·split
     ·rw[kr];omega
     ·rw[ku,kZ,kZ,List.length_append,List.length_append,vL,List.length_map,←vL]
      split<;>simp[dQ,kr,iO]<;>omega
theorem Nr:∀xs:List au,dQ (Ci xs)≤12*xs.length+16*tC xs
 |[]=>by simp[Ci,dQ]
 |x::xs=>by
  have h1:=Aj x
  have h2:=Nr xs
  rw[Ci,dQ,tC,List.length_cons];omega
end
theorem Lg(xs:List au):dQ (xs.map dw)≤12*xs.length+16*tC xs:=by rw[←vL];exact Nr xs
def lH(b:UInt8):Bool:=decide (97≤b.toNat∧b.toNat≤122)||decide (48≤b.toNat∧b.toNat≤57)||decide (b∈([39,45,43,42,60,61,46]:List UInt8))
def validAtom(s:List UInt8):Bool:=s.all lH&&decide (1≤s.length∧s.length≤12)
mutual
def jJ:aj→Bool
 | .mk a l=>if a=[] then kJ l else validAtom a&&decide (l.length=0)
def kJ:List aj→Bool
 |[]=>true
 |x::xs=>jJ x&&kJ xs
end
mutual
def nJ:aj→Nat
 | .mk a l=>if a=[] then qW l+1 else 0
def qW:List aj→Nat
 |[]=>0
 |x::xs=>max (nJ x) (qW xs)
end
mutual
def mH:aj→Nat
 | .mk _ l=>pK l+1
def pK:List aj→Nat
 |[]=>0
 |x::xs=>mH x+pK xs
end
theorem Cj(x:aj):jJ x=if x.bf=[] then kJ x.ah else validAtom x.bf&&decide (x.ah.length=0):=by cases x;rw[jJ];rfl
theorem OE(x:aj):nJ x=if x.bf=[] then qW x.ah+1 else 0:=by cases x;rw[nJ];rfl
theorem R3(x:aj):mH x=pK x.ah+1:=by cases x;rw[mH];rfl
theorem Lh:∀{l:List aj},(l.any fun t=> !jJ t)= !kJ l
 |[]=>rfl
 |t::ts=>by rw[List.any_cons,Lh (l:=ts),kJ];simp
theorem Br:∀{l:List aj},kJ l=true↔∀t∈l,jJ t=true
 |[]=>by simp[kJ]
 |t::ts=>by simp[kJ,Br (l:=ts)]
mutual
theorem DL:∀x:aj,nJ x≤mH x
 | .mk a l=>by
   have:=GN l
   rw[nJ,mH];split<;>omega
theorem GN:∀l:List aj,qW l≤pK l
 |[]=>by simp[qW]
 |x::xs=>by
  have h1:=DL x
  have h2:=GN xs
  rw[qW,pK];omega
end
mutual
theorem R4:∀x:aj,mH x≤x.sz+1
 | .mk a l=>by
   have:=OG l
   rw[kI,mH,mI];simp only[aj.bf,aj.ah];omega
theorem OG:∀l:List aj,pK l≤l.length+dQ l
 |[]=>by simp[pK]
 |x::xs=>by
  have h1:=R4 x
  have h2:=OG xs
  rw[pK,dQ,List.length_cons];omega
end
def iI(x:aj):Bool:=jJ x&&decide (nJ x≤14∧mH x≤900)
mutual
theorem R5:∀x:aj,jJ x=true→x.sz+1≤13*mH x
 | .mk a l=>fun h=>by
   rw[jJ] at h
   rw[kI,mH,mI]
   simp only[aj.bf,aj.ah]
   split at h
   ·rename_i ha
    have:=OH l h
    subst ha
    simp only[List.length_nil];omega
   ·rw[Bool.and_eq_true,decide_eq_true_eq] at h
    have h1:=h.1
    unfold validAtom at h1
    rw[Bool.and_eq_true,decide_eq_true_eq] at h1
    have:l=[]:=List.eq_nil_of_length_eq_zero h.2
    subst this
    simp[dQ];omega
theorem OH:∀l:List aj,kJ l=true→l.length+dQ l≤13*pK l
 |[],_=>by simp[dQ]
 |x::xs,h=>by
  rw[kJ,Bool.and_eq_true] at h
  have h1:=R5 x h.1
  have h2:=OH xs h.2
  rw[dQ,pK,List.length_cons];omega
end
theorem tF{x:aj}(h:iI x=true):x.sz≤11700:=by
 unfold iI at h
 rw[Bool.and_eq_true,decide_eq_true_eq] at h
 have:=R5 x h.1
 omega
def Ck(x:aj):aj:=if iI x=true then x else dB
def vO:Bool→aj→aj
 |true,x=>Ck x
 |false,_=>dB
theorem ahD(x:aj):(Ck x).sz≤11700:=by
 unfold Ck
 split
 ·rename_i h;exact tF h
 ·rw[kI];simp[dB,aj.bf,aj.ah,bD]
theorem IJ(b:Bool)(x:aj):(vO b x).sz≤11700:=by
 cases b with
 |true=>exact ahD x
 |false=>rw[vO,kI];simp[dB,aj.bf,aj.ah,bD]
end Go.Ab
namespace Go.Ab
def Ej(n:Nat):Key→Key
 |(0,j)=>(0,n+j)
 |(l+1,j)=>(l,j)
def C.mg(n:Nat):C→C
 | .d x=>.d x
 | .any=>.any
 | .bS k es=>.bS (Ej n k) es
 | .bO es=>.bO es
 | .ptr k off=>.ptr (Ej n k) off
 | .ny cs=>.ny cs
 | .ou k i off=>.ou (Ej n k) i off
 | .og k=>.og (Ej n k)
 | .fn f caps=>.fn f (caps.map fun x=>(Ej n x.1,x.2))
 | .mp k=>.mp (Ej n k)
 | .kW m es=>.kW m es
 | .xp k r p=>.xp (Ej n k) r p
 | .xq k r p z i off=>.xq (Ej n k) r p z i off
def V.mg(n:Nat):V→V
 | .c x=>.c (x.mg n)
 | .agg cs=>.agg (cs.map (C.mg n))
 | .dY xs=>.dY (xs.map fun y=>(y.1,y.2.map (C.mg n)))
 | .any=>.any
def Obj.mg(n:Nat):Obj→Obj
 | .box cs=>.box (cs.map (C.mg n))
 |o=>o
section
variable {P:Program} {w:World} {σ:Nat→Nat} {own bZ:List Obj} {Ω:Store} {bo rT:List Value} {bΩ:Hs}
theorem Ns{n:Nat}{o:Obj}{h:Value}{b:Nat}:owns (o.mg n) h b↔owns o h b:=by
 cases o with
 |box cs=>
  cases h with
  |pointer a=>cases a<;>exact Iff.rfl
  |_=>exact Iff.rfl
 |_=>exact Iff.rfl
theorem Da{k:Key}{o:Obj}(h:bI (own::bZ::Ω) k=some o):
 bI ((bZ++own.map (Obj.mg bZ.length))::Ω) (Ej bZ.length k)=some (if k.1=0 then o.mg bZ.length else o):=by
 obtain⟨l,j⟩:=k
 cases l with
 |zero=>
  rw[cO] at h
  show bI _ (0,bZ.length+j)=_
  rw[cO,List.getElem?_append_right (by omega),show bZ.length+j-bZ.length=j by omega,List.getElem?_map,h]
  rfl
 |succ l=>
  rw[dD] at h
  show bI _ (l,j)=some o
  cases l with
  |zero=>
   rw[cO] at h ⊢
   rw[List.getElem?_append_left (List.getElem?_eq_some_iff.1 h).1]
   exact h
  |succ l=>rw[dD] at h ⊢;exact h
theorem Db(hl:rT.length=bZ.length){k:Key}{h:Value}(e:bI (bo::rT::bΩ) k=some h):bI ((rT++bo)::bΩ) (Ej bZ.length k)=some h:=by
 obtain⟨l,j⟩:=k
 cases l with
 |zero=>
  rw[cO] at e
  show bI _ (0,bZ.length+j)=_
  rw[cO,List.getElem?_append_right (by omega),show bZ.length+j-rT.length=j by omega,e]
 |succ l=>
  rw[dD] at e
  show bI _ (l,j)=some h
  cases l with
  |zero=>
   rw[cO] at e ⊢
   rw[List.getElem?_append_left (List.getElem?_eq_some_iff.1 e).1]
   exact e
  |succ l=>rw[dD] at e ⊢;exact e
theorem IK(hl:rT.length=bZ.length)(hlo:bo.length=own.length){k:Key}{o:Obj}(h:bI ((bZ++own.map (Obj.mg bZ.length))::Ω) k=some o):
 ∃k0 o0,Ej bZ.length k0=k∧bI (own::bZ::Ω) k0=some o0∧o=(if k0.1=0 then o0.mg bZ.length else o0)∧bI ((rT++bo)::bΩ) k=bI (bo::rT::bΩ) k0:=by
 obtain⟨l,j⟩:=k
 cases l with
 |zero=>
  rw[cO] at h
  by_cases hj:j<bZ.length
  ·rw[List.getElem?_append_left hj] at h
   refine⟨(1,j),o,rfl,by rw[dD,cO];exact h,rfl,?_⟩
   rw[cO,dD,cO,List.getElem?_append_left (by omega)]
  ·rw[List.getElem?_append_right (by omega),List.getElem?_map] at h
   cases hx:own[j-bZ.length]? with
   |none=>rw[hx] at h;cases h
   |some x=>
    rw[hx] at h;cases h
    refine⟨(0,j-bZ.length),x,?_,by rw[cO];exact hx,rfl,?_⟩
    ·show(0,bZ.length+(j-bZ.length))=(0,j)
     rw[show bZ.length+(j-bZ.length)=j by omega]
    ·rw[cO,cO,List.getElem?_append_right (by omega),hl]
 |succ l=>
  rw[dD] at h
  exact⟨(l+2,j),o,rfl,by rw[dD,dD];exact h,rfl,by rw[dD,dD,dD]⟩
theorem xV{n:Nat}{k:Key}{o:Obj}:(∀bE es,tK (if k.1=0 then o.mg n else o) bE es→tK o bE es)∧(∀bE es,(if k.1=0 then o.mg n else o)=.iH bE es→o=.iH bE es)∧
 (∀m,(if k.1=0 then o.mg n else o)=.mp m→o=.mp m)∧(∀cs,(if k.1=0 then o.mg n else o)=.box cs→∃cs',o=.box cs')∧(∀rs,(if k.1=0 then o.mg n else o)=.xf rs→o=.xf rs):=by
 by_cases e:k.1=0
 ·simp only[if_pos e]
  cases o<;>simp[Obj.mg,tK]
 ·simp only[if_neg e]
  exact⟨fun _ _ h=>h,fun _ _ h=>h,fun _ h=>h,fun cs h=>⟨cs,h⟩,fun _ h=>h⟩
theorem adj(hl:rT.length=bZ.length){c:C}{v:Value}(h:jf w σ (own::bZ::Ω) (bo::rT::bΩ) c v):
 jf w σ ((bZ++own.map (Obj.mg bZ.length))::Ω) ((rT++bo)::bΩ) (c.mg bZ.length) v:=by
 cases c with
 |d x=>exact h
 |any=>exact trivial
 |bO es=>exact h
 |ny cs=>exact h
 |kW m es=>exact h
 |xp k r p=>
  obtain⟨o,ho,h2⟩:=h
  refine⟨_,Da ho,fun rs e=> ?_⟩
  obtain⟨hh,q1,q2⟩:=h2 rs (xV.2.2.2.2 _ e)
  exact⟨hh,Db hl q1,q2⟩
 |xq k r p z i off=>
  obtain⟨o,ho,h2⟩:=h
  refine⟨_,Da ho,fun rs e=> ?_⟩
  obtain⟨hh,b,a,n,cap,q1,q2⟩:=h2 rs (xV.2.2.2.2 _ e)
  exact⟨hh,b,a,n,cap,Db hl q1,q2⟩
 |bS k es=>
  obtain⟨h1,o,ho,h2⟩:=h
  refine⟨h1,_,Da ho,fun bE es' e=> ?_⟩
  obtain⟨q1,q2⟩:=h2 bE es' (xV.1 _ _ e)
  exact⟨q1,fun e'=>Db hl (q2 e')⟩
 |ptr k off=>
  obtain⟨o,ho,h2⟩:=h
  refine⟨_,Da ho,fun cs e=> ?_⟩
  obtain⟨cs',e'⟩:=xV.2.2.2.1 _ e
  obtain⟨b,q1,q2⟩:=h2 cs' e'
  exact⟨b,Db hl q1,q2⟩
 |ou k i off=>
  obtain⟨o,ho,h2⟩:=h
  refine⟨_,Da ho,fun bE es e=> ?_⟩
  obtain⟨b,n,cap,q1,q2⟩:=h2 bE es (xV.2.1 _ _ e)
  exact⟨b,n,cap,Db hl q1,q2⟩
 |og k=>
  obtain⟨o,ho,h2⟩:=h
  exact⟨_,Da ho,fun bE es e=>Db hl (h2 bE es (xV.2.1 _ _ e))⟩
 |mp k=>
  obtain⟨o,ho,h2⟩:=h
  exact⟨_,Da ho,fun m e=>Db hl (h2 m (xV.2.2.1 _ e))⟩
 |fn f caps=>
  obtain⟨vs,e,hsz,hc⟩:=h
  refine⟨vs,e,by rw[hsz,List.length_map],fun j k off hj=> ?_⟩
  rw[List.getElem?_map] at hj
  cases hx:caps[j]? with
  |none=>rw[hx] at hj;cases hj
  |some y=>
   rw[hx] at hj
   injection hj with hj
   injection hj with e1 e2
   obtain⟨u,q1,q2,o,q3,q4⟩:=hc j y.1 y.2 hx
   refine⟨u,q1,q2,_,by rw[←e1];exact Da q3,fun cs e=> ?_⟩
   obtain⟨cs',e'⟩:=xV.2.2.2.1 _ e
   obtain⟨b,q5,q6⟩:=q4 cs' e'
   exact⟨b,by rw[←e1];exact Db hl q5,by rw[←e2];exact q6⟩
theorem Ya(hl:rT.length=bZ.length){cs:List C}{vs:List Value}(h:gK w σ (own::bZ::Ω) (bo::rT::bΩ) cs vs):
 gK w σ ((bZ++own.map (Obj.mg bZ.length))::Ω) ((rT++bo)::bΩ) (cs.map (C.mg bZ.length)) vs:=by
 refine⟨by rw[List.length_map];exact h.1,fun j x hj=> ?_⟩
 rw[List.getElem?_map] at hj
 cases hx:cs[j]? with
 |none=>rw[hx] at hj;cases hj
 |some y=>
  rw[hx] at hj;cases hj
  obtain⟨v,h1,h2,h3⟩:=h.2 j y hx
  exact⟨v,h1,adj hl h2,h3⟩
theorem aku(hl:rT.length=bZ.length){x:V}{v:Value}(h:dV w σ (own::bZ::Ω) (bo::rT::bΩ) x v):
 dV w σ ((bZ++own.map (Obj.mg bZ.length))::Ω) ((rT++bo)::bΩ) (x.mg bZ.length) v:=by
 cases x with
 |c x=>exact⟨adj hl h.1,h.2⟩
 |agg cs=>obtain⟨a,ha,hc⟩:=h;exact⟨a,ha,Ya hl hc⟩
 |any=>exact trivial
 |dY xs=>
  obtain⟨a,ha,hlen,hc⟩:=h
  refine⟨a,ha,by rw[List.length_map];exact hlen,fun j y hj=> ?_⟩
  rw[List.getElem?_map] at hj
  cases hx:xs[j]? with
  |none=>rw[hx] at hj;cases hj
  |some z=>
   rw[hx] at hj;cases hj
   obtain⟨u,hu,hr⟩:=hc j z hx
   refine⟨u,hu,?_⟩
   obtain⟨b,cs⟩:=z
   cases b with
   |true=>obtain⟨a',e,hcs⟩:=hr;exact⟨a',e,Ya hl hcs⟩
   |false=>obtain⟨x1,e,hx1,ho⟩:=hr;subst e;exact⟨_,rfl,adj hl hx1,ho⟩
theorem V7(hl:rT.length=bZ.length):Keep (bZ::Ω) (rT::bΩ) ((bZ++own.map (Obj.mg bZ.length))::Ω) ((rT++bo)::bΩ):=by
 rintro⟨l,j⟩ o h
 cases l with
 |zero=>
  rw[cO] at h
  have hj:=(List.getElem?_eq_some_iff.1 h).1
  refine⟨o,by rw[cO,List.getElem?_append_left hj];exact h,?_⟩
  rw[cO,cO,List.getElem?_append_left (by omega)]
  exact ni.refl _ _
 |succ l=>
  rw[dD] at h
  exact⟨o,by rw[dD];exact h,by rw[dD,dD];exact ni.refl _ _⟩
theorem akv(hS:fK w σ (own::bZ::Ω) (bo::rT::bΩ)):fK w σ ((bZ++own.map (Obj.mg bZ.length))::Ω) ((rT++bo)::bΩ):=by
 have hlo:bo.length=own.length:=by
  obtain⟨gr,h1,h2⟩:=hS.shape.2 0 own rfl
  simp at h1;rw[h1];exact h2
 have hl:rT.length=bZ.length:=by
  obtain⟨gr,h1,h2⟩:=hS.shape.2 1 bZ rfl
  simp at h1;rw[h1];exact h2
 have hn:gD w σ w σ:=gD.refl _ _
 refine⟨fun k o ho=> ?_,fun k k' o o' h h' b e1 e2 e3 e4 e5 e6=> ?_,⟨by have:=hS.shape.1;simpa using this,fun l fr hfr=> ?_⟩,hS.live,hS.uW⟩
 ·obtain⟨k0,o0,hk,ho0,rfl,hh⟩:=IK (bo:=bo) (bΩ:=bΩ) hl hlo ho
  obtain⟨h,h1,h2⟩:=hS.obj k0 o0 ho0
  refine⟨h,by rw[hh];exact h1,?_⟩
  obtain⟨l0,j0⟩:=k0
  cases l0 with
  |zero=>
   subst hk
   have h2:jm w σ (own::bZ::Ω) (bo::rT::bΩ) o0 h:=h2
   show jm w σ ((bZ++own.map (Obj.mg bZ.length))::Ω) ((rT++bo)::bΩ) (o0.mg bZ.length) h
   cases o0 with
   |box cs=>
    obtain⟨b,c,t,e,q1,q2,q3⟩:=h2
    exact⟨b,c,t,e,q1,q2,Ya hl q3⟩
   |dead=>exact trivial
   |tok bE es=>exact h2
   |iH bE es=>exact h2
   |mp m=>exact h2
   |fF n bE es=>exact h2
   |seed n=>exact trivial
   |xf rs=>exact h2
  |succ l0=>
   have hk':k=(l0,j0):=hk.symm
   subst hk'
   have h2:jm w σ ((bZ::Ω).drop l0) ((rT::bΩ).drop l0) o0 h:=h2
   exact h2.mono hn ((V7 hl).drop l0) fun _ _=>⟨rfl,rfl⟩
 ·obtain⟨k0,o0,hk,ho0,ho,hh⟩:=IK (bo:=bo) (bΩ:=bΩ) hl hlo e1
  obtain⟨k1,o1,hk1,ho1,ho',F6⟩:=IK (bo:=bo) (bΩ:=bΩ) hl hlo e4
  rw[hh] at e2
  rw[F6] at e5
  have b0:owns o0 h b:=by
   rw[ho] at e3
   split at e3
   ·rw[Ns] at e3;exact e3
   ·exact e3
  have b1:owns o1 h' b:=by
   rw[ho'] at e6
   split at e6
   ·rw[Ns] at e6;exact e6
   ·exact e6
  have:=hS.apart k0 k1 o0 o1 h h' b ho0 e2 b0 ho1 e5 b1
  rw[←hk,←hk1,this]
 ·cases l with
  |zero=>
   simp at hfr
   exact⟨_,rfl,by rw[←hfr];simp[hl,hlo]⟩
  |succ l=>exact hS.shape.2 (l+2) fr (by simpa using hfr)
theorem ahE(hS:fK w σ (own::bZ::Ω) (bo::rT::bΩ)){b:Nat}(h:Own ((bZ++own.map (Obj.mg bZ.length))::Ω) ((rT++bo)::bΩ) b):Own (own::bZ::Ω) (bo::rT::bΩ) b:=by
 have hlo:bo.length=own.length:=by
  obtain⟨gr,h1,h2⟩:=hS.shape.2 0 own rfl
  simp at h1;rw[h1];exact h2
 have hl:rT.length=bZ.length:=by
  obtain⟨gr,h1,h2⟩:=hS.shape.2 1 bZ rfl
  simp at h1;rw[h1];exact h2
 obtain⟨k,o,hv,e1,e2,e3⟩:=h
 obtain⟨k0,o0,hk,ho0,ho,hh⟩:=IK (bo:=bo) (bΩ:=bΩ) hl hlo e1
 rw[hh] at e2
 refine⟨k0,o0,hv,ho0,e2,?_⟩
 rw[ho] at e3
 split at e3
 ·rw[Ns] at e3;exact e3
 ·exact e3
end
def R6(P:Program)(rs:List ResultVar)(post:V→Store→Prop)(e:Exit)(s:St):Prop:=
 match e with
 | .normal| .ret=>(uY P rs s).1∧match s.st with
   |own::bZ::Ω=>post ((uY P rs s).2.mg bZ.length) ((bZ++own.map (Obj.mg bZ.length))::Ω)
   |_=>False
 |_=>False
section
variable {P:Program} {N:Nat} {s:St}
theorem OI{f:FuncId}{fn:Func}{c:Code}{args:List V}{bZ:List Obj}{Ω:Store}{post:V→Store→Prop}(hf:P.funcs[f]? =some fn)(hb:fn.body=some c)(hn:(fn.name== "runtime.NumGoroutine")=false)
 (hl:args.length≤fn.ntmps) (h:AW P fn.ntmps c (R6 P fn.results.toList post) ⟨rM (args.map (V.up 1)) 0,[]::bZ::Ω⟩):cB P f args (bZ::Ω) post:=by
 refine⟨⟨fn,hf,hn,by simp[hb]⟩,fun w σ β vs hS hargs=> ?_⟩
 refine calls_of_wp hf hb ?_
 have hlen:vs.length=args.length:=hargs.1.symm
 have abZ:lS fn.ntmps ⟨rM (args.map (V.up 1)) 0,[]::bZ::Ω⟩ {tmps:=vs.toArray++Array.replicate (fn.ntmps-vs.toArray.size) undef,defers:=[]} w σ ([]::β):=by
  refine⟨by simp;omega,rfl,hS.up1,fun t=> ?_⟩
  show dV w σ ([]::bZ::Ω) ([]::β) (look (rM (args.map (V.up 1)) 0) t) _
  rw[EU,if_pos (Nat.zero_le _),Nat.sub_zero,List.getElem?_map]
  cases ha:args[t]? with
  |none=>exact trivial
  |some x=>
   obtain⟨v,hv,hr⟩:=hargs.2 t x ha
   have ht:=(List.getElem?_eq_some_iff.1 hv).1
   have:(vs.toArray++Array.replicate (fn.ntmps-vs.toArray.size) undef).getD t undef=v:=by
    rw[Array.getD_eq_getD_getElem?,Array.getElem?_append_left (by simpa using ht)]
    simp[hv]
   rw[this]
   exact Na (S:=[]::bZ::Ω) (β:=[]::β) 1 hr
 refine wp_mono (h _ w σ ([]::β) abZ) ?_
 rintro e a' w' ⟨s',σ',β',hR,hst,hkp,hq⟩
 have main:((uY P fn.results.toList s').1∧match s'.st with
  |own::bZ::Ω=>post ((uY P fn.results.toList s').2.mg bZ.length) ((bZ++own.map (Obj.mg bZ.length))::Ω)
  |_=>False)→
   a'.defers=[]∧∃v,(results fn a'.tmps).run P w'=.ok v w'∧∃v_1 r S' σ' β',Ending.returned v=Ending.returned v_1∧fK w' σ' S' β'∧Keep (bZ::Ω) β S' β'∧Step (bZ::Ω) β σ w S' β' σ' w'∧dV w' σ' S' β' r v_1∧post r S':=by
  rintro⟨q1,q2⟩
  obtain⟨v,hv,hrep⟩:=Ov (fn:=fn) hR q1
  obtain⟨tm,st⟩:=s'
  simp only at q2
  split at q2
  ·rename_i own Yb Ω1
   obtain⟨bo,bΩ',rfl,hlo⟩:=frames hR
   cases bΩ' with
   |nil=>have:=hR.S.shape.1;simp at this
   |cons bo1 bΩ1=>
    have hl1:bo1.length=Yb.length:=by
     obtain⟨gr,h1,h2⟩:=hR.S.shape.2 1 Yb rfl
     simp at h1;rw[h1];exact h2
    have zh:Keep (bZ::Ω) β (Yb::Ω1) (bo1::bΩ1):=hkp
    have hst':Step ([]::bZ::Ω) ([]::β) σ w (own::Yb::Ω1) (bo::bo1::bΩ1) σ' w':=hst
    exact⟨hR.defers,v,hv,v,_,_,σ',_,rfl,akv hR.S,zh.trans (V7 hl1),⟨hst'.size,hst'.os,hst'.output,fun b hb ho=>hst'.far b hb (fun x=>ho (IB x)),hst'.near,fun b hb=>(hst'.own b (ahE hR.S hb)).imp IB id⟩,aku hl1 hrep,q2⟩
  ·exact q2.elim
 cases e with
 |normal=>exact main hq
 |ret=>exact main hq
 |_=>exact hq.elim
def R7(P:Program)(rs:List ResultVar)(post:V→Store→Prop)(s:St)(r:R):Prop:=r.1∧match s.st with
 |own::bZ::Ω=>post (r.2.mg bZ.length) ((bZ++own.map (Obj.mg bZ.length))::Ω)
 |_=>False
@[congr] theorem ai0 {rs:List ResultVar} {post:V→Store→Prop} {s s':St} {r r':R} (h1:s=s') (h2:r=r'):R7 P rs post s r=R7 P rs post s' r':=by rw[h1,h2]
theorem adk{rs:List ResultVar}{post:V→Store→Prop}{tm:List (Nat×V)}{S:Store}:R6 P rs post .ret ⟨tm,S⟩=R7 P rs post ⟨tm,S⟩ (uY P rs ⟨tm,S⟩):=rfl
theorem UZ{rs:List ResultVar}{post:V→Store→Prop}{tm:List (Nat×V)}{S:Store}:R6 P rs post .normal ⟨tm,S⟩=R7 P rs post ⟨tm,S⟩ (uY P rs ⟨tm,S⟩):=rfl
theorem afR{rs:List ResultVar}{post:V→Store→Prop}{tm:List (Nat×V)}{own bZ:List Obj}{Ω:Store}{p:Prop}{v:V}:
 R7 P rs post ⟨tm,own::bZ::Ω⟩ (p,v)=(p∧post (v.mg bZ.length) ((bZ++own.map (Obj.mg bZ.length))::Ω)):=rfl
theorem OJ{f:FuncId}{fn:Func}{c:Code}{args:List V}{bZ:List Obj}{Ω:Store}{post:V→Store→Prop}{rs:List ResultVar}(kQ:P.follows .mixedOrders=true)(hf:P.funcs[f]? =some fn)(hN:fn.ntmps=N)
 (hb:fn.body=some c) (hn:(fn.name== "runtime.NumGoroutine")=false) (hr:fn.results.toList=rs) (hl:Nat.ble args.length N=true) (hok:codeOk N c=true)
 (h:CW P N c (R6 P rs post) ⟨rM (args.map (V.up 1)) 0,[]::bZ::Ω⟩):cB P f args (bZ::Ω) post:=by
 subst hN
 subst hr
 exact OI hf hb hn (Nat.le_of_ble_eq_true hl) (oM kQ c _ _ hok h)
theorem mgK_0{n j:Nat}:Ej n (0,j)=(0,n+j):=rfl
theorem mgK_1{n l j:Nat}:Ej n (1+l,j)=(l,j):=by rw[Nat.add_comm];rfl
end
attribute [go_sem ↓] adk UZ
attribute [go_sem] afR V.mg C.mg Obj.mg mgK_0 mgK_1
end Go.Ab
namespace Go.Ab
mutual
def ow:D→Nat
 | .sl es=>iW es+1
 | .ol _ _=>0
 | .b _=>0
 | .i _ _=>0
 | .s _=>0
 | .o _=>0
def sU:List D→Nat
 |[]=>0
 |d::ds=>ow d+sU ds
def iW:List (List D)→Nat
 |[]=>0
 |r::rs=>sU r+iW rs
end
mutual
def lI:D→Nat→D
 | .sl es,n=>.ol n (eB es (n+1))
 | .ol m es,_=>.ol m es
 | .b x,_=>.b x
 | .i k x,_=>.i k x
 | .s l,_=>.s l
 | .o v,_=>.o v
def eX:List D→Nat→List D
 |[],_=>[]
 |d::ds,n=>lI d n::eX ds (n+ow d)
def eB:List (List D)→Nat→List (List D)
 |[],_=>[]
 |r::rs,n=>eX r n::eB rs (n+sU r)
end
mutual
def tH:D→Bool
 | .sl es=>lg es
 | .ol _ _=>false
 | .b _=>true
 | .i _ _=>true
 | .s _=>true
 | .o _=>false
def kK:List D→Bool
 |[]=>true
 |d::ds=>tH d&&kK ds
def lg:List (List D)→Bool
 |[]=>true
 |r::rs=>kK r&&lg rs
end
theorem Jp:∀a b n,eX (a++b) n=eX a n++eX b (n+sU a)
 |[],b,n=>by simp[eX,sU]
 |d::ds,b,n=>by rw[List.cons_append,eX,eX,Jp ds b,sU,Nat.add_assoc];rfl
theorem pO:∀a b n,eB (a++b) n=eB a n++eB b (n+iW a)
 |[],b,n=>by simp[eB,iW]
 |d::ds,b,n=>by rw[List.cons_append,eB,eB,pO ds b,iW,Nat.add_assoc];rfl
theorem jg:∀r n,(eX r n).length=r.length
 |[],_=>rfl
 |d::ds,n=>by rw[eX,List.length_cons,jg ds,List.length_cons]
theorem jN:∀rs n,(eB rs n).length=rs.length
 |[],_=>rfl
 |r::rs,n=>by rw[eB,List.length_cons,jN rs,List.length_cons]
theorem wB{z:Nat}:∀{rs:List (List D)} {n:Nat},(∀r∈rs,r.length=z)→∀r∈eB rs n,r.length=z
 |[],_,_,r,h=>by rw[eB] at h;cases h
 |a::rs,n,ha,r,h=>by
  rw[eB] at h
  rcases List.mem_cons.1 h with e|h
  ·rw[e,jg];exact ha a (by simp)
  ·exact wB (fun r hr=>ha r (by simp[hr])) r h
theorem iX:∀a b,kK (a++b)=(kK a&&kK b)
 |[],b=>by simp[kK]
 |d::ds,b=>by rw[List.cons_append,kK,kK,iX ds b,Bool.and_assoc]
theorem mJ{α:Type}{f:α→List D}:∀{xs:List α},(∀x∈xs,kK (f x)=true)→lg (xs.map f)=true
 |[],_=>rfl
 |x::xs,h=>by
  rw[List.map_cons,lg,h x (by simp),mJ fun y hy=>h y (by simp[hy])];rfl
section
variable {P:Program} {w:World} {σ σ':Nat→Nat} {S:Store} {β:Hs} {N:Nat} {s:St}
mutual
theorem adl:∀(d:D) (n:Nat) (v:Value),d9 w σ (lI d n) v→d9 w σ d v
 | .sl es,n,v,h=>by
   rw[lI] at h
   have hl:=jN es (n+1)
   have hrec:=aeP es (n+1)
   generalize eB es (n+1)=q at h hl hrec
   cases h with
   |vw n a cap=>
    have:es=[]:=List.eq_nil_of_length_eq_zero (by simpa using hl.symm)
    subst this
    exact .nil a cap
   |ol n b off cap bE q vals c t hcap hlen hb hσ hfit hc hv=>
    obtain⟨r1,r2⟩:=hrec vals hv
    rw[hl] at hcap hfit hc ⊢
    refine .sl b off cap bE es vals c t (0,0) hcap (fun e he=> ?_) hb (by omega) hc r2
    obtain⟨e',h1,h2⟩:=r1 e he
    rw[←h2];exact hlen e' h1
 | .ol m es,n,v,h=>h
 | .b x,n,v,h=>h
 | .i k x,n,v,h=>h
 | .s l,n,v,h=>h
 | .o u,n,v,h=>h
theorem ahG:∀(r:List D) (n:Nat) (vals:Nat→Value),(∀j d,(eX r n)[j]? =some d→d9 w σ d (vals j))→∀(j:Nat) d,r[j]? =some d→d9 w σ d (vals j)
 |[],n,vals,h,j,d,hd=>by simp at hd
 |a::r,n,vals,h,j,d,hd=>by
  cases j with
  |zero=>
   simp at hd;subst hd
   exact adl a n _ (h 0 _ rfl)
  |succ j=>exact ahG r (n+ow a) (fun i=>vals (i+1)) (fun i d hi=>h (i+1) d (by rw[eX];exact hi)) j d hd
theorem aeP:∀(rs:List (List D)) (n:Nat) (vals:Nat→Value),(∀j d,(eB rs n).flatten[j]? =some d→d9 w σ d (vals j))→
 (∀e∈rs,∃e'∈eB rs n,e'.length=e.length)∧∀(j:Nat) d,rs.flatten[j]? =some d→d9 w σ d (vals j)
 |[],n,vals,h=>⟨fun e he=>(by cases he),fun j d hd=>(by simp at hd)⟩
 |r::rs,n,vals,h=>by
  rw[eB,List.flatten_cons] at h
  have h1:=ahG r n vals fun j d hd=>h j d (by rw[List.getElem?_append_left (List.getElem?_eq_some_iff.1 hd).1];exact hd)
  obtain⟨h2,h3⟩:=aeP rs (n+sU r) (fun i=>vals (r.length+i)) fun j d hd=>h (r.length+j) d (by rw[List.getElem?_append_right (by rw[jg];omega),jg,Nat.add_sub_cancel_left];exact hd)
  refine⟨fun e he=> ?_,fun j d hd=> ?_⟩
  ·rcases List.mem_cons.1 he with e1|he
   ·subst e1;exact⟨_,by rw[eB];exact List.mem_cons_self ..,jg _ _⟩
   ·obtain⟨e',q1,q2⟩:=h2 e he
    exact⟨e',by rw[eB];exact List.mem_cons_of_mem _ q1,q2⟩
  ·rw[List.flatten_cons] at hd
   by_cases hj:j<r.length
   ·rw[List.getElem?_append_left hj] at hd;exact h1 j d hd
   ·rw[List.getElem?_append_right (by omega)] at hd
    have:=h3 (j-r.length) d hd
    rwa [show r.length+(j-r.length)=j by omega] at this
end
theorem JX{r:List D}{n:Nat}:Less (.agg ((eX r n).map .d)) (.agg (r.map .d)):=by
 rintro w σ S β v ⟨a,ha,hl,hc⟩
 rw[List.length_map,jg] at hl
 refine⟨a,ha,by rw[List.length_map];exact hl,?_⟩
 have key:∀(r:List D) (n:Nat) (vs:List Value),(∀(j:Nat) (x:C),((eX r n).map C.d)[j]? =some x→∃v:Value,vs[j]? =some v∧jf w σ S β x v∧v.oneCell'=true)→
  ∀(j:Nat) (x:C),(r.map C.d)[j]? =some x→∃v:Value,vs[j]? =some v∧jf w σ S β x v∧v.oneCell'=true:=by
  intro r
  induction r with
  |nil=>intro n vs h j x hx;simp at hx
  |cons d ds ih=>
   intro n vs h j x hx
   cases j with
   |zero=>
    simp at hx;subst hx
    obtain⟨v,h1,h2,h3⟩:=h 0 (.d (lI d n)) rfl
    exact⟨v,h1,adl d n v h2,h3⟩
   |succ j=>
    have:=ih (n+ow d) vs.tail (fun i y hy=>by
     obtain⟨v,h1,h2⟩:=h (i+1) y (by rw[eX,List.map_cons];exact hy)
     refine⟨v,?_,h2⟩
     cases vs with
     |nil=>simp at h1
     |cons a b=>exact h1) j x hx
    obtain⟨v,h1,h2⟩:=this
    refine⟨v,?_,h2⟩
    cases vs with
    |nil=>simp at h1
    |cons a b=>exact h1
 exact key r n _ hc
theorem aar{r:List D}{n:Nat}{w:World}{σ:Nat→Nat}{S:Store}{β:Hs}{vs:List Value}(h:gK w σ S β ((eX r n).map .d) vs):gK w σ S β (r.map .d) vs:=by
 obtain⟨a,ha,hc⟩:=JX w σ S β (.agg vs.toArray) ⟨vs.toArray,rfl,by simpa using h⟩
 cases ha
 simpa using hc
inductive uD:List V→List V→Prop
 |nil:uD [] []
 |cons {x y:V} {xs ys:List V}:Less x y→uD xs ys→uD (x::xs) (y::ys)
theorem uD.length:∀{xs ys:List V},uD xs ys→xs.length=ys.length
 |_,_,.nil=>rfl
 |_,_,.cons _ h=>by rw[List.length_cons,List.length_cons,uD.length h]
theorem uD.at:∀{xs ys:List V},uD xs ys→∀(j:Nat) (x y:V),xs[j]? =some x→ys[j]? =some y→Less x y
 |_,_,.nil,j,x,y,h,_=>by simp at h
 |_,_,.cons a h,0,x,y,h1,h2=>by simp at h1 h2;subst h1;subst h2;exact a
 |_,_,.cons a h,j+1,x,y,h1,h2=>uD.at h j x y (by simpa using h1) (by simpa using h2)
theorem aI.args{f:FuncId}{args args':List V}{r:V}(h:aI P f args' r)(hl:uD args args'):aI P f args r:=fun S=>(h S).weaken hl.length fun j x y hx hy w σ β v hr=>hl.at j x y hx hy w σ S β v hr
theorem nK{dr:Option Nat}{f:FuncId}{args args':List V}{dst:Option Nat}{K:St→Prop}{r:V}(h:aI P f args' r)(hl:uD (args.map V.sH) args')(hK:K (s.put dst r)):fE P dr f args s dst K:=aZ (h.args hl) hK
def adn(row:Bool)(j n:Nat)(es:List (List D))(tm:List (Nat×V)):List (Nat×V):=tm.map fun x=>(x.1,x.2.l9 (C.lab row j n es))
theorem aas{row:Bool}{j n:Nat}{es:List (List D)}{tm:List (Nat×V)}{t:Nat}:look (adn row j n es tm) t=(look tm t).l9 (C.lab row j n es):=E8 (f:=V.l9 (C.lab row j n es)) rfl tm t
def Yc(j n:Nat)(tm:List (Nat×V))(own:List Obj)(Ω:Store):Option Obj→St
 |some (.iH _ es)=>⟨adn true j n es tm,(own.map (Obj.l9 (C.lab true j n es))).set j .dead::Ω⟩
 |some (.fF m _ es)=>⟨adn false j m es tm,(own.map (Obj.l9 (C.lab false j m es))).set j .dead::Ω⟩
 |_=>⟨tm,own::Ω⟩
def Qy(j n:Nat)(s:St):St:=
 match s.st with
 |own::Ω=>Yc j n s.tm own Ω (own[j]?)
 |[]=>s
def Li:Nat→Nat→St→St
 |0,_,s=>s
 |k+1,n,s=>Li k n (Qy k n s)
def El(n:Nat)(s:St):St:=
 match s.st with
 |own::_=>Li own.length n s
 |[]=>s
theorem Jq(j n:Nat)(s:St):iN N s (Qy j n s):=by
 obtain⟨tm,st⟩:=s
 cases st with
 |nil=>exact iN.refl _ _
 |cons own Ω=>
  show iN N ⟨tm,own::Ω⟩ (Yc j n tm own Ω (own[j]?))
  cases ho:own[j]? with
  |none=>exact iN.refl _ _
  |some o=>
   cases o with
   |iH z es=>exact fun a w σ β hR=>VY j n z es true ho hR
   |fF m z es=>exact fun a w σ β hR=>VY j m z es false ho hR
   |_=>exact iN.refl _ _
theorem Jr:∀(k n:Nat) (s:St),iN N s (Li k n s)
 |0,n,s=>iN.refl _ _
 |k+1,n,s=>(Jq k n s).trans (Jr k n _)
theorem Cm(n:Nat)(s:St):iN N s (El n s):=by
 unfold El
 split
 ·exact Jr _ _ _
 ·exact iN.refl _ _
theorem ado{j n:Nat}{tm:List (Nat×V)}{own:List Obj}{Ω:Store}:Qy j n ⟨tm,own::Ω⟩=Yc j n tm own Ω (own[j]?):=rfl
theorem aat{n:Nat}{tm:List (Nat×V)}{own:List Obj}{Ω:Store}:El n ⟨tm,own::Ω⟩=Li own.length n ⟨tm,own::Ω⟩:=rfl
def R8(P:Program)(n:Nat)(rs:List ResultVar)(post:V→Store→Prop)(e:Exit)(s:St):Prop:=abX P rs post e (El n s)
theorem adp{n:Nat}{rs:List ResultVar}{post:V→Store→Prop}:R8 P n rs post .ret s=RO P rs post (El n s):=rfl
theorem U0{n:Nat}{rs:List ResultVar}{post:V→Store→Prop}:R8 P n rs post .normal s=RO P rs post (El n s):=rfl
theorem kC(n:Nat){f:FuncId}{fn:Func}{c:Code}{args:List V}{post:V→Store→Prop}{rs:List ResultVar}(kQ:P.follows .mixedOrders=true)(hf:P.funcs[f]? =some fn)(hN:fn.ntmps=N)
 (hb:fn.body=some c) (hn:(fn.name== "runtime.NumGoroutine")=false) (hr:fn.results.toList=rs) (hl:Nat.ble args.length N=true) (hok:codeOk N c=true)
 (h:CW P N c (R8 P n rs post) ⟨rM (args.map (V.up 1)) 0,[.seed n]::S⟩):cB P f args S post:=by
 subst hN
 subst hr
 exact zN hf hb hn (Nat.le_of_ble_eq_true hl) (Nf n (GH (Cm n) (oM kQ c _ _ hok h)))
theorem adq{row:Bool}{j n l i:Nat}{es es':List (List D)}:C.lab row j n es (.bS (1+l,i) es')=.bS (1+l,i) es':=by rw[Nat.add_comm];rfl
theorem adr{row:Bool}{j n i:Nat}{es es':List (List D)}:C.lab row j n es (.bS (0,i) es')=if i=j∧row=false∧es'.length=es.length then .d (.ol n es) else .bS (0,i) es':=rfl
theorem ads{row:Bool}{j n l i:Nat}{es:List (List D)}:C.lab row j n es (.og (1+l,i))=.og (1+l,i):=by rw[Nat.add_comm];rfl
theorem adt{row:Bool}{j n i:Nat}{es:List (List D)}:C.lab row j n es (.og (0,i))=if i=j∧row=true then .d (.ol n es) else .og (0,i):=rfl
theorem ai1{row:Bool}{j n:Nat}{es:List (List D)}{x:D}:C.lab row j n es (.d x)=.d x:=rfl
theorem afS{row:Bool}{j n:Nat}{es:List (List D)}:C.lab row j n es .any=.any:=rfl
theorem afT{row:Bool}{j n:Nat}{es es':List (List D)}:C.lab row j n es (.bO es')=.bO es':=rfl
theorem afU{row:Bool}{j n m:Nat}{es es':List (List D)}:C.lab row j n es (.kW m es')=.kW m es':=rfl
theorem afV{row:Bool}{j n off:Nat}{es:List (List D)}{k:Key}:C.lab row j n es (.ptr k off)=.ptr k off:=rfl
theorem ahH{row:Bool}{j n f:Nat}{es:List (List D)}{caps:List (Key×Nat)}:C.lab row j n es (.fn f caps)=.fn f caps:=rfl
theorem adu{row:Bool}{j n:Nat}{es:List (List D)}{cs:List D}:C.lab row j n es (.ny cs)=.ny cs:=rfl
theorem su{ι:Type}{ts:List Nat}{f:ι→List V}{g:ι→Store}{p:ι→Prop}{μ:ι→Nat}{i:ι}{tm:List (Nat×V)}{own:List Obj}{Ω:Store}{m:Nat}(m' n:Nat)(hnd:ts.Nodup)(j:ι)(h1:μ j<μ i)(h2:ts.map (look tm)=f j)(h3:(Obj.seed m'::own.take n)::Ω=g j)
 (hr:kF (n+1) (jo ts (f j))=true) (ho:(own.take n).all (Obj.refs (n+1))=true) (h4:p j):Inv N ts f g p μ i ⟨tm,(.seed m::own)::Ω⟩:=by
 refine⟨j,⟨jo ts (f j),(.seed m'::own.take n)::Ω⟩,h1,?_,?_,h3,h4⟩
 ·have hg:iN N ⟨tm,(.seed m::own)::Ω⟩ ⟨jo ts (f j),(.seed m::own)::Ω⟩:=by
   rw[←h2]
   exact JU fun t=>Ce _ ts t
  refine hg.trans ((K6 (n+1) hr ?_).trans (Ca m'))
  rw[List.take_succ_cons,List.all_cons,ho];rfl
 ·exact Cg ts (f j) hnd (by rw[←h2];simp)
end
attribute [go_sem ↓] adp U0 aat
attribute [go_sem] Li ado Yc aas V.l9 Obj.l9 adq adr ads adt ai1 afS afT afU afV ahH adu
end Go.Ab
namespace Go.Ab
section
variable {P:Program} {N:Nat} {S:Store} {s:St} {tm:List (Nat×V)}
def IL(E:Md)(R:Array Oper)(K:St→Prop)(s:St):Prop:=Qu E R s.tm=true∧K s
@[congr] theorem aix {E:Md} {R:Array Oper} {K:St→Prop} {s s':St} (h2:s=s'):IL E R K s=IL E R K s':=by rw[h2]
def A8(P:Program)(N:Nat):Code→(Exit→St→Prop)→St→Prop
 | .seq x y,Q,s=>A8 P N x (oC (A8 P N y Q) Q) s
 | .region _ R true,Q,s=>uZ P (Ae R N) R R.toList s (IL (Ae R N) R (Q .normal))
 | .region id R false,Q,s=>CW P N (.region id R false) Q s
 | .cond c x y,Q,s=>CW P N (.cond c x y) Q s
 | .block id c,Q,s=>CW P N (.block id c) Q s
 | .exit id,Q,s=>CW P N (.exit id) Q s
 | .ret,Q,s=>CW P N .ret Q s
 | .skip,Q,s=>CW P N .skip Q s
 | .loop c,Q,s=>CW P N (.loop c) Q s
 |_,_,_=>False
theorem afW{x y:Code}{Q:Exit→St→Prop}:A8 P N (.seq x y) Q s=A8 P N x (oC (A8 P N y Q) Q) s:=by rw[A8]
theorem adv{id:Nat}{l:List Oper}{Q:Exit→St→Prop}:A8 P N (.region id ⟨l⟩ true) Q s=uZ P (Ae ⟨l⟩ N) ⟨l⟩ l s (IL (Ae ⟨l⟩ N) ⟨l⟩ (Q .normal)):=by rw[A8]
theorem Yd{id:Nat}{l:List Oper}{Q:Exit→St→Prop}:A8 P N (.region id ⟨l⟩ false) Q s=CW P N (.region id ⟨l⟩ false) Q s:=by rw[A8]
theorem adw{c:Operand}{x y:Code}{Q:Exit→St→Prop}:A8 P N (.cond c x y) Q s=CW P N (.cond c x y) Q s:=by rw[A8]
theorem afX{Q:Exit→St→Prop}:A8 P N .ret Q s=CW P N .ret Q s:=by rw[A8]
theorem adx{Q:Exit→St→Prop}:A8 P N .skip Q s=CW P N .skip Q s:=by rw[A8]
end
attribute [go_sem ↓] afW adv Yd adw afX adx
end Go.Ab
namespace Go.Ab
section
variable {P:Program} {N:Nat} {S:Store} {s:St} {tm:List (Nat×V)}
def sI(P:Program)(N:Nat):Code→(Exit→St→Prop)→St→Prop
 | .seq x y,Q,s=>sI P N x (oC (sI P N y Q) Q) s
 | .region _ R true,Q,s=>uZ P (Ae R N) R R.toList s (IL (Ae R N) R (Q .normal))
 | .region id R false,Q,s=>CW P N (.region id R false) Q s
 | .cond c x y,Q,s=>II (ev s.tm c) (sI P N x Q) (sI P N y Q) s
 | .block id c,Q,s=>sI P N c (Bo id Q) s
 | .exit id,Q,s=>CW P N (.exit id) Q s
 | .ret,Q,s=>CW P N .ret Q s
 | .skip,Q,s=>CW P N .skip Q s
 | .loop c,Q,s=>CW P N (.loop c) Q s
 |_,_,_=>False
theorem afY{x y:Code}{Q:Exit→St→Prop}:sI P N (.seq x y) Q s=sI P N x (oC (sI P N y Q) Q) s:=by rw[sI]
theorem ady{id:Nat}{l:List Oper}{Q:Exit→St→Prop}:sI P N (.region id ⟨l⟩ true) Q s=uZ P (Ae ⟨l⟩ N) ⟨l⟩ l s (IL (Ae ⟨l⟩ N) ⟨l⟩ (Q .normal)):=by rw[sI]
theorem Ye{id:Nat}{l:List Oper}{Q:Exit→St→Prop}:sI P N (.region id ⟨l⟩ false) Q s=CW P N (.region id ⟨l⟩ false) Q s:=by rw[sI]
theorem adz{c:Operand}{x y:Code}{Q:Exit→St→Prop}:sI P N (.cond c x y) Q s=II (ev s.tm c) (sI P N x Q) (sI P N y Q) s:=by rw[sI]
theorem aau{id:Nat}{c:Code}{Q:Exit→St→Prop}:sI P N (.block id c) Q s=sI P N c (Bo id Q) s:=by rw[sI]
theorem adA{id:Nat}{Q:Exit→St→Prop}:sI P N (.exit id) Q s=CW P N (.exit id) Q s:=by rw[sI]
theorem afZ{Q:Exit→St→Prop}:sI P N .ret Q s=CW P N .ret Q s:=by rw[sI]
theorem adB{Q:Exit→St→Prop}:sI P N .skip Q s=CW P N .skip Q s:=by rw[sI]
theorem adC{c:Code}{Q:Exit→St→Prop}:sI P N (.loop c) Q s=CW P N (.loop c) Q s:=by rw[sI]
end
attribute [go_sem ↓] afY ady Ye adz aau adA afZ adB adC
end Go.Ab
namespace Go.Ab
section
variable {P:Program} {N:Nat} {S:Store} {s:St} {tm:List (Nat×V)}
end
end Go.Ab
namespace Go.Ab
theorem Yf{P:Program}{N:Nat}(n:Nat){f:FuncId}{fn:Func}{c:Code}{args:List V}{bZ:List Obj}{Ω:Store}{post:V→Store→Prop}{rs:List ResultVar}(kQ:P.follows .mixedOrders=true)(hf:P.funcs[f]? =some fn)(hN:fn.ntmps=N)
 (hb:fn.body=some c) (hn:(fn.name== "runtime.NumGoroutine")=false) (hr:fn.results.toList=rs) (hl:Nat.ble args.length N=true) (hok:codeOk N c=true)
 (h:CW P N c (R6 P rs post) ⟨rM (args.map (V.up 1)) 0,[.seed n]::bZ::Ω⟩):cB P f args (bZ::Ω) post:=by
 subst hN
 subst hr
 exact OI hf hb hn (Nat.le_of_ble_eq_true hl) (Nf n (oM kQ c _ _ hok h))
theorem R9{P:Program}{N:Nat}{c:Code}{Q:Exit→St→Prop}{tm:List (Nat×V)}{Ω:Store}(n k:Nat)(h:AW P N c Q ⟨tm,[.seed n,.seed k]::Ω⟩):AW P N c Q ⟨tm,[]::Ω⟩:=by
 refine Nf n (oK h fun a w σ β hR=> ?_)
 obtain⟨bo,bΩ,rfl,hlen⟩:=frames hR
 obtain⟨hS',hk,hst⟩:=hR.S.push (o:=.seed k) (h:=undef) (Grow.refl hR.S.live) hlen trivial (fun b hb=>by cases hb)
 exact⟨σ,_,⟨hR.size,hR.defers,hS',fun u=>(hR.T u).mono (gD.refl _ _) hk⟩,hst,Keep.refl _ _⟩
section
variable {P:Program} {N:Nat} {S:Store}
theorem ug(n k:Nat){f:FuncId}{fn:Func}{c:Code}{args:List V}{post:V→Store→Prop}{rs:List ResultVar}(kQ:P.follows .mixedOrders=true)(hf:P.funcs[f]? =some fn)(hN:fn.ntmps=N)
 (hb:fn.body=some c) (hn:(fn.name== "runtime.NumGoroutine")=false) (hr:fn.results.toList=rs) (hl:Nat.ble args.length N=true) (hok:codeOk N c=true)
 (h:CW P N c (R8 P n rs post) ⟨rM (args.map (V.up 1)) 0,[.seed n,.seed k]::S⟩):cB P f args S post:=by
 subst hN
 subst hr
 exact zN hf hb hn (Nat.le_of_ble_eq_true hl) (R9 n k (GH (Cm n) (oM kQ c _ _ hok h)))
end
end Go.Ab
namespace Go.Ab
section
variable {P:Program} {w w':World} {σ σ':Nat→Nat} {S:Store} {β:Hs}
def sV(w:World)(σ:Nat→Nat)(lo hi b:Nat):Prop:=∃c t fz m,w.heap[b]? =some (.cells c t fz)∧σ b=c.size+1+m∧lo≤m∧m<hi
theorem sV.mono{lo hi lo' hi' b:Nat}(h:sV w σ lo hi b)(h1:lo'≤lo)(h2:hi≤hi'):sV w σ lo' hi' b:=by
 obtain⟨c,t,fz,m,a1,a2,a3,a4⟩:=h
 exact⟨c,t,fz,m,a1,a2,by omega,by omega⟩
theorem sV.apart{lo hi lo' hi' b:Nat}(h:sV w σ lo hi b)(h':sV w σ lo' hi' b)(ho:hi≤lo'):False:=by
 obtain⟨c,t,fz,m,a1,a2,a3,a4⟩:=h
 obtain⟨c',t',Q0,m',b1,b2,b3,b4⟩:=h'
 rw[a1] at b1;cases b1
 omega
abbrev Kids:=List (List (Option Value))
def oD(rows:Kids)(i o:Nat):Option Value:=((rows[i]?).bind fun r=>r[o]?).bind id
def aeQ(rows:Kids):Array Value:=(rows.map fun r=>Value.tuple (r.map fun u=>u.getD (.bool false)).toArray).toArray
def mkT(v:Value)(rows:Kids):Value:=.tuple #[v,.tuple (aeQ rows)]
theorem V8{v:Value}{rows:Kids}:hdr (mkT v rows)=some v:=rfl
def IsT(v:Value):Prop:=∃a,v=.tuple a
theorem Nt{v:Value}{rows:Kids}(h:∀i o u,oD rows i o=some u→IsT u)(i o:Nat):kid (mkT v rows) i o=oD rows i o:=by
 have h':=h i o
 unfold kid mkT aeQ oD at *
 simp only[List.getElem?_toArray,List.getElem?_cons_succ,List.getElem?_cons_zero,List.getElem?_map]
 cases hr:rows[i]? with
 |none=>rfl
 |some r=>
  rw[hr] at h'
  simp only[Option.map_some,List.getElem?_toArray,List.getElem?_map]
  cases hu:r[o]? with
  |none=>simp[hu]
  |some u=>
   simp only[Option.bind_some,hu,id] at h'
   cases u with
   |none=>simp[hu]
   |some u=>
    obtain⟨a,rfl⟩:=h' u rfl
    simp[hu]
def Qz(w:World)(d:D)(v:Value)(u:Option Value):Prop:=
 match d with
 | .sl es=>∃T,u=some T∧IsT T∧hdr T=some v∧rD w es T
 |d=>u=none∧SD d v
theorem Sb{z:Nat}:∀{rs:List (List D)} {n:Nat},(∀r∈eB rs n,r.length=z)→∀r∈rs,r.length=z
 |[],_,_,r,h=>by cases h
 |a::rs,n,ha,r,h=>by
  rw[eB] at ha
  rcases List.mem_cons.1 h with e|h
  ·subst e;rw[←jg r n];exact ha _ (by simp)
  ·exact Sb (n:=n+sU a) (fun r hr=>ha r (by simp[hr])) r h
structure akw (w:World) (σ:Nat→Nat) (r:List D) (n m:Nat) (vals:Nat→Value) (us:List (Option Value)):Prop where
 len:us.length=r.length
 cell:∀(j:Nat) (d:D),r[j]? =some d→∃u,us[j]? =some u∧Qz w d (vals j) u
 own:∀(j:Nat) (u:Value),us[j]? =some (some u)→∀b,nA u b→sV w σ n m b
 apart:∀(j j':Nat) (u u':Value) (b:Nat),j≠j'→us[j]? =some (some u)→us[j']? =some (some u')→nA u b→nA u' b→False
structure ai2 (w:World) (σ:Nat→Nat) (z:Nat) (rs:List (List D)) (n m:Nat) (vals:Nat→Value) (U:Kids):Prop where
 cell:∀(i o:Nat) (d:D),cellAt rs i o=some d→∃u,((U[i]?).bind fun r=>r[o]?)=some u∧Qz w d (vals (i*z+o)) u
 kid:∀(i o:Nat) (u:Value),oD U i o=some u→∃es,cellAt rs i o=some (.sl es)
 own:∀(i o:Nat) (u:Value),oD U i o=some u→∀b,nA u b→sV w σ n m b
 apart:∀(i o i' o':Nat) (u u':Value) (b:Nat),(i,o)≠(i',o')→oD U i o=some u→oD U i' o'=some u'→nA u b→nA u' b→False
theorem yK{us:List (Option Value)}{U:Kids}{o:Nat}{u:Value}:oD (us::U) 0 o=some u↔us[o]? =some (some u):=by
 show(us[o]?).bind id=some u↔_
 cases us[o]? with
 |none=>simp
 |some x=>simp
mutual
theorem ai3:∀(d:D) (n:Nat) (v:Value),tH d=true→d9 w σ (lI d n) v→∃u,Qz w d v u∧∀T,u=some T→∀b,nA T b→sV w σ n (n+ow d) b
 | .sl es,n,v,hp,h=>by
   rw[lI] at h
   have hl:=jN es (n+1)
   have hrec:=aav es (n+1)
   have hrow:=fun z=>Sb (z:=z) (rs:=es) (n:=n+1)
   generalize eB es (n+1)=q at h hl hrec hrow
   have hempty:∀a cap,es=[]→v=.slice a 0 cap→∃u,Qz w (.sl es) v u∧∀T,u=some T→∀b,nA T b→sV w σ n (n+ow (.sl es)) b:=by
    rintro a cap rfl rfl
    have hk:∀i o,kid (mkT (.slice a 0 cap) []) i o=none:=fun i o=>by rw[Nt (fun i o u h=>by simp[oD] at h)];simp[oD]
    refine⟨some (mkT (.slice a 0 cap) []),⟨_,rfl,⟨_,rfl⟩,rfl,.nil a cap _ rfl hk⟩,fun T hT b hb=> ?_⟩
    cases hT
    exfalso
    cases hb with
    |here h1 h2=>rw[V8] at h1;cases h1;omega
    |kid h1 h2=>rw[hk] at h1;cases h1
   cases h with
   |vw n a cap=>exact hempty a cap (List.eq_nil_of_length_eq_zero (by simpa using hl.symm)) rfl
   |ol n b off cap z q vals c t hcap hlen hb hσ hfit hc hv=>
    by_cases hne:es=[]
    ·subst hne
     have hq0:q.length=0:=by simpa using hl
     exact hempty _ _ rfl (by rw[hq0])
    rw[hl] at hcap hfit hc ⊢
    obtain⟨U,hU⟩:=hrec z vals (hrow z hlen) (by simpa [tH] using hp) hv
    have hrl:=hrow z hlen
    have hT:∀i o u,oD U i o=some u→IsT u:=fun i o u hu=>by
     obtain⟨es',he⟩:=hU.kid i o u hu
     obtain⟨u',h1,h2⟩:=hU.cell i o _ he
     obtain⟨T,h3,h4,_⟩:=h2
     unfold oD at hu
     rw[h1,h3] at hu
     cases hu;exact h4
    have uV:∀i o,kid (mkT (.slice (some ⟨b,off,none⟩) es.length cap) U) i o=oD U i o:=Nt hT
    have hcell:∀i o es',cellAt es i o=some (.sl es')→∃T,oD U i o=some T∧hdr T=some (vals (i*z+o))∧rD w es' T:=fun i o es' he=>by
     obtain⟨u',h1,T,h3,h4,h5,h6⟩:=hU.cell i o _ he
     refine⟨T,?_,h5,h6⟩
     unfold oD
     rw[h1,h3];rfl
    have hself:∀x,sV w σ (n+1) (n+1+iW es) x→x≠b:=by
     rintro x ⟨c',t',Q0,m,a1,a2,a3,a4⟩ rfl
     rw[hb] at a1;cases a1
     omega
    refine⟨some (mkT (.slice (some ⟨b,off,none⟩) es.length cap) U),⟨_,rfl,⟨_,rfl⟩,rfl,?_⟩,fun T hT' x hx=> ?_⟩
    ·refine .mk b off cap z es _ c t (fun i o=>vals (i*z+o)) (fun i o=>(oD U i o).getD undef) rfl hne hcap hrl hb hfit (fun i o d hd=> ?_) (fun i o d hd=> ?_) (fun i o es' he=> ?_) (fun i o es' he=> ?_) (fun i o u hu hb'=> ?_) (fun i o i' o' u u' x hio hu hu' h1 h2=> ?_) (fun i o u hu=> ?_)
     ·obtain⟨hi,ho⟩:=ze hd
      rw[hrl _ (List.getElem_mem hi)] at ho
      refine hc _ ?_
      have:(i+1)*z≤es.length*z:=Nat.mul_le_mul_right _ hi
      rw[Nat.add_mul,Nat.one_mul] at this
      omega
     ·obtain⟨u,h1,h2⟩:=hU.cell i o d hd
      cases d<;>first|exact .inl ⟨_,rfl⟩|exact .inr h2.2
     ·obtain⟨T,h1,h2,h3⟩:=hcell i o es' he
      rw[uV,h1]
      exact⟨rfl,h2⟩
     ·obtain⟨T,h1,h2,h3⟩:=hcell i o es' he
      rw[h1];exact h3
     ·rw[uV] at hu
      exact hself b (hU.own i o u hu b hb') rfl
     ·rw[uV] at hu hu'
      exact hU.apart i o i' o' u u' x hio hu hu' h1 h2
     ·rw[uV] at hu
      exact hU.kid i o u hu
    ·cases hT'
     cases hx with
     |here h1 h2=>rw[V8] at h1;cases h1;exact⟨c,t,(0,0),n,hb,hσ,Nat.le_refl _,by rw[ow];omega⟩
     |kid h1 h2=>
      rw[uV] at h1
      exact(hU.own _ _ _ h1 _ h2).mono (by omega) (by rw[ow];omega)
 | .ol m es,n,v,hp,h=>by simp[tH] at hp
 | .b x,n,v,hp,h=>by rw[lI] at h;cases h;exact⟨none,⟨rfl,rfl⟩,fun T h=>by cases h⟩
 | .i k x,n,v,hp,h=>by rw[lI] at h;cases h;exact⟨none,⟨rfl,rfl⟩,fun T h=>by cases h⟩
 | .s l,n,v,hp,h=>by rw[lI] at h;cases h;exact⟨none,⟨rfl,rfl⟩,fun T h=>by cases h⟩
 | .o u,n,v,hp,h=>by simp[tH] at hp
theorem QA:∀(r:List D) (n:Nat) (vals:Nat→Value),kK r=true→(∀(j:Nat) (d:D),(eX r n)[j]? =some d→d9 w σ d (vals j))→∃us,akw w σ r n (n+sU r) vals us
 |[],n,vals,hp,h=>⟨[],rfl,fun j d h=>by simp at h,fun j u h=>by simp at h,fun j j' u u' b _ h=>by simp at h⟩
 |d::r,n,vals,hp,h=>by
  rw[kK,Bool.and_eq_true] at hp
  rw[eX] at h
  obtain⟨u,h1,h2⟩:=ai3 d n (vals 0) hp.1 (h 0 _ rfl)
  obtain⟨us,vo⟩:=QA r (n+ow d) (fun j=>vals (j+1)) hp.2 fun j x hx=>h (j+1) x hx
  rw[sU]
  have hown:∀(j:Nat) (T:Value),us[j]? =some (some T)→∀b,nA T b→sV w σ (n+ow d) (n+ow d+sU r) b:=vo.own
  refine⟨u::us,by rw[List.length_cons,List.length_cons,vo.len],fun j x hx=> ?_,fun j T hT b hb=> ?_,fun j j' T T' b hj hT hT' hb hb'=> ?_⟩
  ·cases j with
   |zero=>simp at hx;subst hx;exact⟨u,rfl,h1⟩
   |succ j=>exact vo.cell j x hx
  ·cases j with
   |zero=>simp at hT;exact(h2 T hT b hb).mono (Nat.le_refl _) (by omega)
   |succ j=>exact(hown j T hT b hb).mono (by omega) (by omega)
  ·cases j with
   |zero=>
    cases j' with
    |zero=>exact hj rfl
    |succ j'=>simp at hT;exact(h2 T hT b hb).apart (hown j' T' hT' b hb') (Nat.le_refl _)
   |succ j=>
    cases j' with
    |zero=>simp at hT';exact(h2 T' hT' b hb').apart (hown j T hT b hb) (Nat.le_refl _)
    |succ j'=>exact vo.apart j j' T T' b (by omega) hT hT' hb hb'
theorem aav:∀(rs:List (List D)) (n z:Nat) (vals:Nat→Value),(∀r∈rs,r.length=z)→lg rs=true→(∀(j:Nat) (d:D),(eB rs n).flatten[j]? =some d→d9 w σ d (vals j))→∃U,ai2 w σ z rs n (n+iW rs) vals U
 |[],n,z,vals,hz,hp,h=>⟨[],fun i o d h=>by simp[cellAt] at h,fun i o u h=>by simp[oD] at h,fun i o u h=>by simp[oD] at h,fun i o i' o' u u' b _ h=>by simp[oD] at h⟩
 |r::rs,n,z,vals,hz,hp,h=>by
  rw[lg,Bool.and_eq_true] at hp
  rw[eB,List.flatten_cons] at h
  have hrz:r.length=z:=hz r (by simp)
  obtain⟨us,vo⟩:=QA r n vals hp.1 fun j d hd=>h j d (by rw[List.getElem?_append_left (List.getElem?_eq_some_iff.1 hd).1];exact hd)
  obtain⟨U,hU⟩:=aav rs (n+sU r) z (fun j=>vals (z+j)) (fun r hr=>hz r (by simp[hr])) hp.2 fun j d hd=>h (z+j) d (by
   rw[List.getElem?_append_right (by rw[jg];omega),jg,hrz,Nat.add_sub_cancel_left];exact hd)
  rw[iW]
  have hown:∀(i o:Nat) (T:Value),oD U i o=some T→∀b,nA T b→sV w σ (n+sU r) (n+sU r+iW rs) b:=hU.own
  refine⟨us::U,fun i o d hd=> ?_,fun i o u hu=> ?_,fun i o T hT b hb=> ?_,fun i o i' o' T T' b hio hT hT' hb hb'=> ?_⟩
  ·cases i with
   |zero=>
    obtain⟨u,h1,h2⟩:=vo.cell o d hd
    exact⟨u,h1,by rw[Nat.zero_mul,Nat.zero_add];exact h2⟩
   |succ i=>
    obtain⟨u,h1,h2⟩:=hU.cell i o d hd
    exact⟨u,h1,by rw[show(i+1)*z+o=z+(i*z+o) by rw[Nat.add_mul];omega];exact h2⟩
  ·cases i with
   |zero=>
    rw[yK] at hu
    have ho:o<r.length:=by rw[←vo.len];exact(List.getElem?_eq_some_iff.1 hu).1
    obtain⟨u',h1,h2⟩:=vo.cell o r[o] (List.getElem?_eq_getElem ho)
    rw[hu] at h1;cases h1
    have hc:cellAt (r::rs) 0 o=some r[o]:=List.getElem?_eq_getElem ho
    rw[hc]
    generalize r[o]=d at h2
    cases d<;>first|exact⟨_,rfl⟩|(cases h2.1)
   |succ i=>exact hU.kid i o u hu
  ·cases i with
   |zero=>rw[yK] at hT;exact(vo.own o T hT b hb).mono (Nat.le_refl _) (by omega)
   |succ i=>exact(hown i o T hT b hb).mono (by omega) (by omega)
  ·cases i with
   |zero=>
    rw[yK] at hT
    cases i' with
    |zero=>rw[yK] at hT';exact vo.apart o o' T T' b (fun e=>hio (by rw[e])) hT hT' hb hb'
    |succ i'=>exact(vo.own o T hT b hb).apart (hown i' o' T' hT' b hb') (Nat.le_refl _)
   |succ i=>
    cases i' with
    |zero=>rw[yK] at hT';exact(vo.own o' T' hT' b hb').apart (hown i o T hT b hb) (Nat.le_refl _)
    |succ i'=>exact hU.apart i o i' o' T T' b (fun e=>hio (by cases e;rfl)) hT hT' hb hb'
end
end
end Go.Ab
namespace Go.Ab
section
variable {P:Program} {w w':World} {σ σ':Nat→Nat} {S:Store} {β:Hs}
def xk:D→List (List D)
 | .sl es=>es
 |_=>[]
def QB(k:Key)(j:Nat):D→C
 | .sl _=>.xp k j []
 |d=>.d d
def DN(k:Key):Nat→List D→List C
 |_,[]=>[]
 |j,d::ds=>QB k j d::DN k (j+1) ds
theorem wW{k:Key}:∀(j:Nat) (r:List D),(DN k j r).length=r.length
 |_,[]=>rfl
 |j,d::ds=>by rw[DN,List.length_cons,wW,List.length_cons]
theorem Nu{k:Key}:∀(r:List D) (j i:Nat),(DN k j r)[i]? =(r[i]?).map (QB k (j+i))
 |[],j,i=>by simp[DN]
 |d::ds,j,0=>rfl
 |d::ds,j,i+1=>by
  rw[DN,List.getElem?_cons_succ,List.getElem?_cons_succ,Nu ds (j+1) i,show j+1+i=j+(i+1) by omega]
def Yg:C→C
 | .d x=>.d x
 | .bO es=>.d (.sl es)
 | .bS _ es=>.d (.sl es)
 | .kW n es=>.d (.ol n es)
 | .ny cs=>.ny cs
 |_=>.any
def Yh:V→V
 | .c x=>.c (Yg x)
 | .agg cs=>.agg (cs.map Yg)
 |_=>.any
theorem OL{c:C}{v:Value}(h:jf w σ S β c v)(S':Store)(β':Hs):jf w σ S' β' (Yg c) v:=by
 cases c with
 |d x=>exact h
 |bO es=>exact h.1
 |bS k es=>exact h.1
 |kW n es=>exact h.1
 |ny cs=>exact h
 |_=>trivial
theorem adD{x:V}{v:Value}(h:dV w σ S β x v)(S':Store)(β':Hs):dV w σ S' β' (Yh x) v:=by
 cases x with
 |c x=>exact⟨OL h.1 _ _,h.2⟩
 |agg cs=>
  obtain⟨a,ha,hl,hc⟩:=h
  refine⟨a,ha,by rw[List.length_map];exact hl,fun i x hx=> ?_⟩
  rw[List.getElem?_map] at hx
  cases hi:cs[i]? with
  |none=>rw[hi] at hx;cases hx
  |some y=>
   rw[hi] at hx;cases hx
   obtain⟨u,q1,q2,q3⟩:=hc i y hi
   exact⟨u,q1,OL q2 _ _,q3⟩
 |_=>trivial
theorem Fj(hl:∀b,b<w.heap.size∨σ b=0)(hg:DC w σ):fK w σ [] [] where
 uW:=hg
 obj:=fun k o h=>by rw[qx] at h;cases h
 apart:=fun k k' o o' h h' b h1=>by rw[qx] at h1;cases h1
 shape:=⟨rfl,fun l fr h=>by simp at h⟩
 live:=hl
theorem BF{β:Hs}{b:Nat}:¬Own [] β b:=fun⟨k,o,h,h1,_⟩=>by rw[qx] at h1;cases h1
def Lj(mk:List C→V)(m:Nat):Prop:=∀w σ S β cs v,cs.length=m→dV w σ S β (mk cs) v→∃vs,gK w σ S β cs vs∧∀w' σ' S' β' cs',cs'.length=m→gK w' σ' S' β' cs' vs→dV w' σ' S' β' (mk cs') v
theorem Yi{m:Nat}:Lj V.agg m:=fun w σ S β cs v _ ⟨a,ha,hc⟩=>⟨a.toList,hc,fun w' σ' S' β' cs' _ hc'=>⟨a,ha,hc'⟩⟩
def Sc:C→Bool
 | .d d=>bU d
 |_=>false
theorem Ll{c:C}{v:Value}(h:Sc c=true)(hr:jf w σ S β c v)(w':World)(σ':Nat→Nat)(S':Store)(β':Hs):jf w' σ' S' β' c v:=by
 cases c with
 |d d=>cases d<;>first|(cases h;done)|(cases hr;constructor)
 |_=>cases h
theorem Yj{m:Nat}(xs:List C)(h:xs.all Sc=true):Lj (fun cs=>.dY ((true,cs)::xs.map fun x=>(false,[x]))) m:=by
 rintro w σ S β cs v _ ⟨a,ha,hl,hc⟩
 obtain⟨u,hu,a',rfl,hcs⟩:=hc 0 _ rfl
 refine⟨a'.toList,hcs,fun w' σ' S' β' cs' _ hc'=>⟨a,ha,hl,fun j y hy=> ?_⟩⟩
 cases j with
 |zero=>simp at hy;subst hy;exact⟨_,hu,a',rfl,hc'⟩
 |succ j=>
  rw[List.getElem?_cons_succ] at hy
  obtain⟨u,h1,h2⟩:=hc (j+1) y (by rw[List.getElem?_cons_succ];exact hy)
  refine⟨u,h1,?_⟩
  rw[List.getElem?_map] at hy
  cases hx:xs[j]? with
  |none=>rw[hx] at hy;cases hy
  |some x=>
   rw[hx] at hy;cases hy
   obtain⟨x',e,h3,h4⟩:=h2
   cases e
   exact⟨x,rfl,Ll (List.all_eq_true.1 h x (List.mem_of_getElem? hx)) h3 _ _ _ _,h4⟩
def vP:Value:=mkT (.slice none 0 0) []
theorem GQ(i o:Nat):kid vP i o=none:=by
 unfold vP
 rw[Nt (fun i o u h=>by simp[oD] at h)];simp[oD]
theorem wC{b:Nat}:¬nA vP b:=fun h=>by
 cases h with
 |here h1 h2=>cases h1
 |kid h1 h2=>rw[GQ] at h1;cases h1
theorem JY(σ:Nat→Nat):∀n:Nat,∃m,∀b,b<n→σ b≤m
 |0=>⟨0,fun b h=>by omega⟩
 |n+1=>by
  obtain⟨m,hm⟩:=JY σ n
  refine⟨max m (σ n),fun b hb=> ?_⟩
  by_cases e:b=n
  ·subst e;omega
  ·have:=hm b (by omega);omega
open Classical in
theorem cB.own{f:FuncId}{args:List V}{bZ:List Obj}{Ω:Store}{mk:List C→V}{r:List D}(hm:Lj mk r.length)(hp:kK r=true)
 (h:∀n,aI P f (args.map Yh) (mk ((eX r n).map .d))):
 cB P f args (bZ::Ω) (fun r' S'=>r'=mk (DN (0,bZ.length) 0 r)∧S'=(bZ++[.xf (r.map xk)])::Ω):=by
 refine⟨(h 0 []).1,fun w σ β vs hS hargs=> ?_⟩
 obtain⟨n,hn⟩:=JY σ w.heap.size
 have aaw:p9 w σ [] [] (args.map Yh) vs:=by
  refine⟨by rw[List.length_map];exact hargs.1,fun j x hx=> ?_⟩
  rw[List.getElem?_map] at hx
  cases ha:args[j]? with
  |none=>rw[ha] at hx;cases hx
  |some y=>
   rw[ha] at hx;cases hx
   obtain⟨v,h1,h2⟩:=hargs.2 j y ha
   exact⟨v,h1,adD h2 _ _⟩
 refine((h n []).2 w σ [] vs (Fj hS.live hS.uW) aaw).mono fun e w' ⟨v,r',S',σ',β',he,hS',hk,hst,hv,hr',hS2⟩=> ?_
 subst hr';subst hS2
 obtain⟨Sd,hcs,hback⟩:=hm w' σ' _ β' _ v (by rw[List.length_map,jg]) hv
 have adE:Sd.length=r.length:=by rw[←hcs.1,List.length_map,jg]
 obtain⟨us,vo⟩:=QA r n (fun j=>Sd.getD j undef) hp (fun j d hd=>by
  obtain⟨u,h1,h2,_⟩:=hcs.2 j (.d d) (by rw[List.getElem?_map,hd];rfl)
  simp only[List.getD_eq_getElem?_getD,h1,Option.getD_some]
  exact h2)
 let h0:Value:=.tuple (us.map fun u=>u.getD vP).toArray
 have hroot:∀j,vB h0 j=(us[j]?).map fun u=>u.getD vP:=fun j=>by simp[h0,vB]
 have hfresh:∀b,jR h0 b→w.heap.size≤b:=by
  rintro b ⟨j,T,h1,h2⟩
  rw[hroot] at h1
  cases hu:us[j]? with
  |none=>rw[hu] at h1;cases h1
  |some u=>
   rw[hu] at h1
   simp only[Option.map_some,Option.some.injEq] at h1
   cases u with
   |none=>subst h1;exact absurd h2 wC
   |some u=>
    simp at h1;subst h1
    obtain⟨c,t,fz,m,a1,a2,a3,a4⟩:=vo.own j u hu b h2
    refine Nat.le_of_not_lt fun hlt=> ?_
    have h1:=(hst.far b hlt BF).2
    have h2:=hn b hlt
    omega
 let σ2:Nat→Nat:=fun b=>if jR h0 b then 0 else σ' b
 have hg:Grow w σ w' σ2:=⟨hst.size,hst.os,hst.output,fun b hb=>by
  obtain⟨h1,h2⟩:=hst.far b hb BF
  exact⟨h1,(if_neg fun hx=>by have:=hfresh b hx;omega).trans h2⟩,fun b=>by
  rcases hS'.live b with hb|hb
  ·exact .inl hb
  ·right;show(if jR h0 b then 0 else σ' b)=0;rw[hb];split<;>rfl⟩
 cases β with
 |nil=>have:=hS.shape.1;simp at this
 |cons bo bΩ=>
 have hlen:bo.length=bZ.length:=by
  obtain⟨gr,g1,g2⟩:=hS.shape.2 0 bZ rfl
  simp at g1;rw[g1];exact g2
 obtain⟨hS3,hk3,adF⟩:=hS.push (o:=.xf (r.map xk)) (h:=h0) hg hlen (by
  refine⟨fun j es hj=> ?_,fun j T hT=> ?_,fun b hb=>if_pos hb,fun j j' T T' x hjj hT hT' hx hx'=> ?_⟩
  ·rw[List.getElem?_map] at hj
   cases hd:r[j]? with
   |none=>rw[hd] at hj;cases hj
   |some d=>
    rw[hd] at hj
    simp only[Option.map_some,Option.some.injEq] at hj
    subst hj
    obtain⟨u,h1,h2⟩:=vo.cell j d hd
    rw[hroot,h1]
    have hsc:(∀es,d≠ .sl es)→∃T,Option.map (fun u=>Option.getD u vP) (some u)=some T∧rD w' (xk d) T:=fun hne=>by
     have hu:u=none:=by cases d<;>first|exact absurd rfl (hne _)|exact h2.1
     have hr0:xk d=[]:=by cases d<;>first|exact absurd rfl (hne _)|rfl
     subst hu
     rw[hr0]
     exact⟨vP,rfl,.nil none 0 _ rfl GQ⟩
    cases d with
    |sl es=>obtain⟨T,rfl,_,_,h6⟩:=h2;exact⟨T,rfl,h6⟩
    |_=>exact hsc (fun es e=>by cases e)
  ·rw[List.length_map]
   rw[hroot] at hT
   cases hu:us[j]? with
   |none=>rw[hu] at hT;cases hT
   |some u=>rw[←vo.len];exact(List.getElem?_eq_some_iff.1 hu).1
  ·rw[hroot] at hT hT'
   cases hu:us[j]? with
   |none=>rw[hu] at hT;cases hT
   |some u=>
    cases hu':us[j']? with
    |none=>rw[hu'] at hT';cases hT'
    |some u'=>
     rw[hu] at hT;rw[hu'] at hT'
     simp only[Option.map_some,Option.some.injEq] at hT hT'
     cases u with
     |none=>subst hT;exact wC hx
     |some u=>
      cases u' with
      |none=>subst hT';exact wC hx'
      |some u'=>simp at hT hT';subst hT;subst hT';exact vo.apart j j' u u' x hjj hu hu' hx hx') (fun b hb=>hfresh b hb)
 refine⟨v,_,_,σ2,(bo++[h0])::bΩ,he,hS3,hk3,adF,?_,rfl,rfl⟩
 refine hback _ _ _ _ _ (by rw[wW]) ⟨by rw[wW,adE],fun j x hx=> ?_⟩
 rw[Nu,Nat.zero_add] at hx
 cases hd:r[j]? with
 |none=>rw[hd] at hx;cases hx
 |some d=>
  rw[hd] at hx
  simp only[Option.map_some,Option.some.injEq] at hx
  obtain⟨u,h1,h2⟩:=vo.cell j d hd
  have hjl:j<(eX r n).length:=by rw[jg];exact(List.getElem?_eq_some_iff.1 hd).1
  obtain⟨v0,h3,_,h4⟩:=hcs.2 j (.d (eX r n)[j]) (by rw[List.getElem?_map,List.getElem?_eq_getElem hjl];rfl)
  have hv0:Sd.getD j undef=v0:=by rw[List.getD_eq_getElem?_getD,h3];rfl
  simp only[hv0] at h2
  refine⟨v0,h3,?_,h4⟩
  have hsc:(∀es,d≠ .sl es)→jf w' σ2 ((bZ++[.xf (r.map xk)])::Ω) ((bo++[h0])::bΩ) (.d d) v0:=fun hne=>by
   have:SD d v0:=by cases d<;>first|exact absurd rfl (hne _)|exact h2.2
   exact KG this
  cases d with
  |sl es=>
   subst hx
   obtain⟨T,rfl,_,h5,_⟩:=h2
   refine⟨_,dH _ _ _,fun rs _=>⟨h0,by rw[←hlen,dH],?_⟩⟩
   unfold Bh
   rw[hroot,h1]
   exact h5
  |_=>subst hx;exact hsc (fun es e=>by cases e)
end
end Go.Ab
namespace Go.Ab
section
variable {P:Program} {w w':World} {σ σ':Nat→Nat} {S:Store} {β:Hs}
def ahK(r:V):Prop:=∀w σ σ2 S β S2 β2 v,(∀b c t fz,w.heap[b]? =some (.cells c t fz)→c.size<σ b→σ2 b=σ b)→dV w σ S β r v→dV w σ2 S2 β2 r v
mutual
theorem akx{σ2:Nat→Nat}(hs:∀b c t fz,w.heap[b]? =some (.cells c t fz)→c.size<σ b→σ2 b=σ b):∀(d:D) (n:Nat) (v:Value),tH d=true→d9 w σ (lI d n) v→d9 w σ2 (lI d n) v
 | .sl es,n,v,hp,h=>by
   rw[lI] at h ⊢
   have hrec:=aeS hs es (n+1)
   generalize eB es (n+1)=q at h hrec ⊢
   cases h with
   |vw n a cap=>exact .vw n a cap
   |ol n b off cap z q vals c t hcap hlen hb hσ hfit hc hv=>exact .ol n b off cap z q vals c t hcap hlen hb ((hs b c t _ hb (by omega)).trans hσ) hfit hc (hrec vals (by simpa [tH] using hp) hv)
 | .ol m es,n,v,hp,h=>by simp[tH] at hp
 | .b x,n,v,hp,h=>by rw[lI] at h ⊢;cases h;constructor
 | .i k x,n,v,hp,h=>by rw[lI] at h ⊢;cases h;constructor
 | .s l,n,v,hp,h=>by rw[lI] at h ⊢;cases h;constructor
 | .o u,n,v,hp,h=>by simp[tH] at hp
theorem ahL{σ2:Nat→Nat}(hs:∀b c t fz,w.heap[b]? =some (.cells c t fz)→c.size<σ b→σ2 b=σ b):∀(r:List D) (n:Nat) (vals:Nat→Value),kK r=true→(∀(j:Nat) (d:D),(eX r n)[j]? =some d→d9 w σ d (vals j))→
 ∀(j:Nat) (d:D),(eX r n)[j]? =some d→d9 w σ2 d (vals j)
 |[],n,vals,hp,h,j,d,hd=>by simp[eX] at hd
 |a::r,n,vals,hp,h,j,d,hd=>by
  rw[kK,Bool.and_eq_true] at hp
  rw[eX] at h hd
  cases j with
  |zero=>
   simp at hd;subst hd
   exact akx hs a n _ hp.1 (h 0 _ rfl)
  |succ j=>exact ahL hs r (n+ow a) (fun i=>vals (i+1)) hp.2 (fun i d hi=>h (i+1) d hi) j d hd
theorem aeS{σ2:Nat→Nat}(hs:∀b c t fz,w.heap[b]? =some (.cells c t fz)→c.size<σ b→σ2 b=σ b):∀(rs:List (List D)) (n:Nat) (vals:Nat→Value),lg rs=true→(∀(j:Nat) (d:D),(eB rs n).flatten[j]? =some d→d9 w σ d (vals j))→
 ∀(j:Nat) (d:D),(eB rs n).flatten[j]? =some d→d9 w σ2 d (vals j)
 |[],n,vals,hp,h,j,d,hd=>by simp[eB] at hd
 |r::rs,n,vals,hp,h,j,d,hd=>by
  rw[lg,Bool.and_eq_true] at hp
  rw[eB,List.flatten_cons] at h hd
  by_cases hj:j<(eX r n).length
  ·rw[List.getElem?_append_left hj] at hd
   exact ahL hs r n vals hp.1 (fun j d hd=>h j d (by rw[List.getElem?_append_left (List.getElem?_eq_some_iff.1 hd).1];exact hd)) j d hd
  ·rw[List.getElem?_append_right (by omega)] at hd
   have:=aeS hs rs (n+sU r) (fun i=>vals ((eX r n).length+i)) hp.2 (fun j d hd=>h _ d (by rw[List.getElem?_append_right (by omega),Nat.add_sub_cancel_left];exact hd)) (j-(eX r n).length) d hd
   rwa [show(eX r n).length+(j-(eX r n).length)=j by omega] at this
end
theorem Fp{c:C}(h:Sc c=true):ahK (.c c):=fun w σ σ2 S β S2 β2 v _ hv=>⟨Ll h hv.1 _ _ _ _,hv.2⟩
theorem rD.data{es:List (List D)}{T v:Value}(h:rD w es T)(hv:hdr T=some v)(hσ:∀b c t fz,nA T b→w.heap[b]? =some (.cells c t fz)→c.size≤σ b):d9 w σ (.sl es) v:=by
 induction h generalizing v with
 |nil a cap T h hk=>rw[h] at hv;cases hv;exact .nil a cap
 |mk b off cap z es T c t vals kids hh hne hcap hlen hb hfit hc hs hk hx hself hap uV ih=>
  rw[hh] at hv;cases hv
  have hpos:0<es.length:=List.length_pos_iff.2 hne
  have hfl:=nG es z hlen
  have hidx:∀j,j<es.length*z→∃hi:j/z<es.length,j % z<z∧j/z*z+j % z=j:=fun j hj=>by
   have hz:0<z:=by rcases Nat.eq_zero_or_pos z with h|h;·rw[h] at hj;simp at hj
                   ·exact h
   exact⟨(Nat.div_lt_iff_lt_mul hz).2 hj,Nat.mod_lt _ hz,by rw[Nat.mul_comm];exact Nat.div_add_mod j z⟩
  have hcell:∀j d,es.flatten[j]? =some d→∃hi:j/z<es.length,cellAt es (j/z) (j % z)=some d∧j/z*z+j % z=j:=fun j d hd=>by
   have hj:j<es.length*z:=by rw[←hfl];exact(List.getElem?_eq_some_iff.1 hd).1
   obtain⟨hi,hm,he⟩:=hidx j hj
   refine⟨hi,?_,he⟩
   have:=flat_get es z hlen (j/z) (j % z) hi hm
   rw[he,hd] at this
   unfold cellAt
   rw[List.getElem?_eq_getElem hi]
   exact this.symm
  refine .sl b off cap z es (fun j=>vals (j/z) (j % z)) c t (0,0) hcap hlen hb (Nat.le_trans hfit (hσ b c t _ (.here hh hpos) hb)) (fun j hj=> ?_) (fun j d hd=> ?_)
  ·obtain⟨hi,hce,he⟩:=hcell j _ (List.getElem?_eq_getElem (by rw[hfl];exact hj))
   have:=hc _ _ _ hce
   rwa [he] at this
  ·obtain⟨hi,hce,he⟩:=hcell j d hd
   rcases hs _ _ _ hce with⟨es',rfl⟩|hsd
   ·obtain⟨k1,k2⟩:=hk _ _ _ hce
    exact ih _ _ _ hce k2 fun b' c' t' Q0 ho hb'=>hσ b' c' t' Q0 (.kid k1 ho) hb'
   ·exact KG hsd
def IQ(k:Key)(rs:List (List (List D))):C→C
 | .xp k' r []=>if k'=k then(match rs[r]? with|some es=>.d (.sl es)|none=>.any) else .any
 | .d x=>.d x
 |_=>.any
def Lm(k:Key)(rs:List (List (List D))):V→V
 | .c x=>.c (IQ k rs x)
 | .agg cs=>.agg (cs.map (IQ k rs))
 |_=>.any
open Classical in
theorem cB.lend{f:FuncId}{args:List V}{k:Key}{rs:List (List (List D))}{r:V}(hk:bI S k=some (.xf rs))(hr:ahK r)(h:aI P f (args.map (Lm k rs)) r):cB P f args S (fun r' S'=>r'=r∧S'=S):=by
 refine⟨(h S).1,fun w σ β vs hS hargs=> ?_⟩
 obtain⟨hh,hb,AO⟩:=hS.obj k _ hk
 obtain⟨hX1,hX2,FZ,VR⟩:=AO
 let Ak:Nat→Nat:=fun b=>match w.heap[b]? with
  |some (.cells c _ _)=>c.size
  |_=>0
 have Sg:∀b c t fz,w.heap[b]? =some (.cells c t fz)→Ak b=c.size:=fun b c t fz e=>by simp[Ak,e]
 have hXlt:∀b,jR hh b→b<w.heap.size:=fun b hb'=>y7 (o:=.xf rs) (S:=S) (β:=β) ⟨hX1,hX2,FZ,VR⟩ hb'
 let σ1:Nat→Nat:=fun b=>if jR hh b then Ak b else σ b
 have hn1:gD w σ w σ1:=fun b c t fz e=>by
  refine⟨?_,fun hlt=> ?_,c,e,rfl,fun _ _=>rfl⟩
  ·show σ b≤if jR hh b then Ak b else σ b
   split
   ·rename_i hx;rw[FZ b hx];exact Nat.zero_le _
   ·exact Nat.le_refl _
  ·show(if jR hh b then Ak b else σ b)=σ b
   rw[if_neg fun hx=>by have:=FZ b hx;omega]
 have hS1:fK w σ1 [] []:=by
  refine Fj (fun b=> ?_) (hS.uW.near hn1)
  by_cases hx:jR hh b
  ·exact .inl (hXlt b hx)
  ·rcases hS.live b with h'|h'
   ·exact .inl h'
   ·right;show(if jR hh b then Ak b else σ b)=0;rw[if_neg hx];exact h'
 have hlc:∀c v,jf w σ S β c v→jf w σ1 [] [] (IQ k rs c) v:=by
  intro c v hc
  unfold IQ
  split
  ·rename_i k' r'
   split
   ·rename_i e
    subst e
    split
    ·rename_i es hes
     obtain⟨o,ho,h2⟩:=hc
     rw[hk] at ho;cases ho
     obtain⟨h',e1,e2⟩:=h2 rs rfl
     rw[hb] at e1;cases e1
     obtain⟨T,q1,q2⟩:=hX1 r' es hes
     unfold Bh at e2
     rw[q1] at e2
     refine q2.data e2 fun b c t fz ho hb'=> ?_
     show c.size≤if jR hh b then Ak b else σ b
     rw[if_pos ⟨r',T,q1,ho⟩,Sg b c t fz hb']
     exact Nat.le_refl _
    ·trivial
   ·trivial
  ·exact d9.mono hn1 hc
  ·trivial
 have GR:p9 w σ1 [] [] (args.map (Lm k rs)) vs:=by
  refine⟨by rw[List.length_map];exact hargs.1,fun j x hx=> ?_⟩
  rw[List.getElem?_map] at hx
  cases ha:args[j]? with
  |none=>rw[ha] at hx;cases hx
  |some y=>
   rw[ha] at hx;cases hx
   obtain⟨v,h1,h2⟩:=hargs.2 j y ha
   refine⟨v,h1,?_⟩
   cases y with
   |c x=>exact⟨hlc x v h2.1,h2.2⟩
   |agg cs=>
    obtain⟨a,e,hl,hc⟩:=h2
    refine⟨a,e,by rw[List.length_map];exact hl,fun i x hx=> ?_⟩
    rw[List.getElem?_map] at hx
    cases hi:cs[i]? with
    |none=>rw[hi] at hx;cases hx
    |some y=>
     rw[hi] at hx;cases hx
     obtain⟨u,q1,q2,q3⟩:=hc i y hi
     exact⟨u,q1,hlc y u q2,q3⟩
   |_=>trivial
 refine((h []).2 w σ1 [] vs hS1 GR).mono fun e w' ⟨v,r',S',σ',β',he,hS',hk',hst,hv,hr',hS2⟩=> ?_
 subst hr';subst hS2
 let σ2:Nat→Nat:=fun b=>if jR hh b then 0 else σ' b
 have hg:Grow w σ w' σ2:=⟨hst.size,hst.os,hst.output,fun b hlt=>by
  obtain⟨h1,h2⟩:=hst.far b hlt BF
  refine⟨h1,?_⟩
  show(if jR hh b then 0 else σ' b)=σ b
  by_cases hx:jR hh b
  ·rw[if_pos hx,FZ b hx]
  ·rw[if_neg hx,h2]
   exact if_neg hx,fun b=>by
  rcases hS'.live b with h'|h'
  ·exact .inl h'
  ·right;show(if jR hh b then 0 else σ' b)=0;rw[h'];split<;>rfl⟩
 refine⟨v,_,_,σ2,β,he,hS.grow hg,Keep.refl _ _,Step.oH hg,?_,rfl,rfl⟩
 refine hr w' σ' σ2 _ _ _ _ v (fun b c t fz e hlt=> ?_) hv
 by_cases hx:jR hh b
 ·obtain⟨h1,h2⟩:=hst.far b (hXlt b hx) BF
  rw[h1] at e
  have:σ1 b=Ak b:=if_pos hx
  rw[h2,this,Sg b c t fz e] at hlt
  omega
 ·exact if_neg hx
end
end Go.Ab
namespace Go.Ab
section
variable {P:Program} {w w':World} {σ σ':Nat→Nat} {S:Store} {β:Hs}
open Classical in
theorem Yk{args:List V}{k:Key}{rs:List (List (List D))}(hk:bI S k=some (.xf rs)){vs:List Value}(hS:fK w σ S β)(hargs:p9 w σ S β args vs):
 ∃(σ1:Nat→Nat) (X:Nat→Prop),(∀b,¬X b→σ1 b=σ b)∧(∀b,X b→σ b=0∧b<w.heap.size)∧(∀b c t fz,X b→w.heap[b]? =some (.cells c t fz)→σ1 b≤c.size)∧fK w σ1 [] []∧p9 w σ1 [] [] (args.map (Lm k rs)) vs:=by
 obtain⟨hh,hb,AO⟩:=hS.obj k _ hk
 obtain⟨hX1,hX2,FZ,VR⟩:=AO
 let Ak:Nat→Nat:=fun b=>match w.heap[b]? with
  |some (.cells c _ _)=>c.size
  |_=>0
 have Sg:∀b c t fz,w.heap[b]? =some (.cells c t fz)→Ak b=c.size:=fun b c t fz e=>by simp[Ak,e]
 have hXlt:∀b,jR hh b→b<w.heap.size:=fun b hb'=>y7 (o:=.xf rs) (S:=S) (β:=β) ⟨hX1,hX2,FZ,VR⟩ hb'
 let σ1:Nat→Nat:=fun b=>if jR hh b then Ak b else σ b
 have hn1:gD w σ w σ1:=fun b c t fz e=>by
  refine⟨?_,fun hlt=> ?_,c,e,rfl,fun _ _=>rfl⟩
  ·show σ b≤if jR hh b then Ak b else σ b
   split
   ·rename_i hx;rw[FZ b hx];exact Nat.zero_le _
   ·exact Nat.le_refl _
  ·show(if jR hh b then Ak b else σ b)=σ b
   rw[if_neg fun hx=>by have:=FZ b hx;omega]
 have hS1:fK w σ1 [] []:=by
  refine Fj (fun b=> ?_) (hS.uW.near hn1)
  by_cases hx:jR hh b
  ·exact .inl (hXlt b hx)
  ·rcases hS.live b with h'|h'
   ·exact .inl h'
   ·right;show(if jR hh b then Ak b else σ b)=0;rw[if_neg hx];exact h'
 have hlc:∀c v,jf w σ S β c v→jf w σ1 [] [] (IQ k rs c) v:=by
  intro c v hc
  unfold IQ
  split
  ·rename_i k' r'
   split
   ·rename_i e
    subst e
    split
    ·rename_i es hes
     obtain⟨o,ho,h2⟩:=hc
     rw[hk] at ho;cases ho
     obtain⟨h',e1,e2⟩:=h2 rs rfl
     rw[hb] at e1;cases e1
     obtain⟨T,q1,q2⟩:=hX1 r' es hes
     unfold Bh at e2
     rw[q1] at e2
     refine q2.data e2 fun b c t fz ho hb'=> ?_
     show c.size≤if jR hh b then Ak b else σ b
     rw[if_pos ⟨r',T,q1,ho⟩,Sg b c t fz hb']
     exact Nat.le_refl _
    ·trivial
   ·trivial
  ·exact d9.mono hn1 hc
  ·trivial
 have GR:p9 w σ1 [] [] (args.map (Lm k rs)) vs:=by
  refine⟨by rw[List.length_map];exact hargs.1,fun j x hx=> ?_⟩
  rw[List.getElem?_map] at hx
  cases ha:args[j]? with
  |none=>rw[ha] at hx;cases hx
  |some y=>
   rw[ha] at hx;cases hx
   obtain⟨v,h1,h2⟩:=hargs.2 j y ha
   refine⟨v,h1,?_⟩
   cases y with
   |c x=>exact⟨hlc x v h2.1,h2.2⟩
   |agg cs=>
    obtain⟨a,e,hl,hc⟩:=h2
    refine⟨a,e,by rw[List.length_map];exact hl,fun i x hx=> ?_⟩
    rw[List.getElem?_map] at hx
    cases hi:cs[i]? with
    |none=>rw[hi] at hx;cases hx
    |some y=>
     rw[hi] at hx;cases hx
     obtain⟨u,q1,q2,q3⟩:=hc i y hi
     exact⟨u,q1,hlc y u q2,q3⟩
   |_=>trivial
 exact⟨σ1,fun b=>jR hh b,fun b hx=>if_neg hx,fun b hx=>⟨FZ b hx,hXlt b hx⟩,fun b c t fz hx e=>by
  show(if jR hh b then Ak b else σ b)≤c.size
  rw[if_pos hx,Sg b c t fz e]
  exact Nat.le_refl _,hS1,GR⟩
open Classical in
theorem cB.aky{f:FuncId}{args:List V}{bZ:List Obj}{Ω:Store}{mk:List C→V}{r:List D}{k:Key}{rs:List (List (List D))}(hk:bI (bZ::Ω) k=some (.xf rs))(hm:Lj mk r.length)(hp:kK r=true)
 (h:∀n,aI P f (args.map (Lm k rs)) (mk ((eX r n).map .d))):
 cB P f args (bZ::Ω) (fun r' S'=>r'=mk (DN (0,bZ.length) 0 r)∧S'=(bZ++[.xf (r.map xk)])::Ω):=by
 refine⟨(h 0 []).1,fun w σ β vs hS hargs=> ?_⟩
 obtain⟨σ1,X,hl1,hl2,hl3,hS1,GR⟩:=Yk hk hS hargs
 obtain⟨n,hn⟩:=JY σ1 w.heap.size
 refine((h n []).2 w σ1 [] vs hS1 GR).mono fun e w' ⟨v,r',S',σ',β',he,hS',hk,hst,hv,hr',hS2⟩=> ?_
 subst hr';subst hS2
 obtain⟨Sd,hcs,hback⟩:=hm w' σ' _ β' _ v (by rw[List.length_map,jg]) hv
 have adE:Sd.length=r.length:=by rw[←hcs.1,List.length_map,jg]
 obtain⟨us,vo⟩:=QA r n (fun j=>Sd.getD j undef) hp (fun j d hd=>by
  obtain⟨u,h1,h2,_⟩:=hcs.2 j (.d d) (by rw[List.getElem?_map,hd];rfl)
  simp only[List.getD_eq_getElem?_getD,h1,Option.getD_some]
  exact h2)
 let h0:Value:=.tuple (us.map fun u=>u.getD vP).toArray
 have hroot:∀j,vB h0 j=(us[j]?).map fun u=>u.getD vP:=fun j=>by simp[h0,vB]
 have hfresh:∀b,jR h0 b→w.heap.size≤b:=by
  rintro b ⟨j,T,h1,h2⟩
  rw[hroot] at h1
  cases hu:us[j]? with
  |none=>rw[hu] at h1;cases h1
  |some u=>
   rw[hu] at h1
   simp only[Option.map_some,Option.some.injEq] at h1
   cases u with
   |none=>subst h1;exact absurd h2 wC
   |some u=>
    simp at h1;subst h1
    obtain⟨c,t,fz,m,a1,a2,a3,a4⟩:=vo.own j u hu b h2
    refine Nat.le_of_not_lt fun hlt=> ?_
    have h1:=(hst.far b hlt BF).2
    have h2:=hn b hlt
    omega
 let σ2:Nat→Nat:=fun b=>if jR h0 b then 0 else if X b then 0 else σ' b
 have hg:Grow w σ w' σ2:=⟨hst.size,hst.os,hst.output,fun b hb=>by
  obtain⟨h1,h2⟩:=hst.far b hb BF
  refine⟨h1,(if_neg fun hx=>by have:=hfresh b hx;omega).trans ?_⟩
  by_cases hx:X b
  ·rw[if_pos hx,(hl2 b hx).1]
  ·rw[if_neg hx,h2,hl1 b hx],fun b=>by
  rcases hS'.live b with hb|hb
  ·exact .inl hb
  ·right;show(if jR h0 b then 0 else if X b then 0 else σ' b)=0;rw[hb];split<;>first|rfl|(split<;>rfl)⟩
 cases β with
 |nil=>have:=hS.shape.1;simp at this
 |cons bo bΩ=>
 have hlen:bo.length=bZ.length:=by
  obtain⟨gr,g1,g2⟩:=hS.shape.2 0 bZ rfl
  simp at g1;rw[g1];exact g2
 obtain⟨hS3,hk3,adF⟩:=hS.push (o:=.xf (r.map xk)) (h:=h0) hg hlen (by
  refine⟨fun j es hj=> ?_,fun j T hT=> ?_,fun b hb=>if_pos hb,fun j j' T T' x hjj hT hT' hx hx'=> ?_⟩
  ·rw[List.getElem?_map] at hj
   cases hd:r[j]? with
   |none=>rw[hd] at hj;cases hj
   |some d=>
    rw[hd] at hj
    simp only[Option.map_some,Option.some.injEq] at hj
    subst hj
    obtain⟨u,h1,h2⟩:=vo.cell j d hd
    rw[hroot,h1]
    have hsc:(∀es,d≠ .sl es)→∃T,Option.map (fun u=>Option.getD u vP) (some u)=some T∧rD w' (xk d) T:=fun hne=>by
     have hu:u=none:=by cases d<;>first|exact absurd rfl (hne _)|exact h2.1
     have hr0:xk d=[]:=by cases d<;>first|exact absurd rfl (hne _)|rfl
     subst hu
     rw[hr0]
     exact⟨vP,rfl,.nil none 0 _ rfl GQ⟩
    cases d with
    |sl es=>obtain⟨T,rfl,_,_,h6⟩:=h2;exact⟨T,rfl,h6⟩
    |_=>exact hsc (fun es e=>by cases e)
  ·rw[List.length_map]
   rw[hroot] at hT
   cases hu:us[j]? with
   |none=>rw[hu] at hT;cases hT
   |some u=>rw[←vo.len];exact(List.getElem?_eq_some_iff.1 hu).1
  ·rw[hroot] at hT hT'
   cases hu:us[j]? with
   |none=>rw[hu] at hT;cases hT
   |some u=>
    cases hu':us[j']? with
    |none=>rw[hu'] at hT';cases hT'
    |some u'=>
     rw[hu] at hT;rw[hu'] at hT'
     simp only[Option.map_some,Option.some.injEq] at hT hT'
     cases u with
     |none=>subst hT;exact wC hx
     |some u=>
      cases u' with
      |none=>subst hT';exact wC hx'
      |some u'=>simp at hT hT';subst hT;subst hT';exact vo.apart j j' u u' x hjj hu hu' hx hx') (fun b hb=>hfresh b hb)
 refine⟨v,_,_,σ2,(bo++[h0])::bΩ,he,hS3,hk3,adF,?_,rfl,rfl⟩
 refine hback _ _ _ _ _ (by rw[wW]) ⟨by rw[wW,adE],fun j x hx=> ?_⟩
 rw[Nu,Nat.zero_add] at hx
 cases hd:r[j]? with
 |none=>rw[hd] at hx;cases hx
 |some d=>
  rw[hd] at hx
  simp only[Option.map_some,Option.some.injEq] at hx
  obtain⟨u,h1,h2⟩:=vo.cell j d hd
  have hjl:j<(eX r n).length:=by rw[jg];exact(List.getElem?_eq_some_iff.1 hd).1
  obtain⟨v0,h3,_,h4⟩:=hcs.2 j (.d (eX r n)[j]) (by rw[List.getElem?_map,List.getElem?_eq_getElem hjl];rfl)
  have hv0:Sd.getD j undef=v0:=by rw[List.getD_eq_getElem?_getD,h3];rfl
  simp only[hv0] at h2
  refine⟨v0,h3,?_,h4⟩
  have hsc:(∀es,d≠ .sl es)→jf w' σ2 ((bZ++[.xf (r.map xk)])::Ω) ((bo++[h0])::bΩ) (.d d) v0:=fun hne=>by
   have:SD d v0:=by cases d<;>first|exact absurd rfl (hne _)|exact h2.2
   exact KG this
  cases d with
  |sl es=>
   subst hx
   obtain⟨T,rfl,_,h5,_⟩:=h2
   refine⟨_,dH _ _ _,fun rs _=>⟨h0,by rw[←hlen,dH],?_⟩⟩
   unfold Bh
   rw[hroot,h1]
   exact h5
  |_=>subst hx;exact hsc (fun es e=>by cases e)
theorem Si:∀{p:List (Nat×Nat)} {es old new:List (List D)},wJ es p=some old→wJ (rZ es p new) p=some new
 |[],_,_,_,_=>rfl
 |(i,o)::p,es,old,new,h=>by
  rw[wJ] at h
  rw[rZ]
  cases hc:cellAt es i o with
  |none=>rw[hc] at h;cases h
  |some d=>
   rw[hc] at h
   cases d with
   |sl es'=>
    simp only at h ⊢
    have hi:i<es.length∧o<(es.getD i []).length:=by
     unfold cellAt at hc
     cases he:es[i]? with
     |none=>rw[he] at hc;cases hc
     |some r=>
      rw[he] at hc
      refine⟨(List.getElem?_eq_some_iff.1 he).1,?_⟩
      rw[List.getD_eq_getElem?_getD,he]
      exact(List.getElem?_eq_some_iff.1 hc).1
    have h2:cellAt (es.set i ((es.getD i []).set o (.sl (rZ es' p new)))) i o=some (.sl (rZ es' p new)):=by
     unfold cellAt
     rw[List.getElem?_set_self hi.1,Option.bind_some,List.getElem?_set_self hi.2]
    rw[wJ,h2]
    exact Si h
   |_=>cases h
theorem zu{es es' new:List (List D)}{i o:Nat}{p:List (Nat×Nat)}(h:cellAt es i o=some (.sl es')):rZ es ((i,o)::p) new=es.set i ((es.getD i []).set o (.sl (rZ es' p new))):=by
 rw[rZ,h]
theorem OM:∀{p:List (Nat×Nat)} {es old a b:List (List D)},wJ es p=some old→rZ (rZ es p a) p b=rZ es p b
 |[],_,_,_,_,_=>rfl
 |(i,o)::p,es,old,a,b,h=>by
  rw[wJ] at h
  cases hc:cellAt es i o with
  |none=>rw[hc] at h;cases h
  |some d=>
   rw[hc] at h
   cases d with
   |sl es'=>
    simp only at h ⊢
    have hi:i<es.length∧o<(es.getD i []).length:=by
     unfold cellAt at hc
     cases he:es[i]? with
     |none=>rw[he] at hc;cases hc
     |some r=>
      rw[he] at hc
      refine⟨(List.getElem?_eq_some_iff.1 he).1,?_⟩
      rw[List.getD_eq_getElem?_getD,he]
      exact(List.getElem?_eq_some_iff.1 hc).1
    have h2:cellAt (es.set i ((es.getD i []).set o (.sl (rZ es' p a)))) i o=some (.sl (rZ es' p a)):=by
     unfold cellAt
     rw[List.getElem?_set_self hi.1,Option.bind_some,List.getElem?_set_self hi.2]
    rw[zu hc,zu hc,zu h2,OM h,List.set_set]
    congr 1
    rw[List.getD_eq_getElem?_getD,List.getElem?_set_self hi.1,Option.getD_some,List.set_set]
   |_=>cases h
theorem Sj:∀{p:List (Nat×Nat)} {es old es':List (List D)} {i o:Nat},wJ es p=some old→cellAt old i o=some (.sl es')→wJ es (p++[(i,o)])=some es'
 |[],es,old,es',i,o,h,hc=>by cases h;rw[List.nil_append,wJ,hc];rfl
 |(i',o')::p,es,old,es',i,o,h,hc=>by
  rw[List.cons_append,wJ]
  rw[wJ] at h
  cases hd:cellAt es i' o' with
  |none=>rw[hd] at h;cases h
  |some d=>
   rw[hd] at h
   cases d with
   |sl e=>exact Sj h hc
   |_=>cases h
theorem OO:∀{p:List (Nat×Nat)} {es old es' new:List (List D)} {i o:Nat},wJ es p=some old→cellAt old i o=some (.sl es')→rZ es (p++[(i,o)]) new=rZ es p (old.set i ((old.getD i []).set o (.sl new)))
 |[],es,old,es',new,i,o,h,hc=>by cases h;rw[List.nil_append,zu hc];rfl
 |(i',o')::p,es,old,es',new,i,o,h,hc=>by
  rw[List.cons_append]
  rw[wJ] at h
  cases hd:cellAt es i' o' with
  |none=>rw[hd] at h;cases h
  |some d=>
   rw[hd] at h
   cases d with
   |sl e=>simp only at h;rw[zu hd,zu hd,OO h hc]
   |_=>cases h
theorem GU{rs:List (List (List D))}{r:Nat}{p:List (Nat×Nat)}{old:List (List D)}(h:atR rs r p=some old):∃hr:r<rs.length,wJ rs[r] p=some old:=by
 unfold atR at h
 cases hr:rs[r]? with
 |none=>rw[hr] at h;cases h
 |some es=>
  rw[hr] at h
  obtain⟨h1,h2⟩:=List.getElem?_eq_some_iff.1 hr
  exact⟨h1,by rw[h2];exact h⟩
theorem lJ{rs:List (List (List D))}{r:Nat}{p:List (Nat×Nat)}{old new:List (List D)}(h:atR rs r p=some old):atR (dG rs r p new) r p=some new:=by
 obtain⟨hr,h⟩:=GU h
 unfold atR dG
 rw[List.getElem?_set_self hr,Option.bind_some,List.getD_eq_getElem?_getD,List.getElem?_eq_getElem hr,Option.getD_some]
 exact Si h
theorem kT{rs:List (List (List D))}{r:Nat}{p:List (Nat×Nat)}{old a b:List (List D)}(h:atR rs r p=some old):dG (dG rs r p a) r p b=dG rs r p b:=by
 obtain⟨hr,h⟩:=GU h
 unfold dG
 rw[List.set_set,List.getD_eq_getElem?_getD,List.getElem?_set_self hr,List.getD_eq_getElem?_getD,List.getElem?_eq_getElem hr,Option.getD_some,Option.getD_some,OM h]
theorem OP:∀{p:List (Nat×Nat)} {es old:List (List D)},wJ es p=some old→rZ es p old=es
 |[],_,_,h=>by cases h;rfl
 |(i,o)::p,es,old,h=>by
  rw[wJ] at h
  cases hc:cellAt es i o with
  |none=>rw[hc] at h;cases h
  |some d=>
   rw[hc] at h
   cases d with
   |sl es'=>
    simp only at h
    rw[zu hc,OP h]
    unfold cellAt at hc
    cases he:es[i]? with
    |none=>rw[he] at hc;cases hc
    |some r=>
     rw[he] at hc
     obtain⟨h1,h2⟩:=List.getElem?_eq_some_iff.1 he
     obtain⟨h3,h4⟩:=List.getElem?_eq_some_iff.1 hc
     rw[List.getD_eq_getElem?_getD,he,Option.getD_some,←h4,List.set_getElem_self,←h2,List.set_getElem_self]
   |_=>cases h
theorem lT{rs:List (List (List D))}{r:Nat}{p:List (Nat×Nat)}{old:List (List D)}(h:atR rs r p=some old):dG rs r p old=rs:=by
 obtain⟨hr,h⟩:=GU h
 unfold dG
 rw[List.getD_eq_getElem?_getD,List.getElem?_eq_getElem hr,Option.getD_some,OP h,List.set_getElem_self]
theorem fI{rs:List (List (List D))}{r i o:Nat}{p:List (Nat×Nat)}{old es':List (List D)}(h:atR rs r p=some old)(hc:cellAt old i o=some (.sl es')):atR rs r (p++[(i,o)])=some es':=by
 obtain⟨hr,h⟩:=GU h
 unfold atR
 rw[List.getElem?_eq_getElem hr,Option.bind_some]
 exact Sj h hc
theorem aax{rs:List (List (List D))}{r i o:Nat}{p:List (Nat×Nat)}{old es' new:List (List D)}(h:atR rs r p=some old)(hc:cellAt old i o=some (.sl es')):
 dG rs r (p++[(i,o)]) new=dG rs r p (old.set i ((old.getD i []).set o (.sl new))):=by
 obtain⟨hr,h⟩:=GU h
 unfold dG
 rw[List.getD_eq_getElem?_getD,List.getElem?_eq_getElem hr,Option.getD_some,OO h hc]
theorem vQ{rs:List (List (List D))}{r r':Nat}{p p':List (Nat×Nat)}{new:List (List D)}(h:r≠r'):atR (dG rs r p new) r' p'=atR rs r' p':=by
 unfold atR dG
 rw[List.getElem?_set_ne h]
end
end Go.Ab
namespace Go.Proofs.YtocpgjlbagncjaaGreatDoor.Fa
open Go Go.Ab
abbrev fA (t c b:Nat) (z:List C):Prop:=Tryz.prog.cellsOf t=c∧Tryz.prog.bytesOf t=b∧(Tryz.prog.info? t).isSome=true∧lD Tryz.prog t=some z
theorem fD{t c b:Nat}{z:List C}(h1:Tryz.prog.cellsOf t=c:=by kernel_rfl)(h2:Tryz.prog.bytesOf t=b:=by kernel_rfl)(h3:(Tryz.prog.info? t).isSome=true:=by kernel_rfl)(h4:lD Tryz.prog t=some z:=by kernel_rfl):fA t c b z:=⟨h1,h2,h3,h4⟩
theorem ty1:fA 1 1 8 [.d (.o .nilFunc)]:=fD
theorem ty2:fA 2 1 8 [.d (.i .i64 0)]:=fD
theorem ty3:fA 3 1 8 [.d (.i .i64 0)]:=fD
theorem ty4:fA 4 1 1 [.d (.b false)]:=fD
theorem ai4:zeroV Tryz.prog 4=some (.bool false):=by kernel_rfl
theorem ty5:fA 5 1 1 [.d (.i .u8 0)]:=fD
theorem ty9:fA 9 1 16 [.d (.s [])]:=fD
theorem akz:fA 12 1 8 [.d (.i .u64 0)]:=fD
theorem akA:fA 20 1 16 [.d (.o .nilIface)]:=fD
theorem akB:fA 21 1 4 [.d (.i .i32 0)]:=fD
theorem akC:fA 22 1 24 [.bO []]:=fD
theorem akD:fA 23 2 40 [.d (.s []),.bO []]:=fD
theorem akE:fA 24 2 40 [.d (.s []),.bO []]:=fD
theorem akF:fA 25 1 8 [.d (.o .nilFunc)]:=fD
theorem akG:fA 26 1 24 [.bO []]:=fD
theorem akH:fA 27 1 24 [.bO []]:=fD
theorem akI:fA 28 1 24 [.bO []]:=fD
theorem akJ:fA 29 1 24 [.bO []]:=fD
theorem akK:fA 30 1 24 [.bO []]:=fD
theorem akL:fA 31 6 136 [.d (.s []),.bO [],.bO [],.bO [],.bO [],.bO []]:=fD
theorem akM:fA 32 6 136 [.d (.s []),.bO [],.bO [],.bO [],.bO [],.bO []]:=fD
theorem akN:fA 34 1 8 [.d (.o .nilFunc)]:=fD
theorem akO:fA 35 1 24 [.bO []]:=fD
theorem akP:fA 36 2 40 [.d (.s []),.bO []]:=fD
theorem akQ:fA 37 2 40 [.d (.s []),.bO []]:=fD
theorem akR:fA 38 1 8 [.d (.o .nilFunc)]:=fD
theorem akS:fA 39 1 8 [.d (.o .nilFunc)]:=fD
theorem akT:fA 40 1 8 [.d (.o .nilFunc)]:=fD
theorem akU:fA 41 1 8 [.d (.o .nilFunc)]:=fD
theorem akV:fA 42 1 8 [.d (.o .nilFunc)]:=fD
theorem akW:fA 43 1 8 [.d (.o .nilFunc)]:=fD
theorem akX:fA 44 1 24 [.bO []]:=fD
theorem akY:fA 46 3 48 [.d (.i .i64 0),.d (.s []),.bO []]:=fD
theorem akZ:fA 47 1 24 [.bO []]:=fD
theorem ak0:fA 48 1 24 [.bO []]:=fD
theorem ak1:fA 49 9 144 [.d (.i .i64 0),.d (.s []),.d (.s []),.d (.i .i64 0),.d (.i .i64 0),.d (.s []),.bO [],.bO [],.bO []]:=fD
theorem ak2:fA 50 9 144 [.d (.i .i64 0),.d (.s []),.d (.s []),.d (.i .i64 0),.d (.i .i64 0),.d (.s []),.bO [],.bO [],.bO []]:=fD
theorem ak3:fA 52 1 8 [.d (.o .nilFunc)]:=fD
theorem ak4:fA 53 1 8 [.d (.o .nilFunc)]:=fD
theorem ak5:fA 54 1 8 [.d (.o .nilFunc)]:=fD
theorem ak6:fA 55 1 8 [.d (.o .nilFunc)]:=fD
theorem ak7:fA 56 1 8 [.d (.o .nilFunc)]:=fD
theorem ak8:fA 57 1 24 [.bO []]:=fD
theorem ak9:fA 58 1 24 [.bO []]:=fD
theorem ala:fA 59 1 24 [.bO []]:=fD
theorem alb:fA 63 1 8 [.d (.o .nilFunc)]:=fD
theorem alc:fA 64 1 8 [.d (.o .nilFunc)]:=fD
theorem ald:fA 67 1 8 [.d (.o .nilFunc)]:=fD
theorem ale:fA 68 1 8 [.d (.o .nilFunc)]:=fD
theorem alf:fA 69 1 8 [.d (.o .nilFunc)]:=fD
theorem alg:fA 70 1 8 [.d (.o (.pointer none))]:=fD
theorem alh:fA 71 1 8 [.d (.o .nilFunc)]:=fD
theorem ali:fA 82 1 8 [.d (.o .nilFunc)]:=fD
theorem alj:fA 83 1 8 [.d (.o .nilFunc)]:=fD
theorem alk:fA 84 1 8 [.d (.o .nilFunc)]:=fD
theorem alm:fA 89 1 8 [.d (.o .nilFunc)]:=fD
theorem aln:fA 91 1 8 [.d (.o .nilFunc)]:=fD
theorem alo:fA 92 1 8 [.d (.o .nilFunc)]:=fD
theorem alp:fA 93 1 8 [.d (.o .nilFunc)]:=fD
theorem alq:fA 95 1 8 [.d (.o .nilFunc)]:=fD
theorem alr:fA 96 1 8 [.d (.o .nilFunc)]:=fD
theorem als:fA 97 1 8 [.d (.o .nilFunc)]:=fD
theorem alu:fA 99 1 8 [.d (.o .nilFunc)]:=fD
theorem ai5:fA 100 1 24 [.bO []]:=fD
theorem ai6:fA 101 5 72 [.d (.s []),.bO [],.d (.b false),.d (.b false),.bO []]:=fD
theorem ai7:fA 102 5 72 [.d (.s []),.bO [],.d (.b false),.d (.b false),.bO []]:=fD
theorem ai8:fA 105 1 24 [.bO []]:=fD
theorem ai9:fA 107 3 64 [.d (.s []),.bO [],.bO []]:=fD
theorem aja:fA 110 1 24 [.bO []]:=fD
theorem ajb:fA 111 1 24 [.bO []]:=fD
theorem ajc:fA 113 12 192 [.d (.s []),.bO [],.d (.i .i64 0),.d (.s []),.bO [],.bO [],.d (.b false),.d (.b false),.d (.i .i64 0),.d (.s []),.bO [],.bO []]:=fD
theorem ajd:fA 116 1 24 [.bO []]:=fD
theorem aje:fA 118 16 280 [.d (.s []),.bO [],.bO [],.bO [],.d (.i .i64 0),.d (.s []),.bO [],.d (.i .i64 0),.d (.s []),.d (.s []),.d (.i .i64 0),.d (.i .i64 0),.d (.s []),.bO [],.bO [],.bO []]:=fD
theorem ajf:fA 127 1 8 [.d (.o .nilFunc)]:=fD
theorem ajg:fA 128 1 8 [.d (.o .nilFunc)]:=fD
theorem ajh:fA 129 1 8 [.d (.o .nilFunc)]:=fD
theorem aji:fA 149 1 8 [.d (.o .nilFunc)]:=fD
theorem ajj:fA 151 1 24 [.bO []]:=fD
theorem ajk:fA 154 1 8 [.d (.o .nilFunc)]:=fD
theorem ajl:fA 156 11 184 [.d (.s []),.bO [],.d (.i .i64 0),.d (.s []),.d (.s []),.d (.i .i64 0),.d (.i .i64 0),.d (.s []),.bO [],.bO [],.bO []]:=fD
theorem ajm:fA 158 1 24 [.bO []]:=fD
theorem ajn:fA 172 16 264 [.d (.s []),.bO [],.d (.i .i64 0),.d (.s []),.bO [],.d (.b false),.bO [],.d (.i .i64 0),.d (.s []),.d (.s []),.d (.i .i64 0),.d (.i .i64 0),.d (.s []),.bO [],.bO [],.bO []]:=fD
theorem ajo:fA 175 2 40 [.d (.s []),.bO []]:=fD
theorem ajp:fA 179 11 184 [.d (.s []),.bO [],.d (.i .i64 0),.d (.s []),.d (.s []),.d (.i .i64 0),.d (.i .i64 0),.d (.s []),.bO [],.bO [],.bO []]:=fD
theorem ajq:fA 182 4 64 [.d (.s []),.d (.i .i64 0),.d (.s []),.bO []]:=fD
theorem ajr:fA 187 4 96 [.bO [],.bO [],.bO [],.bO []]:=fD
theorem ajs:fA 192 1 8 [.d (.o .nilFunc)]:=fD
theorem ajt:fA 204 4 64 [.d (.s []),.d (.i .i64 0),.d (.s []),.bO []]:=fD
theorem aju:fA 235 1 8 [.d (.o (.map none))]:=fD
theorem ajv:fA 239 1 8 [.d (.o .nilFunc)]:=fD
theorem ajw:fA 242 1 8 [.d (.o .nilFunc)]:=fD
theorem ajx:fA 255 1 8 [.d (.o .nilFunc)]:=fD
theorem ajy:fA 267 1 16 [.d (.o .nilIface)]:=fD
theorem ajz:fA 276 1 8 [.d (.i .u64 0)]:=fD
theorem ajA:fA 292 1 24 [.bO []]:=fD
theorem ajB:fA 297 1 8 [.d (.o (.pointer none))]:=fD
theorem ajC:fA 300 24 24 [.d (.i .u8 0),.d (.i .u8 0),.d (.i .u8 0),.d (.i .u8 0),.d (.i .u8 0),.d (.i .u8 0),.d (.i .u8 0),.d (.i .u8 0),.d (.i .u8 0),.d (.i .u8 0),.d (.i .u8 0),.d (.i .u8 0),.d (.i .u8 0),.d (.i .u8 0),.d (.i .u8 0),.d (.i .u8 0),.d (.i .u8 0),.d (.i .u8 0),.d (.i .u8 0),.d (.i .u8 0),.d (.i .u8 0),.d (.i .u8 0),.d (.i .u8 0),.d (.i .u8 0)]:=fD
theorem ajD:fA 301 1 8 [.d (.i .u64 0)]:=fD
theorem ajE:fA 306 1 4 [.d (.i .u32 0)]:=fD
theorem ajF:fA 313 3 48 [.d (.s []),.d (.s []),.d (.o .nilIface)]:=fD
theorem ajG:fA 316 20 160 [.d (.i .u64 0),.d (.i .u64 0),.d (.i .u64 0),.d (.i .u64 0),.d (.i .u64 0),.d (.i .u64 0),.d (.i .u64 0),.d (.i .u64 0),.d (.i .u64 0),.d (.i .u64 0),.d (.i .u64 0),.d (.i .u64 0),.d (.i .u64 0),.d (.i .u64 0),.d (.i .u64 0),.d (.i .u64 0),.d (.i .u64 0),.d (.i .u64 0),.d (.i .u64 0),.d (.i .u64 0)]:=fD
theorem ajH:fA 317 65 65 [.d (.i .u8 0),.d (.i .u8 0),.d (.i .u8 0),.d (.i .u8 0),.d (.i .u8 0),.d (.i .u8 0),.d (.i .u8 0),.d (.i .u8 0),.d (.i .u8 0),.d (.i .u8 0),.d (.i .u8 0),.d (.i .u8 0),.d (.i .u8 0),.d (.i .u8 0),.d (.i .u8 0),.d (.i .u8 0),.d (.i .u8 0),.d (.i .u8 0),.d (.i .u8 0),.d (.i .u8 0),.d (.i .u8 0),.d (.i .u8 0),.d (.i .u8 0),.d (.i .u8 0),.d (.i .u8 0),.d (.i .u8 0),.d (.i .u8 0),.d (.i .u8 0),.d (.i .u8 0),.d (.i .u8 0),.d (.i .u8 0),.d (.i .u8 0),.d (.i .u8 0),.d (.i .u8 0),.d (.i .u8 0),.d (.i .u8 0),.d (.i .u8 0),.d (.i .u8 0),.d (.i .u8 0),.d (.i .u8 0),.d (.i .u8 0),.d (.i .u8 0),.d (.i .u8 0),.d (.i .u8 0),.d (.i .u8 0),.d (.i .u8 0),.d (.i .u8 0),.d (.i .u8 0),.d (.i .u8 0),.d (.i .u8 0),.d (.i .u8 0),.d (.i .u8 0),.d (.i .u8 0),.d (.i .u8 0),.d (.i .u8 0),.d (.i .u8 0),.d (.i .u8 0),.d (.i .u8 0),.d (.i .u8 0),.d (.i .u8 0),.d (.i .u8 0),.d (.i .u8 0),.d (.i .u8 0),.d (.i .u8 0),.d (.i .u8 0)]:=fD
theorem ajI:fA 321 1 8 [.d (.o (.pointer none))]:=fD
theorem ajJ:fA 322 1 8 [.d (.o (.pointer none))]:=fD
theorem ajK:fA 324 1 16 [.d (.s [])]:=fD
theorem ajL:fA 326 32 32 [.d (.i .u8 0),.d (.i .u8 0),.d (.i .u8 0),.d (.i .u8 0),.d (.i .u8 0),.d (.i .u8 0),.d (.i .u8 0),.d (.i .u8 0),.d (.i .u8 0),.d (.i .u8 0),.d (.i .u8 0),.d (.i .u8 0),.d (.i .u8 0),.d (.i .u8 0),.d (.i .u8 0),.d (.i .u8 0),.d (.i .u8 0),.d (.i .u8 0),.d (.i .u8 0),.d (.i .u8 0),.d (.i .u8 0),.d (.i .u8 0),.d (.i .u8 0),.d (.i .u8 0),.d (.i .u8 0),.d (.i .u8 0),.d (.i .u8 0),.d (.i .u8 0),.d (.i .u8 0),.d (.i .u8 0),.d (.i .u8 0),.d (.i .u8 0)]:=fD
theorem ajM:fA 327 64 64 [.d (.i .u8 0),.d (.i .u8 0),.d (.i .u8 0),.d (.i .u8 0),.d (.i .u8 0),.d (.i .u8 0),.d (.i .u8 0),.d (.i .u8 0),.d (.i .u8 0),.d (.i .u8 0),.d (.i .u8 0),.d (.i .u8 0),.d (.i .u8 0),.d (.i .u8 0),.d (.i .u8 0),.d (.i .u8 0),.d (.i .u8 0),.d (.i .u8 0),.d (.i .u8 0),.d (.i .u8 0),.d (.i .u8 0),.d (.i .u8 0),.d (.i .u8 0),.d (.i .u8 0),.d (.i .u8 0),.d (.i .u8 0),.d (.i .u8 0),.d (.i .u8 0),.d (.i .u8 0),.d (.i .u8 0),.d (.i .u8 0),.d (.i .u8 0),.d (.i .u8 0),.d (.i .u8 0),.d (.i .u8 0),.d (.i .u8 0),.d (.i .u8 0),.d (.i .u8 0),.d (.i .u8 0),.d (.i .u8 0),.d (.i .u8 0),.d (.i .u8 0),.d (.i .u8 0),.d (.i .u8 0),.d (.i .u8 0),.d (.i .u8 0),.d (.i .u8 0),.d (.i .u8 0),.d (.i .u8 0),.d (.i .u8 0),.d (.i .u8 0),.d (.i .u8 0),.d (.i .u8 0),.d (.i .u8 0),.d (.i .u8 0),.d (.i .u8 0),.d (.i .u8 0),.d (.i .u8 0),.d (.i .u8 0),.d (.i .u8 0),.d (.i .u8 0),.d (.i .u8 0),.d (.i .u8 0),.d (.i .u8 0)]:=fD
theorem laidOut:laidOutB Tryz.prog=true:=by kernel_rfl
theorem own:ownKnob Tryz.prog.godebug=none:=by kernel_rfl
attribute [go_sem] ty1 Tryz.underlying1 ty2 Tryz.underlying2 ty3 Tryz.underlying3 ty4 Tryz.underlying4 ai4 ty5 Tryz.underlying5 ty9 Tryz.underlying9 akz Tryz.underlying12 akA Tryz.underlying20 akB Tryz.underlying21 akC Tryz.underlying22 akD Tryz.underlying23 akE Tryz.underlying24 akF Tryz.underlying25 akG Tryz.underlying26 akH Tryz.underlying27 akI Tryz.underlying28 akJ Tryz.underlying29 akK Tryz.underlying30 akL Tryz.underlying31 akM Tryz.underlying32 akN Tryz.underlying34 akO Tryz.underlying35 akP Tryz.underlying36 akQ Tryz.underlying37 akR Tryz.underlying38 akS Tryz.underlying39 akT Tryz.underlying40 akU Tryz.underlying41 akV Tryz.underlying42 akW Tryz.underlying43 akX Tryz.underlying44 akY Tryz.underlying46 akZ Tryz.underlying47 ak0 Tryz.underlying48 ak1 Tryz.underlying49 ak2 Tryz.underlying50 ak3 Tryz.underlying52 ak4 Tryz.underlying53 ak5 Tryz.underlying54 ak6 Tryz.underlying55 ak7 Tryz.underlying56 ak8 Tryz.underlying57 ak9 Tryz.underlying58 ala Tryz.underlying59 alb Tryz.underlying63 alc Tryz.underlying64 ald Tryz.underlying67 ale Tryz.underlying68 alf Tryz.underlying69 alg Tryz.underlying70 alh Tryz.underlying71 ali Tryz.underlying82 alj Tryz.underlying83 alk Tryz.underlying84 alm Tryz.underlying89 aln Tryz.underlying91 alo Tryz.underlying92 alp Tryz.underlying93 alq Tryz.underlying95 alr Tryz.underlying96 als Tryz.underlying97 alu Tryz.underlying99 ai5 Tryz.underlying100 ai6 Tryz.underlying101 ai7 Tryz.underlying102 ai8 Tryz.underlying105 ai9 Tryz.underlying107 aja Tryz.underlying110 ajb Tryz.underlying111 ajc Tryz.underlying113 ajd Tryz.underlying116 aje Tryz.underlying118 ajf Tryz.underlying127 ajg Tryz.underlying128 ajh Tryz.underlying129 aji Tryz.underlying149 ajj Tryz.underlying151 ajk Tryz.underlying154 ajl Tryz.underlying156 ajm Tryz.underlying158 ajn Tryz.underlying172 ajo Tryz.underlying175 ajp Tryz.underlying179 ajq Tryz.underlying182 ajr Tryz.underlying187 ajs Tryz.underlying192 ajt Tryz.underlying204 aju Tryz.underlying235 ajv Tryz.underlying239 ajw Tryz.underlying242 ajx Tryz.underlying255 ajy Tryz.underlying267 ajz Tryz.underlying276 ajA Tryz.underlying292 ajB Tryz.underlying297 ajC Tryz.underlying300 ajD Tryz.underlying301 ajE Tryz.underlying306 ajF Tryz.underlying313 ajG Tryz.underlying316 ajH Tryz.underlying317 ajI Tryz.underlying321 ajJ Tryz.underlying322 ajK Tryz.underlying324 ajL Tryz.underlying326 ajM Tryz.underlying327
end Go.Proofs.YtocpgjlbagncjaaGreatDoor.Fa
namespace Go.Proofs.YtocpgjlbagncjaaGreatDoor
open Go Go.Ab
theorem pQ(xs ys:List (List UInt8))(hsz:xs.length≤1073741824):aI Tryz.prog 39 [.c (.d (.sl (xs.map encS))),.c (.d (.sl (ys.map encS)))] (.c (.d (.b (dec (xs=ys))))):=by
 intro S
 refine aG (rs:=[.tmp 4]) Tryz.checked.mixed Tryz.func39 Tryz.ntmps39 rfl rfl rfl rfl rfl ?_
 refine W1 ?_
 refine S0 (fun hb h=>?_) fun hb h=>?_
 ·exact aB (aF (fun e=>h (by rw[e]))).symm
 have hl:xs.length=ys.length:=by omega
 refine aT (ι:=Nat) Tryz.checked.mixed rfl [0,1,5] (fun y=>[.c (.d (.sl (xs.map encS))),.c (.d (.sl (ys.map encS))),.c (.d (.i .i64 y))]) (fun y=>[]::S)
  (fun i=>i≤xs.length∧∀j,j<i→xs[j]? =ys[j]?) (fun y=>xs.length-y) 0 rfl rfl ⟨Nat.zero_le _,fun j h=>by omega⟩ ?_
 rintro i ⟨p1,p2⟩
 refine W1 ?_
 refine S0 (fun hb h=>?_) fun hb h=>?_
 ·have hi:i<xs.length:=by omega
  have hi':i<ys.length:=by omega
  refine W3 ?_
  refine S0 (fun hb h=>?_) fun hb h=>?_
  ·exact aB (aF (fun e=>h (by simp only[e]))).symm
  refine bP (i+1) (by omega) rfl rfl ⟨by omega,fun j hj=> ?_⟩
  by_cases e:j=i
  ·subst e
   rw[List.getElem?_eq_getElem hi,List.getElem?_eq_getElem hi',h]
  ·exact p2 j (by omega)
 ·have hi:i=xs.length:=by omega
  refine aB (bA (List.ext_getElem? fun j=> ?_)).symm
  by_cases hj:j<i
  ·exact p2 j hj
  ·rw[List.getElem?_eq_none (by omega),List.getElem?_eq_none (by omega)]
end Go.Proofs.YtocpgjlbagncjaaGreatDoor
namespace Go.Ab
def Fq(n:Nat)(out:List UInt8):List UInt8:=if h:n=0 then out else Fq (n/10) (UInt8.ofNat (48+n % 10)::out)
termination_by n
decreasing_by omega
def eU(k:Int):List UInt8:=if k≤0 then [109,48] else 109::Fq k.toNat []
theorem aay{out:List UInt8}:Fq 0 out=out:=by rw[Fq];simp
theorem adG{n:Nat}{out:List UInt8}(h:n≠0):Fq n out=Fq (n/10) (UInt8.ofNat (48+n % 10)::out):=by rw[Fq];simp[h]
mutual
def iP:D→Nat
 | .sl es=>ak es
 | .b _=>1
 | .i _ _=>1
 | .s _=>1
 | .o _=>0
 | .ol _ _=>0
def iQ:List D→Nat
 |[]=>0
 |d::ds=>iP d+iQ ds
def ak:List (List D)→Nat
 |[]=>0
 |r::rs=>iQ r+ak rs
end
mutual
def sJ:D→Int→D
 | .sl es,k=>.sl (bV es k)
 | .b _,k=>.b (decide (k.tmod 3=0))
 | .i kd _,k=>.i kd k
 | .s _,k=>.s (eU k)
 | .o v,_=>.o v
 | .ol n es,_=>.ol n es
def jv:List D→Int→List D
 |[],_=>[]
 |d::ds,k=>sJ d k::jv ds (k+iP d)
def bV:List (List D)→Int→List (List D)
 |[],_=>[]
 |r::rs,k=>jv r k::bV rs (k+iQ r)
end
mutual
def xW:D→Bool
 | .sl es=>mq es
 | .b _=>true
 | .i _ _=>true
 | .s _=>true
 | .o _=>true
 | .ol _ _=>true
def lF:List D→Bool
 |[]=>true
 |d::ds=>xW d&&lF ds
def mq:List (List D)→Bool
 |[]=>true
 |r::rs=>decide (r.length≤32)&&lF r&&mq rs
end
mutual
theorem ajN:∀d:D,xW d=true→iP d≤32*d.sz+1
 | .sl es,h=>by
   have:=aaz es (by simpa [xW] using h)
   simp only[iP,D.sz];omega
 | .b _,_=>by simp[iP]
 | .i _ _,_=>by simp[iP]
 | .s _,_=>by simp[iP]
 | .o _,_=>by simp[iP]
 | .ol _ _,_=>by simp[iP]
theorem Lp:∀r:List D,lF r=true→iQ r≤32*cu r+r.length
 |[],_=>by simp[iQ]
 |d::ds,h=>by
  rw[lF,Bool.and_eq_true] at h
  have h1:=ajN d h.1
  have h2:=Lp ds h.2
  simp only[iQ,cu,List.length_cons];omega
theorem aaz:∀rs:List (List D),mq rs=true→ak rs≤32*(rs.length+bD rs)
 |[],_=>by simp[ak]
 |r::rs,h=>by
  rw[mq,Bool.and_eq_true,Bool.and_eq_true,decide_eq_true_eq] at h
  have h1:=Lp r h.1.2
  have h2:=aaz rs h.2
  simp only[ak,bD,List.length_cons];omega
end
theorem iY:∀a b,lF (a++b)=(lF a&&lF b)
 |[],b=>by simp[lF]
 |d::ds,b=>by rw[List.cons_append,lF,lF,iY ds b,Bool.and_assoc]
theorem mK{α:Type}{f:α→List D}:∀{xs:List α},(∀x∈xs,lF (f x)=true∧(f x).length≤32)→mq (xs.map f)=true
 |[],_=>rfl
 |x::xs,h=>by
  rw[List.map_cons,mq,(h x (by simp)).1,mK fun y hy=>h y (by simp[hy]),decide_eq_true (h x (by simp)).2];rfl
theorem DR:∀a b,ak (a++b)=ak a+ak b
 |[],b=>by simp[ak]
 |d::ds,b=>by rw[List.cons_append,ak,ak,DR ds b];omega
theorem Js:∀a b k,bV (a++b) k=bV a k++bV b (k+ak a)
 |[],b,k=>by simp[bV,ak]
 |d::ds,b,k=>by rw[List.cons_append,bV,bV,Js ds b,ak];simp only[List.cons_append,Int.natCast_add,Int.add_assoc]
theorem aW:∀rs k,(bV rs k).length=rs.length
 |[],_=>rfl
 |r::rs,k=>by rw[bV,List.length_cons,aW rs,List.length_cons]
theorem Sk{rows:List (List D)}{i:Nat}(hi:i<rows.length):rows.take (i+1)=rows.take i++[rows[i]]:=List.take_succ_eq_append_getElem hi
theorem gI{rows:List (List D)}{i:Nat}(hi:i<rows.length):ak (rows.take (i+1))=ak (rows.take i)+iQ rows[i]:=by
 rw[Sk hi,DR];simp[ak]
theorem iU{rows:List (List D)}{i:Nat}:ak (rows.take i)≤ak rows:=by
 have:=DR (rows.take i) (rows.drop i)
 rw[List.take_append_drop] at this
 omega
def nL(rows:List (List D))(k:Int)(i:Nat):List (List D):=bV (rows.take i) k++rows.drop i
theorem lU{rows:List (List D)}{k:Int}:nL rows k 0=rows:=by simp[nL,bV]
theorem nM{rows:List (List D)}{k:Int}{i:Nat}(h:rows.length≤i):nL rows k i=bV rows k:=by
 unfold nL;rw[List.take_of_length_le h,List.drop_of_length_le h,List.append_nil]
theorem iC{rows:List (List D)}{k:Int}{i:Nat}:(nL rows k i).length=rows.length:=by
 unfold nL;rw[List.length_append,aW,List.length_take,List.length_drop];omega
theorem adH{rows:List (List D)}{k:Int}{i:Nat}(hi:i<rows.length):(nL rows k i).getD i []=rows[i]:=by
 unfold nL
 rw[List.getD_eq_getElem?_getD,List.getElem?_append_right (by rw[aW,List.length_take];omega),aW,List.length_take,List.getElem?_drop]
 rw[show i+(i-min i rows.length)=i by omega,List.getElem?_eq_getElem hi];rfl
theorem adI{rows:List (List D)}{k:Int}{i:Nat}(hi:i<rows.length):(nL rows k i).set i (jv rows[i] (k+ak (rows.take i)))=nL rows k (i+1):=by
 unfold nL
 have hl:(bV (rows.take i) k).length=i:=by rw[aW,List.length_take];omega
 rw[List.set_append_right _ _ (by omega),hl,Nat.sub_self,List.drop_eq_getElem_cons hi,List.set_cons_zero,Sk hi,Js,List.append_assoc]
 rfl
def jk(rows:List (List D))(k:Int)(i:Nat)(row:List D):List (List D):=(nL rows k i).set i row
theorem bG{rows:List (List D)}{k:Int}{i:Nat}{row:List D}:(jk rows k i row).length=rows.length:=by unfold jk;rw[List.length_set,iC]
theorem mM{rows:List (List D)}{k:Int}{i:Nat}{row:List D}(hi:i<rows.length):(jk rows k i row).getD i []=row:=by
 unfold jk
 rw[List.getD_eq_getElem?_getD,List.getElem?_set_self (by rw[iC];exact hi)];rfl
theorem kD{rows:List (List D)}{k:Int}{i o:Nat}{row:List D}(hi:i<rows.length):cellAt (jk rows k i row) i o=row[o]? :=by
 unfold jk cellAt
 rw[List.getElem?_set_self (by rw[iC];exact hi),Option.bind_some]
theorem bW{rows:List (List D)}{k:Int}{i:Nat}{row row':List D}:(jk rows k i row).set i row'=jk rows k i row':=by unfold jk;rw[List.set_set]
theorem qd{rows:List (List D)}{k:Int}{i:Nat}(hi:i<rows.length):nL rows k i=jk rows k i rows[i]:=by
 have h:=adH (k:=k) hi
 have hl:i<(nL rows k i).length:=by rw[iC];exact hi
 rw[List.getD_eq_getElem?_getD,List.getElem?_eq_getElem hl,Option.getD_some] at h
 unfold jk
 rw[←h,List.set_getElem_self]
theorem qg{rows:List (List D)}{k:Int}{i:Nat}(hi:i<rows.length):jk rows k i (jv rows[i] (k+ak (rows.take i)))=nL rows k (i+1):=adI hi
theorem af0{rs:List (List (List D))}{r:Nat}{p:List (Nat×Nat)}{rows es:List (List D)}{k:Int}{i o:Nat}{row:List D}(hp:atR rs r p=some rows)(hi:i<rows.length)(h:row[o]? =some (.sl es)):
 atR (dG rs r p (jk rows k i row)) r (p++[(i,o)])=some es:=fI (lJ hp) (by rw[kD hi,h])
theorem adJ{rs:List (List (List D))}{r:Nat}{p:List (Nat×Nat)}{rows es new:List (List D)}{k:Int}{i o:Nat}{row:List D}(hp:atR rs r p=some rows)(hi:i<rows.length)(h:row[o]? =some (.sl es)):
 dG (dG rs r p (jk rows k i row)) r (p++[(i,o)]) new=dG rs r p (jk rows k i (row.set o (.sl new))):=by
 rw[aax (lJ hp) (by rw[kD hi,h]),kT hp,mM hi,bW]
theorem gV:∀{rows:List (List D)} {k:Int} {i:Nat} (hi:i<rows.length),(bV rows k).getD i []=jv rows[i] (k+ak (rows.take i))
 |r::rows,k,0,_=>by simp[bV,ak]
 |r::rows,k,i+1,hi=>by
  have:=gV (rows:=rows) (k:=k+iQ r) (i:=i) (by simpa using hi)
  rw[bV,List.getD_cons_succ,this,List.getElem_cons_succ,List.take_succ_cons,ak,Int.natCast_add,Int.add_assoc]
theorem jB{α:Type}{f:α→List D}(h:∀x,1≤iQ (f x)):∀xs:List α,xs.length≤ak (xs.map f)
 |[]=>Nat.zero_le _
 |x::xs=>by
  have h1:=h x
  have h2:=jB h xs
  rw[List.map_cons,ak,List.length_cons]
  omega
theorem gQ{P:Program}{f:FuncId}{S:Store}{l j r i o:Nat}{p:List (Nat×Nat)}{rs:List (List (List D))}{rows es new:List (List D)}{row:List D}{k:Int}{args:List V}{R:V}
 (hS:bI S (l,j)=some (.xf rs)) (hp:atR rs r p=some rows) (hi:i<rows.length) (h:row[o]? =some (.sl es))
 (hA:∀(S':Store) (rs':List (List (List D))),bI S' (1+l,j)=some (.xf rs')→atR rs' r (p++[(i,o)])=some es→cB P f args S' (fun res FX=>res=R∧FX=bQ S' (1+l,j) (.xf (dG rs' r (p++[(i,o)]) new)))):
 cB P f args ([]::bQ S (l,j) (.xf (dG rs r p (jk rows k i row)))) (fun res FX=>res=R∧FX=[]::bQ S (l,j) (.xf (dG rs r p (jk rows k i (row.set o (.sl new)))))):=by
 refine(hA _ _ (by rw[dR];exact dK _ _ _ _ hS) (af0 (k:=k) hp hi h)).mono fun res FX ⟨h1,h2⟩=>⟨h1,?_⟩
 rw[h2,vI,bq,adJ hp hi h]
theorem Sl:∀{rows:List (List D)} {n i:Nat} (hi:i<rows.length),(eB rows n)[i]? =some (eX rows[i] (n+iW (rows.take i)))
 |r::rows,n,0,_=>by simp[eB,iW]
 |r::rows,n,i+1,hi=>by
  have:=Sl (rows:=rows) (n:=n+sU r) (i:=i) (by simpa using hi)
  rw[eB,List.getElem?_cons_succ,this,List.getElem_cons_succ,List.take_succ_cons,iW,Nat.add_assoc]
theorem Sm:∀row:List D,(row.map C.d).mapM KD=some row
 |[]=>rfl
 |d::row=>by
  have:=Sm row
  rw[List.map_cons,List.mapM_cons,this];rfl
theorem fC{a:Int}(h:0≤a):decide (a<0)=false:=decide_eq_false (by omega)
end Go.Ab
namespace Go.Proofs.YtocpgjlbagncjaaGreatDoor
open Go Go.Ab
theorem bR(k:Int)(hk: -9223372036854775808≤k∧k≤4611686018427387904):aI Tryz.prog 106 [.c (.d (.i .i64 k))] (.c (.d (.s (eU k)))):=fun S=>by
 refine aG (rs:=[.tmp 2]) Tryz.checked.mixed Tryz.func106 Tryz.ntmps106 rfl rfl rfl rfl rfl ?_
 refine W1 ?_
 refine S0 (fun hb h=>?_) fun hb h=>?_
 ·unfold eU;rw[if_pos h]
 have hpos:¬k≤0:=h
 refine aT (ι:=Int×List UInt8) Tryz.checked.mixed rfl [0,3] (fun y=>[.c (.d (.i .i64 y.1)),.c (.d (.s y.2))]) (fun _=>[]::S)
  (fun y=>0≤y.1∧Fq y.1.toNat y.2=Fq k.toNat []∧y.1≤k∧y.1.toNat*2^y.2.length≤4611686018427387904∧y.2.length≤63) (fun y=>y.1.toNat) (k,[]) rfl rfl ⟨by simp only;omega,rfl,by simp only;omega,by simp only[List.length_nil];omega,by simp⟩ ?_
 rintro⟨n,out⟩ ⟨p1,p2,p3,p4,p5⟩
 simp only at p1 p2 p3 p4 p5
 refine W1 ?_
 refine S0 (fun hb h=>?_) fun hb h=>?_
 ·have hn:n.toNat≠0:=by omega
  have hm:=Int.tmod_nonneg 10 p1
  have hm2:=Int.tmod_lt_of_pos n (show(0:Int)<10 by omega)
  have hm3:n.tmod 10=(n.toNat % 10:Nat):=by
   rw[Int.tmod_eq_emod_of_nonneg p1]
   omega
  have hq:n.tdiv 10=(n.toNat/10:Nat):=by
   rw[Int.tdiv_eq_ediv_of_nonneg p1]
   omega
  have hlen:out.length≤62:=by
   refine Nat.le_of_not_lt fun hgt=> ?_
   have h1:2^63≤2^out.length:=Nat.pow_le_pow_right (by omega) (by omega)
   have h2:1*2^out.length≤n.toNat*2^out.length:=Nat.mul_le_mul_right _ (by omega)
   omega
  refine W1 ?_
  have hc:UInt8.ofNat (IntKind.u8.wrap (48+n.tmod 10)).toNat=UInt8.ofNat (48+n.toNat % 10):=by
   rw[wrap_u8 _ (by omega),hm3]
   congr 1
  refine bP (ι:=Int×List UInt8) (n.tdiv 10,UInt8.ofNat (48+n.toNat % 10)::out) (by simp only;omega) (by rw[←hc];rfl) rfl ?_
  have hq2:(n.tdiv 10).toNat=n.toNat/10:=by omega
  refine⟨by simp only;omega,?_,by simp only;omega,?_,by simp only[List.length_cons];omega⟩
  ·simp only
   rw[hq2,←adG hn,p2]
  ·simp only[List.length_cons]
   rw[hq2,Nat.pow_succ]
   have:n.toNat/10*2≤n.toNat:=by omega
   calc n.toNat/10*(2^out.length*2)=n.toNat/10*2*2^out.length:=by rw[Nat.mul_comm (2^out.length) 2,Nat.mul_assoc]
    _≤n.toNat*2^out.length:=Nat.mul_le_mul_right _ this
    _≤_:=p4
 ·have:n.toNat=0:=by omega
  rw[this,aay] at p2
  unfold eU
  rw[if_neg hpos,p2]
end Go.Proofs.YtocpgjlbagncjaaGreatDoor
namespace Go.Ab
theorem xX(xs:List (List UInt8)):lg (xs.map encS)=true:=mJ fun _ _=>rfl
theorem xY(xs:List (List UInt8)):mq (xs.map encS)=true:=mK fun _ _=>⟨rfl,by simp[encS]⟩
theorem uh:∀(xs:List (List UInt8)) (n:Nat),eB (xs.map encS) n=xs.map encS
 |[],_=>rfl
 |x::xs,n=>by rw[List.map_cons,eB,uh xs];rfl
mutual
theorem au.gP:∀x:au,kK x.enc=true∧lF x.enc=true
 | .mk a0 a1 a2=>by simp only[au.enc,kK,tH,lF,xW,iX,iY,Bool.and_true,Bool.true_and,Bool.and_self,and_self,and_true,true_and,(au.qY a2).1,(au.qY a2).2]
theorem au.qY:∀xs:List au,lg (au.encs xs)=true∧mq (au.encs xs)=true
 |[]=>⟨rfl,rfl⟩
 |x::xs=>by
  have h:decide ((au.enc x).length≤32)=true:=by rw[au.dn];rfl
  simp only[au.encs,lg,mq,h,(au.gP x).1,(au.gP x).2,(au.qY xs).1,(au.qY xs).2,Bool.and_self,and_self]
end
theorem au.jF(xs:List au):lg (xs.map au.enc)=true∧mq (xs.map au.enc)=true:=by rw[←au.kS];exact au.qY xs
theorem eH.gP(x:eH):kK x.enc=true∧lF x.enc=true:=by
 rw[eH.aD];simp only[List.cons_append,List.nil_append,kK,tH,lF,xW,iX,iY,Bool.and_true,Bool.true_and,Bool.and_self,and_self,and_true,true_and,(au.gP x.fType).1,(au.gP x.fType).2]
theorem eH.jF(xs:List eH):lg (xs.map eH.enc)=true∧mq (xs.map eH.enc)=true:=⟨mJ fun x _=>x.gP.1,mK fun x _=>⟨x.gP.2,by rw[eH.dn];decide⟩⟩
theorem aO.gP(x:aO):kK x.enc=true∧lF x.enc=true:=by
 rw[aO.aD];simp only[List.cons_append,List.nil_append,kK,tH,lF,xW,iX,iY,Bool.and_true,Bool.true_and,Bool.and_self,and_self,and_true,true_and,(au.gP x.fType).1,(au.gP x.fType).2]
theorem aO.jF(xs:List aO):lg (xs.map aO.enc)=true∧mq (xs.map aO.enc)=true:=⟨mJ fun x _=>x.gP.1,mK fun x _=>⟨x.gP.2,by rw[aO.dn];decide⟩⟩
mutual
theorem ay.gP:∀x:ay,kK x.enc=true∧lF x.enc=true
 | .mk a0 a1 a2 a3 a4 a5 a6=>by simp only[ay.enc,kK,tH,lF,xW,iX,iY,Bool.and_true,Bool.true_and,Bool.and_self,and_self,and_true,true_and,(au.gP a4).1,(au.gP a4).2,(ay.qY a5).1,(ay.qY a5).2,(aR.qY a6).1,(aR.qY a6).2]
theorem ay.qY:∀xs:List ay,lg (ay.encs xs)=true∧mq (ay.encs xs)=true
 |[]=>⟨rfl,rfl⟩
 |x::xs=>by
  have h:decide ((ay.enc x).length≤32)=true:=by rw[ay.dn];rfl
  simp only[ay.encs,lg,mq,h,(ay.gP x).1,(ay.gP x).2,(ay.qY xs).1,(ay.qY xs).2,Bool.and_self,and_self]
theorem aR.gP:∀x:aR,kK x.enc=true∧lF x.enc=true
 | .mk a0 a1 a2=>by simp only[aR.enc,kK,tH,lF,xW,iX,iY,Bool.and_true,Bool.true_and,Bool.and_self,and_self,and_true,true_and,xX a1,xY a1,(ay.gP a2).1,(ay.gP a2).2]
theorem aR.qY:∀xs:List aR,lg (aR.encs xs)=true∧mq (aR.encs xs)=true
 |[]=>⟨rfl,rfl⟩
 |x::xs=>by
  have h:decide ((aR.enc x).length≤32)=true:=by rw[aR.dn];rfl
  simp only[aR.encs,lg,mq,h,(aR.gP x).1,(aR.gP x).2,(aR.qY xs).1,(aR.qY xs).2,Bool.and_self,and_self]
end
theorem ay.jF(xs:List ay):lg (xs.map ay.enc)=true∧mq (xs.map ay.enc)=true:=by rw[←ay.kS];exact ay.qY xs
theorem aR.jF(xs:List aR):lg (xs.map aR.enc)=true∧mq (xs.map aR.enc)=true:=by rw[←aR.kS];exact aR.qY xs
mutual
theorem aj.gP:∀x:aj,kK x.enc=true∧lF x.enc=true
 | .mk a0 a1=>by simp only[aj.enc,kK,tH,lF,xW,iX,iY,Bool.and_true,Bool.true_and,Bool.and_self,and_self,and_true,true_and,(aj.qY a1).1,(aj.qY a1).2]
theorem aj.qY:∀xs:List aj,lg (aj.encs xs)=true∧mq (aj.encs xs)=true
 |[]=>⟨rfl,rfl⟩
 |x::xs=>by
  have h:decide ((aj.enc x).length≤32)=true:=by rw[aj.dn];rfl
  simp only[aj.encs,lg,mq,h,(aj.gP x).1,(aj.gP x).2,(aj.qY xs).1,(aj.qY xs).2,Bool.and_self,and_self]
end
theorem aj.jF(xs:List aj):lg (xs.map aj.enc)=true∧mq (xs.map aj.enc)=true:=by rw[←aj.kS];exact aj.qY xs
theorem aN.gP(x:aN):kK x.enc=true∧lF x.enc=true:=by
 rw[aN.aD];simp only[List.cons_append,List.nil_append,kK,tH,lF,xW,iX,iY,Bool.and_true,Bool.true_and,Bool.and_self,and_self,and_true,true_and,(au.jF x.aJ).1,(au.jF x.aJ).2,(au.gP x.aU).1,(au.gP x.aU).2,xX x.aA,xY x.aA,(ay.gP x.fBody).1,(ay.gP x.fBody).2]
theorem aN.jF(xs:List aN):lg (xs.map aN.enc)=true∧mq (xs.map aN.enc)=true:=⟨mJ fun x _=>x.gP.1,mK fun x _=>⟨x.gP.2,by rw[aN.dn];decide⟩⟩
theorem bC.gP(x:bC):kK x.enc=true∧lF x.enc=true:=by
 rw[bC.aD];simp only[List.cons_append,List.nil_append,kK,tH,lF,xW,iX,iY,Bool.and_true,Bool.true_and,Bool.and_self,and_self,and_true,true_and,xX x.bF,xY x.bF,(aN.jF x.aC).1,(aN.jF x.aC).2]
theorem bC.jF(xs:List bC):lg (xs.map bC.enc)=true∧mq (xs.map bC.enc)=true:=⟨mJ fun x _=>x.gP.1,mK fun x _=>⟨x.gP.2,by rw[bC.dn];decide⟩⟩
theorem aM.gP(x:aM):kK x.enc=true∧lF x.enc=true:=by
 rw[aM.aD];simp only[List.cons_append,List.nil_append,kK,tH,lF,xW,iX,iY,Bool.and_true,Bool.true_and,Bool.and_self,and_self,and_true,true_and,(au.jF x.fG).1,(au.jF x.fG).2]
theorem aM.jF(xs:List aM):lg (xs.map aM.enc)=true∧mq (xs.map aM.enc)=true:=⟨mJ fun x _=>x.gP.1,mK fun x _=>⟨x.gP.2,by rw[aM.dn];decide⟩⟩
theorem aS.gP(x:aS):kK x.enc=true∧lF x.enc=true:=by
 rw[aS.aD];simp only[List.cons_append,List.nil_append,kK,tH,lF,xW,iX,iY,Bool.and_true,Bool.true_and,Bool.and_self,and_self,and_true,true_and,xX x.aA,xY x.aA,(aM.jF x.aH).1,(aM.jF x.aH).2]
theorem aS.jF(xs:List aS):lg (xs.map aS.enc)=true∧mq (xs.map aS.enc)=true:=⟨mJ fun x _=>x.gP.1,mK fun x _=>⟨x.gP.2,by rw[aS.dn];decide⟩⟩
theorem bH.gP(x:bH):kK x.enc=true∧lF x.enc=true:=by
 rw[bH.aD];simp only[List.cons_append,List.nil_append,kK,tH,lF,xW,iX,iY,Bool.and_true,Bool.true_and,Bool.and_self,and_self,and_true,true_and,xX x.aA,xY x.aA,(ay.gP x.fBody).1,(ay.gP x.fBody).2]
theorem bH.jF(xs:List bH):lg (xs.map bH.enc)=true∧mq (xs.map bH.enc)=true:=⟨mJ fun x _=>x.gP.1,mK fun x _=>⟨x.gP.2,by rw[bH.dn];decide⟩⟩
theorem aQ.gP(x:aQ):kK x.enc=true∧lF x.enc=true:=by
 rw[aQ.aD];simp only[List.cons_append,List.nil_append,kK,tH,lF,xW,iX,iY,Bool.and_true,Bool.true_and,Bool.and_self,and_self,and_true,true_and,xX x.aA,xY x.aA,(au.gP x.bM).1,(au.gP x.bM).2,(aO.jF x.bn).1,(aO.jF x.bn).2,(au.gP x.bK).1,(au.gP x.bK).2,(bH.jF x.aL).1,(bH.jF x.aL).2]
theorem aQ.jF(xs:List aQ):lg (xs.map aQ.enc)=true∧mq (xs.map aQ.enc)=true:=⟨mJ fun x _=>x.gP.1,mK fun x _=>⟨x.gP.2,by rw[aQ.dn];decide⟩⟩
theorem bg.gP(x:bg):kK x.enc=true∧lF x.enc=true:=by
 rw[bg.aD];simp only[List.cons_append,List.nil_append,kK,tH,lF,xW,iX,iY,Bool.and_true,Bool.true_and,Bool.and_self,and_self,and_true,true_and,(au.gP x.fType).1,(au.gP x.fType).2]
theorem bg.jF(xs:List bg):lg (xs.map bg.enc)=true∧mq (xs.map bg.enc)=true:=⟨mJ fun x _=>x.gP.1,mK fun x _=>⟨x.gP.2,by rw[bg.dn];decide⟩⟩
theorem aY.gP(x:aY):kK x.enc=true∧lF x.enc=true:=by
 rw[aY.aD];simp only[List.cons_append,List.nil_append,kK,tH,lF,xW,iX,iY,Bool.and_true,Bool.true_and,Bool.and_self,and_self,and_true,true_and,xX x.aA,xY x.aA,(aO.jF x.bn).1,(aO.jF x.bn).2,(bg.jF x.aJ).1,(bg.jF x.aJ).2,(au.gP x.aU).1,(au.gP x.aU).2,(ay.gP x.fBody).1,(ay.gP x.fBody).2]
theorem aY.jF(xs:List aY):lg (xs.map aY.enc)=true∧mq (xs.map aY.enc)=true:=⟨mJ fun x _=>x.gP.1,mK fun x _=>⟨x.gP.2,by rw[aY.dn];decide⟩⟩
theorem bB.gP(x:bB):kK x.enc=true∧lF x.enc=true:=by
 rw[bB.aD];simp only[List.cons_append,List.nil_append,kK,tH,lF,xW,iX,iY,Bool.and_true,Bool.true_and,Bool.and_self,and_self,and_true,true_and,xX x.fU,xY x.fU,(bC.jF x.dz).1,(bC.jF x.dz).2,(aS.jF x.aX).1,(aS.jF x.aX).2,(aQ.jF x.dx).1,(aQ.jF x.dx).2,(aY.jF x.cZ).1,(aY.jF x.cZ).2]
theorem bB.jF(xs:List bB):lg (xs.map bB.enc)=true∧mq (xs.map bB.enc)=true:=⟨mJ fun x _=>x.gP.1,mK fun x _=>⟨x.gP.2,by rw[bB.dn];decide⟩⟩
theorem fV.gP(x:fV):kK x.enc=true∧lF x.enc=true:=by
 rw[fV.aD];simp only[List.cons_append,List.nil_append,kK,tH,lF,xW,iX,iY,Bool.and_true,Bool.true_and,Bool.and_self,and_self,and_true,true_and,(bB.jF x.rP).1,(bB.jF x.rP).2]
theorem fV.jF(xs:List fV):lg (xs.map fV.enc)=true∧mq (xs.map fV.enc)=true:=⟨mJ fun x _=>x.gP.1,mK fun x _=>⟨x.gP.2,by rw[fV.dn];decide⟩⟩
theorem eD.gP(x:eD):kK x.enc=true∧lF x.enc=true:=by
 rw[eD.aD];simp only[List.cons_append,List.nil_append,kK,tH,lF,xW,iX,iY,Bool.and_true,Bool.true_and,Bool.and_self,and_self,and_true,true_and]
theorem eD.jF(xs:List eD):lg (xs.map eD.enc)=true∧mq (xs.map eD.enc)=true:=⟨mJ fun x _=>x.gP.1,mK fun x _=>⟨x.gP.2,by rw[eD.dn];decide⟩⟩
end Go.Ab
namespace Go.Proofs.YtocpgjlbagncjaaGreatDoor
open Go Go.Ab
theorem Fu:∀n:Nat,(∀x:au,SizeOf.sizeOf x<n→∀y:au,x.sz≤1048576→aI Tryz.prog 60 [x.v,y.v] (.c (.d (.b (dec (x=y))))))∧
 (∀xs:List au,SizeOf.sizeOf xs<n→∀ys:List au,xs.length+bD (xs.map au.enc)≤1048576→aI Tryz.prog 130 [.c (.d (.sl (xs.map au.enc))),.c (.d (.sl (ys.map au.enc)))] (.c (.d (.b (dec (xs=ys))))))
 |0=>⟨fun x h=>by omega,fun x h=>by omega⟩
 |n+1=>by
  obtain⟨GV,af2⟩:=Fu n
  refine⟨fun x hn y hsz S=> ?_,fun xs hn ys hsz S=> ?_⟩
  ·have jS:=au.gM x
   simp only[au.sz,au.aD,cu,bN,D.sz,List.length_map] at hsz
   refine aG (rs:=[.tmp 4]) Tryz.checked.mixed Tryz.func60 Tryz.ntmps60 rfl rfl rfl rfl rfl ?_
   refine W1 ?_
   refine S0 (fun hb h=>?_) fun hb h=>?_
   ·exact aB (aF (fun e=>h (by rw[e]))).symm
   have Yl:=h
   clear h
   refine S0 (fun hb h=>?_) fun hb h=>?_
   ·exact aB (aF (fun e=>h (by rw[e]))).symm
   have qJ:=h
   clear h
   refine C1 (af2 x.fArgs (by omega) _ (by omega)) ?_
   refine S0 (fun hb h=>?_) fun hb h=>?_
   ·exact aB (aF (fun e=>h (by rw[e]))).symm
   have eArgs:=h
   clear h
   exact aB (bA (au.ext Yl qJ eArgs)).symm
  ·refine aG (rs:=[.tmp 4]) Tryz.checked.mixed Tryz.func130 Tryz.ntmps130 rfl rfl rfl rfl rfl ?_
   refine W1 ?_
   refine S0 (fun hb h=>?_) fun hb h=>?_
   ·exact aB (aF (fun e=>h (by rw[e]))).symm
   have hl:xs.length=ys.length:=by omega
   refine aT (ι:=Nat) Tryz.checked.mixed rfl [0,1,5] (fun y=>[.c (.d (.sl (xs.map au.enc))),.c (.d (.sl (ys.map au.enc))),.c (.d (.i .i64 y))]) (fun y=>[]::S)
    (fun i=>i≤xs.length∧∀j,j<i→xs[j]? =ys[j]?) (fun y=>xs.length-y) 0 rfl rfl ⟨Nat.zero_le _,fun j h=>by omega⟩ ?_
   rintro i ⟨p1,p2⟩
   refine W1 ?_
   refine S0 (fun hb h=>?_) fun hb h=>?_
   ·have hi:i<xs.length:=by omega
    have hi':i<ys.length:=by omega
    have hx:xs[i].sz≤bD (xs.map au.enc):=dA (List.mem_map_of_mem (List.getElem_mem hi))
    refine W3 ?_
    refine C1 (GV xs[i] (by have:=List.sizeOf_lt_of_mem (List.getElem_mem hi);omega) ys[i] (by omega)) ?_
    refine S0 (fun hb h=>?_) fun hb h=>?_
    ·exact aB (aF (fun e=>h (by simp only[e]))).symm
    refine bP (i+1) (by omega) rfl rfl ⟨by omega,fun j hj=> ?_⟩
    by_cases e:j=i
    ·subst e
     rw[List.getElem?_eq_getElem hi,List.getElem?_eq_getElem hi',h]
    ·exact p2 j (by omega)
   ·have hi:i=xs.length:=by omega
    refine aB (bA (List.ext_getElem? fun j=> ?_)).symm
    by_cases hj:j<i
    ·exact p2 j hj
    ·rw[List.getElem?_eq_none (by omega),List.getElem?_eq_none (by omega)]
theorem vR(x:au):∀y:au,x.sz≤1048576→aI Tryz.prog 60 [x.v,y.v] (.c (.d (.b (dec (x=y))))):=(Fu _).1 x (Nat.lt_succ_self _)
theorem Lr(xs:List au):∀ys:List au,xs.length+bD (xs.map au.enc)≤1048576→aI Tryz.prog 130 [.c (.d (.sl (xs.map au.enc))),.c (.d (.sl (ys.map au.enc)))] (.c (.d (.b (dec (xs=ys))))):=(Fu _).2 xs (Nat.lt_succ_self _)
end Go.Proofs.YtocpgjlbagncjaaGreatDoor
namespace Go.Proofs.YtocpgjlbagncjaaGreatDoor
open Go Go.Ab
end Go.Proofs.YtocpgjlbagncjaaGreatDoor
namespace Go.Proofs.YtocpgjlbagncjaaGreatDoor
open Go Go.Ab
theorem Ym(x:aO):∀y:aO,x.sz≤1048576→aI Tryz.prog 266 [x.v,y.v] (.c (.d (.b (dec (x=y))))):=by
 intro y hsz S
 simp only[aO.sz,aO.aD,cu,bN,D.sz,List.length_map,au.dZ] at hsz
 refine aG (rs:=[.tmp 4]) Tryz.checked.mixed Tryz.func266 Tryz.ntmps266 rfl rfl rfl rfl rfl ?_
 refine W1 ?_
 refine S0 (fun hb h=>?_) fun hb h=>?_
 ·exact aB (aF (fun e=>h (by rw[e]))).symm
 have GX:=h
 clear h
 refine C1 (vR x.fType _ (by omega)) ?_
 refine S0 (fun hb h=>?_) fun hb h=>?_
 ·exact aB (aF (fun e=>h (by rw[e]))).symm
 have eType:=h
 clear h
 exact aB (bA (aO.ext' GX eType)).symm
theorem Jt(xs:List aO):∀ys:List aO,xs.length+bD (xs.map aO.enc)≤1048576→aI Tryz.prog 191 [.c (.d (.sl (xs.map aO.enc))),.c (.d (.sl (ys.map aO.enc)))] (.c (.d (.b (dec (xs=ys))))):=by
 intro ys hsz S
 refine aG (rs:=[.tmp 4]) Tryz.checked.mixed Tryz.func191 Tryz.ntmps191 rfl rfl rfl rfl rfl ?_
 refine W1 ?_
 refine S0 (fun hb h=>?_) fun hb h=>?_
 ·exact aB (aF (fun e=>h (by rw[e]))).symm
 have hl:xs.length=ys.length:=by omega
 refine aT (ι:=Nat) Tryz.checked.mixed rfl [0,1,5] (fun y=>[.c (.d (.sl (xs.map aO.enc))),.c (.d (.sl (ys.map aO.enc))),.c (.d (.i .i64 y))]) (fun y=>[]::S)
  (fun i=>i≤xs.length∧∀j,j<i→xs[j]? =ys[j]?) (fun y=>xs.length-y) 0 rfl rfl ⟨Nat.zero_le _,fun j h=>by omega⟩ ?_
 rintro i ⟨p1,p2⟩
 refine W1 ?_
 refine S0 (fun hb h=>?_) fun hb h=>?_
 ·have hi:i<xs.length:=by omega
  have hi':i<ys.length:=by omega
  have hx:xs[i].sz≤bD (xs.map aO.enc):=dA (List.mem_map_of_mem (List.getElem_mem hi))
  refine W3 ?_
  refine C1 (Ym xs[i] ys[i] (by omega)) ?_
  refine S0 (fun hb h=>?_) fun hb h=>?_
  ·exact aB (aF (fun e=>h (by simp only[e]))).symm
  refine bP (i+1) (by omega) rfl rfl ⟨by omega,fun j hj=> ?_⟩
  by_cases e:j=i
  ·subst e
   rw[List.getElem?_eq_getElem hi,List.getElem?_eq_getElem hi',h]
  ·exact p2 j (by omega)
 ·have hi:i=xs.length:=by omega
  refine aB (bA (List.ext_getElem? fun j=> ?_)).symm
  by_cases hj:j<i
  ·exact p2 j hj
  ·rw[List.getElem?_eq_none (by omega),List.getElem?_eq_none (by omega)]
end Go.Proofs.YtocpgjlbagncjaaGreatDoor
namespace Go.Proofs.YtocpgjlbagncjaaGreatDoor
open Go Go.Ab
theorem Ls:∀n:Nat,(∀x:ay,SizeOf.sizeOf x<n→∀y:ay,x.sz≤1048576→aI Tryz.prog 18 [x.v,y.v] (.c (.d (.b (dec (x=y))))))∧
 (∀xs:List ay,SizeOf.sizeOf xs<n→∀ys:List ay,xs.length+bD (xs.map ay.enc)≤1048576→aI Tryz.prog 61 [.c (.d (.sl (xs.map ay.enc))),.c (.d (.sl (ys.map ay.enc)))] (.c (.d (.b (dec (xs=ys))))))∧
 (∀x:aR,SizeOf.sizeOf x<n→∀y:aR,x.sz≤1048576→aI Tryz.prog 131 [x.v,y.v] (.c (.d (.b (dec (x=y))))))∧
 (∀xs:List aR,SizeOf.sizeOf xs<n→∀ys:List aR,xs.length+bD (xs.map aR.enc)≤1048576→aI Tryz.prog 62 [.c (.d (.sl (xs.map aR.enc))),.c (.d (.sl (ys.map aR.enc)))] (.c (.d (.b (dec (xs=ys))))))
 |0=>⟨fun x h=>by omega,fun x h=>by omega,fun x h=>by omega,fun x h=>by omega⟩
 |n+1=>by
  obtain⟨Al,sW,Fv,ahN⟩:=Ls n
  refine⟨fun x hn y hsz S=> ?_,fun xs hn ys hsz S=> ?_,fun x hn y hsz S=> ?_,fun xs hn ys hsz S=> ?_⟩
  ·have jS:=ay.gM x
   have zS:=ay.oN x
   simp only[ay.sz,ay.aD,cu,bN,D.sz,List.length_map,au.dZ] at hsz
   refine aG (rs:=[.tmp 4]) Tryz.checked.mixed Tryz.func18 Tryz.ntmps18 rfl rfl rfl rfl rfl ?_
   refine W1 ?_
   refine S0 (fun hb h=>?_) fun hb h=>?_
   ·exact aB (aF (fun e=>h (by rw[e]))).symm
   have Yl:=h
   clear h
   refine S0 (fun hb h=>?_) fun hb h=>?_
   ·exact aB (aF (fun e=>h (by rw[e]))).symm
   have GX:=h
   clear h
   refine S0 (fun hb h=>?_) fun hb h=>?_
   ·exact aB (aF (fun e=>h (by rw[e]))).symm
   have qJ:=h
   clear h
   refine S0 (fun hb h=>?_) fun hb h=>?_
   ·exact aB (aF (fun e=>h (by rw[e]))).symm
   have eN:=h
   clear h
   refine C1 (vR x.fType _ (by omega)) ?_
   refine S0 (fun hb h=>?_) fun hb h=>?_
   ·exact aB (aF (fun e=>h (by rw[e]))).symm
   have eType:=h
   clear h
   refine C1 (sW x.fArgs (by omega) _ (by omega)) ?_
   refine S0 (fun hb h=>?_) fun hb h=>?_
   ·exact aB (aF (fun e=>h (by rw[e]))).symm
   have eArgs:=h
   clear h
   refine C1 (ahN x.aP (by omega) _ (by omega)) ?_
   refine S0 (fun hb h=>?_) fun hb h=>?_
   ·exact aB (aF (fun e=>h (by rw[e]))).symm
   have ajO:=h
   clear h
   exact aB (bA (ay.ext Yl GX qJ eN eType eArgs ajO)).symm
  ·refine aG (rs:=[.tmp 4]) Tryz.checked.mixed Tryz.func61 Tryz.ntmps61 rfl rfl rfl rfl rfl ?_
   refine W1 ?_
   refine S0 (fun hb h=>?_) fun hb h=>?_
   ·exact aB (aF (fun e=>h (by rw[e]))).symm
   have hl:xs.length=ys.length:=by omega
   refine aT (ι:=Nat) Tryz.checked.mixed rfl [0,1,5] (fun y=>[.c (.d (.sl (xs.map ay.enc))),.c (.d (.sl (ys.map ay.enc))),.c (.d (.i .i64 y))]) (fun y=>[]::S)
    (fun i=>i≤xs.length∧∀j,j<i→xs[j]? =ys[j]?) (fun y=>xs.length-y) 0 rfl rfl ⟨Nat.zero_le _,fun j h=>by omega⟩ ?_
   rintro i ⟨p1,p2⟩
   refine W1 ?_
   refine S0 (fun hb h=>?_) fun hb h=>?_
   ·have hi:i<xs.length:=by omega
    have hi':i<ys.length:=by omega
    have hx:xs[i].sz≤bD (xs.map ay.enc):=dA (List.mem_map_of_mem (List.getElem_mem hi))
    refine W3 ?_
    refine C1 (Al xs[i] (by have:=List.sizeOf_lt_of_mem (List.getElem_mem hi);omega) ys[i] (by omega)) ?_
    refine S0 (fun hb h=>?_) fun hb h=>?_
    ·exact aB (aF (fun e=>h (by simp only[e]))).symm
    refine bP (i+1) (by omega) rfl rfl ⟨by omega,fun j hj=> ?_⟩
    by_cases e:j=i
    ·subst e
     rw[List.getElem?_eq_getElem hi,List.getElem?_eq_getElem hi',h]
    ·exact p2 j (by omega)
   ·have hi:i=xs.length:=by omega
    refine aB (bA (List.ext_getElem? fun j=> ?_)).symm
    by_cases hj:j<i
    ·exact p2 j hj
    ·rw[List.getElem?_eq_none (by omega),List.getElem?_eq_none (by omega)]
  ·have aeT:=aR.nW x
   simp only[aR.sz,aR.aD,cu,bN,D.sz,List.length_map,ay.dZ] at hsz
   refine aG (rs:=[.tmp 4]) Tryz.checked.mixed Tryz.func131 Tryz.ntmps131 rfl rfl rfl rfl rfl ?_
   refine W1 ?_
   refine S0 (fun hb h=>?_) fun hb h=>?_
   ·exact aB (aF (fun e=>h (by rw[e]))).symm
   have Sn:=h
   clear h
   refine C1 (pQ x.aA _ (by omega)) ?_
   refine S0 (fun hb h=>?_) fun hb h=>?_
   ·exact aB (aF (fun e=>h (by rw[e]))).symm
   have yL:=h
   clear h
   refine C1 (Al x.fBody (by omega) _ (by omega)) ?_
   refine S0 (fun hb h=>?_) fun hb h=>?_
   ·exact aB (aF (fun e=>h (by rw[e]))).symm
   have Fw:=h
   clear h
   exact aB (bA (aR.ext Sn yL Fw)).symm
  ·refine aG (rs:=[.tmp 4]) Tryz.checked.mixed Tryz.func62 Tryz.ntmps62 rfl rfl rfl rfl rfl ?_
   refine W1 ?_
   refine S0 (fun hb h=>?_) fun hb h=>?_
   ·exact aB (aF (fun e=>h (by rw[e]))).symm
   have hl:xs.length=ys.length:=by omega
   refine aT (ι:=Nat) Tryz.checked.mixed rfl [0,1,5] (fun y=>[.c (.d (.sl (xs.map aR.enc))),.c (.d (.sl (ys.map aR.enc))),.c (.d (.i .i64 y))]) (fun y=>[]::S)
    (fun i=>i≤xs.length∧∀j,j<i→xs[j]? =ys[j]?) (fun y=>xs.length-y) 0 rfl rfl ⟨Nat.zero_le _,fun j h=>by omega⟩ ?_
   rintro i ⟨p1,p2⟩
   refine W1 ?_
   refine S0 (fun hb h=>?_) fun hb h=>?_
   ·have hi:i<xs.length:=by omega
    have hi':i<ys.length:=by omega
    have hx:xs[i].sz≤bD (xs.map aR.enc):=dA (List.mem_map_of_mem (List.getElem_mem hi))
    refine W3 ?_
    refine C1 (Fv xs[i] (by have:=List.sizeOf_lt_of_mem (List.getElem_mem hi);omega) ys[i] (by omega)) ?_
    refine S0 (fun hb h=>?_) fun hb h=>?_
    ·exact aB (aF (fun e=>h (by simp only[e]))).symm
    refine bP (i+1) (by omega) rfl rfl ⟨by omega,fun j hj=> ?_⟩
    by_cases e:j=i
    ·subst e
     rw[List.getElem?_eq_getElem hi,List.getElem?_eq_getElem hi',h]
    ·exact p2 j (by omega)
   ·have hi:i=xs.length:=by omega
    refine aB (bA (List.ext_getElem? fun j=> ?_)).symm
    by_cases hj:j<i
    ·exact p2 j hj
    ·rw[List.getElem?_eq_none (by omega),List.getElem?_eq_none (by omega)]
theorem GY(x:ay):∀y:ay,x.sz≤1048576→aI Tryz.prog 18 [x.v,y.v] (.c (.d (.b (dec (x=y))))):=(Ls _).1 x (Nat.lt_succ_self _)
end Go.Proofs.YtocpgjlbagncjaaGreatDoor
namespace Go.Proofs.YtocpgjlbagncjaaGreatDoor
open Go Go.Ab
theorem Ju:∀n:Nat,(∀x:aj,SizeOf.sizeOf x<n→∀left:Int,0≤left→left≤1048576→wO x.enc→aI Tryz.prog 7 [x.v,.c (.d (.i .i64 left))] (.c (.d (.i .i64 (kR left x.sz)))))∧
 (∀xs:List aj,SizeOf.sizeOf xs<n→∀left:Int,0≤left→left≤1048576→(D.sl (xs.map aj.enc)).Fit→aI Tryz.prog 28 [.c (.d (.sl (xs.map aj.enc))),.c (.d (.i .i64 left))] (.c (.d (.i .i64 (kR left (xs.length+bD (xs.map aj.enc)))))))
 |0=>⟨fun x h=>by omega,fun x h=>by omega⟩
 |n+1=>by
  obtain⟨sW,xG⟩:=Ju n
  refine⟨fun x hn left h0 h1 hf S=> ?_,fun xs hn left h0 h1 hf S=> ?_⟩
  ·have Lu:=aj.oO x
   simp only[aj.aD,List.cons_append,List.nil_append,Ah,Jl,RV,and_true] at hf
   obtain⟨bf,ah⟩:=hf
   have hz:x.sz=x.bf.length+((x.ah.length+bD (x.ah.map aj.enc))):=by
    simp only[aj.sz,aj.aD,cu,bN,D.sz,List.length_map,Nat.add_zero,Nat.zero_add]<;>omega
   refine aG (rs:=[.tmp 4]) Tryz.checked.mixed Tryz.func7 Tryz.ntmps7 rfl rfl rfl rfl rfl ?_
   rw[hz]
   have amn:=aiX bf
   refine W1 ?_
   refine S0 (fun hb h=>?_) fun hb h=>?_
   ·exact int_eq (xR (by omega)).symm
   refine C1 (xG x.ah (by omega) _ (by omega) (by omega) ah) ?_
   refine S0 (fun hb h=>?_) fun hb h=>?_
   ·have h':=zn h
    exact int_eq (xR (by omega)).symm
   have ajP:=zm h
   simp only[ajP.1]
   refine int_eq ?_
   rw[Fg (by omega)]
   omega
  ·obtain⟨hf1,hf2⟩:=ahA hf
   rw[List.length_map] at hf1
   refine aG (rs:=[.tmp 4]) Tryz.checked.mixed Tryz.func28 Tryz.ntmps28 rfl rfl rfl rfl rfl ?_
   refine W1 ?_
   refine S0 (fun hb h=>?_) fun hb h=>?_
   ·exact int_eq (xR (by omega)).symm
   refine aT (ι:=Nat×Int) Tryz.checked.mixed rfl [0,1,5] (fun y=>[.c (.d (.sl (xs.map aj.enc))),.c (.d (.i .i64 y.2)),.c (.d (.i .i64 y.1))]) (fun _=>[]::S)
    (fun y=>y.1≤xs.length∧0≤y.2∧y.2≤1048576∧kR y.2 (bD ((xs.map aj.enc).drop y.1))=kR left (xs.length+bD (xs.map aj.enc))) (fun y=>xs.length-y.1) (0,left-xs.length) rfl rfl ⟨by omega,by omega,by omega,?_⟩ ?_
   ·unfold kR
    rw[List.drop_zero]
    split<;>split<;>omega
   rintro⟨i,l⟩ ⟨p1,p2,p3,p4⟩
   simp only at p1 p2 p3 p4
   refine W1 ?_
   refine S0 (fun hb h=>?_) fun hb h=>?_
   ·have hi:i<xs.length:=by omega
    rw[List.drop_eq_getElem_cons (by rw[List.length_map];exact hi),bD,List.getElem_map,aj.dZ] at p4
    refine W3 ?_
    refine C1 (sW xs[i] (by have:=List.sizeOf_lt_of_mem (List.getElem_mem hi);omega) _ (by omega) (by omega) (hf2 _ (List.mem_map_of_mem (List.getElem_mem hi)))) ?_
    refine S0 (fun hb h=>?_) fun hb h=>?_
    ·have h':=zn h
     rw[←p4,xR (by omega)]
    ·have h':=zm h
     refine bP (i+1,kR l _) (by simp only;omega) rfl rfl ⟨by simp only;omega,by simp only;omega,by simp only;omega,?_⟩
     simp only
     rw[←p4,h'.1]
     unfold kR
     split<;>split<;>omega
   ·have hi:i=xs.length:=by omega
    rw[hi,List.drop_of_length_le (by simp),bD,Fg (by omega)] at p4
    rw[←p4]
    refine int_eq ?_
    omega
theorem Yn(x:aj):∀left:Int,0≤left→left≤1048576→wO x.enc→aI Tryz.prog 7 [x.v,.c (.d (.i .i64 left))] (.c (.d (.i .i64 (kR left x.sz)))):=(Ju _).1 x (Nat.lt_succ_self _)
theorem Jv:∀n:Nat,(∀x:aj,SizeOf.sizeOf x<n→x.sz≤1048576→aI Tryz.prog 9 [x.v] x.v)∧
 (∀xs:List aj,SizeOf.sizeOf xs<n→xs.length+bD (xs.map aj.enc)≤1048576→aI Tryz.prog 34 [.c (.d (.sl (xs.map aj.enc)))] (.c (.d (.sl (xs.map aj.enc)))))
 |0=>⟨fun x h=>by omega,fun x h=>by omega⟩
 |n+1=>by
  obtain⟨sW,xG⟩:=Jv n
  refine⟨fun x hn hsz S=> ?_,fun xs hn hsz S=> ?_⟩
  ·have Lu:=aj.oO x
   simp only[aj.sz,aj.aD,cu,bN,D.sz,List.length_map] at hsz
   refine aG (rs:=[.cell 2 37]) Tryz.checked.mixed Tryz.func9 Tryz.ntmps9 rfl rfl rfl rfl rfl ?_
   refine W1 ?_
   exact C3 (xG x.ah (by omega) (by omega))
  ·refine aG (rs:=[.tmp 2]) Tryz.checked.mixed Tryz.func34 Tryz.ntmps34 rfl rfl rfl rfl rfl ?_
   refine W1 ?_
   refine W3 ?_
   refine aT (ι:=Nat×List (List D)) Tryz.checked.mixed rfl [0,3,4] (fun y=>[.c (.d (.sl (xs.map aj.enc))),.c (.og (0,0)),.c (.d (.i .i64 y.1))]) (fun y=>[.iH 2 y.2]::S)
    (fun y=>y.1≤xs.length∧vJ 2 y.1 y.2 (xs.map aj.enc)) (fun y=>xs.length-y.1) (0,_) rfl rfl ⟨Nat.zero_le _,vJ.start (by simp) rfl⟩ ?_
   rintro⟨i,R⟩ ⟨p1,p2⟩
   simp only at p1 p2
   refine W1 ?_
   refine S0 (fun hb h=>?_) fun hb h=>?_
   ·have hi:i<xs.length:=by omega
    have hx:xs[i].sz≤bD (xs.map aj.enc):=dA (List.mem_map_of_mem (List.getElem_mem hi))
    refine W3 ?_
    refine C1 (sW xs[i] (by have:=List.sizeOf_lt_of_mem (List.getElem_mem hi);omega) (by omega)) ?_
    have hR:=p2.1
    rw[List.length_map] at hR
    refine W3 ?_
    refine bP (i+1,_) (by simp only;omega) rfl rfl ⟨by simp only;omega,p2.step (by simp[hi,aj.aD]) rfl⟩
   ·have hi:i=xs.length:=by omega
    rw[p2.done (by rw[List.length_map];omega)]
theorem Fx(x:aj):x.sz≤1048576→aI Tryz.prog 9 [x.v] x.v:=(Jv _).1 x (Nat.lt_succ_self _)
theorem Jw:∀n:Nat,(∀x:aj,SizeOf.sizeOf x<n→∀y:aj,x.sz≤1048576→aI Tryz.prog 12 [x.v,y.v] (.c (.d (.b (dec (x=y))))))∧
 (∀xs:List aj,SizeOf.sizeOf xs<n→∀ys:List aj,xs.length+bD (xs.map aj.enc)≤1048576→aI Tryz.prog 44 [.c (.d (.sl (xs.map aj.enc))),.c (.d (.sl (ys.map aj.enc)))] (.c (.d (.b (dec (xs=ys))))))
 |0=>⟨fun x h=>by omega,fun x h=>by omega⟩
 |n+1=>by
  obtain⟨sW,xG⟩:=Jw n
  refine⟨fun x hn y hsz S=> ?_,fun xs hn ys hsz S=> ?_⟩
  ·have Lu:=aj.oO x
   simp only[aj.sz,aj.aD,cu,bN,D.sz,List.length_map] at hsz
   refine aG (rs:=[.tmp 4]) Tryz.checked.mixed Tryz.func12 Tryz.ntmps12 rfl rfl rfl rfl rfl ?_
   refine W1 ?_
   refine S0 (fun hb h=>?_) fun hb h=>?_
   ·exact aB (aF (fun e=>h (by rw[e]))).symm
   have ajQ:=h
   clear h
   refine C1 (xG x.ah (by omega) _ (by omega)) ?_
   refine S0 (fun hb h=>?_) fun hb h=>?_
   ·exact aB (aF (fun e=>h (by rw[e]))).symm
   have eList:=h
   clear h
   exact aB (bA (aj.ext ajQ eList)).symm
  ·refine aG (rs:=[.tmp 4]) Tryz.checked.mixed Tryz.func44 Tryz.ntmps44 rfl rfl rfl rfl rfl ?_
   refine W1 ?_
   refine S0 (fun hb h=>?_) fun hb h=>?_
   ·exact aB (aF (fun e=>h (by rw[e]))).symm
   have hl:xs.length=ys.length:=by omega
   refine aT (ι:=Nat) Tryz.checked.mixed rfl [0,1,5] (fun y=>[.c (.d (.sl (xs.map aj.enc))),.c (.d (.sl (ys.map aj.enc))),.c (.d (.i .i64 y))]) (fun y=>[]::S)
    (fun i=>i≤xs.length∧∀j,j<i→xs[j]? =ys[j]?) (fun y=>xs.length-y) 0 rfl rfl ⟨Nat.zero_le _,fun j h=>by omega⟩ ?_
   rintro i ⟨p1,p2⟩
   refine W1 ?_
   refine S0 (fun hb h=>?_) fun hb h=>?_
   ·have hi:i<xs.length:=by omega
    have hi':i<ys.length:=by omega
    have hx:xs[i].sz≤bD (xs.map aj.enc):=dA (List.mem_map_of_mem (List.getElem_mem hi))
    refine W3 ?_
    refine C1 (sW xs[i] (by have:=List.sizeOf_lt_of_mem (List.getElem_mem hi);omega) ys[i] (by omega)) ?_
    refine S0 (fun hb h=>?_) fun hb h=>?_
    ·exact aB (aF (fun e=>h (by simp only[e]))).symm
    refine bP (i+1) (by omega) rfl rfl ⟨by omega,fun j hj=> ?_⟩
    by_cases e:j=i
    ·subst e
     rw[List.getElem?_eq_getElem hi,List.getElem?_eq_getElem hi',h]
    ·exact p2 j (by omega)
   ·have hi:i=xs.length:=by omega
    refine aB (bA (List.ext_getElem? fun j=> ?_)).symm
    by_cases hj:j<i
    ·exact p2 j hj
    ·rw[List.getElem?_eq_none (by omega),List.getElem?_eq_none (by omega)]
theorem Yo(x:aj):∀y:aj,x.sz≤1048576→aI Tryz.prog 12 [x.v,y.v] (.c (.d (.b (dec (x=y))))):=(Jw _).1 x (Nat.lt_succ_self _)
end Go.Proofs.YtocpgjlbagncjaaGreatDoor
namespace Go.Proofs.YtocpgjlbagncjaaGreatDoor
open Go Go.Ab
theorem Nv(x:aN):∀y:aN,x.sz≤1048576→aI Tryz.prog 264 [x.v,y.v] (.c (.d (.b (dec (x=y))))):=by
 intro y hsz S
 simp only[aN.sz,aN.aD,cu,bN,D.sz,List.length_map,ay.dZ,au.dZ] at hsz
 refine aG (rs:=[.tmp 4]) Tryz.checked.mixed Tryz.func264 Tryz.ntmps264 rfl rfl rfl rfl rfl ?_
 refine W1 ?_
 refine S0 (fun hb h=>?_) fun hb h=>?_
 ·exact aB (aF (fun e=>h (by rw[e]))).symm
 have qJ:=h
 clear h
 refine C1 (Lr x.aJ _ (by omega)) ?_
 refine S0 (fun hb h=>?_) fun hb h=>?_
 ·exact aB (aF (fun e=>h (by rw[e]))).symm
 have Nw:=h
 clear h
 refine C1 (vR x.aU _ (by omega)) ?_
 refine S0 (fun hb h=>?_) fun hb h=>?_
 ·exact aB (aF (fun e=>h (by rw[e]))).symm
 have Ny:=h
 clear h
 refine S0 (fun hb h=>?_) fun hb h=>?_
 ·exact aB (aF (fun e=>h (by rw[e]))).symm
 have U1:=h
 clear h
 refine C1 (pQ x.aA _ (by omega)) ?_
 refine S0 (fun hb h=>?_) fun hb h=>?_
 ·exact aB (aF (fun e=>h (by rw[e]))).symm
 have yL:=h
 clear h
 refine C1 (GY x.fBody _ (by omega)) ?_
 refine S0 (fun hb h=>?_) fun hb h=>?_
 ·exact aB (aF (fun e=>h (by rw[e]))).symm
 have Fw:=h
 clear h
 exact aB (bA (aN.ext' qJ Nw Ny U1 yL Fw)).symm
theorem Lv(xs:List aN):∀ys:List aN,xs.length+bD (xs.map aN.enc)≤1048576→aI Tryz.prog 189 [.c (.d (.sl (xs.map aN.enc))),.c (.d (.sl (ys.map aN.enc)))] (.c (.d (.b (dec (xs=ys))))):=by
 intro ys hsz S
 refine aG (rs:=[.tmp 4]) Tryz.checked.mixed Tryz.func189 Tryz.ntmps189 rfl rfl rfl rfl rfl ?_
 refine W1 ?_
 refine S0 (fun hb h=>?_) fun hb h=>?_
 ·exact aB (aF (fun e=>h (by rw[e]))).symm
 have hl:xs.length=ys.length:=by omega
 refine aT (ι:=Nat) Tryz.checked.mixed rfl [0,1,5] (fun y=>[.c (.d (.sl (xs.map aN.enc))),.c (.d (.sl (ys.map aN.enc))),.c (.d (.i .i64 y))]) (fun y=>[]::S)
  (fun i=>i≤xs.length∧∀j,j<i→xs[j]? =ys[j]?) (fun y=>xs.length-y) 0 rfl rfl ⟨Nat.zero_le _,fun j h=>by omega⟩ ?_
 rintro i ⟨p1,p2⟩
 refine W1 ?_
 refine S0 (fun hb h=>?_) fun hb h=>?_
 ·have hi:i<xs.length:=by omega
  have hi':i<ys.length:=by omega
  have hx:xs[i].sz≤bD (xs.map aN.enc):=dA (List.mem_map_of_mem (List.getElem_mem hi))
  refine W3 ?_
  refine C1 (Nv xs[i] ys[i] (by omega)) ?_
  refine S0 (fun hb h=>?_) fun hb h=>?_
  ·exact aB (aF (fun e=>h (by simp only[e]))).symm
  refine bP (i+1) (by omega) rfl rfl ⟨by omega,fun j hj=> ?_⟩
  by_cases e:j=i
  ·subst e
   rw[List.getElem?_eq_getElem hi,List.getElem?_eq_getElem hi',h]
  ·exact p2 j (by omega)
 ·have hi:i=xs.length:=by omega
  refine aB (bA (List.ext_getElem? fun j=> ?_)).symm
  by_cases hj:j<i
  ·exact p2 j hj
  ·rw[List.getElem?_eq_none (by omega),List.getElem?_eq_none (by omega)]
end Go.Proofs.YtocpgjlbagncjaaGreatDoor
namespace Go.Proofs.YtocpgjlbagncjaaGreatDoor
open Go Go.Ab
theorem Yp(x:bC):∀y:bC,x.sz≤1048576→aI Tryz.prog 102 [x.v,y.v] (.c (.d (.b (dec (x=y))))):=by
 intro y hsz S
 simp only[bC.sz,bC.aD,cu,bN,D.sz,List.length_map] at hsz
 refine aG (rs:=[.tmp 4]) Tryz.checked.mixed Tryz.func102 Tryz.ntmps102 rfl rfl rfl rfl rfl ?_
 refine W1 ?_
 refine S0 (fun hb h=>?_) fun hb h=>?_
 ·exact aB (aF (fun e=>h (by rw[e]))).symm
 have qJ:=h
 clear h
 refine C1 (pQ x.bF _ (by omega)) ?_
 refine S0 (fun hb h=>?_) fun hb h=>?_
 ·exact aB (aF (fun e=>h (by rw[e]))).symm
 have Sq:=h
 clear h
 refine S0 (fun hb h=>?_) fun hb h=>?_
 ·exact aB (aF (fun e=>h (by rw[e]))).symm
 have ajR:=h
 clear h
 refine S0 (fun hb h=>?_) fun hb h=>?_
 ·exact aB (aF (fun e=>h (by rw[e]))).symm
 have Sr:=h
 clear h
 refine C1 (Lv x.aC _ (by omega)) ?_
 refine S0 (fun hb h=>?_) fun hb h=>?_
 ·exact aB (aF (fun e=>h (by rw[e]))).symm
 have U2:=h
 clear h
 exact aB (bA (bC.ext' qJ Sq ajR Sr U2)).symm
theorem U3(xs:List bC):∀ys:List bC,xs.length+bD (xs.map bC.enc)≤1048576→aI Tryz.prog 40 [.c (.d (.sl (xs.map bC.enc))),.c (.d (.sl (ys.map bC.enc)))] (.c (.d (.b (dec (xs=ys))))):=by
 intro ys hsz S
 refine aG (rs:=[.tmp 4]) Tryz.checked.mixed Tryz.func40 Tryz.ntmps40 rfl rfl rfl rfl rfl ?_
 refine W1 ?_
 refine S0 (fun hb h=>?_) fun hb h=>?_
 ·exact aB (aF (fun e=>h (by rw[e]))).symm
 have hl:xs.length=ys.length:=by omega
 refine aT (ι:=Nat) Tryz.checked.mixed rfl [0,1,5] (fun y=>[.c (.d (.sl (xs.map bC.enc))),.c (.d (.sl (ys.map bC.enc))),.c (.d (.i .i64 y))]) (fun y=>[]::S)
  (fun i=>i≤xs.length∧∀j,j<i→xs[j]? =ys[j]?) (fun y=>xs.length-y) 0 rfl rfl ⟨Nat.zero_le _,fun j h=>by omega⟩ ?_
 rintro i ⟨p1,p2⟩
 refine W1 ?_
 refine S0 (fun hb h=>?_) fun hb h=>?_
 ·have hi:i<xs.length:=by omega
  have hi':i<ys.length:=by omega
  have hx:xs[i].sz≤bD (xs.map bC.enc):=dA (List.mem_map_of_mem (List.getElem_mem hi))
  refine W3 ?_
  refine C1 (Yp xs[i] ys[i] (by omega)) ?_
  refine S0 (fun hb h=>?_) fun hb h=>?_
  ·exact aB (aF (fun e=>h (by simp only[e]))).symm
  refine bP (i+1) (by omega) rfl rfl ⟨by omega,fun j hj=> ?_⟩
  by_cases e:j=i
  ·subst e
   rw[List.getElem?_eq_getElem hi,List.getElem?_eq_getElem hi',h]
  ·exact p2 j (by omega)
 ·have hi:i=xs.length:=by omega
  refine aB (bA (List.ext_getElem? fun j=> ?_)).symm
  by_cases hj:j<i
  ·exact p2 j hj
  ·rw[List.getElem?_eq_none (by omega),List.getElem?_eq_none (by omega)]
end Go.Proofs.YtocpgjlbagncjaaGreatDoor
namespace Go.Proofs.YtocpgjlbagncjaaGreatDoor
open Go Go.Ab
theorem JZ(x:aM):∀y:aM,x.sz≤1048576→aI Tryz.prog 265 [x.v,y.v] (.c (.d (.b (dec (x=y))))):=by
 intro y hsz S
 simp only[aM.sz,aM.aD,cu,bN,D.sz,List.length_map] at hsz
 refine aG (rs:=[.tmp 4]) Tryz.checked.mixed Tryz.func265 Tryz.ntmps265 rfl rfl rfl rfl rfl ?_
 refine W1 ?_
 refine S0 (fun hb h=>?_) fun hb h=>?_
 ·exact aB (aF (fun e=>h (by rw[e]))).symm
 have qJ:=h
 clear h
 refine C1 (Lr x.fG _ (by omega)) ?_
 refine S0 (fun hb h=>?_) fun hb h=>?_
 ·exact aB (aF (fun e=>h (by rw[e]))).symm
 have af3:=h
 clear h
 exact aB (bA (aM.ext' qJ af3)).symm
theorem I7(xs:List aM):∀ys:List aM,xs.length+bD (xs.map aM.enc)≤1048576→aI Tryz.prog 190 [.c (.d (.sl (xs.map aM.enc))),.c (.d (.sl (ys.map aM.enc)))] (.c (.d (.b (dec (xs=ys))))):=by
 intro ys hsz S
 refine aG (rs:=[.tmp 4]) Tryz.checked.mixed Tryz.func190 Tryz.ntmps190 rfl rfl rfl rfl rfl ?_
 refine W1 ?_
 refine S0 (fun hb h=>?_) fun hb h=>?_
 ·exact aB (aF (fun e=>h (by rw[e]))).symm
 have hl:xs.length=ys.length:=by omega
 refine aT (ι:=Nat) Tryz.checked.mixed rfl [0,1,5] (fun y=>[.c (.d (.sl (xs.map aM.enc))),.c (.d (.sl (ys.map aM.enc))),.c (.d (.i .i64 y))]) (fun y=>[]::S)
  (fun i=>i≤xs.length∧∀j,j<i→xs[j]? =ys[j]?) (fun y=>xs.length-y) 0 rfl rfl ⟨Nat.zero_le _,fun j h=>by omega⟩ ?_
 rintro i ⟨p1,p2⟩
 refine W1 ?_
 refine S0 (fun hb h=>?_) fun hb h=>?_
 ·have hi:i<xs.length:=by omega
  have hi':i<ys.length:=by omega
  have hx:xs[i].sz≤bD (xs.map aM.enc):=dA (List.mem_map_of_mem (List.getElem_mem hi))
  refine W3 ?_
  refine C1 (JZ xs[i] ys[i] (by omega)) ?_
  refine S0 (fun hb h=>?_) fun hb h=>?_
  ·exact aB (aF (fun e=>h (by simp only[e]))).symm
  refine bP (i+1) (by omega) rfl rfl ⟨by omega,fun j hj=> ?_⟩
  by_cases e:j=i
  ·subst e
   rw[List.getElem?_eq_getElem hi,List.getElem?_eq_getElem hi',h]
  ·exact p2 j (by omega)
 ·have hi:i=xs.length:=by omega
  refine aB (bA (List.ext_getElem? fun j=> ?_)).symm
  by_cases hj:j<i
  ·exact p2 j hj
  ·rw[List.getElem?_eq_none (by omega),List.getElem?_eq_none (by omega)]
end Go.Proofs.YtocpgjlbagncjaaGreatDoor
namespace Go.Proofs.YtocpgjlbagncjaaGreatDoor
open Go Go.Ab
theorem PS(x:aS):∀y:aS,x.sz≤1048576→aI Tryz.prog 103 [x.v,y.v] (.c (.d (.b (dec (x=y))))):=by
 intro y hsz S
 simp only[aS.sz,aS.aD,cu,bN,D.sz,List.length_map] at hsz
 refine aG (rs:=[.tmp 4]) Tryz.checked.mixed Tryz.func103 Tryz.ntmps103 rfl rfl rfl rfl rfl ?_
 refine W1 ?_
 refine S0 (fun hb h=>?_) fun hb h=>?_
 ·exact aB (aF (fun e=>h (by rw[e]))).symm
 have qJ:=h
 clear h
 refine C1 (pQ x.aA _ (by omega)) ?_
 refine S0 (fun hb h=>?_) fun hb h=>?_
 ·exact aB (aF (fun e=>h (by rw[e]))).symm
 have yL:=h
 clear h
 refine C1 (I7 x.aH _ (by omega)) ?_
 refine S0 (fun hb h=>?_) fun hb h=>?_
 ·exact aB (aF (fun e=>h (by rw[e]))).symm
 have PU:=h
 clear h
 exact aB (bA (aS.ext' qJ yL PU)).symm
theorem Nz(xs:List aS):∀ys:List aS,xs.length+bD (xs.map aS.enc)≤1048576→aI Tryz.prog 41 [.c (.d (.sl (xs.map aS.enc))),.c (.d (.sl (ys.map aS.enc)))] (.c (.d (.b (dec (xs=ys))))):=by
 intro ys hsz S
 refine aG (rs:=[.tmp 4]) Tryz.checked.mixed Tryz.func41 Tryz.ntmps41 rfl rfl rfl rfl rfl ?_
 refine W1 ?_
 refine S0 (fun hb h=>?_) fun hb h=>?_
 ·exact aB (aF (fun e=>h (by rw[e]))).symm
 have hl:xs.length=ys.length:=by omega
 refine aT (ι:=Nat) Tryz.checked.mixed rfl [0,1,5] (fun y=>[.c (.d (.sl (xs.map aS.enc))),.c (.d (.sl (ys.map aS.enc))),.c (.d (.i .i64 y))]) (fun y=>[]::S)
  (fun i=>i≤xs.length∧∀j,j<i→xs[j]? =ys[j]?) (fun y=>xs.length-y) 0 rfl rfl ⟨Nat.zero_le _,fun j h=>by omega⟩ ?_
 rintro i ⟨p1,p2⟩
 refine W1 ?_
 refine S0 (fun hb h=>?_) fun hb h=>?_
 ·have hi:i<xs.length:=by omega
  have hi':i<ys.length:=by omega
  have hx:xs[i].sz≤bD (xs.map aS.enc):=dA (List.mem_map_of_mem (List.getElem_mem hi))
  refine W3 ?_
  refine C1 (PS xs[i] ys[i] (by omega)) ?_
  refine S0 (fun hb h=>?_) fun hb h=>?_
  ·exact aB (aF (fun e=>h (by simp only[e]))).symm
  refine bP (i+1) (by omega) rfl rfl ⟨by omega,fun j hj=> ?_⟩
  by_cases e:j=i
  ·subst e
   rw[List.getElem?_eq_getElem hi,List.getElem?_eq_getElem hi',h]
  ·exact p2 j (by omega)
 ·have hi:i=xs.length:=by omega
  refine aB (bA (List.ext_getElem? fun j=> ?_)).symm
  by_cases hj:j<i
  ·exact p2 j hj
  ·rw[List.getElem?_eq_none (by omega),List.getElem?_eq_none (by omega)]
end Go.Proofs.YtocpgjlbagncjaaGreatDoor
namespace Go.Proofs.YtocpgjlbagncjaaGreatDoor
open Go Go.Ab
end Go.Proofs.YtocpgjlbagncjaaGreatDoor
namespace Go.Proofs.YtocpgjlbagncjaaGreatDoor
open Go Go.Ab
theorem Em(n a b:Int):aI Tryz.prog 151 [.c (.d (.i .i64 n)),.c (.d (.i .i64 a)),.c (.d (.i .i64 b))] (.c (.d (.b (dec (a≤n∧n≤b))))):=fun S=>by
 refine aG (rs:=[.tmp 6]) Tryz.checked.mixed Tryz.func151 Tryz.ntmps151 rfl rfl rfl rfl rfl ?_
 refine W1 ?_
 refine S0 (fun hb h=>?_) fun hb h=>?_
 ·exact aB (by rw[jY];exact iq ⟨fun x=>⟨by omega,x⟩,fun x=>x.2⟩)
 ·exact aB (aF (by omega)).symm
theorem qZ(xs:List (List UInt8))(s:List UInt8)(hl:xs.length≤1073741824):aI Tryz.prog 86 [.c (.d (.sl (xs.map encS))),.c (.d (.s s))] (.c (.d (.b (dec (s∈xs))))):=fun S=>by
 refine aG (rs:=[.tmp 4]) Tryz.checked.mixed Tryz.func86 Tryz.ntmps86 rfl rfl rfl rfl rfl ?_
 simp -implicitDefEqProofs (disch:=omega) only[go_sem,encS]
 refine aT (ι:=Nat) Tryz.checked.mixed rfl [0,1,5] (fun i=>[.c (.d (.sl (xs.map encS))),.c (.d (.s s)),.c (.d (.i .i64 i))]) (fun _=>[]::S)
  (fun i=>i≤xs.length∧∀j,j<i→∀h:j<xs.length,xs[j]≠s) (fun i=>xs.length-i) 0 rfl rfl ⟨Nat.zero_le _,fun j h=>by omega⟩ ?_
 rintro i ⟨p1,p2⟩
 simp -implicitDefEqProofs (disch:=omega) only[go_sem,encS]
 with_reducible refine dU (fun hb=> ?_) (fun hb=> ?_)<;>have h:=hb<;>(try simp only[wf_preprocess] at h)<;>simp -implicitDefEqProofs (disch:=omega) only[go_sem,hb,encS]<;>refine W3 ?_
 ·have hi:i<xs.length:=by omega
  with_reducible refine dU (fun hb=> ?_) (fun hb=> ?_)<;>have h:=hb<;>(try simp only[wf_preprocess] at h)<;>simp -implicitDefEqProofs (disch:=omega) only[go_sem,hb,encS]<;>refine W3 ?_
  ·exact aB (bA (by rw[←h];exact List.getElem_mem hi)).symm
  ·refine bP (i+1) (by omega) rfl rfl ⟨by omega,fun j hj hl=> ?_⟩
   by_cases e:j=i
   ·subst e;exact h
   ·exact p2 j (by omega) hl
 ·refine aB (aF fun hm=> ?_).symm
  obtain⟨j,h1,h2⟩:=List.getElem_of_mem hm
  exact p2 j (by omega) h1 h2
theorem OQ(xs:List (List UInt8))(s:List UInt8)(hl:xs.length≤1073741824):aI Tryz.prog 176 [.c (.d (.sl (xs.map encS))),.c (.d (.s s))] (.c (.d (.i .i64 (wU xs s)))):=fun S=>by
 refine aG (rs:=[.tmp 4]) Tryz.checked.mixed Tryz.func176 Tryz.ntmps176 rfl rfl rfl rfl rfl ?_
 simp -implicitDefEqProofs (disch:=omega) only[go_sem,encS]
 refine aT (ι:=Nat) Tryz.checked.mixed rfl [0,1,7,8] (fun i=>[.c (.d (.sl (xs.map encS))),.c (.d (.s s)),.c (.d (.i .i64 xs.length)),.c (.d (.i .i64 i))]) (fun _=>[]::S)
  (fun i=>i≤xs.length∧∀j,j<i→xs.getD j []≠s) (fun i=>xs.length-i) 0 rfl rfl ⟨Nat.zero_le _,fun j h=>by omega⟩ ?_
 rintro i ⟨p1,p2⟩
 simp -implicitDefEqProofs (disch:=omega) only[go_sem,encS]
 with_reducible refine dU (fun hb=> ?_) (fun hb=> ?_)<;>have h:=hb<;>(try simp only[wf_preprocess] at h)<;>simp -implicitDefEqProofs (disch:=omega) only[go_sem,hb,encS]<;>refine W3 ?_
 ·have hi:i<xs.length:=by omega
  have e:xs.getD i []=xs[i]:=by simp[List.getD,hi]
  with_reducible refine dU (fun hb=> ?_) (fun hb=> ?_)<;>have h:=hb<;>(try simp only[wf_preprocess] at h)<;>simp -implicitDefEqProofs (disch:=omega) only[go_sem,hb,encS]<;>refine W3 ?_
  ·rw[UY hi p2 (by rw[e];exact h.symm)]
  ·refine bP (i+1) (by omega) rfl rfl ⟨by omega,fun j hj=> ?_⟩
   by_cases e':j=i
   ·subst e';rw[e];exact fun x=>h x.symm
   ·exact p2 j (by omega)
 ·rw[aap (fun j hj=>p2 j (by omega))]
theorem q8(xs:List (List UInt8))(s:List UInt8)(hl:xs.length≤1073741824):aI Tryz.prog 244 [.c (.d (.sl (xs.map encS))),.c (.d (.s s))] (.c (.d (.b (dec (s∈xs))))):=fun S=>by
 refine aG (rs:=[.tmp 4]) Tryz.checked.mixed Tryz.func244 Tryz.ntmps244 rfl rfl rfl rfl rfl ?_
 refine W1 ?_
 refine C2 (OQ xs s hl) ?_
 exact aB Lf
theorem Lx(s:List UInt8):aI Tryz.prog 152 [.c (.d (.s s))] (.c (.d (.b (dec (s∈reserved))))):=fun S=>by
 refine aG (rs:=[.tmp 2]) Tryz.checked.mixed Tryz.func152 Tryz.ntmps152 rfl rfl rfl rfl rfl ?_
 refine W1 ?_
 refine W3 ?_
 exact C4 (qZ reserved s (by decide))
theorem LA(s:List UInt8):aI Tryz.prog 172 [.c (.d (.s s))] (.c (.d (.b (dec (s∈reserved))))):=fun S=>by
 refine aG (rs:=[.tmp 2]) Tryz.checked.mixed Tryz.func172 Tryz.ntmps172 rfl rfl rfl rfl rfl ?_
 refine W1 ?_
 refine W3 ?_
 exact C4 (q8 reserved s (by decide))
theorem LB(b:UInt8):aI Tryz.prog 170 [.c (.d (.i .u8 b.toNat))] (.c (.d (.b (dec (lowerB b))))):=fun S=>by
 refine aG (rs:=[.tmp 2]) Tryz.checked.mixed Tryz.func170 Tryz.ntmps170 rfl rfl rfl rfl rfl ?_
 refine W1 ?_
 refine S0 (fun hb h=>?_) fun hb h=>?_
 ·exact aB (by rw[jY];exact iq ⟨fun x=>⟨by omega,by omega⟩,fun x=>by have:=x.2;omega⟩)
 ·exact aB (aF fun x=>by have:=x.1;omega).symm
theorem LC(b:UInt8):aI Tryz.prog 171 [.c (.d (.i .u8 b.toNat))] (.c (.d (.b (dec (rQ b))))):=fun S=>by
 refine aG (rs:=[.tmp 2]) Tryz.checked.mixed Tryz.func171 Tryz.ntmps171 rfl rfl rfl rfl rfl ?_
 refine W1 ?_
 refine S0 (fun hb h=>?_) fun hb h=>?_
 ·exact aB (by rw[jY];exact iq ⟨fun x=>⟨by omega,by omega⟩,fun x=>by have:=x.2;omega⟩)
 ·exact aB (aF fun x=>by have:=x.1;omega).symm
theorem iD(s:List UInt8)(hl:s.length≤1073741824):aI Tryz.prog 94 [.c (.d (.s s))] (.c (.d (.b (validName s)))):=fun S=>by
 refine aG (rs:=[.tmp 2]) Tryz.checked.mixed Tryz.func94 Tryz.ntmps94 rfl rfl rfl rfl rfl ?_
 refine W1 ?_
 refine aT (ι:=Nat) Tryz.checked.mixed rfl [0,5,6] (fun i=>[.c (.d (.s s)),.c (.d (.i .i64 s.length)),.c (.d (.i .i64 i))]) (fun _=>[]::S)
  (fun i=>i≤s.length∧∀j,j<i→lowerB (s.getD j 0)∨(j≠0∧rQ (s.getD j 0))) (fun i=>s.length-i) 0 rfl rfl ⟨Nat.zero_le _,fun j h=>by omega⟩ ?_
 rintro i ⟨p1,p2⟩
 have next:i<s.length→(lowerB (s.getD i 0)∨(i≠0∧rQ (s.getD i 0)))→∀j,j<i+1→lowerB (s.getD j 0)∨(j≠0∧rQ (s.getD j 0)):=fun hi h j hj=>by
  by_cases e:j=i
  ·subst e;exact h
  ·exact p2 j (by omega)
 have bad:i<s.length→¬(lowerB (s.getD i 0)∨(i≠0∧rQ (s.getD i 0)))→validName s=false:=fun hi h=>aF fun x=>h (x.2.2 i hi)
 refine W1 ?_
 refine S0 (fun hb h=>?_) fun hb h=>?_
 ·have hi:i<s.length:=by omega
  refine W3 ?_
  refine C2 (LB (s.getD i 0)) ?_
  refine S0 (fun hb h=>?_) fun hb h=>?_
  ·have nl:=h
   refine S0 (fun hb h=>?_) fun hb h=>?_
   ·have i0:i=0:=by omega
    rw[bad hi (fun x=>x.elim nl fun y=>y.1 i0)]
   ·have ne:=h
    refine W3 ?_
    refine C2 (LC (s.getD i 0)) ?_
    refine S0 (fun hb h=>?_) fun hb h=>?_
    ·rw[bad hi (fun x=>x.elim nl fun y=>h y.2)]
    ·exact bP (i+1) (by omega) rfl rfl ⟨by omega,next hi (.inr ⟨by omega,h⟩)⟩
  ·exact bP (i+1) (by omega) rfl rfl ⟨by omega,next hi (.inl h)⟩
 ·have hn:RZ s:=fun j hj=>p2 j (by omega)
  have h0:∀b,dec (s∈reserved)=b→∀c,decide ((s.length:Int)≥1)=c→∀d,decide ((s.length:Int)≤8)=d→validName s=(c&&d&& !b):=by
   rintro b rfl c rfl d rfl
   unfold validName
   rw[Bool.eq_iff_iff]
   simp only[zR,Bool.and_eq_true,decide_eq_true_eq,Bool.not_eq_true',GK]
   exact⟨fun x=>⟨⟨by omega,by omega⟩,x.2.1⟩,fun x=>⟨⟨by omega,by omega⟩,x.2,hn⟩⟩
  refine S0 (fun hb h=>?_) fun hb h=>?_
  ·have c1:=hb
   refine S0 (fun hb h=>?_) fun hb h=>?_
   ·refine C2 (LA s) ?_
    exact aB (by rw[h0 _ rfl _ c1 _ hb];simp)
   ·exact aB (by rw[h0 _ rfl _ c1 _ hb];simp)
  ·exact aB (by rw[h0 _ rfl _ hb _ rfl];simp)
theorem iE(s:List UInt8)(hl:s.length≤1073741824):aI Tryz.prog 84 [.c (.d (.s s))] (.c (.d (.b (validName s)))):=fun S=>by
 have bad:¬RZ s→validName s=false:=fun h=>aF fun x=>h x.2.2
 refine aG (rs:=[.tmp 2]) Tryz.checked.mixed Tryz.func84 Tryz.ntmps84 rfl rfl rfl rfl rfl ?_
 refine W1 ?_
 refine C2 (Em s.length 1 8) ?_
 refine S0 (fun hb h=>?_) fun hb h=>?_
 ·rw[show validName s=false from aF fun x=>h (by omega)]
 have hlen:=h
 refine C2 (Lx s) ?_
 refine S0 (fun hb h=>?_) fun hb h=>?_
 ·rw[show validName s=false from aF fun x=>x.2.1 h]
 have hres:=h
 refine aT (ι:=Nat) Tryz.checked.mixed rfl [0,3] (fun i=>[.c (.d (.s s)),.c (.d (.i .i64 i))]) (fun _=>[]::S)
  (fun i=>i≤s.length∧∀j,j<i→lowerB (s.getD j 0)∨(j≠0∧rQ (s.getD j 0))) (fun i=>s.length-i) 0 rfl rfl ⟨Nat.zero_le _,fun j h=>by omega⟩ ?_
 rintro i ⟨p1,p2⟩
 have next:i<s.length→(lowerB (s.getD i 0)∨(i≠0∧rQ (s.getD i 0)))→∀j,j<i+1→lowerB (s.getD j 0)∨(j≠0∧rQ (s.getD j 0)):=fun hi h j hj=>by
  by_cases e:j=i
  ·subst e;exact h
  ·exact p2 j (by omega)
 refine W1 ?_
 refine S0 (fun hb h=>?_) fun hb h=>?_
 ·have hi:i<s.length:=by omega
  have bad':¬(lowerB (s.getD i 0)∨(i≠0∧rQ (s.getD i 0)))→validName s=false:=fun h=>bad fun x=>h (x i hi)
  have next:=next hi
  unfold lowerB rQ at bad' next
  all_goals try(refine S0 (fun hb h=>?_) fun hb h=>?_)
  all_goals try(refine S0 (fun hb h=>?_) fun hb h=>?_)
  all_goals try(refine S0 (fun hb h=>?_) fun hb h=>?_)
  all_goals try(refine S0 (fun hb h=>?_) fun hb h=>?_)
  all_goals try(refine S0 (fun hb h=>?_) fun hb h=>?_)
  all_goals try(with_reducible refine dU (fun hb=> ?_) (fun hb=> ?_)<;>have h:=hb<;>(try simp only[wf_preprocess] at h)<;>simp -implicitDefEqProofs (disch:=omega) only[go_sem,hb]<;>(repeat(with_reducible refine And.intro ?_ ?_;focus first|omega|rfl|assumption|exact⟨_,rfl,rfl⟩|(simp;omega)|(simp;done))))
  all_goals first
   |exact bP (i+1) (by omega) rfl rfl ⟨by omega,next (by omega)⟩
   |exact aB (bad' (by omega)).symm
 ·rw[show validName s=true from bA ⟨by omega,hres,fun j hj=>p2 j (by omega)⟩]
theorem aaA(s:List UInt8):aI Tryz.prog 332 [.c (.d (.s s))] (.c (.d (.b (xE s)))):=fun S=>by
 refine aG (rs:=[.tmp 2]) Tryz.checked.mixed Tryz.func332 Tryz.ntmps332 rfl rfl rfl rfl rfl ?_
 refine W1 ?_
 refine S0 (fun hb h=>?_) fun hb h=>?_
 ·exact aB (bA (.inl h)).symm
 ·exact aB (by rw[jY];exact iq ⟨fun x=>.inr x,fun x=>x.resolve_left h⟩)
theorem Sv(s:List UInt8):aI Tryz.prog 328 [.c (.d (.s s))] (.c (.d (.b (xE s)))):=fun S=>by
 refine aG (rs:=[.tmp 2]) Tryz.checked.mixed Tryz.func328 Tryz.ntmps328 rfl rfl rfl rfl rfl ?_
 refine W1 ?_
 refine S0 (fun hb h=>?_) fun hb h=>?_
 ·exact aB (bA (.inl h)).symm
 ·exact aB (by rw[jY];exact iq ⟨fun x=>.inr x,fun x=>x.resolve_left h⟩)
end Go.Proofs.YtocpgjlbagncjaaGreatDoor
namespace Go.Proofs.YtocpgjlbagncjaaGreatDoor
open Go Go.Ab
theorem vS{x:au}{i:Nat}(hi:i<x.fArgs.length)(h:x.sz≤4194304):x.fArgs[i].sz≤4194304∧x.fArgs.length≤4194304∧x.fName.length≤4194304:=by
 have hx:x.fArgs[i].sz≤bD (x.fArgs.map au.enc):=dA (List.mem_map_of_mem (List.getElem_mem hi))
 simp only[au.sz,au.aD,cu,D.sz,List.length_map] at h
 omega
theorem Dc{x:au}(h:x.sz≤4194304):x.fArgs.length≤4194304∧x.fName.length≤4194304:=by
 simp only[au.sz,au.aD,cu,D.sz,List.length_map] at h
 omega
theorem mU:∀{ts:List au} {i:Nat} (hi:i<ts.length),au.eG (ts.drop i)=ts[i].cnt+au.eG (ts.drop (i+1)):=fun {ts} {i} hi=>by
 rw[List.drop_eq_getElem_cons hi,au.eG]
theorem Jy:∀{ts:List au} {i:Nat} (hi:i<ts.length),depths (ts.drop i)=max (nI ts[i]+1) (depths (ts.drop (i+1))):=fun {ts} {i} hi=>by
 rw[List.drop_eq_getElem_cons hi,depths]
theorem Sw:∀{ts:List au} {i:Nat} (hi:i<ts.length),iZ (ts.drop i)=(formed ts[i]&&iZ (ts.drop (i+1))):=fun {ts} {i} hi=>by
 rw[List.drop_eq_getElem_cons hi,iZ]
theorem LD:∀n:Nat,∀x:au,SizeOf.sizeOf x<n→∀l:Int,0≤l→l≤1073741824→x.sz≤4194304→aI Tryz.prog 303 [x.v,.c (.d (.i .i64 l))] (.c (.d (.i .i64 (kR l x.cnt))))
 |0=>fun x h=>by omega
 |n+1=>by
  have ih:=LD n
  intro x hn l h0 h1 hsz S
  have jS:=au.gM x
  have hts:=Dc hsz
  have hcn:=au.qC x
  refine aG (rs:=[.tmp 4]) Tryz.checked.mixed Tryz.func303 Tryz.ntmps303 rfl rfl rfl rfl rfl ?_
  refine W1 ?_
  refine aT (ι:=Nat×Int) Tryz.checked.mixed rfl [1,2,5] (fun y=>[.c (.d (.i .i64 y.2)),.c (.ptr (0,0) 0),.c (.d (.i .i64 y.1))]) (fun y=>[.box [.d (.i .i64 x.aK),.d (.s x.fName),.d (.sl (x.fArgs.map au.enc))]]::S)
   (fun y=>y.1≤x.fArgs.length∧ -1≤y.2∧y.2≤1073741824∧(0≤y.2→kR l x.cnt=kR y.2 (au.eG (x.fArgs.drop y.1)))∧(y.2<0→kR l x.cnt= -1)) (fun y=>x.fArgs.length-y.1) (0,l-1) rfl rfl ⟨Nat.zero_le _,by simp only;omega,by simp only;omega,fun h=> ?_,fun h=> ?_⟩ ?_
  ·simp only[List.drop_zero] at h ⊢
   unfold kR
   rw[hcn]
   split<;>split<;>omega
  ·simp only at h
   exact xR (by omega)
  rintro⟨i,c⟩ ⟨p1,p2,p3,p4,p5⟩
  simp only at p1 p2 p3 p4 p5
  refine W1 ?_
  refine S0 (fun hb h=>?_) fun hb h=>?_
  ·have hi:i<x.fArgs.length:=by omega
   refine S0 (fun hb h=>?_) fun hb h=>?_
   ·have hsz':=vS hi hsz
    have p6:=p4 h
    rw[mU hi] at p6
    refine W3 ?_
    refine C2 (ih x.fArgs[i] (by have:=List.sizeOf_lt_of_mem (List.getElem_mem hi);omega) c (by omega) (by omega) (by omega)) ?_
    refine bP (i+1,kR c _) (by simp only;omega) rfl rfl ⟨by simp only;omega,?_,?_,fun h=> ?_,fun h=> ?_⟩
    ·simp only;unfold kR;split<;>omega
    ·simp only;unfold kR;split<;>omega
    ·simp only at h ⊢
     rw[p6]
     have:=zm (l:=c) (a:=x.fArgs[i].cnt) (by omega)
     rw[this.1]
     unfold kR
     split<;>split<;>omega
    ·simp only at h ⊢
     rw[p6]
     have:=zn h
     exact xR (by omega)
   ·have hc:c= -1:=by omega
    rw[p5 (by omega),hc]
  ·have hi:i=x.fArgs.length:=by omega
   by_cases hc:0≤c
   ·rw[p4 hc,hi,List.drop_length,au.eG,Fg (by omega)]
    exact int_eq (by simp)
   ·rw[p5 (by omega)]
    exact int_eq (by omega)
theorem aaB(x:au)(l:Int)(h0:0≤l)(h1:l≤1073741824)(hsz:x.sz≤4194304):aI Tryz.prog 303 [x.v,.c (.d (.i .i64 l))] (.c (.d (.i .i64 (kR l x.cnt)))):=LD _ x (Nat.lt_succ_self _) l h0 h1 hsz
theorem Sy(a b:Int):aI Tryz.prog 141 [.c (.d (.i .i64 a)),.c (.d (.i .i64 b))] (.c (.d (.i .i64 (max a b)))):=fun S=>by
 refine aG (rs:=[.tmp 4]) Tryz.checked.mixed Tryz.func141 Tryz.ntmps141 rfl rfl rfl rfl rfl ?_
 refine W1 ?_
 refine S0 (fun hb h=>?_) fun hb h=>?_
 ·exact int_eq (by omega)
 ·exact int_eq (by omega)
theorem F8:∀n:Nat,∀x:au,SizeOf.sizeOf x<n→x.sz≤4194304→aI Tryz.prog 304 [x.v] (.c (.d (.i .i64 (nI x))))
 |0=>fun x h=>by omega
 |n+1=>by
  have ih:=F8 n
  intro x hn hsz S
  have jS:=au.gM x
  have hts:=Dc hsz
  have hd1:=Ai x
  have hd2:=mh x
  refine aG (rs:=[.tmp 2]) Tryz.checked.mixed Tryz.func304 Tryz.ntmps304 rfl rfl rfl rfl rfl ?_
  refine W1 ?_
  refine aT (ι:=Nat×Nat) Tryz.checked.mixed rfl [1,3,4] (fun y=>[.c (.ptr (0,0) 0),.c (.d (.i .i64 y.2)),.c (.d (.i .i64 y.1))]) (fun y=>[.box [.d (.i .i64 x.aK),.d (.s x.fName),.d (.sl (x.fArgs.map au.enc))]]::S)
   (fun y=>y.1≤x.fArgs.length∧nI x=max y.2 (depths (x.fArgs.drop y.1))) (fun y=>x.fArgs.length-y.1) (0,0) rfl rfl ⟨Nat.zero_le _,by simp[OC]⟩ ?_
  rintro⟨i,c⟩ ⟨p1,p2⟩
  simp only at p1 p2
  refine W1 ?_
  refine S0 (fun hb h=>?_) fun hb h=>?_
  ·have hi:i<x.fArgs.length:=by omega
   have hsz':=vS hi hsz
   rw[Jy hi] at p2
   have hd3:=Ai x.fArgs[i]
   have hd4:=mh x.fArgs[i]
   refine W3 ?_
   refine C2 (ih x.fArgs[i] (by have:=List.sizeOf_lt_of_mem (List.getElem_mem hi);omega) (by omega)) ?_
   refine C2 (Sy _ _) ?_
   rw[show max (c:Int) (1+(nI x.fArgs[i]:Int))=((max c (1+nI x.fArgs[i]):Nat):Int) by omega]
   exact bP (i+1,max c (1+nI x.fArgs[i])) (by simp only;omega) rfl rfl ⟨by simp only;omega,by simp only;omega⟩
  ·have hi:i=x.fArgs.length:=by omega
   rw[hi,List.drop_length,depths] at p2
   exact int_eq (by omega)
theorem Sz(x:au)(hsz:x.sz≤4194304):aI Tryz.prog 304 [x.v] (.c (.d (.i .i64 (nI x)))):=F8 _ x (Nat.lt_succ_self _) hsz
theorem F9:∀n:Nat,∀x:au,SizeOf.sizeOf x<n→x.sz≤4194304→aI Tryz.prog 298 [x.v] (.c (.d (.i .i64 (nI x))))
 |0=>fun x h=>by omega
 |n+1=>by
  have ih:=F9 n
  intro x hn hsz S
  have jS:=au.gM x
  have hts:=Dc hsz
  have hd1:=Ai x
  have hd2:=mh x
  refine aG (rs:=[.tmp 2]) Tryz.checked.mixed Tryz.func298 Tryz.ntmps298 rfl rfl rfl rfl rfl ?_
  refine W1 ?_
  refine aT (ι:=Nat×Nat) Tryz.checked.mixed rfl [3,7,8,9] (fun y=>[.c (.d (.i .i64 y.2)),.c (.d (.sl (x.fArgs.map au.enc))),.c (.d (.i .i64 x.fArgs.length)),.c (.d (.i .i64 y.1))]) (fun y=>[.box [.d (.i .i64 x.aK),.d (.s x.fName),.d (.sl (x.fArgs.map au.enc))]]::S)
   (fun y=>y.1≤x.fArgs.length∧nI x=max y.2 (depths (x.fArgs.drop y.1))) (fun y=>x.fArgs.length-y.1) (0,0) rfl rfl ⟨Nat.zero_le _,by simp[OC]⟩ ?_
  rintro⟨i,c⟩ ⟨p1,p2⟩
  simp only at p1 p2
  refine W1 ?_
  refine S0 (fun hb h=>?_) fun hb h=>?_
  ·have hi:i<x.fArgs.length:=by omega
   have hsz':=vS hi hsz
   rw[Jy hi] at p2
   have hd3:=Ai x.fArgs[i]
   have hd4:=mh x.fArgs[i]
   refine W3 ?_
   refine C2 (ih x.fArgs[i] (by have:=List.sizeOf_lt_of_mem (List.getElem_mem hi);omega) (by omega)) ?_
   rw[show max (c:Int) ((nI x.fArgs[i]:Int)+1)=((max c (nI x.fArgs[i]+1):Nat):Int) by omega]
   exact dh 1 (by decide) (i+1,max c (nI x.fArgs[i]+1)) (by simp only;omega) rfl rfl rfl rfl ⟨by simp only;omega,by simp only;omega⟩
  ·have hi:i=x.fArgs.length:=by omega
   rw[hi,List.drop_length,depths] at p2
   exact int_eq (by omega)
theorem SA(x:au)(hsz:x.sz≤4194304):aI Tryz.prog 298 [x.v] (.c (.d (.i .i64 (nI x)))):=F9 _ x (Nat.lt_succ_self _) hsz
theorem GZ:∀n:Nat,∀x:au,SizeOf.sizeOf x<n→x.sz≤4194304→aI Tryz.prog 299 [x.v] (.c (.d (.i .i64 x.cnt)))
 |0=>fun x h=>by omega
 |n+1=>by
  have ih:=GZ n
  intro x hn hsz S
  have jS:=au.gM x
  have hts:=Dc hsz
  have hd2:=mh x
  refine aG (rs:=[.tmp 2]) Tryz.checked.mixed Tryz.func299 Tryz.ntmps299 rfl rfl rfl rfl rfl ?_
  refine W1 ?_
  refine aT (ι:=Nat×Nat) Tryz.checked.mixed rfl [3,7,8,9] (fun y=>[.c (.d (.i .i64 y.2)),.c (.d (.sl (x.fArgs.map au.enc))),.c (.d (.i .i64 x.fArgs.length)),.c (.d (.i .i64 y.1))]) (fun y=>[.box [.d (.i .i64 x.aK),.d (.s x.fName),.d (.sl (x.fArgs.map au.enc))]]::S)
   (fun y=>y.1≤x.fArgs.length∧x.cnt=y.2+au.eG (x.fArgs.drop y.1)) (fun y=>x.fArgs.length-y.1) (0,1) rfl rfl ⟨Nat.zero_le _,by simp[au.qC]⟩ ?_
  rintro⟨i,c⟩ ⟨p1,p2⟩
  simp only at p1 p2
  refine W1 ?_
  refine S0 (fun hb h=>?_) fun hb h=>?_
  ·have hi:i<x.fArgs.length:=by omega
   have hsz':=vS hi hsz
   rw[mU hi] at p2
   refine W3 ?_
   refine C2 (ih x.fArgs[i] (by have:=List.sizeOf_lt_of_mem (List.getElem_mem hi);omega) (by omega)) ?_
   rw[show(c:Int)+(x.fArgs[i].cnt:Int)=((c+x.fArgs[i].cnt:Nat):Int) by omega]
   exact dh 1 (by decide) (i+1,c+x.fArgs[i].cnt) (by simp only;omega) rfl rfl rfl rfl ⟨by simp only;omega,by simp only;omega⟩
  ·have hi:i=x.fArgs.length:=by omega
   rw[hi,List.drop_length,au.eG] at p2
   exact int_eq (by omega)
theorem U4(x:au)(hsz:x.sz≤4194304):aI Tryz.prog 299 [x.v] (.c (.d (.i .i64 x.cnt))):=GZ _ x (Nat.lt_succ_self _) hsz
theorem G5:∀n:Nat,(∀x:au,SizeOf.sizeOf x<n→x.sz≤4194304→aI Tryz.prog 297 [x.v] (.c (.d (.b (formed x)))))∧
 (∀xs:List au,SizeOf.sizeOf xs<n→xs.length≤4194304→(∀t∈xs,t.sz≤4194304)→aI Tryz.prog 253 [.c (.d (.sl (xs.map au.enc))),.c (.fn 329 [])] (.c (.d (.b (!iZ xs)))))
 |0=>⟨fun x h=>by omega,fun x h=>by omega⟩
 |n+1=>by
  obtain⟨ih,qh⟩:=G5 n
  refine⟨fun x hn hsz S=> ?_,fun xs hn hlen hsz S=> ?_⟩
  ·have jS:=au.gM x
   have hts:=Dc hsz
   have fin:∀b,Bq x.aK x.fName x.fArgs.length=b→formed x=(b&&iZ x.fArgs):=fun b hb=>by rw[←hb];exact xU x
   have hall:∀t∈x.fArgs,t.sz≤4194304:=fun t ht=>by
    obtain⟨i,hi,e⟩:=List.getElem_of_mem ht
    rw[←e];exact(vS hi hsz).1
   have tail:=qh x.fArgs (by omega) hts.1 hall
   have yes:Bq x.aK x.fName x.fArgs.length=true→formed x= !(!iZ x.fArgs):=fun h=>by rw[fin _ h];simp
   have no:Bq x.aK x.fName x.fArgs.length=false→formed x=false:=fun h=>by rw[fin _ h];simp
   have shut:¬((x.aK=1∨x.aK=4)∧validName x.fName=true∧x.fArgs.length=0∨x.aK=3∧validName x.fName=true∧x.fArgs.length=1∨x.aK=2∧(validName x.fName=true∧x.fArgs.length≤3∨xE x.fName=true∧x.fArgs.length=0))→V.c (.d (.b false))=V.c (.d (.b (formed x))):=fun h=>aB (no (aF h)).symm
   have open_:((x.aK=1∨x.aK=4)∧validName x.fName=true∧x.fArgs.length=0∨x.aK=3∧validName x.fName=true∧x.fArgs.length=1∨x.aK=2∧(validName x.fName=true∧x.fArgs.length≤3∨xE x.fName=true∧x.fArgs.length=0))→V.c (.d (.b (!(!iZ x.fArgs))))=V.c (.d (.b (formed x))):=fun h=>aB (yes (bA h)).symm
   clear yes no fin
   refine aG (rs:=[.tmp 2]) Tryz.checked.mixed Tryz.func297 Tryz.ntmps297 rfl rfl rfl rfl rfl ?_
   refine W1 ?_
   repeat' (first
    |(refine S0 (fun hb h=>?_) fun hb h=>?_)
    |(refine aZ (iD x.fName (by omega)) ?_;refine W1 ?_)
    |(refine aZ (Sv x.fName) ?_;refine W1 ?_)
    |(refine aZ tail ?_;refine W1 ?_))
   all_goals first
    |(refine shut (fun y=> ?_);rcases y with⟨_,_,_⟩|⟨_,_,_⟩|⟨_,⟨_,_⟩|⟨_,_⟩⟩<;>first|omega|(simp_all;done))
    |(refine open_ ?_;first
       |exact .inl ⟨by omega,by assumption,by omega⟩
       |exact .inr (.inl ⟨by omega,by assumption,by omega⟩)
       |exact .inr (.inr ⟨by omega,.inl ⟨by assumption,by omega⟩⟩)
       |exact .inr (.inr ⟨by omega,.inr ⟨by assumption,by omega⟩⟩))
  ·have hcl:∀y∈xs,aI Tryz.prog 329 [y.v] (.c (.d (.b (!formed y)))):=fun y hy S=>by
    have hys:=List.sizeOf_lt_of_mem hy
    refine aG (rs:=[.tmp 2]) Tryz.checked.mixed Tryz.func329 Tryz.ntmps329 rfl rfl rfl rfl rfl ?_
    refine W1 ?_
    exact C4 (ih y (by omega) (hsz y hy))
   have hidx:aI Tryz.prog 296 [.c (.d (.sl (xs.map au.enc))),.c (.fn 329 [])] (.c (.d (.i .i64 (sS (fun y=> !formed y) xs)))):=fun S=>by
    refine aG (rs:=[.tmp 4]) Tryz.checked.mixed Tryz.func296 Tryz.ntmps296 rfl rfl rfl rfl rfl ?_
    refine W1 ?_
    refine aT (ι:=Nat) Tryz.checked.mixed rfl [0,1,7,8] (fun i=>[.c (.d (.sl (xs.map au.enc))),.c (.fn 329 []),.c (.d (.i .i64 xs.length)),.c (.d (.i .i64 i))]) (fun _=>[]::S)
     (fun i=>i≤xs.length∧∀j,∀hj:j<xs.length,j<i→formed xs[j]=true) (fun i=>xs.length-i) 0 rfl rfl ⟨Nat.zero_le _,fun j _ h=>by omega⟩ ?_
    rintro i ⟨p1,p2⟩
    refine W1 ?_
    refine S0 (fun hb h=>?_) fun hb h=>?_
    ·have hi:i<xs.length:=by omega
     refine W3 ?_
     refine C2 (hcl xs[i] (List.getElem_mem hi)) ?_
     refine S0 (fun hb h=>?_) fun hb h=>?_
     ·rw[sj hi (fun j hj hji=>by rw[p2 j hj hji];rfl) (by rw[h];rfl)]
     ·refine bP (i+1) (by omega) rfl rfl ⟨by omega,fun j hj hji=> ?_⟩
      by_cases e:j=i
      ·subst e;exact h
      ·exact p2 j hj (by omega)
    ·rw[vK (fun j hj=>by rw[p2 j hj (by omega)];rfl)]
   refine aG (rs:=[.tmp 4]) Tryz.checked.mixed Tryz.func253 Tryz.ntmps253 rfl rfl rfl rfl rfl ?_
   refine W1 ?_
   refine C2 (hidx) ?_
   rw[←Jo]
   exact aB tZ
theorem U5(x:au)(hsz:x.sz≤4194304):aI Tryz.prog 297 [x.v] (.c (.d (.b (formed x)))):=(G5 _).1 x (Nat.lt_succ_self _) hsz
theorem xH(x:au)(hsz:x.sz≤4194304):aI Tryz.prog 255 [x.v] (.c (.d (.b (oh x)))):=fun S=>by
 refine aG (rs:=[.tmp 2]) Tryz.checked.mixed Tryz.func255 Tryz.ntmps255 rfl rfl rfl rfl rfl ?_
 refine W1 ?_
 refine C2 (U5 x hsz) ?_
 refine S0 (fun hb h=>?_) fun hb h=>?_
 ·have h1:=h
  refine C2 (SA x hsz) ?_
  refine S0 (fun hb h=>?_) fun hb h=>?_
  ·refine C2 (U4 x hsz) ?_
   exact aB (by rw[jY];exact iq ⟨fun y=>⟨h1,by omega,by omega⟩,fun y=>by have:=y.2.2;omega⟩)
  ·exact aB (aF fun y=>by have:=y.2.1;omega).symm
 ·exact aB (aF fun y=>by rw[y.1] at h;cases h).symm
set_option maxHeartbeats 1000000 in
theorem LG:∀n:Nat,∀x:au,SizeOf.sizeOf x<n→x.sz≤4194304→aI Tryz.prog 305 [x.v] (.c (.d (.b (formed x))))
 |0=>fun x h=>by omega
 |n+1=>by
  have ih:=LG n
  intro x hn hsz S
  have jS:=au.gM x
  have hts:=Dc hsz
  have shut:¬((x.aK=1∨x.aK=4)∧validName x.fName=true∧x.fArgs.length=0∨x.aK=3∧validName x.fName=true∧x.fArgs.length=1∨x.aK=2∧(validName x.fName=true∧x.fArgs.length≤3∨xE x.fName=true∧x.fArgs.length=0))→V.c (.d (.b false))=V.c (.d (.b (formed x))):=fun h=>aB (by rw[xU,show Bq x.aK x.fName x.fArgs.length=false from aF h];rfl)
  have ajS:∀b:Bool,(b=true↔((x.aK=1∨x.aK=4)∧validName x.fName=true∧x.fArgs.length=0∨x.aK=3∧validName x.fName=true∧x.fArgs.length=1∨x.aK=2∧(validName x.fName=true∧x.fArgs.length≤3∨xE x.fName=true∧x.fArgs.length=0)))→b=Bq x.aK x.fName x.fArgs.length:=fun b h=>by
   rw[Bool.eq_iff_iff,h]
   unfold Bq
   rw[zR]
  refine aG (rs:=[.tmp 2]) Tryz.checked.mixed Tryz.func305 Tryz.ntmps305 rfl rfl rfl rfl rfl ?_
  refine W1 ?_
  refine C2 (iE x.fName (by omega)) ?_
  repeat' (first
   |(refine S0 (fun hb h=>?_) fun hb h=>?_)
   |(refine aZ (aaA x.fName) ?_;refine W1 ?_))
  all_goals first
   |(refine shut (fun y=> ?_);rcases y with⟨_,_,_⟩|⟨_,_,_⟩|⟨_,⟨_,_⟩|⟨_,_⟩⟩<;>first|omega|(simp_all;done))
   |skip
  all_goals
   refine aT (ι:=Nat×Bool) Tryz.checked.mixed rfl [1,3,4] (fun y=>[.c (.ptr (0,0) 0),.c (.d (.b y.2)),.c (.d (.i .i64 y.1))]) (fun y=>[.box [.d (.i .i64 x.aK),.d (.s x.fName),.d (.sl (x.fArgs.map au.enc))]]::S)
    (fun y=>y.1≤x.fArgs.length∧(y.2&&iZ (x.fArgs.drop y.1))=formed x) (fun y=>x.fArgs.length-y.1) (0,Bq x.aK x.fName x.fArgs.length) ?_ rfl ⟨Nat.zero_le _,by rw[xU];rfl⟩ ?_
   ·simp only[List.map_cons,List.map_nil]
    simp -implicitDefEqProofs (disch:=omega) only[go_sem,List.cons.injEq,V.c.injEq,C.d.injEq,D.b.injEq,Int.natCast_zero]
    refine ajS _ ⟨fun y=> ?_,fun y=> ?_⟩
    ·(try simp only[decide_eq_true_eq,Bool.false_eq_true] at y)<;>first
       |exact .inl ⟨by omega,by assumption,by omega⟩
       |exact .inr (.inl ⟨by omega,by assumption,by omega⟩)
       |exact .inr (.inr ⟨by omega,.inl ⟨by assumption,by omega⟩⟩)
       |exact .inr (.inr ⟨by omega,.inr ⟨by assumption,by omega⟩⟩)
    ·rcases y with⟨_,_,_⟩|⟨_,_,_⟩|⟨_,⟨_,_⟩|⟨_,_⟩⟩<;>first|omega|(simp only[decide_eq_true_eq];omega)|(simp_all;done)
   rintro⟨i,c⟩ ⟨p1,p2⟩
   simp only at p1 p2
   refine W1 ?_
   refine S0 (fun hb h=>?_) fun hb h=>?_
   ·have hi:i<x.fArgs.length:=by omega
    have hsz':=vS hi hsz
    rw[Sw hi] at p2
    refine S0 (fun hb h=>?_) fun hb h=>?_
    ·refine C1 (ih x.fArgs[i] (by have:=List.sizeOf_lt_of_mem (List.getElem_mem hi);omega) (by omega)) ?_
     exact bP (i+1,formed x.fArgs[i]) (by simp only;omega) rfl rfl ⟨by simp only;omega,by rw[←p2,h];rfl⟩
    ·exact bP (i+1,false) (by simp only;omega) rfl rfl ⟨by simp only;omega,by rw[←p2,h];rfl⟩
   ·have hi:i=x.fArgs.length:=by omega
    rw[hi,List.drop_length,iZ,Bool.and_true] at p2
    rw[p2]
theorem aaC(x:au)(hsz:x.sz≤4194304):aI Tryz.prog 305 [x.v] (.c (.d (.b (formed x)))):=LG _ x (Nat.lt_succ_self _) hsz
theorem xI(x:au)(hsz:x.sz≤4194304):aI Tryz.prog 272 [x.v] (.c (.d (.b (oh x)))):=fun S=>by
 refine aG (rs:=[.tmp 2]) Tryz.checked.mixed Tryz.func272 Tryz.ntmps272 rfl rfl rfl rfl rfl ?_
 refine W1 ?_
 refine C2 (aaB x 60 (by omega) (by omega) hsz) ?_
 refine S0 (fun hb h=>?_) fun hb h=>?_
 ·have h1:=(zm (l:=60) (a:=x.cnt) (by omega)).2
  refine C2 (Sz x hsz) ?_
  refine S0 (fun hb h=>?_) fun hb h=>?_
  ·refine C2 (aaC x hsz) ?_
   refine aB ?_
   cases hf:formed x with
   |false=>exact(aF fun y=>by rw[hf] at y;cases y.1).symm
   |true=>exact(bA ⟨hf,by omega,by omega⟩).symm
  ·exact aB (aF fun y=>by have:=y.2.1;omega).symm
 ·have h1:=zn (l:=60) (a:=x.cnt) (by omega)
  exact aB (aF fun y=>by have:=y.2.2;omega).symm
theorem I8(x:aO)(hn:x.bL.length≤1073741824)(hsz:x.fType.sz≤4194304):aI Tryz.prog 290 [x.v] (.c (.d (.b (validName x.bL&&oh x.fType)))):=fun S=>by
 refine aG (rs:=[.tmp 2]) Tryz.checked.mixed Tryz.func290 Tryz.ntmps290 rfl rfl rfl rfl rfl ?_
 refine W1 ?_
 refine C2 (iE x.bL hn) ?_
 refine S0 (fun hb h=>?_) fun hb h=>?_
 ·exact C4 (xI x.fType hsz)
 ·rfl
theorem I9(x:aO)(hn:x.bL.length≤1073741824)(hsz:x.fType.sz≤4194304):aI Tryz.prog 262 [x.v] (.c (.d (.b (validName x.bL&&oh x.fType)))):=fun S=>by
 refine aG (rs:=[.tmp 2]) Tryz.checked.mixed Tryz.func262 Tryz.ntmps262 rfl rfl rfl rfl rfl ?_
 refine W1 ?_
 refine C2 (iD x.bL hn) ?_
 refine S0 (fun hb h=>?_) fun hb h=>?_
 ·exact C4 (xH x.fType hsz)
 ·rfl
end Go.Proofs.YtocpgjlbagncjaaGreatDoor
namespace Go.Ab
mutual
def ay.cnt:ay→Nat
 | .mk _ _ _ _ _ a b=>1+(ay.eG a+aR.eG b)
def ay.eG:List ay→Nat
 |[]=>0
 |x::xs=>x.cnt+ay.eG xs
def aR.cnt:aR→Nat
 | .mk _ _ b=>b.cnt
def aR.eG:List aR→Nat
 |[]=>0
 |x::xs=>x.cnt+aR.eG xs
end
theorem ay.qC(x:ay):x.cnt=1+(ay.eG x.fArgs+aR.eG x.aP):=by cases x;rw[ay.cnt];rfl
theorem aR.qC(x:aR):x.cnt=x.fBody.cnt:=by cases x;rw[aR.cnt];rfl
theorem ay.mU{xs:List ay}{i:Nat}(hi:i<xs.length):ay.eG (xs.drop i)=xs[i].cnt+ay.eG (xs.drop (i+1)):=by rw[List.drop_eq_getElem_cons hi,ay.eG]
theorem aR.mU{xs:List aR}{i:Nat}(hi:i<xs.length):aR.eG (xs.drop i)=xs[i].fBody.cnt+aR.eG (xs.drop (i+1)):=by rw[List.drop_eq_getElem_cons hi,aR.eG,aR.qC]
theorem ay.Cn(x:ay):x.fArgs.length+bD (x.fArgs.map ay.enc)≤x.sz∧x.aP.length+bD (x.aP.map aR.enc)≤x.sz:=by
 simp only[ay.sz,ay.aD,cu,bN,D.sz,List.length_map]
 omega
theorem aR.NA(x:aR):x.fBody.sz≤x.sz:=by
 simp only[aR.sz,aR.aD,ay.sz,cu,bN,D.sz,List.length_map]
 omega
mutual
theorem ay.mh:∀x:ay,x.cnt≤1+x.sz
 | .mk k t n m ty a b=>by
   have h1:=ay.xS a
   have h2:=aR.xS b
   rw[ay.cnt]
   simp only[ay.sz,ay.aD,cu,bN,D.sz,List.length_map,ay.fArgs,ay.aP]
   omega
theorem ay.xS:∀xs:List ay,ay.eG xs≤xs.length+bD (xs.map ay.enc)
 |[]=>by simp[ay.eG]
 |x::xs=>by
  have h1:=ay.mh x
  have h2:=ay.xS xs
  rw[ay.eG,List.length_cons,List.map_cons,bD,ay.dZ]
  omega
theorem aR.mh:∀x:aR,x.cnt≤1+x.sz
 | .mk c v b=>by
   have h1:=ay.mh b
   have h2:=aR.NA (.mk c v b)
   rw[aR.cnt]
   simp only[aR.fBody] at h2
   omega
theorem aR.xS:∀xs:List aR,aR.eG xs≤xs.length+bD (xs.map aR.enc)
 |[]=>by simp[aR.eG]
 |x::xs=>by
  have h1:=aR.mh x
  have h2:=aR.xS xs
  rw[aR.eG,List.length_cons,List.map_cons,bD,aR.dZ]
  omega
end
end Go.Ab
namespace Go.Proofs.YtocpgjlbagncjaaGreatDoor
open Go Go.Ab
theorem Co:∀n:Nat,∀x:ay,SizeOf.sizeOf x<n→x.sz≤4194304→aI Tryz.prog 212 [x.v] (.c (.d (.i .i64 x.cnt)))
 |0=>fun x h=>by omega
 |n+1=>by
  have ih:=Co n
  intro x hn hsz S
  have jS:=ay.gM x
  have zS:=ay.oN x
  have hp:=ay.Cn x
  have hc:=ay.mh x
  have he:=ay.qC x
  refine aG (rs:=[.tmp 2]) Tryz.checked.mixed Tryz.func212 Tryz.ntmps212 rfl rfl rfl rfl rfl ?_
  refine W1 ?_
  refine aT (ι:=Nat×Nat) Tryz.checked.mixed rfl [1,3,9,10,11] (fun y=>[.c (.ptr (0,0) 0),.c (.d (.i .i64 y.2)),.c (.d (.sl (x.fArgs.map ay.enc))),.c (.d (.i .i64 x.fArgs.length)),.c (.d (.i .i64 y.1))]) (fun y=>[.box (x.enc.map .d)]::S)
   (fun y=>y.1≤x.fArgs.length∧x.cnt=y.2+ay.eG (x.fArgs.drop y.1)+aR.eG x.aP) (fun y=>x.fArgs.length-y.1) (0,1) rfl ?_ ⟨Nat.zero_le _,by simp only[List.drop_zero];omega⟩ ?_
  ·exact Z1
  rintro⟨i,c⟩ ⟨p1,p2⟩
  simp only at p1 p2
  refine W1 ?_
  refine S0 (fun hb h=>?_) fun hb h=>?_
  ·have hi:i<x.fArgs.length:=by omega
   have hx:x.fArgs[i].sz≤bD (x.fArgs.map ay.enc):=dA (List.mem_map_of_mem (List.getElem_mem hi))
   rw[ay.mU hi] at p2
   refine W3 ?_
   refine C2 (ih x.fArgs[i] (by have:=List.sizeOf_lt_of_mem (List.getElem_mem hi);omega) (by omega)) ?_
   rw[show(c:Int)+(x.fArgs[i].cnt:Int)=((c+x.fArgs[i].cnt:Nat):Int) by omega]
   exact dh 1 (by decide) (i+1,c+x.fArgs[i].cnt) (by simp only;omega) rfl rfl rfl rfl ⟨by simp only;omega,by simp only;omega⟩
  have hi:i=x.fArgs.length:=by omega
  rw[hi,List.drop_length,ay.eG] at p2
  refine aT (ι:=Nat×Nat) Tryz.checked.mixed rfl [3,21,22,23] (fun y=>[.c (.d (.i .i64 y.2)),.c (.d (.sl (x.aP.map aR.enc))),.c (.d (.i .i64 x.aP.length)),.c (.d (.i .i64 y.1))]) (fun y=>[.box (x.enc.map .d)]::S)
   (fun y=>y.1≤x.aP.length∧x.cnt=y.2+aR.eG (x.aP.drop y.1)) (fun y=>x.aP.length-y.1) (0,c) rfl ?_ ⟨Nat.zero_le _,by simp only[List.drop_zero];omega⟩ ?_
  ·exact Z1
  clear p1 p2 hb h hi i
  rintro⟨i,d⟩ ⟨p1,p2⟩
  simp only at p1 p2
  refine W1 ?_
  refine S0 (fun hb h=>?_) fun hb h=>?_
  ·have hi:i<x.aP.length:=by omega
   have hx:x.aP[i].sz≤bD (x.aP.map aR.enc):=dA (List.mem_map_of_mem (List.getElem_mem hi))
   have hy:=aR.NA x.aP[i]
   have hs:=List.sizeOf_lt_of_mem (List.getElem_mem hi)
   have hs':=aR.nW x.aP[i]
   rw[aR.mU hi] at p2
   refine W3 ?_
   refine C2 (ih x.aP[i].fBody (by omega) (by omega)) ?_
   rw[show(d:Int)+(x.aP[i].fBody.cnt:Int)=((d+x.aP[i].fBody.cnt:Nat):Int) by omega]
   exact dh 1 (by decide) (i+1,d+x.aP[i].fBody.cnt) (by simp only;omega) rfl rfl rfl rfl ⟨by simp only;omega,by simp only;omega⟩
  ·have hi:i=x.aP.length:=by omega
   rw[hi,List.drop_length,aR.eG] at p2
   exact int_eq (by omega)
theorem LH(x:ay)(hsz:x.sz≤4194304):aI Tryz.prog 212 [x.v] (.c (.d (.i .i64 x.cnt))):=Co _ x (Nat.lt_succ_self _) hsz
end Go.Proofs.YtocpgjlbagncjaaGreatDoor
namespace Go.Ab
mutual
def qD:au→List au
 | .mk k n a=>.mk k n a::pR a
def pR:List au→List au
 |[]=>[]
 |t::ts=>qD t++pR ts
end
theorem Am(t:au):qD t=t::pR t.fArgs:=by cases t;rw[qD];rfl
theorem zT{ts:List au}{i:Nat}(hi:i<ts.length):pR (ts.drop i)=qD ts[i]++pR (ts.drop (i+1)):=by rw[List.drop_eq_getElem_cons hi,pR]
mutual
theorem G6:∀t:au,(qD t).length=t.cnt
 | .mk k n a=>by rw[qD,List.length_cons,au.cnt,LJ a];omega
theorem LJ:∀ts:List au,(pR ts).length=au.eG ts
 |[]=>rfl
 |t::ts=>by rw[pR,List.length_append,au.eG,G6 t,LJ ts]
end
def u7(out:List (List UInt8))(u:au):List (List UInt8):=if u.aK=1∧u.fName∉out then out++[u.fName] else out
def jy(out:List (List UInt8))(t:au):List (List UInt8):=(qD t).foldl u7 out
def uE(out:List (List UInt8))(ts:List au):List (List UInt8):=(pR ts).foldl u7 out
theorem J2(out:List (List UInt8))(u:au):(u7 out u).length≤out.length+1:=by
 unfold u7
 split<;>simp
theorem OT:∀(us:List au) (out:List (List UInt8)),(us.foldl u7 out).length≤out.length+us.length
 |[],out=>by simp
 |u::us,out=>by
  have h1:=J2 out u
  have h2:=OT us (u7 out u)
  rw[List.foldl_cons,List.length_cons]
  omega
theorem Ao(t:au)(out:List (List UInt8)):(jy out t).length≤out.length+t.cnt:=by
 have:=OT (qD t) out
 rw[G6] at this
 exact this
theorem adK(out:List (List UInt8))(t:au):jy out t=uE (u7 out t) t.fArgs:=by
 unfold jy uE
 rw[Am,List.foldl_cons]
theorem Jz{ts:List au}{i:Nat}(hi:i<ts.length)(out:List (List UInt8)):uE out (ts.drop i)=uE (jy out ts[i]) (ts.drop (i+1)):=by
 unfold uE jy
 rw[zT hi,List.foldl_append]
def rG(t:au):Bool:=(qD t).any fun u=>decide (u.aK=3)
def vT(ts:List au):Bool:=(pR ts).any fun u=>decide (u.aK=3)
theorem Fy(t:au):rG t=(decide (t.aK=3)||vT t.fArgs):=by
 unfold rG vT
 rw[Am,List.any_cons]
theorem PV{ts:List au}{i:Nat}(hi:i<ts.length):vT (ts.drop i)=(rG ts[i]||vT (ts.drop (i+1))):=by
 unfold vT rG
 rw[zT hi,List.any_append]
theorem SB(us:List au):∀b:Bool,us.foldl (fun b u=>b||decide (u.aK=3)) b=(b||us.any fun u=>decide (u.aK=3)):=by
 induction us with
 |nil=>intro b;simp
 |cons u us ih=>intro b;rw[List.foldl_cons,ih,List.any_cons,Bool.or_assoc]
def LK(v:List UInt8)(u:au):Bool:=decide (u.aK=1∧u.fName=v)
def q9(v:List UInt8)(t:au):Nat:=(qD t).countP (LK v)
def wD(v:List UInt8)(ts:List au):Nat:=(pR ts).countP (LK v)
theorem aaD(v:List UInt8)(t:au):q9 v t=(if LK v t then 1 else 0)+wD v t.fArgs:=by
 unfold q9 wD
 rw[Am,List.countP_cons]
 omega
theorem SC{v:List UInt8}{ts:List au}{i:Nat}(hi:i<ts.length):wD v (ts.drop i)=q9 v ts[i]+wD v (ts.drop (i+1)):=by
 unfold wD q9
 rw[zT hi,List.countP_append]
theorem aaE(v:List UInt8)(t:au):q9 v t≤t.cnt:=by
 unfold q9
 rw[←G6]
 exact List.countP_le_length
def occurs(v:List UInt8)(t:au):Bool:=decide (0<q9 v t)
end Go.Ab
