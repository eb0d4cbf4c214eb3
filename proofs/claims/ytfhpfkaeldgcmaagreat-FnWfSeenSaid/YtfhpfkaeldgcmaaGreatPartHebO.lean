/-
  SEVERAL TEXTS IN ONE (merged by program): contracts and models, each with its own heading.
-/
import Derived.Test.YtfhpfkaeldgcmaaGreatPartHebN
import Derived.Lib.ItoaNum
import Derived.Shelf.Strconv.Itoa3
open Go.Proofs Go.Proofs.Tryz
set_option linter.unusedSimpArgs false
set_option linter.unusedVariables false
set_option maxRecDepth 4000
namespace Go.Ab
def yT:List UInt8:=[116,114,117,101]
def xu:List UInt8:=[102,97,108,115,101]
def qb:List UInt8:=[99,97,108,108]
def jF:List UInt8:=[109,101,116,104,111,100]
def uw:List UInt8:=[110,101,119]
def lV:List UInt8:=[99,97,115,101]
def uy:List UInt8:=[108,101,116]
def zw:List UInt8:=[105,102]
def qc:List UInt8:=[112,97,99,107]
def tq:List UInt8:=[116,104,101]
def jZ(k:Int)(tr nm:List UInt8)(ty:ay):List au:=
 if k=4 then cZ [qb,nm] else if k=5 then cZ [jF,tr,nm] else if k=6 then cZ [uw,nm] else if k=8 then cZ [uy,nm] else
 if k=9 then cZ [zw] else if k=10 then cZ [nm] else if k=11 then cZ [qc,tr] else if k=12 then [bQ tq,dU ty] else cZ [lV]
mutual
def fM:aD->au
 | .mk k tr nm n ty zs ms=>if k=1 then bQ (Lib.itoa n) else if k=2 then bQ (if n=1 then yT else xu) else if k=3 then bQ nm else
   eB (jZ k tr nm ty++zM zs++(if k=4\/k=5\/k=6\/k=8\/k=9\/k=10\/k=11\/k=12 then [] else EM ms))
def zM:List aD->List au
 |[]=>[]
 |t::ts=>fM t::zM ts
def DV:bE->au
 | .mk c vs b=>eB ([bQ c]++cZ vs++[fM b])
def EM:List bE->List au
 |[]=>[]
 |t::ts=>DV t::EM ts
end
theorem BF:∀l,zM l=l.map fM
 |[]=>rfl
 |t::ts=>by rw[zM,List.map_cons,BF ts]
theorem EN:∀l,EM l=l.map DV
 |[]=>rfl
 |t::ts=>by rw[EM,List.map_cons,EN ts]
theorem RU(x:aD):fM x=if x.aV=1 then bQ (Lib.itoa x.fN) else if x.aV=2 then bQ (if x.fN=1 then yT else xu) else if x.aV=3 then bQ x.fName else
 eB (jZ x.aV x.bW x.fName x.fType++x.fArgs.map fM++(if x.aV=4\/x.aV=5\/x.aV=6\/x.aV=8\/x.aV=9\/x.aV=10\/x.aV=11\/x.aV=12 then [] else x.bP.map DV)):=by
 cases x;rw[fM,BF,EN];rfl
theorem ai4(x:bE):DV x=eB ([bQ x.fP]++cZ x.aU++[fM x.fBody]):=by cases x;rw[DV];rfl
def sw:List aD->Nat
 |[]=>0
 |x::xs=>x.sz+sw xs
theorem JX:∀l,aQ (l.map aD.enc)=sw l
 |[]=>rfl
 |x::xs=>by rw[List.map_cons,aQ,sw,JX xs];rfl
def zU:List bE->Nat
 |[]=>0
 |x::xs=>x.sz+zU xs
theorem JY:∀l,aQ (l.map bE.enc)=zU l
 |[]=>rfl
 |x::xs=>by rw[List.map_cons,aQ,zU,JY xs];rfl
theorem yw(x:aD):x.sz=x.bW.length+x.fName.length+x.fType.sz+(x.fArgs.length+sw x.fArgs)+(x.bP.length+zU x.bP):=by
 rw[<-JX,<-JY];simp only[aD.sz,aD.aj,bG,bC,D.sz,List.length_map,ay.cK];omega
theorem Co(x:bE):x.sz=x.fP.length+(x.aU.length+(x.aU.map List.length).sum)+x.fBody.sz:=by
 rw[<-eu];simp only[bE.sz,bE.aj,bG,bC,D.sz,List.length_map,aD.cK];omega
theorem DW:∀(k n:Nat),n<10^ (k+1)->(Lib.decDigits n).length<=k+1
 |0,n,h=>by rw[Lib.decDigits,dif_pos (by simpa using h)];simp
 |k+1,n,h=>by
  rw[Lib.decDigits];split
  ·simp
  ·rw[List.length_append];have:=DW k (n/10) (by rw[Nat.pow_succ] at h;omega);simp;omega
theorem aep{n:Int}(h: -999999<=n/\n<=999999):(Lib.itoa n).length<=7:=by
 unfold Lib.itoa;split
 ·have:=DW 5 n.natAbs (by omega);simp;omega
 ·have:=DW 5 n.toNat (by omega);omega
theorem aa1(k:Int)(tr nm:List UInt8)(ty:ay):(jZ k tr nm ty).length<=3/\dH (jZ k tr nm ty)<=18+tr.length+nm.length+16*ty.sz:=by
 have h:=zq ty;unfold jZ
 repeat' (first|(split;·refine⟨by simp[cZ],?_⟩;simp[dH,cZ,jc,qb,jF,uw,uy,zw,qc,tq,lV];omega))
 refine⟨by simp[cZ],?_⟩;simp[dH,cZ,jc,lV];omega
mutual
theorem GR:∀x:aD,iY x=true->(fM x).sz<=24+32*x.sz
 | .mk k tr nm n ty zs ms=>fun hok=>by
   rw[iY,Bool.and_eq_true,Bool.and_eq_true] at hok;have hf:=gD hok.1;have h1:=Vw zs hok.2.1;have h2:=Vx ms hok.2.2;have h3:=aa1 k tr nm ty;rw[yw];simp only[aD.fName,aD.fArgs,aD.bW,aD.fType,aD.bP];rw[fM];split
   ·rename_i hk;have h4:=hf.2.2.2.1;simp only[aD.aV,aD.fN,hk,if_true] at h4;have:=aep h4;rw[jc];omega
   ·split
    ·rw[jc];split<;>simp[yT,xu]<;>omega
    ·split
     ·rw[jc];omega
     ·rw[jd,jO,jO,List.length_append,List.length_append,BF,List.length_map,<-BF];split
      ·simp[dH];omega
      ·rw[EN,List.length_map,<-EN];omega
theorem Vw:∀xs:List aD,lJ xs=true->dH (zM xs)<=24*xs.length+32*sw xs
 |[],_=>by simp[zM,dH]
 |x::xs,h=>by
  rw[lJ,Bool.and_eq_true] at h;have h1:=GR x h.1;have h2:=Vw xs h.2;rw[zM,dH,sw,List.length_cons];omega
theorem ai5:∀x:bE,yS x=true->(DV x).sz<=26+32*x.sz
 | .mk c vs b=>fun hok=>by
   rw[yS,Bool.and_eq_true,Bool.and_eq_true] at hok;have h1:=GR b hok.2.2;rw[Co];simp only[bE.fP,bE.aU,bE.fBody];rw[DV,jd,jO,jO,List.length_append,List.length_append,kR,pW];simp[dH,jc];omega
theorem Vx:∀xs:List bE,oG xs=true->dH (EM xs)<=26*xs.length+32*zU xs
 |[],_=>by simp[EM,dH]
 |x::xs,h=>by
  rw[oG,Bool.and_eq_true] at h;have h1:=ai5 x h.1;have h2:=Vx xs h.2;rw[EM,dH,zU,List.length_cons];omega
end
def GU(m:Nat):List UInt8:=if m=0 then [] else Lib.decDigits m
theorem aa2{m:Nat}(h:m≠0):GU (m/10)++[UInt8.ofNat (48+m % 10)]=GU m:=by
 unfold GU;rw[if_neg h]
 conv=>rhs;rw[Lib.decDigits]
 by_cases h10:m<10
 ·rw[dif_pos h10,if_pos (by omega),List.nil_append,Nat.mod_eq_of_lt h10]
 ·rw[dif_neg h10,if_neg (by omega)]
theorem aer(n:Int)(h0: -9223372036854775808<=n)(h1:n<=9223372036854775807):∃sg:Nat->Int,sg 0=0/\sg n.natAbs=n/\(∀m,m≠0->sg m≠0)/\(∀m,(sg m).tmod 10= -((m % 10:Nat):Int)\/(sg m).tmod 10=((m % 10:Nat):Int))/\
 (∀m,(sg m).tdiv 10=sg (m/10))/\∀m,m<=n.natAbs-> -9223372036854775808<=sg m/\sg m<=9223372036854775807:=by
 by_cases h:n<0
 ·refine⟨fun m=> -(m:Int),rfl,by simp only;omega,fun m hm=>by simp only;omega,fun m=>.inl ?_,fun m=> ?_,fun m hm=>by simp only;omega⟩
  ·simp only;rw[Int.neg_tmod];congr 1
  ·simp only;rw[Int.neg_tdiv];congr 1
 ·refine⟨fun m=>(m:Int),rfl,by simp only;omega,fun m hm=>by simp only;omega,fun m=>.inr rfl,fun m=>rfl,fun m hm=>by simp only;omega⟩
theorem aa3:Lib.itoa 0=[48]:=by
 unfold Lib.itoa;rw[if_neg (by decide),Lib.decDigits,dif_pos (by decide)];rfl
theorem X7(a:Nat)(h:a<=9223372036854775808):(Lib.decDigits a).length<=19:=DW 18 a (by omega)
theorem vN(n:Int)(h0: -9223372036854775808<=n)(h1:n<=9223372036854775807):aX prog 276 [.c (.d (.i .i64 n))] (.c (.d (.s (Lib.itoa n)))):=fun S=>by
 obtain⟨sg,g0,gn,gne,amU,amV,ai6⟩:=aer n h0 h1;refine zcx [.tmp 2] func276 ntmps276 ?_;simp -implicitDefEqProofs (disch:=omega) only[go_sem]
 with_reducible refine aC (fun hb=> ?_) (fun hb=> ?_)<;>have h:=hb<;>(try simp only[wf_preprocess] at h)<;>simp -implicitDefEqProofs (disch:=omega) only[go_sem,hb]<;>(repeat(with_reducible refine And.intro ?_ ?_;focus first|omega|rfl|assumption|exact⟨_,rfl,rfl⟩|(simp;omega)|(simp;done)))
 ·rw[h,aa3]
 have hn0:=h
 have hd0:GU n.natAbs=Lib.decDigits n.natAbs:=by unfold GU;rw[if_neg (by omega)]
 have hln:=X7 n.natAbs (by omega)
 refine bN (ι:=Nat×List UInt8) zmx rfl [0,3,4] (fun y=>[.c (.d (.i .i64 (sg y.1))),.c (.d (.b (decide (n<0)))),.c (.d (.s y.2))]) (fun _=>[]::S)
  (fun y=>y.1<=n.natAbs/\GU y.1++y.2=GU n.natAbs/\y.2.length<=19) (fun y=>y.1) (n.natAbs,[]) (by rw[gn];rfl) rfl ⟨Nat.le_refl _,List.append_nil _,by simp⟩ ?_
 rintro⟨m,out⟩ ⟨p1,p2,p3⟩;simp only at p1 p2 p3;have hr:=ai6 m p1;have hm:=amU m;have hq:=amV m
 generalize hx:sg m=x at *
 generalize hy:x.tmod 10=y at *
 have hlo:out.length<=19:=p3;simp -implicitDefEqProofs (disch:=omega) only[go_sem]
 with_reducible refine aC (fun hb=> ?_) (fun hb=> ?_)<;>have h:=hb<;>(try simp only[wf_preprocess] at h)<;>simp -implicitDefEqProofs (disch:=omega) only[go_sem,hb]<;>(repeat(with_reducible refine And.intro ?_ ?_;focus first|omega|rfl|assumption|exact⟨_,rfl,rfl⟩|(simp;omega)|(simp;done)))
 ·have hm0:m≠0:=fun e=>by rw[e,g0] at hx;omega
  have hst:=aa2 hm0;have hr2:=ai6 (m/10) (by omega)
  have aoo:(GU (m/10)).length+1+out.length<=19:=by
   have:=congrArg List.length p2;rw[<-hst,hd0] at this;simp only[List.length_append,List.length_cons,List.length_nil] at this;omega
  simp -implicitDefEqProofs (disch:=omega) only[go_sem,hy]
  with_reducible refine aC (fun hb=> ?_) (fun hb=> ?_)<;>have h:=hb<;>(try simp only[wf_preprocess] at h)<;>simp -implicitDefEqProofs (disch:=omega) only[go_sem,hb]<;>(repeat(with_reducible refine And.intro ?_ ?_;focus first|omega|rfl|assumption|exact⟨_,rfl,rfl⟩|(simp;omega)|(simp;done)))
  ·have e1:(0:Int)-y=((m % 10:Nat):Int):=by omega
   have hc:UInt8.ofNat (IntKind.u8.wrap (48+(0-y))).toNat=UInt8.ofNat (48+m % 10):=by
    rw[wrap_u8 _ (by omega),e1];congr 1
   simp -implicitDefEqProofs (disch:=omega) only[go_sem,hy,hq]
   (repeat(with_reducible refine And.intro ?_ ?_;focus first|omega|rfl|assumption|exact⟨_,rfl,rfl⟩|(simp;omega)|(simp;done)))
   refine bT (m/10,UInt8.ofNat (48+m % 10)::out) (by simp only;omega) (by rw[<-hc];rfl) rfl ⟨by simp only;omega,?_,by simp only[List.length_cons];omega⟩
   simp only
   rw[<-p2,<-hst,List.append_assoc];rfl
  ·have e1:y=((m % 10:Nat):Int):=by omega
   have hc:UInt8.ofNat (IntKind.u8.wrap (48+y)).toNat=UInt8.ofNat (48+m % 10):=by
    rw[wrap_u8 _ (by omega),e1];congr 1
   simp -implicitDefEqProofs (disch:=omega) only[go_sem,hy,hq]
   (repeat(with_reducible refine And.intro ?_ ?_;focus first|omega|rfl|assumption|exact⟨_,rfl,rfl⟩|(simp;omega)|(simp;done)))
   refine bT (m/10,UInt8.ofNat (48+m % 10)::out) (by simp only;omega) (by rw[<-hc];rfl) rfl ⟨by simp only;omega,?_,by simp only[List.length_cons];omega⟩
   simp only
   rw[<-p2,<-hst,List.append_assoc];rfl
 ·have hm0:m=0:=by
   rcases Nat.eq_zero_or_pos m with e|e
   ·exact e
   ·exact absurd (by rw[hx];omega) (gne m (by omega))
  subst hm0
  have hout:out=Lib.decDigits n.natAbs:=by rw[<-hd0,<-p2];rfl
  with_reducible refine aC (fun hb=> ?_) (fun hb=> ?_)<;>have h:=hb<;>(try simp only[wf_preprocess] at h)<;>simp -implicitDefEqProofs (disch:=omega) only[go_sem,hb]<;>(repeat(with_reducible refine And.intro ?_ ?_;focus first|omega|rfl|assumption|exact⟨_,rfl,rfl⟩|(simp;omega)|(simp;done)))
  ·(repeat(with_reducible refine And.intro ?_ ?_;focus first|omega|rfl|assumption|exact⟨_,rfl,rfl⟩|(simp;omega)|(simp;done)))
   rw[hout];unfold Lib.itoa;rw[if_pos h]
  ·rw[hout];unfold Lib.itoa;rw[if_neg h,show n.toNat=n.natAbs by omega]
end Go.Ab