/-
  SEVERAL TEXTS IN ONE (merged by program): contracts and models, each with its own heading.
-/
import Derived.Test.YtfhpfkaeldgcmaaGreatPartHfbN
import Derived.Lib.ItoaNum
import Derived.Shelf.Strconv.Itoa3
open Go.Proofs Go.Proofs.Tryz
set_option linter.unusedSimpArgs false
set_option linter.unusedVariables false
set_option maxRecDepth 4000
namespace Go.Ab
def yN:List UInt8:=[116,114,117,101]
def wY:List UInt8:=[102,97,108,115,101]
def pU:List UInt8:=[99,97,108,108]
def jO:List UInt8:=[109,101,116,104,111,100]
def uD:List UInt8:=[110,101,119]
def lX:List UInt8:=[99,97,115,101]
def uE:List UInt8:=[108,101,116]
def ze:List UInt8:=[105,102]
def pV:List UInt8:=[112,97,99,107]
def tC:List UInt8:=[116,104,101]
def kC(k:Int)(tr nm:List UInt8)(ty:ay):List au:=
 if k=4 then dn [pU,nm] else if k=5 then dn [jO,tr,nm] else if k=6 then dn [uD,nm] else if k=8 then dn [uE,nm] else
 if k=9 then dn [ze] else if k=10 then dn [nm] else if k=11 then dn [pV,tr] else if k=12 then [bR tC,dR ty] else dn [lX]
mutual
def fQ:aC->au
 | .mk k tr nm n ty zs ms=>if k=1 then bR (Lib.itoa n) else if k=2 then bR (if n=1 then yN else wY) else if k=3 then bR nm else
   eD (kC k tr nm ty++zC zs++(if k=4\/k=5\/k=6\/k=8\/k=9\/k=10\/k=11\/k=12 then [] else Ez ms))
def zC:List aC->List au
 |[]=>[]
 |t::ts=>fQ t::zC ts
def DF:bn->au
 | .mk c vs b=>eD ([bR c]++dn vs++[fQ b])
def Ez:List bn->List au
 |[]=>[]
 |t::ts=>DF t::Ez ts
end
theorem Bp:∀l,zC l=l.map fQ
 |[]=>rfl
 |t::ts=>by rw[zC,List.map_cons,Bp ts]
theorem EA:∀l,Ez l=l.map DF
 |[]=>rfl
 |t::ts=>by rw[Ez,List.map_cons,EA ts]
theorem RI(x:aC):fQ x=if x.aV=1 then bR (Lib.itoa x.fN) else if x.aV=2 then bR (if x.fN=1 then yN else wY) else if x.aV=3 then bR x.fName else
 eD (kC x.aV x.bU x.fName x.fType++x.fArgs.map fQ++(if x.aV=4\/x.aV=5\/x.aV=6\/x.aV=8\/x.aV=9\/x.aV=10\/x.aV=11\/x.aV=12 then [] else x.bH.map DF)):=by
 cases x;rw[fQ,Bp,EA];rfl
theorem aiH(x:bn):DF x=eD ([bR x.fK]++dn x.aS++[fQ x.fBody]):=by cases x;rw[DF];rfl
def sG:List aC->Nat
 |[]=>0
 |x::xs=>x.sz+sG xs
theorem JE:∀l,aN (l.map aC.enc)=sG l
 |[]=>rfl
 |x::xs=>by rw[List.map_cons,aN,sG,JE xs];rfl
def zK:List bn->Nat
 |[]=>0
 |x::xs=>x.sz+zK xs
theorem JF:∀l,aN (l.map bn.enc)=zK l
 |[]=>rfl
 |x::xs=>by rw[List.map_cons,aN,zK,JF xs];rfl
theorem yj(x:aC):x.sz=x.bU.length+x.fName.length+x.fType.sz+(x.fArgs.length+sG x.fArgs)+(x.bH.length+zK x.bH):=by
 rw[<-JE,<-JF];simp only[aC.sz,aC.aj,bD,aY,D.sz,List.length_map,ay.bY];omega
theorem Ca(x:bn):x.sz=x.fK.length+(x.aS.length+(x.aS.map List.length).sum)+x.fBody.sz:=by
 rw[<-eB];simp only[bn.sz,bn.aj,bD,aY,D.sz,List.length_map,aC.bY];omega
theorem DI:∀(k n:Nat),n<10^ (k+1)->(Lib.decDigits n).length<=k+1
 |0,n,h=>by rw[Lib.decDigits,dif_pos (by simpa using h)];simp
 |k+1,n,h=>by
  rw[Lib.decDigits];split
  ·simp
  ·rw[List.length_append];have:=DI k (n/10) (by rw[Nat.pow_succ] at h;omega);simp;omega
theorem adZ{n:Int}(h: -999999<=n/\n<=999999):(Lib.itoa n).length<=7:=by
 unfold Lib.itoa;split
 ·have:=DI 5 n.natAbs (by omega);simp;omega
 ·have:=DI 5 n.toNat (by omega);omega
theorem aaI(k:Int)(tr nm:List UInt8)(ty:ay):(kC k tr nm ty).length<=3/\dK (kC k tr nm ty)<=18+tr.length+nm.length+16*ty.sz:=by
 have h:=y9 ty;unfold kC
 repeat' (first|(split;·refine⟨by simp[dn],?_⟩;simp[dK,dn,jf,pU,jO,uD,uE,ze,pV,tC,lX];omega))
 refine⟨by simp[dn],?_⟩;simp[dK,dn,jf,lX];omega
mutual
theorem Gu:∀x:aC,jd x=true->(fQ x).sz<=24+32*x.sz
 | .mk k tr nm n ty zs ms=>fun hok=>by
   rw[jd,Bool.and_eq_true,Bool.and_eq_true] at hok;have hf:=gP hok.1;have h1:=Vg zs hok.2.1;have h2:=Vh ms hok.2.2;have h3:=aaI k tr nm ty;rw[yj];simp only[aC.fName,aC.fArgs,aC.bU,aC.fType,aC.bH];rw[fQ];split
   ·rename_i hk;have h4:=hf.2.2.2.1;simp only[aC.aV,aC.fN,hk,if_true] at h4;have:=adZ h4;rw[jf];omega
   ·split
    ·rw[jf];split<;>simp[yN,wY]<;>omega
    ·split
     ·rw[jf];omega
     ·rw[jg,jY,jY,List.length_append,List.length_append,Bp,List.length_map,<-Bp];split
      ·simp[dK];omega
      ·rw[EA,List.length_map,<-EA];omega
theorem Vg:∀xs:List aC,lS xs=true->dK (zC xs)<=24*xs.length+32*sG xs
 |[],_=>by simp[zC,dK]
 |x::xs,h=>by
  rw[lS,Bool.and_eq_true] at h;have h1:=Gu x h.1;have h2:=Vg xs h.2;rw[zC,dK,sG,List.length_cons];omega
theorem aiI:∀x:bn,yM x=true->(DF x).sz<=26+32*x.sz
 | .mk c vs b=>fun hok=>by
   rw[yM,Bool.and_eq_true,Bool.and_eq_true] at hok;have h1:=Gu b hok.2.2;rw[Ca];simp only[bn.fK,bn.aS,bn.fBody];rw[DF,jg,jY,jY,List.length_append,List.length_append,kZ,pJ];simp[dK,jf];omega
theorem Vh:∀xs:List bn,ow xs=true->dK (Ez xs)<=26*xs.length+32*zK xs
 |[],_=>by simp[Ez,dK]
 |x::xs,h=>by
  rw[ow,Bool.and_eq_true] at h;have h1:=aiI x h.1;have h2:=Vh xs h.2;rw[Ez,dK,zK,List.length_cons];omega
end
def Gv(m:Nat):List UInt8:=if m=0 then [] else Lib.decDigits m
theorem aaJ{m:Nat}(h:m≠0):Gv (m/10)++[UInt8.ofNat (48+m % 10)]=Gv m:=by
 unfold Gv;rw[if_neg h]
 conv=>rhs;rw[Lib.decDigits]
 by_cases h10:m<10
 ·rw[dif_pos h10,if_pos (by omega),List.nil_append,Nat.mod_eq_of_lt h10]
 ·rw[dif_neg h10,if_neg (by omega)]
theorem ad1(n:Int)(h0: -9223372036854775808<=n)(h1:n<=9223372036854775807):∃sg:Nat->Int,sg 0=0/\sg n.natAbs=n/\(∀m,m≠0->sg m≠0)/\(∀m,(sg m).tmod 10= -((m % 10:Nat):Int)\/(sg m).tmod 10=((m % 10:Nat):Int))/\
 (∀m,(sg m).tdiv 10=sg (m/10))/\∀m,m<=n.natAbs-> -9223372036854775808<=sg m/\sg m<=9223372036854775807:=by
 by_cases h:n<0
 ·refine⟨fun m=> -(m:Int),rfl,by simp only;omega,fun m hm=>by simp only;omega,fun m=>.inl ?_,fun m=> ?_,fun m hm=>by simp only;omega⟩
  ·simp only;rw[Int.neg_tmod];congr 1
  ·simp only;rw[Int.neg_tdiv];congr 1
 ·refine⟨fun m=>(m:Int),rfl,by simp only;omega,fun m hm=>by simp only;omega,fun m=>.inr rfl,fun m=>rfl,fun m hm=>by simp only;omega⟩
theorem aaK:Lib.itoa 0=[48]:=by
 unfold Lib.itoa;rw[if_neg (by decide),Lib.decDigits,dif_pos (by decide)];rfl
theorem XP(a:Nat)(h:a<=9223372036854775808):(Lib.decDigits a).length<=19:=DI 18 a (by omega)
theorem vM(n:Int)(h0: -9223372036854775808<=n)(h1:n<=9223372036854775807):bg prog 276 [.c (.d (.i .i64 n))] (.c (.d (.s (Lib.itoa n)))):=fun S=>by
 obtain⟨sg,g0,gn,gne,amF,amG,aiJ⟩:=ad1 n h0 h1;refine zcx [.tmp 2] func276 ntmps276 ?_;simp -implicitDefEqProofs (disch:=omega) only[go_sem]
 with_reducible refine aD (fun hb=> ?_) (fun hb=> ?_)<;>have h:=hb<;>(try simp only[wf_preprocess] at h)<;>simp -implicitDefEqProofs (disch:=omega) only[go_sem,hb]<;>(repeat(with_reducible refine And.intro ?_ ?_;focus first|omega|rfl|assumption|exact⟨_,rfl,rfl⟩|(simp;omega)|(simp;done)))
 ·rw[h,aaK]
 have hn0:=h
 have hd0:Gv n.natAbs=Lib.decDigits n.natAbs:=by unfold Gv;rw[if_neg (by omega)]
 have hln:=XP n.natAbs (by omega)
 refine bO (ι:=Nat×List UInt8) zmx rfl [0,3,4] (fun y=>[.c (.d (.i .i64 (sg y.1))),.c (.d (.b (decide (n<0)))),.c (.d (.s y.2))]) (fun _=>[]::S)
  (fun y=>y.1<=n.natAbs/\Gv y.1++y.2=Gv n.natAbs/\y.2.length<=19) (fun y=>y.1) (n.natAbs,[]) (by rw[gn];rfl) rfl ⟨Nat.le_refl _,List.append_nil _,by simp⟩ ?_
 rintro⟨m,out⟩ ⟨p1,p2,p3⟩;simp only at p1 p2 p3;have hr:=aiJ m p1;have hm:=amF m;have hq:=amG m
 generalize hx:sg m=x at *
 generalize hy:x.tmod 10=y at *
 have hlo:out.length<=19:=p3;simp -implicitDefEqProofs (disch:=omega) only[go_sem]
 with_reducible refine aD (fun hb=> ?_) (fun hb=> ?_)<;>have h:=hb<;>(try simp only[wf_preprocess] at h)<;>simp -implicitDefEqProofs (disch:=omega) only[go_sem,hb]<;>(repeat(with_reducible refine And.intro ?_ ?_;focus first|omega|rfl|assumption|exact⟨_,rfl,rfl⟩|(simp;omega)|(simp;done)))
 ·have hm0:m≠0:=fun e=>by rw[e,g0] at hx;omega
  have hst:=aaJ hm0;have hr2:=aiJ (m/10) (by omega)
  have aoa:(Gv (m/10)).length+1+out.length<=19:=by
   have:=congrArg List.length p2;rw[<-hst,hd0] at this;simp only[List.length_append,List.length_cons,List.length_nil] at this;omega
  simp -implicitDefEqProofs (disch:=omega) only[go_sem,hy]
  with_reducible refine aD (fun hb=> ?_) (fun hb=> ?_)<;>have h:=hb<;>(try simp only[wf_preprocess] at h)<;>simp -implicitDefEqProofs (disch:=omega) only[go_sem,hb]<;>(repeat(with_reducible refine And.intro ?_ ?_;focus first|omega|rfl|assumption|exact⟨_,rfl,rfl⟩|(simp;omega)|(simp;done)))
  ·have e1:(0:Int)-y=((m % 10:Nat):Int):=by omega
   have hc:UInt8.ofNat (IntKind.u8.wrap (48+(0-y))).toNat=UInt8.ofNat (48+m % 10):=by
    rw[wrap_u8 _ (by omega),e1];congr 1
   simp -implicitDefEqProofs (disch:=omega) only[go_sem,hy,hq]
   (repeat(with_reducible refine And.intro ?_ ?_;focus first|omega|rfl|assumption|exact⟨_,rfl,rfl⟩|(simp;omega)|(simp;done)))
   refine cZ (m/10,UInt8.ofNat (48+m % 10)::out) (by simp only;omega) (by rw[<-hc];rfl) rfl ⟨by simp only;omega,?_,by simp only[List.length_cons];omega⟩
   simp only
   rw[<-p2,<-hst,List.append_assoc];rfl
  ·have e1:y=((m % 10:Nat):Int):=by omega
   have hc:UInt8.ofNat (IntKind.u8.wrap (48+y)).toNat=UInt8.ofNat (48+m % 10):=by
    rw[wrap_u8 _ (by omega),e1];congr 1
   simp -implicitDefEqProofs (disch:=omega) only[go_sem,hy,hq]
   (repeat(with_reducible refine And.intro ?_ ?_;focus first|omega|rfl|assumption|exact⟨_,rfl,rfl⟩|(simp;omega)|(simp;done)))
   refine cZ (m/10,UInt8.ofNat (48+m % 10)::out) (by simp only;omega) (by rw[<-hc];rfl) rfl ⟨by simp only;omega,?_,by simp only[List.length_cons];omega⟩
   simp only
   rw[<-p2,<-hst,List.append_assoc];rfl
 ·have hm0:m=0:=by
   rcases Nat.eq_zero_or_pos m with e|e
   ·exact e
   ·exact absurd (by rw[hx];omega) (gne m (by omega))
  subst hm0
  have hout:out=Lib.decDigits n.natAbs:=by rw[<-hd0,<-p2];rfl
  with_reducible refine aD (fun hb=> ?_) (fun hb=> ?_)<;>have h:=hb<;>(try simp only[wf_preprocess] at h)<;>simp -implicitDefEqProofs (disch:=omega) only[go_sem,hb]<;>(repeat(with_reducible refine And.intro ?_ ?_;focus first|omega|rfl|assumption|exact⟨_,rfl,rfl⟩|(simp;omega)|(simp;done)))
  ·(repeat(with_reducible refine And.intro ?_ ?_;focus first|omega|rfl|assumption|exact⟨_,rfl,rfl⟩|(simp;omega)|(simp;done)))
   rw[hout];unfold Lib.itoa;rw[if_pos h]
  ·rw[hout];unfold Lib.itoa;rw[if_neg h,show n.toNat=n.natAbs by omega]
end Go.Ab