/-
  SEVERAL TEXTS IN ONE (merged by program): contracts and models, each with its own heading.
-/
import Derived.Test.YtfhpfkaeldgcmaaGreatPartHdbN
import Derived.Lib.ItoaNum
import Derived.Shelf.Strconv.Itoa3
open Go.Proofs Go.Proofs.Tryz
set_option linter.unusedSimpArgs false
set_option linter.unusedVariables false
set_option maxRecDepth 4000
namespace Go.Ab
def yg:List UInt8:=[116,114,117,101]
def wG:List UInt8:=[102,97,108,115,101]
def pG:List UInt8:=[99,97,108,108]
def jI:List UInt8:=[109,101,116,104,111,100]
def tL:List UInt8:=[110,101,119]
def lN:List UInt8:=[99,97,115,101]
def tO:List UInt8:=[108,101,116]
def yM:List UInt8:=[105,102]
def pI:List UInt8:=[112,97,99,107]
def sI:List UInt8:=[116,104,101]
def jY(k:Int)(tr nm:List UInt8)(ty:ay):List au:=
 if k=4 then dh [pG,nm] else if k=5 then dh [jI,tr,nm] else if k=6 then dh [tL,nm] else if k=8 then dh [tO,nm] else
 if k=9 then dh [yM] else if k=10 then dh [nm] else if k=11 then dh [pI,tr] else if k=12 then [bN sI,dR ty] else dh [lN]
mutual
def fO:aC->au
 | .mk k tr nm n ty zs ms=>if k=1 then bN (Lib.itoa n) else if k=2 then bN (if n=1 then yg else wG) else if k=3 then bN nm else
   d9 (jY k tr nm ty++y7 zs++(if k=4\/k=5\/k=6\/k=8\/k=9\/k=10\/k=11\/k=12 then [] else Ea ms))
def y7:List aC->List au
 |[]=>[]
 |t::ts=>fO t::y7 ts
def Db:aZ->au
 | .mk c vs b=>d9 ([bN c]++dh vs++[fO b])
def Ea:List aZ->List au
 |[]=>[]
 |t::ts=>Db t::Ea ts
end
theorem AQ:∀l,y7 l=l.map fO
 |[]=>rfl
 |t::ts=>by rw[y7,List.map_cons,AQ ts]
theorem Eb:∀l,Ea l=l.map Db
 |[]=>rfl
 |t::ts=>by rw[Ea,List.map_cons,Eb ts]
theorem QW(x:aC):fO x=if x.aR=1 then bN (Lib.itoa x.fN) else if x.aR=2 then bN (if x.fN=1 then yg else wG) else if x.aR=3 then bN x.fName else
 d9 (jY x.aR x.bU x.fName x.fType++x.fArgs.map fO++(if x.aR=4\/x.aR=5\/x.aR=6\/x.aR=8\/x.aR=9\/x.aR=10\/x.aR=11\/x.aR=12 then [] else x.bE.map Db)):=by
 cases x;rw[fO,AQ,Eb];rfl
theorem ahN(x:aZ):Db x=d9 ([bN x.fK]++dh x.aO++[fO x.fBody]):=by cases x;rw[Db];rfl
def rT:List aC->Nat
 |[]=>0
 |x::xs=>x.sz+rT xs
theorem I9:∀l,aI (l.map aC.enc)=rT l
 |[]=>rfl
 |x::xs=>by rw[List.map_cons,aI,rT,I9 xs];rfl
def zh:List aZ->Nat
 |[]=>0
 |x::xs=>x.sz+zh xs
theorem Ja:∀l,aI (l.map aZ.enc)=zh l
 |[]=>rfl
 |x::xs=>by rw[List.map_cons,aI,zh,Ja xs];rfl
theorem xH(x:aC):x.sz=x.bU.length+x.fName.length+x.fType.sz+(x.fArgs.length+rT x.fArgs)+(x.bE.length+zh x.bE):=by
 rw[<-I9,<-Ja];simp only[aC.sz,aC.aj,bF,bL,D.sz,List.length_map,ay.cK];omega
theorem BD(x:aZ):x.sz=x.fK.length+(x.aO.length+(x.aO.map List.length).sum)+x.fBody.sz:=by
 rw[<-dZ];simp only[aZ.sz,aZ.aj,bF,bL,D.sz,List.length_map,aC.cK];omega
theorem Dc:∀(k n:Nat),n<10^ (k+1)->(Lib.decDigits n).length<=k+1
 |0,n,h=>by rw[Lib.decDigits,dif_pos (by simpa using h)];simp
 |k+1,n,h=>by
  rw[Lib.decDigits];split
  ·simp
  ·rw[List.length_append];have:=Dc k (n/10) (by rw[Nat.pow_succ] at h;omega);simp;omega
theorem adg{n:Int}(h: -999999<=n/\n<=999999):(Lib.itoa n).length<=7:=by
 unfold Lib.itoa;split
 ·have:=Dc 5 n.natAbs (by omega);simp;omega
 ·have:=Dc 5 n.toNat (by omega);omega
theorem ZX(k:Int)(tr nm:List UInt8)(ty:ay):(jY k tr nm ty).length<=3/\dI (jY k tr nm ty)<=18+tr.length+nm.length+16*ty.sz:=by
 have h:=yJ ty;unfold jY
 repeat' (first|(split;·refine⟨by simp[dh],?_⟩;simp[dI,dh,iY,pG,jI,tL,tO,yM,pI,sI,lN];omega))
 refine⟨by simp[dh],?_⟩;simp[dI,dh,iY,lN];omega
mutual
theorem F3:∀x:aC,iW x=true->(fO x).sz<=24+32*x.sz
 | .mk k tr nm n ty zs ms=>fun hok=>by
   rw[iW,Bool.and_eq_true,Bool.and_eq_true] at hok;have hf:=gL hok.1;have h1:=Un zs hok.2.1;have h2:=Uo ms hok.2.2;have h3:=ZX k tr nm ty;rw[xH];simp only[aC.fName,aC.fArgs,aC.bU,aC.fType,aC.bE];rw[fO];split
   ·rename_i hk;have h4:=hf.2.2.2.1;simp only[aC.aR,aC.fN,hk,if_true] at h4;have:=adg h4;rw[iY];omega
   ·split
    ·rw[iY];split<;>simp[yg,wG]<;>omega
    ·split
     ·rw[iY];omega
     ·rw[iZ,jP,jP,List.length_append,List.length_append,AQ,List.length_map,<-AQ];split
      ·simp[dI];omega
      ·rw[Eb,List.length_map,<-Eb];omega
theorem Un:∀xs:List aC,lG xs=true->dI (y7 xs)<=24*xs.length+32*rT xs
 |[],_=>by simp[y7,dI]
 |x::xs,h=>by
  rw[lG,Bool.and_eq_true] at h;have h1:=F3 x h.1;have h2:=Un xs h.2;rw[y7,dI,rT,List.length_cons];omega
theorem ahO:∀x:aZ,yc x=true->(Db x).sz<=26+32*x.sz
 | .mk c vs b=>fun hok=>by
   rw[yc,Bool.and_eq_true,Bool.and_eq_true] at hok;have h1:=F3 b hok.2.2;rw[BD];simp only[aZ.fK,aZ.aO,aZ.fBody];rw[Db,iZ,jP,jP,List.length_append,List.length_append,kS,o9];simp[dI,iY];omega
theorem Uo:∀xs:List aZ,og xs=true->dI (Ea xs)<=26*xs.length+32*zh xs
 |[],_=>by simp[Ea,dI]
 |x::xs,h=>by
  rw[og,Bool.and_eq_true] at h;have h1:=ahO x h.1;have h2:=Uo xs h.2;rw[Ea,dI,zh,List.length_cons];omega
end
def F4(m:Nat):List UInt8:=if m=0 then [] else Lib.decDigits m
theorem ZY{m:Nat}(h:m≠0):F4 (m/10)++[UInt8.ofNat (48+m % 10)]=F4 m:=by
 unfold F4;rw[if_neg h]
 conv=>rhs;rw[Lib.decDigits]
 by_cases h10:m<10
 ·rw[dif_pos h10,if_pos (by omega),List.nil_append,Nat.mod_eq_of_lt h10]
 ·rw[dif_neg h10,if_neg (by omega)]
theorem adh(n:Int)(h0: -9223372036854775808<=n)(h1:n<=9223372036854775807):∃sg:Nat->Int,sg 0=0/\sg n.natAbs=n/\(∀m,m≠0->sg m≠0)/\(∀m,(sg m).tmod 10= -((m % 10:Nat):Int)\/(sg m).tmod 10=((m % 10:Nat):Int))/\
 (∀m,(sg m).tdiv 10=sg (m/10))/\∀m,m<=n.natAbs-> -9223372036854775808<=sg m/\sg m<=9223372036854775807:=by
 by_cases h:n<0
 ·refine⟨fun m=> -(m:Int),rfl,by simp only;omega,fun m hm=>by simp only;omega,fun m=>.inl ?_,fun m=> ?_,fun m hm=>by simp only;omega⟩
  ·simp only;rw[Int.neg_tmod];congr 1
  ·simp only;rw[Int.neg_tdiv];congr 1
 ·refine⟨fun m=>(m:Int),rfl,by simp only;omega,fun m hm=>by simp only;omega,fun m=>.inr rfl,fun m=>rfl,fun m hm=>by simp only;omega⟩
theorem Z0:Lib.itoa 0=[48]:=by
 unfold Lib.itoa;rw[if_neg (by decide),Lib.decDigits,dif_pos (by decide)];rfl
theorem WR(a:Nat)(h:a<=9223372036854775808):(Lib.decDigits a).length<=19:=Dc 18 a (by omega)
theorem u7(n:Int)(h0: -9223372036854775808<=n)(h1:n<=9223372036854775807):bq prog 276 [.c (.d (.i .i64 n))] (.c (.d (.s (Lib.itoa n)))):=fun S=>by
 obtain⟨sg,g0,gn,gne,alI,alJ,ahP⟩:=adh n h0 h1;refine zcx [.tmp 2] func276 ntmps276 ?_;simp -implicitDefEqProofs (disch:=omega) only[go_sem]
 with_reducible refine aD (fun hb=> ?_) (fun hb=> ?_)<;>have h:=hb<;>(try simp only[wf_preprocess] at h)<;>simp -implicitDefEqProofs (disch:=omega) only[go_sem,hb]<;>(repeat(with_reducible refine And.intro ?_ ?_;focus first|omega|rfl|assumption|exact⟨_,rfl,rfl⟩|(simp;omega)|(simp;done)))
 ·rw[h,Z0]
 have hn0:=h
 have hd0:F4 n.natAbs=Lib.decDigits n.natAbs:=by unfold F4;rw[if_neg (by omega)]
 have hln:=WR n.natAbs (by omega)
 refine bT (ι:=Nat×List UInt8) zmx rfl [0,3,4] (fun y=>[.c (.d (.i .i64 (sg y.1))),.c (.d (.b (decide (n<0)))),.c (.d (.s y.2))]) (fun _=>[]::S)
  (fun y=>y.1<=n.natAbs/\F4 y.1++y.2=F4 n.natAbs/\y.2.length<=19) (fun y=>y.1) (n.natAbs,[]) (by rw[gn];rfl) rfl ⟨Nat.le_refl _,List.append_nil _,by simp⟩ ?_
 rintro⟨m,out⟩ ⟨p1,p2,p3⟩;simp only at p1 p2 p3;have hr:=ahP m p1;have hm:=alI m;have hq:=alJ m
 generalize hx:sg m=x at *
 generalize hy:x.tmod 10=y at *
 have hlo:out.length<=19:=p3;simp -implicitDefEqProofs (disch:=omega) only[go_sem]
 with_reducible refine aD (fun hb=> ?_) (fun hb=> ?_)<;>have h:=hb<;>(try simp only[wf_preprocess] at h)<;>simp -implicitDefEqProofs (disch:=omega) only[go_sem,hb]<;>(repeat(with_reducible refine And.intro ?_ ?_;focus first|omega|rfl|assumption|exact⟨_,rfl,rfl⟩|(simp;omega)|(simp;done)))
 ·have hm0:m≠0:=fun e=>by rw[e,g0] at hx;omega
  have hst:=ZY hm0;have hr2:=ahP (m/10) (by omega)
  have am7:(F4 (m/10)).length+1+out.length<=19:=by
   have:=congrArg List.length p2;rw[<-hst,hd0] at this;simp only[List.length_append,List.length_cons,List.length_nil] at this;omega
  simp -implicitDefEqProofs (disch:=omega) only[go_sem,hy]
  with_reducible refine aD (fun hb=> ?_) (fun hb=> ?_)<;>have h:=hb<;>(try simp only[wf_preprocess] at h)<;>simp -implicitDefEqProofs (disch:=omega) only[go_sem,hb]<;>(repeat(with_reducible refine And.intro ?_ ?_;focus first|omega|rfl|assumption|exact⟨_,rfl,rfl⟩|(simp;omega)|(simp;done)))
  ·have e1:(0:Int)-y=((m % 10:Nat):Int):=by omega
   have hc:UInt8.ofNat (IntKind.u8.wrap (48+(0-y))).toNat=UInt8.ofNat (48+m % 10):=by
    rw[wrap_u8 _ (by omega),e1];congr 1
   simp -implicitDefEqProofs (disch:=omega) only[go_sem,hy,hq]
   (repeat(with_reducible refine And.intro ?_ ?_;focus first|omega|rfl|assumption|exact⟨_,rfl,rfl⟩|(simp;omega)|(simp;done)))
   refine dG (m/10,UInt8.ofNat (48+m % 10)::out) (by simp only;omega) (by rw[<-hc];rfl) rfl ⟨by simp only;omega,?_,by simp only[List.length_cons];omega⟩
   simp only
   rw[<-p2,<-hst,List.append_assoc];rfl
  ·have e1:y=((m % 10:Nat):Int):=by omega
   have hc:UInt8.ofNat (IntKind.u8.wrap (48+y)).toNat=UInt8.ofNat (48+m % 10):=by
    rw[wrap_u8 _ (by omega),e1];congr 1
   simp -implicitDefEqProofs (disch:=omega) only[go_sem,hy,hq]
   (repeat(with_reducible refine And.intro ?_ ?_;focus first|omega|rfl|assumption|exact⟨_,rfl,rfl⟩|(simp;omega)|(simp;done)))
   refine dG (m/10,UInt8.ofNat (48+m % 10)::out) (by simp only;omega) (by rw[<-hc];rfl) rfl ⟨by simp only;omega,?_,by simp only[List.length_cons];omega⟩
   simp only
   rw[<-p2,<-hst,List.append_assoc];rfl
 ·have hm0:m=0:=by
   rcases Nat.eq_zero_or_pos m with e|e
   ·exact e
   ·exact absurd (by rw[hx];omega) (gne m (by omega))
  subst hm0
  have hout:out=Lib.decDigits n.natAbs:=by rw[<-hd0,<-p2];rfl
  with_reducible refine aD (fun hb=> ?_) (fun hb=> ?_)<;>have h:=hb<;>(try simp only[wf_preprocess] at h)<;>simp -implicitDefEqProofs (disch:=omega) only[go_sem,hb]<;>(repeat(with_reducible refine And.intro ?_ ?_;focus first|omega|rfl|assumption|exact⟨_,rfl,rfl⟩|(simp;omega)|(simp;done)))
  ·(repeat(with_reducible refine And.intro ?_ ?_;focus first|omega|rfl|assumption|exact⟨_,rfl,rfl⟩|(simp;omega)|(simp;done)))
   rw[hout];unfold Lib.itoa;rw[if_pos h]
  ·rw[hout];unfold Lib.itoa;rw[if_neg h,show n.toNat=n.natAbs by omega]
end Go.Ab