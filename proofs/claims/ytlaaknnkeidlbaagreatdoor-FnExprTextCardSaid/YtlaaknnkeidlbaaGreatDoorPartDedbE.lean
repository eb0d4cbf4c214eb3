/-
  SEVERAL TEXTS IN ONE (merged by program): contracts and models, each with its own heading.
-/
import Derived.Test.YtlaaknnkeidlbaaGreatDoorPartDedbD
open Go.Proofs Go.Proofs.Tryz
set_option linter.unusedSimpArgs false
set_option linter.unusedVariables false
set_option maxRecDepth 4000
namespace Go.Ab
def aM(s:List UInt8):ah:=.mk s []
def dh(l:List ah):ah:=.mk [] l
def aP(l:List (List UInt8)):List ah:=l.map aM
def gF:ah:=.mk [] []
theorem x9(s:List UInt8):(aM s).aI=s:=rfl
theorem yg(s:List UInt8):(aM s).ak=[]:=rfl
theorem fB(l:List ah):(dh l).aI=[]:=rfl
theorem eY(l:List ah):(dh l).ak=l:=rfl
def Ca:List UInt8:=[100,121,110]
def lV:List UInt8:=[97,115,115,111,99]
mutual
def fP:au->ah
 | .mk k n zs=>if k=1 then aM ([39]++n) else if k=4 then dh [aM Ca,aM n] else if k=2/\zs.length=0 then aM n else
   dh ((if k=3 then [aM lV] else [])++[aM n]++za zs)
def za:List au->List ah
 |[]=>[]
 |t::ts=>fP t::za ts
end
theorem vD:∀l,za l=l.map fP
 |[]=>rfl
 |t::ts=>by rw[za,ag,vD ts]
theorem YW(x:au):fP x=if x.aH=1 then aM ([39]++x.fName) else if x.aH=4 then dh [aM Ca,aM x.fName] else if x.aH=2/\x.fArgs.length=0 then aM x.fName else
 dh ((if x.aH=3 then [aM lV] else [])++[aM x.fName]++x.fArgs.map fP):=by
 cases x;rw[fP,vD];rfl
theorem DW{t:au}(h:tJ t=true):formed t=true:=(iJ h).1
theorem iQ(x:ah):x.sz=x.aI.length+(x.ak.length+bC (x.ak.map ah.enc)):=by
 simp only[ah.sz,ah.aB,bG,D.sz,ai];omega
def dD:List ah->Nat
 |[]=>0
 |x::xs=>x.sz+dD xs
theorem j6:∀l,bC (l.map ah.enc)=dD l
 |[]=>rfl
 |x::xs=>by rw[ag,bC,dD,j6 xs];rfl
theorem jF:∀a b,dD (a++b)=dD a+dD b
 |[],b=>by simp[dD]
 |x::a,b=>by rw[am,dD,dD,jF a b];omega
theorem nD{x:ah}:∀{l:List ah},x∈l->x.sz<=dD l
 |y::l,h=>by
  rw[dD];rcases cA.1 h with rfl|h
  ·omega
  ·have:=nD h;omega
theorem nE(s:List UInt8):(aM s).sz=s.length:=by rw[iQ];simp[aM,ah.aI,ah.ak,bC]
theorem yD(l:List ah):(dh l).sz=l.length+dD l:=by rw[iQ,j6];simp[dh,ah.aI,ah.ak]
theorem LP:∀l:List (List UInt8),dD (aP l)=(l.map List.length).sum
 |[]=>rfl
 |s::l=>by rw[aP,ag,dD,nE,<-aP,LP l,ag,fb]
theorem lq(l:List (List UInt8)):(aP l).length=l.length:=by simp[aP]
theorem F7:∀l:List (List UInt8),bC (l.map encS)=(l.map List.length).sum
 |[]=>rfl
 |s::l=>by rw[ag,bC,F7 l,ag,fb];simp[encS,bG,D.sz]
def qU:List au->Nat
 |[]=>0
 |x::xs=>x.sz+qU xs
theorem Pv:∀l,bC (l.map au.enc)=qU l
 |[]=>rfl
 |x::xs=>by rw[ag,bC,qU,Pv xs];rfl
theorem qV(x:au):x.sz=x.fName.length+(x.fArgs.length+qU x.fArgs):=by
 rw[<-Pv];simp only[au.sz,au.aB,bG,D.sz,ai];omega
mutual
theorem YX:∀x:au,(fP x).sz<=12+16*x.sz
 | .mk k n zs=>by
   have h:=Tm zs;rw[qV];simp only[au.fName,au.fArgs];rw[fP];split
   ·rw[nE];simp;omega
   ·split
    ·rw[yD];simp[dD,nE,Ca];omega
    ·split
     ·rw[nE];omega
     ·rw[yD,jF,jF,ab,ab,vD,ai,<-vD];split<;>simp[dD,nE,lV]<;>omega
theorem Tm:∀xs:List au,dD (za xs)<=12*xs.length+16*qU xs
 |[]=>by simp[za,dD]
 |x::xs=>by
  have h1:=YX x;have h2:=Tm xs;rw[za,dD,qU,aa];omega
end
def aY(b:UInt8):Bool:=decide (97<=b.toNat/\b.toNat<=122)||decide (48<=b.toNat/\b.toNat<=57)||decide (b∈([39,45,43,42,60,61,46]:List UInt8))
def validAtom(s:List UInt8):Bool:=s.all aY&&decide (1<=s.length/\s.length<=12)
mutual
def gu:ah->Bool
 | .mk a l=>if a=[] then fI l else validAtom a&&decide (l.length=0)
def fI:List ah->Bool
 |[]=>true
 |x::xs=>gu x&&fI xs
end
mutual
def iL:ah->Nat
 | .mk a l=>if a=[] then jr l+1 else 0
def jr:List ah->Nat
 |[]=>0
 |x::xs=>max (iL x) (jr xs)
end
mutual
def fT:ah->Nat
 | .mk _ l=>gX l+1
def gX:List ah->Nat
 |[]=>0
 |x::xs=>fT x+gX xs
end
theorem ze(x:ah):gu x=if x.aI=[] then fI x.ak else validAtom x.aI&&decide (x.ak.length=0):=by cases x;rw[gu];rfl
theorem LQ(x:ah):iL x=if x.aI=[] then jr x.ak+1 else 0:=by cases x;rw[iL];rfl
theorem Pw(x:ah):fT x=gX x.ak+1:=by cases x;rw[fT];rfl
theorem Jg:∀{l:List ah},(l.any fun t=> !gu t)= !fI l
 |[]=>rfl
 |t::ts=>by rw[List.any_cons,Jg (l:=ts),fI];simp
theorem yh:∀{l:List ah},fI l=true<->∀t∈l,gu t=true
 |[]=>by simp[fI]
 |t::ts=>by simp[fI,yh (l:=ts)]
mutual
theorem Ap:∀x:ah,iL x<=fT x
 | .mk a l=>by
   have:=DX l;rw[iL,fT];split<;>omega
theorem DX:∀l:List ah,jr l<=gX l
 |[]=>by simp[jr]
 |x::xs=>by
  have h1:=Ap x;have h2:=DX xs;rw[jr,gX];omega
end
mutual
theorem Px:∀x:ah,fT x<=x.sz+1
 | .mk a l=>by
   have:=LU l;rw[iQ,fT,j6];simp only[ah.aI,ah.ak];omega
theorem LU:∀l:List ah,gX l<=l.length+dD l
 |[]=>by simp[gX]
 |x::xs=>by
  have h1:=Px x;have h2:=LU xs;rw[gX,dD,aa];omega
end
def dJ(x:ah):Bool:=gu x&&decide (iL x<=14/\fT x<=900)
mutual
theorem Py:∀x:ah,gu x=true->x.sz+1<=13*fT x
 | .mk a l=>fun h=>by
   rw[gu] at h;rw[iQ,fT,j6];simp only[ah.aI,ah.ak];split at h
   ·rename_i ha;have:=LV l h;subst ha;simp only[aq];omega
   ·rw[af,decide_eq_true_eq] at h;have h1:=h.1;unfold validAtom at h1;rw[af,decide_eq_true_eq] at h1;have:l=[]:=bh h.2;subst this;simp[dD];omega
theorem LV:∀l:List ah,fI l=true->l.length+dD l<=13*gX l
 |[],_=>by simp[dD]
 |x::xs,h=>by
  rw[fI,af] at h;have h1:=Py x h.1;have h2:=LV xs h.2;rw[dD,gX,aa];omega
end
theorem wN{x:ah}(h:dJ x=true):x.sz<=11700:=by
 unfold dJ at h;rw[af,decide_eq_true_eq] at h;have:=Py x h.1;omega
def DY(x:ah):ah:=if dJ x=true then x else gF
def zf:Bool->ah->ah
 |true,x=>DY x
 |false,_=>gF
theorem agB(x:ah):(DY x).sz<=11700:=by
 unfold DY;split
 ·rename_i h;exact wN h
 ·rw[iQ];simp[gF,ah.aI,ah.ak,bC]
theorem KP(b:Bool)(x:ah):(zf b x).sz<=11700:=by
 cases b with
 |true=>exact agB x
 |false=>rw[zf,iQ];simp[gF,ah.aI,ah.ak,bC]
theorem YZ(b:UInt8):decide (firstIdx ⟨[39,45,43,42,60,61,46].toArray⟩ b>=0)=decide (b∈([39,45,43,42,60,61,46]:List UInt8)):=by
 have h:∀n:Nat,n<256->decide (firstIdx ⟨[39,45,43,42,60,61,46].toArray⟩ (UInt8.ofNat n)>=0)=decide (UInt8.ofNat n∈([39,45,43,42,60,61,46]:List UInt8)):=by decide +kernel
 have h1:=h b.toNat (UInt8.toNat_lt b)
 rwa [UInt8.ofNat_toNat] at h1
theorem abW(b:UInt8):b∈([39,45,43,42,60,61,46]:List UInt8)<->(b.toNat=39\/b.toNat=45\/b.toNat=43\/b.toNat=42\/b.toNat=60\/b.toNat=61\/b.toNat=46):=by
 have h:∀n:Nat,n<256->(UInt8.ofNat n∈([39,45,43,42,60,61,46]:List UInt8)<->(n=39\/n=45\/n=43\/n=42\/n=60\/n=61\/n=46)):=by decide +kernel
 have h1:=h b.toNat (UInt8.toNat_lt b)
 rwa [UInt8.ofNat_toNat] at h1
theorem qW(b:UInt8):aY b=true<->(97<=b.toNat/\b.toNat<=122)\/(48<=b.toNat/\b.toNat<=57)\/b.toNat=39\/b.toNat=45\/b.toNat=43\/b.toNat=42\/b.toNat=60\/b.toNat=61\/b.toNat=46:=by
 unfold aY;rw[cW,cW,decide_eq_true_eq,decide_eq_true_eq,decide_eq_true_eq,abW,or_assoc]
theorem all_false{s:List UInt8}{i:Nat}(hi:i<s.length)(h:aY s[i]=false):s.all aY=false:=by
 rw[List.all_eq_false];exact⟨s[i],ap hi,by simp[h]⟩
theorem all_true{s:List UInt8}(h:∀j (hj:j<s.length),aY s[j]=true):s.all aY=true:=by
 rw[aS];intro b hb;obtain⟨j,hj,e⟩:=cJ hb;rw[<-e];exact h j hj
theorem vE{x:ah}{i:Nat}(hi:i<x.ak.length)(h:x.sz<=67108864):x.ak[i].sz<=67108864/\x.ak.length<=67108864/\x.aI.length<=67108864:=by
 have:=nD (ap hi);rw[iQ,j6] at h;omega
theorem zh{x:ah}(h:x.sz<=67108864):x.ak.length<=67108864/\x.aI.length<=67108864:=by
 rw[iQ,j6] at h;omega
theorem R4{l:List ah}{i:Nat}(hi:i<l.length):fI (l.drop i)=(gu l[i]&&fI (l.drop (i+1))):=by rw[bO hi,fI]
theorem DZ{l:List ah}{i:Nat}(hi:i<l.length):jr (l.drop i)=max (iL l[i]) (jr (l.drop (i+1))):=by rw[bO hi,jr]
theorem F8{l:List ah}{i:Nat}(hi:i<l.length):gX (l.drop i)=fT l[i]+gX (l.drop (i+1)):=by rw[bO hi,gX]
theorem GJ{x:ah}(h:x.sz<=67108864):fT x<=67108865:=by have:=Px x;omega
theorem ah.Fq{x:ah}{i:Nat}(hi:i<x.ak.length):SizeOf.sizeOf x.ak[i]<SizeOf.sizeOf x:=by
 have:=bc (ap hi);have:=ah.qj x;omega
theorem Jh(l:List UInt8)(b:UInt8):aF prog 174 [.c (.d (.s l)),.c (.d (.i .u8 b.toNat))] (.c (.d (.i .i64 (firstIdx ⟨l.toArray⟩ b)))):=fun S=>by
 refine zcx [.tmp 4] func174 ntmps174 ?_;simp -implicitDefEqProofs (disch:=omega) only[go_sem];refine aA (DV l b) ?_;simp -implicitDefEqProofs (disch:=omega) only[go_sem]<;>(repeat(with_reducible refine And.intro ?_ ?_;focus first|omega|rfl|assumption|exact⟨_,rfl,rfl⟩|(simp;omega)|(simp;done)))
theorem xw(b:UInt8):aF prog 82 [.c (.d (.i .u8 b.toNat))] (.c (.d (.b (aY b)))):=fun S=>by
 refine zcx [.tmp 2] func82 ntmps82 ?_;simp -implicitDefEqProofs (disch:=omega) only[go_sem];refine aA (I7 b) ?_;simp -implicitDefEqProofs (disch:=omega) only[go_sem]<;>(repeat(with_reducible refine And.intro ?_ ?_;focus first|omega|rfl|assumption|exact⟨_,rfl,rfl⟩|(simp;omega)|(simp;done)))
 with_reducible refine ay (fun hb=> ?_) (fun hb=> ?_)<;>have h:=hb<;>(try simp only[wf_preprocess] at h)<;>simp -implicitDefEqProofs (disch:=omega) only[go_sem,hb]<;>(repeat(with_reducible refine And.intro ?_ ?_;focus first|omega|rfl|assumption|exact⟨_,rfl,rfl⟩|(simp;omega)|(simp;done)))
 ·exact aO ((qW b).2 (.inl h)).symm
 have h1:=h;refine aA (I8 b) ?_;simp -implicitDefEqProofs (disch:=omega) only[go_sem]<;>(repeat(with_reducible refine And.intro ?_ ?_;focus first|omega|rfl|assumption|exact⟨_,rfl,rfl⟩|(simp;omega)|(simp;done)))
 with_reducible refine ay (fun hb=> ?_) (fun hb=> ?_)<;>have h:=hb<;>(try simp only[wf_preprocess] at h)<;>simp -implicitDefEqProofs (disch:=omega) only[go_sem,hb]<;>(repeat(with_reducible refine And.intro ?_ ?_;focus first|omega|rfl|assumption|exact⟨_,rfl,rfl⟩|(simp;omega)|(simp;done)))
 ·exact aO ((qW b).2 (.inr (.inl h))).symm
 have h2:=h;refine aA (Jh [39,45,43,42,60,61,46] b) ?_;simp -implicitDefEqProofs (disch:=omega) only[go_sem]<;>(repeat(with_reducible refine And.intro ?_ ?_;focus first|omega|rfl|assumption|exact⟨_,rfl,rfl⟩|(simp;omega)|(simp;done)));refine aO ?_;rw[YZ];unfold aY;unfold lowerB at h1;unfold nV at h2;simp[h1,h2]
theorem Vw(s:List UInt8)(hs:s.length<=1073741824):aF prog 177 [.c (.d (.s s))] (.c (.d (.b (validAtom s)))):=fun S=>by
 refine zcx [.tmp 2] func177 ntmps177 ?_;simp -implicitDefEqProofs (disch:=omega) only[go_sem]
 refine bI (ι:=Nat) zmx rfl [0,5,6] (fun i=>[.c (.d (.s s)),.c (.d (.i .i64 s.length)),.c (.d (.i .i64 i))]) (fun _=>[]::S)
  (fun i=>i<=s.length/\∀j,∀hj:j<s.length,j<i->aY s[j]=true) (fun i=>s.length-i) 0 rfl rfl ⟨ba _,fun j _ h=>by omega⟩ ?_
 rintro i ⟨p1,p2⟩;simp -implicitDefEqProofs (disch:=omega) only[go_sem]
 with_reducible refine ay (fun hb=> ?_) (fun hb=> ?_)<;>have h:=hb<;>(try simp only[wf_preprocess] at h)<;>simp -implicitDefEqProofs (disch:=omega) only[go_sem,hb]<;>(repeat(with_reducible refine And.intro ?_ ?_;focus first|omega|rfl|assumption|exact⟨_,rfl,rfl⟩|(simp;omega)|(simp;done)))
 ·have hi:i<s.length:=by omega
  have e:s.getD i 0=s[i]:=by simp[List.getD,hi]
  (repeat(with_reducible refine And.intro ?_ ?_;focus first|omega|rfl|assumption|exact⟨_,rfl,rfl⟩|(simp;omega)|(simp;done)))
  rw[e];refine aA (xw s[i]) ?_;simp -implicitDefEqProofs (disch:=omega) only[go_sem]<;>(repeat(with_reducible refine And.intro ?_ ?_;focus first|omega|rfl|assumption|exact⟨_,rfl,rfl⟩|(simp;omega)|(simp;done)))
  with_reducible refine ay (fun hb=> ?_) (fun hb=> ?_)<;>have h:=hb<;>(try simp only[wf_preprocess] at h)<;>simp -implicitDefEqProofs (disch:=omega) only[go_sem,hb]<;>(repeat(with_reducible refine And.intro ?_ ?_;focus first|omega|rfl|assumption|exact⟨_,rfl,rfl⟩|(simp;omega)|(simp;done)))
  ·exact aO (by unfold validAtom;rw[all_false hi h];rfl)
  ·refine bZ (i+1) (by omega) rfl rfl ⟨by omega,fun j hj hji=> ?_⟩;by_cases e':j=i
   ·subst e';exact h
   ·exact p2 j hj (by omega)
 ·have ha:=all_true (s:=s) (fun j hj=>p2 j hj (by omega))
  with_reducible refine ay (fun hb=> ?_) (fun hb=> ?_)<;>have h:=hb<;>(try simp only[wf_preprocess] at h)<;>simp -implicitDefEqProofs (disch:=omega) only[go_sem,hb]<;>(repeat(with_reducible refine And.intro ?_ ?_;focus first|omega|rfl|assumption|exact⟨_,rfl,rfl⟩|(simp;omega)|(simp;done)))
  ·refine aO ?_;unfold validAtom;rw[ha,cg];exact decide_eq_decide.2 (by omega)
  ·refine aO ?_;unfold validAtom;rw[ha,cg];exact(decide_eq_false (by omega)).symm
theorem Y0(b:UInt8):aF prog 227 [.c (.d (.i .u8 b.toNat))] (.c (.d (.b (aY b)))):=fun S=>by
 have yes:((97<=b.toNat/\b.toNat<=122)\/(48<=b.toNat/\b.toNat<=57)\/b.toNat=39\/b.toNat=45\/b.toNat=43\/b.toNat=42\/b.toNat=60\/b.toNat=61\/b.toNat=46)->aY b=true:=(qW b).2
 have no:¬((97<=b.toNat/\b.toNat<=122)\/(48<=b.toNat/\b.toNat<=57)\/b.toNat=39\/b.toNat=45\/b.toNat=43\/b.toNat=42\/b.toNat=60\/b.toNat=61\/b.toNat=46)->aY b=false:=fun h=>by
  cases hb:aY b with
  |false=>rfl
  |true=>exact absurd ((qW b).1 hb) h
 refine zcx [.tmp 2] func227 ntmps227 ?_;simp -implicitDefEqProofs (disch:=omega) only[go_sem]
 repeat' (first|(with_reducible refine ay (fun hb=> ?_) (fun hb=> ?_)<;>have h:=hb<;>(try simp only[wf_preprocess] at h)<;>simp -implicitDefEqProofs (disch:=omega) only[go_sem,hb]<;>(repeat(with_reducible refine And.intro ?_ ?_;focus first|omega|rfl|assumption|exact⟨_,rfl,rfl⟩|(simp;omega)|(simp;done)))))
 all_goals first
  |exact aO (yes (by omega)).symm
  |exact aO (no (by omega)).symm
  |(refine aO ?_;cases hb:aY b<;>simp only[decide_eq_true_eq,decide_eq_false_iff_not]<;>(first|(have:=(qW b).1 hb;omega)|(intro q;have:=yes (by omega);rw[hb] at this;cases this)))
theorem Vx(s:List UInt8)(hs:s.length<=1073741824):aF prog 193 [.c (.d (.s s))] (.c (.d (.b (validAtom s)))):=fun S=>by
 refine zcx [.tmp 2] func193 ntmps193 ?_;simp -implicitDefEqProofs (disch:=omega) only[go_sem]
 refine bI (ι:=Nat) zmx rfl [0,3] (fun i=>[.c (.d (.s s)),.c (.d (.i .i64 i))]) (fun _=>[]::S)
  (fun i=>i<=s.length/\∀j,∀hj:j<s.length,j<i->aY s[j]=true) (fun i=>s.length-i) 0 rfl rfl ⟨ba _,fun j _ h=>by omega⟩ ?_
 rintro i ⟨p1,p2⟩;simp -implicitDefEqProofs (disch:=omega) only[go_sem]
 with_reducible refine ay (fun hb=> ?_) (fun hb=> ?_)<;>have h:=hb<;>(try simp only[wf_preprocess] at h)<;>simp -implicitDefEqProofs (disch:=omega) only[go_sem,hb]<;>(repeat(with_reducible refine And.intro ?_ ?_;focus first|omega|rfl|assumption|exact⟨_,rfl,rfl⟩|(simp;omega)|(simp;done)))
 ·have hi:i<s.length:=by omega
  have e:s.getD i 0=s[i]:=by simp[List.getD,hi]
  (repeat(with_reducible refine And.intro ?_ ?_;focus first|omega|rfl|assumption|exact⟨_,rfl,rfl⟩|(simp;omega)|(simp;done)))
  rw[e];refine aA (Y0 s[i]) ?_;simp -implicitDefEqProofs (disch:=omega) only[go_sem]<;>(repeat(with_reducible refine And.intro ?_ ?_;focus first|omega|rfl|assumption|exact⟨_,rfl,rfl⟩|(simp;omega)|(simp;done)))
  with_reducible refine ay (fun hb=> ?_) (fun hb=> ?_)<;>have h:=hb<;>(try simp only[wf_preprocess] at h)<;>simp -implicitDefEqProofs (disch:=omega) only[go_sem,hb]<;>(repeat(with_reducible refine And.intro ?_ ?_;focus first|omega|rfl|assumption|exact⟨_,rfl,rfl⟩|(simp;omega)|(simp;done)))
  ·exact aO (by unfold validAtom;rw[all_false hi h];rfl)
  ·refine bZ (i+1) (by omega) rfl rfl ⟨by omega,fun j hj hji=> ?_⟩;by_cases e':j=i
   ·subst e';exact h
   ·exact p2 j hj (by omega)
 ·have ha:=all_true (s:=s) (fun j hj=>p2 j hj (by omega));refine aA (AZ s.length 1 12) ?_;simp -implicitDefEqProofs (disch:=omega) only[go_sem]<;>(repeat(with_reducible refine And.intro ?_ ?_;focus first|omega|rfl|assumption|exact⟨_,rfl,rfl⟩|(simp;omega)|(simp;done)));refine aO ?_;unfold validAtom;rw[ha,cg,<-nQ];exact decide_eq_decide.2 (by omega)
theorem D5:∀n:Nat,(∀x:ah,SizeOf.sizeOf x<n->x.sz<=67108864->aF prog 89 [x.v] (.c (.d (.b (gu x)))))/\
 (∀xs:List ah,SizeOf.sizeOf xs<n->xs.length<=67108864->(∀t∈xs,t.sz<=67108864)->aF prog 178 [.c (.d (.sl (xs.map ah.enc))),.c (.fn 179 [])] (.c (.d (.b (!fI xs)))))
 |0=>⟨fun x h=>by omega,fun x h=>by omega⟩
 |n+1=>by
  obtain⟨ih,mD⟩:=D5 n;refine⟨fun x hn hsz S=> ?_,fun xs hn hlen hsz S=> ?_⟩
  ·have j4:=ah.qj x;have hts:=zh hsz
   have hall:∀t∈x.ak,t.sz<=67108864:=fun t ht=>by
    obtain⟨i,hi,e⟩:=cJ ht;rw[<-e];exact(vE hi hsz).1
   have tail:=mD x.ak (by omega) hts.1 hall;have hf:=ze x;refine zcx [.tmp 2] func89 ntmps89 ?_;simp -implicitDefEqProofs (disch:=omega) only[go_sem]
   with_reducible refine ay (fun hb=> ?_) (fun hb=> ?_)<;>have h:=hb<;>(try simp only[wf_preprocess] at h)<;>simp -implicitDefEqProofs (disch:=omega) only[go_sem,hb]<;>(repeat(with_reducible refine And.intro ?_ ?_;focus first|omega|rfl|assumption|exact⟨_,rfl,rfl⟩|(simp;omega)|(simp;done)))
   ·rw[if_neg h] at hf;refine aA (Vw x.aI (by omega)) ?_;simp -implicitDefEqProofs (disch:=omega) only[go_sem]<;>(repeat(with_reducible refine And.intro ?_ ?_;focus first|omega|rfl|assumption|exact⟨_,rfl,rfl⟩|(simp;omega)|(simp;done)))
    with_reducible refine ay (fun hb=> ?_) (fun hb=> ?_)<;>have h:=hb<;>(try simp only[wf_preprocess] at h)<;>simp -implicitDefEqProofs (disch:=omega) only[go_sem,hb]<;>(repeat(with_reducible refine And.intro ?_ ?_;focus first|omega|rfl|assumption|exact⟨_,rfl,rfl⟩|(simp;omega)|(simp;done)))
    ·rw[hf,h,cg];exact aO (decide_eq_decide.2 (by omega))
    ·rw[hf,h,fl]
   ·rw[if_pos h] at hf;refine aA tail ?_;simp -implicitDefEqProofs (disch:=omega) only[go_sem];rw[hf,Bool.not_not]
  ·have hcl:∀y∈xs,aF prog 179 [y.v] (.c (.d (.b (!gu y)))):=fun y hy S=>by
    have hys:=bc hy;refine zcx [.tmp 2] func179 ntmps179 ?_;simp -implicitDefEqProofs (disch:=omega) only[go_sem];refine aA (ih y (by omega) (hsz y hy)) ?_;simp -implicitDefEqProofs (disch:=omega) only[go_sem]<;>(repeat(with_reducible refine And.intro ?_ ?_;focus first|omega|rfl|assumption|exact⟨_,rfl,rfl⟩|(simp;omega)|(simp;done)))
   have hidx:aF prog 237 [.c (.d (.sl (xs.map ah.enc))),.c (.fn 179 [])] (.c (.d (.i .i64 (qQ (fun y=> !gu y) xs)))):=fun S=>by
    refine zcx [.tmp 4] func237 ntmps237 ?_;simp -implicitDefEqProofs (disch:=omega) only[go_sem]
    refine bI (ι:=Nat) zmx rfl [0,1,7,8] (fun i=>[.c (.d (.sl (xs.map ah.enc))),.c (.fn 179 []),.c (.d (.i .i64 xs.length)),.c (.d (.i .i64 i))]) (fun _=>[]::S)
     (fun i=>i<=xs.length/\∀j,∀hj:j<xs.length,j<i->gu xs[j]=true) (fun i=>xs.length-i) 0 rfl rfl ⟨ba _,fun j _ h=>by omega⟩ ?_
    rintro i ⟨p1,p2⟩;simp -implicitDefEqProofs (disch:=omega) only[go_sem]
    with_reducible refine ay (fun hb=> ?_) (fun hb=> ?_)<;>have h:=hb<;>(try simp only[wf_preprocess] at h)<;>simp -implicitDefEqProofs (disch:=omega) only[go_sem,hb]<;>(repeat(with_reducible refine And.intro ?_ ?_;focus first|omega|rfl|assumption|exact⟨_,rfl,rfl⟩|(simp;omega)|(simp;done)))
    ·have hi:i<xs.length:=by omega
     (repeat(with_reducible refine And.intro ?_ ?_;focus first|omega|rfl|assumption|exact⟨_,rfl,rfl⟩|(simp;omega)|(simp;done)))
     refine aA (hcl xs[i] (ap hi)) ?_;simp -implicitDefEqProofs (disch:=omega) only[go_sem]<;>(repeat(with_reducible refine And.intro ?_ ?_;focus first|omega|rfl|assumption|exact⟨_,rfl,rfl⟩|(simp;omega)|(simp;done)))
     with_reducible refine ay (fun hb=> ?_) (fun hb=> ?_)<;>have h:=hb<;>(try simp only[wf_preprocess] at h)<;>simp -implicitDefEqProofs (disch:=omega) only[go_sem,hb]<;>(repeat(with_reducible refine And.intro ?_ ?_;focus first|omega|rfl|assumption|exact⟨_,rfl,rfl⟩|(simp;omega)|(simp;done)))
     ·rw[r9 hi (fun j hj hji=>by rw[p2 j hj hji];rfl) (by rw[h];rfl)]
     ·refine bZ (i+1) (by omega) rfl rfl ⟨by omega,fun j hj hji=> ?_⟩;by_cases e:j=i
      ·subst e;exact h
      ·exact p2 j hj (by omega)
    ·rw[wJ (fun j hj=>by rw[p2 j hj (by omega)];rfl)]
   refine zcx [.tmp 4] func178 ntmps178 ?_;simp -implicitDefEqProofs (disch:=omega) only[go_sem];refine aA (hidx) ?_;simp -implicitDefEqProofs (disch:=omega) only[go_sem]<;>(repeat(with_reducible refine And.intro ?_ ?_;focus first|omega|rfl|assumption|exact⟨_,rfl,rfl⟩|(simp;omega)|(simp;done)));rw[<-Jg];exact aO uK
theorem R5(x:ah)(hsz:x.sz<=67108864):aF prog 89 [x.v] (.c (.d (.b (gu x)))):=(D5 _).1 x (br _) hsz
theorem A9:∀n:Nat,∀x:ah,SizeOf.sizeOf x<n->x.sz<=67108864->aF prog 90 [x.v] (.c (.d (.i .i64 (iL x))))
 |0=>fun x h=>by omega
 |n+1=>by
  have ih:=A9 n;intro x hn hsz S;have hts:=zh hsz;have hd:=LQ x;have hd1:=Ap x;have hd2:=GJ hsz;refine zcx [.tmp 2] func90 ntmps90 ?_;simp -implicitDefEqProofs (disch:=omega) only[go_sem]
  with_reducible refine ay (fun hb=> ?_) (fun hb=> ?_)<;>have h:=hb<;>(try simp only[wf_preprocess] at h)<;>simp -implicitDefEqProofs (disch:=omega) only[go_sem,hb]<;>(repeat(with_reducible refine And.intro ?_ ?_;focus first|omega|rfl|assumption|exact⟨_,rfl,rfl⟩|(simp;omega)|(simp;done)))
  ·rw[if_neg h] at hd;rw[hd];rfl
  rw[if_pos h] at hd
  refine bI (ι:=Nat×Nat) zmx rfl [3,10,11,12] (fun y=>[.c (.d (.i .i64 y.2)),.c (.d (.sl (x.ak.map ah.enc))),.c (.d (.i .i64 x.ak.length)),.c (.d (.i .i64 y.1))]) (fun y=>[.box [.d (.s x.aI),.d (.sl (x.ak.map ah.enc))]]::S)
   (fun y=>y.1<=x.ak.length/\iL x=max y.2 (jr (x.ak.drop y.1))+1) (fun y=>x.ak.length-y.1) (0,0) rfl rfl ⟨ba _,by simp[hd]⟩ ?_
  rintro⟨i,c⟩ ⟨p1,p2⟩;simp only at p1 p2;simp -implicitDefEqProofs (disch:=omega) only[go_sem]
  with_reducible refine ay (fun hb=> ?_) (fun hb=> ?_)<;>have h:=hb<;>(try simp only[wf_preprocess] at h)<;>simp -implicitDefEqProofs (disch:=omega) only[go_sem,hb]<;>(repeat(with_reducible refine And.intro ?_ ?_;focus first|omega|rfl|assumption|exact⟨_,rfl,rfl⟩|(simp;omega)|(simp;done)))
  ·have hi:i<x.ak.length:=by omega
   have hsz':=vE hi hsz;rw[DZ hi] at p2
   (repeat(with_reducible refine And.intro ?_ ?_;focus first|omega|rfl|assumption|exact⟨_,rfl,rfl⟩|(simp;omega)|(simp;done)))
   refine aA (ih x.ak[i] (by have:=ah.Fq hi;omega) (by omega)) ?_;simp -implicitDefEqProofs (disch:=omega) only[go_sem]<;>(repeat(with_reducible refine And.intro ?_ ?_;focus first|omega|rfl|assumption|exact⟨_,rfl,rfl⟩|(simp;omega)|(simp;done)));rw[show max (c:Int) ((iL x.ak[i]:Int))=((max c (iL x.ak[i]):Nat):Int) by omega];exact iD 1 (by decide) (i+1,max c (iL x.ak[i])) (by simp only;omega) rfl rfl rfl rfl ⟨by simp only;omega,by simp only;omega⟩
  ·have hi:i=x.ak.length:=by omega
   rw[hi,cH,jr] at p2
   (repeat(with_reducible refine And.intro ?_ ?_;focus first|omega|rfl|assumption|exact⟨_,rfl,rfl⟩|(simp;omega)|(simp;done)))
   exact int_eq (by omega)
theorem M5(x:ah)(hsz:x.sz<=67108864):aF prog 90 [x.v] (.c (.d (.i .i64 (iL x)))):=A9 _ x (br _) hsz
theorem CP:∀n:Nat,∀x:ah,SizeOf.sizeOf x<n->x.sz<=67108864->aF prog 91 [x.v] (.c (.d (.i .i64 (fT x))))
 |0=>fun x h=>by omega
 |n+1=>by
  have ih:=CP n;intro x hn hsz S;have hts:=zh hsz;have hd2:=GJ hsz;refine zcx [.tmp 2] func91 ntmps91 ?_;simp -implicitDefEqProofs (disch:=omega) only[go_sem]
  refine bI (ι:=Nat×Nat) zmx rfl [3,7,8,9] (fun y=>[.c (.d (.i .i64 y.2)),.c (.d (.sl (x.ak.map ah.enc))),.c (.d (.i .i64 x.ak.length)),.c (.d (.i .i64 y.1))]) (fun y=>[.box [.d (.s x.aI),.d (.sl (x.ak.map ah.enc))]]::S)
   (fun y=>y.1<=x.ak.length/\fT x=y.2+gX (x.ak.drop y.1)) (fun y=>x.ak.length-y.1) (0,1) rfl rfl ⟨ba _,by simp[Pw];omega⟩ ?_
  rintro⟨i,c⟩ ⟨p1,p2⟩;simp only at p1 p2;simp -implicitDefEqProofs (disch:=omega) only[go_sem]
  with_reducible refine ay (fun hb=> ?_) (fun hb=> ?_)<;>have h:=hb<;>(try simp only[wf_preprocess] at h)<;>simp -implicitDefEqProofs (disch:=omega) only[go_sem,hb]<;>(repeat(with_reducible refine And.intro ?_ ?_;focus first|omega|rfl|assumption|exact⟨_,rfl,rfl⟩|(simp;omega)|(simp;done)))
  ·have hi:i<x.ak.length:=by omega
   have hsz':=vE hi hsz;rw[F8 hi] at p2
   (repeat(with_reducible refine And.intro ?_ ?_;focus first|omega|rfl|assumption|exact⟨_,rfl,rfl⟩|(simp;omega)|(simp;done)))
   refine aA (ih x.ak[i] (by have:=ah.Fq hi;omega) (by omega)) ?_;simp -implicitDefEqProofs (disch:=omega) only[go_sem]<;>(repeat(with_reducible refine And.intro ?_ ?_;focus first|omega|rfl|assumption|exact⟨_,rfl,rfl⟩|(simp;omega)|(simp;done)));rw[show(c:Int)+(fT x.ak[i]:Int)=((c+fT x.ak[i]:Nat):Int) by omega];exact iD 1 (by decide) (i+1,c+fT x.ak[i]) (by simp only;omega) rfl rfl rfl rfl ⟨by simp only;omega,by simp only;omega⟩
  ·have hi:i=x.ak.length:=by omega
   rw[hi,cH,gX] at p2;exact int_eq (by omega)
theorem Pz(x:ah)(hsz:x.sz<=67108864):aF prog 91 [x.v] (.c (.d (.i .i64 (fT x)))):=CP _ x (br _) hsz
theorem pU(x:ah)(hsz:x.sz<=67108864):aF prog 38 [x.v] (.c (.d (.b (dJ x)))):=fun S=>by
 refine zcx [.tmp 2] func38 ntmps38 ?_;simp -implicitDefEqProofs (disch:=omega) only[go_sem];refine aA (R5 x hsz) ?_;simp -implicitDefEqProofs (disch:=omega) only[go_sem]<;>(repeat(with_reducible refine And.intro ?_ ?_;focus first|omega|rfl|assumption|exact⟨_,rfl,rfl⟩|(simp;omega)|(simp;done)))
 with_reducible refine ay (fun hb=> ?_) (fun hb=> ?_)<;>have h:=hb<;>(try simp only[wf_preprocess] at h)<;>simp -implicitDefEqProofs (disch:=omega) only[go_sem,hb]<;>(repeat(with_reducible refine And.intro ?_ ?_;focus first|omega|rfl|assumption|exact⟨_,rfl,rfl⟩|(simp;omega)|(simp;done)))
 ·have hf:=h;refine aA (M5 x hsz) ?_;simp -implicitDefEqProofs (disch:=omega) only[go_sem]<;>(repeat(with_reducible refine And.intro ?_ ?_;focus first|omega|rfl|assumption|exact⟨_,rfl,rfl⟩|(simp;omega)|(simp;done)))
  with_reducible refine ay (fun hb=> ?_) (fun hb=> ?_)<;>have h:=hb<;>(try simp only[wf_preprocess] at h)<;>simp -implicitDefEqProofs (disch:=omega) only[go_sem,hb]<;>(repeat(with_reducible refine And.intro ?_ ?_;focus first|omega|rfl|assumption|exact⟨_,rfl,rfl⟩|(simp;omega)|(simp;done)))
  ·refine aA (Pz x hsz) ?_;simp -implicitDefEqProofs (disch:=omega) only[go_sem]<;>(repeat(with_reducible refine And.intro ?_ ?_;focus first|omega|rfl|assumption|exact⟨_,rfl,rfl⟩|(simp;omega)|(simp;done)));refine aO ?_;unfold dJ;rw[hf,cg];exact decide_eq_decide.2 (by omega)
  ·refine aO ?_;unfold dJ;rw[hf,cg];exact(decide_eq_false (by omega)).symm
 ·refine aO ?_;unfold dJ;rw[h,fl]
theorem Ji:∀n:Nat,∀x:ah,SizeOf.sizeOf x<n->∀l:Int,0<=l->l<=1073741824->x.sz<=67108864->aF prog 104 [x.v,.c (.d (.i .i64 l))] (.c (.d (.i .i64 (kQ l (fT x)))))
 |0=>fun x h=>by omega
 |n+1=>by
  have ih:=Ji n;intro x hn l h0 h1 hsz S;have hts:=zh hsz;have hcn:=Pw x;refine zcx [.tmp 4] func104 ntmps104 ?_;simp -implicitDefEqProofs (disch:=omega) only[go_sem]
  refine bI (ι:=Nat×Int) zmx rfl [1,2,5] (fun y=>[.c (.d (.i .i64 y.2)),.c (.ptr (0,0) 0),.c (.d (.i .i64 y.1))]) (fun y=>[.box [.d (.s x.aI),.d (.sl (x.ak.map ah.enc))]]::S)
   (fun y=>y.1<=x.ak.length/\ -1<=y.2/\y.2<=1073741824/\(0<=y.2->kQ l (fT x)=kQ y.2 (gX (x.ak.drop y.1)))/\(y.2<0->kQ l (fT x)= -1)) (fun y=>x.ak.length-y.1) (0,l-1) rfl rfl ⟨ba _,by simp only;omega,by simp only;omega,fun h=> ?_,fun h=> ?_⟩ ?_
  ·simp only[db] at h ⊢;unfold kQ;rw[hcn];split<;>split<;>omega
  ·simp only at h;exact Fj (by omega)
  rintro⟨i,c⟩ ⟨p1,p2,p3,p4,p5⟩;simp only at p1 p2 p3 p4 p5;simp -implicitDefEqProofs (disch:=omega) only[go_sem]
  with_reducible refine ay (fun hb=> ?_) (fun hb=> ?_)<;>have h:=hb<;>(try simp only[wf_preprocess] at h)<;>simp -implicitDefEqProofs (disch:=omega) only[go_sem,hb]<;>(repeat(with_reducible refine And.intro ?_ ?_;focus first|omega|rfl|assumption|exact⟨_,rfl,rfl⟩|(simp;omega)|(simp;done)))
  ·have hi:i<x.ak.length:=by omega
   with_reducible refine ay (fun hb=> ?_) (fun hb=> ?_)<;>have h:=hb<;>(try simp only[wf_preprocess] at h)<;>simp -implicitDefEqProofs (disch:=omega) only[go_sem,hb]<;>(repeat(with_reducible refine And.intro ?_ ?_;focus first|omega|rfl|assumption|exact⟨_,rfl,rfl⟩|(simp;omega)|(simp;done)))
   ·have hsz':=vE hi hsz;have p6:=p4 h;rw[F8 hi] at p6
    (repeat(with_reducible refine And.intro ?_ ?_;focus first|omega|rfl|assumption|exact⟨_,rfl,rfl⟩|(simp;omega)|(simp;done)))
    refine aA (ih x.ak[i] (by have:=ah.Fq hi;omega) c (by omega) (by omega) (by omega)) ?_;simp -implicitDefEqProofs (disch:=omega) only[go_sem]<;>(repeat(with_reducible refine And.intro ?_ ?_;focus first|omega|rfl|assumption|exact⟨_,rfl,rfl⟩|(simp;omega)|(simp;done)));refine bZ (i+1,kQ c _) (by simp only;omega) rfl rfl ⟨by simp only;omega,?_,?_,fun h=> ?_,fun h=> ?_⟩
    ·simp only;unfold kQ;split<;>omega
    ·simp only;unfold kQ;split<;>omega
    ·simp only at h ⊢;rw[p6];have:=Fh (l:=c) (a:=fT x.ak[i]) (by omega);rw[this.1];unfold kQ;split<;>split<;>omega
    ·simp only at h ⊢;rw[p6];have:=BS h;exact Fj (by omega)
   ·have hc:c= -1:=by omega
    rw[p5 (by omega),hc]
  ·have hi:i=x.ak.length:=by omega
   by_cases hc:0<=c
   ·rw[p4 hc,hi,cH,gX,O8 (by omega)];exact int_eq (by simp)
   ·rw[p5 (by omega)];exact int_eq (by omega)
theorem Y1(x:ah)(l:Int)(h0:0<=l)(h1:l<=1073741824)(hsz:x.sz<=67108864):aF prog 104 [x.v,.c (.d (.i .i64 l))] (.c (.d (.i .i64 (kQ l (fT x))))):=Ji _ x (br _) l h0 h1 hsz
theorem Jj:∀n:Nat,∀x:ah,SizeOf.sizeOf x<n->x.sz<=67108864->aF prog 105 [x.v] (.c (.d (.b (gu x))))
 |0=>fun x h=>by omega
 |n+1=>by
  have ih:=Jj n;intro x hn hsz S;have hts:=zh hsz;have hf:=ze x;refine zcx [.tmp 2] func105 ntmps105 ?_;simp -implicitDefEqProofs (disch:=omega) only[go_sem]
  with_reducible refine ay (fun hb=> ?_) (fun hb=> ?_)<;>have h:=hb<;>(try simp only[wf_preprocess] at h)<;>simp -implicitDefEqProofs (disch:=omega) only[go_sem,hb]<;>(repeat(with_reducible refine And.intro ?_ ?_;focus first|omega|rfl|assumption|exact⟨_,rfl,rfl⟩|(simp;omega)|(simp;done)))
  ·rw[if_neg h] at hf;refine aA (Vx x.aI (by omega)) ?_;simp -implicitDefEqProofs (disch:=omega) only[go_sem]<;>(repeat(with_reducible refine And.intro ?_ ?_;focus first|omega|rfl|assumption|exact⟨_,rfl,rfl⟩|(simp;omega)|(simp;done)))
   with_reducible refine ay (fun hb=> ?_) (fun hb=> ?_)<;>have h:=hb<;>(try simp only[wf_preprocess] at h)<;>simp -implicitDefEqProofs (disch:=omega) only[go_sem,hb]<;>(repeat(with_reducible refine And.intro ?_ ?_;focus first|omega|rfl|assumption|exact⟨_,rfl,rfl⟩|(simp;omega)|(simp;done)))
   ·rw[hf,h,cg];exact aO (decide_eq_decide.2 (by omega))
   ·rw[hf,h,fl]
  rw[if_pos h] at hf
  refine bI (ι:=Nat) zmx rfl [1,3] (fun y=>[.c (.ptr (0,0) 0),.c (.d (.i .i64 y))]) (fun y=>[.box [.d (.s x.aI),.d (.sl (x.ak.map ah.enc))]]::S)
   (fun y=>y<=x.ak.length/\gu x=fI (x.ak.drop y)) (fun y=>x.ak.length-y) 0 rfl rfl ⟨ba _,hf⟩ ?_
  rintro i ⟨p1,p2⟩;simp -implicitDefEqProofs (disch:=omega) only[go_sem]
  with_reducible refine ay (fun hb=> ?_) (fun hb=> ?_)<;>have h:=hb<;>(try simp only[wf_preprocess] at h)<;>simp -implicitDefEqProofs (disch:=omega) only[go_sem,hb]<;>(repeat(with_reducible refine And.intro ?_ ?_;focus first|omega|rfl|assumption|exact⟨_,rfl,rfl⟩|(simp;omega)|(simp;done)))
  ·have hi:i<x.ak.length:=by omega
   have hsz':=vE hi hsz;rw[R4 hi] at p2
   (repeat(with_reducible refine And.intro ?_ ?_;focus first|omega|rfl|assumption|exact⟨_,rfl,rfl⟩|(simp;omega)|(simp;done)))
   refine aA (ih x.ak[i] (by have:=ah.Fq hi;omega) (by omega)) ?_;simp -implicitDefEqProofs (disch:=omega) only[go_sem]<;>(repeat(with_reducible refine And.intro ?_ ?_;focus first|omega|rfl|assumption|exact⟨_,rfl,rfl⟩|(simp;omega)|(simp;done)))
   with_reducible refine ay (fun hb=> ?_) (fun hb=> ?_)<;>have h:=hb<;>(try simp only[wf_preprocess] at h)<;>simp -implicitDefEqProofs (disch:=omega) only[go_sem,hb]<;>(repeat(with_reducible refine And.intro ?_ ?_;focus first|omega|rfl|assumption|exact⟨_,rfl,rfl⟩|(simp;omega)|(simp;done)))
   ·rw[p2,h,fl]
   ·exact bZ (i+1) (by omega) rfl rfl ⟨by omega,by rw[p2,h,cg]⟩
  ·have hi:i=x.ak.length:=by omega
   rw[hi,cH,fI] at p2;rw[p2]
theorem Y2(x:ah)(hsz:x.sz<=67108864):aF prog 105 [x.v] (.c (.d (.b (gu x)))):=Jj _ x (br _) hsz
theorem Ba:∀n:Nat,∀x:ah,SizeOf.sizeOf x<n->x.sz<=67108864->aF prog 106 [x.v] (.c (.d (.i .i64 (iL x))))
 |0=>fun x h=>by omega
 |n+1=>by
  have ih:=Ba n;intro x hn hsz S;have hts:=zh hsz;have hd:=LQ x;have hd1:=Ap x;have hd2:=GJ hsz;refine zcx [.tmp 2] func106 ntmps106 ?_;simp -implicitDefEqProofs (disch:=omega) only[go_sem]
  with_reducible refine ay (fun hb=> ?_) (fun hb=> ?_)<;>have h:=hb<;>(try simp only[wf_preprocess] at h)<;>simp -implicitDefEqProofs (disch:=omega) only[go_sem,hb]<;>(repeat(with_reducible refine And.intro ?_ ?_;focus first|omega|rfl|assumption|exact⟨_,rfl,rfl⟩|(simp;omega)|(simp;done)))
  ·rw[if_neg h] at hd;rw[hd];rfl
  rw[if_pos h] at hd
  refine bI (ι:=Nat×Nat) zmx rfl [1,3,4] (fun y=>[.c (.ptr (0,0) 0),.c (.d (.i .i64 y.2)),.c (.d (.i .i64 y.1))]) (fun y=>[.box [.d (.s x.aI),.d (.sl (x.ak.map ah.enc))]]::S)
   (fun y=>y.1<=x.ak.length/\iL x=max y.2 (jr (x.ak.drop y.1))+1) (fun y=>x.ak.length-y.1) (0,0) rfl rfl ⟨ba _,by simp[hd]⟩ ?_
  rintro⟨i,c⟩ ⟨p1,p2⟩;simp only at p1 p2;simp -implicitDefEqProofs (disch:=omega) only[go_sem]
  with_reducible refine ay (fun hb=> ?_) (fun hb=> ?_)<;>have h:=hb<;>(try simp only[wf_preprocess] at h)<;>simp -implicitDefEqProofs (disch:=omega) only[go_sem,hb]<;>(repeat(with_reducible refine And.intro ?_ ?_;focus first|omega|rfl|assumption|exact⟨_,rfl,rfl⟩|(simp;omega)|(simp;done)))
  ·have hi:i<x.ak.length:=by omega
   have hsz':=vE hi hsz;rw[DZ hi] at p2
   (repeat(with_reducible refine And.intro ?_ ?_;focus first|omega|rfl|assumption|exact⟨_,rfl,rfl⟩|(simp;omega)|(simp;done)))
   refine aA (ih x.ak[i] (by have:=ah.Fq hi;omega) (by omega)) ?_;simp -implicitDefEqProofs (disch:=omega) only[go_sem]<;>(repeat(with_reducible refine And.intro ?_ ?_;focus first|omega|rfl|assumption|exact⟨_,rfl,rfl⟩|(simp;omega)|(simp;done)));refine aA (Pm _ _) ?_;simp -implicitDefEqProofs (disch:=omega) only[go_sem]<;>(repeat(with_reducible refine And.intro ?_ ?_;focus first|omega|rfl|assumption|exact⟨_,rfl,rfl⟩|(simp;omega)|(simp;done)));rw[show max (c:Int) ((iL x.ak[i]:Int))=((max c (iL x.ak[i]):Nat):Int) by omega];exact bZ (i+1,max c (iL x.ak[i])) (by simp only;omega) rfl rfl ⟨by simp only;omega,by simp only;omega⟩
  ·have hi:i=x.ak.length:=by omega
   rw[hi,cH,jr] at p2
   (repeat(with_reducible refine And.intro ?_ ?_;focus first|omega|rfl|assumption|exact⟨_,rfl,rfl⟩|(simp;omega)|(simp;done)))
   exact int_eq (by omega)
theorem M6(x:ah)(hsz:x.sz<=67108864):aF prog 106 [x.v] (.c (.d (.i .i64 (iL x)))):=Ba _ x (br _) hsz
theorem pV(x:ah)(hsz:x.sz<=67108864):aF prog 42 [x.v] (.c (.d (.b (dJ x)))):=fun S=>by
 refine zcx [.tmp 2] func42 ntmps42 ?_;simp -implicitDefEqProofs (disch:=omega) only[go_sem];refine aA (Y1 x 900 (by omega) (by omega) hsz) ?_;simp -implicitDefEqProofs (disch:=omega) only[go_sem]<;>(repeat(with_reducible refine And.intro ?_ ?_;focus first|omega|rfl|assumption|exact⟨_,rfl,rfl⟩|(simp;omega)|(simp;done)))
 with_reducible refine ay (fun hb=> ?_) (fun hb=> ?_)<;>have h:=hb<;>(try simp only[wf_preprocess] at h)<;>simp -implicitDefEqProofs (disch:=omega) only[go_sem,hb]<;>(repeat(with_reducible refine And.intro ?_ ?_;focus first|omega|rfl|assumption|exact⟨_,rfl,rfl⟩|(simp;omega)|(simp;done)))
 ·have h1:=(Fh (l:=900) (a:=fT x) (by omega)).2;refine aA (Y2 x hsz) ?_;simp -implicitDefEqProofs (disch:=omega) only[go_sem]<;>(repeat(with_reducible refine And.intro ?_ ?_;focus first|omega|rfl|assumption|exact⟨_,rfl,rfl⟩|(simp;omega)|(simp;done)))
  with_reducible refine ay (fun hb=> ?_) (fun hb=> ?_)<;>have h:=hb<;>(try simp only[wf_preprocess] at h)<;>simp -implicitDefEqProofs (disch:=omega) only[go_sem,hb]<;>(repeat(with_reducible refine And.intro ?_ ?_;focus first|omega|rfl|assumption|exact⟨_,rfl,rfl⟩|(simp;omega)|(simp;done)))
  ·have hf:=h;refine aA (M6 x hsz) ?_;simp -implicitDefEqProofs (disch:=omega) only[go_sem]<;>(repeat(with_reducible refine And.intro ?_ ?_;focus first|omega|rfl|assumption|exact⟨_,rfl,rfl⟩|(simp;omega)|(simp;done)));refine aO ?_;unfold dJ;rw[hf,cg];exact decide_eq_decide.2 (by omega)
  ·refine aO ?_;unfold dJ;rw[h,fl]
 ·have h1:=BS (l:=900) (a:=fT x) (by omega);refine aO ?_;unfold dJ;rw[decide_eq_false (by omega),Bool.and_false]
end Go.Ab