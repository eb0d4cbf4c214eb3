/-
  SEVERAL TEXTS IN ONE (merged by program): contracts and models, each with its own heading.
-/
import Derived.Test.YtfhpfkaeldgcmaaGreatPartHebD
import Derived.Test.YtfhpfkaeldgcmaaGreatPartHebI
open Go.Proofs Go.Proofs.Tryz
set_option linter.unusedSimpArgs false
set_option linter.unusedVariables false
set_option maxRecDepth 4000
namespace Go.Ab
def bQ(s:List UInt8):au:=.mk s []
def eB(l:List au):au:=.mk [] l
def cZ(l:List (List UInt8)):List au:=l.map bQ
def dh:au:=.mk [] []
theorem XO(s:List UInt8):(bQ s).bH=s:=rfl
theorem XP(s:List UInt8):(bQ s).aA=[]:=rfl
theorem lD(l:List au):(eB l).bH=[]:=rfl
theorem iw(l:List au):(eB l).aA=l:=rfl
def EI:List UInt8:=[100,121,110]
def iZ:List UInt8:=[97,115,115,111,99]
mutual
def dU:ay->au
 | .mk k n zs=>if k=1 then bQ ([39]++n) else if k=4 then eB [bQ EI,bQ n] else if k=2/\zs.length=0 then bQ n else
   eB ((if k=3 then [bQ iZ] else [])++[bQ n]++Bu zs)
def Bu:List ay->List au
 |[]=>[]
 |t::ts=>dU t::Bu ts
end
theorem uh:∀l,Bu l=l.map dU
 |[]=>rfl
 |t::ts=>by rw[Bu,List.map_cons,uh ts]
theorem aiM(x:ay):dU x=if x.aV=1 then bQ ([39]++x.fName) else if x.aV=4 then eB [bQ EI,bQ x.fName] else if x.aV=2/\x.fArgs.length=0 then bQ x.fName else
 eB ((if x.aV=3 then [bQ iZ] else [])++[bQ x.fName]++x.fArgs.map dU):=by
 cases x;rw[dU,uh];rfl
theorem wY{t:ay}(h:qZ t=true):formed t=true:=(gD h).1
theorem iV(x:au):x.sz=x.bH.length+(x.aA.length+aQ (x.aA.map au.enc)):=by
 simp only[au.sz,au.aj,bG,D.sz,List.length_map];omega
def dH:List au->Nat
 |[]=>0
 |x::xs=>x.sz+dH xs
theorem jV:∀l,aQ (l.map au.enc)=dH l
 |[]=>rfl
 |x::xs=>by rw[List.map_cons,aQ,dH,jV xs];rfl
theorem jO:∀a b,dH (a++b)=dH a+dH b
 |[],b=>by simp[dH]
 |x::a,b=>by rw[List.cons_append,dH,dH,jO a b];omega
theorem kQ{x:au}:∀{l:List au},x∈l->x.sz<=dH l
 |y::l,h=>by
  rw[dH];rcases List.mem_cons.1 h with rfl|h
  ·omega
  ·have:=kQ h;omega
theorem jc(s:List UInt8):(bQ s).sz=s.length:=by rw[iV];simp[bQ,au.bH,au.aA,aQ]
theorem jd(l:List au):(eB l).sz=l.length+dH l:=by rw[iV,jV];simp[eB,au.bH,au.aA]
theorem pW:∀l:List (List UInt8),dH (cZ l)=(l.map List.length).sum
 |[]=>rfl
 |s::l=>by rw[cZ,List.map_cons,dH,jc,<-cZ,pW l,List.map_cons,List.sum_cons]
theorem kR(l:List (List UInt8)):(cZ l).length=l.length:=by simp[cZ]
theorem eu:∀l:List (List UInt8),aQ (l.map encS)=(l.map List.length).sum
 |[]=>rfl
 |s::l=>by rw[List.map_cons,aQ,eu l,List.map_cons,List.sum_cons];simp[encS,bG,D.sz]
def oH:List ay->Nat
 |[]=>0
 |x::xs=>x.sz+oH xs
theorem yt:∀l,aQ (l.map ay.enc)=oH l
 |[]=>rfl
 |x::xs=>by rw[List.map_cons,aQ,oH,yt xs];rfl
theorem uj(x:ay):x.sz=x.fName.length+(x.fArgs.length+oH x.fArgs):=by
 rw[<-yt];simp only[ay.sz,ay.aj,bG,D.sz,List.length_map];omega
mutual
theorem zq:∀x:ay,(dU x).sz<=12+16*x.sz
 | .mk k n zs=>by
   have h:=Nb zs;rw[uj];simp only[ay.fName,ay.fArgs];rw[dU];split
   ·rw[jc];simp;omega
   ·split
    ·rw[jd];simp[dH,jc,EI];omega
    ·split
     ·rw[jc];omega
     ·rw[jd,jO,jO,List.length_append,List.length_append,uh,List.length_map,<-uh];split<;>simp[dH,jc,iZ]<;>omega
theorem Nb:∀xs:List ay,dH (Bu xs)<=12*xs.length+16*oH xs
 |[]=>by simp[Bu,dH]
 |x::xs=>by
  have h1:=zq x;have h2:=Nb xs;rw[Bu,dH,oH,List.length_cons];omega
end
theorem Li(xs:List ay):dH (xs.map dU)<=12*xs.length+16*oH xs:=by rw[<-uh];exact Nb xs
def dz(b:UInt8):Bool:=decide (97<=b.toNat/\b.toNat<=122)||decide (48<=b.toNat/\b.toNat<=57)||decide (b∈([39,45,43,42,60,61,46]:List UInt8))
def validAtom(s:List UInt8):Bool:=s.all dz&&decide (1<=s.length/\s.length<=12)
mutual
def pX:au->Bool
 | .mk a l=>if a=[] then oI l else validAtom a&&decide (l.length=0)
def oI:List au->Bool
 |[]=>true
 |x::xs=>pX x&&oI xs
end
mutual
def lX:au->Nat
 | .mk a l=>if a=[] then lK l+1 else 0
def lK:List au->Nat
 |[]=>0
 |x::xs=>max (lX x) (lK xs)
end
mutual
def je:au->Nat
 | .mk _ l=>jA l+1
def jA:List au->Nat
 |[]=>0
 |x::xs=>je x+jA xs
end
theorem ad7(x:au):pX x=if x.bH=[] then oI x.aA else validAtom x.bH&&decide (x.aA.length=0):=by cases x;rw[pX];rfl
theorem aaR(x:au):lX x=if x.bH=[] then lK x.aA+1 else 0:=by cases x;rw[lX];rfl
theorem ad8(x:au):je x=jA x.aA+1:=by cases x;rw[je];rfl
mutual
theorem Jh:∀x:au,lX x<=je x
 | .mk a l=>by
   have:=GD l;rw[lX,je];split<;>omega
theorem GD:∀l:List au,lK l<=jA l
 |[]=>by simp[lK]
 |x::xs=>by
  have h1:=Jh x;have h2:=GD xs;rw[lK,jA];omega
end
mutual
theorem RD:∀x:au,je x<=x.sz+1
 | .mk a l=>by
   have:=Oo l;rw[iV,je,jV];simp only[au.bH,au.aA];omega
theorem Oo:∀l:List au,jA l<=l.length+dH l
 |[]=>by simp[jA]
 |x::xs=>by
  have h1:=RD x;have h2:=Oo xs;rw[jA,dH,List.length_cons];omega
end
def iR(x:au):Bool:=pX x&&decide (lX x<=14/\je x<=900)
mutual
theorem RF:∀x:au,pX x=true->x.sz+1<=13*je x
 | .mk a l=>fun h=>by
   rw[pX] at h;rw[iV,je,jV];simp only[au.bH,au.aA];split at h
   ·rename_i ha;have:=Oq l h;subst ha;simp only[List.length_nil];omega
   ·rw[Bool.and_eq_true,decide_eq_true_eq] at h;have h1:=h.1;unfold validAtom at h1;rw[Bool.and_eq_true,decide_eq_true_eq] at h1;have:l=[]:=List.eq_nil_of_length_eq_zero h.2;subst this;simp[dH];omega
theorem Oq:∀l:List au,oI l=true->l.length+dH l<=13*jA l
 |[],_=>by simp[dH]
 |x::xs,h=>by
  rw[oI,Bool.and_eq_true] at h;have h1:=RF x h.1;have h2:=Oq xs h.2;rw[dH,jA,List.length_cons];omega
end
theorem Cn{x:au}(h:iR x=true):x.sz<=11700:=by
 unfold iR at h;rw[Bool.and_eq_true,decide_eq_true_eq] at h;have:=RF x h.1;omega
def Bv(x:au):au:=if iR x=true then x else dh
def um:Bool->au->au
 |true,x=>Bv x
 |false,_=>dh
theorem aiN(x:au):(Bv x).sz<=11700:=by
 unfold Bv;split
 ·rename_i h;exact Cn h
 ·rw[iV];simp[dh,au.bH,au.aA,aQ]
theorem IE(b:Bool)(x:au):(um b x).sz<=11700:=by
 cases b with
 |true=>exact aiN x
 |false=>rw[um,iV];simp[dh,au.bH,au.aA,aQ]
theorem ad9(b:UInt8):b∈([39,45,43,42,60,61,46]:List UInt8)<->(b.toNat=39\/b.toNat=45\/b.toNat=43\/b.toNat=42\/b.toNat=60\/b.toNat=61\/b.toNat=46):=by
 have h:∀n:Nat,n<256->(UInt8.ofNat n∈([39,45,43,42,60,61,46]:List UInt8)<->(n=39\/n=45\/n=43\/n=42\/n=60\/n=61\/n=46)):=by decide +kernel
 have h1:=h b.toNat (UInt8.toNat_lt b)
 rwa [UInt8.ofNat_toNat] at h1
theorem Bw(b:UInt8):dz b=true<->(97<=b.toNat/\b.toNat<=122)\/(48<=b.toNat/\b.toNat<=57)\/b.toNat=39\/b.toNat=45\/b.toNat=43\/b.toNat=42\/b.toNat=60\/b.toNat=61\/b.toNat=46:=by
 unfold dz;rw[Bool.or_eq_true,Bool.or_eq_true,decide_eq_true_eq,decide_eq_true_eq,decide_eq_true_eq,ad9,or_assoc]
theorem all_false{s:List UInt8}{i:Nat}(hi:i<s.length)(h:dz s[i]=false):s.all dz=false:=by
 rw[List.all_eq_false];exact⟨s[i],List.getElem_mem hi,by simp[h]⟩
theorem all_true{s:List UInt8}(h:∀j (hj:j<s.length),dz s[j]=true):s.all dz=true:=by
 rw[List.all_eq_true];intro b hb;obtain⟨j,hj,e⟩:=List.getElem_of_mem hb;rw[<-e];exact h j hj
theorem Nc{x:au}{i:Nat}(hi:i<x.aA.length)(h:x.sz<=67108864):x.aA[i].sz<=67108864/\x.aA.length<=67108864/\x.bH.length<=67108864:=by
 have:=kQ (List.getElem_mem hi);rw[iV,jV] at h;omega
theorem RG{x:au}(h:x.sz<=67108864):x.aA.length<=67108864/\x.bH.length<=67108864:=by
 rw[iV,jV] at h;omega
theorem Uo{l:List au}{i:Nat}(hi:i<l.length):oI (l.drop i)=(pX l[i]&&oI (l.drop (i+1))):=by rw[List.drop_eq_getElem_cons hi,oI]
theorem RH{l:List au}{i:Nat}(hi:i<l.length):lK (l.drop i)=max (lX l[i]) (lK (l.drop (i+1))):=by rw[List.drop_eq_getElem_cons hi,lK]
theorem Uq{l:List au}{i:Nat}(hi:i<l.length):jA (l.drop i)=je l[i]+jA (l.drop (i+1)):=by rw[List.drop_eq_getElem_cons hi,jA]
theorem aea{x:au}(h:x.sz<=67108864):je x<=67108865:=by have:=RD x;omega
theorem au.XQ{x:au}{i:Nat}(hi:i<x.aA.length):SizeOf.sizeOf x.aA[i]<SizeOf.sizeOf x:=by
 have:=List.sizeOf_lt_of_mem (List.getElem_mem hi);have:=au.DC x;omega
theorem GH(b:UInt8):aX prog 236 [.c (.d (.i .u8 b.toNat))] (.c (.d (.b (dz b)))):=fun S=>by
 have yes:((97<=b.toNat/\b.toNat<=122)\/(48<=b.toNat/\b.toNat<=57)\/b.toNat=39\/b.toNat=45\/b.toNat=43\/b.toNat=42\/b.toNat=60\/b.toNat=61\/b.toNat=46)->dz b=true:=(Bw b).2
 have no:¬((97<=b.toNat/\b.toNat<=122)\/(48<=b.toNat/\b.toNat<=57)\/b.toNat=39\/b.toNat=45\/b.toNat=43\/b.toNat=42\/b.toNat=60\/b.toNat=61\/b.toNat=46)->dz b=false:=fun h=>by
  cases hb:dz b with
  |false=>rfl
  |true=>exact absurd ((Bw b).1 hb) h
 refine zcx [.tmp 2] func236 ntmps236 ?_;simp -implicitDefEqProofs (disch:=omega) only[go_sem]
 repeat' (first|(with_reducible refine aC (fun hb=> ?_) (fun hb=> ?_)<;>have h:=hb<;>(try simp only[wf_preprocess] at h)<;>simp -implicitDefEqProofs (disch:=omega) only[go_sem,hb]<;>(repeat(with_reducible refine And.intro ?_ ?_;focus first|omega|rfl|assumption|exact⟨_,rfl,rfl⟩|(simp;omega)|(simp;done)))))
 all_goals first
  |exact bL (yes (by omega)).symm
  |exact bL (no (by omega)).symm
  |(refine bL ?_;cases hb:dz b<;>simp only[decide_eq_true_eq,decide_eq_false_iff_not]<;>(first|(have:=(Bw b).1 hb;omega)|(intro q;have:=yes (by omega);rw[hb] at this;cases this)))
theorem XR(s:List UInt8)(hs:s.length<=1073741824):aX prog 247 [.c (.d (.s s))] (.c (.d (.b (validAtom s)))):=fun S=>by
 refine zcx [.tmp 2] func247 ntmps247 ?_;simp -implicitDefEqProofs (disch:=omega) only[go_sem]
 refine bN (ι:=Nat) zmx rfl [0,3] (fun i=>[.c (.d (.s s)),.c (.d (.i .i64 i))]) (fun _=>[]::S)
  (fun i=>i<=s.length/\∀j,∀hj:j<s.length,j<i->dz s[j]=true) (fun i=>s.length-i) 0 rfl rfl ⟨Nat.zero_le _,fun j _ h=>by omega⟩ ?_
 rintro i ⟨p1,p2⟩;simp -implicitDefEqProofs (disch:=omega) only[go_sem]
 with_reducible refine aC (fun hb=> ?_) (fun hb=> ?_)<;>have h:=hb<;>(try simp only[wf_preprocess] at h)<;>simp -implicitDefEqProofs (disch:=omega) only[go_sem,hb]<;>(repeat(with_reducible refine And.intro ?_ ?_;focus first|omega|rfl|assumption|exact⟨_,rfl,rfl⟩|(simp;omega)|(simp;done)))
 ·have hi:i<s.length:=by omega
  have e:s.getD i 0=s[i]:=by simp[List.getD,hi]
  (repeat(with_reducible refine And.intro ?_ ?_;focus first|omega|rfl|assumption|exact⟨_,rfl,rfl⟩|(simp;omega)|(simp;done)))
  rw[e];refine aB (GH s[i]) ?_;simp -implicitDefEqProofs (disch:=omega) only[go_sem]<;>(repeat(with_reducible refine And.intro ?_ ?_;focus first|omega|rfl|assumption|exact⟨_,rfl,rfl⟩|(simp;omega)|(simp;done)))
  with_reducible refine aC (fun hb=> ?_) (fun hb=> ?_)<;>have h:=hb<;>(try simp only[wf_preprocess] at h)<;>simp -implicitDefEqProofs (disch:=omega) only[go_sem,hb]<;>(repeat(with_reducible refine And.intro ?_ ?_;focus first|omega|rfl|assumption|exact⟨_,rfl,rfl⟩|(simp;omega)|(simp;done)))
  ·exact bL (by unfold validAtom;rw[all_false hi h];rfl)
  ·refine bT (i+1) (by omega) rfl rfl ⟨by omega,fun j hj hji=> ?_⟩;by_cases e':j=i
   ·subst e';exact h
   ·exact p2 j hj (by omega)
 ·have ha:=all_true (s:=s) (fun j hj=>p2 j hj (by omega));refine aB (wh s.length 1 12) ?_;simp -implicitDefEqProofs (disch:=omega) only[go_sem]<;>(repeat(with_reducible refine And.intro ?_ ?_;focus first|omega|rfl|assumption|exact⟨_,rfl,rfl⟩|(simp;omega)|(simp;done)));refine bL ?_;unfold validAtom;rw[ha,Bool.true_and,<-nM];exact decide_eq_decide.2 (by omega)
theorem Lj:∀n:Nat,∀x:au,SizeOf.sizeOf x<n->∀l:Int,0<=l->l<=1073741824->x.sz<=67108864->aX prog 237 [x.v,.c (.d (.i .i64 l))] (.c (.d (.i .i64 (l7 l (je x)))))
 |0=>fun x h=>by omega
 |n+1=>by
  have ih:=Lj n;intro x hn l h0 h1 hsz S;have hts:=RG hsz;have hcn:=ad8 x;refine zcx [.tmp 4] func237 ntmps237 ?_;simp -implicitDefEqProofs (disch:=omega) only[go_sem]
  refine bN (ι:=Nat×Int) zmx rfl [1,2,5] (fun y=>[.c (.d (.i .i64 y.2)),.c (.ptr (0,0) 0),.c (.d (.i .i64 y.1))]) (fun y=>[.box [.d (.s x.bH),.d (.sl (x.aA.map au.enc))]]::S)
   (fun y=>y.1<=x.aA.length/\ -1<=y.2/\y.2<=1073741824/\(0<=y.2->l7 l (je x)=l7 y.2 (jA (x.aA.drop y.1)))/\(y.2<0->l7 l (je x)= -1)) (fun y=>x.aA.length-y.1) (0,l-1) rfl rfl ⟨Nat.zero_le _,by simp only;omega,by simp only;omega,fun h=> ?_,fun h=> ?_⟩ ?_
  ·simp only[List.drop_zero] at h ⊢;unfold l7;rw[hcn];split<;>split<;>omega
  ·simp only at h;exact Ir (by omega)
  rintro⟨i,c⟩ ⟨p1,p2,p3,p4,p5⟩;simp only at p1 p2 p3 p4 p5;simp -implicitDefEqProofs (disch:=omega) only[go_sem]
  with_reducible refine aC (fun hb=> ?_) (fun hb=> ?_)<;>have h:=hb<;>(try simp only[wf_preprocess] at h)<;>simp -implicitDefEqProofs (disch:=omega) only[go_sem,hb]<;>(repeat(with_reducible refine And.intro ?_ ?_;focus first|omega|rfl|assumption|exact⟨_,rfl,rfl⟩|(simp;omega)|(simp;done)))
  ·have hi:i<x.aA.length:=by omega
   with_reducible refine aC (fun hb=> ?_) (fun hb=> ?_)<;>have h:=hb<;>(try simp only[wf_preprocess] at h)<;>simp -implicitDefEqProofs (disch:=omega) only[go_sem,hb]<;>(repeat(with_reducible refine And.intro ?_ ?_;focus first|omega|rfl|assumption|exact⟨_,rfl,rfl⟩|(simp;omega)|(simp;done)))
   ·have hsz':=Nc hi hsz;have p6:=p4 h;rw[Uq hi] at p6
    (repeat(with_reducible refine And.intro ?_ ?_;focus first|omega|rfl|assumption|exact⟨_,rfl,rfl⟩|(simp;omega)|(simp;done)))
    refine aB (ih x.aA[i] (by have:=au.XQ hi;omega) c (by omega) (by omega) (by omega)) ?_;simp -implicitDefEqProofs (disch:=omega) only[go_sem]<;>(repeat(with_reducible refine And.intro ?_ ?_;focus first|omega|rfl|assumption|exact⟨_,rfl,rfl⟩|(simp;omega)|(simp;done)));refine bT (i+1,l7 c _) (by simp only;omega) rfl rfl ⟨by simp only;omega,?_,?_,fun h=> ?_,fun h=> ?_⟩
    ·simp only;unfold l7;split<;>omega
    ·simp only;unfold l7;split<;>omega
    ·simp only at h ⊢;rw[p6];have:=Iq (l:=c) (a:=je x.aA[i]) (by omega);rw[this.1];unfold l7;split<;>split<;>omega
    ·simp only at h ⊢;rw[p6];have:=EC h;exact Ir (by omega)
   ·have hc:c= -1:=by omega
    rw[p5 (by omega),hc]
  ·have hi:i=x.aA.length:=by omega
   by_cases hc:0<=c
   ·rw[p4 hc,hi,List.drop_length,jA,Ro (by omega)];exact int_eq (by simp)
   ·rw[p5 (by omega)];exact int_eq (by omega)
theorem aaS(x:au)(l:Int)(h0:0<=l)(h1:l<=1073741824)(hsz:x.sz<=67108864):aX prog 237 [x.v,.c (.d (.i .i64 l))] (.c (.d (.i .i64 (l7 l (je x))))):=Lj _ x (Nat.lt_succ_self _) l h0 h1 hsz
theorem Ll:∀n:Nat,∀x:au,SizeOf.sizeOf x<n->x.sz<=67108864->aX prog 238 [x.v] (.c (.d (.b (pX x))))
 |0=>fun x h=>by omega
 |n+1=>by
  have ih:=Ll n;intro x hn hsz S;have hts:=RG hsz;have hf:=ad7 x;refine zcx [.tmp 2] func238 ntmps238 ?_;simp -implicitDefEqProofs (disch:=omega) only[go_sem]
  with_reducible refine aC (fun hb=> ?_) (fun hb=> ?_)<;>have h:=hb<;>(try simp only[wf_preprocess] at h)<;>simp -implicitDefEqProofs (disch:=omega) only[go_sem,hb]<;>(repeat(with_reducible refine And.intro ?_ ?_;focus first|omega|rfl|assumption|exact⟨_,rfl,rfl⟩|(simp;omega)|(simp;done)))
  ·rw[if_neg h] at hf;refine aB (XR x.bH (by omega)) ?_;simp -implicitDefEqProofs (disch:=omega) only[go_sem]<;>(repeat(with_reducible refine And.intro ?_ ?_;focus first|omega|rfl|assumption|exact⟨_,rfl,rfl⟩|(simp;omega)|(simp;done)))
   with_reducible refine aC (fun hb=> ?_) (fun hb=> ?_)<;>have h:=hb<;>(try simp only[wf_preprocess] at h)<;>simp -implicitDefEqProofs (disch:=omega) only[go_sem,hb]<;>(repeat(with_reducible refine And.intro ?_ ?_;focus first|omega|rfl|assumption|exact⟨_,rfl,rfl⟩|(simp;omega)|(simp;done)))
   ·rw[hf,h,Bool.true_and];exact bL (decide_eq_decide.2 (by omega))
   ·rw[hf,h,Bool.false_and]
  rw[if_pos h] at hf
  refine bN (ι:=Nat) zmx rfl [1,3] (fun y=>[.c (.ptr (0,0) 0),.c (.d (.i .i64 y))]) (fun y=>[.box [.d (.s x.bH),.d (.sl (x.aA.map au.enc))]]::S)
   (fun y=>y<=x.aA.length/\pX x=oI (x.aA.drop y)) (fun y=>x.aA.length-y) 0 rfl rfl ⟨Nat.zero_le _,hf⟩ ?_
  rintro i ⟨p1,p2⟩;simp -implicitDefEqProofs (disch:=omega) only[go_sem]
  with_reducible refine aC (fun hb=> ?_) (fun hb=> ?_)<;>have h:=hb<;>(try simp only[wf_preprocess] at h)<;>simp -implicitDefEqProofs (disch:=omega) only[go_sem,hb]<;>(repeat(with_reducible refine And.intro ?_ ?_;focus first|omega|rfl|assumption|exact⟨_,rfl,rfl⟩|(simp;omega)|(simp;done)))
  ·have hi:i<x.aA.length:=by omega
   have hsz':=Nc hi hsz;rw[Uo hi] at p2
   (repeat(with_reducible refine And.intro ?_ ?_;focus first|omega|rfl|assumption|exact⟨_,rfl,rfl⟩|(simp;omega)|(simp;done)))
   refine aB (ih x.aA[i] (by have:=au.XQ hi;omega) (by omega)) ?_;simp -implicitDefEqProofs (disch:=omega) only[go_sem]<;>(repeat(with_reducible refine And.intro ?_ ?_;focus first|omega|rfl|assumption|exact⟨_,rfl,rfl⟩|(simp;omega)|(simp;done)))
   with_reducible refine aC (fun hb=> ?_) (fun hb=> ?_)<;>have h:=hb<;>(try simp only[wf_preprocess] at h)<;>simp -implicitDefEqProofs (disch:=omega) only[go_sem,hb]<;>(repeat(with_reducible refine And.intro ?_ ?_;focus first|omega|rfl|assumption|exact⟨_,rfl,rfl⟩|(simp;omega)|(simp;done)))
   ·rw[p2,h,Bool.false_and]
   ·exact bT (i+1) (by omega) rfl rfl ⟨by omega,by rw[p2,h,Bool.true_and]⟩
  ·have hi:i=x.aA.length:=by omega
   rw[hi,List.drop_length,oI] at p2;rw[p2]
theorem aaT(x:au)(hsz:x.sz<=67108864):aX prog 238 [x.v] (.c (.d (.b (pX x)))):=Ll _ x (Nat.lt_succ_self _) hsz
theorem DT:∀n:Nat,∀x:au,SizeOf.sizeOf x<n->x.sz<=67108864->aX prog 239 [x.v] (.c (.d (.i .i64 (lX x))))
 |0=>fun x h=>by omega
 |n+1=>by
  have ih:=DT n;intro x hn hsz S;have hts:=RG hsz;have hd:=aaR x;have hd1:=Jh x;have hd2:=aea hsz;refine zcx [.tmp 2] func239 ntmps239 ?_;simp -implicitDefEqProofs (disch:=omega) only[go_sem]
  with_reducible refine aC (fun hb=> ?_) (fun hb=> ?_)<;>have h:=hb<;>(try simp only[wf_preprocess] at h)<;>simp -implicitDefEqProofs (disch:=omega) only[go_sem,hb]<;>(repeat(with_reducible refine And.intro ?_ ?_;focus first|omega|rfl|assumption|exact⟨_,rfl,rfl⟩|(simp;omega)|(simp;done)))
  ·rw[if_neg h] at hd;rw[hd];rfl
  rw[if_pos h] at hd
  refine bN (ι:=Nat×Nat) zmx rfl [1,3,4] (fun y=>[.c (.ptr (0,0) 0),.c (.d (.i .i64 y.2)),.c (.d (.i .i64 y.1))]) (fun y=>[.box [.d (.s x.bH),.d (.sl (x.aA.map au.enc))]]::S)
   (fun y=>y.1<=x.aA.length/\lX x=max y.2 (lK (x.aA.drop y.1))+1) (fun y=>x.aA.length-y.1) (0,0) rfl rfl ⟨Nat.zero_le _,by simp[hd]⟩ ?_
  rintro⟨i,c⟩ ⟨p1,p2⟩;simp only at p1 p2;simp -implicitDefEqProofs (disch:=omega) only[go_sem]
  with_reducible refine aC (fun hb=> ?_) (fun hb=> ?_)<;>have h:=hb<;>(try simp only[wf_preprocess] at h)<;>simp -implicitDefEqProofs (disch:=omega) only[go_sem,hb]<;>(repeat(with_reducible refine And.intro ?_ ?_;focus first|omega|rfl|assumption|exact⟨_,rfl,rfl⟩|(simp;omega)|(simp;done)))
  ·have hi:i<x.aA.length:=by omega
   have hsz':=Nc hi hsz;rw[RH hi] at p2
   (repeat(with_reducible refine And.intro ?_ ?_;focus first|omega|rfl|assumption|exact⟨_,rfl,rfl⟩|(simp;omega)|(simp;done)))
   refine aB (ih x.aA[i] (by have:=au.XQ hi;omega) (by omega)) ?_;simp -implicitDefEqProofs (disch:=omega) only[go_sem]<;>(repeat(with_reducible refine And.intro ?_ ?_;focus first|omega|rfl|assumption|exact⟨_,rfl,rfl⟩|(simp;omega)|(simp;done)));refine aB (Ry _ _) ?_;simp -implicitDefEqProofs (disch:=omega) only[go_sem]<;>(repeat(with_reducible refine And.intro ?_ ?_;focus first|omega|rfl|assumption|exact⟨_,rfl,rfl⟩|(simp;omega)|(simp;done)));rw[show max (c:Int) ((lX x.aA[i]:Int))=((max c (lX x.aA[i]):Nat):Int) by omega];exact bT (i+1,max c (lX x.aA[i])) (by simp only;omega) rfl rfl ⟨by simp only;omega,by simp only;omega⟩
  ·have hi:i=x.aA.length:=by omega
   rw[hi,List.drop_length,lK] at p2
   (repeat(with_reducible refine And.intro ?_ ?_;focus first|omega|rfl|assumption|exact⟨_,rfl,rfl⟩|(simp;omega)|(simp;done)))
   exact int_eq (by omega)
theorem Po(x:au)(hsz:x.sz<=67108864):aX prog 239 [x.v] (.c (.d (.i .i64 (lX x)))):=DT _ x (Nat.lt_succ_self _) hsz
theorem lS(x:au)(hsz:x.sz<=67108864):aX prog 218 [x.v] (.c (.d (.b (iR x)))):=fun S=>by
 refine zcx [.tmp 2] func218 ntmps218 ?_;simp -implicitDefEqProofs (disch:=omega) only[go_sem];refine aB (aaS x 900 (by omega) (by omega) hsz) ?_;simp -implicitDefEqProofs (disch:=omega) only[go_sem]<;>(repeat(with_reducible refine And.intro ?_ ?_;focus first|omega|rfl|assumption|exact⟨_,rfl,rfl⟩|(simp;omega)|(simp;done)))
 with_reducible refine aC (fun hb=> ?_) (fun hb=> ?_)<;>have h:=hb<;>(try simp only[wf_preprocess] at h)<;>simp -implicitDefEqProofs (disch:=omega) only[go_sem,hb]<;>(repeat(with_reducible refine And.intro ?_ ?_;focus first|omega|rfl|assumption|exact⟨_,rfl,rfl⟩|(simp;omega)|(simp;done)))
 ·have h1:=(Iq (l:=900) (a:=je x) (by omega)).2;refine aB (aaT x hsz) ?_;simp -implicitDefEqProofs (disch:=omega) only[go_sem]<;>(repeat(with_reducible refine And.intro ?_ ?_;focus first|omega|rfl|assumption|exact⟨_,rfl,rfl⟩|(simp;omega)|(simp;done)))
  with_reducible refine aC (fun hb=> ?_) (fun hb=> ?_)<;>have h:=hb<;>(try simp only[wf_preprocess] at h)<;>simp -implicitDefEqProofs (disch:=omega) only[go_sem,hb]<;>(repeat(with_reducible refine And.intro ?_ ?_;focus first|omega|rfl|assumption|exact⟨_,rfl,rfl⟩|(simp;omega)|(simp;done)))
  ·have hf:=h;refine aB (Po x hsz) ?_;simp -implicitDefEqProofs (disch:=omega) only[go_sem]<;>(repeat(with_reducible refine And.intro ?_ ?_;focus first|omega|rfl|assumption|exact⟨_,rfl,rfl⟩|(simp;omega)|(simp;done)));refine bL ?_;unfold iR;rw[hf,Bool.true_and];exact decide_eq_decide.2 (by omega)
  ·refine bL ?_;unfold iR;rw[h,Bool.false_and]
 ·have h1:=EC (l:=900) (a:=je x) (by omega);refine bL ?_;unfold iR;rw[decide_eq_false (by omega),Bool.and_false]
mutual
def zL:D->Nat
 | .sl es=>wZ es+1
 | .ol _ _=>0
 | .b _=>0
 | .i _ _=>0
 | .s _=>0
 | .o _=>0
def yu:List D->Nat
 |[]=>0
 |d::ds=>zL d+yu ds
def wZ:List (List D)->Nat
 |[]=>0
 |r::rs=>yu r+wZ rs
end
mutual
def qL:D->Nat->D
 | .sl es,n=>.ol n (ig es (n+1))
 | .ol m es,_=>.ol m es
 | .b x,_=>.b x
 | .i k x,_=>.i k x
 | .s l,_=>.s l
 | .o v,_=>.o v
def lF:List D->Nat->List D
 |[],_=>[]
 |d::ds,n=>qL d n::lF ds (n+zL d)
def ig:List (List D)->Nat->List (List D)
 |[],_=>[]
 |r::rs,n=>lF r n::ig rs (n+yu r)
end
mutual
def pq:D->Bool
 | .sl es=>jE es
 | .ol _ _=>false
 | .b _=>true
 | .i _ _=>true
 | .s _=>true
 | .o _=>false
def jq:List D->Bool
 |[]=>true
 |d::ds=>pq d&&jq ds
def jE:List (List D)->Bool
 |[]=>true
 |r::rs=>jq r&&jE rs
end
theorem kZ:∀r n,(lF r n).length=r.length
 |[],_=>rfl
 |d::ds,n=>by rw[lF,List.length_cons,kZ ds,List.length_cons]
theorem Bz:∀rs n,(ig rs n).length=rs.length
 |[],_=>rfl
 |r::rs,n=>by rw[ig,List.length_cons,Bz rs,List.length_cons]
theorem iy:∀a b,jq (a++b)=(jq a&&jq b)
 |[],b=>by simp[jq]
 |d::ds,b=>by rw[List.cons_append,jq,jq,iy ds b,Bool.and_assoc]
theorem kJ{α:Type}{f:α->List D}:∀{xs:List α},(∀x∈xs,jq (f x)=true)->jE (xs.map f)=true
 |[],_=>rfl
 |x::xs,h=>by
  rw[List.map_cons,jE,h x (by simp),kJ fun y hy=>h y (by simp[hy])];rfl
section
variable {P:Program} {w:World} {σ σ':Nat->Nat} {S:Store} {β:Hs} {N:Nat} {s:St}
mutual
theorem amJ:∀(d:D)(n:Nat)(v:Value),dM w σ (qL d n) v->dM w σ d v
 | .sl es,n,v,h=>by
   rw[qL] at h;have hl:=Bz es (n+1);have hrec:=afL es (n+1);generalize ig es (n+1)=q at h hl hrec
   cases h with
   |AP n a cap=>
    have:es=[]:=List.eq_nil_of_length_eq_zero (by simpa using hl.symm);subst this;exact .nil a cap
   |ol n b off cap bB q vals c t hcap hlen hb hσ hfit hc hv hx=>
    obtain⟨r1,r2⟩:=hrec vals hv;rw[hl] at hcap hfit hc ⊢;refine .sl b off cap bB es vals c t (0,0) hcap (fun e he=> ?_) hb (by omega) hc r2;obtain⟨e',h1,h2⟩:=r1 e he;rw[<-h2];exact hlen e' h1
 | .ol m es,n,v,h=>h
 | .b x,n,v,h=>h
 | .i k x,n,v,h=>h
 | .s l,n,v,h=>h
 | .o u,n,v,h=>h
theorem aiO:∀(r:List D)(n:Nat)(vals:Nat->Value),(∀j d,(lF r n)[j]? =some d->dM w σ d (vals j))->∀(j:Nat) d,r[j]? =some d->dM w σ d (vals j)
 |[],n,vals,h,j,d,hd=>by simp at hd
 |a::r,n,vals,h,j,d,hd=>by
  cases j with
  |zero=>
   simp at hd;subst hd;exact amJ a n _ (h 0 _ rfl)
  |succ j=>exact aiO r (n+zL a) (fun i=>vals (i+1)) (fun i d hi=>h (i+1) d (by rw[lF];exact hi)) j d hd
theorem afL:∀(rs:List (List D))(n:Nat)(vals:Nat->Value),(∀j d,(ig rs n).flatten[j]? =some d->dM w σ d (vals j))->
 (∀e∈rs,∃e'∈ig rs n,e'.length=e.length)/\∀(j:Nat) d,rs.flatten[j]? =some d->dM w σ d (vals j)
 |[],n,vals,h=>⟨fun e he=>(by cases he),fun j d hd=>(by simp at hd)⟩
 |r::rs,n,vals,h=>by
  rw[ig,List.flatten_cons] at h;have h1:=aiO r n vals fun j d hd=>h j d (by rw[List.getElem?_append_left (List.getElem?_eq_some_iff.1 hd).1];exact hd);obtain⟨h2,h3⟩:=afL rs (n+yu r) (fun i=>vals (r.length+i)) fun j d hd=>h (r.length+j) d (by rw[List.getElem?_append_right (by rw[kZ];omega),kZ,Nat.add_sub_cancel_left];exact hd);refine⟨fun e he=> ?_,fun j d hd=> ?_⟩
  ·rcases List.mem_cons.1 he with e1|he
   ·subst e1;exact⟨_,by rw[ig];exact List.mem_cons_self ..,kZ _ _⟩
   ·obtain⟨e',q1,q2⟩:=h2 e he;exact⟨e',by rw[ig];exact List.mem_cons_of_mem _ q1,q2⟩
  ·rw[List.flatten_cons] at hd;by_cases hj:j<r.length
   ·rw[List.getElem?_append_left hj] at hd;exact h1 j d hd
   ·rw[List.getElem?_append_right (by omega)] at hd;have:=h3 (j-r.length) d hd
    rwa [show r.length+(j-r.length)=j by omega] at this
end
inductive uo:List V->List V->Prop
 |nil:uo [] []
 |cons {x y:V} {xs ys:List V}:Less x y->uo xs ys->uo (x::xs) (y::ys)
theorem uo.length:∀{xs ys:List V},uo xs ys->xs.length=ys.length
 |_,_,.nil=>rfl
 |_,_,.cons _ h=>by rw[List.length_cons,List.length_cons,uo.length h]
theorem uo.at:∀{xs ys:List V},uo xs ys->∀(j:Nat)(x y:V),xs[j]? =some x->ys[j]? =some y->Less x y
 |_,_,.nil,j,x,y,h,_=>by simp at h
 |_,_,.cons a h,0,x,y,h1,h2=>by simp at h1 h2;subst h1;subst h2;exact a
 |_,_,.cons a h,j+1,x,y,h1,h2=>uo.at h j x y (by simpa using h1) (by simpa using h2)
theorem aX.args{f:FuncId}{args args':List V}{r:V}(h:aX P f args' r)(hl:uo args args'):aX P f args r:=fun S=>(h S).weaken hl.length fun j x y hx hy w σ β v hr=>hl.at j x y hx hy w σ S β v hr
def aeb(row:Bool)(j n:Nat)(es:List (List D))(tm:List (Nat×V)):List (Nat×V):=tm.map fun x=>(x.1,x.2.lT (C.lab row j n es))
theorem aaU{row:Bool}{j n:Nat}{es:List (List D)}{tm:List (Nat×V)}{t:Nat}:look (aeb row j n es tm) t=(look tm t).lT (C.lab row j n es):=Ez (f:=V.lT (C.lab row j n es)) rfl tm t
def aec(j n:Nat)(tm:List (Nat×V))(own:List Obj)(Ω:Store):Option Obj->St
 |some (.eZ _ es)=>⟨aeb true j n es tm,(own.map (Obj.lT (C.lab true j n es))).set j .dead::Ω⟩
 |some (.jD m _ es)=>⟨aeb false j m es tm,(own.map (Obj.lT (C.lab false j m es))).set j .dead::Ω⟩
 |_=>⟨tm,own::Ω⟩
def XT(j n:Nat)(s:St):St:=
 match s.st with
 |own::Ω=>aec j n s.tm own Ω (own[j]?)
 |[]=>s
def PN:Nat->Nat->St->St
 |0,_,s=>s
 |k+1,n,s=>PN k n (XT k n s)
def Lm(n:Nat)(s:St):St:=
 match s.st with
 |own::_=>PN own.length n s
 |[]=>s
theorem aed{j n:Nat}{tm:List (Nat×V)}{own:List Obj}{Ω:Store}:XT j n ⟨tm,own::Ω⟩=aec j n tm own Ω (own[j]?):=rfl
theorem aaV{n:Nat}{tm:List (Nat×V)}{own:List Obj}{Ω:Store}:Lm n ⟨tm,own::Ω⟩=PN own.length n ⟨tm,own::Ω⟩:=rfl
def aiP(P:Program)(n:Nat)(rs:List ResultVar)(post:V->Store->Prop)(e:Exit)(s:St):Prop:=aci P rs post e (Lm n s)
theorem aee{n:Nat}{rs:List ResultVar}{post:V->Store->Prop}:aiP P n rs post .ret s=Rh P rs post (Lm n s):=rfl
theorem Ur{n:Nat}{rs:List ResultVar}{post:V->Store->Prop}:aiP P n rs post .normal s=Rh P rs post (Lm n s):=rfl
theorem aef{row:Bool}{j n l i:Nat}{es es':List (List D)}:C.lab row j n es (.bV (1+l,i) es')=.bV (1+l,i) es':=by rw[Nat.add_comm];rfl
theorem aeg{row:Bool}{j n i:Nat}{es es':List (List D)}:C.lab row j n es (.bV (0,i) es')=if i=j/\row=false/\es'.length=es.length then .d (.ol n es) else .bV (0,i) es':=rfl
theorem aeh{row:Bool}{j n l i:Nat}{es:List (List D)}:C.lab row j n es (.iU (1+l,i))=.iU (1+l,i):=by rw[Nat.add_comm];rfl
theorem aei{row:Bool}{j n i:Nat}{es:List (List D)}:C.lab row j n es (.iU (0,i))=if i=j/\row=true then .d (.ol n es) else .iU (0,i):=rfl
theorem akX{row:Bool}{j n:Nat}{es:List (List D)}{x:D}:C.lab row j n es (.d x)=.d x:=rfl
theorem ag4{row:Bool}{j n:Nat}{es:List (List D)}:C.lab row j n es .any=.any:=rfl
theorem ag5{row:Bool}{j n:Nat}{es es':List (List D)}:C.lab row j n es (.bM es')=.bM es':=rfl
theorem ag6{row:Bool}{j n m:Nat}{es es':List (List D)}:C.lab row j n es (.nA m es')=.nA m es':=rfl
theorem ag7{row:Bool}{j n off:Nat}{es:List (List D)}{k:Key}:C.lab row j n es (.ptr k off)=.ptr k off:=rfl
theorem aiQ{row:Bool}{j n f:Nat}{es:List (List D)}{caps:List (Key×Nat)}:C.lab row j n es (.fn f caps)=.fn f caps:=rfl
theorem aej{row:Bool}{j n:Nat}{es:List (List D)}{cs:List D}:C.lab row j n es (.kV cs)=.kV cs:=rfl
end
attribute [go_sem ↓] aee Ur aaV
attribute [go_sem] PN aed aec aaU V.lT Obj.lT aef aeg aeh aei akX ag4 ag5 ag6 ag7 aiQ aej
section
variable {P:Program} {w w':World} {σ σ':Nat->Nat} {S:Store} {β:Hs}
def qM(w:World)(σ:Nat->Nat)(lo hi b:Nat):Prop:=∃c t fz m,w.heap[b]? =some (.cells c t fz)/\σ b=c.size+1+m/\lo<=m/\m<hi
theorem qM.mono{lo hi lo' hi' b:Nat}(h:qM w σ lo hi b)(h1:lo'<=lo)(h2:hi<=hi'):qM w σ lo' hi' b:=by
 obtain⟨c,t,fz,m,a1,a2,a3,a4⟩:=h;exact⟨c,t,fz,m,a1,a2,by omega,by omega⟩
theorem qM.apart{lo hi lo' hi' b:Nat}(h:qM w σ lo hi b)(h':qM w σ lo' hi' b)(ho:hi<=lo'):False:=by
 obtain⟨c,t,fz,m,a1,a2,a3,a4⟩:=h;obtain⟨c',t',Vg,m',b1,b2,b3,b4⟩:=h';rw[a1] at b1;cases b1;omega
abbrev Kids:=List (List (Option Value))
def lU(rows:Kids)(i o:Nat):Option Value:=((rows[i]?).bind fun r=>r[o]?).bind id
def afM(rows:Kids):Array Value:=(rows.map fun r=>Value.tuple (r.map fun u=>u.getD (.bool false)).toArray).toArray
def mkT(v:Value)(rows:Kids):Value:=.tuple #[v,.tuple (afM rows)]
theorem Vq{v:Value}{rows:Kids}:hdr (mkT v rows)=some v:=rfl
def IsT(v:Value):Prop:=∃a,v=.tuple a
theorem Nf{v:Value}{rows:Kids}(h:∀i o u,lU rows i o=some u->IsT u)(i o:Nat):kid (mkT v rows) i o=lU rows i o:=by
 have h':=h i o
 unfold kid mkT afM lU at *
 simp only[List.getElem?_toArray,List.getElem?_cons_succ,List.getElem?_cons_zero,List.getElem?_map]
 cases hr:rows[i]? with
 |none=>rfl
 |some r=>
  rw[hr] at h';simp only[Option.map_some,List.getElem?_toArray,List.getElem?_map]
  cases hu:r[o]? with
  |none=>simp[hu]
  |some u=>
   simp only[Option.bind_some,hu,id] at h'
   cases u with
   |none=>simp[hu]
   |some u=>
    obtain⟨a,rfl⟩:=h' u rfl;simp[hu]
def PO(w:World)(d:D)(v:Value)(u:Option Value):Prop:=
 match d with
 | .sl es=>∃T,u=some T/\IsT T/\hdr T=some v/\pK w es T
 |d=>u=none/\SD d v
theorem RI{z:Nat}:∀{rs:List (List D)}{n:Nat},(∀r∈ig rs n,r.length=z)->∀r∈rs,r.length=z
 |[],_,_,r,h=>by cases h
 |a::rs,n,ha,r,h=>by
  rw[ig] at ha;rcases List.mem_cons.1 h with e|h
  ·subst e;rw[<-kZ r n];exact ha _ (by simp)
  ·exact RI (n:=n+yu a) (fun r hr=>ha r (by simp[hr])) r h
structure amK(w:World)(σ:Nat->Nat)(r:List D)(n m:Nat)(vals:Nat->Value)(us:List (Option Value)):Prop where
 len:us.length=r.length
 cell:∀(j:Nat)(d:D),r[j]? =some d->∃u,us[j]? =some u/\PO w d (vals j) u
 own:∀(j:Nat)(u:Value),us[j]? =some (some u)->∀b,kW u b->qM w σ n m b
 apart:∀(j j':Nat)(u u':Value)(b:Nat),j≠j'->us[j]? =some (some u)->us[j']? =some (some u')->kW u b->kW u' b->False
structure akY(w:World)(σ:Nat->Nat)(z:Nat)(rs:List (List D))(n m:Nat)(vals:Nat->Value)(U:Kids):Prop where
 cell:∀(i o:Nat)(d:D),cellAt rs i o=some d->∃u,((U[i]?).bind fun r=>r[o]?)=some u/\PO w d (vals (i*z+o)) u
 kid:∀(i o:Nat)(u:Value),lU U i o=some u->∃es,cellAt rs i o=some (.sl es)
 own:∀(i o:Nat)(u:Value),lU U i o=some u->∀b,kW u b->qM w σ n m b
 apart:∀(i o i' o':Nat)(u u':Value)(b:Nat),(i,o)≠(i',o')->lU U i o=some u->lU U i' o'=some u'->kW u b->kW u' b->False
theorem w9{us:List (Option Value)}{U:Kids}{o:Nat}{u:Value}:lU (us::U) 0 o=some u<->us[o]? =some (some u):=by
 show(us[o]?).bind id=some u<->_
 cases us[o]? with
 |none=>simp
 |some x=>simp
mutual
theorem akZ:∀(d:D)(n:Nat)(v:Value),pq d=true->dM w σ (qL d n) v->∃u,PO w d v u/\∀T,u=some T->∀b,kW T b->qM w σ n (n+zL d) b
 | .sl es,n,v,hp,h=>by
   rw[qL] at h;have hl:=Bz es (n+1);have hrec:=aaW es (n+1);have hrow:=fun z=>RI (z:=z) (rs:=es) (n:=n+1);generalize ig es (n+1)=q at h hl hrec hrow
   have hempty:∀a cap,es=[]->v=.slice a 0 cap->∃u,PO w (.sl es) v u/\∀T,u=some T->∀b,kW T b->qM w σ n (n+zL (.sl es)) b:=by
    rintro a cap rfl rfl
    have hk:∀i o,kid (mkT (.slice a 0 cap) []) i o=none:=fun i o=>by rw[Nf (fun i o u h=>by simp[lU] at h)];simp[lU]
    refine⟨some (mkT (.slice a 0 cap) []),⟨_,rfl,⟨_,rfl⟩,rfl,.nil a cap _ rfl hk⟩,fun T hT b hb=> ?_⟩;cases hT;exfalso
    cases hb with
    |here h1 h2=>rw[Vq] at h1;cases h1;omega
    |kid h1 h2=>rw[hk] at h1;cases h1
   cases h with
   |AP n a cap=>exact hempty a cap (List.eq_nil_of_length_eq_zero (by simpa using hl.symm)) rfl
   |ol n b off cap z q vals c t hcap hlen hb hσ hfit hc hv hx=>
    by_cases hne:es=[]
    ·subst hne
     have hq0:q.length=0:=by simpa using hl
     exact hempty _ _ rfl (by rw[hq0])
    rw[hl] at hcap hfit hc ⊢;obtain⟨U,hU⟩:=hrec z vals (hrow z hlen) (by simpa [pq] using hp) hv;have hrl:=hrow z hlen
    have hT:∀i o u,lU U i o=some u->IsT u:=fun i o u hu=>by
     obtain⟨es',he⟩:=hU.kid i o u hu;obtain⟨u',h1,h2⟩:=hU.cell i o _ he;obtain⟨T,h3,h4,_⟩:=h2;unfold lU at hu;rw[h1,h3] at hu;cases hu;exact h4
    have sV:∀i o,kid (mkT (.slice (some ⟨b,off,none⟩) es.length cap) U) i o=lU U i o:=Nf hT
    have hcell:∀i o es',cellAt es i o=some (.sl es')->∃T,lU U i o=some T/\hdr T=some (vals (i*z+o))/\pK w es' T:=fun i o es' he=>by
     obtain⟨u',h1,T,h3,h4,h5,h6⟩:=hU.cell i o _ he;refine⟨T,?_,h5,h6⟩;unfold lU;rw[h1,h3];rfl
    have hself:∀x,qM w σ (n+1) (n+1+wZ es) x->x≠b:=by
     rintro x ⟨c',t',Vg,m,a1,a2,a3,a4⟩ rfl;rw[hb] at a1;cases a1;omega
    refine⟨some (mkT (.slice (some ⟨b,off,none⟩) es.length cap) U),⟨_,rfl,⟨_,rfl⟩,rfl,?_⟩,fun T hT' x hx=> ?_⟩
    ·refine .mk b off cap z es _ c t (fun i o=>vals (i*z+o)) (fun i o=>(lU U i o).getD undef) rfl hne hcap hrl hb hfit (fun i o d hd=> ?_) (fun i o d hd=> ?_) (fun i o es' he=> ?_) (fun i o es' he=> ?_) (fun i o u hu hb'=> ?_) (fun i o i' o' u u' x hio hu hu' h1 h2=> ?_) (fun i o u hu=> ?_)
     ·obtain⟨hi,ho⟩:=xX hd;rw[hrl _ (List.getElem_mem hi)] at ho;refine hc _ ?_;have:(i+1)*z<=es.length*z:=Nat.mul_le_mul_right _ hi;rw[Nat.add_mul,Nat.one_mul] at this;omega
     ·obtain⟨u,h1,h2⟩:=hU.cell i o d hd
      cases d<;>first|exact .inl ⟨_,rfl⟩|exact .inr h2.2
     ·obtain⟨T,h1,h2,h3⟩:=hcell i o es' he;rw[sV,h1];exact⟨rfl,h2⟩
     ·obtain⟨T,h1,h2,h3⟩:=hcell i o es' he;rw[h1];exact h3
     ·rw[sV] at hu;exact hself b (hU.own i o u hu b hb') rfl
     ·rw[sV] at hu hu';exact hU.apart i o i' o' u u' x hio hu hu' h1 h2
     ·rw[sV] at hu;exact hU.kid i o u hu
    ·cases hT'
     cases hx with
     |here h1 h2=>rw[Vq] at h1;cases h1;exact⟨c,t,(0,0),n,hb,hσ,Nat.le_refl _,by rw[zL];omega⟩
     |kid h1 h2=>
      rw[sV] at h1;exact(hU.own _ _ _ h1 _ h2).mono (by omega) (by rw[zL];omega)
 | .ol m es,n,v,hp,h=>by simp[pq] at hp
 | .b x,n,v,hp,h=>by rw[qL] at h;cases h;exact⟨none,⟨rfl,rfl⟩,fun T h=>by cases h⟩
 | .i k x,n,v,hp,h=>by rw[qL] at h;cases h;exact⟨none,⟨rfl,rfl⟩,fun T h=>by cases h⟩
 | .s l,n,v,hp,h=>by rw[qL] at h;cases h;exact⟨none,⟨rfl,rfl⟩,fun T h=>by cases h⟩
 | .o u,n,v,hp,h=>by simp[pq] at hp
theorem XU:∀(r:List D)(n:Nat)(vals:Nat->Value),jq r=true->(∀(j:Nat)(d:D),(lF r n)[j]? =some d->dM w σ d (vals j))->∃us,amK w σ r n (n+yu r) vals us
 |[],n,vals,hp,h=>⟨[],rfl,fun j d h=>by simp at h,fun j u h=>by simp at h,fun j j' u u' b _ h=>by simp at h⟩
 |d::r,n,vals,hp,h=>by
  rw[jq,Bool.and_eq_true] at hp;rw[lF] at h;obtain⟨u,h1,h2⟩:=akZ d n (vals 0) hp.1 (h 0 _ rfl);obtain⟨us,xS⟩:=XU r (n+zL d) (fun j=>vals (j+1)) hp.2 fun j x hx=>h (j+1) x hx;rw[yu];have hown:∀(j:Nat)(T:Value),us[j]? =some (some T)->∀b,kW T b->qM w σ (n+zL d) (n+zL d+yu r) b:=xS.own;refine⟨u::us,by rw[List.length_cons,List.length_cons,xS.len],fun j x hx=> ?_,fun j T hT b hb=> ?_,fun j j' T T' b hj hT hT' hb hb'=> ?_⟩
  ·cases j with
   |zero=>simp at hx;subst hx;exact⟨u,rfl,h1⟩
   |succ j=>exact xS.cell j x hx
  ·cases j with
   |zero=>simp at hT;exact(h2 T hT b hb).mono (Nat.le_refl _) (by omega)
   |succ j=>exact(hown j T hT b hb).mono (by omega) (by omega)
  ·cases j with
   |zero=>
    cases j' with
    |zero=>exact hj rfl
    |succ j'=>simp at hT;exact(h2 T hT b hb).apart (hown j' T' hT' b hb') (Nat.le_refl _)
   |succ j=>
    cases j' with
    |zero=>simp at hT';exact(h2 T' hT' b hb').apart (hown j T hT b hb) (Nat.le_refl _)
    |succ j'=>exact xS.apart j j' T T' b (by omega) hT hT' hb hb'
theorem aaW:∀(rs:List (List D))(n z:Nat)(vals:Nat->Value),(∀r∈rs,r.length=z)->jE rs=true->(∀(j:Nat)(d:D),(ig rs n).flatten[j]? =some d->dM w σ d (vals j))->∃U,akY w σ z rs n (n+wZ rs) vals U
 |[],n,z,vals,hz,hp,h=>⟨[],fun i o d h=>by simp[cellAt] at h,fun i o u h=>by simp[lU] at h,fun i o u h=>by simp[lU] at h,fun i o i' o' u u' b _ h=>by simp[lU] at h⟩
 |r::rs,n,z,vals,hz,hp,h=>by
  rw[jE,Bool.and_eq_true] at hp;rw[ig,List.flatten_cons] at h;have hrz:r.length=z:=hz r (by simp);obtain⟨us,xS⟩:=XU r n vals hp.1 fun j d hd=>h j d (by rw[List.getElem?_append_left (List.getElem?_eq_some_iff.1 hd).1];exact hd)
  obtain⟨U,hU⟩:=aaW rs (n+yu r) z (fun j=>vals (z+j)) (fun r hr=>hz r (by simp[hr])) hp.2 fun j d hd=>h (z+j) d (by
   rw[List.getElem?_append_right (by rw[kZ];omega),kZ,hrz,Nat.add_sub_cancel_left];exact hd)
  rw[wZ];have hown:∀(i o:Nat)(T:Value),lU U i o=some T->∀b,kW T b->qM w σ (n+yu r) (n+yu r+wZ rs) b:=hU.own;refine⟨us::U,fun i o d hd=> ?_,fun i o u hu=> ?_,fun i o T hT b hb=> ?_,fun i o i' o' T T' b hio hT hT' hb hb'=> ?_⟩
  ·cases i with
   |zero=>
    obtain⟨u,h1,h2⟩:=xS.cell o d hd;exact⟨u,h1,by rw[Nat.zero_mul,Nat.zero_add];exact h2⟩
   |succ i=>
    obtain⟨u,h1,h2⟩:=hU.cell i o d hd;exact⟨u,h1,by rw[show(i+1)*z+o=z+(i*z+o) by rw[Nat.add_mul];omega];exact h2⟩
  ·cases i with
   |zero=>
    rw[w9] at hu
    have ho:o<r.length:=by rw[<-xS.len];exact(List.getElem?_eq_some_iff.1 hu).1
    obtain⟨u',h1,h2⟩:=xS.cell o r[o] (List.getElem?_eq_getElem ho);rw[hu] at h1;cases h1;have hc:cellAt (r::rs) 0 o=some r[o]:=List.getElem?_eq_getElem ho;rw[hc];generalize r[o]=d at h2
    cases d<;>first|exact⟨_,rfl⟩|(cases h2.1)
   |succ i=>exact hU.kid i o u hu
  ·cases i with
   |zero=>rw[w9] at hT;exact(xS.own o T hT b hb).mono (Nat.le_refl _) (by omega)
   |succ i=>exact(hown i o T hT b hb).mono (by omega) (by omega)
  ·cases i with
   |zero=>
    rw[w9] at hT
    cases i' with
    |zero=>rw[w9] at hT';exact xS.apart o o' T T' b (fun e=>hio (by rw[e])) hT hT' hb hb'
    |succ i'=>exact(xS.own o T hT b hb).apart (hown i' o' T' hT' b hb') (Nat.le_refl _)
   |succ i=>
    cases i' with
    |zero=>rw[w9] at hT';exact(xS.own o' T' hT' b hb').apart (hown i o T hT b hb) (Nat.le_refl _)
    |succ i'=>exact hU.apart i o i' o' T T' b (fun e=>hio (by cases e;rfl)) hT hT' hb hb'
end
end
section
variable {P:Program} {w w':World} {σ σ':Nat->Nat} {S:Store} {β:Hs}
def Lp:D->List (List D)
 | .sl es=>es
 |_=>[]
def afO(k:Key)(j:Nat):D->C
 | .sl _=>.xp k j []
 |d=>.d d
def JU(k:Key):Nat->List D->List C
 |_,[]=>[]
 |j,d::ds=>afO k j d::JU k (j+1) ds
theorem Db{k:Key}:∀(j:Nat)(r:List D),(JU k j r).length=r.length
 |_,[]=>rfl
 |j,d::ds=>by rw[JU,List.length_cons,Db,List.length_cons]
theorem Vr{k:Key}:∀(r:List D)(j i:Nat),(JU k j r)[i]? =(r[i]?).map (afO k (j+i))
 |[],j,i=>by simp[JU]
 |d::ds,j,0=>rfl
 |d::ds,j,i+1=>by
  rw[JU,List.getElem?_cons_succ,List.getElem?_cons_succ,Vr ds (j+1) i,show j+1+i=j+(i+1) by omega]
def XV:C->C
 | .d x=>.d x
 | .bM es=>.d (.sl es)
 | .bV _ es=>.d (.sl es)
 | .nA n es=>.d (.ol n es)
 | .kV cs=>.kV cs
 |_=>.any
def PS:V->V
 | .c x=>.c (XV x)
 | .agg cs=>.agg (cs.map XV)
 |_=>.any
theorem Ot{c:C}{v:Value}(h:iq w σ S β c v)(S':Store)(β':Hs):iq w σ S' β' (XV c) v:=by
 cases c with
 |d x=>exact h
 |bM es=>exact h.1
 |bV k es=>exact h.1
 |nA n es=>exact h.1
 |kV cs=>exact h
 |_=>trivial
theorem RJ{x:V}{v:Value}(h:dN w σ S β x v)(S':Store)(β':Hs):dN w σ S' β' (PS x) v:=by
 cases x with
 |c x=>exact⟨Ot h.1 _ _,h.2⟩
 |agg cs=>
  obtain⟨a,ha,hl,hc⟩:=h;refine⟨a,ha,by rw[List.length_map];exact hl,fun i x hx=> ?_⟩;rw[List.getElem?_map] at hx
  cases hi:cs[i]? with
  |none=>rw[hi] at hx;cases hx
  |some y=>
   rw[hi] at hx;cases hx;obtain⟨u,q1,q2,q3⟩:=hc i y hi;exact⟨u,q1,Ot q2 _ _,q3⟩
 |_=>trivial
theorem XW(hl:∀b,b<w.heap.size\/σ b=0)(hg:AQ w σ):eG w σ [] [] where
 wJ:=hg
 obj:=fun k o h=>by rw[nu] at h;cases h
 apart:=fun k k' o o' h h' b h1=>by rw[nu] at h1;cases h1
 shape:=⟨rfl,fun l fr h=>by simp at h⟩
 live:=hl
theorem Vs{β:Hs}{b:Nat}:¬Own [] β b:=fun⟨k,o,h,h1,_⟩=>by rw[nu] at h1;cases h1
def aiS(mk:List C->V)(m:Nat):Prop:=∀w σ S β cs v,cs.length=m->dN w σ S β (mk cs) v->∃vs,fO w σ S β cs vs/\∀w' σ' S' β' cs',cs'.length=m->fO w' σ' S' β' cs' vs->dN w' σ' S' β' (mk cs') v
def su:Value:=mkT (.slice none 0 0) []
theorem GI(i o:Nat):kid su i o=none:=by
 unfold su;rw[Nf (fun i o u h=>by simp[lU] at h)];simp[lU]
theorem xg{b:Nat}:¬kW su b:=fun h=>by
 cases h with
 |here h1 h2=>cases h1
 |kid h1 h2=>rw[GI] at h1;cases h1
theorem RL(σ:Nat->Nat):∀n:Nat,∃m,∀b,b<n->σ b<=m
 |0=>⟨0,fun b h=>by omega⟩
 |n+1=>by
  obtain⟨m,hm⟩:=RL σ n;refine⟨max m (σ n),fun b hb=> ?_⟩;by_cases e:b=n
  ·subst e;omega
  ·have:=hm b (by omega);omega
open Classical in
theorem bY.own{f:FuncId}{args:List V}{cB:List Obj}{Ω:Store}{mk:List C->V}{r:List D}(hm:aiS mk r.length)(hp:jq r=true)
 (h:∀n,aX P f (args.map PS) (mk ((lF r n).map .d))):
 bY P f args (cB::Ω) (fun r' S'=>r'=mk (JU (0,cB.length) 0 r)/\S'=(cB++[.xf (r.map Lp)])::Ω):=by
 refine⟨(h 0 []).1,fun w σ β vs hS hargs=> ?_⟩;obtain⟨n,hn⟩:=RL σ w.heap.size
 have aaX:rH w σ [] [] (args.map PS) vs:=by
  refine⟨by rw[List.length_map];exact hargs.1,fun j x hx=> ?_⟩;rw[List.getElem?_map] at hx
  cases ha:args[j]? with
  |none=>rw[ha] at hx;cases hx
  |some y=>
   rw[ha] at hx;cases hx;obtain⟨v,h1,h2⟩:=hargs.2 j y ha;exact⟨v,h1,RJ h2 _ _⟩
 refine((h n []).2 w σ [] vs (XW hS.live hS.wJ) aaX).mono fun e w' ⟨v,r',S',σ',β',he,hS',hk,hst,hv,hr',hS2⟩=> ?_;subst hr';subst hS2;obtain⟨us0,hcs,hback⟩:=hm w' σ' _ β' _ v (by rw[List.length_map,kZ]) hv
 have amL:us0.length=r.length:=by rw[<-hcs.1,List.length_map,kZ]
 obtain⟨us,xS⟩:=XU r n (fun j=>us0.getD j undef) hp (fun j d hd=>by
  obtain⟨u,h1,h2,_⟩:=hcs.2 j (.d d) (by rw[List.getElem?_map,hd];rfl);simp only[List.getD_eq_getElem?_getD,h1,Option.getD_some]
  exact h2)
 let h0:Value:=.tuple (us.map fun u=>u.getD su).toArray
 have hroot:∀j,rY h0 j=(us[j]?).map fun u=>u.getD su:=fun j=>by simp[h0,rY]
 have hfresh:∀b,z8 h0 b->w.heap.size<=b:=by
  rintro b ⟨j,T,h1,h2⟩;rw[hroot] at h1
  cases hu:us[j]? with
  |none=>rw[hu] at h1;cases h1
  |some u=>
   rw[hu] at h1;simp only[Option.map_some,Option.some.injEq] at h1
   cases u with
   |none=>subst h1;exact absurd h2 xg
   |some u=>
    simp at h1;subst h1;obtain⟨c,t,fz,m,a1,a2,a3,a4⟩:=xS.own j u hu b h2;refine Nat.le_of_not_lt fun hlt=> ?_;have h1:=(hst.far b hlt Vs).2;have h2:=hn b hlt;omega
 let σ2:Nat->Nat:=fun b=>if z8 h0 b then 0 else σ' b
 have hg:Grow w σ w' σ2:=⟨hst.size,hst.os,hst.output,fun b hb=>by
  obtain⟨h1,h2⟩:=hst.far b hb Vs
  exact⟨h1,(if_neg fun hx=>by have:=hfresh b hx;omega).trans h2⟩,fun b=>by
  rcases hS'.live b with hb|hb
  ·exact .inl hb
  ·right;show(if z8 h0 b then 0 else σ' b)=0;rw[hb];split<;>rfl⟩
 cases β with
 |nil=>have:=hS.shape.1;simp at this
 |cons bo bΩ=>
 have hlen:bo.length=cB.length:=by
  obtain⟨gr,g1,g2⟩:=hS.shape.2 0 cB rfl;simp at g1;rw[g1];exact g2
 obtain⟨hS3,hk3,amM⟩:=hS.push (o:=.xf (r.map Lp)) (h:=h0) hg hlen (by
  refine⟨fun j es hj=> ?_,fun j T hT=> ?_,fun b hb=>if_pos hb,fun j j' T T' x hjj hT hT' hx hx'=> ?_⟩
  ·rw[List.getElem?_map] at hj
   cases hd:r[j]? with
   |none=>rw[hd] at hj;cases hj
   |some d=>
    rw[hd] at hj;simp only[Option.map_some,Option.some.injEq] at hj;subst hj;obtain⟨u,h1,h2⟩:=xS.cell j d hd;rw[hroot,h1]
    have hsc:(∀es,d≠ .sl es)->∃T,Option.map (fun u=>Option.getD u su) (some u)=some T/\pK w' (Lp d) T:=fun hne=>by
     have hu:u=none:=by cases d<;>first|exact absurd rfl (hne _)|exact h2.1
     have hr0:Lp d=[]:=by cases d<;>first|exact absurd rfl (hne _)|rfl
     subst hu;rw[hr0];exact⟨su,rfl,.nil none 0 _ rfl GI⟩
    cases d with
    |sl es=>obtain⟨T,rfl,_,_,h6⟩:=h2;exact⟨T,rfl,h6⟩
    |_=>exact hsc (fun es e=>by cases e)
  ·rw[List.length_map];rw[hroot] at hT
   cases hu:us[j]? with
   |none=>rw[hu] at hT;cases hT
   |some u=>rw[<-xS.len];exact(List.getElem?_eq_some_iff.1 hu).1
  ·rw[hroot] at hT hT'
   cases hu:us[j]? with
   |none=>rw[hu] at hT;cases hT
   |some u=>
    cases hu':us[j']? with
    |none=>rw[hu'] at hT';cases hT'
    |some u'=>
     rw[hu] at hT;rw[hu'] at hT';simp only[Option.map_some,Option.some.injEq] at hT hT'
     cases u with
     |none=>subst hT;exact xg hx
     |some u=>
      cases u' with
      |none=>subst hT';exact xg hx'
      |some u'=>simp at hT hT';subst hT;subst hT';exact xS.apart j j' u u' x hjj hu hu' hx hx') (fun b hb=>hfresh b hb)
 refine⟨v,_,_,σ2,(bo++[h0])::bΩ,he,hS3,hk3,amM,?_,rfl,rfl⟩;refine hback _ _ _ _ _ (by rw[Db]) ⟨by rw[Db,amL],fun j x hx=> ?_⟩;rw[Vr,Nat.zero_add] at hx
 cases hd:r[j]? with
 |none=>rw[hd] at hx;cases hx
 |some d=>
  rw[hd] at hx;simp only[Option.map_some,Option.some.injEq] at hx;obtain⟨u,h1,h2⟩:=xS.cell j d hd
  have hjl:j<(lF r n).length:=by rw[kZ];exact(List.getElem?_eq_some_iff.1 hd).1
  obtain⟨v0,h3,_,h4⟩:=hcs.2 j (.d (lF r n)[j]) (by rw[List.getElem?_map,List.getElem?_eq_getElem hjl];rfl)
  have hv0:us0.getD j undef=v0:=by rw[List.getD_eq_getElem?_getD,h3];rfl
  simp only[hv0] at h2;refine⟨v0,h3,?_,h4⟩
  have hsc:(∀es,d≠ .sl es)->iq w' σ2 ((cB++[.xf (r.map Lp)])::Ω) ((bo++[h0])::bΩ) (.d d) v0:=fun hne=>by
   have:SD d v0:=by cases d<;>first|exact absurd rfl (hne _)|exact h2.2
   exact Qe this
  cases d with
  |sl es=>
   subst hx;obtain⟨T,rfl,_,h5,_⟩:=h2;refine⟨_,dB _ _ _,fun rs _=>⟨h0,by rw[<-hlen,dB],?_⟩⟩;unfold H9;rw[hroot,h1];exact h5
  |_=>subst hx;exact hsc (fun es e=>by cases e)
end
section
variable {P:Program} {w w':World} {σ σ':Nat->Nat} {S:Store} {β:Hs}
mutual
theorem amN{σ2:Nat->Nat}(hs:∀b c t fz,w.heap[b]? =some (.cells c t fz)->c.size<σ b->σ2 b=σ b):∀(d:D)(n:Nat)(v:Value),pq d=true->dM w σ (qL d n) v->dM w σ2 (qL d n) v
 | .sl es,n,v,hp,h=>by
   rw[qL] at h ⊢;have hrec:=afP hs es (n+1);generalize ig es (n+1)=q at h hrec ⊢
   cases h with
   |AP n a cap=>exact .AP n a cap
   |ol n b off cap z q vals c t hcap hlen hb hσ hfit hc hv hx=>exact .ol n b off cap z q vals c t hcap hlen hb ((hs b c t _ hb (by omega)).trans hσ) hfit hc (hrec vals (by simpa [pq] using hp) hv) hx
 | .ol m es,n,v,hp,h=>by simp[pq] at hp
 | .b x,n,v,hp,h=>by rw[qL] at h ⊢;cases h;constructor
 | .i k x,n,v,hp,h=>by rw[qL] at h ⊢;cases h;constructor
 | .s l,n,v,hp,h=>by rw[qL] at h ⊢;cases h;constructor
 | .o u,n,v,hp,h=>by simp[pq] at hp
theorem aiU{σ2:Nat->Nat}(hs:∀b c t fz,w.heap[b]? =some (.cells c t fz)->c.size<σ b->σ2 b=σ b):∀(r:List D)(n:Nat)(vals:Nat->Value),jq r=true->(∀(j:Nat)(d:D),(lF r n)[j]? =some d->dM w σ d (vals j))->
 ∀(j:Nat)(d:D),(lF r n)[j]? =some d->dM w σ2 d (vals j)
 |[],n,vals,hp,h,j,d,hd=>by simp[lF] at hd
 |a::r,n,vals,hp,h,j,d,hd=>by
  rw[jq,Bool.and_eq_true] at hp;rw[lF] at h hd
  cases j with
  |zero=>
   simp at hd;subst hd;exact amN hs a n _ hp.1 (h 0 _ rfl)
  |succ j=>exact aiU hs r (n+zL a) (fun i=>vals (i+1)) hp.2 (fun i d hi=>h (i+1) d hi) j d hd
theorem afP{σ2:Nat->Nat}(hs:∀b c t fz,w.heap[b]? =some (.cells c t fz)->c.size<σ b->σ2 b=σ b):∀(rs:List (List D))(n:Nat)(vals:Nat->Value),jE rs=true->(∀(j:Nat)(d:D),(ig rs n).flatten[j]? =some d->dM w σ d (vals j))->
 ∀(j:Nat)(d:D),(ig rs n).flatten[j]? =some d->dM w σ2 d (vals j)
 |[],n,vals,hp,h,j,d,hd=>by simp[ig] at hd
 |r::rs,n,vals,hp,h,j,d,hd=>by
  rw[jE,Bool.and_eq_true] at hp;rw[ig,List.flatten_cons] at h hd;by_cases hj:j<(lF r n).length
  ·rw[List.getElem?_append_left hj] at hd;exact aiU hs r n vals hp.1 (fun j d hd=>h j d (by rw[List.getElem?_append_left (List.getElem?_eq_some_iff.1 hd).1];exact hd)) j d hd
  ·rw[List.getElem?_append_right (by omega)] at hd;have:=afP hs rs (n+yu r) (fun i=>vals ((lF r n).length+i)) hp.2 (fun j d hd=>h _ d (by rw[List.getElem?_append_right (by omega),Nat.add_sub_cancel_left];exact hd)) (j-(lF r n).length) d hd
   rwa [show(lF r n).length+(j-(lF r n).length)=j by omega] at this
end
theorem pK.data{es:List (List D)}{T v:Value}(h:pK w es T)(hv:hdr T=some v)(hσ:∀b c t fz,kW T b->w.heap[b]? =some (.cells c t fz)->c.size<=σ b):dM w σ (.sl es) v:=by
 induction h generalizing v with
 |nil a cap T h hk=>rw[h] at hv;cases hv;exact .nil a cap
 |mk b off cap z es T c t vals kids hh hne hcap hlen hb hfit hc hs hk hx hself hap sV ih=>
  rw[hh] at hv;cases hv;have hpos:0<es.length:=List.length_pos_iff.2 hne;have hfl:=jI es z hlen
  have hidx:∀j,j<es.length*z->∃hi:j/z<es.length,j % z<z/\j/z*z+j % z=j:=fun j hj=>by
   have hz:0<z:=by rcases Nat.eq_zero_or_pos z with h|h;·rw[h] at hj;simp at hj
                   ·exact h
   exact⟨(Nat.div_lt_iff_lt_mul hz).2 hj,Nat.mod_lt _ hz,by rw[Nat.mul_comm];exact Nat.div_add_mod j z⟩
  have hcell:∀j d,es.flatten[j]? =some d->∃hi:j/z<es.length,cellAt es (j/z) (j % z)=some d/\j/z*z+j % z=j:=fun j d hd=>by
   have hj:j<es.length*z:=by rw[<-hfl];exact(List.getElem?_eq_some_iff.1 hd).1
   obtain⟨hi,hm,he⟩:=hidx j hj;refine⟨hi,?_,he⟩;have:=flat_get es z hlen (j/z) (j % z) hi hm;rw[he,hd] at this;unfold cellAt;rw[List.getElem?_eq_getElem hi];exact this.symm
  refine .sl b off cap z es (fun j=>vals (j/z) (j % z)) c t (0,0) hcap hlen hb (Nat.le_trans hfit (hσ b c t _ (.here hh hpos) hb)) (fun j hj=> ?_) (fun j d hd=> ?_)
  ·obtain⟨hi,hce,he⟩:=hcell j _ (List.getElem?_eq_getElem (by rw[hfl];exact hj));have:=hc _ _ _ hce
   rwa [he] at this
  ·obtain⟨hi,hce,he⟩:=hcell j d hd;rcases hs _ _ _ hce with⟨es',rfl⟩|hsd
   ·obtain⟨k1,k2⟩:=hk _ _ _ hce;exact ih _ _ _ hce k2 fun b' c' t' Vg ho hb'=>hσ b' c' t' Vg (.kid k1 ho) hb'
   ·exact Qe hsd
end
section
variable {P:Program} {w w':World} {σ σ':Nat->Nat} {S:Store} {β:Hs}
end
end Go.Ab