/-
  SEVERAL TEXTS IN ONE (merged by program): contracts and models, each with its own heading.
-/
import Derived.Test.YtfhpfkaeldgcmaaGreatPartHfbD
import Derived.Test.YtfhpfkaeldgcmaaGreatPartHfbI
open Go.Proofs Go.Proofs.Tryz
set_option linter.unusedSimpArgs false
set_option linter.unusedVariables false
set_option maxRecDepth 4000
namespace Go.Ab
def bR(s:List UInt8):au:=.mk s []
def eD(l:List au):au:=.mk [] l
def dn(l:List (List UInt8)):List au:=l.map bR
def dz:au:=.mk [] []
theorem Xy(s:List UInt8):(bR s).bK=s:=rfl
theorem Xz(s:List UInt8):(bR s).aA=[]:=rfl
theorem lI(l:List au):(eD l).bK=[]:=rfl
theorem iy(l:List au):(eD l).aA=l:=rfl
def Et:List UInt8:=[100,121,110]
def je:List UInt8:=[97,115,115,111,99]
mutual
def dR:ay->au
 | .mk k n zs=>if k=1 then bR ([39]++n) else if k=4 then eD [bR Et,bR n] else if k=2/\zs.length=0 then bR n else
   eD ((if k=3 then [bR je] else [])++[bR n]++Bf zs)
def Bf:List ay->List au
 |[]=>[]
 |t::ts=>dR t::Bf ts
end
theorem uo:∀l,Bf l=l.map dR
 |[]=>rfl
 |t::ts=>by rw[Bf,List.map_cons,uo ts]
theorem aio(x:ay):dR x=if x.aV=1 then bR ([39]++x.fName) else if x.aV=4 then eD [bR Et,bR x.fName] else if x.aV=2/\x.fArgs.length=0 then bR x.fName else
 eD ((if x.aV=3 then [bR je] else [])++[bR x.fName]++x.fArgs.map dR):=by
 cases x;rw[dR,uo];rfl
theorem wT{t:ay}(h:qZ t=true):formed t=true:=(gP h).1
theorem iX(x:au):x.sz=x.bK.length+(x.aA.length+aN (x.aA.map au.enc)):=by
 simp only[au.sz,au.aj,bD,D.sz,List.length_map];omega
def dK:List au->Nat
 |[]=>0
 |x::xs=>x.sz+dK xs
theorem kg:∀l,aN (l.map au.enc)=dK l
 |[]=>rfl
 |x::xs=>by rw[List.map_cons,aN,dK,kg xs];rfl
theorem jY:∀a b,dK (a++b)=dK a+dK b
 |[],b=>by simp[dK]
 |x::a,b=>by rw[List.cons_append,dK,dK,jY a b];omega
theorem kY{x:au}:∀{l:List au},x∈l->x.sz<=dK l
 |y::l,h=>by
  rw[dK];rcases List.mem_cons.1 h with rfl|h
  ·omega
  ·have:=kY h;omega
theorem jf(s:List UInt8):(bR s).sz=s.length:=by rw[iX];simp[bR,au.bK,au.aA,aN]
theorem jg(l:List au):(eD l).sz=l.length+dK l:=by rw[iX,kg];simp[eD,au.bK,au.aA]
theorem pJ:∀l:List (List UInt8),dK (dn l)=(l.map List.length).sum
 |[]=>rfl
 |s::l=>by rw[dn,List.map_cons,dK,jf,<-dn,pJ l,List.map_cons,List.sum_cons]
theorem kZ(l:List (List UInt8)):(dn l).length=l.length:=by simp[dn]
theorem eB:∀l:List (List UInt8),aN (l.map encS)=(l.map List.length).sum
 |[]=>rfl
 |s::l=>by rw[List.map_cons,aN,eB l,List.map_cons,List.sum_cons];simp[encS,bD,D.sz]
def oz:List ay->Nat
 |[]=>0
 |x::xs=>x.sz+oz xs
theorem x9:∀l,aN (l.map ay.enc)=oz l
 |[]=>rfl
 |x::xs=>by rw[List.map_cons,aN,oz,x9 xs];rfl
theorem uq(x:ay):x.sz=x.fName.length+(x.fArgs.length+oz x.fArgs):=by
 rw[<-x9];simp only[ay.sz,ay.aj,bD,D.sz,List.length_map];omega
mutual
theorem y9:∀x:ay,(dR x).sz<=12+16*x.sz
 | .mk k n zs=>by
   have h:=M4 zs;rw[uq];simp only[ay.fName,ay.fArgs];rw[dR];split
   ·rw[jf];simp;omega
   ·split
    ·rw[jg];simp[dK,jf,Et];omega
    ·split
     ·rw[jf];omega
     ·rw[jg,jY,jY,List.length_append,List.length_append,uo,List.length_map,<-uo];split<;>simp[dK,jf,je]<;>omega
theorem M4:∀xs:List ay,dK (Bf xs)<=12*xs.length+16*oz xs
 |[]=>by simp[Bf,dK]
 |x::xs=>by
  have h1:=y9 x;have h2:=M4 xs;rw[Bf,dK,oz,List.length_cons];omega
end
theorem K5(xs:List ay):dK (xs.map dR)<=12*xs.length+16*oz xs:=by rw[<-uo];exact M4 xs
def dD(b:UInt8):Bool:=decide (97<=b.toNat/\b.toNat<=122)||decide (48<=b.toNat/\b.toNat<=57)||decide (b∈([39,45,43,42,60,61,46]:List UInt8))
def validAtom(s:List UInt8):Bool:=s.all dD&&decide (1<=s.length/\s.length<=12)
mutual
def pK:au->Bool
 | .mk a l=>if a=[] then oC l else validAtom a&&decide (l.length=0)
def oC:List au->Bool
 |[]=>true
 |x::xs=>pK x&&oC xs
end
mutual
def lZ:au->Nat
 | .mk a l=>if a=[] then lT l+1 else 0
def lT:List au->Nat
 |[]=>0
 |x::xs=>max (lZ x) (lT xs)
end
mutual
def ji:au->Nat
 | .mk _ l=>jJ l+1
def jJ:List au->Nat
 |[]=>0
 |x::xs=>ji x+jJ xs
end
theorem adH(x:au):pK x=if x.bK=[] then oC x.aA else validAtom x.bK&&decide (x.aA.length=0):=by cases x;rw[pK];rfl
theorem aay(x:au):lZ x=if x.bK=[] then lT x.aA+1 else 0:=by cases x;rw[lZ];rfl
theorem adI(x:au):ji x=jJ x.aA+1:=by cases x;rw[ji];rfl
mutual
theorem IL:∀x:au,lZ x<=ji x
 | .mk a l=>by
   have:=Gf l;rw[lZ,ji];split<;>omega
theorem Gf:∀l:List au,lT l<=jJ l
 |[]=>by simp[lT]
 |x::xs=>by
  have h1:=IL x;have h2:=Gf xs;rw[lT,jJ];omega
end
mutual
theorem Ru:∀x:au,ji x<=x.sz+1
 | .mk a l=>by
   have:=Ob l;rw[iX,ji,kg];simp only[au.bK,au.aA];omega
theorem Ob:∀l:List au,jJ l<=l.length+dK l
 |[]=>by simp[jJ]
 |x::xs=>by
  have h1:=Ru x;have h2:=Ob xs;rw[jJ,dK,List.length_cons];omega
end
def iU(x:au):Bool:=pK x&&decide (lZ x<=14/\ji x<=900)
mutual
theorem Rv:∀x:au,pK x=true->x.sz+1<=13*ji x
 | .mk a l=>fun h=>by
   rw[pK] at h;rw[iX,ji,kg];simp only[au.bK,au.aA];split at h
   ·rename_i ha;have:=Oc l h;subst ha;simp only[List.length_nil];omega
   ·rw[Bool.and_eq_true,decide_eq_true_eq] at h;have h1:=h.1;unfold validAtom at h1;rw[Bool.and_eq_true,decide_eq_true_eq] at h1;have:l=[]:=List.eq_nil_of_length_eq_zero h.2;subst this;simp[dK];omega
theorem Oc:∀l:List au,oC l=true->l.length+dK l<=13*jJ l
 |[],_=>by simp[dK]
 |x::xs,h=>by
  rw[oC,Bool.and_eq_true] at h;have h1:=Rv x h.1;have h2:=Oc xs h.2;rw[dK,jJ,List.length_cons];omega
end
theorem BZ{x:au}(h:iU x=true):x.sz<=11700:=by
 unfold iU at h;rw[Bool.and_eq_true,decide_eq_true_eq] at h;have:=Rv x h.1;omega
def Bg(x:au):au:=if iU x=true then x else dz
def uw:Bool->au->au
 |true,x=>Bg x
 |false,_=>dz
theorem aip(x:au):(Bg x).sz<=11700:=by
 unfold Bg;split
 ·rename_i h;exact BZ h
 ·rw[iX];simp[dz,au.bK,au.aA,aN]
theorem Ib(b:Bool)(x:au):(uw b x).sz<=11700:=by
 cases b with
 |true=>exact aip x
 |false=>rw[uw,iX];simp[dz,au.bK,au.aA,aN]
theorem adJ(b:UInt8):b∈([39,45,43,42,60,61,46]:List UInt8)<->(b.toNat=39\/b.toNat=45\/b.toNat=43\/b.toNat=42\/b.toNat=60\/b.toNat=61\/b.toNat=46):=by
 have h:∀n:Nat,n<256->(UInt8.ofNat n∈([39,45,43,42,60,61,46]:List UInt8)<->(n=39\/n=45\/n=43\/n=42\/n=60\/n=61\/n=46)):=by decide +kernel
 have h1:=h b.toNat (UInt8.toNat_lt b)
 rwa [UInt8.ofNat_toNat] at h1
theorem Bh(b:UInt8):dD b=true<->(97<=b.toNat/\b.toNat<=122)\/(48<=b.toNat/\b.toNat<=57)\/b.toNat=39\/b.toNat=45\/b.toNat=43\/b.toNat=42\/b.toNat=60\/b.toNat=61\/b.toNat=46:=by
 unfold dD;rw[Bool.or_eq_true,Bool.or_eq_true,decide_eq_true_eq,decide_eq_true_eq,decide_eq_true_eq,adJ,or_assoc]
theorem all_false{s:List UInt8}{i:Nat}(hi:i<s.length)(h:dD s[i]=false):s.all dD=false:=by
 rw[List.all_eq_false];exact⟨s[i],List.getElem_mem hi,by simp[h]⟩
theorem all_true{s:List UInt8}(h:∀j (hj:j<s.length),dD s[j]=true):s.all dD=true:=by
 rw[List.all_eq_true];intro b hb;obtain⟨j,hj,e⟩:=List.getElem_of_mem hb;rw[<-e];exact h j hj
theorem M5{x:au}{i:Nat}(hi:i<x.aA.length)(h:x.sz<=67108864):x.aA[i].sz<=67108864/\x.aA.length<=67108864/\x.bK.length<=67108864:=by
 have:=kY (List.getElem_mem hi);rw[iX,kg] at h;omega
theorem Rw{x:au}(h:x.sz<=67108864):x.aA.length<=67108864/\x.bK.length<=67108864:=by
 rw[iX,kg] at h;omega
theorem Uc{l:List au}{i:Nat}(hi:i<l.length):oC (l.drop i)=(pK l[i]&&oC (l.drop (i+1))):=by rw[List.drop_eq_getElem_cons hi,oC]
theorem Rx{l:List au}{i:Nat}(hi:i<l.length):lT (l.drop i)=max (lZ l[i]) (lT (l.drop (i+1))):=by rw[List.drop_eq_getElem_cons hi,lT]
theorem Ud{l:List au}{i:Nat}(hi:i<l.length):jJ (l.drop i)=ji l[i]+jJ (l.drop (i+1)):=by rw[List.drop_eq_getElem_cons hi,jJ]
theorem adK{x:au}(h:x.sz<=67108864):ji x<=67108865:=by have:=Ru x;omega
theorem au.XA{x:au}{i:Nat}(hi:i<x.aA.length):SizeOf.sizeOf x.aA[i]<SizeOf.sizeOf x:=by
 have:=List.sizeOf_lt_of_mem (List.getElem_mem hi);have:=au.Dq x;omega
theorem Gg(b:UInt8):bg prog 236 [.c (.d (.i .u8 b.toNat))] (.c (.d (.b (dD b)))):=fun S=>by
 have yes:((97<=b.toNat/\b.toNat<=122)\/(48<=b.toNat/\b.toNat<=57)\/b.toNat=39\/b.toNat=45\/b.toNat=43\/b.toNat=42\/b.toNat=60\/b.toNat=61\/b.toNat=46)->dD b=true:=(Bh b).2
 have no:¬((97<=b.toNat/\b.toNat<=122)\/(48<=b.toNat/\b.toNat<=57)\/b.toNat=39\/b.toNat=45\/b.toNat=43\/b.toNat=42\/b.toNat=60\/b.toNat=61\/b.toNat=46)->dD b=false:=fun h=>by
  cases hb:dD b with
  |false=>rfl
  |true=>exact absurd ((Bh b).1 hb) h
 refine zcx [.tmp 2] func236 ntmps236 ?_;simp -implicitDefEqProofs (disch:=omega) only[go_sem]
 repeat' (first|(with_reducible refine aD (fun hb=> ?_) (fun hb=> ?_)<;>have h:=hb<;>(try simp only[wf_preprocess] at h)<;>simp -implicitDefEqProofs (disch:=omega) only[go_sem,hb]<;>(repeat(with_reducible refine And.intro ?_ ?_;focus first|omega|rfl|assumption|exact⟨_,rfl,rfl⟩|(simp;omega)|(simp;done)))))
 all_goals first
  |exact bN (yes (by omega)).symm
  |exact bN (no (by omega)).symm
  |(refine bN ?_;cases hb:dD b<;>simp only[decide_eq_true_eq,decide_eq_false_iff_not]<;>(first|(have:=(Bh b).1 hb;omega)|(intro q;have:=yes (by omega);rw[hb] at this;cases this)))
theorem XB(s:List UInt8)(hs:s.length<=1073741824):bg prog 247 [.c (.d (.s s))] (.c (.d (.b (validAtom s)))):=fun S=>by
 refine zcx [.tmp 2] func247 ntmps247 ?_;simp -implicitDefEqProofs (disch:=omega) only[go_sem]
 refine bO (ι:=Nat) zmx rfl [0,3] (fun i=>[.c (.d (.s s)),.c (.d (.i .i64 i))]) (fun _=>[]::S)
  (fun i=>i<=s.length/\∀j,∀hj:j<s.length,j<i->dD s[j]=true) (fun i=>s.length-i) 0 rfl rfl ⟨Nat.zero_le _,fun j _ h=>by omega⟩ ?_
 rintro i ⟨p1,p2⟩;simp -implicitDefEqProofs (disch:=omega) only[go_sem]
 with_reducible refine aD (fun hb=> ?_) (fun hb=> ?_)<;>have h:=hb<;>(try simp only[wf_preprocess] at h)<;>simp -implicitDefEqProofs (disch:=omega) only[go_sem,hb]<;>(repeat(with_reducible refine And.intro ?_ ?_;focus first|omega|rfl|assumption|exact⟨_,rfl,rfl⟩|(simp;omega)|(simp;done)))
 ·have hi:i<s.length:=by omega
  have e:s.getD i 0=s[i]:=by simp[List.getD,hi]
  (repeat(with_reducible refine And.intro ?_ ?_;focus first|omega|rfl|assumption|exact⟨_,rfl,rfl⟩|(simp;omega)|(simp;done)))
  rw[e];refine aB (Gg s[i]) ?_;simp -implicitDefEqProofs (disch:=omega) only[go_sem]<;>(repeat(with_reducible refine And.intro ?_ ?_;focus first|omega|rfl|assumption|exact⟨_,rfl,rfl⟩|(simp;omega)|(simp;done)))
  with_reducible refine aD (fun hb=> ?_) (fun hb=> ?_)<;>have h:=hb<;>(try simp only[wf_preprocess] at h)<;>simp -implicitDefEqProofs (disch:=omega) only[go_sem,hb]<;>(repeat(with_reducible refine And.intro ?_ ?_;focus first|omega|rfl|assumption|exact⟨_,rfl,rfl⟩|(simp;omega)|(simp;done)))
  ·exact bN (by unfold validAtom;rw[all_false hi h];rfl)
  ·refine cZ (i+1) (by omega) rfl rfl ⟨by omega,fun j hj hji=> ?_⟩;by_cases e':j=i
   ·subst e';exact h
   ·exact p2 j hj (by omega)
 ·have ha:=all_true (s:=s) (fun j hj=>p2 j hj (by omega));refine aB (Dv s.length 1 12) ?_;simp -implicitDefEqProofs (disch:=omega) only[go_sem]<;>(repeat(with_reducible refine And.intro ?_ ?_;focus first|omega|rfl|assumption|exact⟨_,rfl,rfl⟩|(simp;omega)|(simp;done)));refine bN ?_;unfold validAtom;rw[ha,Bool.true_and,<-rO];exact decide_eq_decide.2 (by omega)
theorem K6:∀n:Nat,∀x:au,SizeOf.sizeOf x<n->∀l:Int,0<=l->l<=1073741824->x.sz<=67108864->bg prog 237 [x.v,.c (.d (.i .i64 l))] (.c (.d (.i .i64 (mo l (ji x)))))
 |0=>fun x h=>by omega
 |n+1=>by
  have ih:=K6 n;intro x hn l h0 h1 hsz S;have hts:=Rw hsz;have hcn:=adI x;refine zcx [.tmp 4] func237 ntmps237 ?_;simp -implicitDefEqProofs (disch:=omega) only[go_sem]
  refine bO (ι:=Nat×Int) zmx rfl [1,2,5] (fun y=>[.c (.d (.i .i64 y.2)),.c (.ptr (0,0) 0),.c (.d (.i .i64 y.1))]) (fun y=>[.box [.d (.s x.bK),.d (.sl (x.aA.map au.enc))]]::S)
   (fun y=>y.1<=x.aA.length/\ -1<=y.2/\y.2<=1073741824/\(0<=y.2->mo l (ji x)=mo y.2 (jJ (x.aA.drop y.1)))/\(y.2<0->mo l (ji x)= -1)) (fun y=>x.aA.length-y.1) (0,l-1) rfl rfl ⟨Nat.zero_le _,by simp only;omega,by simp only;omega,fun h=> ?_,fun h=> ?_⟩ ?_
  ·simp only[List.drop_zero] at h ⊢;unfold mo;rw[hcn];split<;>split<;>omega
  ·simp only at h;exact HY (by omega)
  rintro⟨i,c⟩ ⟨p1,p2,p3,p4,p5⟩;simp only at p1 p2 p3 p4 p5;simp -implicitDefEqProofs (disch:=omega) only[go_sem]
  with_reducible refine aD (fun hb=> ?_) (fun hb=> ?_)<;>have h:=hb<;>(try simp only[wf_preprocess] at h)<;>simp -implicitDefEqProofs (disch:=omega) only[go_sem,hb]<;>(repeat(with_reducible refine And.intro ?_ ?_;focus first|omega|rfl|assumption|exact⟨_,rfl,rfl⟩|(simp;omega)|(simp;done)))
  ·have hi:i<x.aA.length:=by omega
   with_reducible refine aD (fun hb=> ?_) (fun hb=> ?_)<;>have h:=hb<;>(try simp only[wf_preprocess] at h)<;>simp -implicitDefEqProofs (disch:=omega) only[go_sem,hb]<;>(repeat(with_reducible refine And.intro ?_ ?_;focus first|omega|rfl|assumption|exact⟨_,rfl,rfl⟩|(simp;omega)|(simp;done)))
   ·have hsz':=M5 hi hsz;have p6:=p4 h;rw[Ud hi] at p6
    (repeat(with_reducible refine And.intro ?_ ?_;focus first|omega|rfl|assumption|exact⟨_,rfl,rfl⟩|(simp;omega)|(simp;done)))
    refine aB (ih x.aA[i] (by have:=au.XA hi;omega) c (by omega) (by omega) (by omega)) ?_;simp -implicitDefEqProofs (disch:=omega) only[go_sem]<;>(repeat(with_reducible refine And.intro ?_ ?_;focus first|omega|rfl|assumption|exact⟨_,rfl,rfl⟩|(simp;omega)|(simp;done)));refine cZ (i+1,mo c _) (by simp only;omega) rfl rfl ⟨by simp only;omega,?_,?_,fun h=> ?_,fun h=> ?_⟩
    ·simp only;unfold mo;split<;>omega
    ·simp only;unfold mo;split<;>omega
    ·simp only at h ⊢;rw[p6];have:=HV (l:=c) (a:=ji x.aA[i]) (by omega);rw[this.1];unfold mo;split<;>split<;>omega
    ·simp only at h ⊢;rw[p6];have:=En h;exact HY (by omega)
   ·have hc:c= -1:=by omega
    rw[p5 (by omega),hc]
  ·have hi:i=x.aA.length:=by omega
   by_cases hc:0<=c
   ·rw[p4 hc,hi,List.drop_length,jJ,Rc (by omega)];exact int_eq (by simp)
   ·rw[p5 (by omega)];exact int_eq (by omega)
theorem aaz(x:au)(l:Int)(h0:0<=l)(h1:l<=1073741824)(hsz:x.sz<=67108864):bg prog 237 [x.v,.c (.d (.i .i64 l))] (.c (.d (.i .i64 (mo l (ji x))))):=K6 _ x (Nat.lt_succ_self _) l h0 h1 hsz
theorem K7:∀n:Nat,∀x:au,SizeOf.sizeOf x<n->x.sz<=67108864->bg prog 238 [x.v] (.c (.d (.b (pK x))))
 |0=>fun x h=>by omega
 |n+1=>by
  have ih:=K7 n;intro x hn hsz S;have hts:=Rw hsz;have hf:=adH x;refine zcx [.tmp 2] func238 ntmps238 ?_;simp -implicitDefEqProofs (disch:=omega) only[go_sem]
  with_reducible refine aD (fun hb=> ?_) (fun hb=> ?_)<;>have h:=hb<;>(try simp only[wf_preprocess] at h)<;>simp -implicitDefEqProofs (disch:=omega) only[go_sem,hb]<;>(repeat(with_reducible refine And.intro ?_ ?_;focus first|omega|rfl|assumption|exact⟨_,rfl,rfl⟩|(simp;omega)|(simp;done)))
  ·rw[if_neg h] at hf;refine aB (XB x.bK (by omega)) ?_;simp -implicitDefEqProofs (disch:=omega) only[go_sem]<;>(repeat(with_reducible refine And.intro ?_ ?_;focus first|omega|rfl|assumption|exact⟨_,rfl,rfl⟩|(simp;omega)|(simp;done)))
   with_reducible refine aD (fun hb=> ?_) (fun hb=> ?_)<;>have h:=hb<;>(try simp only[wf_preprocess] at h)<;>simp -implicitDefEqProofs (disch:=omega) only[go_sem,hb]<;>(repeat(with_reducible refine And.intro ?_ ?_;focus first|omega|rfl|assumption|exact⟨_,rfl,rfl⟩|(simp;omega)|(simp;done)))
   ·rw[hf,h,Bool.true_and];exact bN (decide_eq_decide.2 (by omega))
   ·rw[hf,h,Bool.false_and]
  rw[if_pos h] at hf
  refine bO (ι:=Nat) zmx rfl [1,3] (fun y=>[.c (.ptr (0,0) 0),.c (.d (.i .i64 y))]) (fun y=>[.box [.d (.s x.bK),.d (.sl (x.aA.map au.enc))]]::S)
   (fun y=>y<=x.aA.length/\pK x=oC (x.aA.drop y)) (fun y=>x.aA.length-y) 0 rfl rfl ⟨Nat.zero_le _,hf⟩ ?_
  rintro i ⟨p1,p2⟩;simp -implicitDefEqProofs (disch:=omega) only[go_sem]
  with_reducible refine aD (fun hb=> ?_) (fun hb=> ?_)<;>have h:=hb<;>(try simp only[wf_preprocess] at h)<;>simp -implicitDefEqProofs (disch:=omega) only[go_sem,hb]<;>(repeat(with_reducible refine And.intro ?_ ?_;focus first|omega|rfl|assumption|exact⟨_,rfl,rfl⟩|(simp;omega)|(simp;done)))
  ·have hi:i<x.aA.length:=by omega
   have hsz':=M5 hi hsz;rw[Uc hi] at p2
   (repeat(with_reducible refine And.intro ?_ ?_;focus first|omega|rfl|assumption|exact⟨_,rfl,rfl⟩|(simp;omega)|(simp;done)))
   refine aB (ih x.aA[i] (by have:=au.XA hi;omega) (by omega)) ?_;simp -implicitDefEqProofs (disch:=omega) only[go_sem]<;>(repeat(with_reducible refine And.intro ?_ ?_;focus first|omega|rfl|assumption|exact⟨_,rfl,rfl⟩|(simp;omega)|(simp;done)))
   with_reducible refine aD (fun hb=> ?_) (fun hb=> ?_)<;>have h:=hb<;>(try simp only[wf_preprocess] at h)<;>simp -implicitDefEqProofs (disch:=omega) only[go_sem,hb]<;>(repeat(with_reducible refine And.intro ?_ ?_;focus first|omega|rfl|assumption|exact⟨_,rfl,rfl⟩|(simp;omega)|(simp;done)))
   ·rw[p2,h,Bool.false_and]
   ·exact cZ (i+1) (by omega) rfl rfl ⟨by omega,by rw[p2,h,Bool.true_and]⟩
  ·have hi:i=x.aA.length:=by omega
   rw[hi,List.drop_length,oC] at p2;rw[p2]
theorem aaA(x:au)(hsz:x.sz<=67108864):bg prog 238 [x.v] (.c (.d (.b (pK x)))):=K7 _ x (Nat.lt_succ_self _) hsz
theorem Dy:∀n:Nat,∀x:au,SizeOf.sizeOf x<n->x.sz<=67108864->bg prog 239 [x.v] (.c (.d (.i .i64 (lZ x))))
 |0=>fun x h=>by omega
 |n+1=>by
  have ih:=Dy n;intro x hn hsz S;have hts:=Rw hsz;have hd:=aay x;have hd1:=IL x;have hd2:=adK hsz;refine zcx [.tmp 2] func239 ntmps239 ?_;simp -implicitDefEqProofs (disch:=omega) only[go_sem]
  with_reducible refine aD (fun hb=> ?_) (fun hb=> ?_)<;>have h:=hb<;>(try simp only[wf_preprocess] at h)<;>simp -implicitDefEqProofs (disch:=omega) only[go_sem,hb]<;>(repeat(with_reducible refine And.intro ?_ ?_;focus first|omega|rfl|assumption|exact⟨_,rfl,rfl⟩|(simp;omega)|(simp;done)))
  ·rw[if_neg h] at hd;rw[hd];rfl
  rw[if_pos h] at hd
  refine bO (ι:=Nat×Nat) zmx rfl [1,3,4] (fun y=>[.c (.ptr (0,0) 0),.c (.d (.i .i64 y.2)),.c (.d (.i .i64 y.1))]) (fun y=>[.box [.d (.s x.bK),.d (.sl (x.aA.map au.enc))]]::S)
   (fun y=>y.1<=x.aA.length/\lZ x=max y.2 (lT (x.aA.drop y.1))+1) (fun y=>x.aA.length-y.1) (0,0) rfl rfl ⟨Nat.zero_le _,by simp[hd]⟩ ?_
  rintro⟨i,c⟩ ⟨p1,p2⟩;simp only at p1 p2;simp -implicitDefEqProofs (disch:=omega) only[go_sem]
  with_reducible refine aD (fun hb=> ?_) (fun hb=> ?_)<;>have h:=hb<;>(try simp only[wf_preprocess] at h)<;>simp -implicitDefEqProofs (disch:=omega) only[go_sem,hb]<;>(repeat(with_reducible refine And.intro ?_ ?_;focus first|omega|rfl|assumption|exact⟨_,rfl,rfl⟩|(simp;omega)|(simp;done)))
  ·have hi:i<x.aA.length:=by omega
   have hsz':=M5 hi hsz;rw[Rx hi] at p2
   (repeat(with_reducible refine And.intro ?_ ?_;focus first|omega|rfl|assumption|exact⟨_,rfl,rfl⟩|(simp;omega)|(simp;done)))
   refine aB (ih x.aA[i] (by have:=au.XA hi;omega) (by omega)) ?_;simp -implicitDefEqProofs (disch:=omega) only[go_sem]<;>(repeat(with_reducible refine And.intro ?_ ?_;focus first|omega|rfl|assumption|exact⟨_,rfl,rfl⟩|(simp;omega)|(simp;done)));refine aB (Rp _ _) ?_;simp -implicitDefEqProofs (disch:=omega) only[go_sem]<;>(repeat(with_reducible refine And.intro ?_ ?_;focus first|omega|rfl|assumption|exact⟨_,rfl,rfl⟩|(simp;omega)|(simp;done)));rw[show max (c:Int) ((lZ x.aA[i]:Int))=((max c (lZ x.aA[i]):Nat):Int) by omega];exact cZ (i+1,max c (lZ x.aA[i])) (by simp only;omega) rfl rfl ⟨by simp only;omega,by simp only;omega⟩
  ·have hi:i=x.aA.length:=by omega
   rw[hi,List.drop_length,lT] at p2
   (repeat(with_reducible refine And.intro ?_ ?_;focus first|omega|rfl|assumption|exact⟨_,rfl,rfl⟩|(simp;omega)|(simp;done)))
   exact int_eq (by omega)
theorem Pb(x:au)(hsz:x.sz<=67108864):bg prog 239 [x.v] (.c (.d (.i .i64 (lZ x)))):=Dy _ x (Nat.lt_succ_self _) hsz
theorem lU(x:au)(hsz:x.sz<=67108864):bg prog 218 [x.v] (.c (.d (.b (iU x)))):=fun S=>by
 refine zcx [.tmp 2] func218 ntmps218 ?_;simp -implicitDefEqProofs (disch:=omega) only[go_sem];refine aB (aaz x 900 (by omega) (by omega) hsz) ?_;simp -implicitDefEqProofs (disch:=omega) only[go_sem]<;>(repeat(with_reducible refine And.intro ?_ ?_;focus first|omega|rfl|assumption|exact⟨_,rfl,rfl⟩|(simp;omega)|(simp;done)))
 with_reducible refine aD (fun hb=> ?_) (fun hb=> ?_)<;>have h:=hb<;>(try simp only[wf_preprocess] at h)<;>simp -implicitDefEqProofs (disch:=omega) only[go_sem,hb]<;>(repeat(with_reducible refine And.intro ?_ ?_;focus first|omega|rfl|assumption|exact⟨_,rfl,rfl⟩|(simp;omega)|(simp;done)))
 ·have h1:=(HV (l:=900) (a:=ji x) (by omega)).2;refine aB (aaA x hsz) ?_;simp -implicitDefEqProofs (disch:=omega) only[go_sem]<;>(repeat(with_reducible refine And.intro ?_ ?_;focus first|omega|rfl|assumption|exact⟨_,rfl,rfl⟩|(simp;omega)|(simp;done)))
  with_reducible refine aD (fun hb=> ?_) (fun hb=> ?_)<;>have h:=hb<;>(try simp only[wf_preprocess] at h)<;>simp -implicitDefEqProofs (disch:=omega) only[go_sem,hb]<;>(repeat(with_reducible refine And.intro ?_ ?_;focus first|omega|rfl|assumption|exact⟨_,rfl,rfl⟩|(simp;omega)|(simp;done)))
  ·have hf:=h;refine aB (Pb x hsz) ?_;simp -implicitDefEqProofs (disch:=omega) only[go_sem]<;>(repeat(with_reducible refine And.intro ?_ ?_;focus first|omega|rfl|assumption|exact⟨_,rfl,rfl⟩|(simp;omega)|(simp;done)));refine bN ?_;unfold iU;rw[hf,Bool.true_and];exact decide_eq_decide.2 (by omega)
  ·refine bN ?_;unfold iU;rw[h,Bool.false_and]
 ·have h1:=En (l:=900) (a:=ji x) (by omega);refine bN ?_;unfold iU;rw[decide_eq_false (by omega),Bool.and_false]
mutual
def oD:D->Nat
 | .sl es=>gQ es+1
 | .ol _ _=>0
 | .b _=>0
 | .i _ _=>0
 | .s _=>0
 | .o _=>0
def uy:List D->Nat
 |[]=>0
 |d::ds=>oD d+uy ds
def gQ:List (List D)->Nat
 |[]=>0
 |r::rs=>uy r+gQ rs
end
mutual
def jo:D->Nat->D
 | .sl es,n=>.ol n (eU es (n+1))
 | .ol m es,_=>.ol m es
 | .b x,_=>.b x
 | .i k x,_=>.i k x
 | .s l,_=>.s l
 | .o v,_=>.o v
def fF:List D->Nat->List D
 |[],_=>[]
 |d::ds,n=>jo d n::fF ds (n+oD d)
def eU:List (List D)->Nat->List (List D)
 |[],_=>[]
 |r::rs,n=>fF r n::eU rs (n+uy r)
end
mutual
def oO:D->Bool
 | .sl es=>jM es
 | .ol _ _=>false
 | .b _=>true
 | .i _ _=>true
 | .s _=>true
 | .o _=>false
def jC:List D->Bool
 |[]=>true
 |d::ds=>oO d&&jC ds
def jM:List (List D)->Bool
 |[]=>true
 |r::rs=>jC r&&jM rs
end
theorem jw:∀r n,(fF r n).length=r.length
 |[],_=>rfl
 |d::ds,n=>by rw[fF,List.length_cons,jw ds,List.length_cons]
theorem mW:∀rs n,(eU rs n).length=rs.length
 |[],_=>rfl
 |r::rs,n=>by rw[eU,List.length_cons,mW rs,List.length_cons]
theorem iA:∀a b,jC (a++b)=(jC a&&jC b)
 |[],b=>by simp[jC]
 |d::ds,b=>by rw[List.cons_append,jC,jC,iA ds b,Bool.and_assoc]
theorem kS{α:Type}{f:α->List D}:∀{xs:List α},(∀x∈xs,jC (f x)=true)->jM (xs.map f)=true
 |[],_=>rfl
 |x::xs,h=>by
  rw[List.map_cons,jM,h x (by simp),kS fun y hy=>h y (by simp[hy])];rfl
section
variable {P:Program} {w:World} {σ σ':Nat->Nat} {S:Store} {β:Hs} {N:Nat} {s:St}
mutual
theorem aiq:∀(d:D)(n:Nat)(v:Value),dN w σ (jo d n) v->dN w σ d v
 | .sl es,n,v,h=>by
   rw[jo] at h;have hl:=mW es (n+1);have hrec:=afk es (n+1);generalize eU es (n+1)=q at h hl hrec
   cases h with
   |xO n a cap=>
    have:es=[]:=List.eq_nil_of_length_eq_zero (by simpa using hl.symm);subst this;exact .nil a cap
   |ol n b off cap bB q vals c t hcap hlen hb hσ hfit hc hv hx=>
    obtain⟨r1,r2⟩:=hrec vals hv;rw[hl] at hcap hfit hc ⊢;refine .sl b off cap bB es vals c t (0,0) hcap (fun e he=> ?_) hb (by omega) hc r2;obtain⟨e',h1,h2⟩:=r1 e he;rw[<-h2];exact hlen e' h1
 | .ol m es,n,v,h=>h
 | .b x,n,v,h=>h
 | .i k x,n,v,h=>h
 | .s l,n,v,h=>h
 | .o u,n,v,h=>h
theorem air:∀(r:List D)(n:Nat)(vals:Nat->Value),(∀j d,(fF r n)[j]? =some d->dN w σ d (vals j))->∀(j:Nat) d,r[j]? =some d->dN w σ d (vals j)
 |[],n,vals,h,j,d,hd=>by simp at hd
 |a::r,n,vals,h,j,d,hd=>by
  cases j with
  |zero=>
   simp at hd;subst hd;exact aiq a n _ (h 0 _ rfl)
  |succ j=>exact air r (n+oD a) (fun i=>vals (i+1)) (fun i d hi=>h (i+1) d (by rw[fF];exact hi)) j d hd
theorem afk:∀(rs:List (List D))(n:Nat)(vals:Nat->Value),(∀j d,(eU rs n).flatten[j]? =some d->dN w σ d (vals j))->
 (∀e∈rs,∃e'∈eU rs n,e'.length=e.length)/\∀(j:Nat) d,rs.flatten[j]? =some d->dN w σ d (vals j)
 |[],n,vals,h=>⟨fun e he=>(by cases he),fun j d hd=>(by simp at hd)⟩
 |r::rs,n,vals,h=>by
  rw[eU,List.flatten_cons] at h;have h1:=air r n vals fun j d hd=>h j d (by rw[List.getElem?_append_left (List.getElem?_eq_some_iff.1 hd).1];exact hd);obtain⟨h2,h3⟩:=afk rs (n+uy r) (fun i=>vals (r.length+i)) fun j d hd=>h (r.length+j) d (by rw[List.getElem?_append_right (by rw[jw];omega),jw,Nat.add_sub_cancel_left];exact hd);refine⟨fun e he=> ?_,fun j d hd=> ?_⟩
  ·rcases List.mem_cons.1 he with e1|he
   ·subst e1;exact⟨_,by rw[eU];exact List.mem_cons_self ..,jw _ _⟩
   ·obtain⟨e',q1,q2⟩:=h2 e he;exact⟨e',by rw[eU];exact List.mem_cons_of_mem _ q1,q2⟩
  ·rw[List.flatten_cons] at hd;by_cases hj:j<r.length
   ·rw[List.getElem?_append_left hj] at hd;exact h1 j d hd
   ·rw[List.getElem?_append_right (by omega)] at hd;have:=h3 (j-r.length) d hd
    rwa [show r.length+(j-r.length)=j by omega] at this
end
theorem adL{r:List D}{n:Nat}:Less (.agg ((fF r n).map .d)) (.agg (r.map .d)):=by
 rintro w σ S β v ⟨a,ha,hl,hc⟩;rw[List.length_map,jw] at hl;refine⟨a,ha,by rw[List.length_map];exact hl,?_⟩
 have key:∀(r:List D)(n:Nat)(vs:List Value),(∀(j:Nat)(x:C),((fF r n).map C.d)[j]? =some x->∃v:Value,vs[j]? =some v/\gJ w σ S β x v/\v.oneCell'=true)->
  ∀(j:Nat)(x:C),(r.map C.d)[j]? =some x->∃v:Value,vs[j]? =some v/\gJ w σ S β x v/\v.oneCell'=true:=by
  intro r
  induction r with
  |nil=>intro n vs h j x hx;simp at hx
  |cons d ds ih=>
   intro n vs h j x hx
   cases j with
   |zero=>
    simp at hx;subst hx;obtain⟨v,h1,h2,h3⟩:=h 0 (.d (jo d n)) rfl;exact⟨v,h1,aiq d n v h2,h3⟩
   |succ j=>
    have:=ih (n+oD d) vs.tail (fun i y hy=>by
     obtain⟨v,h1,h2⟩:=h (i+1) y (by rw[fF,List.map_cons];exact hy);refine⟨v,?_,h2⟩
     cases vs with
     |nil=>simp at h1
     |cons a b=>exact h1) j x hx
    obtain⟨v,h1,h2⟩:=this;refine⟨v,?_,h2⟩
    cases vs with
    |nil=>simp at h1
    |cons a b=>exact h1
 exact key r n _ hc
theorem Od{r:List D}{n:Nat}{w:World}{σ:Nat->Nat}{S:Store}{β:Hs}{vs:List Value}(h:fD w σ S β ((fF r n).map .d) vs):fD w σ S β (r.map .d) vs:=by
 obtain⟨a,ha,hc⟩:=adL w σ S β (.agg vs.toArray) ⟨vs.toArray,rfl,by simpa using h⟩;cases ha;simpa using hc
inductive uz:List V->List V->Prop
 |nil:uz [] []
 |cons {x y:V} {xs ys:List V}:Less x y->uz xs ys->uz (x::xs) (y::ys)
theorem uz.length:∀{xs ys:List V},uz xs ys->xs.length=ys.length
 |_,_,.nil=>rfl
 |_,_,.cons _ h=>by rw[List.length_cons,List.length_cons,uz.length h]
theorem uz.at:∀{xs ys:List V},uz xs ys->∀(j:Nat)(x y:V),xs[j]? =some x->ys[j]? =some y->Less x y
 |_,_,.nil,j,x,y,h,_=>by simp at h
 |_,_,.cons a h,0,x,y,h1,h2=>by simp at h1 h2;subst h1;subst h2;exact a
 |_,_,.cons a h,j+1,x,y,h1,h2=>uz.at h j x y (by simpa using h1) (by simpa using h2)
theorem bg.args{f:FuncId}{args args':List V}{r:V}(h:bg P f args' r)(hl:uz args args'):bg P f args r:=fun S=>(h S).weaken hl.length fun j x y hx hy w σ β v hr=>hl.at j x y hx hy w σ S β v hr
def adM(row:Bool)(j n:Nat)(es:List (List D))(tm:List (Nat×V)):List (Nat×V):=tm.map fun x=>(x.1,x.2.kE (C.lab row j n es))
theorem aaB{row:Bool}{j n:Nat}{es:List (List D)}{tm:List (Nat×V)}{t:Nat}:look (adM row j n es tm) t=(look tm t).kE (C.lab row j n es):=Ej (f:=V.kE (C.lab row j n es)) rfl tm t
def XC(j n:Nat)(tm:List (Nat×V))(own:List Obj)(Ω:Store):Option Obj->St
 |some (.eP _ es)=>⟨adM true j n es tm,(own.map (Obj.kE (C.lab true j n es))).set j .dead::Ω⟩
 |some (.jm m _ es)=>⟨adM false j m es tm,(own.map (Obj.kE (C.lab false j m es))).set j .dead::Ω⟩
 |_=>⟨tm,own::Ω⟩
def PD(j n:Nat)(s:St):St:=
 match s.st with
 |own::Ω=>XC j n s.tm own Ω (own[j]?)
 |[]=>s
def K8:Nat->Nat->St->St
 |0,_,s=>s
 |k+1,n,s=>K8 k n (PD k n s)
def Dz(n:Nat)(s:St):St:=
 match s.st with
 |own::_=>K8 own.length n s
 |[]=>s
theorem Ue(j n:Nat)(s:St):gN N s (PD j n s):=by
 obtain⟨tm,st⟩:=s
 cases st with
 |nil=>exact gN.refl _ _
 |cons own Ω=>
  show gN N ⟨tm,own::Ω⟩ (XC j n tm own Ω (own[j]?))
  cases ho:own[j]? with
  |none=>exact gN.refl _ _
  |some o=>
   cases o with
   |eP z es=>exact fun a w σ β hR=>U2 j n z es true ho hR
   |jm m z es=>exact fun a w σ β hR=>U2 j m z es false ho hR
   |_=>exact gN.refl _ _
theorem IQ:∀(k n:Nat)(s:St),gN N s (K8 k n s)
 |0,n,s=>gN.refl _ _
 |k+1,n,s=>(Ue k n s).trans (IQ k n _)
theorem Gh(n:Nat)(s:St):gN N s (Dz n s):=by
 unfold Dz;split
 ·exact IQ _ _ _
 ·exact gN.refl _ _
theorem adN{j n:Nat}{tm:List (Nat×V)}{own:List Obj}{Ω:Store}:PD j n ⟨tm,own::Ω⟩=XC j n tm own Ω (own[j]?):=rfl
theorem aaC{n:Nat}{tm:List (Nat×V)}{own:List Obj}{Ω:Store}:Dz n ⟨tm,own::Ω⟩=K8 own.length n ⟨tm,own::Ω⟩:=rfl
def XD(P:Program)(n:Nat)(rs:List ResultVar)(post:V->Store->Prop)(e:Exit)(s:St):Prop:=abR P rs post e (Dz n s)
theorem adO{n:Nat}{rs:List ResultVar}{post:V->Store->Prop}:XD P n rs post .ret s=Q7 P rs post (Dz n s):=rfl
theorem Uf{n:Nat}{rs:List ResultVar}{post:V->Store->Prop}:XD P n rs post .normal s=Q7 P rs post (Dz n s):=rfl
theorem Gi(n:Nat){f:FuncId}{fn:Func}{c:Code}{args:List V}{post:V->Store->Prop}{rs:List ResultVar}(fu:P.follows .mixedOrders=true)(hf:P.funcs[f]? =some fn)(hN:fn.ntmps=N)
 (hb:fn.body=some c) (hn:(fn.name== "runtime.NumGoroutine")=false) (hr:fn.results.toList=rs) (hl:Nat.ble args.length N=true) (hok:codeOk N c=true)
 (h:CW P N c (XD P n rs post) ⟨kM (args.map (V.up 1)) 0,[.seed n]::S⟩):cB P f args S post:=by
 subst hN;subst hr;exact qm hf hb hn (Nat.le_of_ble_eq_true hl) (U1 n (AU (Gh n) (jG fu c _ _ hok h)))
theorem adP{row:Bool}{j n l i:Nat}{es es':List (List D)}:C.lab row j n es (.bS (1+l,i) es')=.bS (1+l,i) es':=by rw[Nat.add_comm];rfl
theorem adQ{row:Bool}{j n i:Nat}{es es':List (List D)}:C.lab row j n es (.bS (0,i) es')=if i=j/\row=false/\es'.length=es.length then .d (.ol n es) else .bS (0,i) es':=rfl
theorem adR{row:Bool}{j n l i:Nat}{es:List (List D)}:C.lab row j n es (.iJ (1+l,i))=.iJ (1+l,i):=by rw[Nat.add_comm];rfl
theorem adS{row:Bool}{j n i:Nat}{es:List (List D)}:C.lab row j n es (.iJ (0,i))=if i=j/\row=true then .d (.ol n es) else .iJ (0,i):=rfl
theorem akD{row:Bool}{j n:Nat}{es:List (List D)}{x:D}:C.lab row j n es (.d x)=.d x:=rfl
theorem agG{row:Bool}{j n:Nat}{es:List (List D)}:C.lab row j n es .any=.any:=rfl
theorem agH{row:Bool}{j n:Nat}{es es':List (List D)}:C.lab row j n es (.bI es')=.bI es':=rfl
theorem agI{row:Bool}{j n m:Nat}{es es':List (List D)}:C.lab row j n es (.nG m es')=.nG m es':=rfl
theorem agJ{row:Bool}{j n off:Nat}{es:List (List D)}{k:Key}:C.lab row j n es (.ptr k off)=.ptr k off:=rfl
theorem ais{row:Bool}{j n f:Nat}{es:List (List D)}{caps:List (Key×Nat)}:C.lab row j n es (.fn f caps)=.fn f caps:=rfl
theorem adT{row:Bool}{j n:Nat}{es:List (List D)}{cs:List D}:C.lab row j n es (.lu cs)=.lu cs:=rfl
theorem adU{ι:Type}{ts:List Nat}{f:ι->List V}{g:ι->Store}{p:ι->Prop}{μ:ι->Nat}{i:ι}{tm:List (Nat×V)}{own:List Obj}{Ω:Store}{m:Nat}(m' n:Nat)(hnd:ts.Nodup)(j:ι)(h1:μ j<μ i)(h2:ts.map (look tm)=f j)(h3:(Obj.seed m'::own.take n)::Ω=g j)
 (hr:oo (n+1) (jQ ts (f j))=true)(ho:(own.take n).all (Obj.refs (n+1))=true)(h4:p j):Inv N ts f g p μ i ⟨tm,(.seed m::own)::Ω⟩:=by
 refine⟨j,⟨jQ ts (f j),(.seed m'::own.take n)::Ω⟩,h1,?_,?_,h3,h4⟩
 ·have hg:gN N ⟨tm,(.seed m::own)::Ω⟩ ⟨jQ ts (f j),(.seed m::own)::Ω⟩:=by
   rw[<-h2];exact Jr fun t=>vJ _ ts t
  refine hg.trans ((KA (n+1) hr ?_).trans (FZ m'));rw[List.take_succ_cons,List.all_cons,ho];rfl
 ·exact AX ts (f j) hnd (by rw[<-h2];simp)
end
attribute [go_sem ↓] adO Uf aaC
attribute [go_sem] K8 adN XC aaB V.kE Obj.kE adP adQ adR adS akD agG agH agI agJ ais adT
section
variable {P:Program} {w w':World} {σ σ':Nat->Nat} {S:Store} {β:Hs}
def qL(w:World)(σ:Nat->Nat)(lo hi b:Nat):Prop:=∃c t fz m,w.heap[b]? =some (.cells c t fz)/\σ b=c.size+1+m/\lo<=m/\m<hi
theorem qL.mono{lo hi lo' hi' b:Nat}(h:qL w σ lo hi b)(h1:lo'<=lo)(h2:hi<=hi'):qL w σ lo' hi' b:=by
 obtain⟨c,t,fz,m,a1,a2,a3,a4⟩:=h;exact⟨c,t,fz,m,a1,a2,by omega,by omega⟩
theorem qL.apart{lo hi lo' hi' b:Nat}(h:qL w σ lo hi b)(h':qL w σ lo' hi' b)(ho:hi<=lo'):False:=by
 obtain⟨c,t,fz,m,a1,a2,a3,a4⟩:=h;obtain⟨c',t',Qj,m',b1,b2,b3,b4⟩:=h';rw[a1] at b1;cases b1;omega
abbrev Kids:=List (List (Option Value))
def lW(rows:Kids)(i o:Nat):Option Value:=((rows[i]?).bind fun r=>r[o]?).bind id
def afl(rows:Kids):Array Value:=(rows.map fun r=>Value.tuple (r.map fun u=>u.getD (.bool false)).toArray).toArray
def mkT(v:Value)(rows:Kids):Value:=.tuple #[v,.tuple (afl rows)]
theorem U9{v:Value}{rows:Kids}:hdr (mkT v rows)=some v:=rfl
def IsT(v:Value):Prop:=∃a,v=.tuple a
theorem M6{v:Value}{rows:Kids}(h:∀i o u,lW rows i o=some u->IsT u)(i o:Nat):kid (mkT v rows) i o=lW rows i o:=by
 have h':=h i o
 unfold kid mkT afl lW at *
 simp only[List.getElem?_toArray,List.getElem?_cons_succ,List.getElem?_cons_zero,List.getElem?_map]
 cases hr:rows[i]? with
 |none=>rfl
 |some r=>
  rw[hr] at h';simp only[Option.map_some,List.getElem?_toArray,List.getElem?_map]
  cases hu:r[o]? with
  |none=>simp[hu]
  |some u=>
   simp only[Option.bind_some,hu,id] at h'
   cases u with
   |none=>simp[hu]
   |some u=>
    obtain⟨a,rfl⟩:=h' u rfl;simp[hu]
def PE(w:World)(d:D)(v:Value)(u:Option Value):Prop:=
 match d with
 | .sl es=>∃T,u=some T/\IsT T/\hdr T=some v/\pq w es T
 |d=>u=none/\SD d v
theorem Ry{z:Nat}:∀{rs:List (List D)}{n:Nat},(∀r∈eU rs n,r.length=z)->∀r∈rs,r.length=z
 |[],_,_,r,h=>by cases h
 |a::rs,n,ha,r,h=>by
  rw[eU] at ha;rcases List.mem_cons.1 h with e|h
  ·subst e;rw[<-jw r n];exact ha _ (by simp)
  ·exact Ry (n:=n+uy a) (fun r hr=>ha r (by simp[hr])) r h
structure amv(w:World)(σ:Nat->Nat)(r:List D)(n m:Nat)(vals:Nat->Value)(us:List (Option Value)):Prop where
 len:us.length=r.length
 cell:∀(j:Nat)(d:D),r[j]? =some d->∃u,us[j]? =some u/\PE w d (vals j) u
 own:∀(j:Nat)(u:Value),us[j]? =some (some u)->∀b,lC u b->qL w σ n m b
 apart:∀(j j':Nat)(u u':Value)(b:Nat),j≠j'->us[j]? =some (some u)->us[j']? =some (some u')->lC u b->lC u' b->False
structure akE(w:World)(σ:Nat->Nat)(z:Nat)(rs:List (List D))(n m:Nat)(vals:Nat->Value)(U:Kids):Prop where
 cell:∀(i o:Nat)(d:D),cellAt rs i o=some d->∃u,((U[i]?).bind fun r=>r[o]?)=some u/\PE w d (vals (i*z+o)) u
 kid:∀(i o:Nat)(u:Value),lW U i o=some u->∃es,cellAt rs i o=some (.sl es)
 own:∀(i o:Nat)(u:Value),lW U i o=some u->∀b,lC u b->qL w σ n m b
 apart:∀(i o i' o':Nat)(u u':Value)(b:Nat),(i,o)≠(i',o')->lW U i o=some u->lW U i' o'=some u'->lC u b->lC u' b->False
theorem wU{us:List (Option Value)}{U:Kids}{o:Nat}{u:Value}:lW (us::U) 0 o=some u<->us[o]? =some (some u):=by
 show(us[o]?).bind id=some u<->_
 cases us[o]? with
 |none=>simp
 |some x=>simp
mutual
theorem akF:∀(d:D)(n:Nat)(v:Value),oO d=true->dN w σ (jo d n) v->∃u,PE w d v u/\∀T,u=some T->∀b,lC T b->qL w σ n (n+oD d) b
 | .sl es,n,v,hp,h=>by
   rw[jo] at h;have hl:=mW es (n+1);have hrec:=aaD es (n+1);have hrow:=fun z=>Ry (z:=z) (rs:=es) (n:=n+1);generalize eU es (n+1)=q at h hl hrec hrow
   have hempty:∀a cap,es=[]->v=.slice a 0 cap->∃u,PE w (.sl es) v u/\∀T,u=some T->∀b,lC T b->qL w σ n (n+oD (.sl es)) b:=by
    rintro a cap rfl rfl
    have hk:∀i o,kid (mkT (.slice a 0 cap) []) i o=none:=fun i o=>by rw[M6 (fun i o u h=>by simp[lW] at h)];simp[lW]
    refine⟨some (mkT (.slice a 0 cap) []),⟨_,rfl,⟨_,rfl⟩,rfl,.nil a cap _ rfl hk⟩,fun T hT b hb=> ?_⟩;cases hT;exfalso
    cases hb with
    |here h1 h2=>rw[U9] at h1;cases h1;omega
    |kid h1 h2=>rw[hk] at h1;cases h1
   cases h with
   |xO n a cap=>exact hempty a cap (List.eq_nil_of_length_eq_zero (by simpa using hl.symm)) rfl
   |ol n b off cap z q vals c t hcap hlen hb hσ hfit hc hv hx=>
    by_cases hne:es=[]
    ·subst hne
     have hq0:q.length=0:=by simpa using hl
     exact hempty _ _ rfl (by rw[hq0])
    rw[hl] at hcap hfit hc ⊢;obtain⟨U,hU⟩:=hrec z vals (hrow z hlen) (by simpa [oO] using hp) hv;have hrl:=hrow z hlen
    have hT:∀i o u,lW U i o=some u->IsT u:=fun i o u hu=>by
     obtain⟨es',he⟩:=hU.kid i o u hu;obtain⟨u',h1,h2⟩:=hU.cell i o _ he;obtain⟨T,h3,h4,_⟩:=h2;unfold lW at hu;rw[h1,h3] at hu;cases hu;exact h4
    have sW:∀i o,kid (mkT (.slice (some ⟨b,off,none⟩) es.length cap) U) i o=lW U i o:=M6 hT
    have hcell:∀i o es',cellAt es i o=some (.sl es')->∃T,lW U i o=some T/\hdr T=some (vals (i*z+o))/\pq w es' T:=fun i o es' he=>by
     obtain⟨u',h1,T,h3,h4,h5,h6⟩:=hU.cell i o _ he;refine⟨T,?_,h5,h6⟩;unfold lW;rw[h1,h3];rfl
    have hself:∀x,qL w σ (n+1) (n+1+gQ es) x->x≠b:=by
     rintro x ⟨c',t',Qj,m,a1,a2,a3,a4⟩ rfl;rw[hb] at a1;cases a1;omega
    refine⟨some (mkT (.slice (some ⟨b,off,none⟩) es.length cap) U),⟨_,rfl,⟨_,rfl⟩,rfl,?_⟩,fun T hT' x hx=> ?_⟩
    ·refine .mk b off cap z es _ c t (fun i o=>vals (i*z+o)) (fun i o=>(lW U i o).getD undef) rfl hne hcap hrl hb hfit (fun i o d hd=> ?_) (fun i o d hd=> ?_) (fun i o es' he=> ?_) (fun i o es' he=> ?_) (fun i o u hu hb'=> ?_) (fun i o i' o' u u' x hio hu hu' h1 h2=> ?_) (fun i o u hu=> ?_)
     ·obtain⟨hi,ho⟩:=xR hd;rw[hrl _ (List.getElem_mem hi)] at ho;refine hc _ ?_;have:(i+1)*z<=es.length*z:=Nat.mul_le_mul_right _ hi;rw[Nat.add_mul,Nat.one_mul] at this;omega
     ·obtain⟨u,h1,h2⟩:=hU.cell i o d hd
      cases d<;>first|exact .inl ⟨_,rfl⟩|exact .inr h2.2
     ·obtain⟨T,h1,h2,h3⟩:=hcell i o es' he;rw[sW,h1];exact⟨rfl,h2⟩
     ·obtain⟨T,h1,h2,h3⟩:=hcell i o es' he;rw[h1];exact h3
     ·rw[sW] at hu;exact hself b (hU.own i o u hu b hb') rfl
     ·rw[sW] at hu hu';exact hU.apart i o i' o' u u' x hio hu hu' h1 h2
     ·rw[sW] at hu;exact hU.kid i o u hu
    ·cases hT'
     cases hx with
     |here h1 h2=>rw[U9] at h1;cases h1;exact⟨c,t,(0,0),n,hb,hσ,Nat.le_refl _,by rw[oD];omega⟩
     |kid h1 h2=>
      rw[sW] at h1;exact(hU.own _ _ _ h1 _ h2).mono (by omega) (by rw[oD];omega)
 | .ol m es,n,v,hp,h=>by simp[oO] at hp
 | .b x,n,v,hp,h=>by rw[jo] at h;cases h;exact⟨none,⟨rfl,rfl⟩,fun T h=>by cases h⟩
 | .i k x,n,v,hp,h=>by rw[jo] at h;cases h;exact⟨none,⟨rfl,rfl⟩,fun T h=>by cases h⟩
 | .s l,n,v,hp,h=>by rw[jo] at h;cases h;exact⟨none,⟨rfl,rfl⟩,fun T h=>by cases h⟩
 | .o u,n,v,hp,h=>by simp[oO] at hp
theorem XE:∀(r:List D)(n:Nat)(vals:Nat->Value),jC r=true->(∀(j:Nat)(d:D),(fF r n)[j]? =some d->dN w σ d (vals j))->∃us,amv w σ r n (n+uy r) vals us
 |[],n,vals,hp,h=>⟨[],rfl,fun j d h=>by simp at h,fun j u h=>by simp at h,fun j j' u u' b _ h=>by simp at h⟩
 |d::r,n,vals,hp,h=>by
  rw[jC,Bool.and_eq_true] at hp;rw[fF] at h;obtain⟨u,h1,h2⟩:=akF d n (vals 0) hp.1 (h 0 _ rfl);obtain⟨us,xL⟩:=XE r (n+oD d) (fun j=>vals (j+1)) hp.2 fun j x hx=>h (j+1) x hx;rw[uy];have hown:∀(j:Nat)(T:Value),us[j]? =some (some T)->∀b,lC T b->qL w σ (n+oD d) (n+oD d+uy r) b:=xL.own;refine⟨u::us,by rw[List.length_cons,List.length_cons,xL.len],fun j x hx=> ?_,fun j T hT b hb=> ?_,fun j j' T T' b hj hT hT' hb hb'=> ?_⟩
  ·cases j with
   |zero=>simp at hx;subst hx;exact⟨u,rfl,h1⟩
   |succ j=>exact xL.cell j x hx
  ·cases j with
   |zero=>simp at hT;exact(h2 T hT b hb).mono (Nat.le_refl _) (by omega)
   |succ j=>exact(hown j T hT b hb).mono (by omega) (by omega)
  ·cases j with
   |zero=>
    cases j' with
    |zero=>exact hj rfl
    |succ j'=>simp at hT;exact(h2 T hT b hb).apart (hown j' T' hT' b hb') (Nat.le_refl _)
   |succ j=>
    cases j' with
    |zero=>simp at hT';exact(h2 T' hT' b hb').apart (hown j T hT b hb) (Nat.le_refl _)
    |succ j'=>exact xL.apart j j' T T' b (by omega) hT hT' hb hb'
theorem aaD:∀(rs:List (List D))(n z:Nat)(vals:Nat->Value),(∀r∈rs,r.length=z)->jM rs=true->(∀(j:Nat)(d:D),(eU rs n).flatten[j]? =some d->dN w σ d (vals j))->∃U,akE w σ z rs n (n+gQ rs) vals U
 |[],n,z,vals,hz,hp,h=>⟨[],fun i o d h=>by simp[cellAt] at h,fun i o u h=>by simp[lW] at h,fun i o u h=>by simp[lW] at h,fun i o i' o' u u' b _ h=>by simp[lW] at h⟩
 |r::rs,n,z,vals,hz,hp,h=>by
  rw[jM,Bool.and_eq_true] at hp;rw[eU,List.flatten_cons] at h;have hrz:r.length=z:=hz r (by simp);obtain⟨us,xL⟩:=XE r n vals hp.1 fun j d hd=>h j d (by rw[List.getElem?_append_left (List.getElem?_eq_some_iff.1 hd).1];exact hd)
  obtain⟨U,hU⟩:=aaD rs (n+uy r) z (fun j=>vals (z+j)) (fun r hr=>hz r (by simp[hr])) hp.2 fun j d hd=>h (z+j) d (by
   rw[List.getElem?_append_right (by rw[jw];omega),jw,hrz,Nat.add_sub_cancel_left];exact hd)
  rw[gQ];have hown:∀(i o:Nat)(T:Value),lW U i o=some T->∀b,lC T b->qL w σ (n+uy r) (n+uy r+gQ rs) b:=hU.own;refine⟨us::U,fun i o d hd=> ?_,fun i o u hu=> ?_,fun i o T hT b hb=> ?_,fun i o i' o' T T' b hio hT hT' hb hb'=> ?_⟩
  ·cases i with
   |zero=>
    obtain⟨u,h1,h2⟩:=xL.cell o d hd;exact⟨u,h1,by rw[Nat.zero_mul,Nat.zero_add];exact h2⟩
   |succ i=>
    obtain⟨u,h1,h2⟩:=hU.cell i o d hd;exact⟨u,h1,by rw[show(i+1)*z+o=z+(i*z+o) by rw[Nat.add_mul];omega];exact h2⟩
  ·cases i with
   |zero=>
    rw[wU] at hu
    have ho:o<r.length:=by rw[<-xL.len];exact(List.getElem?_eq_some_iff.1 hu).1
    obtain⟨u',h1,h2⟩:=xL.cell o r[o] (List.getElem?_eq_getElem ho);rw[hu] at h1;cases h1;have hc:cellAt (r::rs) 0 o=some r[o]:=List.getElem?_eq_getElem ho;rw[hc];generalize r[o]=d at h2
    cases d<;>first|exact⟨_,rfl⟩|(cases h2.1)
   |succ i=>exact hU.kid i o u hu
  ·cases i with
   |zero=>rw[wU] at hT;exact(xL.own o T hT b hb).mono (Nat.le_refl _) (by omega)
   |succ i=>exact(hown i o T hT b hb).mono (by omega) (by omega)
  ·cases i with
   |zero=>
    rw[wU] at hT
    cases i' with
    |zero=>rw[wU] at hT';exact xL.apart o o' T T' b (fun e=>hio (by rw[e])) hT hT' hb hb'
    |succ i'=>exact(xL.own o T hT b hb).apart (hown i' o' T' hT' b hb') (Nat.le_refl _)
   |succ i=>
    cases i' with
    |zero=>rw[wU] at hT';exact(xL.own o' T' hT' b hb').apart (hown i o T hT b hb) (Nat.le_refl _)
    |succ i'=>exact hU.apart i o i' o' T T' b (fun e=>hio (by cases e;rfl)) hT hT' hb hb'
end
end
section
variable {P:Program} {w w':World} {σ σ':Nat->Nat} {S:Store} {β:Hs}
def K9:D->List (List D)
 | .sl es=>es
 |_=>[]
def afn(k:Key)(j:Nat):D->C
 | .sl _=>.xp k j []
 |d=>.d d
def JA(k:Key):Nat->List D->List C
 |_,[]=>[]
 |j,d::ds=>afn k j d::JA k (j+1) ds
theorem CR{k:Key}:∀(j:Nat)(r:List D),(JA k j r).length=r.length
 |_,[]=>rfl
 |j,d::ds=>by rw[JA,List.length_cons,CR,List.length_cons]
theorem Va{k:Key}:∀(r:List D)(j i:Nat),(JA k j r)[i]? =(r[i]?).map (afn k (j+i))
 |[],j,i=>by simp[JA]
 |d::ds,j,0=>rfl
 |d::ds,j,i+1=>by
  rw[JA,List.getElem?_cons_succ,List.getElem?_cons_succ,Va ds (j+1) i,show j+1+i=j+(i+1) by omega]
def XF:C->C
 | .d x=>.d x
 | .bI es=>.d (.sl es)
 | .bS _ es=>.d (.sl es)
 | .nG n es=>.d (.ol n es)
 | .lu cs=>.lu cs
 |_=>.any
def PG:V->V
 | .c x=>.c (XF x)
 | .agg cs=>.agg (cs.map XF)
 |_=>.any
theorem Oe{c:C}{v:Value}(h:gJ w σ S β c v)(S':Store)(β':Hs):gJ w σ S' β' (XF c) v:=by
 cases c with
 |d x=>exact h
 |bI es=>exact h.1
 |bS k es=>exact h.1
 |nG n es=>exact h.1
 |lu cs=>exact h
 |_=>trivial
theorem Rz{x:V}{v:Value}(h:dP w σ S β x v)(S':Store)(β':Hs):dP w σ S' β' (PG x) v:=by
 cases x with
 |c x=>exact⟨Oe h.1 _ _,h.2⟩
 |agg cs=>
  obtain⟨a,ha,hl,hc⟩:=h;refine⟨a,ha,by rw[List.length_map];exact hl,fun i x hx=> ?_⟩;rw[List.getElem?_map] at hx
  cases hi:cs[i]? with
  |none=>rw[hi] at hx;cases hx
  |some y=>
   rw[hi] at hx;cases hx;obtain⟨u,q1,q2,q3⟩:=hc i y hi;exact⟨u,q1,Oe q2 _ _,q3⟩
 |_=>trivial
theorem XG(hl:∀b,b<w.heap.size\/σ b=0)(hg:Ar w σ):eH w σ [] [] where
 wE:=hg
 obj:=fun k o h=>by rw[nD] at h;cases h
 apart:=fun k k' o o' h h' b h1=>by rw[nD] at h1;cases h1
 shape:=⟨rfl,fun l fr h=>by simp at h⟩
 live:=hl
theorem Vb{β:Hs}{b:Nat}:¬Own [] β b:=fun⟨k,o,h,h1,_⟩=>by rw[nD] at h1;cases h1
def aiu(mk:List C->V)(m:Nat):Prop:=∀w σ S β cs v,cs.length=m->dP w σ S β (mk cs) v->∃vs,fD w σ S β cs vs/\∀w' σ' S' β' cs',cs'.length=m->fD w' σ' S' β' cs' vs->dP w' σ' S' β' (mk cs') v
def sF:Value:=mkT (.slice none 0 0) []
theorem Gj(i o:Nat):kid sF i o=none:=by
 unfold sF;rw[M6 (fun i o u h=>by simp[lW] at h)];simp[lW]
theorem wV{b:Nat}:¬lC sF b:=fun h=>by
 cases h with
 |here h1 h2=>cases h1
 |kid h1 h2=>rw[Gj] at h1;cases h1
theorem RA(σ:Nat->Nat):∀n:Nat,∃m,∀b,b<n->σ b<=m
 |0=>⟨0,fun b h=>by omega⟩
 |n+1=>by
  obtain⟨m,hm⟩:=RA σ n;refine⟨max m (σ n),fun b hb=> ?_⟩;by_cases e:b=n
  ·subst e;omega
  ·have:=hm b (by omega);omega
open Classical in
theorem cB.own{f:FuncId}{args:List V}{cK:List Obj}{Ω:Store}{mk:List C->V}{r:List D}(hm:aiu mk r.length)(hp:jC r=true)
 (h:∀n,bg P f (args.map PG) (mk ((fF r n).map .d))):
 cB P f args (cK::Ω) (fun r' S'=>r'=mk (JA (0,cK.length) 0 r)/\S'=(cK++[.xf (r.map K9)])::Ω):=by
 refine⟨(h 0 []).1,fun w σ β vs hS hargs=> ?_⟩;obtain⟨n,hn⟩:=RA σ w.heap.size
 have aaE:rG w σ [] [] (args.map PG) vs:=by
  refine⟨by rw[List.length_map];exact hargs.1,fun j x hx=> ?_⟩;rw[List.getElem?_map] at hx
  cases ha:args[j]? with
  |none=>rw[ha] at hx;cases hx
  |some y=>
   rw[ha] at hx;cases hx;obtain⟨v,h1,h2⟩:=hargs.2 j y ha;exact⟨v,h1,Rz h2 _ _⟩
 refine((h n []).2 w σ [] vs (XG hS.live hS.wE) aaE).mono fun e w' ⟨v,r',S',σ',β',he,hS',hk,hst,hv,hr',hS2⟩=> ?_;subst hr';subst hS2;obtain⟨us0,hcs,hback⟩:=hm w' σ' _ β' _ v (by rw[List.length_map,jw]) hv
 have amw:us0.length=r.length:=by rw[<-hcs.1,List.length_map,jw]
 obtain⟨us,xL⟩:=XE r n (fun j=>us0.getD j undef) hp (fun j d hd=>by
  obtain⟨u,h1,h2,_⟩:=hcs.2 j (.d d) (by rw[List.getElem?_map,hd];rfl);simp only[List.getD_eq_getElem?_getD,h1,Option.getD_some]
  exact h2)
 let h0:Value:=.tuple (us.map fun u=>u.getD sF).toArray
 have hroot:∀j,r9 h0 j=(us[j]?).map fun u=>u.getD sF:=fun j=>by simp[h0,r9]
 have hfresh:∀b,zQ h0 b->w.heap.size<=b:=by
  rintro b ⟨j,T,h1,h2⟩;rw[hroot] at h1
  cases hu:us[j]? with
  |none=>rw[hu] at h1;cases h1
  |some u=>
   rw[hu] at h1;simp only[Option.map_some,Option.some.injEq] at h1
   cases u with
   |none=>subst h1;exact absurd h2 wV
   |some u=>
    simp at h1;subst h1;obtain⟨c,t,fz,m,a1,a2,a3,a4⟩:=xL.own j u hu b h2;refine Nat.le_of_not_lt fun hlt=> ?_;have h1:=(hst.far b hlt Vb).2;have h2:=hn b hlt;omega
 let σ2:Nat->Nat:=fun b=>if zQ h0 b then 0 else σ' b
 have hg:Grow w σ w' σ2:=⟨hst.size,hst.os,hst.output,fun b hb=>by
  obtain⟨h1,h2⟩:=hst.far b hb Vb
  exact⟨h1,(if_neg fun hx=>by have:=hfresh b hx;omega).trans h2⟩,fun b=>by
  rcases hS'.live b with hb|hb
  ·exact .inl hb
  ·right;show(if zQ h0 b then 0 else σ' b)=0;rw[hb];split<;>rfl⟩
 cases β with
 |nil=>have:=hS.shape.1;simp at this
 |cons bo bΩ=>
 have hlen:bo.length=cK.length:=by
  obtain⟨gr,g1,g2⟩:=hS.shape.2 0 cK rfl;simp at g1;rw[g1];exact g2
 obtain⟨hS3,hk3,amx⟩:=hS.push (o:=.xf (r.map K9)) (h:=h0) hg hlen (by
  refine⟨fun j es hj=> ?_,fun j T hT=> ?_,fun b hb=>if_pos hb,fun j j' T T' x hjj hT hT' hx hx'=> ?_⟩
  ·rw[List.getElem?_map] at hj
   cases hd:r[j]? with
   |none=>rw[hd] at hj;cases hj
   |some d=>
    rw[hd] at hj;simp only[Option.map_some,Option.some.injEq] at hj;subst hj;obtain⟨u,h1,h2⟩:=xL.cell j d hd;rw[hroot,h1]
    have hsc:(∀es,d≠ .sl es)->∃T,Option.map (fun u=>Option.getD u sF) (some u)=some T/\pq w' (K9 d) T:=fun hne=>by
     have hu:u=none:=by cases d<;>first|exact absurd rfl (hne _)|exact h2.1
     have hr0:K9 d=[]:=by cases d<;>first|exact absurd rfl (hne _)|rfl
     subst hu;rw[hr0];exact⟨sF,rfl,.nil none 0 _ rfl Gj⟩
    cases d with
    |sl es=>obtain⟨T,rfl,_,_,h6⟩:=h2;exact⟨T,rfl,h6⟩
    |_=>exact hsc (fun es e=>by cases e)
  ·rw[List.length_map];rw[hroot] at hT
   cases hu:us[j]? with
   |none=>rw[hu] at hT;cases hT
   |some u=>rw[<-xL.len];exact(List.getElem?_eq_some_iff.1 hu).1
  ·rw[hroot] at hT hT'
   cases hu:us[j]? with
   |none=>rw[hu] at hT;cases hT
   |some u=>
    cases hu':us[j']? with
    |none=>rw[hu'] at hT';cases hT'
    |some u'=>
     rw[hu] at hT;rw[hu'] at hT';simp only[Option.map_some,Option.some.injEq] at hT hT'
     cases u with
     |none=>subst hT;exact wV hx
     |some u=>
      cases u' with
      |none=>subst hT';exact wV hx'
      |some u'=>simp at hT hT';subst hT;subst hT';exact xL.apart j j' u u' x hjj hu hu' hx hx') (fun b hb=>hfresh b hb)
 refine⟨v,_,_,σ2,(bo++[h0])::bΩ,he,hS3,hk3,amx,?_,rfl,rfl⟩;refine hback _ _ _ _ _ (by rw[CR]) ⟨by rw[CR,amw],fun j x hx=> ?_⟩;rw[Va,Nat.zero_add] at hx
 cases hd:r[j]? with
 |none=>rw[hd] at hx;cases hx
 |some d=>
  rw[hd] at hx;simp only[Option.map_some,Option.some.injEq] at hx;obtain⟨u,h1,h2⟩:=xL.cell j d hd
  have hjl:j<(fF r n).length:=by rw[jw];exact(List.getElem?_eq_some_iff.1 hd).1
  obtain⟨v0,h3,_,h4⟩:=hcs.2 j (.d (fF r n)[j]) (by rw[List.getElem?_map,List.getElem?_eq_getElem hjl];rfl)
  have hv0:us0.getD j undef=v0:=by rw[List.getD_eq_getElem?_getD,h3];rfl
  simp only[hv0] at h2;refine⟨v0,h3,?_,h4⟩
  have hsc:(∀es,d≠ .sl es)->gJ w' σ2 ((cK++[.xf (r.map K9)])::Ω) ((bo++[h0])::bΩ) (.d d) v0:=fun hne=>by
   have:SD d v0:=by cases d<;>first|exact absurd rfl (hne _)|exact h2.2
   exact P6 this
  cases d with
  |sl es=>
   subst hx;obtain⟨T,rfl,_,h5,_⟩:=h2;refine⟨_,dJ _ _ _,fun rs _=>⟨h0,by rw[<-hlen,dJ],?_⟩⟩;unfold G9;rw[hroot,h1];exact h5
  |_=>subst hx;exact hsc (fun es e=>by cases e)
end
section
variable {P:Program} {w w':World} {σ σ':Nat->Nat} {S:Store} {β:Hs}
mutual
theorem amy{σ2:Nat->Nat}(hs:∀b c t fz,w.heap[b]? =some (.cells c t fz)->c.size<σ b->σ2 b=σ b):∀(d:D)(n:Nat)(v:Value),oO d=true->dN w σ (jo d n) v->dN w σ2 (jo d n) v
 | .sl es,n,v,hp,h=>by
   rw[jo] at h ⊢;have hrec:=afo hs es (n+1);generalize eU es (n+1)=q at h hrec ⊢
   cases h with
   |xO n a cap=>exact .xO n a cap
   |ol n b off cap z q vals c t hcap hlen hb hσ hfit hc hv hx=>exact .ol n b off cap z q vals c t hcap hlen hb ((hs b c t _ hb (by omega)).trans hσ) hfit hc (hrec vals (by simpa [oO] using hp) hv) hx
 | .ol m es,n,v,hp,h=>by simp[oO] at hp
 | .b x,n,v,hp,h=>by rw[jo] at h ⊢;cases h;constructor
 | .i k x,n,v,hp,h=>by rw[jo] at h ⊢;cases h;constructor
 | .s l,n,v,hp,h=>by rw[jo] at h ⊢;cases h;constructor
 | .o u,n,v,hp,h=>by simp[oO] at hp
theorem aiw{σ2:Nat->Nat}(hs:∀b c t fz,w.heap[b]? =some (.cells c t fz)->c.size<σ b->σ2 b=σ b):∀(r:List D)(n:Nat)(vals:Nat->Value),jC r=true->(∀(j:Nat)(d:D),(fF r n)[j]? =some d->dN w σ d (vals j))->
 ∀(j:Nat)(d:D),(fF r n)[j]? =some d->dN w σ2 d (vals j)
 |[],n,vals,hp,h,j,d,hd=>by simp[fF] at hd
 |a::r,n,vals,hp,h,j,d,hd=>by
  rw[jC,Bool.and_eq_true] at hp;rw[fF] at h hd
  cases j with
  |zero=>
   simp at hd;subst hd;exact amy hs a n _ hp.1 (h 0 _ rfl)
  |succ j=>exact aiw hs r (n+oD a) (fun i=>vals (i+1)) hp.2 (fun i d hi=>h (i+1) d hi) j d hd
theorem afo{σ2:Nat->Nat}(hs:∀b c t fz,w.heap[b]? =some (.cells c t fz)->c.size<σ b->σ2 b=σ b):∀(rs:List (List D))(n:Nat)(vals:Nat->Value),jM rs=true->(∀(j:Nat)(d:D),(eU rs n).flatten[j]? =some d->dN w σ d (vals j))->
 ∀(j:Nat)(d:D),(eU rs n).flatten[j]? =some d->dN w σ2 d (vals j)
 |[],n,vals,hp,h,j,d,hd=>by simp[eU] at hd
 |r::rs,n,vals,hp,h,j,d,hd=>by
  rw[jM,Bool.and_eq_true] at hp;rw[eU,List.flatten_cons] at h hd;by_cases hj:j<(fF r n).length
  ·rw[List.getElem?_append_left hj] at hd;exact aiw hs r n vals hp.1 (fun j d hd=>h j d (by rw[List.getElem?_append_left (List.getElem?_eq_some_iff.1 hd).1];exact hd)) j d hd
  ·rw[List.getElem?_append_right (by omega)] at hd;have:=afo hs rs (n+uy r) (fun i=>vals ((fF r n).length+i)) hp.2 (fun j d hd=>h _ d (by rw[List.getElem?_append_right (by omega),Nat.add_sub_cancel_left];exact hd)) (j-(fF r n).length) d hd
   rwa [show(fF r n).length+(j-(fF r n).length)=j by omega] at this
end
theorem pq.data{es:List (List D)}{T v:Value}(h:pq w es T)(hv:hdr T=some v)(hσ:∀b c t fz,lC T b->w.heap[b]? =some (.cells c t fz)->c.size<=σ b):dN w σ (.sl es) v:=by
 induction h generalizing v with
 |nil a cap T h hk=>rw[h] at hv;cases hv;exact .nil a cap
 |mk b off cap z es T c t vals kids hh hne hcap hlen hb hfit hc hs hk hx hself hap sW ih=>
  rw[hh] at hv;cases hv;have hpos:0<es.length:=List.length_pos_iff.2 hne;have hfl:=jh es z hlen
  have hidx:∀j,j<es.length*z->∃hi:j/z<es.length,j % z<z/\j/z*z+j % z=j:=fun j hj=>by
   have hz:0<z:=by rcases Nat.eq_zero_or_pos z with h|h;·rw[h] at hj;simp at hj
                   ·exact h
   exact⟨(Nat.div_lt_iff_lt_mul hz).2 hj,Nat.mod_lt _ hz,by rw[Nat.mul_comm];exact Nat.div_add_mod j z⟩
  have hcell:∀j d,es.flatten[j]? =some d->∃hi:j/z<es.length,cellAt es (j/z) (j % z)=some d/\j/z*z+j % z=j:=fun j d hd=>by
   have hj:j<es.length*z:=by rw[<-hfl];exact(List.getElem?_eq_some_iff.1 hd).1
   obtain⟨hi,hm,he⟩:=hidx j hj;refine⟨hi,?_,he⟩;have:=flat_get es z hlen (j/z) (j % z) hi hm;rw[he,hd] at this;unfold cellAt;rw[List.getElem?_eq_getElem hi];exact this.symm
  refine .sl b off cap z es (fun j=>vals (j/z) (j % z)) c t (0,0) hcap hlen hb (Nat.le_trans hfit (hσ b c t _ (.here hh hpos) hb)) (fun j hj=> ?_) (fun j d hd=> ?_)
  ·obtain⟨hi,hce,he⟩:=hcell j _ (List.getElem?_eq_getElem (by rw[hfl];exact hj));have:=hc _ _ _ hce
   rwa [he] at this
  ·obtain⟨hi,hce,he⟩:=hcell j d hd;rcases hs _ _ _ hce with⟨es',rfl⟩|hsd
   ·obtain⟨k1,k2⟩:=hk _ _ _ hce;exact ih _ _ _ hce k2 fun b' c' t' Qj ho hb'=>hσ b' c' t' Qj (.kid k1 ho) hb'
   ·exact P6 hsd
end
section
variable {P:Program} {w w':World} {σ σ':Nat->Nat} {S:Store} {β:Hs}
end
end Go.Ab