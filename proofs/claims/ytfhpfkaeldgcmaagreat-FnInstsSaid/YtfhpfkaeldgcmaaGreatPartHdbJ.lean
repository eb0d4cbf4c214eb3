/-
  SEVERAL TEXTS IN ONE (merged by program): contracts and models, each with its own heading.
-/
import Derived.Test.YtfhpfkaeldgcmaaGreatPartHdbD
import Derived.Test.YtfhpfkaeldgcmaaGreatPartHdbI
open Go.Proofs Go.Proofs.Tryz
set_option linter.unusedSimpArgs false
set_option linter.unusedVariables false
set_option maxRecDepth 4000
namespace Go.Ab
def bN(s:List UInt8):au:=.mk s []
def d9(l:List au):au:=.mk [] l
def dh(l:List (List UInt8)):List au:=l.map bN
def dw:au:=.mk [] []
theorem Wx(s:List UInt8):(bN s).bC=s:=rfl
theorem Wy(s:List UInt8):(bN s).aA=[]:=rfl
theorem lu(l:List au):(d9 l).bC=[]:=rfl
theorem gZ(l:List au):(d9 l).aA=l:=rfl
def DZ:List UInt8:=[100,121,110]
def iX:List UInt8:=[97,115,115,111,99]
mutual
def dR:ay->au
 | .mk k n zs=>if k=1 then bN ([39]++n) else if k=4 then d9 [bN DZ,bN n] else if k=2/\zs.length=0 then bN n else
   d9 ((if k=3 then [bN iX] else [])++[bN n]++Az zs)
def Az:List ay->List au
 |[]=>[]
 |t::ts=>dR t::Az ts
end
theorem tF:∀l,Az l=l.map dR
 |[]=>rfl
 |t::ts=>by rw[Az,List.map_cons,tF ts]
theorem ahv(x:ay):dR x=if x.aR=1 then bN ([39]++x.fName) else if x.aR=4 then d9 [bN DZ,bN x.fName] else if x.aR=2/\x.fArgs.length=0 then bN x.fName else
 d9 ((if x.aR=3 then [bN iX] else [])++[bN x.fName]++x.fArgs.map dR):=by
 cases x;rw[dR,tF];rfl
theorem wB{t:ay}(h:qL t=true):formed t=true:=(gL h).1
theorem iT(x:au):x.sz=x.bC.length+(x.aA.length+aI (x.aA.map au.enc)):=by
 simp only[au.sz,au.aj,bF,D.sz,List.length_map];omega
def dI:List au->Nat
 |[]=>0
 |x::xs=>x.sz+dI xs
theorem jV:∀l,aI (l.map au.enc)=dI l
 |[]=>rfl
 |x::xs=>by rw[List.map_cons,aI,dI,jV xs];rfl
theorem jP:∀a b,dI (a++b)=dI a+dI b
 |[],b=>by simp[dI]
 |x::a,b=>by rw[List.cons_append,dI,dI,jP a b];omega
theorem kR{x:au}:∀{l:List au},x∈l->x.sz<=dI l
 |y::l,h=>by
  rw[dI];rcases List.mem_cons.1 h with rfl|h
  ·omega
  ·have:=kR h;omega
theorem iY(s:List UInt8):(bN s).sz=s.length:=by rw[iT];simp[bN,au.bC,au.aA,aI]
theorem iZ(l:List au):(d9 l).sz=l.length+dI l:=by rw[iT,jV];simp[d9,au.bC,au.aA]
theorem o9:∀l:List (List UInt8),dI (dh l)=(l.map List.length).sum
 |[]=>rfl
 |s::l=>by rw[dh,List.map_cons,dI,iY,<-dh,o9 l,List.map_cons,List.sum_cons]
theorem kS(l:List (List UInt8)):(dh l).length=l.length:=by simp[dh]
theorem dZ:∀l:List (List UInt8),aI (l.map encS)=(l.map List.length).sum
 |[]=>rfl
 |s::l=>by rw[List.map_cons,aI,dZ l,List.map_cons,List.sum_cons];simp[encS,bF,D.sz]
def oh:List ay->Nat
 |[]=>0
 |x::xs=>x.sz+oh xs
theorem xE:∀l,aI (l.map ay.enc)=oh l
 |[]=>rfl
 |x::xs=>by rw[List.map_cons,aI,oh,xE xs];rfl
theorem tH(x:ay):x.sz=x.fName.length+(x.fArgs.length+oh x.fArgs):=by
 rw[<-xE];simp only[ay.sz,ay.aj,bF,D.sz,List.length_map];omega
mutual
theorem yJ:∀x:ay,(dR x).sz<=12+16*x.sz
 | .mk k n zs=>by
   have h:=Mh zs;rw[tH];simp only[ay.fName,ay.fArgs];rw[dR];split
   ·rw[iY];simp;omega
   ·split
    ·rw[iZ];simp[dI,iY,DZ];omega
    ·split
     ·rw[iY];omega
     ·rw[iZ,jP,jP,List.length_append,List.length_append,tF,List.length_map,<-tF];split<;>simp[dI,iY,iX]<;>omega
theorem Mh:∀xs:List ay,dI (Az xs)<=12*xs.length+16*oh xs
 |[]=>by simp[Az,dI]
 |x::xs=>by
  have h1:=yJ x;have h2:=Mh xs;rw[Az,dI,oh,List.length_cons];omega
end
theorem Ky(xs:List ay):dI (xs.map dR)<=12*xs.length+16*oh xs:=by rw[<-tF];exact Mh xs
def dz(b:UInt8):Bool:=decide (97<=b.toNat/\b.toNat<=122)||decide (48<=b.toNat/\b.toNat<=57)||decide (b∈([39,45,43,42,60,61,46]:List UInt8))
def validAtom(s:List UInt8):Bool:=s.all dz&&decide (1<=s.length/\s.length<=12)
mutual
def pq:au->Bool
 | .mk a l=>if a=[] then om l else validAtom a&&decide (l.length=0)
def om:List au->Bool
 |[]=>true
 |x::xs=>pq x&&om xs
end
mutual
def lS:au->Nat
 | .mk a l=>if a=[] then lH l+1 else 0
def lH:List au->Nat
 |[]=>0
 |x::xs=>max (lS x) (lH xs)
end
mutual
def jd:au->Nat
 | .mk _ l=>jD l+1
def jD:List au->Nat
 |[]=>0
 |x::xs=>jd x+jD xs
end
theorem acW(x:au):pq x=if x.bC=[] then om x.aA else validAtom x.bC&&decide (x.aA.length=0):=by cases x;rw[pq];rfl
theorem ZL(x:au):lS x=if x.bC=[] then lH x.aA+1 else 0:=by cases x;rw[lS];rfl
theorem acX(x:au):jd x=jD x.aA+1:=by cases x;rw[jd];rfl
mutual
theorem Ib:∀x:au,lS x<=jd x
 | .mk a l=>by
   have:=FP l;rw[lS,jd];split<;>omega
theorem FP:∀l:List au,lH l<=jD l
 |[]=>by simp[lH]
 |x::xs=>by
  have h1:=Ib x;have h2:=FP xs;rw[lH,jD];omega
end
mutual
theorem QH:∀x:au,jd x<=x.sz+1
 | .mk a l=>by
   have:=Nn l;rw[iT,jd,jV];simp only[au.bC,au.aA];omega
theorem Nn:∀l:List au,jD l<=l.length+dI l
 |[]=>by simp[jD]
 |x::xs=>by
  have h1:=QH x;have h2:=Nn xs;rw[jD,dI,List.length_cons];omega
end
def iQ(x:au):Bool:=pq x&&decide (lS x<=14/\jd x<=900)
mutual
theorem QI:∀x:au,pq x=true->x.sz+1<=13*jd x
 | .mk a l=>fun h=>by
   rw[pq] at h;rw[iT,jd,jV];simp only[au.bC,au.aA];split at h
   ·rename_i ha;have:=Np l h;subst ha;simp only[List.length_nil];omega
   ·rw[Bool.and_eq_true,decide_eq_true_eq] at h;have h1:=h.1;unfold validAtom at h1;rw[Bool.and_eq_true,decide_eq_true_eq] at h1;have:l=[]:=List.eq_nil_of_length_eq_zero h.2;subst this;simp[dI];omega
theorem Np:∀l:List au,om l=true->l.length+dI l<=13*jD l
 |[],_=>by simp[dI]
 |x::xs,h=>by
  rw[om,Bool.and_eq_true] at h;have h1:=QI x h.1;have h2:=Np xs h.2;rw[dI,jD,List.length_cons];omega
end
theorem BA{x:au}(h:iQ x=true):x.sz<=11700:=by
 unfold iQ at h;rw[Bool.and_eq_true,decide_eq_true_eq] at h;have:=QI x h.1;omega
def AA(x:au):au:=if iQ x=true then x else dw
def tJ:Bool->au->au
 |true,x=>AA x
 |false,_=>dw
theorem ahw(x:au):(AA x).sz<=11700:=by
 unfold AA;split
 ·rename_i h;exact BA h
 ·rw[iT];simp[dw,au.bC,au.aA,aI]
theorem G5(b:Bool)(x:au):(tJ b x).sz<=11700:=by
 cases b with
 |true=>exact ahw x
 |false=>rw[tJ,iT];simp[dw,au.bC,au.aA,aI]
theorem acY(b:UInt8):b∈([39,45,43,42,60,61,46]:List UInt8)<->(b.toNat=39\/b.toNat=45\/b.toNat=43\/b.toNat=42\/b.toNat=60\/b.toNat=61\/b.toNat=46):=by
 have h:∀n:Nat,n<256->(UInt8.ofNat n∈([39,45,43,42,60,61,46]:List UInt8)<->(n=39\/n=45\/n=43\/n=42\/n=60\/n=61\/n=46)):=by decide +kernel
 have h1:=h b.toNat (UInt8.toNat_lt b)
 rwa [UInt8.ofNat_toNat] at h1
theorem AB(b:UInt8):dz b=true<->(97<=b.toNat/\b.toNat<=122)\/(48<=b.toNat/\b.toNat<=57)\/b.toNat=39\/b.toNat=45\/b.toNat=43\/b.toNat=42\/b.toNat=60\/b.toNat=61\/b.toNat=46:=by
 unfold dz;rw[Bool.or_eq_true,Bool.or_eq_true,decide_eq_true_eq,decide_eq_true_eq,decide_eq_true_eq,acY,or_assoc]
theorem all_false{s:List UInt8}{i:Nat}(hi:i<s.length)(h:dz s[i]=false):s.all dz=false:=by
 rw[List.all_eq_false];exact⟨s[i],List.getElem_mem hi,by simp[h]⟩
theorem all_true{s:List UInt8}(h:∀j (hj:j<s.length),dz s[j]=true):s.all dz=true:=by
 rw[List.all_eq_true];intro b hb;obtain⟨j,hj,e⟩:=List.getElem_of_mem hb;rw[<-e];exact h j hj
theorem Mi{x:au}{i:Nat}(hi:i<x.aA.length)(h:x.sz<=67108864):x.aA[i].sz<=67108864/\x.aA.length<=67108864/\x.bC.length<=67108864:=by
 have:=kR (List.getElem_mem hi);rw[iT,jV] at h;omega
theorem QJ{x:au}(h:x.sz<=67108864):x.aA.length<=67108864/\x.bC.length<=67108864:=by
 rw[iT,jV] at h;omega
theorem Ta{l:List au}{i:Nat}(hi:i<l.length):om (l.drop i)=(pq l[i]&&om (l.drop (i+1))):=by rw[List.drop_eq_getElem_cons hi,om]
theorem QK{l:List au}{i:Nat}(hi:i<l.length):lH (l.drop i)=max (lS l[i]) (lH (l.drop (i+1))):=by rw[List.drop_eq_getElem_cons hi,lH]
theorem Tc{l:List au}{i:Nat}(hi:i<l.length):jD (l.drop i)=jd l[i]+jD (l.drop (i+1)):=by rw[List.drop_eq_getElem_cons hi,jD]
theorem acZ{x:au}(h:x.sz<=67108864):jd x<=67108865:=by have:=QH x;omega
theorem au.Wz{x:au}{i:Nat}(hi:i<x.aA.length):SizeOf.sizeOf x.aA[i]<SizeOf.sizeOf x:=by
 have:=List.sizeOf_lt_of_mem (List.getElem_mem hi);have:=au.CR x;omega
theorem FQ(b:UInt8):bq prog 236 [.c (.d (.i .u8 b.toNat))] (.c (.d (.b (dz b)))):=fun S=>by
 have yes:((97<=b.toNat/\b.toNat<=122)\/(48<=b.toNat/\b.toNat<=57)\/b.toNat=39\/b.toNat=45\/b.toNat=43\/b.toNat=42\/b.toNat=60\/b.toNat=61\/b.toNat=46)->dz b=true:=(AB b).2
 have no:¬((97<=b.toNat/\b.toNat<=122)\/(48<=b.toNat/\b.toNat<=57)\/b.toNat=39\/b.toNat=45\/b.toNat=43\/b.toNat=42\/b.toNat=60\/b.toNat=61\/b.toNat=46)->dz b=false:=fun h=>by
  cases hb:dz b with
  |false=>rfl
  |true=>exact absurd ((AB b).1 hb) h
 refine zcx [.tmp 2] func236 ntmps236 ?_;simp -implicitDefEqProofs (disch:=omega) only[go_sem]
 repeat' (first|(with_reducible refine aD (fun hb=> ?_) (fun hb=> ?_)<;>have h:=hb<;>(try simp only[wf_preprocess] at h)<;>simp -implicitDefEqProofs (disch:=omega) only[go_sem,hb]<;>(repeat(with_reducible refine And.intro ?_ ?_;focus first|omega|rfl|assumption|exact⟨_,rfl,rfl⟩|(simp;omega)|(simp;done)))))
 all_goals first
  |exact bO (yes (by omega)).symm
  |exact bO (no (by omega)).symm
  |(refine bO ?_;cases hb:dz b<;>simp only[decide_eq_true_eq,decide_eq_false_iff_not]<;>(first|(have:=(AB b).1 hb;omega)|(intro q;have:=yes (by omega);rw[hb] at this;cases this)))
theorem WA(s:List UInt8)(hs:s.length<=1073741824):bq prog 247 [.c (.d (.s s))] (.c (.d (.b (validAtom s)))):=fun S=>by
 refine zcx [.tmp 2] func247 ntmps247 ?_;simp -implicitDefEqProofs (disch:=omega) only[go_sem]
 refine bT (ι:=Nat) zmx rfl [0,3] (fun i=>[.c (.d (.s s)),.c (.d (.i .i64 i))]) (fun _=>[]::S)
  (fun i=>i<=s.length/\∀j,∀hj:j<s.length,j<i->dz s[j]=true) (fun i=>s.length-i) 0 rfl rfl ⟨Nat.zero_le _,fun j _ h=>by omega⟩ ?_
 rintro i ⟨p1,p2⟩;simp -implicitDefEqProofs (disch:=omega) only[go_sem]
 with_reducible refine aD (fun hb=> ?_) (fun hb=> ?_)<;>have h:=hb<;>(try simp only[wf_preprocess] at h)<;>simp -implicitDefEqProofs (disch:=omega) only[go_sem,hb]<;>(repeat(with_reducible refine And.intro ?_ ?_;focus first|omega|rfl|assumption|exact⟨_,rfl,rfl⟩|(simp;omega)|(simp;done)))
 ·have hi:i<s.length:=by omega
  have e:s.getD i 0=s[i]:=by simp[List.getD,hi]
  (repeat(with_reducible refine And.intro ?_ ?_;focus first|omega|rfl|assumption|exact⟨_,rfl,rfl⟩|(simp;omega)|(simp;done)))
  rw[e];refine aB (FQ s[i]) ?_;simp -implicitDefEqProofs (disch:=omega) only[go_sem]<;>(repeat(with_reducible refine And.intro ?_ ?_;focus first|omega|rfl|assumption|exact⟨_,rfl,rfl⟩|(simp;omega)|(simp;done)))
  with_reducible refine aD (fun hb=> ?_) (fun hb=> ?_)<;>have h:=hb<;>(try simp only[wf_preprocess] at h)<;>simp -implicitDefEqProofs (disch:=omega) only[go_sem,hb]<;>(repeat(with_reducible refine And.intro ?_ ?_;focus first|omega|rfl|assumption|exact⟨_,rfl,rfl⟩|(simp;omega)|(simp;done)))
  ·exact bO (by unfold validAtom;rw[all_false hi h];rfl)
  ·refine dG (i+1) (by omega) rfl rfl ⟨by omega,fun j hj hji=> ?_⟩;by_cases e':j=i
   ·subst e';exact h
   ·exact p2 j hj (by omega)
 ·have ha:=all_true (s:=s) (fun j hj=>p2 j hj (by omega));refine aB (CX s.length 1 12) ?_;simp -implicitDefEqProofs (disch:=omega) only[go_sem]<;>(repeat(with_reducible refine And.intro ?_ ?_;focus first|omega|rfl|assumption|exact⟨_,rfl,rfl⟩|(simp;omega)|(simp;done)));refine bO ?_;unfold validAtom;rw[ha,Bool.true_and,<-qY];exact decide_eq_decide.2 (by omega)
theorem Kz:∀n:Nat,∀x:au,SizeOf.sizeOf x<n->∀l:Int,0<=l->l<=1073741824->x.sz<=67108864->bq prog 237 [x.v,.c (.d (.i .i64 l))] (.c (.d (.i .i64 (lW l (jd x)))))
 |0=>fun x h=>by omega
 |n+1=>by
  have ih:=Kz n;intro x hn l h0 h1 hsz S;have hts:=QJ hsz;have hcn:=acX x;refine zcx [.tmp 4] func237 ntmps237 ?_;simp -implicitDefEqProofs (disch:=omega) only[go_sem]
  refine bT (ι:=Nat×Int) zmx rfl [1,2,5] (fun y=>[.c (.d (.i .i64 y.2)),.c (.ptr (0,0) 0),.c (.d (.i .i64 y.1))]) (fun y=>[.box [.d (.s x.bC),.d (.sl (x.aA.map au.enc))]]::S)
   (fun y=>y.1<=x.aA.length/\ -1<=y.2/\y.2<=1073741824/\(0<=y.2->lW l (jd x)=lW y.2 (jD (x.aA.drop y.1)))/\(y.2<0->lW l (jd x)= -1)) (fun y=>x.aA.length-y.1) (0,l-1) rfl rfl ⟨Nat.zero_le _,by simp only;omega,by simp only;omega,fun h=> ?_,fun h=> ?_⟩ ?_
  ·simp only[List.drop_zero] at h ⊢;unfold lW;rw[hcn];split<;>split<;>omega
  ·simp only at h;exact GQ (by omega)
  rintro⟨i,c⟩ ⟨p1,p2,p3,p4,p5⟩;simp only at p1 p2 p3 p4 p5;simp -implicitDefEqProofs (disch:=omega) only[go_sem]
  with_reducible refine aD (fun hb=> ?_) (fun hb=> ?_)<;>have h:=hb<;>(try simp only[wf_preprocess] at h)<;>simp -implicitDefEqProofs (disch:=omega) only[go_sem,hb]<;>(repeat(with_reducible refine And.intro ?_ ?_;focus first|omega|rfl|assumption|exact⟨_,rfl,rfl⟩|(simp;omega)|(simp;done)))
  ·have hi:i<x.aA.length:=by omega
   with_reducible refine aD (fun hb=> ?_) (fun hb=> ?_)<;>have h:=hb<;>(try simp only[wf_preprocess] at h)<;>simp -implicitDefEqProofs (disch:=omega) only[go_sem,hb]<;>(repeat(with_reducible refine And.intro ?_ ?_;focus first|omega|rfl|assumption|exact⟨_,rfl,rfl⟩|(simp;omega)|(simp;done)))
   ·have hsz':=Mi hi hsz;have p6:=p4 h;rw[Tc hi] at p6
    (repeat(with_reducible refine And.intro ?_ ?_;focus first|omega|rfl|assumption|exact⟨_,rfl,rfl⟩|(simp;omega)|(simp;done)))
    refine aB (ih x.aA[i] (by have:=au.Wz hi;omega) c (by omega) (by omega) (by omega)) ?_;simp -implicitDefEqProofs (disch:=omega) only[go_sem]<;>(repeat(with_reducible refine And.intro ?_ ?_;focus first|omega|rfl|assumption|exact⟨_,rfl,rfl⟩|(simp;omega)|(simp;done)));refine dG (i+1,lW c _) (by simp only;omega) rfl rfl ⟨by simp only;omega,?_,?_,fun h=> ?_,fun h=> ?_⟩
    ·simp only;unfold lW;split<;>omega
    ·simp only;unfold lW;split<;>omega
    ·simp only at h ⊢;rw[p6];have:=GN (l:=c) (a:=jd x.aA[i]) (by omega);rw[this.1];unfold lW;split<;>split<;>omega
    ·simp only at h ⊢;rw[p6];have:=DU h;exact GQ (by omega)
   ·have hc:c= -1:=by omega
    rw[p5 (by omega),hc]
  ·have hi:i=x.aA.length:=by omega
   by_cases hc:0<=c
   ·rw[p4 hc,hi,List.drop_length,jD,Qu (by omega)];exact int_eq (by simp)
   ·rw[p5 (by omega)];exact int_eq (by omega)
theorem ZM(x:au)(l:Int)(h0:0<=l)(h1:l<=1073741824)(hsz:x.sz<=67108864):bq prog 237 [x.v,.c (.d (.i .i64 l))] (.c (.d (.i .i64 (lW l (jd x))))):=Kz _ x (Nat.lt_succ_self _) l h0 h1 hsz
theorem KA:∀n:Nat,∀x:au,SizeOf.sizeOf x<n->x.sz<=67108864->bq prog 238 [x.v] (.c (.d (.b (pq x))))
 |0=>fun x h=>by omega
 |n+1=>by
  have ih:=KA n;intro x hn hsz S;have hts:=QJ hsz;have hf:=acW x;refine zcx [.tmp 2] func238 ntmps238 ?_;simp -implicitDefEqProofs (disch:=omega) only[go_sem]
  with_reducible refine aD (fun hb=> ?_) (fun hb=> ?_)<;>have h:=hb<;>(try simp only[wf_preprocess] at h)<;>simp -implicitDefEqProofs (disch:=omega) only[go_sem,hb]<;>(repeat(with_reducible refine And.intro ?_ ?_;focus first|omega|rfl|assumption|exact⟨_,rfl,rfl⟩|(simp;omega)|(simp;done)))
  ·rw[if_neg h] at hf;refine aB (WA x.bC (by omega)) ?_;simp -implicitDefEqProofs (disch:=omega) only[go_sem]<;>(repeat(with_reducible refine And.intro ?_ ?_;focus first|omega|rfl|assumption|exact⟨_,rfl,rfl⟩|(simp;omega)|(simp;done)))
   with_reducible refine aD (fun hb=> ?_) (fun hb=> ?_)<;>have h:=hb<;>(try simp only[wf_preprocess] at h)<;>simp -implicitDefEqProofs (disch:=omega) only[go_sem,hb]<;>(repeat(with_reducible refine And.intro ?_ ?_;focus first|omega|rfl|assumption|exact⟨_,rfl,rfl⟩|(simp;omega)|(simp;done)))
   ·rw[hf,h,Bool.true_and];exact bO (decide_eq_decide.2 (by omega))
   ·rw[hf,h,Bool.false_and]
  rw[if_pos h] at hf
  refine bT (ι:=Nat) zmx rfl [1,3] (fun y=>[.c (.ptr (0,0) 0),.c (.d (.i .i64 y))]) (fun y=>[.box [.d (.s x.bC),.d (.sl (x.aA.map au.enc))]]::S)
   (fun y=>y<=x.aA.length/\pq x=om (x.aA.drop y)) (fun y=>x.aA.length-y) 0 rfl rfl ⟨Nat.zero_le _,hf⟩ ?_
  rintro i ⟨p1,p2⟩;simp -implicitDefEqProofs (disch:=omega) only[go_sem]
  with_reducible refine aD (fun hb=> ?_) (fun hb=> ?_)<;>have h:=hb<;>(try simp only[wf_preprocess] at h)<;>simp -implicitDefEqProofs (disch:=omega) only[go_sem,hb]<;>(repeat(with_reducible refine And.intro ?_ ?_;focus first|omega|rfl|assumption|exact⟨_,rfl,rfl⟩|(simp;omega)|(simp;done)))
  ·have hi:i<x.aA.length:=by omega
   have hsz':=Mi hi hsz;rw[Ta hi] at p2
   (repeat(with_reducible refine And.intro ?_ ?_;focus first|omega|rfl|assumption|exact⟨_,rfl,rfl⟩|(simp;omega)|(simp;done)))
   refine aB (ih x.aA[i] (by have:=au.Wz hi;omega) (by omega)) ?_;simp -implicitDefEqProofs (disch:=omega) only[go_sem]<;>(repeat(with_reducible refine And.intro ?_ ?_;focus first|omega|rfl|assumption|exact⟨_,rfl,rfl⟩|(simp;omega)|(simp;done)))
   with_reducible refine aD (fun hb=> ?_) (fun hb=> ?_)<;>have h:=hb<;>(try simp only[wf_preprocess] at h)<;>simp -implicitDefEqProofs (disch:=omega) only[go_sem,hb]<;>(repeat(with_reducible refine And.intro ?_ ?_;focus first|omega|rfl|assumption|exact⟨_,rfl,rfl⟩|(simp;omega)|(simp;done)))
   ·rw[p2,h,Bool.false_and]
   ·exact dG (i+1) (by omega) rfl rfl ⟨by omega,by rw[p2,h,Bool.true_and]⟩
  ·have hi:i=x.aA.length:=by omega
   rw[hi,List.drop_length,om] at p2;rw[p2]
theorem ZN(x:au)(hsz:x.sz<=67108864):bq prog 238 [x.v] (.c (.d (.b (pq x)))):=KA _ x (Nat.lt_succ_self _) hsz
theorem C8:∀n:Nat,∀x:au,SizeOf.sizeOf x<n->x.sz<=67108864->bq prog 239 [x.v] (.c (.d (.i .i64 (lS x))))
 |0=>fun x h=>by omega
 |n+1=>by
  have ih:=C8 n;intro x hn hsz S;have hts:=QJ hsz;have hd:=ZL x;have hd1:=Ib x;have hd2:=acZ hsz;refine zcx [.tmp 2] func239 ntmps239 ?_;simp -implicitDefEqProofs (disch:=omega) only[go_sem]
  with_reducible refine aD (fun hb=> ?_) (fun hb=> ?_)<;>have h:=hb<;>(try simp only[wf_preprocess] at h)<;>simp -implicitDefEqProofs (disch:=omega) only[go_sem,hb]<;>(repeat(with_reducible refine And.intro ?_ ?_;focus first|omega|rfl|assumption|exact⟨_,rfl,rfl⟩|(simp;omega)|(simp;done)))
  ·rw[if_neg h] at hd;rw[hd];rfl
  rw[if_pos h] at hd
  refine bT (ι:=Nat×Nat) zmx rfl [1,3,4] (fun y=>[.c (.ptr (0,0) 0),.c (.d (.i .i64 y.2)),.c (.d (.i .i64 y.1))]) (fun y=>[.box [.d (.s x.bC),.d (.sl (x.aA.map au.enc))]]::S)
   (fun y=>y.1<=x.aA.length/\lS x=max y.2 (lH (x.aA.drop y.1))+1) (fun y=>x.aA.length-y.1) (0,0) rfl rfl ⟨Nat.zero_le _,by simp[hd]⟩ ?_
  rintro⟨i,c⟩ ⟨p1,p2⟩;simp only at p1 p2;simp -implicitDefEqProofs (disch:=omega) only[go_sem]
  with_reducible refine aD (fun hb=> ?_) (fun hb=> ?_)<;>have h:=hb<;>(try simp only[wf_preprocess] at h)<;>simp -implicitDefEqProofs (disch:=omega) only[go_sem,hb]<;>(repeat(with_reducible refine And.intro ?_ ?_;focus first|omega|rfl|assumption|exact⟨_,rfl,rfl⟩|(simp;omega)|(simp;done)))
  ·have hi:i<x.aA.length:=by omega
   have hsz':=Mi hi hsz;rw[QK hi] at p2
   (repeat(with_reducible refine And.intro ?_ ?_;focus first|omega|rfl|assumption|exact⟨_,rfl,rfl⟩|(simp;omega)|(simp;done)))
   refine aB (ih x.aA[i] (by have:=au.Wz hi;omega) (by omega)) ?_;simp -implicitDefEqProofs (disch:=omega) only[go_sem]<;>(repeat(with_reducible refine And.intro ?_ ?_;focus first|omega|rfl|assumption|exact⟨_,rfl,rfl⟩|(simp;omega)|(simp;done)));refine aB (QD _ _) ?_;simp -implicitDefEqProofs (disch:=omega) only[go_sem]<;>(repeat(with_reducible refine And.intro ?_ ?_;focus first|omega|rfl|assumption|exact⟨_,rfl,rfl⟩|(simp;omega)|(simp;done)));rw[show max (c:Int) ((lS x.aA[i]:Int))=((max c (lS x.aA[i]):Nat):Int) by omega];exact dG (i+1,max c (lS x.aA[i])) (by simp only;omega) rfl rfl ⟨by simp only;omega,by simp only;omega⟩
  ·have hi:i=x.aA.length:=by omega
   rw[hi,List.drop_length,lH] at p2
   (repeat(with_reducible refine And.intro ?_ ?_;focus first|omega|rfl|assumption|exact⟨_,rfl,rfl⟩|(simp;omega)|(simp;done)))
   exact int_eq (by omega)
theorem Ou(x:au)(hsz:x.sz<=67108864):bq prog 239 [x.v] (.c (.d (.i .i64 (lS x)))):=C8 _ x (Nat.lt_succ_self _) hsz
theorem lJ(x:au)(hsz:x.sz<=67108864):bq prog 218 [x.v] (.c (.d (.b (iQ x)))):=fun S=>by
 refine zcx [.tmp 2] func218 ntmps218 ?_;simp -implicitDefEqProofs (disch:=omega) only[go_sem];refine aB (ZM x 900 (by omega) (by omega) hsz) ?_;simp -implicitDefEqProofs (disch:=omega) only[go_sem]<;>(repeat(with_reducible refine And.intro ?_ ?_;focus first|omega|rfl|assumption|exact⟨_,rfl,rfl⟩|(simp;omega)|(simp;done)))
 with_reducible refine aD (fun hb=> ?_) (fun hb=> ?_)<;>have h:=hb<;>(try simp only[wf_preprocess] at h)<;>simp -implicitDefEqProofs (disch:=omega) only[go_sem,hb]<;>(repeat(with_reducible refine And.intro ?_ ?_;focus first|omega|rfl|assumption|exact⟨_,rfl,rfl⟩|(simp;omega)|(simp;done)))
 ·have h1:=(GN (l:=900) (a:=jd x) (by omega)).2;refine aB (ZN x hsz) ?_;simp -implicitDefEqProofs (disch:=omega) only[go_sem]<;>(repeat(with_reducible refine And.intro ?_ ?_;focus first|omega|rfl|assumption|exact⟨_,rfl,rfl⟩|(simp;omega)|(simp;done)))
  with_reducible refine aD (fun hb=> ?_) (fun hb=> ?_)<;>have h:=hb<;>(try simp only[wf_preprocess] at h)<;>simp -implicitDefEqProofs (disch:=omega) only[go_sem,hb]<;>(repeat(with_reducible refine And.intro ?_ ?_;focus first|omega|rfl|assumption|exact⟨_,rfl,rfl⟩|(simp;omega)|(simp;done)))
  ·have hf:=h;refine aB (Ou x hsz) ?_;simp -implicitDefEqProofs (disch:=omega) only[go_sem]<;>(repeat(with_reducible refine And.intro ?_ ?_;focus first|omega|rfl|assumption|exact⟨_,rfl,rfl⟩|(simp;omega)|(simp;done)));refine bO ?_;unfold iQ;rw[hf,Bool.true_and];exact decide_eq_decide.2 (by omega)
  ·refine bO ?_;unfold iQ;rw[h,Bool.false_and]
 ·have h1:=DU (l:=900) (a:=jd x) (by omega);refine bO ?_;unfold iQ;rw[decide_eq_false (by omega),Bool.and_false]
mutual
def qz:D->Nat
 | .sl es=>gQ es+1
 | .ol _ _=>0
 | .b _=>0
 | .i _ _=>0
 | .s _=>0
 | .o _=>0
def uZ:List D->Nat
 |[]=>0
 |d::ds=>qz d+uZ ds
def gQ:List (List D)->Nat
 |[]=>0
 |r::rs=>uZ r+gQ rs
end
mutual
def jQ:D->Nat->D
 | .sl es,n=>.ol n (eu es (n+1))
 | .ol m es,_=>.ol m es
 | .b x,_=>.b x
 | .i k x,_=>.i k x
 | .s l,_=>.s l
 | .o v,_=>.o v
def fV:List D->Nat->List D
 |[],_=>[]
 |d::ds,n=>jQ d n::fV ds (n+qz d)
def eu:List (List D)->Nat->List (List D)
 |[],_=>[]
 |r::rs,n=>fV r n::eu rs (n+uZ r)
end
mutual
def oG:D->Bool
 | .sl es=>jG es
 | .ol _ _=>false
 | .b _=>true
 | .i _ _=>true
 | .s _=>true
 | .o _=>false
def jq:List D->Bool
 |[]=>true
 |d::ds=>oG d&&jq ds
def jG:List (List D)->Bool
 |[]=>true
 |r::rs=>jq r&&jG rs
end
theorem jl:∀r n,(fV r n).length=r.length
 |[],_=>rfl
 |d::ds,n=>by rw[fV,List.length_cons,jl ds,List.length_cons]
theorem mM:∀rs n,(eu rs n).length=rs.length
 |[],_=>rfl
 |r::rs,n=>by rw[eu,List.length_cons,mM rs,List.length_cons]
theorem ig:∀a b,jq (a++b)=(jq a&&jq b)
 |[],b=>by simp[jq]
 |d::ds,b=>by rw[List.cons_append,jq,jq,ig ds b,Bool.and_assoc]
theorem kJ{α:Type}{f:α->List D}:∀{xs:List α},(∀x∈xs,jq (f x)=true)->jG (xs.map f)=true
 |[],_=>rfl
 |x::xs,h=>by
  rw[List.map_cons,jG,h x (by simp),kJ fun y hy=>h y (by simp[hy])];rfl
section
variable {P:Program} {w:World} {σ σ':Nat->Nat} {S:Store} {β:Hs} {N:Nat} {s:St}
mutual
theorem ahx:∀(d:D)(n:Nat)(v:Value),dM w σ (jQ d n) v->dM w σ d v
 | .sl es,n,v,h=>by
   rw[jQ] at h;have hl:=mM es (n+1);have hrec:=aeA es (n+1);generalize eu es (n+1)=q at h hl hrec
   cases h with
   |wZ n a cap=>
    have:es=[]:=List.eq_nil_of_length_eq_zero (by simpa using hl.symm);subst this;exact .nil a cap
   |ol n b off cap aY q vals c t hcap hlen hb hσ hfit hc hv hx=>
    obtain⟨r1,r2⟩:=hrec vals hv;rw[hl] at hcap hfit hc ⊢;refine .sl b off cap aY es vals c t (0,0) hcap (fun e he=> ?_) hb (by omega) hc r2;obtain⟨e',h1,h2⟩:=r1 e he;rw[<-h2];exact hlen e' h1
 | .ol m es,n,v,h=>h
 | .b x,n,v,h=>h
 | .i k x,n,v,h=>h
 | .s l,n,v,h=>h
 | .o u,n,v,h=>h
theorem ahy:∀(r:List D)(n:Nat)(vals:Nat->Value),(∀j d,(fV r n)[j]? =some d->dM w σ d (vals j))->∀(j:Nat) d,r[j]? =some d->dM w σ d (vals j)
 |[],n,vals,h,j,d,hd=>by simp at hd
 |a::r,n,vals,h,j,d,hd=>by
  cases j with
  |zero=>
   simp at hd;subst hd;exact ahx a n _ (h 0 _ rfl)
  |succ j=>exact ahy r (n+qz a) (fun i=>vals (i+1)) (fun i d hi=>h (i+1) d (by rw[fV];exact hi)) j d hd
theorem aeA:∀(rs:List (List D))(n:Nat)(vals:Nat->Value),(∀j d,(eu rs n).flatten[j]? =some d->dM w σ d (vals j))->
 (∀e∈rs,∃e'∈eu rs n,e'.length=e.length)/\∀(j:Nat) d,rs.flatten[j]? =some d->dM w σ d (vals j)
 |[],n,vals,h=>⟨fun e he=>(by cases he),fun j d hd=>(by simp at hd)⟩
 |r::rs,n,vals,h=>by
  rw[eu,List.flatten_cons] at h;have h1:=ahy r n vals fun j d hd=>h j d (by rw[List.getElem?_append_left (List.getElem?_eq_some_iff.1 hd).1];exact hd);obtain⟨h2,h3⟩:=aeA rs (n+uZ r) (fun i=>vals (r.length+i)) fun j d hd=>h (r.length+j) d (by rw[List.getElem?_append_right (by rw[jl];omega),jl,Nat.add_sub_cancel_left];exact hd);refine⟨fun e he=> ?_,fun j d hd=> ?_⟩
  ·rcases List.mem_cons.1 he with e1|he
   ·subst e1;exact⟨_,by rw[eu];exact List.mem_cons_self ..,jl _ _⟩
   ·obtain⟨e',q1,q2⟩:=h2 e he;exact⟨e',by rw[eu];exact List.mem_cons_of_mem _ q1,q2⟩
  ·rw[List.flatten_cons] at hd;by_cases hj:j<r.length
   ·rw[List.getElem?_append_left hj] at hd;exact h1 j d hd
   ·rw[List.getElem?_append_right (by omega)] at hd;have:=h3 (j-r.length) d hd
    rwa [show r.length+(j-r.length)=j by omega] at this
end
theorem ac0{r:List D}{n:Nat}:Less (.agg ((fV r n).map .d)) (.agg (r.map .d)):=by
 rintro w σ S β v ⟨a,ha,hl,hc⟩;rw[List.length_map,jl] at hl;refine⟨a,ha,by rw[List.length_map];exact hl,?_⟩
 have key:∀(r:List D)(n:Nat)(vs:List Value),(∀(j:Nat)(x:C),((fV r n).map C.d)[j]? =some x->∃v:Value,vs[j]? =some v/\gF w σ S β x v/\v.oneCell'=true)->
  ∀(j:Nat)(x:C),(r.map C.d)[j]? =some x->∃v:Value,vs[j]? =some v/\gF w σ S β x v/\v.oneCell'=true:=by
  intro r
  induction r with
  |nil=>intro n vs h j x hx;simp at hx
  |cons d ds ih=>
   intro n vs h j x hx
   cases j with
   |zero=>
    simp at hx;subst hx;obtain⟨v,h1,h2,h3⟩:=h 0 (.d (jQ d n)) rfl;exact⟨v,h1,ahx d n v h2,h3⟩
   |succ j=>
    have:=ih (n+qz d) vs.tail (fun i y hy=>by
     obtain⟨v,h1,h2⟩:=h (i+1) y (by rw[fV,List.map_cons];exact hy);refine⟨v,?_,h2⟩
     cases vs with
     |nil=>simp at h1
     |cons a b=>exact h1) j x hx
    obtain⟨v,h1,h2⟩:=this;refine⟨v,?_,h2⟩
    cases vs with
    |nil=>simp at h1
    |cons a b=>exact h1
 exact key r n _ hc
theorem ZO{r:List D}{n:Nat}{w:World}{σ:Nat->Nat}{S:Store}{β:Hs}{vs:List Value}(h:fD w σ S β ((fV r n).map .d) vs):fD w σ S β (r.map .d) vs:=by
 obtain⟨a,ha,hc⟩:=ac0 w σ S β (.agg vs.toArray) ⟨vs.toArray,rfl,by simpa using h⟩;cases ha;simpa using hc
inductive tK:List V->List V->Prop
 |nil:tK [] []
 |cons {x y:V} {xs ys:List V}:Less x y->tK xs ys->tK (x::xs) (y::ys)
theorem tK.length:∀{xs ys:List V},tK xs ys->xs.length=ys.length
 |_,_,.nil=>rfl
 |_,_,.cons _ h=>by rw[List.length_cons,List.length_cons,tK.length h]
theorem tK.at:∀{xs ys:List V},tK xs ys->∀(j:Nat)(x y:V),xs[j]? =some x->ys[j]? =some y->Less x y
 |_,_,.nil,j,x,y,h,_=>by simp at h
 |_,_,.cons a h,0,x,y,h1,h2=>by simp at h1 h2;subst h1;subst h2;exact a
 |_,_,.cons a h,j+1,x,y,h1,h2=>tK.at h j x y (by simpa using h1) (by simpa using h2)
theorem bq.args{f:FuncId}{args args':List V}{r:V}(h:bq P f args' r)(hl:tK args args'):bq P f args r:=fun S=>(h S).weaken hl.length fun j x y hx hy w σ β v hr=>hl.at j x y hx hy w σ S β v hr
def ac1(row:Bool)(j n:Nat)(es:List (List D))(tm:List (Nat×V)):List (Nat×V):=tm.map fun x=>(x.1,x.2.j4 (C.lab row j n es))
theorem ZP{row:Bool}{j n:Nat}{es:List (List D)}{tm:List (Nat×V)}{t:Nat}:look (ac1 row j n es tm) t=(look tm t).j4 (C.lab row j n es):=DN (f:=V.j4 (C.lab row j n es)) rfl tm t
def WB(j n:Nat)(tm:List (Nat×V))(own:List Obj)(Ω:Store):Option Obj->St
 |some (.eO _ es)=>⟨ac1 true j n es tm,(own.map (Obj.j4 (C.lab true j n es))).set j .dead::Ω⟩
 |some (.jg m _ es)=>⟨ac1 false j m es tm,(own.map (Obj.j4 (C.lab false j m es))).set j .dead::Ω⟩
 |_=>⟨tm,own::Ω⟩
def OJ(j n:Nat)(s:St):St:=
 match s.st with
 |own::Ω=>WB j n s.tm own Ω (own[j]?)
 |[]=>s
def KC:Nat->Nat->St->St
 |0,_,s=>s
 |k+1,n,s=>KC k n (OJ k n s)
def C9(n:Nat)(s:St):St:=
 match s.st with
 |own::_=>KC own.length n s
 |[]=>s
theorem Td(j n:Nat)(s:St):gK N s (OJ j n s):=by
 obtain⟨tm,st⟩:=s
 cases st with
 |nil=>exact gK.refl _ _
 |cons own Ω=>
  show gK N ⟨tm,own::Ω⟩ (WB j n tm own Ω (own[j]?))
  cases ho:own[j]? with
  |none=>exact gK.refl _ _
  |some o=>
   cases o with
   |eO z es=>exact fun a w σ β hR=>Ub j n z es true ho hR
   |jg m z es=>exact fun a w σ β hR=>Ub j m z es false ho hR
   |_=>exact gK.refl _ _
theorem Ic:∀(k n:Nat)(s:St),gK N s (KC k n s)
 |0,n,s=>gK.refl _ _
 |k+1,n,s=>(Td k n s).trans (Ic k n _)
theorem FR(n:Nat)(s:St):gK N s (C9 n s):=by
 unfold C9;split
 ·exact Ic _ _ _
 ·exact gK.refl _ _
theorem ac2{j n:Nat}{tm:List (Nat×V)}{own:List Obj}{Ω:Store}:OJ j n ⟨tm,own::Ω⟩=WB j n tm own Ω (own[j]?):=rfl
theorem ZQ{n:Nat}{tm:List (Nat×V)}{own:List Obj}{Ω:Store}:C9 n ⟨tm,own::Ω⟩=KC own.length n ⟨tm,own::Ω⟩:=rfl
def WC(P:Program)(n:Nat)(rs:List ResultVar)(post:V->Store->Prop)(e:Exit)(s:St):Prop:=aa4 P rs post e (C9 n s)
theorem ac3{n:Nat}{rs:List ResultVar}{post:V->Store->Prop}:WC P n rs post .ret s=Qp P rs post (C9 n s):=rfl
theorem Te{n:Nat}{rs:List ResultVar}{post:V->Store->Prop}:WC P n rs post .normal s=Qp P rs post (C9 n s):=rfl
theorem FT(n:Nat){f:FuncId}{fn:Func}{c:Code}{args:List V}{post:V->Store->Prop}{rs:List ResultVar}(fq:P.follows .mixedOrders=true)(hf:P.funcs[f]? =some fn)(hN:fn.ntmps=N)
 (hb:fn.body=some c) (hn:(fn.name== "runtime.NumGoroutine")=false) (hr:fn.results.toList=rs) (hl:Nat.ble args.length N=true) (hok:codeOk N c=true)
 (h:CW P N c (WC P n rs post) ⟨kE (args.map (V.up 1)) 0,[.seed n]::S⟩):cB P f args S post:=by
 subst hN;subst hr;exact pY hf hb hn (Nat.le_of_ble_eq_true hl) (Ua n (Ak (FR n) (jy fq c _ _ hok h)))
theorem ac4{row:Bool}{j n l i:Nat}{es es':List (List D)}:C.lab row j n es (.bX (1+l,i) es')=.bX (1+l,i) es':=by rw[Nat.add_comm];rfl
theorem ac5{row:Bool}{j n i:Nat}{es es':List (List D)}:C.lab row j n es (.bX (0,i) es')=if i=j/\row=false/\es'.length=es.length then .d (.ol n es) else .bX (0,i) es':=rfl
theorem ac6{row:Bool}{j n l i:Nat}{es:List (List D)}:C.lab row j n es (.iH (1+l,i))=.iH (1+l,i):=by rw[Nat.add_comm];rfl
theorem ac7{row:Bool}{j n i:Nat}{es:List (List D)}:C.lab row j n es (.iH (0,i))=if i=j/\row=true then .d (.ol n es) else .iH (0,i):=rfl
theorem ajK{row:Bool}{j n:Nat}{es:List (List D)}{x:D}:C.lab row j n es (.d x)=.d x:=rfl
theorem afN{row:Bool}{j n:Nat}{es:List (List D)}:C.lab row j n es .any=.any:=rfl
theorem afO{row:Bool}{j n:Nat}{es es':List (List D)}:C.lab row j n es (.bI es')=.bI es':=rfl
theorem afP{row:Bool}{j n m:Nat}{es es':List (List D)}:C.lab row j n es (.nu m es')=.nu m es':=rfl
theorem afQ{row:Bool}{j n off:Nat}{es:List (List D)}{k:Key}:C.lab row j n es (.ptr k off)=.ptr k off:=rfl
theorem ahz{row:Bool}{j n f:Nat}{es:List (List D)}{caps:List (Key×Nat)}:C.lab row j n es (.fn f caps)=.fn f caps:=rfl
theorem ac8{row:Bool}{j n:Nat}{es:List (List D)}{cs:List D}:C.lab row j n es (.kV cs)=.kV cs:=rfl
theorem ac9{ι:Type}{ts:List Nat}{f:ι->List V}{g:ι->Store}{p:ι->Prop}{μ:ι->Nat}{i:ι}{tm:List (Nat×V)}{own:List Obj}{Ω:Store}{m:Nat}(m' n:Nat)(hnd:ts.Nodup)(j:ι)(h1:μ j<μ i)(h2:ts.map (look tm)=f j)(h3:(Obj.seed m'::own.take n)::Ω=g j)
 (hr:ny (n+1) (jC ts (f j))=true)(ho:(own.take n).all (Obj.refs (n+1))=true)(h4:p j):Inv N ts f g p μ i ⟨tm,(.seed m::own)::Ω⟩:=by
 refine⟨j,⟨jC ts (f j),(.seed m'::own.take n)::Ω⟩,h1,?_,?_,h3,h4⟩
 ·have hg:gK N ⟨tm,(.seed m::own)::Ω⟩ ⟨jC ts (f j),(.seed m::own)::Ω⟩:=by
   rw[<-h2];exact IQ fun t=>uX _ ts t
  refine hg.trans ((J3 (n+1) hr ?_).trans (Fz m'));rw[List.take_succ_cons,List.all_cons,ho];rfl
 ·exact Am ts (f j) hnd (by rw[<-h2];simp)
end
attribute [go_sem ↓] ac3 Te ZQ
attribute [go_sem] KC ac2 WB ZP V.j4 Obj.j4 ac4 ac5 ac6 ac7 ajK afN afO afP afQ ahz ac8
section
variable {P:Program} {w w':World} {σ σ':Nat->Nat} {S:Store} {β:Hs}
def qA(w:World)(σ:Nat->Nat)(lo hi b:Nat):Prop:=∃c t fz m,w.heap[b]? =some (.cells c t fz)/\σ b=c.size+1+m/\lo<=m/\m<hi
theorem qA.mono{lo hi lo' hi' b:Nat}(h:qA w σ lo hi b)(h1:lo'<=lo)(h2:hi<=hi'):qA w σ lo' hi' b:=by
 obtain⟨c,t,fz,m,a1,a2,a3,a4⟩:=h;exact⟨c,t,fz,m,a1,a2,by omega,by omega⟩
theorem qA.apart{lo hi lo' hi' b:Nat}(h:qA w σ lo hi b)(h':qA w σ lo' hi' b)(ho:hi<=lo'):False:=by
 obtain⟨c,t,fz,m,a1,a2,a3,a4⟩:=h;obtain⟨c',t',Po,m',b1,b2,b3,b4⟩:=h';rw[a1] at b1;cases b1;omega
abbrev Kids:=List (List (Option Value))
def lK(rows:Kids)(i o:Nat):Option Value:=((rows[i]?).bind fun r=>r[o]?).bind id
def aeB(rows:Kids):Array Value:=(rows.map fun r=>Value.tuple (r.map fun u=>u.getD (.bool false)).toArray).toArray
def mkT(v:Value)(rows:Kids):Value:=.tuple #[v,.tuple (aeB rows)]
theorem Uh{v:Value}{rows:Kids}:hdr (mkT v rows)=some v:=rfl
def IsT(v:Value):Prop:=∃a,v=.tuple a
theorem Mj{v:Value}{rows:Kids}(h:∀i o u,lK rows i o=some u->IsT u)(i o:Nat):kid (mkT v rows) i o=lK rows i o:=by
 have h':=h i o
 unfold kid mkT aeB lK at *
 simp only[List.getElem?_toArray,List.getElem?_cons_succ,List.getElem?_cons_zero,List.getElem?_map]
 cases hr:rows[i]? with
 |none=>rfl
 |some r=>
  rw[hr] at h';simp only[Option.map_some,List.getElem?_toArray,List.getElem?_map]
  cases hu:r[o]? with
  |none=>simp[hu]
  |some u=>
   simp only[Option.bind_some,hu,id] at h'
   cases u with
   |none=>simp[hu]
   |some u=>
    obtain⟨a,rfl⟩:=h' u rfl;simp[hu]
def OL(w:World)(d:D)(v:Value)(u:Option Value):Prop:=
 match d with
 | .sl es=>∃T,u=some T/\IsT T/\hdr T=some v/\oP w es T
 |d=>u=none/\SD d v
theorem QL{z:Nat}:∀{rs:List (List D)}{n:Nat},(∀r∈eu rs n,r.length=z)->∀r∈rs,r.length=z
 |[],_,_,r,h=>by cases h
 |a::rs,n,ha,r,h=>by
  rw[eu] at ha;rcases List.mem_cons.1 h with e|h
  ·subst e;rw[<-jl r n];exact ha _ (by simp)
  ·exact QL (n:=n+uZ a) (fun r hr=>ha r (by simp[hr])) r h
structure aly(w:World)(σ:Nat->Nat)(r:List D)(n m:Nat)(vals:Nat->Value)(us:List (Option Value)):Prop where
 len:us.length=r.length
 cell:∀(j:Nat)(d:D),r[j]? =some d->∃u,us[j]? =some u/\OL w d (vals j) u
 own:∀(j:Nat)(u:Value),us[j]? =some (some u)->∀b,kW u b->qA w σ n m b
 apart:∀(j j':Nat)(u u':Value)(b:Nat),j≠j'->us[j]? =some (some u)->us[j']? =some (some u')->kW u b->kW u' b->False
structure ajL(w:World)(σ:Nat->Nat)(z:Nat)(rs:List (List D))(n m:Nat)(vals:Nat->Value)(U:Kids):Prop where
 cell:∀(i o:Nat)(d:D),cellAt rs i o=some d->∃u,((U[i]?).bind fun r=>r[o]?)=some u/\OL w d (vals (i*z+o)) u
 kid:∀(i o:Nat)(u:Value),lK U i o=some u->∃es,cellAt rs i o=some (.sl es)
 own:∀(i o:Nat)(u:Value),lK U i o=some u->∀b,kW u b->qA w σ n m b
 apart:∀(i o i' o':Nat)(u u':Value)(b:Nat),(i,o)≠(i',o')->lK U i o=some u->lK U i' o'=some u'->kW u b->kW u' b->False
theorem wC{us:List (Option Value)}{U:Kids}{o:Nat}{u:Value}:lK (us::U) 0 o=some u<->us[o]? =some (some u):=by
 show(us[o]?).bind id=some u<->_
 cases us[o]? with
 |none=>simp
 |some x=>simp
mutual
theorem ajM:∀(d:D)(n:Nat)(v:Value),oG d=true->dM w σ (jQ d n) v->∃u,OL w d v u/\∀T,u=some T->∀b,kW T b->qA w σ n (n+qz d) b
 | .sl es,n,v,hp,h=>by
   rw[jQ] at h;have hl:=mM es (n+1);have hrec:=ZR es (n+1);have hrow:=fun z=>QL (z:=z) (rs:=es) (n:=n+1);generalize eu es (n+1)=q at h hl hrec hrow
   have hempty:∀a cap,es=[]->v=.slice a 0 cap->∃u,OL w (.sl es) v u/\∀T,u=some T->∀b,kW T b->qA w σ n (n+qz (.sl es)) b:=by
    rintro a cap rfl rfl
    have hk:∀i o,kid (mkT (.slice a 0 cap) []) i o=none:=fun i o=>by rw[Mj (fun i o u h=>by simp[lK] at h)];simp[lK]
    refine⟨some (mkT (.slice a 0 cap) []),⟨_,rfl,⟨_,rfl⟩,rfl,.nil a cap _ rfl hk⟩,fun T hT b hb=> ?_⟩;cases hT;exfalso
    cases hb with
    |here h1 h2=>rw[Uh] at h1;cases h1;omega
    |kid h1 h2=>rw[hk] at h1;cases h1
   cases h with
   |wZ n a cap=>exact hempty a cap (List.eq_nil_of_length_eq_zero (by simpa using hl.symm)) rfl
   |ol n b off cap z q vals c t hcap hlen hb hσ hfit hc hv hx=>
    by_cases hne:es=[]
    ·subst hne
     have hq0:q.length=0:=by simpa using hl
     exact hempty _ _ rfl (by rw[hq0])
    rw[hl] at hcap hfit hc ⊢;obtain⟨U,hU⟩:=hrec z vals (hrow z hlen) (by simpa [oG] using hp) hv;have hrl:=hrow z hlen
    have hT:∀i o u,lK U i o=some u->IsT u:=fun i o u hu=>by
     obtain⟨es',he⟩:=hU.kid i o u hu;obtain⟨u',h1,h2⟩:=hU.cell i o _ he;obtain⟨T,h3,h4,_⟩:=h2;unfold lK at hu;rw[h1,h3] at hu;cases hu;exact h4
    have sF:∀i o,kid (mkT (.slice (some ⟨b,off,none⟩) es.length cap) U) i o=lK U i o:=Mj hT
    have hcell:∀i o es',cellAt es i o=some (.sl es')->∃T,lK U i o=some T/\hdr T=some (vals (i*z+o))/\oP w es' T:=fun i o es' he=>by
     obtain⟨u',h1,T,h3,h4,h5,h6⟩:=hU.cell i o _ he;refine⟨T,?_,h5,h6⟩;unfold lK;rw[h1,h3];rfl
    have hself:∀x,qA w σ (n+1) (n+1+gQ es) x->x≠b:=by
     rintro x ⟨c',t',Po,m,a1,a2,a3,a4⟩ rfl;rw[hb] at a1;cases a1;omega
    refine⟨some (mkT (.slice (some ⟨b,off,none⟩) es.length cap) U),⟨_,rfl,⟨_,rfl⟩,rfl,?_⟩,fun T hT' x hx=> ?_⟩
    ·refine .mk b off cap z es _ c t (fun i o=>vals (i*z+o)) (fun i o=>(lK U i o).getD undef) rfl hne hcap hrl hb hfit (fun i o d hd=> ?_) (fun i o d hd=> ?_) (fun i o es' he=> ?_) (fun i o es' he=> ?_) (fun i o u hu hb'=> ?_) (fun i o i' o' u u' x hio hu hu' h1 h2=> ?_) (fun i o u hu=> ?_)
     ·obtain⟨hi,ho⟩:=xk hd;rw[hrl _ (List.getElem_mem hi)] at ho;refine hc _ ?_;have:(i+1)*z<=es.length*z:=Nat.mul_le_mul_right _ hi;rw[Nat.add_mul,Nat.one_mul] at this;omega
     ·obtain⟨u,h1,h2⟩:=hU.cell i o d hd
      cases d<;>first|exact .inl ⟨_,rfl⟩|exact .inr h2.2
     ·obtain⟨T,h1,h2,h3⟩:=hcell i o es' he;rw[sF,h1];exact⟨rfl,h2⟩
     ·obtain⟨T,h1,h2,h3⟩:=hcell i o es' he;rw[h1];exact h3
     ·rw[sF] at hu;exact hself b (hU.own i o u hu b hb') rfl
     ·rw[sF] at hu hu';exact hU.apart i o i' o' u u' x hio hu hu' h1 h2
     ·rw[sF] at hu;exact hU.kid i o u hu
    ·cases hT'
     cases hx with
     |here h1 h2=>rw[Uh] at h1;cases h1;exact⟨c,t,(0,0),n,hb,hσ,Nat.le_refl _,by rw[qz];omega⟩
     |kid h1 h2=>
      rw[sF] at h1;exact(hU.own _ _ _ h1 _ h2).mono (by omega) (by rw[qz];omega)
 | .ol m es,n,v,hp,h=>by simp[oG] at hp
 | .b x,n,v,hp,h=>by rw[jQ] at h;cases h;exact⟨none,⟨rfl,rfl⟩,fun T h=>by cases h⟩
 | .i k x,n,v,hp,h=>by rw[jQ] at h;cases h;exact⟨none,⟨rfl,rfl⟩,fun T h=>by cases h⟩
 | .s l,n,v,hp,h=>by rw[jQ] at h;cases h;exact⟨none,⟨rfl,rfl⟩,fun T h=>by cases h⟩
 | .o u,n,v,hp,h=>by simp[oG] at hp
theorem WE:∀(r:List D)(n:Nat)(vals:Nat->Value),jq r=true->(∀(j:Nat)(d:D),(fV r n)[j]? =some d->dM w σ d (vals j))->∃us,aly w σ r n (n+uZ r) vals us
 |[],n,vals,hp,h=>⟨[],rfl,fun j d h=>by simp at h,fun j u h=>by simp at h,fun j j' u u' b _ h=>by simp at h⟩
 |d::r,n,vals,hp,h=>by
  rw[jq,Bool.and_eq_true] at hp;rw[fV] at h;obtain⟨u,h1,h2⟩:=ajM d n (vals 0) hp.1 (h 0 _ rfl);obtain⟨us,wW⟩:=WE r (n+qz d) (fun j=>vals (j+1)) hp.2 fun j x hx=>h (j+1) x hx;rw[uZ];have hown:∀(j:Nat)(T:Value),us[j]? =some (some T)->∀b,kW T b->qA w σ (n+qz d) (n+qz d+uZ r) b:=wW.own;refine⟨u::us,by rw[List.length_cons,List.length_cons,wW.len],fun j x hx=> ?_,fun j T hT b hb=> ?_,fun j j' T T' b hj hT hT' hb hb'=> ?_⟩
  ·cases j with
   |zero=>simp at hx;subst hx;exact⟨u,rfl,h1⟩
   |succ j=>exact wW.cell j x hx
  ·cases j with
   |zero=>simp at hT;exact(h2 T hT b hb).mono (Nat.le_refl _) (by omega)
   |succ j=>exact(hown j T hT b hb).mono (by omega) (by omega)
  ·cases j with
   |zero=>
    cases j' with
    |zero=>exact hj rfl
    |succ j'=>simp at hT;exact(h2 T hT b hb).apart (hown j' T' hT' b hb') (Nat.le_refl _)
   |succ j=>
    cases j' with
    |zero=>simp at hT';exact(h2 T' hT' b hb').apart (hown j T hT b hb) (Nat.le_refl _)
    |succ j'=>exact wW.apart j j' T T' b (by omega) hT hT' hb hb'
theorem ZR:∀(rs:List (List D))(n z:Nat)(vals:Nat->Value),(∀r∈rs,r.length=z)->jG rs=true->(∀(j:Nat)(d:D),(eu rs n).flatten[j]? =some d->dM w σ d (vals j))->∃U,ajL w σ z rs n (n+gQ rs) vals U
 |[],n,z,vals,hz,hp,h=>⟨[],fun i o d h=>by simp[cellAt] at h,fun i o u h=>by simp[lK] at h,fun i o u h=>by simp[lK] at h,fun i o i' o' u u' b _ h=>by simp[lK] at h⟩
 |r::rs,n,z,vals,hz,hp,h=>by
  rw[jG,Bool.and_eq_true] at hp;rw[eu,List.flatten_cons] at h;have hrz:r.length=z:=hz r (by simp);obtain⟨us,wW⟩:=WE r n vals hp.1 fun j d hd=>h j d (by rw[List.getElem?_append_left (List.getElem?_eq_some_iff.1 hd).1];exact hd)
  obtain⟨U,hU⟩:=ZR rs (n+uZ r) z (fun j=>vals (z+j)) (fun r hr=>hz r (by simp[hr])) hp.2 fun j d hd=>h (z+j) d (by
   rw[List.getElem?_append_right (by rw[jl];omega),jl,hrz,Nat.add_sub_cancel_left];exact hd)
  rw[gQ];have hown:∀(i o:Nat)(T:Value),lK U i o=some T->∀b,kW T b->qA w σ (n+uZ r) (n+uZ r+gQ rs) b:=hU.own;refine⟨us::U,fun i o d hd=> ?_,fun i o u hu=> ?_,fun i o T hT b hb=> ?_,fun i o i' o' T T' b hio hT hT' hb hb'=> ?_⟩
  ·cases i with
   |zero=>
    obtain⟨u,h1,h2⟩:=wW.cell o d hd;exact⟨u,h1,by rw[Nat.zero_mul,Nat.zero_add];exact h2⟩
   |succ i=>
    obtain⟨u,h1,h2⟩:=hU.cell i o d hd;exact⟨u,h1,by rw[show(i+1)*z+o=z+(i*z+o) by rw[Nat.add_mul];omega];exact h2⟩
  ·cases i with
   |zero=>
    rw[wC] at hu
    have ho:o<r.length:=by rw[<-wW.len];exact(List.getElem?_eq_some_iff.1 hu).1
    obtain⟨u',h1,h2⟩:=wW.cell o r[o] (List.getElem?_eq_getElem ho);rw[hu] at h1;cases h1;have hc:cellAt (r::rs) 0 o=some r[o]:=List.getElem?_eq_getElem ho;rw[hc];generalize r[o]=d at h2
    cases d<;>first|exact⟨_,rfl⟩|(cases h2.1)
   |succ i=>exact hU.kid i o u hu
  ·cases i with
   |zero=>rw[wC] at hT;exact(wW.own o T hT b hb).mono (Nat.le_refl _) (by omega)
   |succ i=>exact(hown i o T hT b hb).mono (by omega) (by omega)
  ·cases i with
   |zero=>
    rw[wC] at hT
    cases i' with
    |zero=>rw[wC] at hT';exact wW.apart o o' T T' b (fun e=>hio (by rw[e])) hT hT' hb hb'
    |succ i'=>exact(wW.own o T hT b hb).apart (hown i' o' T' hT' b hb') (Nat.le_refl _)
   |succ i=>
    cases i' with
    |zero=>rw[wC] at hT';exact(wW.own o' T' hT' b hb').apart (hown i o T hT b hb) (Nat.le_refl _)
    |succ i'=>exact hU.apart i o i' o' T T' b (fun e=>hio (by cases e;rfl)) hT hT' hb hb'
end
end
section
variable {P:Program} {w w':World} {σ σ':Nat->Nat} {S:Store} {β:Hs}
def KD:D->List (List D)
 | .sl es=>es
 |_=>[]
def aeD(k:Key)(j:Nat):D->C
 | .sl _=>.xp k j []
 |d=>.d d
def I5(k:Key):Nat->List D->List C
 |_,[]=>[]
 |j,d::ds=>aeD k j d::I5 k (j+1) ds
theorem Cj{k:Key}:∀(j:Nat)(r:List D),(I5 k j r).length=r.length
 |_,[]=>rfl
 |j,d::ds=>by rw[I5,List.length_cons,Cj,List.length_cons]
theorem Ui{k:Key}:∀(r:List D)(j i:Nat),(I5 k j r)[i]? =(r[i]?).map (aeD k (j+i))
 |[],j,i=>by simp[I5]
 |d::ds,j,0=>rfl
 |d::ds,j,i+1=>by
  rw[I5,List.getElem?_cons_succ,List.getElem?_cons_succ,Ui ds (j+1) i,show j+1+i=j+(i+1) by omega]
def WG:C->C
 | .d x=>.d x
 | .bI es=>.d (.sl es)
 | .bX _ es=>.d (.sl es)
 | .nu n es=>.d (.ol n es)
 | .kV cs=>.kV cs
 |_=>.any
def OM:V->V
 | .c x=>.c (WG x)
 | .agg cs=>.agg (cs.map WG)
 |_=>.any
theorem Nq{c:C}{v:Value}(h:gF w σ S β c v)(S':Store)(β':Hs):gF w σ S' β' (WG c) v:=by
 cases c with
 |d x=>exact h
 |bI es=>exact h.1
 |bX k es=>exact h.1
 |nu n es=>exact h.1
 |kV cs=>exact h
 |_=>trivial
theorem QM{x:V}{v:Value}(h:dP w σ S β x v)(S':Store)(β':Hs):dP w σ S' β' (OM x) v:=by
 cases x with
 |c x=>exact⟨Nq h.1 _ _,h.2⟩
 |agg cs=>
  obtain⟨a,ha,hl,hc⟩:=h;refine⟨a,ha,by rw[List.length_map];exact hl,fun i x hx=> ?_⟩;rw[List.getElem?_map] at hx
  cases hi:cs[i]? with
  |none=>rw[hi] at hx;cases hx
  |some y=>
   rw[hi] at hx;cases hx;obtain⟨u,q1,q2,q3⟩:=hc i y hi;exact⟨u,q1,Nq q2 _ _,q3⟩
 |_=>trivial
theorem WH(hl:∀b,b<w.heap.size\/σ b=0)(hg:zW w σ):eF w σ [] [] where
 vQ:=hg
 obj:=fun k o h=>by rw[ni] at h;cases h
 apart:=fun k k' o o' h h' b h1=>by rw[ni] at h1;cases h1
 shape:=⟨rfl,fun l fr h=>by simp at h⟩
 live:=hl
theorem Uj{β:Hs}{b:Nat}:¬Own [] β b:=fun⟨k,o,h,h1,_⟩=>by rw[ni] at h1;cases h1
def ahB(mk:List C->V)(m:Nat):Prop:=∀w σ S β cs v,cs.length=m->dP w σ S β (mk cs) v->∃vs,fD w σ S β cs vs/\∀w' σ' S' β' cs',cs'.length=m->fD w' σ' S' β' cs' vs->dP w' σ' S' β' (mk cs') v
def rR:Value:=mkT (.slice none 0 0) []
theorem FU(i o:Nat):kid rR i o=none:=by
 unfold rR;rw[Mj (fun i o u h=>by simp[lK] at h)];simp[lK]
theorem wD{b:Nat}:¬kW rR b:=fun h=>by
 cases h with
 |here h1 h2=>cases h1
 |kid h1 h2=>rw[FU] at h1;cases h1
theorem QN(σ:Nat->Nat):∀n:Nat,∃m,∀b,b<n->σ b<=m
 |0=>⟨0,fun b h=>by omega⟩
 |n+1=>by
  obtain⟨m,hm⟩:=QN σ n;refine⟨max m (σ n),fun b hb=> ?_⟩;by_cases e:b=n
  ·subst e;omega
  ·have:=hm b (by omega);omega
open Classical in
theorem cB.own{f:FuncId}{args:List V}{cO:List Obj}{Ω:Store}{mk:List C->V}{r:List D}(hm:ahB mk r.length)(hp:jq r=true)
 (h:∀n,bq P f (args.map OM) (mk ((fV r n).map .d))):
 cB P f args (cO::Ω) (fun r' S'=>r'=mk (I5 (0,cO.length) 0 r)/\S'=(cO++[.xf (r.map KD)])::Ω):=by
 refine⟨(h 0 []).1,fun w σ β vs hS hargs=> ?_⟩;obtain⟨n,hn⟩:=QN σ w.heap.size
 have ZT:qU w σ [] [] (args.map OM) vs:=by
  refine⟨by rw[List.length_map];exact hargs.1,fun j x hx=> ?_⟩;rw[List.getElem?_map] at hx
  cases ha:args[j]? with
  |none=>rw[ha] at hx;cases hx
  |some y=>
   rw[ha] at hx;cases hx;obtain⟨v,h1,h2⟩:=hargs.2 j y ha;exact⟨v,h1,QM h2 _ _⟩
 refine((h n []).2 w σ [] vs (WH hS.live hS.vQ) ZT).mono fun e w' ⟨v,r',S',σ',β',he,hS',hk,hst,hv,hr',hS2⟩=> ?_;subst hr';subst hS2;obtain⟨us0,hcs,hback⟩:=hm w' σ' _ β' _ v (by rw[List.length_map,jl]) hv
 have alz:us0.length=r.length:=by rw[<-hcs.1,List.length_map,jl]
 obtain⟨us,wW⟩:=WE r n (fun j=>us0.getD j undef) hp (fun j d hd=>by
  obtain⟨u,h1,h2,_⟩:=hcs.2 j (.d d) (by rw[List.getElem?_map,hd];rfl);simp only[List.getD_eq_getElem?_getD,h1,Option.getD_some]
  exact h2)
 let h0:Value:=.tuple (us.map fun u=>u.getD rR).toArray
 have hroot:∀j,rJ h0 j=(us[j]?).map fun u=>u.getD rR:=fun j=>by simp[h0,rJ]
 have hfresh:∀b,zn h0 b->w.heap.size<=b:=by
  rintro b ⟨j,T,h1,h2⟩;rw[hroot] at h1
  cases hu:us[j]? with
  |none=>rw[hu] at h1;cases h1
  |some u=>
   rw[hu] at h1;simp only[Option.map_some,Option.some.injEq] at h1
   cases u with
   |none=>subst h1;exact absurd h2 wD
   |some u=>
    simp at h1;subst h1;obtain⟨c,t,fz,m,a1,a2,a3,a4⟩:=wW.own j u hu b h2;refine Nat.le_of_not_lt fun hlt=> ?_;have h1:=(hst.far b hlt Uj).2;have h2:=hn b hlt;omega
 let σ2:Nat->Nat:=fun b=>if zn h0 b then 0 else σ' b
 have hg:Grow w σ w' σ2:=⟨hst.size,hst.os,hst.output,fun b hb=>by
  obtain⟨h1,h2⟩:=hst.far b hb Uj
  exact⟨h1,(if_neg fun hx=>by have:=hfresh b hx;omega).trans h2⟩,fun b=>by
  rcases hS'.live b with hb|hb
  ·exact .inl hb
  ·right;show(if zn h0 b then 0 else σ' b)=0;rw[hb];split<;>rfl⟩
 cases β with
 |nil=>have:=hS.shape.1;simp at this
 |cons bo bΩ=>
 have hlen:bo.length=cO.length:=by
  obtain⟨gr,g1,g2⟩:=hS.shape.2 0 cO rfl;simp at g1;rw[g1];exact g2
 obtain⟨hS3,hk3,alA⟩:=hS.push (o:=.xf (r.map KD)) (h:=h0) hg hlen (by
  refine⟨fun j es hj=> ?_,fun j T hT=> ?_,fun b hb=>if_pos hb,fun j j' T T' x hjj hT hT' hx hx'=> ?_⟩
  ·rw[List.getElem?_map] at hj
   cases hd:r[j]? with
   |none=>rw[hd] at hj;cases hj
   |some d=>
    rw[hd] at hj;simp only[Option.map_some,Option.some.injEq] at hj;subst hj;obtain⟨u,h1,h2⟩:=wW.cell j d hd;rw[hroot,h1]
    have hsc:(∀es,d≠ .sl es)->∃T,Option.map (fun u=>Option.getD u rR) (some u)=some T/\oP w' (KD d) T:=fun hne=>by
     have hu:u=none:=by cases d<;>first|exact absurd rfl (hne _)|exact h2.1
     have hr0:KD d=[]:=by cases d<;>first|exact absurd rfl (hne _)|rfl
     subst hu;rw[hr0];exact⟨rR,rfl,.nil none 0 _ rfl FU⟩
    cases d with
    |sl es=>obtain⟨T,rfl,_,_,h6⟩:=h2;exact⟨T,rfl,h6⟩
    |_=>exact hsc (fun es e=>by cases e)
  ·rw[List.length_map];rw[hroot] at hT
   cases hu:us[j]? with
   |none=>rw[hu] at hT;cases hT
   |some u=>rw[<-wW.len];exact(List.getElem?_eq_some_iff.1 hu).1
  ·rw[hroot] at hT hT'
   cases hu:us[j]? with
   |none=>rw[hu] at hT;cases hT
   |some u=>
    cases hu':us[j']? with
    |none=>rw[hu'] at hT';cases hT'
    |some u'=>
     rw[hu] at hT;rw[hu'] at hT';simp only[Option.map_some,Option.some.injEq] at hT hT'
     cases u with
     |none=>subst hT;exact wD hx
     |some u=>
      cases u' with
      |none=>subst hT';exact wD hx'
      |some u'=>simp at hT hT';subst hT;subst hT';exact wW.apart j j' u u' x hjj hu hu' hx hx') (fun b hb=>hfresh b hb)
 refine⟨v,_,_,σ2,(bo++[h0])::bΩ,he,hS3,hk3,alA,?_,rfl,rfl⟩;refine hback _ _ _ _ _ (by rw[Cj]) ⟨by rw[Cj,alz],fun j x hx=> ?_⟩;rw[Ui,Nat.zero_add] at hx
 cases hd:r[j]? with
 |none=>rw[hd] at hx;cases hx
 |some d=>
  rw[hd] at hx;simp only[Option.map_some,Option.some.injEq] at hx;obtain⟨u,h1,h2⟩:=wW.cell j d hd
  have hjl:j<(fV r n).length:=by rw[jl];exact(List.getElem?_eq_some_iff.1 hd).1
  obtain⟨v0,h3,_,h4⟩:=hcs.2 j (.d (fV r n)[j]) (by rw[List.getElem?_map,List.getElem?_eq_getElem hjl];rfl)
  have hv0:us0.getD j undef=v0:=by rw[List.getD_eq_getElem?_getD,h3];rfl
  simp only[hv0] at h2;refine⟨v0,h3,?_,h4⟩
  have hsc:(∀es,d≠ .sl es)->gF w' σ2 ((cO++[.xf (r.map KD)])::Ω) ((bo++[h0])::bΩ) (.d d) v0:=fun hne=>by
   have:SD d v0:=by cases d<;>first|exact absurd rfl (hne _)|exact h2.2
   exact O5 this
  cases d with
  |sl es=>
   subst hx;obtain⟨T,rfl,_,h5,_⟩:=h2;refine⟨_,dH _ _ _,fun rs _=>⟨h0,by rw[<-hlen,dH],?_⟩⟩;unfold Gu;rw[hroot,h1];exact h5
  |_=>subst hx;exact hsc (fun es e=>by cases e)
end
section
variable {P:Program} {w w':World} {σ σ':Nat->Nat} {S:Store} {β:Hs}
mutual
theorem alB{σ2:Nat->Nat}(hs:∀b c t fz,w.heap[b]? =some (.cells c t fz)->c.size<σ b->σ2 b=σ b):∀(d:D)(n:Nat)(v:Value),oG d=true->dM w σ (jQ d n) v->dM w σ2 (jQ d n) v
 | .sl es,n,v,hp,h=>by
   rw[jQ] at h ⊢;have hrec:=aeE hs es (n+1);generalize eu es (n+1)=q at h hrec ⊢
   cases h with
   |wZ n a cap=>exact .wZ n a cap
   |ol n b off cap z q vals c t hcap hlen hb hσ hfit hc hv hx=>exact .ol n b off cap z q vals c t hcap hlen hb ((hs b c t _ hb (by omega)).trans hσ) hfit hc (hrec vals (by simpa [oG] using hp) hv) hx
 | .ol m es,n,v,hp,h=>by simp[oG] at hp
 | .b x,n,v,hp,h=>by rw[jQ] at h ⊢;cases h;constructor
 | .i k x,n,v,hp,h=>by rw[jQ] at h ⊢;cases h;constructor
 | .s l,n,v,hp,h=>by rw[jQ] at h ⊢;cases h;constructor
 | .o u,n,v,hp,h=>by simp[oG] at hp
theorem ahD{σ2:Nat->Nat}(hs:∀b c t fz,w.heap[b]? =some (.cells c t fz)->c.size<σ b->σ2 b=σ b):∀(r:List D)(n:Nat)(vals:Nat->Value),jq r=true->(∀(j:Nat)(d:D),(fV r n)[j]? =some d->dM w σ d (vals j))->
 ∀(j:Nat)(d:D),(fV r n)[j]? =some d->dM w σ2 d (vals j)
 |[],n,vals,hp,h,j,d,hd=>by simp[fV] at hd
 |a::r,n,vals,hp,h,j,d,hd=>by
  rw[jq,Bool.and_eq_true] at hp;rw[fV] at h hd
  cases j with
  |zero=>
   simp at hd;subst hd;exact alB hs a n _ hp.1 (h 0 _ rfl)
  |succ j=>exact ahD hs r (n+qz a) (fun i=>vals (i+1)) hp.2 (fun i d hi=>h (i+1) d hi) j d hd
theorem aeE{σ2:Nat->Nat}(hs:∀b c t fz,w.heap[b]? =some (.cells c t fz)->c.size<σ b->σ2 b=σ b):∀(rs:List (List D))(n:Nat)(vals:Nat->Value),jG rs=true->(∀(j:Nat)(d:D),(eu rs n).flatten[j]? =some d->dM w σ d (vals j))->
 ∀(j:Nat)(d:D),(eu rs n).flatten[j]? =some d->dM w σ2 d (vals j)
 |[],n,vals,hp,h,j,d,hd=>by simp[eu] at hd
 |r::rs,n,vals,hp,h,j,d,hd=>by
  rw[jG,Bool.and_eq_true] at hp;rw[eu,List.flatten_cons] at h hd;by_cases hj:j<(fV r n).length
  ·rw[List.getElem?_append_left hj] at hd;exact ahD hs r n vals hp.1 (fun j d hd=>h j d (by rw[List.getElem?_append_left (List.getElem?_eq_some_iff.1 hd).1];exact hd)) j d hd
  ·rw[List.getElem?_append_right (by omega)] at hd;have:=aeE hs rs (n+uZ r) (fun i=>vals ((fV r n).length+i)) hp.2 (fun j d hd=>h _ d (by rw[List.getElem?_append_right (by omega),Nat.add_sub_cancel_left];exact hd)) (j-(fV r n).length) d hd
   rwa [show(fV r n).length+(j-(fV r n).length)=j by omega] at this
end
theorem oP.data{es:List (List D)}{T v:Value}(h:oP w es T)(hv:hdr T=some v)(hσ:∀b c t fz,kW T b->w.heap[b]? =some (.cells c t fz)->c.size<=σ b):dM w σ (.sl es) v:=by
 induction h generalizing v with
 |nil a cap T h hk=>rw[h] at hv;cases hv;exact .nil a cap
 |mk b off cap z es T c t vals kids hh hne hcap hlen hb hfit hc hs hk hx hself hap sF ih=>
  rw[hh] at hv;cases hv;have hpos:0<es.length:=List.length_pos_iff.2 hne;have hfl:=jc es z hlen
  have hidx:∀j,j<es.length*z->∃hi:j/z<es.length,j % z<z/\j/z*z+j % z=j:=fun j hj=>by
   have hz:0<z:=by rcases Nat.eq_zero_or_pos z with h|h;·rw[h] at hj;simp at hj
                   ·exact h
   exact⟨(Nat.div_lt_iff_lt_mul hz).2 hj,Nat.mod_lt _ hz,by rw[Nat.mul_comm];exact Nat.div_add_mod j z⟩
  have hcell:∀j d,es.flatten[j]? =some d->∃hi:j/z<es.length,cellAt es (j/z) (j % z)=some d/\j/z*z+j % z=j:=fun j d hd=>by
   have hj:j<es.length*z:=by rw[<-hfl];exact(List.getElem?_eq_some_iff.1 hd).1
   obtain⟨hi,hm,he⟩:=hidx j hj;refine⟨hi,?_,he⟩;have:=flat_get es z hlen (j/z) (j % z) hi hm;rw[he,hd] at this;unfold cellAt;rw[List.getElem?_eq_getElem hi];exact this.symm
  refine .sl b off cap z es (fun j=>vals (j/z) (j % z)) c t (0,0) hcap hlen hb (Nat.le_trans hfit (hσ b c t _ (.here hh hpos) hb)) (fun j hj=> ?_) (fun j d hd=> ?_)
  ·obtain⟨hi,hce,he⟩:=hcell j _ (List.getElem?_eq_getElem (by rw[hfl];exact hj));have:=hc _ _ _ hce
   rwa [he] at this
  ·obtain⟨hi,hce,he⟩:=hcell j d hd;rcases hs _ _ _ hce with⟨es',rfl⟩|hsd
   ·obtain⟨k1,k2⟩:=hk _ _ _ hce;exact ih _ _ _ hce k2 fun b' c' t' Po ho hb'=>hσ b' c' t' Po (.kid k1 ho) hb'
   ·exact O5 hsd
end
section
variable {P:Program} {w w':World} {σ σ':Nat->Nat} {S:Store} {β:Hs}
end
end Go.Ab