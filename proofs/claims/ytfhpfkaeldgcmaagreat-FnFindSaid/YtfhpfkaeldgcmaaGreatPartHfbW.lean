/-
  SEVERAL TEXTS IN ONE (merged by program): contracts and models, each with its own heading.
-/
import Derived.Test.YtfhpfkaeldgcmaaGreatPartHfbK
import Derived.Test.YtfhpfkaeldgcmaaGreatPartHfbN
open Go.Proofs Go.Proofs.Tryz
set_option linter.unusedSimpArgs false
set_option linter.unusedVariables false
set_option maxRecDepth 4000
namespace Go.Ab
def dM(l:List au)(i:Nat):List UInt8:=(l.getD i dz).bK
theorem Am{l:List au}{i:Nat}(h:i<l.length):dM l i=l[i].bK:=by simp[dM,List.getD,h]
theorem DN{l:List au}{i:Nat}(h:l.length<=i):dM l i=[]:=by simp[dM,List.getD,h];rfl
def gy(l:List au):List (List UInt8):=if l.all (fun x=>decide (x.bK≠[]))=true then l.map au.bK else []
theorem mZ:∀{vs:List (List UInt8)},(∀v∈vs,v≠[])->gy (dn vs)=vs:=fun {vs} h=>by
 unfold gy dn;rw[if_pos (List.all_eq_true.2 fun x hx=> ?_),List.map_map]
 ·conv=>rhs;rw[<-List.map_id vs]
  rfl
 ·obtain⟨v,hv,rfl⟩:=List.mem_map.1 hx;exact decide_eq_true (h v hv)
theorem R6:∀l:List au,((l.map au.bK).map List.length).sum<=dK l
 |[]=>by simp[dK]
 |x::l=>by
  have:=R6 l;rw[List.map_cons,List.map_cons,List.sum_cons,dK,iX];omega
theorem nW(l:List au):(gy l).length<=l.length/\((gy l).map List.length).sum<=dK l:=by
 unfold gy;split
 ·refine⟨by simp,?_⟩;exact R6 l
 ·simp
mutual
def eT(b:Bool):au->ay
 | .mk a l=>if a=[] then
    if l.length<2 then .mk 0 [] []
    else if dM l 0=Et/\(b=true\/l.length=2/\dM l 1≠[]) then .mk 4 (dM l 1) []
    else if dM l 0=je/\(b=true\/l.length=3/\dM l 1≠[]) then .mk 3 (dM l 1) ((nQ b l).drop 2)
    else .mk 2 (dM l 0) ((nQ b l).drop 1)
   else if a.head? =some 39 then .mk 1 a.tail [] else .mk 2 a []
def nQ(b:Bool):List au->List ay
 |[]=>[]
 |x::xs=>eT b x::nQ b xs
end
theorem wB(b:Bool):∀l,nQ b l=l.map (eT b)
 |[]=>rfl
 |t::ts=>by rw[nQ,List.map_cons,wB b ts]
theorem agX(b:Bool)(x:au):eT b x=if x.bK=[] then
 if x.aA.length<2 then .mk 0 [] []
 else if dM x.aA 0=Et/\(b=true\/x.aA.length=2/\dM x.aA 1≠[]) then .mk 4 (dM x.aA 1) []
 else if dM x.aA 0=je/\(b=true\/x.aA.length=3/\dM x.aA 1≠[]) then .mk 3 (dM x.aA 1) ((x.aA.map (eT b)).drop 2)
 else .mk 2 (dM x.aA 0) ((x.aA.map (eT b)).drop 1)
 else if x.bK.head? =some 39 then .mk 1 x.bK.tail [] else .mk 2 x.bK []:=by
 cases x;rw[eT,wB];rfl
theorem LD:∀a b,oz (a++b)=oz a+oz b
 |[],b=>by simp[oz]
 |x::a,b=>by rw[List.cons_append,oz,oz,LD a b];omega
theorem R7(l:List ay)(i:Nat):oz (l.drop i)<=oz l:=by
 have:=LD (l.take i) (l.drop i);rw[List.take_append_drop] at this;omega
theorem R8(l:List au)(i:Nat):dK (l.drop i)<=dK l:=by
 have:=jY (l.take i) (l.drop i);rw[List.take_append_drop] at this;omega
theorem aaV(l:List au)(i:Nat):(dM l i).length<=dK l:=by
 by_cases h:i<l.length
 ·rw[Am h];have h1:=kY (List.getElem_mem h);rw[iX] at h1;omega
 ·rw[DN (by omega)];simp
mutual
theorem wC(b:Bool):∀x:au,(eT b x).sz<=x.sz
 | .mk a l=>by
   have h1:=EK b l;have h2:=R7 (nQ b l) 2;have h3:=R7 (nQ b l) 1;have h4:=aaV l 0;have h5:=aaV l 1
   have h6:(nQ b l).length=l.length:=by rw[wB,List.length_map]
   rw[iX,kg];simp only[au.bK,au.aA];rw[eT];split
   ·split
    ·rw[uq];simp[ay.fName,ay.fArgs,oz]
    ·split
     ·rw[uq];simp[ay.fName,ay.fArgs,oz];omega
     ·have g0:=Ci b l 0;have g1:=Ci b l 1;simp only[Nat.zero_add,Nat.reduceAdd] at g0 g1;split
      ·rw[uq];simp only[ay.fName,ay.fArgs,List.length_drop,h6];omega
      ·rw[uq];simp only[ay.fName,ay.fArgs,List.length_drop,h6];omega
   ·split
    ·rw[uq];simp[ay.fName,ay.fArgs,oz];omega
    ·rw[uq];simp[ay.fName,ay.fArgs,oz]
theorem EK(b:Bool):∀l:List au,oz (nQ b l)<=dK l
 |[]=>by simp[nQ,oz]
 |x::xs=>by
  have h1:=wC b x;have h2:=EK b xs;rw[nQ,oz,dK];omega
theorem Ci(b:Bool):∀(l:List au)(i:Nat),oz ((nQ b l).drop (i+1))+(dM l i).length<=dK l
 |[],i=>by simp[nQ,oz,DN]
 |x::xs,0=>by
  have h2:=EK b xs;rw[nQ,List.drop_succ_cons,List.drop_zero,dK,show dM (x::xs) 0=x.bK from rfl,iX];omega
 |x::xs,i+1=>by
  have h2:=Ci b xs i;rw[nQ,List.drop_succ_cons,dK,show dM (x::xs) (i+1)=dM xs i from rfl];omega
end
theorem DR{s:List UInt8}(h:validName s=true):s≠[]:=fun e=>by rw[e] at h;have:=gP h;simp at this
theorem aaW{s:List UInt8}(h:validName s=true):s.head? ≠some 39:=fun e=>by
 have h1:=gP h;have h2:=h1.2.2 0 (by omega)
 cases s with
 |nil=>cases e
 |cons c s=>
  simp only[List.head?_cons,Option.some.injEq] at e;subst e;simp[lowerB,y7] at h2
theorem ael{s:List UInt8}(h:validName s=true):s≠Et/\s≠je:=by
 have h1:=(gP h).2.1;refine⟨fun e=>h1 (by rw[e];simp[reserved,Et]),fun e=>h1 (by rw[e];simp[reserved,je])⟩
mutual
theorem uS(b:Bool):∀t:ay,formed t=true->eT b (dR t)=t
 | .mk k n zs=>fun hf=>by
   rw[formed,Bool.and_eq_true] at hf;have hfi:=gP hf.1;have hzs:=JU b zs hf.2;rw[dR];by_cases h1:k=1
   ·have hz:zs=[]:=by
     have:zs.length=0:=by omega
     exact List.eq_nil_of_length_eq_zero this
    rw[if_pos h1,bR,eT,if_neg (by simp),if_pos (by simp),hz,h1];rfl
   rw[if_neg h1];by_cases h4:k=4
   ·have hz:zs=[]:=by
     have:zs.length=0:=by omega
     exact List.eq_nil_of_length_eq_zero this
    have hn:validName n=true:=by
     rcases hfi with h|h|h
     ·exact h.2.1
     ·exact h.2.1
     ·omega
    rw[if_pos h4,eD,eT,if_pos rfl,if_neg (by simp),if_pos ⟨rfl,.inr ⟨rfl,DR hn⟩⟩,hz,h4];rfl
   rw[if_neg h4];by_cases h2:k=2/\zs.length=0
   ·have hz:zs=[]:=List.eq_nil_of_length_eq_zero h2.2
    have hn:n≠[]/\n.head? ≠some 39:=by
     rcases hfi with h|h|h
     ·omega
     ·omega
     ·rcases h.2 with g|g
      ·exact⟨DR g.1,aaW g.1⟩
      ·rcases gP g.1 with e|e<;>rw[e]<;>simp
    rw[if_pos h2,bR,eT,if_neg hn.1,if_neg hn.2,hz,h2.1]
   rw[if_neg h2];by_cases h3:k=3
   ·have hz:zs.length=1/\validName n=true:=by
     rcases hfi with h|h|h
     ·omega
     ·exact⟨h.2.2,h.2.1⟩
     ·omega
    rw[if_pos h3,eD,eT,if_pos rfl,if_neg (by simp),if_neg (fun h=>by have:=h.1;simp[dM,bR,au.bK,Et,je] at this),if_pos ⟨rfl,.inr ⟨by rw[uo];simp[hz.1],DR hz.2⟩⟩];show ay.mk 3 n (nQ b (Bf zs))=_;rw[hzs,h3]
   ·have hn:validName n=true/\zs≠[]:=by
     rcases hfi with h|h|h
     ·omega
     ·omega
     ·rcases h.2 with g|g
      ·exact⟨g.1,fun e=>h2 ⟨h.1,by rw[e];rfl⟩⟩
      ·exact(h2 ⟨h.1,g.2⟩).elim
    have hk:k=2:=by
     rcases hfi with h|h|h
     ·omega
     ·omega
     ·exact h.1
    have hd:=ael hn.1;rw[if_neg h3,eD,eT,if_pos rfl,if_neg (by rw[uo];cases zs with|nil=>exact(hn.2 rfl).elim|cons z zs=>simp),if_neg (fun h=>hd.1 h.1),if_neg (fun h=>hd.2 h.1)];show ay.mk 2 n (nQ b (Bf zs))=_;rw[hzs,hk]
theorem JU(b:Bool):∀ts:List ay,kD ts=true->nQ b (Bf ts)=ts
 |[],_=>rfl
 |t::ts,h=>by
  rw[kD,Bool.and_eq_true] at h;rw[Bf,nQ,uS b t h.1,JU b ts h.2]
end
theorem CX(b:Bool){ts:List ay}(h:kD ts=true):(ts.map dR).map (eT b)=ts:=by
 have:=JU b ts h;rw[wB,uo] at this;exact this
def CY(b:Bool)(y:au):aH:=⟨dM y.aA 0,(y.aA.drop 1).map (eT b)⟩
def oH(b:Bool)(x:au):aR:=⟨dM x.aA 1,gy (x.aA.getD 2 dz).aA,(x.aA.drop 3).map (CY b)⟩
theorem yA{vs:List (List UInt8)}(h:iT vs=true):∀v∈vs,v≠[]:=fun v hv=>by
 unfold iT at h;rw[Bool.and_eq_true] at h;exact DR (List.all_eq_true.1 h.2 v hv)
theorem agY(b:Bool){c:aH}(h:kD c.gH=true):CY b (IV c)=c:=by
 show aH.mk c.fName ((c.gH.map dR).map (eT b))=c;rw[CX b h]
theorem Ni{d:aR}(h:iQ d=true):∀v∈d.aS,v≠[]:=by
 unfold iQ at h;simp only[Bool.and_eq_true] at h;exact yA (by simp_all)
theorem Nj(b:Bool){d:aR}(h:iQ d=true):oH b (IW d)=d:=by
 show aR.mk d.fName (gy (dn d.aS)) ((d.aF.map IV).map (CY b))=d;rw[mZ (Ni h),List.map_map,show d.aF.map (CY b∘IV)=d.aF.map id from List.map_congr_left (fun c hc=>agY b (M9 h c hc)),List.map_id]
theorem aem(d:aR):3<=(IW d).aA.length/\dM (IW d).aA 0=vC:=⟨by rw[IW,iy];simp[baseD],rfl⟩
noncomputable def okD(x:au):Bool:=dec (iU x=true/\3<=x.aA.length/\dM x.aA 0=vC/\iQ (oH true x)=true/\IW (oH true x)=x)
noncomputable def xD(x:au):aR:=if okD x=true then oH true x else⟨[],[],[]⟩
theorem EL:dz.sz=0:=by rw[iX];simp[dz,au.bK,au.aA,aN]
theorem R9{b:Bool}{s x:au}(h:uw b s=x)(hx:x.aA≠[]):b=true/\s=x/\iU x=true:=by
 cases b with
 |false=>rw[<-h] at hx;exact(hx rfl).elim
 |true=>
  rw[uw] at h;unfold Bg at h;split at h
  ·rename_i hv;exact⟨rfl,h,by rw[<-h];exact hv⟩
  ·rw[<-h] at hx;exact(hx rfl).elim
theorem aen{x:au}(hx:x.aA≠[]):okD x=(iU x&&dec (RH (oH false x)=x)):=by
 cases hv:iU x with
 |false=>exact bM fun h=>by rw[hv] at h;cases h.1
 |true=>
  rw[Bool.true_and];refine kX ⟨fun⟨_,h1,h2,h3,h4⟩=> ?_,fun h=> ?_⟩
  ·have e:oH false x=oH true x:=by conv=>lhs;rw[<-h4]
                                   exact Nj false h3
   rw[e,RH,h3,h4,uw,Bg,if_pos hv]
  ·obtain⟨h1,h2,_⟩:=R9 h hx
   have e:oH true x=oH false x:=by conv=>lhs;rw[<-h2]
                                   exact Nj true h1
   have:=aem (oH false x);rw[h2] at this;rw[e];exact⟨hv,this.1,this.2,h1,h2⟩
theorem aeo{x:au}(h:okD x=true):oH false x=oH true x:=by
 have h1:=gP h
 conv=>lhs;rw[<-h1.2.2.2.2]
 exact Nj false h1.2.2.2.1
theorem agZ(b:Bool)(y:au):(CY b y).sz<=y.sz:=by
 have h:=Ci b y.aA 0;rw[wB] at h;rw[wo,iX,kg];simp only[CY,List.length_map,List.length_drop,<-List.map_drop,Nat.zero_add] at h ⊢;omega
theorem Sb(b:Bool):∀l:List au,zJ (l.map (CY b))<=dK l
 |[]=>by simp[zJ]
 |y::l=>by
  have h1:=agZ b y;have h2:=Sb b l;rw[List.map_cons,zJ,dK];omega
theorem Yk(l:List au):(dM l 1).length+((l.getD 2 dz).aA.length+dK (l.getD 2 dz).aA)+dK (l.drop 3)<=dK l:=by
 match l with
 |[]=>simp[dM,dK,dz,au.bK,au.aA]
 |[x]=>simp[dM,dK,dz,au.bK,au.aA]
 |[x,y]=>
  simp only[dK,iX y];simp[dM,dK,dz,au.bK,au.aA];omega
 |x::y::z::l=>
  simp only[dK,iX y,iX z,kg];simp[dM];omega
theorem Vo(b:Bool)(x:au):(oH b x).sz<=x.sz:=by
 have h1:=Sb b (x.aA.drop 3);have h2:=nW (x.aA.getD 2 dz).aA;have h3:=Yk x.aA;rw[pR,iX,kg];simp only[oH,List.length_map,List.length_drop];omega
theorem aiU{x:au}{i:Nat}(hi:i<x.aA.length)(h:x.sz<=4194304):x.aA[i].sz<=4194304:=by
 have:=kY (List.getElem_mem hi);rw[iX,kg] at h;omega
theorem aiV{x:au}(h:x.sz<=4194304):x.bK.length<=4194304/\x.aA.length<=4194304:=by
 rw[iX] at h;omega
theorem zi:∀n:Nat,∀x:au,SizeOf.sizeOf x<n->∀y:au,x.sz<=4194304->bg prog 253 [x.v,y.v] (.c (.d (.b (dec (x=y)))))
 |0=>fun x h=>by omega
 |n+1=>by
  have ih:=zi n;intro x hn y hsz S;have an4:=au.Dq x;have hb:=aiV hsz;refine zcx [.tmp 4] func253 ntmps253 ?_;simp -implicitDefEqProofs (disch:=omega) only[go_sem]
  with_reducible refine aD (fun hb=> ?_) (fun hb=> ?_)<;>have h:=hb<;>(try simp only[wf_preprocess] at h)<;>simp -implicitDefEqProofs (disch:=omega) only[go_sem,hb]<;>(repeat(with_reducible refine And.intro ?_ ?_;focus first|omega|rfl|assumption|exact⟨_,rfl,rfl⟩|(simp;omega)|(simp;done)))
  ·exact bN (bM (fun e=>h (by rw[e]))).symm
  have h1:=h
  with_reducible refine aD (fun hb=> ?_) (fun hb=> ?_)<;>have h:=hb<;>(try simp only[wf_preprocess] at h)<;>simp -implicitDefEqProofs (disch:=omega) only[go_sem,hb]<;>(repeat(with_reducible refine And.intro ?_ ?_;focus first|omega|rfl|assumption|exact⟨_,rfl,rfl⟩|(simp;omega)|(simp;done)))
  ·exact bN (bM (fun e=>h (by rw[e]))).symm
  have hl:x.aA.length=y.aA.length:=by omega
  refine bO (ι:=Nat) zmx rfl [2,3,5] (fun i=>[.c (.ptr (0,0) 0),.c (.ptr (0,1) 0),.c (.d (.i .i64 i))]) (fun i=>[.box [.d (.s x.bK),.d (.sl (x.aA.map au.enc))],.box [.d (.s y.bK),.d (.sl (y.aA.map au.enc))]]::S)
   (fun i=>i<=x.aA.length/\∀j,j<i->x.aA[j]? =y.aA[j]?) (fun i=>x.aA.length-i) 0 rfl rfl ⟨Nat.zero_le _,fun j h=>by omega⟩ ?_
  rintro i ⟨p1,p2⟩;simp -implicitDefEqProofs (disch:=omega) only[go_sem,au.aj]
  with_reducible refine aD (fun hb=> ?_) (fun hb=> ?_)<;>have h:=hb<;>(try simp only[wf_preprocess] at h)<;>simp -implicitDefEqProofs (disch:=omega) only[go_sem,hb]<;>(repeat(with_reducible refine And.intro ?_ ?_;focus first|omega|rfl|assumption|exact⟨_,rfl,rfl⟩|(simp;omega)|(simp;done)))
  ·have hi:i<x.aA.length:=by omega
   have hi':i<y.aA.length:=by omega
   (repeat(with_reducible refine And.intro ?_ ?_;focus first|omega|rfl|assumption|exact⟨_,rfl,rfl⟩|(simp;omega)|(simp;done)))
   refine aB (ih x.aA[i] (by have:=List.sizeOf_lt_of_mem (List.getElem_mem hi);omega) y.aA[i] (aiU hi hsz)) ?_;simp -implicitDefEqProofs (disch:=omega) only[go_sem]
   with_reducible refine aD (fun hb=> ?_) (fun hb=> ?_)<;>have h:=hb<;>(try simp only[wf_preprocess] at h)<;>simp -implicitDefEqProofs (disch:=omega) only[go_sem,hb]<;>(repeat(with_reducible refine And.intro ?_ ?_;focus first|omega|rfl|assumption|exact⟨_,rfl,rfl⟩|(simp;omega)|(simp;done)))
   ·exact bN (bM (fun e=>h (by simp only[e]))).symm
   refine cZ (i+1) (by omega) rfl rfl ⟨by omega,fun j hj=> ?_⟩;by_cases e:j=i
   ·subst e;rw[List.getElem?_eq_getElem hi,List.getElem?_eq_getElem hi',h]
   ·exact p2 j (by omega)
  ·have hi:i=x.aA.length:=by omega
   refine bN (dH ?_).symm;refine au.ext (by first|exact h1|(simp at h1;exact h1)) (List.ext_getElem? fun j=> ?_);by_cases hj:j<i
   ·exact p2 j hj
   ·rw[List.getElem?_eq_none (by omega),List.getElem?_eq_none (by omega)]
theorem qA(x y:au)(h:x.sz<=4194304):bg prog 253 [x.v,y.v] (.c (.d (.b (dec (x=y))))):=zi _ x (Nat.lt_succ_self _) y h
theorem I8{α:Type}[SizeOf α]:∀(i:Nat)(l:List α),SizeOf.sizeOf (l.drop i)<=SizeOf.sizeOf l
 |0,l=>by simp
 |i+1,[]=>by simp
 |i+1,x::l=>by
  have:=I8 i l;rw[List.drop_succ_cons];simp only[List.cons.sizeOf_spec];omega
theorem GH(l:List au)(n i:Nat)(h:l.length<=n):((l.map au.enc).take n).drop i=(l.drop i).map au.enc:=by
 rw[List.take_of_length_le (by rw[List.length_map];exact h),List.map_drop]
theorem yB(l:List au)(i:Nat):(l.getD i dz).sz<=dK l:=by
 rw[List.getD_eq_getElem?_getD];by_cases h:i<l.length
 ·rw[List.getElem?_eq_getElem h];exact kY (List.getElem_mem h)
 ·rw[List.getElem?_eq_none (by omega)];rw[Option.getD_none,iX];simp[dz,au.bK,au.aA,aN]
theorem gV(x:au):x.aA.length+dK x.aA<=x.sz:=by rw[iX,kg];omega
theorem EM(x:au):x.bK.length<=x.sz:=by rw[iX];omega
def Ao(x:au):List D:=[.s x.bK]
def allA(l:List au):Bool:=l.all fun x=>decide (x.bK≠[])
theorem ag0{l:List au}{i:Nat}(hi:i<l.length)(h:l[i].bK=[]):allA l=false/\gy l=[]:=by
 have:allA l=false:=by
  unfold allA;rw[List.all_eq_false];exact⟨_,List.getElem_mem hi,by simp[h]⟩
 refine⟨this,?_⟩;unfold gy;unfold allA at this;rw[this];rfl
theorem aep{l:List au}(h:∀j (hj:j<l.length),l[j].bK≠[]):allA l=true/\(gy l).map encS=l.map Ao:=by
 have:allA l=true:=by
  unfold allA;rw[List.all_eq_true];intro x hx;obtain⟨j,hj,rfl⟩:=List.getElem_of_mem hx;exact decide_eq_true (h j hj)
 refine⟨this,?_⟩;unfold gy;unfold allA at this;rw[this,if_pos rfl,List.map_map];rfl
theorem Sc{l:List au}{i:Nat}(hi:i<l.length):(l.take i).map Ao++[[.s l[i].bK]]=(l.take (i+1)).map Ao:=by
 rw[List.take_succ_eq_append_getElem hi,List.map_append];rfl
theorem Us{l:List au}{i:Nat}:((l.take i).map Ao).length<=i:=by rw[List.length_map];exact List.length_take_le _ _
def lt(l:List ay)(n:Nat):List (List D):=eU (l.map ay.enc) n
def qB(l:List ay):Nat:=gQ (l.map ay.enc)
theorem Oz{l:List ay}{i:Nat}(hi:i<l.length):(l.take i).map ay.enc++[[.i .i64 l[i].aV,.s l[i].fName,.sl (l[i].fArgs.map ay.enc)]]=(l.take (i+1)).map ay.enc:=by
 rw[List.take_succ_eq_append_getElem hi,List.map_append];simp only[List.map_cons,List.map_nil,ay.aj]
theorem Vp(k:Int)(s:List UInt8)(es:List (List D)):Less (.agg [.d (.i .i64 k),.d (.s s),.bI es]) (.agg [.d (.i .i64 k),.d (.s s),.d (.sl es)]):=(gD.cons (.refl _) (.cons (.refl _) (.cons (eO es) .nil))).less
theorem aiW{s:List UInt8}(h:s≠[]):((s.getD 0 0).toNat:Int)=39<->s.head? =some 39:=by
 cases s with
 |nil=>exact(h rfl).elim
 |cons b s=>
  simp only[List.getD_cons_zero,List.head?_cons,Option.some.injEq];constructor
  ·intro e
   have:b.toNat=39:=by omega
   exact UInt8.toNat.inj this
  ·intro e;rw[e];rfl
theorem Yl(s:List UInt8)(n:Nat)(h:s.length<=n):(s.take n).drop 1=s.tail:=by rw[List.take_of_length_le h,List.drop_one]
abbrev ay.vl(t:ay)(n:Nat):V:=.agg [.d (.i .i64 t.aV),.d (.s t.fName),.d (.ol n (lt t.fArgs (n+1)))]
theorem aiX{b:Bool}{x:au}{r:V}{k:Int}{s:List UInt8}{l:List ay}(h:eT b x=.mk k s l)(hl:Less r (.agg [.d (.i .i64 k),.d (.s s),.d (.sl (l.map ay.enc))])):Less r (eT b x).v:=by rw[h];exact hl
theorem afu{b:Bool}{x:au}{k:Int}{s:List UInt8}(h:eT b x=.mk k s []):Less (.agg [.d (.i .i64 k),.d (.s s),.bI []]) (eT b x).v:=by rw[h];exact Vp k s []
theorem afv{b:Bool}{x:au}{k:Int}{s:List UInt8}(h:eT b x=.mk k s []):Less (.agg [.d (.i .i64 k),.d (.s s),.d (.sl [])]) (eT b x).v:=by rw[h];exact jE _
theorem Bu(xs:List au)(hx:xs.length<=1073741824):bg prog 219 [.c (.d (.sl (xs.map au.enc)))] (.eu [(false,[.d (.sl ((gy xs).map encS))]),(false,[.d (.b (allA xs))])]):=bg.of_le fun S=>by
 refine zcx [.tmp 2,.tmp 3] func219 ntmps219 ?_;simp -implicitDefEqProofs (disch:=omega) only[go_sem]
 (repeat(with_reducible refine And.intro ?_ ?_;focus first|omega|rfl|assumption|exact⟨_,rfl,rfl⟩|(simp;omega)|(simp;done)))
 refine iZ 4 1 [] rfl (by simp) ?_
 refine bO (ι:=Nat) zmx rfl [0,4,5] (fun i=>[.c (.d (.sl (xs.map au.enc))),.c (.bS (0,0) ((xs.take i).map Ao)),.c (.d (.i .i64 i))]) (fun i=>[.tok 1 ((xs.take i).map Ao)]::S)
  (fun i=>i<=xs.length/\∀j,∀hj:j<xs.length,j<i->xs[j].bK≠[]) (fun i=>xs.length-i) 0 rfl rfl ⟨Nat.zero_le _,fun j _ h=>by omega⟩ ?_
 rintro i ⟨p1,p2⟩;have hl:=Us (l:=xs) (i:=i);simp -implicitDefEqProofs (disch:=omega) only[go_sem,au.aj]
 with_reducible refine aD (fun hb=> ?_) (fun hb=> ?_)<;>have h:=hb<;>(try simp only[wf_preprocess] at h)<;>simp -implicitDefEqProofs (disch:=omega) only[go_sem,hb]<;>(repeat(with_reducible refine And.intro ?_ ?_;focus first|omega|rfl|assumption|exact⟨_,rfl,rfl⟩|(simp;omega)|(simp;done)))
 ·have hi':i<xs.length:=by omega
  have hs:=Sc hi'
  (repeat(with_reducible refine And.intro ?_ ?_;focus first|omega|rfl|assumption|exact⟨_,rfl,rfl⟩|(simp;omega)|(simp;done)))
  with_reducible refine aD (fun hb=> ?_) (fun hb=> ?_)<;>have h:=hb<;>(try simp only[wf_preprocess] at h)<;>simp -implicitDefEqProofs (disch:=omega) only[go_sem,hb]<;>(repeat(with_reducible refine And.intro ?_ ?_;focus first|omega|rfl|assumption|exact⟨_,rfl,rfl⟩|(simp;omega)|(simp;done)))
  ·obtain⟨e1,e2⟩:=ag0 hi' h;rw[e1,e2];exact(jZ.cons (.cons (eO _) .nil) (.refl _)).less
  ·(repeat(with_reducible refine And.intro ?_ ?_;focus first|omega|rfl|assumption|exact⟨_,rfl,rfl⟩|(simp;omega)|(simp;done)))
   rw[hs];refine cZ (i+1) (by omega) rfl rfl ⟨by omega,fun j hj hji=> ?_⟩;by_cases e':j=i
   ·subst e';exact h
   ·exact p2 j hj (by omega)
 ·have hi':i=xs.length:=by omega
  subst hi';obtain⟨e1,e2⟩:=aep fun j hj=>p2 j hj hj;rw[e1,e2,List.take_length];exact jE _
theorem oI(x:au)(hx:x.sz<=4194304):bg prog 248 [x.v] (.c (.d (.sl ((gy x.aA).map encS)))):=fun S=>by
 have:=gV x;refine zcx [.tmp 2] func248 ntmps248 ?_;simp -implicitDefEqProofs (disch:=omega) only[go_sem];refine aB (Bu x.aA (by omega)) ?_;simp -implicitDefEqProofs (disch:=omega) only[go_sem]
theorem eX(x:au)(i:Nat)(hx:x.sz<=4194304)(hi:i<=100):bg prog 220 [x.v,.c (.d (.i .i64 i))] (x.aA.getD i dz).v:=bg.of_le fun S=>by
 have:=gV x;refine zcx [.cell 4 202] func220 ntmps220 ?_;simp -implicitDefEqProofs (disch:=omega) only[go_sem]
 with_reducible refine aD (fun hb=> ?_) (fun hb=> ?_)<;>have h:=hb<;>(try simp only[wf_preprocess] at h)<;>simp -implicitDefEqProofs (disch:=omega) only[go_sem,hb]<;>(repeat(with_reducible refine And.intro ?_ ?_;focus first|omega|rfl|assumption|exact⟨_,rfl,rfl⟩|(simp;omega)|(simp;done)))
 ·rw[List.getD_eq_getElem?_getD,List.getElem?_eq_none (by omega)];exact(gD.cons (.refl _) (.cons (eO _) .nil)).less
 ·have hi:i<x.aA.length:=by omega
  rw[List.getD_eq_getElem?_getD,List.getElem?_eq_getElem hi];exact jE _
theorem rY(a b:Int):bg prog 261 [.c (.d (.i .i64 a)),.c (.d (.i .i64 b))] (.c (.d (.i .i64 (min a b)))):=fun S=>by
 refine zcx [.tmp 4] func261 ntmps261 ?_;simp -implicitDefEqProofs (disch:=omega) only[go_sem]
 with_reducible refine aD (fun hb=> ?_) (fun hb=> ?_)<;>have h:=hb<;>(try simp only[wf_preprocess] at h)<;>simp -implicitDefEqProofs (disch:=omega) only[go_sem,hb]<;>(repeat(with_reducible refine And.intro ?_ ?_;focus first|omega|rfl|assumption|exact⟨_,rfl,rfl⟩|(simp;omega)|(simp;done)))
 ·exact int_eq (by omega)
 ·exact int_eq (by omega)
theorem vw(x:au)(i:Nat)(hx:x.sz<=4194304):bg prog 249 [x.v,.c (.d (.i .i64 i))] (.c (.d (.sl ((x.aA.drop i).map au.enc)))):=fun S=>by
 have:=gV x;refine zcx [.tmp 4] func249 ntmps249 ?_;simp -implicitDefEqProofs (disch:=omega) only[go_sem];refine aB (rY _ _) ?_
 have e:min (i:Int) (x.aA.length:Int)=((min i x.aA.length:Nat):Int):=by omega
 rw[e];have hr:=jk (l:=x.aA);simp -implicitDefEqProofs (disch:=omega) only[go_sem]
 (repeat(with_reducible refine And.intro ?_ ?_;focus first|omega|rfl|assumption|exact⟨_,rfl,rfl⟩|(simp;omega)|(simp;done)))
 refine⟨⟨by omega,by omega,by omega,hr⟩,?_⟩;rw[GH _ _ _ (Nat.le_refl _)];by_cases h:i<=x.aA.length
 ·rw[Nat.min_eq_left h]
 ·rw[Nat.min_eq_right (by omega),List.drop_length,List.drop_of_length_le (by omega)]
theorem Ym(s:List UInt8):bg prog 94 [.c (.d (.s s)),.c (.d (.sl []))] (.agg [.d (.i .i64 2),.d (.s s),.d (.sl [])]):=bg.of_le fun S=>by
 refine zcx [.cell 4 41] func94 ntmps94 ?_;simp -implicitDefEqProofs (disch:=omega) only[go_sem]
 (repeat(with_reducible refine And.intro ?_ ?_;focus first|omega|rfl|assumption|exact⟨_,rfl,rfl⟩|(simp;omega)|(simp;done)))
 exact jE _
theorem Yn(s:List UInt8):bg prog 141 [.c (.d (.s s))] (.agg [.d (.i .i64 1),.d (.s s),.d (.sl [])]):=bg.of_le fun S=>by
 refine zcx [.cell 2 41] func141 ntmps141 ?_;simp -implicitDefEqProofs (disch:=omega) only[go_sem]
 (repeat(with_reducible refine And.intro ?_ ?_;focus first|omega|rfl|assumption|exact⟨_,rfl,rfl⟩|(simp;omega)|(simp;done)))
 exact Vp _ _ _
theorem Fu:∀N:Nat,(∀x:au,SizeOf.sizeOf x<N->x.sz<=4194304->bg prog 251 [x.v] (eT false x).v)
 |0=>fun x h=>by omega
 |N+1=>by
  have ih:=Fu N;intro x hn hsz;have nu:=au.Dq x;have h1:=gV x;have h2:=EM x;have hx:=agX false x
  have hall:∀t∈x.aA,t.sz<=4194304:=fun t ht=>by have:=kY ht;omega
  refine bg.of_le fun S=> ?_;refine zcx [.cell 2 41] func251 ntmps251 ?_;simp -implicitDefEqProofs (disch:=omega) only[go_sem]
  with_reducible refine aD (fun hb=> ?_) (fun hb=> ?_)<;>have h:=hb<;>(try simp only[wf_preprocess] at h)<;>simp -implicitDefEqProofs (disch:=omega) only[go_sem,hb]<;>(repeat(with_reducible refine And.intro ?_ ?_;focus first|omega|rfl|assumption|exact⟨_,rfl,rfl⟩|(simp;omega)|(simp;done)))
  ·have hne:=h;rw[if_neg h] at hx;have h39:=aiW h;have hln:0<x.bK.length:=List.length_pos_iff.2 hne;have hsl:=Yl x.bK x.bK.length (Nat.le_refl _)
   (repeat(with_reducible refine And.intro ?_ ?_;focus first|omega|rfl|assumption|exact⟨_,rfl,rfl⟩|(simp;omega)|(simp;done)))
   with_reducible refine aD (fun hb=> ?_) (fun hb=> ?_)<;>have h:=hb<;>(try simp only[wf_preprocess] at h)<;>simp -implicitDefEqProofs (disch:=omega) only[go_sem,hb]<;>(repeat(with_reducible refine And.intro ?_ ?_;focus first|omega|rfl|assumption|exact⟨_,rfl,rfl⟩|(simp;omega)|(simp;done)))
   ·rw[if_pos (h39.1 h)] at hx
    (repeat(with_reducible refine And.intro ?_ ?_;focus first|omega|rfl|assumption|exact⟨_,rfl,rfl⟩|(simp;omega)|(simp;done)))
    rw[hsl];refine aB (Yn _) ?_;simp -implicitDefEqProofs (disch:=omega) only[go_sem];exact afv hx
   ·rw[if_neg (fun e=>h (h39.2 e))] at hx;refine aB (Ym _) ?_;simp -implicitDefEqProofs (disch:=omega) only[go_sem];exact afv hx
  rw[if_pos h] at hx
  with_reducible refine aD (fun hb=> ?_) (fun hb=> ?_)<;>have h:=hb<;>(try simp only[wf_preprocess] at h)<;>simp -implicitDefEqProofs (disch:=omega) only[go_sem,hb]<;>(repeat(with_reducible refine And.intro ?_ ?_;focus first|omega|rfl|assumption|exact⟨_,rfl,rfl⟩|(simp;omega)|(simp;done)))
  ·rw[if_pos (by omega)] at hx;exact afu hx
  rw[if_neg (by omega)] at hx
  have hl2:2<=x.aA.length:=by omega
  have a0:=Am (l:=x.aA) (i:=0) (by omega);have a1:=Am (l:=x.aA) (i:=1) (by omega);obtain⟨T,hT⟩:∃T:Nat->List (List D),T=fun i=>(((x.aA.map (eT false)).drop 1).take i).map ay.enc:=⟨_,rfl⟩
  have hT0:T 0=[]:=by rw[hT];rfl
  have iG:∀i,(T i).length<=i:=fun i=>by rw[hT];simp only[List.length_map];exact List.length_take_le _ _
  have hTr:∀i,∀r∈T i,r.length=3:=fun i=>by
   rw[hT];intro r hr;obtain⟨z,_,rfl⟩:=List.mem_map.1 hr;exact z.dh
  have hTs:∀i (hi:i+1<x.aA.length),T i++[[.i .i64 (eT false x.aA[i+1]).aV,.s (eT false x.aA[i+1]).fName,.sl ((eT false x.aA[i+1]).fArgs.map ay.enc)]]=T (i+1):=fun i hi=>by
   have:=Oz (l:=(x.aA.map (eT false)).drop 1) (i:=i) (by rw[List.length_drop,List.length_map];omega);rw[List.getElem_drop,List.getElem_map] at this;rw[hT];simp only[Nat.add_comm 1 i] at this ⊢;exact this
  have hTe:T (x.aA.length-1)=((x.aA.map (eT false)).drop 1).map ay.enc:=by
   rw[hT];simp only
   rw[List.take_of_length_le (by simp)]
  have hTn:(T (x.aA.length-1)).length=x.aA.length-1:=by rw[hTe];simp
  have hTd:(T (x.aA.length-1)).drop 1=((x.aA.map (eT false)).drop 2).map ay.enc:=by rw[hTe,<-List.map_drop,List.drop_drop]
  clear hT
  (repeat(with_reducible refine And.intro ?_ ?_;focus first|omega|rfl|assumption|exact⟨_,rfl,rfl⟩|(simp;omega)|(simp;done)))
  refine iZ 4 3 [] rfl (by simp) ?_
  refine bO (ι:=Nat) zmx rfl [1,2,3,4,5] (fun i=>[.c (.ptr (0,0) 0),.c (.ptr (0,1) 0),.c (.d (.s x.aA[0].bK)),.c (.bS (0,2) (T i)),.c (.d (.i .i64 ((i+1:Nat):Int)))])
   (fun i=>[.box [.d (.s x.bK),.d (.sl (x.aA.map au.enc))],.box [.d (.i .i64 0),.d (.s []),.bI []],.tok 3 (T i)]::S)
   (fun i=>i+1<=x.aA.length) (fun i=>x.aA.length-(i+1)) 0 (by rw[hT0];rfl) (by rw[hT0];rfl) (by omega) ?_
  intro i hi;have hl:=iG i;simp -implicitDefEqProofs (disch:=omega) only[go_sem]
  with_reducible refine aD (fun hb=> ?_) (fun hb=> ?_)<;>have h:=hb<;>(try simp only[wf_preprocess] at h)<;>simp -implicitDefEqProofs (disch:=omega) only[go_sem,hb]<;>(repeat(with_reducible refine And.intro ?_ ?_;focus first|omega|rfl|assumption|exact⟨_,rfl,rfl⟩|(simp;omega)|(simp;done)))
  ·have hi':i+1<x.aA.length:=by omega
   have hm:=List.getElem_mem hi';have hs:=hTs i hi'
   (repeat(with_reducible refine And.intro ?_ ?_;focus first|omega|rfl|assumption|exact⟨_,rfl,rfl⟩|(simp;omega)|(simp;done)))
   refine aB (ih x.aA[i+1] (by have:=List.sizeOf_lt_of_mem hm;omega) (hall _ hm)) ?_;simp -implicitDefEqProofs (disch:=omega) only[go_sem,ay.aj]
   (repeat(with_reducible refine And.intro ?_ ?_;focus first|omega|rfl|assumption|exact⟨_,rfl,rfl⟩|(simp;omega)|(simp;done)))
   rw[hs];exact cZ (i+1) (by omega) rfl rfl (by omega)
  have hi':i=x.aA.length-1:=by omega
  subst hi';have hrows:=hTr (x.aA.length-1);have hta:((T (x.aA.length-1)).take (x.aA.length-1))=T (x.aA.length-1):=List.take_of_length_le (by omega);rw[a0,a1] at hx;have tD:x.aA[0].bK=[100,121,110]/\x.aA.length=2/\x.aA[1].bK≠[]->eT false x=.mk 4 x.aA[1].bK []:=fun e=>hx.trans (if_pos ⟨e.1,.inr e.2⟩)
  have tA:x.aA[0].bK=[97,115,115,111,99]/\x.aA.length=3/\x.aA[1].bK≠[]->eT false x=.mk 3 x.aA[1].bK ((x.aA.map (eT false)).drop 2):=fun e=>by
   rw[hx,if_neg (fun e'=>by have:=e'.1.symm.trans e.1;revert this;decide),if_pos ⟨e.1,.inr e.2⟩]
  have tN:¬(x.aA[0].bK=[100,121,110]/\x.aA.length=2/\x.aA[1].bK≠[])->¬(x.aA[0].bK=[97,115,115,111,99]/\x.aA.length=3/\x.aA[1].bK≠[])->eT false x=.mk 2 x.aA[0].bK ((x.aA.map (eT false)).drop 1):=fun e1 e2=>by
   rw[hx,if_neg (fun e'=>e1 ⟨e'.1,e'.2.resolve_left (by decide)⟩),if_neg (fun e'=>e2 ⟨e'.1,e'.2.resolve_left (by decide)⟩)]
  clear hx hTs ih
  repeat' (first|(with_reducible refine aD (fun hb=> ?_) (fun hb=> ?_)<;>have h:=hb<;>(try simp only[wf_preprocess] at h)<;>simp -implicitDefEqProofs (disch:=omega) only[go_sem,hb]<;>(repeat(with_reducible refine And.intro ?_ ?_;focus first|omega|rfl|assumption|exact⟨_,rfl,rfl⟩|(simp;omega)|(simp;done)))))
  all_goals first
   |(refine⟨⟨by omega,by omega,hrows⟩,?_⟩;refine aiX (tA ⟨by assumption,by omega,by assumption⟩) ?_;rw[hTn,hta,hTd];exact jE _)
   |exact afu (tD ⟨by assumption,by omega,by assumption⟩)
   |(refine aiX (tN (fun⟨a,b,c⟩=>by first|contradiction|omega) (fun⟨a,b,c⟩=>by first|contradiction|omega)) ?_;rw[hTe];exact jE _)
   |trace_state
theorem ng(x:au)(hsz:x.sz<=4194304):bg prog 251 [x.v] (eT false x).v:=Fu _ x (Nat.lt_succ_self _) hsz
theorem Fv(xs:List au)(hlen:xs.length<=4194304)(hsz:∀t∈xs,t.sz<=4194304):bg prog 250 [.c (.d (.sl (xs.map au.enc)))] (.c (.d (.sl ((xs.map (eT false)).map ay.enc)))):=fun S=>by
 refine zcx [.tmp 2] func250 ntmps250 ?_;simp -implicitDefEqProofs (disch:=omega) only[go_sem]
 (repeat(with_reducible refine And.intro ?_ ?_;focus first|omega|rfl|assumption|exact⟨_,rfl,rfl⟩|(simp;omega)|(simp;done)))
 refine iZ 3 3 [] rfl (by simp) ?_
 refine bO (ι:=Nat) zmx rfl [0,3,4] (fun i=>[.c (.d (.sl (xs.map au.enc))),.c (.bS (0,0) (((xs.map (eT false)).take i).map ay.enc)),.c (.d (.i .i64 i))]) (fun i=>[.tok 3 (((xs.map (eT false)).take i).map ay.enc)]::S)
  (fun i=>i<=xs.length) (fun i=>xs.length-i) 0 rfl rfl (Nat.zero_le _) ?_
 intro i hi
 have hl:(((xs.map (eT false)).take i).map ay.enc).length<=i:=by rw[List.length_map];exact List.length_take_le _ _
 simp -implicitDefEqProofs (disch:=omega) only[go_sem]
 with_reducible refine aD (fun hb=> ?_) (fun hb=> ?_)<;>have h:=hb<;>(try simp only[wf_preprocess] at h)<;>simp -implicitDefEqProofs (disch:=omega) only[go_sem,hb]<;>(repeat(with_reducible refine And.intro ?_ ?_;focus first|omega|rfl|assumption|exact⟨_,rfl,rfl⟩|(simp;omega)|(simp;done)))
 ·have hi':i<xs.length:=by omega
  have hs:=Oz (l:=xs.map (eT false)) (i:=i) (by rw[List.length_map];exact hi');rw[List.getElem_map] at hs
  (repeat(with_reducible refine And.intro ?_ ?_;focus first|omega|rfl|assumption|exact⟨_,rfl,rfl⟩|(simp;omega)|(simp;done)))
  refine aB (ng xs[i] (hsz _ (List.getElem_mem hi'))) ?_;simp -implicitDefEqProofs (disch:=omega) only[go_sem]
  (repeat(with_reducible refine And.intro ?_ ?_;focus first|omega|rfl|assumption|exact⟨_,rfl,rfl⟩|(simp;omega)|(simp;done)))
  rw[hs];exact cZ (i+1) (by omega) rfl rfl (by omega)
 ·have hi':i=(xs.map (eT false)).length:=by rw[List.length_map];omega
  rw[hi',List.take_length]
end Go.Ab