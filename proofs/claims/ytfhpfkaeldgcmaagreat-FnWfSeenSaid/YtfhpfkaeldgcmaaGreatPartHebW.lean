/-
  SEVERAL TEXTS IN ONE (merged by program): contracts and models, each with its own heading.
-/
import Derived.Test.YtfhpfkaeldgcmaaGreatPartHebK
import Derived.Test.YtfhpfkaeldgcmaaGreatPartHebN
open Go.Proofs Go.Proofs.Tryz
set_option linter.unusedSimpArgs false
set_option linter.unusedVariables false
set_option maxRecDepth 4000
namespace Go.Ab
def dL(l:List au)(i:Nat):List UInt8:=(l.getD i dh).bH
theorem AJ{l:List au}{i:Nat}(h:i<l.length):dL l i=l[i].bH:=by simp[dL,List.getD,h]
theorem D8{l:List au}{i:Nat}(h:l.length<=i):dL l i=[]:=by simp[dL,List.getD,h];rfl
def gq(l:List au):List (List UInt8):=if l.all (fun x=>decide (x.bH≠[]))=true then l.map au.bH else []
theorem mQ:∀{vs:List (List UInt8)},(∀v∈vs,v≠[])->gq (cZ vs)=vs:=fun {vs} h=>by
 unfold gq cZ;rw[if_pos (List.all_eq_true.2 fun x hx=> ?_),List.map_map]
 ·conv=>rhs;rw[<-List.map_id vs]
  rfl
 ·obtain⟨v,hv,rfl⟩:=List.mem_map.1 hx;exact decide_eq_true (h v hv)
theorem Si:∀l:List au,((l.map au.bH).map List.length).sum<=dH l
 |[]=>by simp[dH]
 |x::l=>by
  have:=Si l;rw[List.map_cons,List.map_cons,List.sum_cons,dH,iV];omega
theorem oo(l:List au):(gq l).length<=l.length/\((gq l).map List.length).sum<=dH l:=by
 unfold gq;split
 ·refine⟨by simp,?_⟩;exact Si l
 ·simp
mutual
def eP(b:Bool):au->ay
 | .mk a l=>if a=[] then
    if l.length<2 then .mk 0 [] []
    else if dL l 0=EI/\(b=true\/l.length=2/\dL l 1≠[]) then .mk 4 (dL l 1) []
    else if dL l 0=iZ/\(b=true\/l.length=3/\dL l 1≠[]) then .mk 3 (dL l 1) ((nU b l).drop 2)
    else .mk 2 (dL l 0) ((nU b l).drop 1)
   else if a.head? =some 39 then .mk 1 a.tail [] else .mk 2 a []
def nU(b:Bool):List au->List ay
 |[]=>[]
 |x::xs=>eP b x::nU b xs
end
theorem wF(b:Bool):∀l,nU b l=l.map (eP b)
 |[]=>rfl
 |t::ts=>by rw[nU,List.map_cons,wF b ts]
theorem ahl(b:Bool)(x:au):eP b x=if x.bH=[] then
 if x.aA.length<2 then .mk 0 [] []
 else if dL x.aA 0=EI/\(b=true\/x.aA.length=2/\dL x.aA 1≠[]) then .mk 4 (dL x.aA 1) []
 else if dL x.aA 0=iZ/\(b=true\/x.aA.length=3/\dL x.aA 1≠[]) then .mk 3 (dL x.aA 1) ((x.aA.map (eP b)).drop 2)
 else .mk 2 (dL x.aA 0) ((x.aA.map (eP b)).drop 1)
 else if x.bH.head? =some 39 then .mk 1 x.bH.tail [] else .mk 2 x.bH []:=by
 cases x;rw[eP,wF];rfl
theorem L6:∀a b,oH (a++b)=oH a+oH b
 |[],b=>by simp[oH]
 |x::a,b=>by rw[List.cons_append,oH,oH,L6 a b];omega
theorem Sj(l:List ay)(i:Nat):oH (l.drop i)<=oH l:=by
 have:=L6 (l.take i) (l.drop i);rw[List.take_append_drop] at this;omega
theorem Sk(l:List au)(i:Nat):dH (l.drop i)<=dH l:=by
 have:=jO (l.take i) (l.drop i);rw[List.take_append_drop] at this;omega
theorem abj(l:List au)(i:Nat):(dL l i).length<=dH l:=by
 by_cases h:i<l.length
 ·rw[AJ h];have h1:=kQ (List.getElem_mem h);rw[iV] at h1;omega
 ·rw[D8 (by omega)];simp
mutual
theorem wG(b:Bool):∀x:au,(eP b x).sz<=x.sz
 | .mk a l=>by
   have h1:=EZ b l;have h2:=Sj (nU b l) 2;have h3:=Sj (nU b l) 1;have h4:=abj l 0;have h5:=abj l 1
   have h6:(nU b l).length=l.length:=by rw[wF,List.length_map]
   rw[iV,jV];simp only[au.bH,au.aA];rw[eP];split
   ·split
    ·rw[uj];simp[ay.fName,ay.fArgs,oH]
    ·split
     ·rw[uj];simp[ay.fName,ay.fArgs,oH];omega
     ·have g0:=Cy b l 0;have g1:=Cy b l 1;simp only[Nat.zero_add,Nat.reduceAdd] at g0 g1;split
      ·rw[uj];simp only[ay.fName,ay.fArgs,List.length_drop,h6];omega
      ·rw[uj];simp only[ay.fName,ay.fArgs,List.length_drop,h6];omega
   ·split
    ·rw[uj];simp[ay.fName,ay.fArgs,oH];omega
    ·rw[uj];simp[ay.fName,ay.fArgs,oH]
theorem EZ(b:Bool):∀l:List au,oH (nU b l)<=dH l
 |[]=>by simp[nU,oH]
 |x::xs=>by
  have h1:=wG b x;have h2:=EZ b xs;rw[nU,oH,dH];omega
theorem Cy(b:Bool):∀(l:List au)(i:Nat),oH ((nU b l).drop (i+1))+(dL l i).length<=dH l
 |[],i=>by simp[nU,oH,D8]
 |x::xs,0=>by
  have h2:=EZ b xs;rw[nU,List.drop_succ_cons,List.drop_zero,dH,show dL (x::xs) 0=x.bH from rfl,iV];omega
 |x::xs,i+1=>by
  have h2:=Cy b xs i;rw[nU,List.drop_succ_cons,dH,show dL (x::xs) (i+1)=dL xs i from rfl];omega
end
theorem D9{s:List UInt8}(h:validName s=true):s≠[]:=fun e=>by rw[e] at h;have:=gD h;simp at this
theorem abk{s:List UInt8}(h:validName s=true):s.head? ≠some 39:=fun e=>by
 have h1:=gD h;have h2:=h1.2.2 0 (by omega)
 cases s with
 |nil=>cases e
 |cons c s=>
  simp only[List.head?_cons,Option.some.injEq] at e;subst e;simp[lowerB,zl] at h2
theorem aeM{s:List UInt8}(h:validName s=true):s≠EI/\s≠iZ:=by
 have h1:=(gD h).2.1;refine⟨fun e=>h1 (by rw[e];simp[reserved,EI]),fun e=>h1 (by rw[e];simp[reserved,iZ])⟩
mutual
theorem uR(b:Bool):∀t:ay,formed t=true->eP b (dU t)=t
 | .mk k n zs=>fun hf=>by
   rw[formed,Bool.and_eq_true] at hf;have hfi:=gD hf.1;have hzs:=Ke b zs hf.2;rw[dU];by_cases h1:k=1
   ·have hz:zs=[]:=by
     have:zs.length=0:=by omega
     exact List.eq_nil_of_length_eq_zero this
    rw[if_pos h1,bQ,eP,if_neg (by simp),if_pos (by simp),hz,h1];rfl
   rw[if_neg h1];by_cases h4:k=4
   ·have hz:zs=[]:=by
     have:zs.length=0:=by omega
     exact List.eq_nil_of_length_eq_zero this
    have hn:validName n=true:=by
     rcases hfi with h|h|h
     ·exact h.2.1
     ·exact h.2.1
     ·omega
    rw[if_pos h4,eB,eP,if_pos rfl,if_neg (by simp),if_pos ⟨rfl,.inr ⟨rfl,D9 hn⟩⟩,hz,h4];rfl
   rw[if_neg h4];by_cases h2:k=2/\zs.length=0
   ·have hz:zs=[]:=List.eq_nil_of_length_eq_zero h2.2
    have hn:n≠[]/\n.head? ≠some 39:=by
     rcases hfi with h|h|h
     ·omega
     ·omega
     ·rcases h.2 with g|g
      ·exact⟨D9 g.1,abk g.1⟩
      ·rcases gD g.1 with e|e<;>rw[e]<;>simp
    rw[if_pos h2,bQ,eP,if_neg hn.1,if_neg hn.2,hz,h2.1]
   rw[if_neg h2];by_cases h3:k=3
   ·have hz:zs.length=1/\validName n=true:=by
     rcases hfi with h|h|h
     ·omega
     ·exact⟨h.2.2,h.2.1⟩
     ·omega
    rw[if_pos h3,eB,eP,if_pos rfl,if_neg (by simp),if_neg (fun h=>by have:=h.1;simp[dL,bQ,au.bH,EI,iZ] at this),if_pos ⟨rfl,.inr ⟨by rw[uh];simp[hz.1],D9 hz.2⟩⟩];show ay.mk 3 n (nU b (Bu zs))=_;rw[hzs,h3]
   ·have hn:validName n=true/\zs≠[]:=by
     rcases hfi with h|h|h
     ·omega
     ·omega
     ·rcases h.2 with g|g
      ·exact⟨g.1,fun e=>h2 ⟨h.1,by rw[e];rfl⟩⟩
      ·exact(h2 ⟨h.1,g.2⟩).elim
    have hk:k=2:=by
     rcases hfi with h|h|h
     ·omega
     ·omega
     ·exact h.1
    have hd:=aeM hn.1;rw[if_neg h3,eB,eP,if_pos rfl,if_neg (by rw[uh];cases zs with|nil=>exact(hn.2 rfl).elim|cons z zs=>simp),if_neg (fun h=>hd.1 h.1),if_neg (fun h=>hd.2 h.1)];show ay.mk 2 n (nU b (Bu zs))=_;rw[hzs,hk]
theorem Ke(b:Bool):∀ts:List ay,j4 ts=true->nU b (Bu ts)=ts
 |[],_=>rfl
 |t::ts,h=>by
  rw[j4,Bool.and_eq_true] at h;rw[Bu,nU,uR b t h.1,Ke b ts h.2]
end
theorem Dh(b:Bool){ts:List ay}(h:j4 ts=true):(ts.map dU).map (eP b)=ts:=by
 have:=Ke b ts h;rw[wF,uh] at this;exact this
def Di(b:Bool)(y:au):aN:=⟨dL y.aA 0,(y.aA.drop 1).map (eP b)⟩
def oL(b:Bool)(x:au):bg:=⟨dL x.aA 1,gq (x.aA.getD 2 dh).aA,(x.aA.drop 3).map (Di b)⟩
theorem yD{vs:List (List UInt8)}(h:iQ vs=true):∀v∈vs,v≠[]:=fun v hv=>by
 unfold iQ at h;rw[Bool.and_eq_true] at h;exact D9 (List.all_eq_true.1 h.2 v hv)
theorem ahm(b:Bool){c:aN}(h:j4 c.iB=true):Di b (Jj c)=c:=by
 show aN.mk c.fName ((c.iB.map dU).map (eP b))=c;rw[Dh b h]
theorem Nq{d:bg}(h:iO d=true):∀v∈d.aU,v≠[]:=by
 unfold iO at h;simp only[Bool.and_eq_true] at h;exact yD (by simp_all)
theorem Nr(b:Bool){d:bg}(h:iO d=true):oL b (Jk d)=d:=by
 show bg.mk d.fName (gq (cZ d.aU)) ((d.aZ.map Jj).map (Di b))=d;rw[mQ (Nq h),List.map_map,show d.aZ.map (Di b∘Jj)=d.aZ.map id from List.map_congr_left (fun c hc=>ahm b (Ni h c hc)),List.map_id]
theorem aeN(d:bg):3<=(Jk d).aA.length/\dL (Jk d).aA 0=vD:=⟨by rw[Jk,iw];simp[baseD],rfl⟩
noncomputable def okD(x:au):Bool:=dec (iR x=true/\3<=x.aA.length/\dL x.aA 0=vD/\iO (oL true x)=true/\Jk (oL true x)=x)
noncomputable def xJ(x:au):bg:=if okD x=true then oL true x else⟨[],[],[]⟩
theorem E5:dh.sz=0:=by rw[iV];simp[dh,au.bH,au.aA,aQ]
theorem Sl{b:Bool}{s x:au}(h:um b s=x)(hx:x.aA≠[]):b=true/\s=x/\iR x=true:=by
 cases b with
 |false=>rw[<-h] at hx;exact(hx rfl).elim
 |true=>
  rw[um] at h;unfold Bv at h;split at h
  ·rename_i hv;exact⟨rfl,h,by rw[<-h];exact hv⟩
  ·rw[<-h] at hx;exact(hx rfl).elim
theorem aeO{x:au}(hx:x.aA≠[]):okD x=(iR x&&dec (RQ (oL false x)=x)):=by
 cases hv:iR x with
 |false=>exact bJ fun h=>by rw[hv] at h;cases h.1
 |true=>
  rw[Bool.true_and];refine gG ⟨fun⟨_,h1,h2,h3,h4⟩=> ?_,fun h=> ?_⟩
  ·have e:oL false x=oL true x:=by conv=>lhs;rw[<-h4]
                                   exact Nr false h3
   rw[e,RQ,h3,h4,um,Bv,if_pos hv]
  ·obtain⟨h1,h2,_⟩:=Sl h hx
   have e:oL true x=oL false x:=by conv=>lhs;rw[<-h2]
                                   exact Nr true h1
   have:=aeN (oL false x);rw[h2] at this;rw[e];exact⟨hv,this.1,this.2,h1,h2⟩
theorem aeP{x:au}(h:okD x=true):oL false x=oL true x:=by
 have h1:=gD h
 conv=>lhs;rw[<-h1.2.2.2.2]
 exact Nr false h1.2.2.2.1
theorem ahn(b:Bool)(y:au):(Di b y).sz<=y.sz:=by
 have h:=Cy b y.aA 0;rw[wF] at h;rw[wC,iV,jV];simp only[Di,List.length_map,List.length_drop,<-List.map_drop,Nat.zero_add] at h ⊢;omega
theorem Sm(b:Bool):∀l:List au,zS (l.map (Di b))<=dH l
 |[]=>by simp[zS]
 |y::l=>by
  have h1:=ahn b y;have h2:=Sm b l;rw[List.map_cons,zS,dH];omega
theorem Yz(l:List au):(dL l 1).length+((l.getD 2 dh).aA.length+dH (l.getD 2 dh).aA)+dH (l.drop 3)<=dH l:=by
 match l with
 |[]=>simp[dL,dH,dh,au.bH,au.aA]
 |[x]=>simp[dL,dH,dh,au.bH,au.aA]
 |[x,y]=>
  simp only[dH,iV y];simp[dL,dH,dh,au.bH,au.aA];omega
 |x::y::z::l=>
  simp only[dH,iV y,iV z,jV];simp[dL];omega
theorem VF(b:Bool)(x:au):(oL b x).sz<=x.sz:=by
 have h1:=Sm b (x.aA.drop 3);have h2:=oo (x.aA.getD 2 dh).aA;have h3:=Yz x.aA;rw[p9,iV,jV];simp only[oL,List.length_map,List.length_drop];omega
theorem ajh{x:au}{i:Nat}(hi:i<x.aA.length)(h:x.sz<=4194304):x.aA[i].sz<=4194304:=by
 have:=kQ (List.getElem_mem hi);rw[iV,jV] at h;omega
theorem aji{x:au}(h:x.sz<=4194304):x.bH.length<=4194304/\x.aA.length<=4194304:=by
 rw[iV] at h;omega
theorem zA:∀n:Nat,∀x:au,SizeOf.sizeOf x<n->∀y:au,x.sz<=4194304->aX prog 253 [x.v,y.v] (.c (.d (.b (dec (x=y)))))
 |0=>fun x h=>by omega
 |n+1=>by
  have ih:=zA n;intro x hn y hsz S;have aoj:=au.DC x;have hb:=aji hsz;refine zcx [.tmp 4] func253 ntmps253 ?_;simp -implicitDefEqProofs (disch:=omega) only[go_sem]
  with_reducible refine aC (fun hb=> ?_) (fun hb=> ?_)<;>have h:=hb<;>(try simp only[wf_preprocess] at h)<;>simp -implicitDefEqProofs (disch:=omega) only[go_sem,hb]<;>(repeat(with_reducible refine And.intro ?_ ?_;focus first|omega|rfl|assumption|exact⟨_,rfl,rfl⟩|(simp;omega)|(simp;done)))
  ·exact bL (bJ (fun e=>h (by rw[e]))).symm
  have h1:=h
  with_reducible refine aC (fun hb=> ?_) (fun hb=> ?_)<;>have h:=hb<;>(try simp only[wf_preprocess] at h)<;>simp -implicitDefEqProofs (disch:=omega) only[go_sem,hb]<;>(repeat(with_reducible refine And.intro ?_ ?_;focus first|omega|rfl|assumption|exact⟨_,rfl,rfl⟩|(simp;omega)|(simp;done)))
  ·exact bL (bJ (fun e=>h (by rw[e]))).symm
  have hl:x.aA.length=y.aA.length:=by omega
  refine bN (ι:=Nat) zmx rfl [2,3,5] (fun i=>[.c (.ptr (0,0) 0),.c (.ptr (0,1) 0),.c (.d (.i .i64 i))]) (fun i=>[.box [.d (.s x.bH),.d (.sl (x.aA.map au.enc))],.box [.d (.s y.bH),.d (.sl (y.aA.map au.enc))]]::S)
   (fun i=>i<=x.aA.length/\∀j,j<i->x.aA[j]? =y.aA[j]?) (fun i=>x.aA.length-i) 0 rfl rfl ⟨Nat.zero_le _,fun j h=>by omega⟩ ?_
  rintro i ⟨p1,p2⟩;simp -implicitDefEqProofs (disch:=omega) only[go_sem,au.aj]
  with_reducible refine aC (fun hb=> ?_) (fun hb=> ?_)<;>have h:=hb<;>(try simp only[wf_preprocess] at h)<;>simp -implicitDefEqProofs (disch:=omega) only[go_sem,hb]<;>(repeat(with_reducible refine And.intro ?_ ?_;focus first|omega|rfl|assumption|exact⟨_,rfl,rfl⟩|(simp;omega)|(simp;done)))
  ·have hi:i<x.aA.length:=by omega
   have hi':i<y.aA.length:=by omega
   (repeat(with_reducible refine And.intro ?_ ?_;focus first|omega|rfl|assumption|exact⟨_,rfl,rfl⟩|(simp;omega)|(simp;done)))
   refine aB (ih x.aA[i] (by have:=List.sizeOf_lt_of_mem (List.getElem_mem hi);omega) y.aA[i] (ajh hi hsz)) ?_;simp -implicitDefEqProofs (disch:=omega) only[go_sem]
   with_reducible refine aC (fun hb=> ?_) (fun hb=> ?_)<;>have h:=hb<;>(try simp only[wf_preprocess] at h)<;>simp -implicitDefEqProofs (disch:=omega) only[go_sem,hb]<;>(repeat(with_reducible refine And.intro ?_ ?_;focus first|omega|rfl|assumption|exact⟨_,rfl,rfl⟩|(simp;omega)|(simp;done)))
   ·exact bL (bJ (fun e=>h (by simp only[e]))).symm
   refine bT (i+1) (by omega) rfl rfl ⟨by omega,fun j hj=> ?_⟩;by_cases e:j=i
   ·subst e;rw[List.getElem?_eq_getElem hi,List.getElem?_eq_getElem hi',h]
   ·exact p2 j (by omega)
  ·have hi:i=x.aA.length:=by omega
   refine bL (dD ?_).symm;refine au.ext (by first|exact h1|(simp at h1;exact h1)) (List.ext_getElem? fun j=> ?_);by_cases hj:j<i
   ·exact p2 j hj
   ·rw[List.getElem?_eq_none (by omega),List.getElem?_eq_none (by omega)]
theorem qC(x y:au)(h:x.sz<=4194304):aX prog 253 [x.v,y.v] (.c (.d (.b (dec (x=y))))):=zA _ x (Nat.lt_succ_self _) y h
theorem Jt{α:Type}[SizeOf α]:∀(i:Nat)(l:List α),SizeOf.sizeOf (l.drop i)<=SizeOf.sizeOf l
 |0,l=>by simp
 |i+1,[]=>by simp
 |i+1,x::l=>by
  have:=Jt i l;rw[List.drop_succ_cons];simp only[List.cons.sizeOf_spec];omega
theorem G7(l:List au)(n i:Nat)(h:l.length<=n):((l.map au.enc).take n).drop i=(l.drop i).map au.enc:=by
 rw[List.take_of_length_le (by rw[List.length_map];exact h),List.map_drop]
theorem yE(l:List au)(i:Nat):(l.getD i dh).sz<=dH l:=by
 rw[List.getD_eq_getElem?_getD];by_cases h:i<l.length
 ·rw[List.getElem?_eq_getElem h];exact kQ (List.getElem_mem h)
 ·rw[List.getElem?_eq_none (by omega)];rw[Option.getD_none,iV];simp[dh,au.bH,au.aA,aQ]
theorem gM(x:au):x.aA.length+dH x.aA<=x.sz:=by rw[iV,jV];omega
theorem E8(x:au):x.bH.length<=x.sz:=by rw[iV];omega
def AL(x:au):List D:=[.s x.bH]
def allA(l:List au):Bool:=l.all fun x=>decide (x.bH≠[])
theorem aho{l:List au}{i:Nat}(hi:i<l.length)(h:l[i].bH=[]):allA l=false/\gq l=[]:=by
 have:allA l=false:=by
  unfold allA;rw[List.all_eq_false];exact⟨_,List.getElem_mem hi,by simp[h]⟩
 refine⟨this,?_⟩;unfold gq;unfold allA at this;rw[this];rfl
theorem aeQ{l:List au}(h:∀j (hj:j<l.length),l[j].bH≠[]):allA l=true/\(gq l).map encS=l.map AL:=by
 have:allA l=true:=by
  unfold allA;rw[List.all_eq_true];intro x hx;obtain⟨j,hj,rfl⟩:=List.getElem_of_mem hx;exact decide_eq_true (h j hj)
 refine⟨this,?_⟩;unfold gq;unfold allA at this;rw[this,if_pos rfl,List.map_map];rfl
theorem Sn{l:List au}{i:Nat}(hi:i<l.length):(l.take i).map AL++[[.s l[i].bH]]=(l.take (i+1)).map AL:=by
 rw[List.take_succ_eq_append_getElem hi,List.map_append];rfl
theorem UE{l:List au}{i:Nat}:((l.take i).map AL).length<=i:=by rw[List.length_map];exact List.length_take_le _ _
def lt(l:List ay)(n:Nat):List (List D):=ig (l.map ay.enc) n
def qD(l:List ay):Nat:=wZ (l.map ay.enc)
theorem OJ{l:List ay}{i:Nat}(hi:i<l.length):(l.take i).map ay.enc++[[.i .i64 l[i].aV,.s l[i].fName,.sl (l[i].fArgs.map ay.enc)]]=(l.take (i+1)).map ay.enc:=by
 rw[List.take_succ_eq_append_getElem hi,List.map_append];simp only[List.map_cons,List.map_nil,ay.aj]
theorem VG(k:Int)(s:List UInt8)(es:List (List D)):Less (.agg [.d (.i .i64 k),.d (.s s),.bM es]) (.agg [.d (.i .i64 k),.d (.s s),.d (.sl es)]):=(gy.cons (.refl _) (.cons (.refl _) (.cons (eO es) .nil))).less
theorem ajj{s:List UInt8}(h:s≠[]):((s.getD 0 0).toNat:Int)=39<->s.head? =some 39:=by
 cases s with
 |nil=>exact(h rfl).elim
 |cons b s=>
  simp only[List.getD_cons_zero,List.head?_cons,Option.some.injEq];constructor
  ·intro e
   have:b.toNat=39:=by omega
   exact UInt8.toNat.inj this
  ·intro e;rw[e];rfl
theorem YA(s:List UInt8)(n:Nat)(h:s.length<=n):(s.take n).drop 1=s.tail:=by rw[List.take_of_length_le h,List.drop_one]
abbrev ay.vl(t:ay)(n:Nat):V:=.agg [.d (.i .i64 t.aV),.d (.s t.fName),.d (.ol n (lt t.fArgs (n+1)))]
theorem ajk{b:Bool}{x:au}{r:V}{k:Int}{s:List UInt8}{l:List ay}(h:eP b x=.mk k s l)(hl:Less r (.agg [.d (.i .i64 k),.d (.s s),.d (.sl (l.map ay.enc))])):Less r (eP b x).v:=by rw[h];exact hl
theorem afU{b:Bool}{x:au}{k:Int}{s:List UInt8}(h:eP b x=.mk k s []):Less (.agg [.d (.i .i64 k),.d (.s s),.bM []]) (eP b x).v:=by rw[h];exact VG k s []
theorem afV{b:Bool}{x:au}{k:Int}{s:List UInt8}(h:eP b x=.mk k s []):Less (.agg [.d (.i .i64 k),.d (.s s),.d (.sl [])]) (eP b x).v:=by rw[h];exact jv _
theorem BI(xs:List au)(hx:xs.length<=1073741824):aX prog 219 [.c (.d (.sl (xs.map au.enc)))] (.eD [(false,[.d (.sl ((gq xs).map encS))]),(false,[.d (.b (allA xs))])]):=aX.of_le fun S=>by
 refine zcx [.tmp 2,.tmp 3] func219 ntmps219 ?_;simp -implicitDefEqProofs (disch:=omega) only[go_sem]
 (repeat(with_reducible refine And.intro ?_ ?_;focus first|omega|rfl|assumption|exact⟨_,rfl,rfl⟩|(simp;omega)|(simp;done)))
 refine kN 4 1 [] rfl (by simp) ?_
 refine bN (ι:=Nat) zmx rfl [0,4,5] (fun i=>[.c (.d (.sl (xs.map au.enc))),.c (.bV (0,0) ((xs.take i).map AL)),.c (.d (.i .i64 i))]) (fun i=>[.tok 1 ((xs.take i).map AL)]::S)
  (fun i=>i<=xs.length/\∀j,∀hj:j<xs.length,j<i->xs[j].bH≠[]) (fun i=>xs.length-i) 0 rfl rfl ⟨Nat.zero_le _,fun j _ h=>by omega⟩ ?_
 rintro i ⟨p1,p2⟩;have hl:=UE (l:=xs) (i:=i);simp -implicitDefEqProofs (disch:=omega) only[go_sem,au.aj]
 with_reducible refine aC (fun hb=> ?_) (fun hb=> ?_)<;>have h:=hb<;>(try simp only[wf_preprocess] at h)<;>simp -implicitDefEqProofs (disch:=omega) only[go_sem,hb]<;>(repeat(with_reducible refine And.intro ?_ ?_;focus first|omega|rfl|assumption|exact⟨_,rfl,rfl⟩|(simp;omega)|(simp;done)))
 ·have hi':i<xs.length:=by omega
  have hs:=Sn hi'
  (repeat(with_reducible refine And.intro ?_ ?_;focus first|omega|rfl|assumption|exact⟨_,rfl,rfl⟩|(simp;omega)|(simp;done)))
  with_reducible refine aC (fun hb=> ?_) (fun hb=> ?_)<;>have h:=hb<;>(try simp only[wf_preprocess] at h)<;>simp -implicitDefEqProofs (disch:=omega) only[go_sem,hb]<;>(repeat(with_reducible refine And.intro ?_ ?_;focus first|omega|rfl|assumption|exact⟨_,rfl,rfl⟩|(simp;omega)|(simp;done)))
  ·obtain⟨e1,e2⟩:=aho hi' h;rw[e1,e2];exact(jP.cons (.cons (eO _) .nil) (.refl _)).less
  ·(repeat(with_reducible refine And.intro ?_ ?_;focus first|omega|rfl|assumption|exact⟨_,rfl,rfl⟩|(simp;omega)|(simp;done)))
   rw[hs];refine bT (i+1) (by omega) rfl rfl ⟨by omega,fun j hj hji=> ?_⟩;by_cases e':j=i
   ·subst e';exact h
   ·exact p2 j hj (by omega)
 ·have hi':i=xs.length:=by omega
  subst hi';obtain⟨e1,e2⟩:=aeQ fun j hj=>p2 j hj hj;rw[e1,e2,List.take_length];exact jv _
theorem oN(x:au)(hx:x.sz<=4194304):aX prog 248 [x.v] (.c (.d (.sl ((gq x.aA).map encS)))):=fun S=>by
 have:=gM x;refine zcx [.tmp 2] func248 ntmps248 ?_;simp -implicitDefEqProofs (disch:=omega) only[go_sem];refine aB (BI x.aA (by omega)) ?_;simp -implicitDefEqProofs (disch:=omega) only[go_sem]
theorem eT(x:au)(i:Nat)(hx:x.sz<=4194304)(hi:i<=100):aX prog 220 [x.v,.c (.d (.i .i64 i))] (x.aA.getD i dh).v:=aX.of_le fun S=>by
 have:=gM x;refine zcx [.cell 4 202] func220 ntmps220 ?_;simp -implicitDefEqProofs (disch:=omega) only[go_sem]
 with_reducible refine aC (fun hb=> ?_) (fun hb=> ?_)<;>have h:=hb<;>(try simp only[wf_preprocess] at h)<;>simp -implicitDefEqProofs (disch:=omega) only[go_sem,hb]<;>(repeat(with_reducible refine And.intro ?_ ?_;focus first|omega|rfl|assumption|exact⟨_,rfl,rfl⟩|(simp;omega)|(simp;done)))
 ·rw[List.getD_eq_getElem?_getD,List.getElem?_eq_none (by omega)];exact(gy.cons (.refl _) (.cons (eO _) .nil)).less
 ·have hi:i<x.aA.length:=by omega
  rw[List.getD_eq_getElem?_getD,List.getElem?_eq_getElem hi];exact jv _
theorem rX(a b:Int):aX prog 261 [.c (.d (.i .i64 a)),.c (.d (.i .i64 b))] (.c (.d (.i .i64 (min a b)))):=fun S=>by
 refine zcx [.tmp 4] func261 ntmps261 ?_;simp -implicitDefEqProofs (disch:=omega) only[go_sem]
 with_reducible refine aC (fun hb=> ?_) (fun hb=> ?_)<;>have h:=hb<;>(try simp only[wf_preprocess] at h)<;>simp -implicitDefEqProofs (disch:=omega) only[go_sem,hb]<;>(repeat(with_reducible refine And.intro ?_ ?_;focus first|omega|rfl|assumption|exact⟨_,rfl,rfl⟩|(simp;omega)|(simp;done)))
 ·exact int_eq (by omega)
 ·exact int_eq (by omega)
theorem vB(x:au)(i:Nat)(hx:x.sz<=4194304):aX prog 249 [x.v,.c (.d (.i .i64 i))] (.c (.d (.sl ((x.aA.drop i).map au.enc)))):=fun S=>by
 have:=gM x;refine zcx [.tmp 4] func249 ntmps249 ?_;simp -implicitDefEqProofs (disch:=omega) only[go_sem];refine aB (rX _ _) ?_
 have e:min (i:Int) (x.aA.length:Int)=((min i x.aA.length:Nat):Int):=by omega
 rw[e];have hr:=jf (l:=x.aA);simp -implicitDefEqProofs (disch:=omega) only[go_sem]
 (repeat(with_reducible refine And.intro ?_ ?_;focus first|omega|rfl|assumption|exact⟨_,rfl,rfl⟩|(simp;omega)|(simp;done)))
 refine⟨⟨by omega,by omega,by omega,hr⟩,?_⟩;rw[G7 _ _ _ (Nat.le_refl _)];by_cases h:i<=x.aA.length
 ·rw[Nat.min_eq_left h]
 ·rw[Nat.min_eq_right (by omega),List.drop_length,List.drop_of_length_le (by omega)]
theorem YB(s:List UInt8):aX prog 94 [.c (.d (.s s)),.c (.d (.sl []))] (.agg [.d (.i .i64 2),.d (.s s),.d (.sl [])]):=aX.of_le fun S=>by
 refine zcx [.cell 4 41] func94 ntmps94 ?_;simp -implicitDefEqProofs (disch:=omega) only[go_sem]
 (repeat(with_reducible refine And.intro ?_ ?_;focus first|omega|rfl|assumption|exact⟨_,rfl,rfl⟩|(simp;omega)|(simp;done)))
 exact jv _
theorem YC(s:List UInt8):aX prog 141 [.c (.d (.s s))] (.agg [.d (.i .i64 1),.d (.s s),.d (.sl [])]):=aX.of_le fun S=>by
 refine zcx [.cell 2 41] func141 ntmps141 ?_;simp -implicitDefEqProofs (disch:=omega) only[go_sem]
 (repeat(with_reducible refine And.intro ?_ ?_;focus first|omega|rfl|assumption|exact⟨_,rfl,rfl⟩|(simp;omega)|(simp;done)))
 exact VG _ _ _
theorem FN:∀N:Nat,(∀x:au,SizeOf.sizeOf x<N->x.sz<=4194304->aX prog 251 [x.v] (eP false x).v)
 |0=>fun x h=>by omega
 |N+1=>by
  have ih:=FN N;intro x hn hsz;have nO:=au.DC x;have h1:=gM x;have h2:=E8 x;have hx:=ahl false x
  have hall:∀t∈x.aA,t.sz<=4194304:=fun t ht=>by have:=kQ ht;omega
  refine aX.of_le fun S=> ?_;refine zcx [.cell 2 41] func251 ntmps251 ?_;simp -implicitDefEqProofs (disch:=omega) only[go_sem]
  with_reducible refine aC (fun hb=> ?_) (fun hb=> ?_)<;>have h:=hb<;>(try simp only[wf_preprocess] at h)<;>simp -implicitDefEqProofs (disch:=omega) only[go_sem,hb]<;>(repeat(with_reducible refine And.intro ?_ ?_;focus first|omega|rfl|assumption|exact⟨_,rfl,rfl⟩|(simp;omega)|(simp;done)))
  ·have hne:=h;rw[if_neg h] at hx;have h39:=ajj h;have hln:0<x.bH.length:=List.length_pos_iff.2 hne;have hsl:=YA x.bH x.bH.length (Nat.le_refl _)
   (repeat(with_reducible refine And.intro ?_ ?_;focus first|omega|rfl|assumption|exact⟨_,rfl,rfl⟩|(simp;omega)|(simp;done)))
   with_reducible refine aC (fun hb=> ?_) (fun hb=> ?_)<;>have h:=hb<;>(try simp only[wf_preprocess] at h)<;>simp -implicitDefEqProofs (disch:=omega) only[go_sem,hb]<;>(repeat(with_reducible refine And.intro ?_ ?_;focus first|omega|rfl|assumption|exact⟨_,rfl,rfl⟩|(simp;omega)|(simp;done)))
   ·rw[if_pos (h39.1 h)] at hx
    (repeat(with_reducible refine And.intro ?_ ?_;focus first|omega|rfl|assumption|exact⟨_,rfl,rfl⟩|(simp;omega)|(simp;done)))
    rw[hsl];refine aB (YC _) ?_;simp -implicitDefEqProofs (disch:=omega) only[go_sem];exact afV hx
   ·rw[if_neg (fun e=>h (h39.2 e))] at hx;refine aB (YB _) ?_;simp -implicitDefEqProofs (disch:=omega) only[go_sem];exact afV hx
  rw[if_pos h] at hx
  with_reducible refine aC (fun hb=> ?_) (fun hb=> ?_)<;>have h:=hb<;>(try simp only[wf_preprocess] at h)<;>simp -implicitDefEqProofs (disch:=omega) only[go_sem,hb]<;>(repeat(with_reducible refine And.intro ?_ ?_;focus first|omega|rfl|assumption|exact⟨_,rfl,rfl⟩|(simp;omega)|(simp;done)))
  ·rw[if_pos (by omega)] at hx;exact afU hx
  rw[if_neg (by omega)] at hx
  have hl2:2<=x.aA.length:=by omega
  have a0:=AJ (l:=x.aA) (i:=0) (by omega);have a1:=AJ (l:=x.aA) (i:=1) (by omega);obtain⟨T,hT⟩:∃T:Nat->List (List D),T=fun i=>(((x.aA.map (eP false)).drop 1).take i).map ay.enc:=⟨_,rfl⟩
  have hT0:T 0=[]:=by rw[hT];rfl
  have jY:∀i,(T i).length<=i:=fun i=>by rw[hT];simp only[List.length_map];exact List.length_take_le _ _
  have hTr:∀i,∀r∈T i,r.length=3:=fun i=>by
   rw[hT];intro r hr;obtain⟨z,_,rfl⟩:=List.mem_map.1 hr;exact z.dx
  have hTs:∀i (hi:i+1<x.aA.length),T i++[[.i .i64 (eP false x.aA[i+1]).aV,.s (eP false x.aA[i+1]).fName,.sl ((eP false x.aA[i+1]).fArgs.map ay.enc)]]=T (i+1):=fun i hi=>by
   have:=OJ (l:=(x.aA.map (eP false)).drop 1) (i:=i) (by rw[List.length_drop,List.length_map];omega);rw[List.getElem_drop,List.getElem_map] at this;rw[hT];simp only[Nat.add_comm 1 i] at this ⊢;exact this
  have hTe:T (x.aA.length-1)=((x.aA.map (eP false)).drop 1).map ay.enc:=by
   rw[hT];simp only
   rw[List.take_of_length_le (by simp)]
  have hTn:(T (x.aA.length-1)).length=x.aA.length-1:=by rw[hTe];simp
  have hTd:(T (x.aA.length-1)).drop 1=((x.aA.map (eP false)).drop 2).map ay.enc:=by rw[hTe,<-List.map_drop,List.drop_drop]
  clear hT
  (repeat(with_reducible refine And.intro ?_ ?_;focus first|omega|rfl|assumption|exact⟨_,rfl,rfl⟩|(simp;omega)|(simp;done)))
  refine kN 4 3 [] rfl (by simp) ?_
  refine bN (ι:=Nat) zmx rfl [1,2,3,4,5] (fun i=>[.c (.ptr (0,0) 0),.c (.ptr (0,1) 0),.c (.d (.s x.aA[0].bH)),.c (.bV (0,2) (T i)),.c (.d (.i .i64 ((i+1:Nat):Int)))])
   (fun i=>[.box [.d (.s x.bH),.d (.sl (x.aA.map au.enc))],.box [.d (.i .i64 0),.d (.s []),.bM []],.tok 3 (T i)]::S)
   (fun i=>i+1<=x.aA.length) (fun i=>x.aA.length-(i+1)) 0 (by rw[hT0];rfl) (by rw[hT0];rfl) (by omega) ?_
  intro i hi;have hl:=jY i;simp -implicitDefEqProofs (disch:=omega) only[go_sem]
  with_reducible refine aC (fun hb=> ?_) (fun hb=> ?_)<;>have h:=hb<;>(try simp only[wf_preprocess] at h)<;>simp -implicitDefEqProofs (disch:=omega) only[go_sem,hb]<;>(repeat(with_reducible refine And.intro ?_ ?_;focus first|omega|rfl|assumption|exact⟨_,rfl,rfl⟩|(simp;omega)|(simp;done)))
  ·have hi':i+1<x.aA.length:=by omega
   have hm:=List.getElem_mem hi';have hs:=hTs i hi'
   (repeat(with_reducible refine And.intro ?_ ?_;focus first|omega|rfl|assumption|exact⟨_,rfl,rfl⟩|(simp;omega)|(simp;done)))
   refine aB (ih x.aA[i+1] (by have:=List.sizeOf_lt_of_mem hm;omega) (hall _ hm)) ?_;simp -implicitDefEqProofs (disch:=omega) only[go_sem,ay.aj]
   (repeat(with_reducible refine And.intro ?_ ?_;focus first|omega|rfl|assumption|exact⟨_,rfl,rfl⟩|(simp;omega)|(simp;done)))
   rw[hs];exact bT (i+1) (by omega) rfl rfl (by omega)
  have hi':i=x.aA.length-1:=by omega
  subst hi';have hrows:=hTr (x.aA.length-1);have hta:((T (x.aA.length-1)).take (x.aA.length-1))=T (x.aA.length-1):=List.take_of_length_le (by omega);rw[a0,a1] at hx;have tD:x.aA[0].bH=[100,121,110]/\x.aA.length=2/\x.aA[1].bH≠[]->eP false x=.mk 4 x.aA[1].bH []:=fun e=>hx.trans (if_pos ⟨e.1,.inr e.2⟩)
  have tA:x.aA[0].bH=[97,115,115,111,99]/\x.aA.length=3/\x.aA[1].bH≠[]->eP false x=.mk 3 x.aA[1].bH ((x.aA.map (eP false)).drop 2):=fun e=>by
   rw[hx,if_neg (fun e'=>by have:=e'.1.symm.trans e.1;revert this;decide),if_pos ⟨e.1,.inr e.2⟩]
  have tN:¬(x.aA[0].bH=[100,121,110]/\x.aA.length=2/\x.aA[1].bH≠[])->¬(x.aA[0].bH=[97,115,115,111,99]/\x.aA.length=3/\x.aA[1].bH≠[])->eP false x=.mk 2 x.aA[0].bH ((x.aA.map (eP false)).drop 1):=fun e1 e2=>by
   rw[hx,if_neg (fun e'=>e1 ⟨e'.1,e'.2.resolve_left (by decide)⟩),if_neg (fun e'=>e2 ⟨e'.1,e'.2.resolve_left (by decide)⟩)]
  clear hx hTs ih
  repeat' (first|(with_reducible refine aC (fun hb=> ?_) (fun hb=> ?_)<;>have h:=hb<;>(try simp only[wf_preprocess] at h)<;>simp -implicitDefEqProofs (disch:=omega) only[go_sem,hb]<;>(repeat(with_reducible refine And.intro ?_ ?_;focus first|omega|rfl|assumption|exact⟨_,rfl,rfl⟩|(simp;omega)|(simp;done)))))
  all_goals first
   |(refine⟨⟨by omega,by omega,hrows⟩,?_⟩;refine ajk (tA ⟨by assumption,by omega,by assumption⟩) ?_;rw[hTn,hta,hTd];exact jv _)
   |exact afU (tD ⟨by assumption,by omega,by assumption⟩)
   |(refine ajk (tN (fun⟨a,b,c⟩=>by first|contradiction|omega) (fun⟨a,b,c⟩=>by first|contradiction|omega)) ?_;rw[hTe];exact jv _)
   |trace_state
theorem mR(x:au)(hsz:x.sz<=4194304):aX prog 251 [x.v] (eP false x).v:=FN _ x (Nat.lt_succ_self _) hsz
theorem FP(xs:List au)(hlen:xs.length<=4194304)(hsz:∀t∈xs,t.sz<=4194304):aX prog 250 [.c (.d (.sl (xs.map au.enc)))] (.c (.d (.sl ((xs.map (eP false)).map ay.enc)))):=fun S=>by
 refine zcx [.tmp 2] func250 ntmps250 ?_;simp -implicitDefEqProofs (disch:=omega) only[go_sem]
 (repeat(with_reducible refine And.intro ?_ ?_;focus first|omega|rfl|assumption|exact⟨_,rfl,rfl⟩|(simp;omega)|(simp;done)))
 refine kN 3 3 [] rfl (by simp) ?_
 refine bN (ι:=Nat) zmx rfl [0,3,4] (fun i=>[.c (.d (.sl (xs.map au.enc))),.c (.bV (0,0) (((xs.map (eP false)).take i).map ay.enc)),.c (.d (.i .i64 i))]) (fun i=>[.tok 3 (((xs.map (eP false)).take i).map ay.enc)]::S)
  (fun i=>i<=xs.length) (fun i=>xs.length-i) 0 rfl rfl (Nat.zero_le _) ?_
 intro i hi
 have hl:(((xs.map (eP false)).take i).map ay.enc).length<=i:=by rw[List.length_map];exact List.length_take_le _ _
 simp -implicitDefEqProofs (disch:=omega) only[go_sem]
 with_reducible refine aC (fun hb=> ?_) (fun hb=> ?_)<;>have h:=hb<;>(try simp only[wf_preprocess] at h)<;>simp -implicitDefEqProofs (disch:=omega) only[go_sem,hb]<;>(repeat(with_reducible refine And.intro ?_ ?_;focus first|omega|rfl|assumption|exact⟨_,rfl,rfl⟩|(simp;omega)|(simp;done)))
 ·have hi':i<xs.length:=by omega
  have hs:=OJ (l:=xs.map (eP false)) (i:=i) (by rw[List.length_map];exact hi');rw[List.getElem_map] at hs
  (repeat(with_reducible refine And.intro ?_ ?_;focus first|omega|rfl|assumption|exact⟨_,rfl,rfl⟩|(simp;omega)|(simp;done)))
  refine aB (mR xs[i] (hsz _ (List.getElem_mem hi'))) ?_;simp -implicitDefEqProofs (disch:=omega) only[go_sem]
  (repeat(with_reducible refine And.intro ?_ ?_;focus first|omega|rfl|assumption|exact⟨_,rfl,rfl⟩|(simp;omega)|(simp;done)))
  rw[hs];exact bT (i+1) (by omega) rfl rfl (by omega)
 ·have hi':i=(xs.map (eP false)).length:=by rw[List.length_map];omega
  rw[hi',List.take_length]
end Go.Ab