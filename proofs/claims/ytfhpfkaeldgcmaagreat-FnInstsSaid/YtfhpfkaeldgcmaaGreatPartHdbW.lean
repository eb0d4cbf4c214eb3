/-
  SEVERAL TEXTS IN ONE (merged by program): contracts and models, each with its own heading.
-/
import Derived.Test.YtfhpfkaeldgcmaaGreatPartHdbK
import Derived.Test.YtfhpfkaeldgcmaaGreatPartHdbN
open Go.Proofs Go.Proofs.Tryz
set_option linter.unusedSimpArgs false
set_option linter.unusedVariables false
set_option maxRecDepth 4000
namespace Go.Ab
def dL(l:List au)(i:Nat):List UInt8:=(l.getD i dw).bC
theorem zR{l:List au}{i:Nat}(h:i<l.length):dL l i=l[i].bC:=by simp[dL,List.getD,h]
theorem Di{l:List au}{i:Nat}(h:l.length<=i):dL l i=[]:=by simp[dL,List.getD,h];rfl
def gq(l:List au):List (List UInt8):=if l.all (fun x=>decide (x.bC≠[]))=true then l.map au.bC else []
theorem mQ:∀{vs:List (List UInt8)},(∀v∈vs,v≠[])->gq (dh vs)=vs:=fun {vs} h=>by
 unfold gq dh;rw[if_pos (List.all_eq_true.2 fun x hx=> ?_),List.map_map]
 ·conv=>rhs;rw[<-List.map_id vs]
  rfl
 ·obtain⟨v,hv,rfl⟩:=List.mem_map.1 hx;exact decide_eq_true (h v hv)
theorem Ri:∀l:List au,((l.map au.bC).map List.length).sum<=dI l
 |[]=>by simp[dI]
 |x::l=>by
  have:=Ri l;rw[List.map_cons,List.map_cons,List.sum_cons,dI,iT];omega
theorem nS(l:List au):(gq l).length<=l.length/\((gq l).map List.length).sum<=dI l:=by
 unfold gq;split
 ·refine⟨by simp,?_⟩;exact Ri l
 ·simp
mutual
def eP(b:Bool):au->ay
 | .mk a l=>if a=[] then
    if l.length<2 then .mk 0 [] []
    else if dL l 0=DZ/\(b=true\/l.length=2/\dL l 1≠[]) then .mk 4 (dL l 1) []
    else if dL l 0=iX/\(b=true\/l.length=3/\dL l 1≠[]) then .mk 3 (dL l 1) ((nL b l).drop 2)
    else .mk 2 (dL l 0) ((nL b l).drop 1)
   else if a.head? =some 39 then .mk 1 a.tail [] else .mk 2 a []
def nL(b:Bool):List au->List ay
 |[]=>[]
 |x::xs=>eP b x::nL b xs
end
theorem vN(b:Bool):∀l,nL b l=l.map (eP b)
 |[]=>rfl
 |t::ts=>by rw[nL,List.map_cons,vN b ts]
theorem af5(b:Bool)(x:au):eP b x=if x.bC=[] then
 if x.aA.length<2 then .mk 0 [] []
 else if dL x.aA 0=DZ/\(b=true\/x.aA.length=2/\dL x.aA 1≠[]) then .mk 4 (dL x.aA 1) []
 else if dL x.aA 0=iX/\(b=true\/x.aA.length=3/\dL x.aA 1≠[]) then .mk 3 (dL x.aA 1) ((x.aA.map (eP b)).drop 2)
 else .mk 2 (dL x.aA 0) ((x.aA.map (eP b)).drop 1)
 else if x.bC.head? =some 39 then .mk 1 x.bC.tail [] else .mk 2 x.bC []:=by
 cases x;rw[eP,vN];rfl
theorem K5:∀a b,oh (a++b)=oh a+oh b
 |[],b=>by simp[oh]
 |x::a,b=>by rw[List.cons_append,oh,oh,K5 a b];omega
theorem Rj(l:List ay)(i:Nat):oh (l.drop i)<=oh l:=by
 have:=K5 (l.take i) (l.drop i);rw[List.take_append_drop] at this;omega
theorem Rk(l:List au)(i:Nat):dI (l.drop i)<=dI l:=by
 have:=jP (l.take i) (l.drop i);rw[List.take_append_drop] at this;omega
theorem aag(l:List au)(i:Nat):(dL l i).length<=dI l:=by
 by_cases h:i<l.length
 ·rw[zR h];have h1:=kR (List.getElem_mem h);rw[iT] at h1;omega
 ·rw[Di (by omega)];simp
mutual
theorem vO(b:Bool):∀x:au,(eP b x).sz<=x.sz
 | .mk a l=>by
   have h1:=Em b l;have h2:=Rj (nL b l) 2;have h3:=Rj (nL b l) 1;have h4:=aag l 0;have h5:=aag l 1
   have h6:(nL b l).length=l.length:=by rw[vN,List.length_map]
   rw[iT,jV];simp only[au.bC,au.aA];rw[eP];split
   ·split
    ·rw[tH];simp[ay.fName,ay.fArgs,oh]
    ·split
     ·rw[tH];simp[ay.fName,ay.fArgs,oh];omega
     ·have g0:=BK b l 0;have g1:=BK b l 1;simp only[Nat.zero_add,Nat.reduceAdd] at g0 g1;split
      ·rw[tH];simp only[ay.fName,ay.fArgs,List.length_drop,h6];omega
      ·rw[tH];simp only[ay.fName,ay.fArgs,List.length_drop,h6];omega
   ·split
    ·rw[tH];simp[ay.fName,ay.fArgs,oh];omega
    ·rw[tH];simp[ay.fName,ay.fArgs,oh]
theorem Em(b:Bool):∀l:List au,oh (nL b l)<=dI l
 |[]=>by simp[nL,oh]
 |x::xs=>by
  have h1:=vO b x;have h2:=Em b xs;rw[nL,oh,dI];omega
theorem BK(b:Bool):∀(l:List au)(i:Nat),oh ((nL b l).drop (i+1))+(dL l i).length<=dI l
 |[],i=>by simp[nL,oh,Di]
 |x::xs,0=>by
  have h2:=Em b xs;rw[nL,List.drop_succ_cons,List.drop_zero,dI,show dL (x::xs) 0=x.bC from rfl,iT];omega
 |x::xs,i+1=>by
  have h2:=BK b xs i;rw[nL,List.drop_succ_cons,dI,show dL (x::xs) (i+1)=dL xs i from rfl];omega
end
theorem Dj{s:List UInt8}(h:validName s=true):s≠[]:=fun e=>by rw[e] at h;have:=gL h;simp at this
theorem aah{s:List UInt8}(h:validName s=true):s.head? ≠some 39:=fun e=>by
 have h1:=gL h;have h2:=h1.2.2 0 (by omega)
 cases s with
 |nil=>cases e
 |cons c s=>
  simp only[List.head?_cons,Option.some.injEq] at e;subst e;simp[lowerB,yH] at h2
theorem adC{s:List UInt8}(h:validName s=true):s≠DZ/\s≠iX:=by
 have h1:=(gL h).2.1;refine⟨fun e=>h1 (by rw[e];simp[reserved,DZ]),fun e=>h1 (by rw[e];simp[reserved,iX])⟩
mutual
theorem uw(b:Bool):∀t:ay,formed t=true->eP b (dR t)=t
 | .mk k n zs=>fun hf=>by
   rw[formed,Bool.and_eq_true] at hf;have hfi:=gL hf.1;have hzs:=Jm b zs hf.2;rw[dR];by_cases h1:k=1
   ·have hz:zs=[]:=by
     have:zs.length=0:=by omega
     exact List.eq_nil_of_length_eq_zero this
    rw[if_pos h1,bN,eP,if_neg (by simp),if_pos (by simp),hz,h1];rfl
   rw[if_neg h1];by_cases h4:k=4
   ·have hz:zs=[]:=by
     have:zs.length=0:=by omega
     exact List.eq_nil_of_length_eq_zero this
    have hn:validName n=true:=by
     rcases hfi with h|h|h
     ·exact h.2.1
     ·exact h.2.1
     ·omega
    rw[if_pos h4,d9,eP,if_pos rfl,if_neg (by simp),if_pos ⟨rfl,.inr ⟨rfl,Dj hn⟩⟩,hz,h4];rfl
   rw[if_neg h4];by_cases h2:k=2/\zs.length=0
   ·have hz:zs=[]:=List.eq_nil_of_length_eq_zero h2.2
    have hn:n≠[]/\n.head? ≠some 39:=by
     rcases hfi with h|h|h
     ·omega
     ·omega
     ·rcases h.2 with g|g
      ·exact⟨Dj g.1,aah g.1⟩
      ·rcases gL g.1 with e|e<;>rw[e]<;>simp
    rw[if_pos h2,bN,eP,if_neg hn.1,if_neg hn.2,hz,h2.1]
   rw[if_neg h2];by_cases h3:k=3
   ·have hz:zs.length=1/\validName n=true:=by
     rcases hfi with h|h|h
     ·omega
     ·exact⟨h.2.2,h.2.1⟩
     ·omega
    rw[if_pos h3,d9,eP,if_pos rfl,if_neg (by simp),if_neg (fun h=>by have:=h.1;simp[dL,bN,au.bC,DZ,iX] at this),if_pos ⟨rfl,.inr ⟨by rw[tF];simp[hz.1],Dj hz.2⟩⟩];show ay.mk 3 n (nL b (Az zs))=_;rw[hzs,h3]
   ·have hn:validName n=true/\zs≠[]:=by
     rcases hfi with h|h|h
     ·omega
     ·omega
     ·rcases h.2 with g|g
      ·exact⟨g.1,fun e=>h2 ⟨h.1,by rw[e];rfl⟩⟩
      ·exact(h2 ⟨h.1,g.2⟩).elim
    have hk:k=2:=by
     rcases hfi with h|h|h
     ·omega
     ·omega
     ·exact h.1
    have hd:=adC hn.1;rw[if_neg h3,d9,eP,if_pos rfl,if_neg (by rw[tF];cases zs with|nil=>exact(hn.2 rfl).elim|cons z zs=>simp),if_neg (fun h=>hd.1 h.1),if_neg (fun h=>hd.2 h.1)];show ay.mk 2 n (nL b (Az zs))=_;rw[hzs,hk]
theorem Jm(b:Bool):∀ts:List ay,jZ ts=true->nL b (Az ts)=ts
 |[],_=>rfl
 |t::ts,h=>by
  rw[jZ,Bool.and_eq_true] at h;rw[Az,nL,uw b t h.1,Jm b ts h.2]
end
theorem Co(b:Bool){ts:List ay}(h:jZ ts=true):(ts.map dR).map (eP b)=ts:=by
 have:=Jm b ts h;rw[vN,tF] at this;exact this
def Cq(b:Bool)(y:au):aJ:=⟨dL y.aA 0,(y.aA.drop 1).map (eP b)⟩
def ou(b:Bool)(x:au):bB:=⟨dL x.aA 1,gq (x.aA.getD 2 dw).aA,(x.aA.drop 3).map (Cq b)⟩
theorem xM{vs:List (List UInt8)}(h:iP vs=true):∀v∈vs,v≠[]:=fun v hv=>by
 unfold iP at h;rw[Bool.and_eq_true] at h;exact Dj (List.all_eq_true.1 h.2 v hv)
theorem af6(b:Bool){c:aJ}(h:jZ c.iw=true):Cq b (Ig c)=c:=by
 show aJ.mk c.fName ((c.iw.map dR).map (eP b))=c;rw[Co b h]
theorem MB{d:bB}(h:iO d=true):∀v∈d.aO,v≠[]:=by
 unfold iO at h;simp only[Bool.and_eq_true] at h;exact xM (by simp_all)
theorem MC(b:Bool){d:bB}(h:iO d=true):ou b (Ih d)=d:=by
 show bB.mk d.fName (gq (dh d.aO)) ((d.aW.map Ig).map (Cq b))=d;rw[mQ (MB h),List.map_map,show d.aW.map (Cq b∘Ig)=d.aW.map id from List.map_congr_left (fun c hc=>af6 b (Mq h c hc)),List.map_id]
theorem adD(d:bB):3<=(Ih d).aA.length/\dL (Ih d).aA 0=uQ:=⟨by rw[Ih,gZ];simp[baseD],rfl⟩
noncomputable def okD(x:au):Bool:=dec (iQ x=true/\3<=x.aA.length/\dL x.aA 0=uQ/\iO (ou true x)=true/\Ih (ou true x)=x)
noncomputable def wQ(x:au):bB:=if okD x=true then ou true x else⟨[],[],[]⟩
theorem En:dw.sz=0:=by rw[iT];simp[dw,au.bC,au.aA,aI]
theorem Rl{b:Bool}{s x:au}(h:tJ b s=x)(hx:x.aA≠[]):b=true/\s=x/\iQ x=true:=by
 cases b with
 |false=>rw[<-h] at hx;exact(hx rfl).elim
 |true=>
  rw[tJ] at h;unfold AA at h;split at h
  ·rename_i hv;exact⟨rfl,h,by rw[<-h];exact hv⟩
  ·rw[<-h] at hx;exact(hx rfl).elim
theorem adE{x:au}(hx:x.aA≠[]):okD x=(iQ x&&dec (QV (ou false x)=x)):=by
 cases hv:iQ x with
 |false=>exact bK fun h=>by rw[hv] at h;cases h.1
 |true=>
  rw[Bool.true_and];refine kP ⟨fun⟨_,h1,h2,h3,h4⟩=> ?_,fun h=> ?_⟩
  ·have e:ou false x=ou true x:=by conv=>lhs;rw[<-h4]
                                   exact MC false h3
   rw[e,QV,h3,h4,tJ,AA,if_pos hv]
  ·obtain⟨h1,h2,_⟩:=Rl h hx
   have e:ou true x=ou false x:=by conv=>lhs;rw[<-h2]
                                   exact MC true h1
   have:=adD (ou false x);rw[h2] at this;rw[e];exact⟨hv,this.1,this.2,h1,h2⟩
theorem adF{x:au}(h:okD x=true):ou false x=ou true x:=by
 have h1:=gL h
 conv=>lhs;rw[<-h1.2.2.2.2]
 exact MC false h1.2.2.2.1
theorem af7(b:Bool)(y:au):(Cq b y).sz<=y.sz:=by
 have h:=BK b y.aA 0;rw[vN] at h;rw[vK,iT,jV];simp only[Cq,List.length_map,List.length_drop,<-List.map_drop,Nat.zero_add] at h ⊢;omega
theorem Rm(b:Bool):∀l:List au,zf (l.map (Cq b))<=dI l
 |[]=>by simp[zf]
 |y::l=>by
  have h1:=af7 b y;have h2:=Rm b l;rw[List.map_cons,zf,dI];omega
theorem Xt(l:List au):(dL l 1).length+((l.getD 2 dw).aA.length+dI (l.getD 2 dw).aA)+dI (l.drop 3)<=dI l:=by
 match l with
 |[]=>simp[dL,dI,dw,au.bC,au.aA]
 |[x]=>simp[dL,dI,dw,au.bC,au.aA]
 |[x,y]=>
  simp only[dI,iT y];simp[dL,dI,dw,au.bC,au.aA];omega
 |x::y::z::l=>
  simp only[dI,iT y,iT z,jV];simp[dL];omega
theorem Uw(b:Bool)(x:au):(ou b x).sz<=x.sz:=by
 have h1:=Rm b (x.aA.drop 3);have h2:=nS (x.aA.getD 2 dw).aA;have h3:=Xt x.aA;rw[pF,iT,jV];simp only[ou,List.length_map,List.length_drop];omega
theorem ah0{x:au}{i:Nat}(hi:i<x.aA.length)(h:x.sz<=4194304):x.aA[i].sz<=4194304:=by
 have:=kR (List.getElem_mem hi);rw[iT,jV] at h;omega
theorem ah1{x:au}(h:x.sz<=4194304):x.bC.length<=4194304/\x.aA.length<=4194304:=by
 rw[iT] at h;omega
theorem yP:∀n:Nat,∀x:au,SizeOf.sizeOf x<n->∀y:au,x.sz<=4194304->bq prog 253 [x.v,y.v] (.c (.d (.b (dec (x=y)))))
 |0=>fun x h=>by omega
 |n+1=>by
  have ih:=yP n;intro x hn y hsz S;have am2:=au.CR x;have hb:=ah1 hsz;refine zcx [.tmp 4] func253 ntmps253 ?_;simp -implicitDefEqProofs (disch:=omega) only[go_sem]
  with_reducible refine aD (fun hb=> ?_) (fun hb=> ?_)<;>have h:=hb<;>(try simp only[wf_preprocess] at h)<;>simp -implicitDefEqProofs (disch:=omega) only[go_sem,hb]<;>(repeat(with_reducible refine And.intro ?_ ?_;focus first|omega|rfl|assumption|exact⟨_,rfl,rfl⟩|(simp;omega)|(simp;done)))
  ·exact bO (bK (fun e=>h (by rw[e]))).symm
  have h1:=h
  with_reducible refine aD (fun hb=> ?_) (fun hb=> ?_)<;>have h:=hb<;>(try simp only[wf_preprocess] at h)<;>simp -implicitDefEqProofs (disch:=omega) only[go_sem,hb]<;>(repeat(with_reducible refine And.intro ?_ ?_;focus first|omega|rfl|assumption|exact⟨_,rfl,rfl⟩|(simp;omega)|(simp;done)))
  ·exact bO (bK (fun e=>h (by rw[e]))).symm
  have hl:x.aA.length=y.aA.length:=by omega
  refine bT (ι:=Nat) zmx rfl [2,3,5] (fun i=>[.c (.ptr (0,0) 0),.c (.ptr (0,1) 0),.c (.d (.i .i64 i))]) (fun i=>[.box [.d (.s x.bC),.d (.sl (x.aA.map au.enc))],.box [.d (.s y.bC),.d (.sl (y.aA.map au.enc))]]::S)
   (fun i=>i<=x.aA.length/\∀j,j<i->x.aA[j]? =y.aA[j]?) (fun i=>x.aA.length-i) 0 rfl rfl ⟨Nat.zero_le _,fun j h=>by omega⟩ ?_
  rintro i ⟨p1,p2⟩;simp -implicitDefEqProofs (disch:=omega) only[go_sem,au.aj]
  with_reducible refine aD (fun hb=> ?_) (fun hb=> ?_)<;>have h:=hb<;>(try simp only[wf_preprocess] at h)<;>simp -implicitDefEqProofs (disch:=omega) only[go_sem,hb]<;>(repeat(with_reducible refine And.intro ?_ ?_;focus first|omega|rfl|assumption|exact⟨_,rfl,rfl⟩|(simp;omega)|(simp;done)))
  ·have hi:i<x.aA.length:=by omega
   have hi':i<y.aA.length:=by omega
   (repeat(with_reducible refine And.intro ?_ ?_;focus first|omega|rfl|assumption|exact⟨_,rfl,rfl⟩|(simp;omega)|(simp;done)))
   refine aB (ih x.aA[i] (by have:=List.sizeOf_lt_of_mem (List.getElem_mem hi);omega) y.aA[i] (ah0 hi hsz)) ?_;simp -implicitDefEqProofs (disch:=omega) only[go_sem]
   with_reducible refine aD (fun hb=> ?_) (fun hb=> ?_)<;>have h:=hb<;>(try simp only[wf_preprocess] at h)<;>simp -implicitDefEqProofs (disch:=omega) only[go_sem,hb]<;>(repeat(with_reducible refine And.intro ?_ ?_;focus first|omega|rfl|assumption|exact⟨_,rfl,rfl⟩|(simp;omega)|(simp;done)))
   ·exact bO (bK (fun e=>h (by simp only[e]))).symm
   refine dG (i+1) (by omega) rfl rfl ⟨by omega,fun j hj=> ?_⟩;by_cases e:j=i
   ·subst e;rw[List.getElem?_eq_getElem hi,List.getElem?_eq_getElem hi',h]
   ·exact p2 j (by omega)
  ·have hi:i=x.aA.length:=by omega
   refine bO (dQ ?_).symm;refine au.ext (by first|exact h1|(simp at h1;exact h1)) (List.ext_getElem? fun j=> ?_);by_cases hj:j<i
   ·exact p2 j hj
   ·rw[List.getElem?_eq_none (by omega),List.getElem?_eq_none (by omega)]
theorem qh(x y:au)(h:x.sz<=4194304):bq prog 253 [x.v,y.v] (.c (.d (.b (dec (x=y))))):=yP _ x (Nat.lt_succ_self _) y h
theorem Iq{α:Type}[SizeOf α]:∀(i:Nat)(l:List α),SizeOf.sizeOf (l.drop i)<=SizeOf.sizeOf l
 |0,l=>by simp
 |i+1,[]=>by simp
 |i+1,x::l=>by
  have:=Iq i l;rw[List.drop_succ_cons];simp only[List.cons.sizeOf_spec];omega
theorem Gb(l:List au)(n i:Nat)(h:l.length<=n):((l.map au.enc).take n).drop i=(l.drop i).map au.enc:=by
 rw[List.take_of_length_le (by rw[List.length_map];exact h),List.map_drop]
theorem xO(l:List au)(i:Nat):(l.getD i dw).sz<=dI l:=by
 rw[List.getD_eq_getElem?_getD];by_cases h:i<l.length
 ·rw[List.getElem?_eq_getElem h];exact kR (List.getElem_mem h)
 ·rw[List.getElem?_eq_none (by omega)];rw[Option.getD_none,iT];simp[dw,au.bC,au.aA,aI]
theorem gN(x:au):x.aA.length+dI x.aA<=x.sz:=by rw[iT,jV];omega
theorem Eo(x:au):x.bC.length<=x.sz:=by rw[iT];omega
def zS(x:au):List D:=[.s x.bC]
def allA(l:List au):Bool:=l.all fun x=>decide (x.bC≠[])
theorem af8{l:List au}{i:Nat}(hi:i<l.length)(h:l[i].bC=[]):allA l=false/\gq l=[]:=by
 have:allA l=false:=by
  unfold allA;rw[List.all_eq_false];exact⟨_,List.getElem_mem hi,by simp[h]⟩
 refine⟨this,?_⟩;unfold gq;unfold allA at this;rw[this];rfl
theorem adG{l:List au}(h:∀j (hj:j<l.length),l[j].bC≠[]):allA l=true/\(gq l).map encS=l.map zS:=by
 have:allA l=true:=by
  unfold allA;rw[List.all_eq_true];intro x hx;obtain⟨j,hj,rfl⟩:=List.getElem_of_mem hx;exact decide_eq_true (h j hj)
 refine⟨this,?_⟩;unfold gq;unfold allA at this;rw[this,if_pos rfl,List.map_map];rfl
theorem Rn{l:List au}{i:Nat}(hi:i<l.length):(l.take i).map zS++[[.s l[i].bC]]=(l.take (i+1)).map zS:=by
 rw[List.take_succ_eq_append_getElem hi,List.map_append];rfl
theorem Tw{l:List au}{i:Nat}:((l.take i).map zS).length<=i:=by rw[List.length_map];exact List.length_take_le _ _
def lt(l:List ay)(n:Nat):List (List D):=eu (l.map ay.enc) n
def qj(l:List ay):Nat:=gQ (l.map ay.enc)
theorem NK{l:List ay}{i:Nat}(hi:i<l.length):(l.take i).map ay.enc++[[.i .i64 l[i].aR,.s l[i].fName,.sl (l[i].fArgs.map ay.enc)]]=(l.take (i+1)).map ay.enc:=by
 rw[List.take_succ_eq_append_getElem hi,List.map_append];simp only[List.map_cons,List.map_nil,ay.aj]
theorem Ux(k:Int)(s:List UInt8)(es:List (List D)):Less (.agg [.d (.i .i64 k),.d (.s s),.bI es]) (.agg [.d (.i .i64 k),.d (.s s),.d (.sl es)]):=(gy.cons (.refl _) (.cons (.refl _) (.cons (eG es) .nil))).less
theorem ah2{s:List UInt8}(h:s≠[]):((s.getD 0 0).toNat:Int)=39<->s.head? =some 39:=by
 cases s with
 |nil=>exact(h rfl).elim
 |cons b s=>
  simp only[List.getD_cons_zero,List.head?_cons,Option.some.injEq];constructor
  ·intro e
   have:b.toNat=39:=by omega
   exact UInt8.toNat.inj this
  ·intro e;rw[e];rfl
theorem Xu(s:List UInt8)(n:Nat)(h:s.length<=n):(s.take n).drop 1=s.tail:=by rw[List.take_of_length_le h,List.drop_one]
abbrev ay.vl(t:ay)(n:Nat):V:=.agg [.d (.i .i64 t.aR),.d (.s t.fName),.d (.ol n (lt t.fArgs (n+1)))]
theorem ah3{b:Bool}{x:au}{r:V}{k:Int}{s:List UInt8}{l:List ay}(h:eP b x=.mk k s l)(hl:Less r (.agg [.d (.i .i64 k),.d (.s s),.d (.sl (l.map ay.enc))])):Less r (eP b x).v:=by rw[h];exact hl
theorem aeJ{b:Bool}{x:au}{k:Int}{s:List UInt8}(h:eP b x=.mk k s []):Less (.agg [.d (.i .i64 k),.d (.s s),.bI []]) (eP b x).v:=by rw[h];exact Ux k s []
theorem aeK{b:Bool}{x:au}{k:Int}{s:List UInt8}(h:eP b x=.mk k s []):Less (.agg [.d (.i .i64 k),.d (.s s),.d (.sl [])]) (eP b x).v:=by rw[h];exact jv _
theorem AX(xs:List au)(hx:xs.length<=1073741824):bq prog 219 [.c (.d (.sl (xs.map au.enc)))] (.eH [(false,[.d (.sl ((gq xs).map encS))]),(false,[.d (.b (allA xs))])]):=bq.of_le fun S=>by
 refine zcx [.tmp 2,.tmp 3] func219 ntmps219 ?_;simp -implicitDefEqProofs (disch:=omega) only[go_sem]
 (repeat(with_reducible refine And.intro ?_ ?_;focus first|omega|rfl|assumption|exact⟨_,rfl,rfl⟩|(simp;omega)|(simp;done)))
 refine lq 4 1 [] rfl (by simp) ?_
 refine bT (ι:=Nat) zmx rfl [0,4,5] (fun i=>[.c (.d (.sl (xs.map au.enc))),.c (.bX (0,0) ((xs.take i).map zS)),.c (.d (.i .i64 i))]) (fun i=>[.tok 1 ((xs.take i).map zS)]::S)
  (fun i=>i<=xs.length/\∀j,∀hj:j<xs.length,j<i->xs[j].bC≠[]) (fun i=>xs.length-i) 0 rfl rfl ⟨Nat.zero_le _,fun j _ h=>by omega⟩ ?_
 rintro i ⟨p1,p2⟩;have hl:=Tw (l:=xs) (i:=i);simp -implicitDefEqProofs (disch:=omega) only[go_sem,au.aj]
 with_reducible refine aD (fun hb=> ?_) (fun hb=> ?_)<;>have h:=hb<;>(try simp only[wf_preprocess] at h)<;>simp -implicitDefEqProofs (disch:=omega) only[go_sem,hb]<;>(repeat(with_reducible refine And.intro ?_ ?_;focus first|omega|rfl|assumption|exact⟨_,rfl,rfl⟩|(simp;omega)|(simp;done)))
 ·have hi':i<xs.length:=by omega
  have hs:=Rn hi'
  (repeat(with_reducible refine And.intro ?_ ?_;focus first|omega|rfl|assumption|exact⟨_,rfl,rfl⟩|(simp;omega)|(simp;done)))
  with_reducible refine aD (fun hb=> ?_) (fun hb=> ?_)<;>have h:=hb<;>(try simp only[wf_preprocess] at h)<;>simp -implicitDefEqProofs (disch:=omega) only[go_sem,hb]<;>(repeat(with_reducible refine And.intro ?_ ?_;focus first|omega|rfl|assumption|exact⟨_,rfl,rfl⟩|(simp;omega)|(simp;done)))
  ·obtain⟨e1,e2⟩:=af8 hi' h;rw[e1,e2];exact(jR.cons (.cons (eG _) .nil) (.refl _)).less
  ·(repeat(with_reducible refine And.intro ?_ ?_;focus first|omega|rfl|assumption|exact⟨_,rfl,rfl⟩|(simp;omega)|(simp;done)))
   rw[hs];refine dG (i+1) (by omega) rfl rfl ⟨by omega,fun j hj hji=> ?_⟩;by_cases e':j=i
   ·subst e';exact h
   ·exact p2 j hj (by omega)
 ·have hi':i=xs.length:=by omega
  subst hi';obtain⟨e1,e2⟩:=adG fun j hj=>p2 j hj hj;rw[e1,e2,List.take_length];exact jv _
theorem ow(x:au)(hx:x.sz<=4194304):bq prog 248 [x.v] (.c (.d (.sl ((gq x.aA).map encS)))):=fun S=>by
 have:=gN x;refine zcx [.tmp 2] func248 ntmps248 ?_;simp -implicitDefEqProofs (disch:=omega) only[go_sem];refine aB (AX x.aA (by omega)) ?_;simp -implicitDefEqProofs (disch:=omega) only[go_sem]
theorem eT(x:au)(i:Nat)(hx:x.sz<=4194304)(hi:i<=100):bq prog 220 [x.v,.c (.d (.i .i64 i))] (x.aA.getD i dw).v:=bq.of_le fun S=>by
 have:=gN x;refine zcx [.cell 4 202] func220 ntmps220 ?_;simp -implicitDefEqProofs (disch:=omega) only[go_sem]
 with_reducible refine aD (fun hb=> ?_) (fun hb=> ?_)<;>have h:=hb<;>(try simp only[wf_preprocess] at h)<;>simp -implicitDefEqProofs (disch:=omega) only[go_sem,hb]<;>(repeat(with_reducible refine And.intro ?_ ?_;focus first|omega|rfl|assumption|exact⟨_,rfl,rfl⟩|(simp;omega)|(simp;done)))
 ·rw[List.getD_eq_getElem?_getD,List.getElem?_eq_none (by omega)];exact(gy.cons (.refl _) (.cons (eG _) .nil)).less
 ·have hi:i<x.aA.length:=by omega
  rw[List.getD_eq_getElem?_getD,List.getElem?_eq_getElem hi];exact jv _
theorem rH(a b:Int):bq prog 261 [.c (.d (.i .i64 a)),.c (.d (.i .i64 b))] (.c (.d (.i .i64 (min a b)))):=fun S=>by
 refine zcx [.tmp 4] func261 ntmps261 ?_;simp -implicitDefEqProofs (disch:=omega) only[go_sem]
 with_reducible refine aD (fun hb=> ?_) (fun hb=> ?_)<;>have h:=hb<;>(try simp only[wf_preprocess] at h)<;>simp -implicitDefEqProofs (disch:=omega) only[go_sem,hb]<;>(repeat(with_reducible refine And.intro ?_ ?_;focus first|omega|rfl|assumption|exact⟨_,rfl,rfl⟩|(simp;omega)|(simp;done)))
 ·exact int_eq (by omega)
 ·exact int_eq (by omega)
theorem uO(x:au)(i:Nat)(hx:x.sz<=4194304):bq prog 249 [x.v,.c (.d (.i .i64 i))] (.c (.d (.sl ((x.aA.drop i).map au.enc)))):=fun S=>by
 have:=gN x;refine zcx [.tmp 4] func249 ntmps249 ?_;simp -implicitDefEqProofs (disch:=omega) only[go_sem];refine aB (rH _ _) ?_
 have e:min (i:Int) (x.aA.length:Int)=((min i x.aA.length:Nat):Int):=by omega
 rw[e];have hr:=je (l:=x.aA);simp -implicitDefEqProofs (disch:=omega) only[go_sem]
 (repeat(with_reducible refine And.intro ?_ ?_;focus first|omega|rfl|assumption|exact⟨_,rfl,rfl⟩|(simp;omega)|(simp;done)))
 refine⟨⟨by omega,by omega,by omega,hr⟩,?_⟩;rw[Gb _ _ _ (Nat.le_refl _)];by_cases h:i<=x.aA.length
 ·rw[Nat.min_eq_left h]
 ·rw[Nat.min_eq_right (by omega),List.drop_length,List.drop_of_length_le (by omega)]
theorem Xv(s:List UInt8):bq prog 94 [.c (.d (.s s)),.c (.d (.sl []))] (.agg [.d (.i .i64 2),.d (.s s),.d (.sl [])]):=bq.of_le fun S=>by
 refine zcx [.cell 4 41] func94 ntmps94 ?_;simp -implicitDefEqProofs (disch:=omega) only[go_sem]
 (repeat(with_reducible refine And.intro ?_ ?_;focus first|omega|rfl|assumption|exact⟨_,rfl,rfl⟩|(simp;omega)|(simp;done)))
 exact jv _
theorem Xw(s:List UInt8):bq prog 141 [.c (.d (.s s))] (.agg [.d (.i .i64 1),.d (.s s),.d (.sl [])]):=bq.of_le fun S=>by
 refine zcx [.cell 2 41] func141 ntmps141 ?_;simp -implicitDefEqProofs (disch:=omega) only[go_sem]
 (repeat(with_reducible refine And.intro ?_ ?_;focus first|omega|rfl|assumption|exact⟨_,rfl,rfl⟩|(simp;omega)|(simp;done)))
 exact Ux _ _ _
theorem EO:∀N:Nat,(∀x:au,SizeOf.sizeOf x<N->x.sz<=4194304->bq prog 251 [x.v] (eP false x).v)
 |0=>fun x h=>by omega
 |N+1=>by
  have ih:=EO N;intro x hn hsz;have oF:=au.CR x;have h1:=gN x;have h2:=Eo x;have hx:=af5 false x
  have hall:∀t∈x.aA,t.sz<=4194304:=fun t ht=>by have:=kR ht;omega
  refine bq.of_le fun S=> ?_;refine zcx [.cell 2 41] func251 ntmps251 ?_;simp -implicitDefEqProofs (disch:=omega) only[go_sem]
  with_reducible refine aD (fun hb=> ?_) (fun hb=> ?_)<;>have h:=hb<;>(try simp only[wf_preprocess] at h)<;>simp -implicitDefEqProofs (disch:=omega) only[go_sem,hb]<;>(repeat(with_reducible refine And.intro ?_ ?_;focus first|omega|rfl|assumption|exact⟨_,rfl,rfl⟩|(simp;omega)|(simp;done)))
  ·have hne:=h;rw[if_neg h] at hx;have h39:=ah2 h;have hln:0<x.bC.length:=List.length_pos_iff.2 hne;have hsl:=Xu x.bC x.bC.length (Nat.le_refl _)
   (repeat(with_reducible refine And.intro ?_ ?_;focus first|omega|rfl|assumption|exact⟨_,rfl,rfl⟩|(simp;omega)|(simp;done)))
   with_reducible refine aD (fun hb=> ?_) (fun hb=> ?_)<;>have h:=hb<;>(try simp only[wf_preprocess] at h)<;>simp -implicitDefEqProofs (disch:=omega) only[go_sem,hb]<;>(repeat(with_reducible refine And.intro ?_ ?_;focus first|omega|rfl|assumption|exact⟨_,rfl,rfl⟩|(simp;omega)|(simp;done)))
   ·rw[if_pos (h39.1 h)] at hx
    (repeat(with_reducible refine And.intro ?_ ?_;focus first|omega|rfl|assumption|exact⟨_,rfl,rfl⟩|(simp;omega)|(simp;done)))
    rw[hsl];refine aB (Xw _) ?_;simp -implicitDefEqProofs (disch:=omega) only[go_sem];exact aeK hx
   ·rw[if_neg (fun e=>h (h39.2 e))] at hx;refine aB (Xv _) ?_;simp -implicitDefEqProofs (disch:=omega) only[go_sem];exact aeK hx
  rw[if_pos h] at hx
  with_reducible refine aD (fun hb=> ?_) (fun hb=> ?_)<;>have h:=hb<;>(try simp only[wf_preprocess] at h)<;>simp -implicitDefEqProofs (disch:=omega) only[go_sem,hb]<;>(repeat(with_reducible refine And.intro ?_ ?_;focus first|omega|rfl|assumption|exact⟨_,rfl,rfl⟩|(simp;omega)|(simp;done)))
  ·rw[if_pos (by omega)] at hx;exact aeJ hx
  rw[if_neg (by omega)] at hx
  have hl2:2<=x.aA.length:=by omega
  have a0:=zR (l:=x.aA) (i:=0) (by omega);have a1:=zR (l:=x.aA) (i:=1) (by omega);obtain⟨T,hT⟩:∃T:Nat->List (List D),T=fun i=>(((x.aA.map (eP false)).drop 1).take i).map ay.enc:=⟨_,rfl⟩
  have hT0:T 0=[]:=by rw[hT];rfl
  have iE:∀i,(T i).length<=i:=fun i=>by rw[hT];simp only[List.length_map];exact List.length_take_le _ _
  have hTr:∀i,∀r∈T i,r.length=3:=fun i=>by
   rw[hT];intro r hr;obtain⟨z,_,rfl⟩:=List.mem_map.1 hr;exact z.cZ
  have hTs:∀i (hi:i+1<x.aA.length),T i++[[.i .i64 (eP false x.aA[i+1]).aR,.s (eP false x.aA[i+1]).fName,.sl ((eP false x.aA[i+1]).fArgs.map ay.enc)]]=T (i+1):=fun i hi=>by
   have:=NK (l:=(x.aA.map (eP false)).drop 1) (i:=i) (by rw[List.length_drop,List.length_map];omega);rw[List.getElem_drop,List.getElem_map] at this;rw[hT];simp only[Nat.add_comm 1 i] at this ⊢;exact this
  have hTe:T (x.aA.length-1)=((x.aA.map (eP false)).drop 1).map ay.enc:=by
   rw[hT];simp only
   rw[List.take_of_length_le (by simp)]
  have hTn:(T (x.aA.length-1)).length=x.aA.length-1:=by rw[hTe];simp
  have hTd:(T (x.aA.length-1)).drop 1=((x.aA.map (eP false)).drop 2).map ay.enc:=by rw[hTe,<-List.map_drop,List.drop_drop]
  clear hT
  (repeat(with_reducible refine And.intro ?_ ?_;focus first|omega|rfl|assumption|exact⟨_,rfl,rfl⟩|(simp;omega)|(simp;done)))
  refine lq 4 3 [] rfl (by simp) ?_
  refine bT (ι:=Nat) zmx rfl [1,2,3,4,5] (fun i=>[.c (.ptr (0,0) 0),.c (.ptr (0,1) 0),.c (.d (.s x.aA[0].bC)),.c (.bX (0,2) (T i)),.c (.d (.i .i64 ((i+1:Nat):Int)))])
   (fun i=>[.box [.d (.s x.bC),.d (.sl (x.aA.map au.enc))],.box [.d (.i .i64 0),.d (.s []),.bI []],.tok 3 (T i)]::S)
   (fun i=>i+1<=x.aA.length) (fun i=>x.aA.length-(i+1)) 0 (by rw[hT0];rfl) (by rw[hT0];rfl) (by omega) ?_
  intro i hi;have hl:=iE i;simp -implicitDefEqProofs (disch:=omega) only[go_sem]
  with_reducible refine aD (fun hb=> ?_) (fun hb=> ?_)<;>have h:=hb<;>(try simp only[wf_preprocess] at h)<;>simp -implicitDefEqProofs (disch:=omega) only[go_sem,hb]<;>(repeat(with_reducible refine And.intro ?_ ?_;focus first|omega|rfl|assumption|exact⟨_,rfl,rfl⟩|(simp;omega)|(simp;done)))
  ·have hi':i+1<x.aA.length:=by omega
   have hm:=List.getElem_mem hi';have hs:=hTs i hi'
   (repeat(with_reducible refine And.intro ?_ ?_;focus first|omega|rfl|assumption|exact⟨_,rfl,rfl⟩|(simp;omega)|(simp;done)))
   refine aB (ih x.aA[i+1] (by have:=List.sizeOf_lt_of_mem hm;omega) (hall _ hm)) ?_;simp -implicitDefEqProofs (disch:=omega) only[go_sem,ay.aj]
   (repeat(with_reducible refine And.intro ?_ ?_;focus first|omega|rfl|assumption|exact⟨_,rfl,rfl⟩|(simp;omega)|(simp;done)))
   rw[hs];exact dG (i+1) (by omega) rfl rfl (by omega)
  have hi':i=x.aA.length-1:=by omega
  subst hi';have hrows:=hTr (x.aA.length-1);have hta:((T (x.aA.length-1)).take (x.aA.length-1))=T (x.aA.length-1):=List.take_of_length_le (by omega);rw[a0,a1] at hx;have tD:x.aA[0].bC=[100,121,110]/\x.aA.length=2/\x.aA[1].bC≠[]->eP false x=.mk 4 x.aA[1].bC []:=fun e=>hx.trans (if_pos ⟨e.1,.inr e.2⟩)
  have tA:x.aA[0].bC=[97,115,115,111,99]/\x.aA.length=3/\x.aA[1].bC≠[]->eP false x=.mk 3 x.aA[1].bC ((x.aA.map (eP false)).drop 2):=fun e=>by
   rw[hx,if_neg (fun e'=>by have:=e'.1.symm.trans e.1;revert this;decide),if_pos ⟨e.1,.inr e.2⟩]
  have tN:¬(x.aA[0].bC=[100,121,110]/\x.aA.length=2/\x.aA[1].bC≠[])->¬(x.aA[0].bC=[97,115,115,111,99]/\x.aA.length=3/\x.aA[1].bC≠[])->eP false x=.mk 2 x.aA[0].bC ((x.aA.map (eP false)).drop 1):=fun e1 e2=>by
   rw[hx,if_neg (fun e'=>e1 ⟨e'.1,e'.2.resolve_left (by decide)⟩),if_neg (fun e'=>e2 ⟨e'.1,e'.2.resolve_left (by decide)⟩)]
  clear hx hTs ih
  repeat' (first|(with_reducible refine aD (fun hb=> ?_) (fun hb=> ?_)<;>have h:=hb<;>(try simp only[wf_preprocess] at h)<;>simp -implicitDefEqProofs (disch:=omega) only[go_sem,hb]<;>(repeat(with_reducible refine And.intro ?_ ?_;focus first|omega|rfl|assumption|exact⟨_,rfl,rfl⟩|(simp;omega)|(simp;done)))))
  all_goals first
   |(refine⟨⟨by omega,by omega,hrows⟩,?_⟩;refine ah3 (tA ⟨by assumption,by omega,by assumption⟩) ?_;rw[hTn,hta,hTd];exact jv _)
   |exact aeJ (tD ⟨by assumption,by omega,by assumption⟩)
   |(refine ah3 (tN (fun⟨a,b,c⟩=>by first|contradiction|omega) (fun⟨a,b,c⟩=>by first|contradiction|omega)) ?_;rw[hTe];exact jv _)
   |trace_state
theorem mR(x:au)(hsz:x.sz<=4194304):bq prog 251 [x.v] (eP false x).v:=EO _ x (Nat.lt_succ_self _) hsz
theorem EP(xs:List au)(hlen:xs.length<=4194304)(hsz:∀t∈xs,t.sz<=4194304):bq prog 250 [.c (.d (.sl (xs.map au.enc)))] (.c (.d (.sl ((xs.map (eP false)).map ay.enc)))):=fun S=>by
 refine zcx [.tmp 2] func250 ntmps250 ?_;simp -implicitDefEqProofs (disch:=omega) only[go_sem]
 (repeat(with_reducible refine And.intro ?_ ?_;focus first|omega|rfl|assumption|exact⟨_,rfl,rfl⟩|(simp;omega)|(simp;done)))
 refine lq 3 3 [] rfl (by simp) ?_
 refine bT (ι:=Nat) zmx rfl [0,3,4] (fun i=>[.c (.d (.sl (xs.map au.enc))),.c (.bX (0,0) (((xs.map (eP false)).take i).map ay.enc)),.c (.d (.i .i64 i))]) (fun i=>[.tok 3 (((xs.map (eP false)).take i).map ay.enc)]::S)
  (fun i=>i<=xs.length) (fun i=>xs.length-i) 0 rfl rfl (Nat.zero_le _) ?_
 intro i hi
 have hl:(((xs.map (eP false)).take i).map ay.enc).length<=i:=by rw[List.length_map];exact List.length_take_le _ _
 simp -implicitDefEqProofs (disch:=omega) only[go_sem]
 with_reducible refine aD (fun hb=> ?_) (fun hb=> ?_)<;>have h:=hb<;>(try simp only[wf_preprocess] at h)<;>simp -implicitDefEqProofs (disch:=omega) only[go_sem,hb]<;>(repeat(with_reducible refine And.intro ?_ ?_;focus first|omega|rfl|assumption|exact⟨_,rfl,rfl⟩|(simp;omega)|(simp;done)))
 ·have hi':i<xs.length:=by omega
  have hs:=NK (l:=xs.map (eP false)) (i:=i) (by rw[List.length_map];exact hi');rw[List.getElem_map] at hs
  (repeat(with_reducible refine And.intro ?_ ?_;focus first|omega|rfl|assumption|exact⟨_,rfl,rfl⟩|(simp;omega)|(simp;done)))
  refine aB (mR xs[i] (hsz _ (List.getElem_mem hi'))) ?_;simp -implicitDefEqProofs (disch:=omega) only[go_sem]
  (repeat(with_reducible refine And.intro ?_ ?_;focus first|omega|rfl|assumption|exact⟨_,rfl,rfl⟩|(simp;omega)|(simp;done)))
  rw[hs];exact dG (i+1) (by omega) rfl rfl (by omega)
 ·have hi':i=(xs.map (eP false)).length:=by rw[List.length_map];omega
  rw[hi',List.take_length]
end Go.Ab