/-
  SEVERAL TEXTS IN ONE (merged by program): contracts and models, each with its own heading.
-/
import Derived.Test.YtnmjbebcebbmfaaGreatDoorPartDnbQ
import Derived.Test.YtnmjbebcebbmfaaGreatDoorPartDnbR
import Derived.Lib.Atoi
import Derived.Shelf.Strconv.Atoi
import Derived.Shelf.LaysC
import Derived.Shelf.Strconv.AtoiErr
import Derived.Shelf.Strconv.ErrVar
import Derived.Lib.AppendIntMem
import Derived.Lib.AtoiBound
set_option maxHeartbeats 8000000
open Go.Proofs Go.Proofs.Tryz
set_option linter.unusedSimpArgs false
set_option linter.unusedVariables false
set_option maxRecDepth 4000
namespace Go.Ab
theorem ai2{x:ah}{i:Nat}(hi:i<x.aj.length)(h:x.sz<=4194304):x.aj[i].sz<=4194304:=by
 have:=gY (ac hi);rw[iM,jU] at h;omega
theorem ai3{x:ah}(h:x.sz<=4194304):x.aI.length<=4194304/\x.aj.length<=4194304:=by
 rw[iM] at h;omega
theorem Ej:∀n:Nat,∀x:ah,SizeOf.sizeOf x<n->∀y:ah,x.sz<=4194304->aD prog 141 [x.v,y.v] (.c (.d (.b (dec (x=y)))))
 |0=>fun x h=>by omega
 |n+1=>by
  have ih:=Ej n;intro x hn y hsz S;have atK:=ah.vO x;have hb:=ai3 hsz;refine zcx [.tmp 4] func141 ntmps141 ?_;refine W1 ?_;refine S0 (fun hb h=>?_) fun hb h=>?_
  ·exact aK (aO (fun e=>h (by rw[e]))).symm
  have h1:=h;refine S0 (fun hb h=>?_) fun hb h=>?_
  ·exact aK (aO (fun e=>h (by rw[e]))).symm
  have hl:x.aj.length=y.aj.length:=gA
  refine aZ (ι:=Nat) zmx rfl [2,3,5] (fun i=>[.c (.ptr (0,0) 0),.c (.ptr (0,1) 0),.c (.d (.i .i64 i))]) (fun i=>[.box [.d (.s x.aI),.d (.sl (x.aj.map ah.enc))],.box [.d (.s y.aI),.d (.sl (y.aj.map ah.enc))]]::S)
   (fun i=>i<=x.aj.length/\∀j,j<i->x.aj[j]? =y.aj[j]?) (fun i=>x.aj.length-i) 0 rfl rfl ⟨an _,fun j h=>gA⟩ ?_
  rintro i ⟨p1,p2⟩;simp -implicitDefEqProofs (disch:=omega) only[go_sem,ah.aC];refine S0 (fun hb h=>?_) fun hb h=>?_
  ·have hi:i<x.aj.length:=gA
   have hi':i<y.aj.length:=gA
   refine W3 ?_;refine C1 (ih x.aj[i] (by have:=bh (ac hi);omega) y.aj[i] (ai2 hi hsz)) ?_;refine S0 (fun hb h=>?_) fun hb h=>?_
   ·exact aK (aO (fun e=>h (by simp only[e]))).symm
   refine dH (i+1) gA rfl rfl ⟨gA,fun j hj=> ?_⟩;by_cases e:j=i
   ·subst e;rw[am hi,am hi',h]
   ·exact p2 j gA
  ·have hi:i=x.aj.length:=gA
   refine aK (bK ?_).symm;refine ah.ext (by first|exact h1|(simp at h1;exact h1)) (dl fun j=> ?_);by_cases hj:j<i
   ·exact p2 j hj
   ·rw[cn gA,cn gA]
theorem vF(x y:ah)(h:x.sz<=4194304):aD prog 141 [x.v,y.v] (.c (.d (.b (dec (x=y))))):=Ej _ x (cg _) y h
theorem El:∀n:Nat,(∀x:ah,SizeOf.sizeOf x<n->∀y:ah,x.sz<=4194304->aD prog 27 [x.v,y.v] (.c (.d (.b (dec (x=y))))))/\
 (∀xs:List ah,SizeOf.sizeOf xs<n->∀ys:List ah,xs.length<=4194304->(∀t∈xs,t.sz<=4194304)->aD prog 82 [.c (.d (.sl (xs.map ah.enc))),.c (.d (.sl (ys.map ah.enc))),.c (.fn 27 [])] (.c (.d (.b (dec (xs=ys))))))
 |0=>⟨fun x h=>gA,fun x h=>gA⟩
 |n+1=>by
  obtain⟨ih,qm⟩:=El n;refine⟨fun x hn y hsz S=> ?_,fun xs hn ys hlen hsz S=> ?_⟩
  ·have atK:=ah.vO x;have hb:=ai3 hsz;refine zcx [.tmp 4] func27 ntmps27 ?_;refine W1 ?_;refine S0 (fun hb h=>?_) fun hb h=>?_
   ·have h1:=h;refine W3 ?_
    refine bn (qm x.aj gA y.aj gA (fun t ht=>by
     obtain⟨i,hi,e⟩:=ci ht
     rw[<-e];exact ai2 hi hsz)) ?_
    refine W1 ?_;refine aK (iJ ⟨fun e=>ah.ext h1 e,fun e=>by rw[e]⟩)
   ·exact aK (aO (fun e=>h (by rw[e]))).symm
  ·refine zcx [.tmp 6] func82 ntmps82 ?_;refine W1 ?_;refine S0 (fun hb h=>?_) fun hb h=>?_
   ·exact aK (aO (fun e=>h (by rw[e]))).symm
   have hl:xs.length=ys.length:=gA
   refine aZ (ι:=Nat) zmx rfl [1,2,15,16,17] (fun y=>[.c (.d (.sl (ys.map ah.enc))),.c (.fn 27 []),.c (.d (.sl (xs.map ah.enc))),.c (.d (.i .i64 xs.length)),.c (.d (.i .i64 y))]) (fun y=>[]::S)
    (fun i=>i<=xs.length/\∀j,j<i->xs[j]? =ys[j]?) (fun y=>xs.length-y) 0 rfl rfl ⟨an _,fun j h=>gA⟩ ?_
   rintro i ⟨p1,p2⟩;refine W1 ?_;refine S0 (fun hb h=>?_) fun hb h=>?_
   ·have hi:i<xs.length:=gA
    have hi':i<ys.length:=gA
    refine W3 ?_;refine C1 (ih xs[i] (by have:=bh (ac hi);omega) ys[i] (hsz _ (ac hi))) ?_;refine S0 (fun hb h=>?_) fun hb h=>?_
    ·exact aK (aO (fun e=>h (by simp only[e]))).symm
    refine bR 0 gE (i+1) gA rfl rfl rfl rfl ⟨gA,fun j hj=> ?_⟩;by_cases e:j=i
    ·subst e;rw[am hi,am hi',h]
    ·exact p2 j gA
   ·have hi:i=xs.length:=gA
    refine aK (bK (dl fun j=> ?_)).symm;by_cases hj:j<i
    ·exact p2 j hj
    ·rw[cn gA,cn gA]
theorem r9(x y:ah)(h:x.sz<=4194304):aD prog 27 [x.v,y.v] (.c (.d (.b (dec (x=y))))):=(El _).1 x (cg _) y h
def dU(l:List ah)(i:Nat):List UInt8:=(l.getD i cZ).aI
theorem j4{l:List ah}{i:Nat}(h:i<l.length):dU l i=l[i].aI:=by simp[dU,List.getD,h]
theorem J4{l:List ah}{i:Nat}(h:l.length<=i):dU l i=[]:=by simp[dU,List.getD,h];rfl
def fD(l:List ah):List (List UInt8):=if l.all (fun x=>decide (x.aI≠[]))=true then l.map ah.aI else []
theorem oL:∀{vs:List (List UInt8)},(∀v∈vs,v≠[])->fD (aR vs)=vs:=fun {vs} h=>by
 unfold fD aR;rw[if_pos (az.2 fun x hx=> ?_),ew]
 ·conv=>rhs;rw[<-List.map_id vs]
  rfl
 ·obtain⟨v,hv,rfl⟩:=cr.1 hx;exact decide_eq_true (h v hv)
theorem aac:∀l:List ah,((l.map ah.aI).map List.length).sum<=dx l
 |[]=>by simp[dx]
 |x::l=>by
  have:=aac l;rw[af,af,ez,dx,iM];omega
theorem tu(l:List ah):(fD l).length<=l.length/\((fD l).map List.length).sum<=dx l:=by
 unfold fD;split
 ·refine⟨gL,?_⟩;exact aac l
 ·simp
mutual
def dZ(b:Bool):ah->ak
 | .mk a l=>if a=[] then
    if l.length<2 then .mk 0 [] []
    else if dU l 0=KL/\(b=true\/l.length=2/\dU l 1≠[]) then .mk 4 (dU l 1) []
    else if dU l 0=jm/\(b=true\/l.length=3/\dU l 1≠[]) then .mk 3 (dU l 1) ((sN b l).drop 2)
    else .mk 2 (dU l 0) ((sN b l).drop 1)
   else if a.head? =some 39 then .mk 1 a.tail [] else .mk 2 a []
def sN(b:Bool):List ah->List ak
 |[]=>[]
 |x::xs=>dZ b x::sN b xs
end
theorem A8(b:Bool):∀l,sN b l=l.map (dZ b)
 |[]=>rfl
 |t::ts=>by rw[sN,af,A8 b ts]
theorem ac8(b:Bool)(x:ah):dZ b x=if x.aI=[] then
 if x.aj.length<2 then .mk 0 [] []
 else if dU x.aj 0=KL/\(b=true\/x.aj.length=2/\dU x.aj 1≠[]) then .mk 4 (dU x.aj 1) []
 else if dU x.aj 0=jm/\(b=true\/x.aj.length=3/\dU x.aj 1≠[]) then .mk 3 (dU x.aj 1) ((x.aj.map (dZ b)).drop 2)
 else .mk 2 (dU x.aj 0) ((x.aj.map (dZ b)).drop 1)
 else if x.aI.head? =some 39 then .mk 1 x.aI.tail [] else .mk 2 x.aI []:=by
 cases x;rw[dZ,A8];rfl
theorem Tn:∀a b,tT (a++b)=tT a+tT b
 |[],b=>by simp[tT]
 |x::a,b=>by rw[ba,tT,tT,Tn a b];omega
theorem aad(l:List ak)(i:Nat):tT (l.drop i)<=tT l:=by
 have:=Tn (l.take i) (l.drop i);rw[da] at this;omega
theorem aae(l:List ah)(i:Nat):dx (l.drop i)<=dx l:=by
 have:=gQ (l.take i) (l.drop i);rw[da] at this;omega
theorem ai4(l:List ah)(i:Nat):(dU l i).length<=dx l:=by
 by_cases h:i<l.length
 ·rw[j4 h];have h1:=gY (ac h);rw[iM] at h1;omega
 ·rw[J4 gA];simp
mutual
theorem A9(b:Bool):∀x:ah,(dZ b x).sz<=x.sz
 | .mk a l=>by
   have h1:=K7 b l;have h2:=aad (sN b l) 2;have h3:=aad (sN b l) 1;have h4:=ai4 l 0;have h5:=ai4 l 1
   have h6:(sN b l).length=l.length:=by rw[A8,ab]
   rw[iM,jU];simp only[ah.aI,ah.aj];rw[dZ];split
   ·split
    ·rw[yJ];simp[ak.fName,ak.fArgs,tT]
    ·split
     ·rw[yJ];simp[ak.fName,ak.fArgs,tT];omega
     ·have g0:=IE b l 0;have g1:=IE b l 1;simp only[cG,Nat.reduceAdd] at g0 g1;split
      ·rw[yJ];simp only[ak.fName,ak.fArgs,bk,h6];omega
      ·rw[yJ];simp only[ak.fName,ak.fArgs,bk,h6];omega
   ·split
    ·rw[yJ];simp[ak.fName,ak.fArgs,tT];omega
    ·rw[yJ];simp[ak.fName,ak.fArgs,tT]
theorem K7(b:Bool):∀l:List ah,tT (sN b l)<=dx l
 |[]=>by simp[sN,tT]
 |x::xs=>by
  have h1:=A9 b x;have h2:=K7 b xs;rw[sN,tT,dx];omega
theorem IE(b:Bool):∀(l:List ah)(i:Nat),tT ((sN b l).drop (i+1))+(dU l i).length<=dx l
 |[],i=>by simp[sN,tT,J4]
 |x::xs,0=>by
  have h2:=K7 b xs;rw[sN,di,cN,dx,show dU (x::xs) 0=x.aI from rfl,iM];omega
 |x::xs,i+1=>by
  have h2:=IE b xs i;rw[sN,di,dx,show dU (x::xs) (i+1)=dU xs i from rfl];omega
end
theorem J5{s:List UInt8}(h:validName s=true):s≠[]:=fun e=>by rw[e] at h;have:=gD h;simp at this
theorem ai5{s:List UInt8}(h:validName s=true):s.head? ≠some 39:=fun e=>by
 have h1:=gD h;have h2:=h1.2.2 0 gA
 cases s with
 |nil=>cases e
 |cons c s=>
  simp only[List.head?_cons,cC] at e;subst e;simp[lowerB,uN] at h2
theorem amP{s:List UInt8}(h:validName s=true):s≠KL/\s≠jm:=by
 have h1:=(gD h).2.1;refine⟨fun e=>h1 (by rw[e];simp[reserved,KL]),fun e=>h1 (by rw[e];simp[reserved,jm])⟩
mutual
theorem zu(b:Bool):∀t:ak,formed t=true->dZ b (dI t)=t
 | .mk k n zs=>fun hf=>by
   rw[formed,ai] at hf;have hfi:=gD hf.1;have hzs:=Qu b zs hf.2;rw[dI];by_cases h1:k=1
   ·have hz:zs=[]:=by
     have:zs.length=0:=gA
     exact bz this
    rw[if_pos h1,bN,dZ,if_neg gL,if_pos gL,hz,h1];rfl
   rw[if_neg h1];by_cases h4:k=4
   ·have hz:zs=[]:=by
     have:zs.length=0:=gA
     exact bz this
    have hn:validName n=true:=by
     rcases hfi with h|h|h
     ·exact h.2.1
     ·exact h.2.1
     ·omega
    rw[if_pos h4,bL,dZ,if_pos rfl,if_neg gL,if_pos ⟨rfl,.inr ⟨rfl,J5 hn⟩⟩,hz,h4];rfl
   rw[if_neg h4];by_cases h2:k=2/\zs.length=0
   ·have hz:zs=[]:=bz h2.2
    have hn:n≠[]/\n.head? ≠some 39:=by
     rcases hfi with h|h|h
     ·omega
     ·omega
     ·rcases h.2 with g|g
      ·exact⟨J5 g.1,ai5 g.1⟩
      ·rcases gD g.1 with e|e<;>rw[e]<;>simp
    rw[if_pos h2,bN,dZ,if_neg hn.1,if_neg hn.2,hz,h2.1]
   rw[if_neg h2];by_cases h3:k=3
   ·have hz:zs.length=1/\validName n=true:=by
     rcases hfi with h|h|h
     ·omega
     ·exact⟨h.2.2,h.2.1⟩
     ·omega
    rw[if_pos h3,bL,dZ,if_pos rfl,if_neg gL,if_neg (fun h=>by have:=h.1;simp[dU,bN,ah.aI,KL,jm] at this),if_pos ⟨rfl,.inr ⟨by rw[yH];simp[hz.1],J5 hz.2⟩⟩];show ak.mk 3 n (sN b (GI zs))=_;rw[hzs,h3]
   ·have hn:validName n=true/\zs≠[]:=by
     rcases hfi with h|h|h
     ·omega
     ·omega
     ·rcases h.2 with g|g
      ·exact⟨g.1,fun e=>h2 ⟨h.1,by rw[e];rfl⟩⟩
      ·exact(h2 ⟨h.1,g.2⟩).elim
    have hk:k=2:=by
     rcases hfi with h|h|h
     ·omega
     ·omega
     ·exact h.1
    have hd:=amP hn.1;rw[if_neg h3,bL,dZ,if_pos rfl,if_neg (by rw[yH];cases zs with|nil=>exact(hn.2 rfl).elim|cons z zs=>simp),if_neg (fun h=>hd.1 h.1),if_neg (fun h=>hd.2 h.1)];show ak.mk 2 n (sN b (GI zs))=_;rw[hzs,hk]
theorem Qu(b:Bool):∀ts:List ak,jG ts=true->sN b (GI ts)=ts
 |[],_=>rfl
 |t::ts,h=>by
  rw[jG,ai] at h;rw[GI,sN,zu b t h.1,Qu b ts h.2]
end
theorem Ji(b:Bool){ts:List ak}(h:jG ts=true):(ts.map dI).map (dZ b)=ts:=by
 have:=Qu b ts h;rw[A8,yH] at this;exact this
def yX(b:Bool)(y:ah):bF:=⟨dU y.aj 0,(y.aj.drop 1).map (dZ b)⟩
def kW(b:Bool)(x:ah):aU:=⟨dU x.aj 1,fD (x.aj.getD 2 cZ).aj,(x.aj.drop 3).map (yX b)⟩
theorem Ba{vs:List (List UInt8)}(h:je vs=true):∀v∈vs,v≠[]:=fun v hv=>by
 unfold je at h;rw[ai] at h;exact J5 (az.1 h.2 v hv)
theorem apC(b:Bool){c:bF}(h:jG c.iq=true):yX b (Ec c)=c:=by
 show bF.mk c.fName ((c.iq.map dI).map (dZ b))=c;rw[Ji b h]
theorem UJ{d:aU}(h:fK d=true):∀v∈d.aG,v≠[]:=by
 unfold fK at h;simp only[ai] at h;exact Ba (by simp_all)
theorem FX(b:Bool){d:aU}(h:fK d=true):kW b (uQ d)=d:=by
 show aU.mk d.fName (fD (aR d.aG)) ((d.aF.map Ec).map (yX b))=d;rw[oL (UJ h),ew,show d.aF.map (yX b∘Ec)=d.aF.map id from cQ (fun c hc=>apC b (JN h c hc)),List.map_id]
theorem aaf(d:aU):3<=(uQ d).aj.length/\dU (uQ d).aj 0=og:=⟨by rw[uQ,dD];simp[baseD],rfl⟩
noncomputable def okD(x:ah):Bool:=dec (dQ x=true/\3<=x.aj.length/\dU x.aj 0=og/\fK (kW true x)=true/\uQ (kW true x)=x)
noncomputable def qW(x:ah):aU:=if okD x=true then kW true x else⟨[],[],[]⟩
theorem Hf:cZ.sz=0:=by rw[iM];simp[cZ,ah.aI,ah.aj,aS]
theorem aag{b:Bool}{s x:ah}(h:sD b s=x)(hx:x.aj≠[]):b=true/\s=x/\dQ x=true:=by
 cases b with
 |false=>rw[<-h] at hx;exact(hx rfl).elim
 |true=>
  rw[sD] at h;unfold vQ at h;split at h
  ·rename_i hv;exact⟨rfl,h,by rw[<-h];exact hv⟩
  ·rw[<-h] at hx;exact(hx rfl).elim
theorem amQ{x:ah}(hx:x.aj≠[]):okD x=(dQ x&&dec (BJ (kW false x)=x)):=by
 cases hv:dQ x with
 |false=>exact aO fun h=>by rw[hv] at h;cases h.1
 |true=>
  rw[cd];refine iJ ⟨fun⟨_,h1,h2,h3,h4⟩=> ?_,fun h=> ?_⟩
  ·have e:kW false x=kW true x:=by conv=>lhs;rw[<-h4]
                                   exact FX false h3
   rw[e,BJ,h3,h4,sD,vQ,if_pos hv]
  ·obtain⟨h1,h2,_⟩:=aag h hx
   have e:kW true x=kW false x:=by conv=>lhs;rw[<-h2]
                                   exact FX true h1
   have:=aaf (kW false x);rw[h2] at this;rw[e];exact⟨hv,this.1,this.2,h1,h2⟩
theorem amR{x:ah}(h:okD x=true):kW false x=kW true x:=by
 have h1:=gD h
 conv=>lhs;rw[<-h1.2.2.2.2]
 exact FX false h1.2.2.2.1
theorem apD(b:Bool)(y:ah):(yX b y).sz<=y.sz:=by
 have h:=IE b y.aj 0;rw[A8] at h;rw[yM,iM,jU];simp only[yX,ab,bk,<-dt,cG] at h ⊢;omega
theorem aah(b:Bool):∀l:List ah,ET (l.map (yX b))<=dx l
 |[]=>by simp[ET]
 |y::l=>by
  have h1:=apD b y;have h2:=aah b l;rw[af,ET,dx];omega
theorem af3(l:List ah):(dU l 1).length+((l.getD 2 cZ).aj.length+dx (l.getD 2 cZ).aj)+dx (l.drop 3)<=dx l:=by
 match l with
 |[]=>simp[dU,dx,cZ,ah.aI,ah.aj]
 |[x]=>simp[dU,dx,cZ,ah.aI,ah.aj]
 |[x,y]=>
  simp only[dx,iM y];simp[dU,dx,cZ,ah.aI,ah.aj];omega
 |x::y::z::l=>
  simp only[dx,iM y,iM z,jU];simp[dU];omega
theorem UK(b:Bool)(x:ah):(kW b x).sz<=x.sz:=by
 have h1:=aah b (x.aj.drop 3);have h2:=tu (x.aj.getD 2 cZ).aj;have h3:=af3 x.aj;rw[sH,iM,jU];simp only[kW,ab,bk];omega
theorem Pq(d:Nat)(h:d<10):Lib.digitVal (UInt8.ofNat (48+d))=some d:=by
 have:(UInt8.ofNat (48+d)).toNat=48+d:=by rw[UInt8.toNat_ofNat'];omega
 unfold Lib.digitVal;rw[this,if_pos gA];congr 1;omega
theorem Hg:∀(l:List UInt8)(acc:Nat)(b:UInt8),Lib.decFrom acc (l++[b])=(Lib.decFrom acc l).bind fun m=>(Lib.digitVal b).map fun d=>m*10+d
 |[],acc,b=>by
  rw[bc,Lib.decFrom,Lib.decFrom];cases Lib.digitVal b<;>rfl
 |a::l,acc,b=>by
  rw[ba,Lib.decFrom,Lib.decFrom]
  cases Lib.digitVal a with
  |none=>rfl
  |some e=>exact Hg l _ b
theorem CZ(n:Nat):Lib.decFrom 0 (Lib.decDigits n)=some n:=by
 induction n using Nat.strongRecOn with
 |_ n ih=>
  rw[Lib.decDigits];split
  ·rename_i h;rw[Lib.decFrom,Pq n h];simp[Lib.decFrom]
  ·rename_i h;rw[Hg,ih (n/10) gA,Pq _ (Nat.mod_lt _ gE)];simp only[dy,dC,cC];omega
theorem C8(n:Nat):∃b r,Lib.decDigits n=b::r/\48<=b.toNat/\b.toNat<=57:=by
 induction n using Nat.strongRecOn with
 |_ n ih=>
  rw[Lib.decDigits];split
  ·rename_i h;exact⟨_,_,rfl,by rw[UInt8.toNat_ofNat'];omega,by rw[UInt8.toNat_ofNat'];omega⟩
  ·rename_i h;obtain⟨b,r,e,h1,h2⟩:=ih (n/10) gA;rw[e];exact⟨b,r++_,rfl,h1,h2⟩
theorem Lv(n:Nat):Lib.decNat (Lib.decDigits n)=some n:=by
 obtain⟨b,r,e,_⟩:=C8 n;unfold Lib.decNat;rw[show(Lib.decDigits n).isEmpty=false from by rw[e];rfl];exact CZ n
theorem Nu(b:UInt8)(r:List UInt8):Lib.atoi (b::r)=if b==45 then(Lib.decNat r).map fun(m:Nat)=> -(m:Int) else if b==43 then(Lib.decNat r).map fun(m:Nat)=>(m:Int) else(Lib.decNat (b::r)).map fun(m:Nat)=>(m:Int):=rfl
theorem Wm(n:Int):Lib.atoi (Lib.itoa n)=some n:=by
 unfold Lib.itoa;split
 ·rename_i h;show Lib.atoi (45::Lib.decDigits n.natAbs)=_;rw[Nu,if_pos gE,Lv];simp only[dC,cC];omega
 ·rename_i h;obtain⟨b,r,e,h1,h2⟩:=C8 n.toNat;have hd:=Lv n.toNat;rw[e] at hd ⊢;rw[Nu,if_neg (by simp only[beq_iff_eq];intro h;rw[h] at h1;revert h1;decide),if_neg (by simp only[beq_iff_eq];intro h;rw[h] at h1;revert h1;decide),hd];simp only[dC,cC];omega
theorem apE(n:Int):Lib.itoa n≠[]:=fun e=>by
 have:=Wm n;rw[e] at this;cases this
def iH(s:List UInt8):Option Int:=match Lib.atoi s with
 |some n=>if(-999999999999<=n/\n<=999999999999)/\Lib.itoa n=s then some n else none
 |none=>none
theorem Tp{n:Int}(h: -999999999999<=n/\n<=999999999999):iH (Lib.itoa n)=some n:=by
 unfold iH;rw[Wm];exact if_pos ⟨h,rfl⟩
theorem Tq{s:List UInt8}{n:Int}(h:iH s=some n):(-999999999999<=n/\n<=999999999999)/\Lib.itoa n=s:=by
 unfold iH at h;split at h
 ·split at h
  ·cases h;assumption
  ·cases h
 ·cases h
theorem Hl{b:UInt8}{r:List UInt8}(h:lowerB b):iH (b::r)=none:=by
 have h1:(b==45)=false:=by simp only[beq_eq_false_iff_ne];intro e;rw[e] at h;revert h;simp[lowerB]
 have h2:(b==43)=false:=by simp only[beq_eq_false_iff_ne];intro e;rw[e] at h;revert h;simp[lowerB]
 have h3:Lib.digitVal b=none:=if_neg (fun x=>by unfold lowerB at h;omega);unfold iH;rw[Nu,h1,h2];simp[Lib.decNat,Lib.decFrom,h3]
theorem af4{s:List UInt8}(h:validName s=true):iH s=none:=by
 have h1:=gD h;have h2:=h1.2.2 0 gA
 cases s with
 |nil=>simp at h1
 |cons b r=>
  rcases h2 with h2|h2
  ·exact Hl h2
  ·exact(h2.1 rfl).elim
def jB:ak:=.mk 0 [] []
def mK:au:=.mk 0 [] [] 0 jB [] []
mutual
def fA(b:Bool):ah->au
 | .mk a l=>if a=[] then
    if b=true/\(l.length<2\/dU l 0=jN/\l.length<3) then mK
    else if dU l 0=qC then .mk 4 [] (dU l 1) 0 jB ((gJ b l).drop 2) []
    else if dU l 0=u7 then .mk 6 [] (dU l 1) 0 jB ((gJ b l).drop 2) []
    else if dU l 0=vg then .mk 8 [] (dU l 1) 0 jB ((gJ b l).drop 2) []
    else if dU l 0=qD then .mk 11 (dU l 1) [] 0 jB ((gJ b l).drop 2) []
    else if dU l 0=jN then .mk 5 (dU l 1) (dU l 2) 0 jB ((gJ b l).drop 3) []
    else if dU l 0=zN then .mk 9 [] [] 0 jB ((gJ b l).drop 1) []
    else if dU l 0=vT then .mk 12 [] [] 0 (dZ b (l.getD 1 cZ)) ((gJ b l).drop 2) []
    else if dU l 0=lX then .mk 7 [] [] 0 jB (((gJ b l).drop 1).take 1) ((oN b l).drop 2)
    else .mk 10 [] (dU l 0) 0 jB ((gJ b l).drop 1) []
   else match iH a with
    |some n=>.mk 1 [] [] n jB [] []
    |none=>if a=Dr then .mk 2 [] [] 1 jB [] [] else if a=BL then .mk 2 [] [] 0 jB [] [] else .mk 3 [] a 0 jB [] []
def gJ(b:Bool):List ah->List au
 |[]=>[]
 |x::xs=>fA b x::gJ b xs
def tY(b:Bool):ah->bq
 | .mk a l=>if l.length<2 then .mk [] [] mK else .mk (dU l 0) (fD ((l.drop 1).dropLast)) ((gJ b l).getLastD mK)
def oN(b:Bool):List ah->List bq
 |[]=>[]
 |x::xs=>tY b x::oN b xs
end
theorem Em(b:Bool):∀l,gJ b l=l.map (fA b)
 |[]=>rfl
 |t::ts=>by rw[gJ,af,Em b ts]
theorem IG(b:Bool):∀l,oN b l=l.map (tY b)
 |[]=>rfl
 |t::ts=>by rw[oN,af,IG b ts]
theorem nH(b:Bool)(l m:List ah):gJ b (l++m)=gJ b l++gJ b m:=by simp only[Em,bw]
theorem tZ(b:Bool)(l m:List ah):oN b (l++m)=oN b l++oN b m:=by simp only[IG,bw]
theorem uy{t:ak}(h:zS t):t=jB:=ak.ext h.1 h.2.1 (bz h.2.2)
theorem ab3{s:List UInt8}(h:s∈ops):s≠[]/\∀w∈[qC,u7,vg,qD,jN,zN,vT,lX],s≠w:=by
 have:=ah9 h;refine⟨fun e=>by rw[e] at this;simp at this,fun w hw e=> ?_⟩;rw[e] at this;simp only[cT,fc,or_false] at hw;rcases hw with g|g|g|g|g|g|g|g<;>rw[g] at this<;>revert this<;>decide
mutual
theorem J6(b:Bool):∀e:au,jl e=true->fA b (fG e)=e
 | .mk k tr nm n ty zs ms=>fun hok=>by
   rw[jl,ai,ai] at hok;have hf:=gD hok.1;have h1:=aai b zs hok.2.1;have h2:=aaj b ms hok.2.2;obtain⟨p0,p1,p2,p3,p4,p5,p6⟩:=hf;simp only[au.aN,au.bO,au.fName,au.fN,au.fType,au.fArgs,au.aX] at p0 p1 p2 p3 p4 p5 p6;have nz:∀{l:List au},l.length=0->l=[]:=fun h=>bz h
   have Nv:k≠7->ms=[]:=fun h=>bz (by
    have:¬0<ms.length:=fun x=>h (p6.2 x)
    omega)
   have hk:k=1\/k=2\/k=3\/k=4\/k=5\/k=6\/k=7\/k=8\/k=9\/k=10\/k=11\/k=12:=gA
   rcases hk with rfl|rfl|rfl|rfl|rfl|rfl|rfl|rfl|rfl|rfl|rfl|rfl
   all_goals simp only[if_true,if_false,true_or,or_true,false_or,or_false,or_self,(by decide:(1:Int)=5<->False),Int.reduceEq] at p1 p2 p3 p4 p5
   ·have e1:=uy p4;have e2:=nz p5;have e3:=Nv gE;subst e1 e2 e3 p1 p2;rw[fG,if_pos rfl,bN,fA,if_neg (apE n),Tp gA]
   ·have e1:=uy p4;have e2:=nz p5;have e3:=Nv gE;subst e1 e2 e3 p1 p2;rw[fG,if_neg gE,if_pos rfl,bN,fA];rcases p3 with rfl|rfl
    ·rw[if_neg (by decide:¬(0:Int)=1),if_neg gE,show iH BL=none from Hl (by simp[lowerB]),if_neg gE,if_pos rfl]
    ·rw[if_pos rfl,if_neg gE,show iH Dr=none from Hl (by simp[lowerB]),if_pos rfl]
   ·have e1:=uy p4;have e2:=nz p5;have e3:=Nv gE;subst e1 e2 e3 p1 p3;have hr:=(gD p2).2.1;rw[fG,if_neg gE,if_neg gE,if_pos rfl,bN,fA,if_neg (J5 p2),af4 p2,if_neg (fun e=>hr (by rw[e];simp[reserved,Dr])),if_neg (fun e=>hr (by rw[e];simp[reserved,BL]))]
   all_goals have hz:(EB zs).length=zs.length:=by rw[GR,ab]
   ·have e1:=uy p4;have e3:=Nv gE;subst e1 e3 p1 p3;simp[fG,jL,bL,aR,fA,gJ,nH,oN,tZ,dU,bN,ah.aI,qC,jN,u7,lX,vg,zN,qD,vT,h1,hz,h2]
    all_goals (intros;omega)
   ·have e1:=uy p4;have e3:=Nv gE;subst e1 e3 p3;simp[fG,jL,bL,aR,fA,gJ,nH,oN,tZ,dU,bN,ah.aI,qC,jN,u7,lX,vg,zN,qD,vT,h1,hz,h2]
    all_goals (intros;omega)
   ·have e1:=uy p4;have e3:=Nv gE;subst e1 e3 p1 p3;simp[fG,jL,bL,aR,fA,gJ,nH,oN,tZ,dU,bN,ah.aI,qC,jN,u7,lX,vg,zN,qD,vT,h1,hz,h2]
    all_goals (intros;omega)
   ·have e1:=uy p4;subst e1 p1 p2 p3;have hm:0<ms.length:=p6.1 rfl
    obtain⟨z,rfl⟩:∃z,zs=[z]:=by
     cases zs with
     |nil=>simp at p5
     |cons z t=>cases t with
      |nil=>exact⟨z,rfl⟩
      |cons _ _=>simp at p5
    simp only[EB,gJ,eK,and_true] at h1;simp[fG,jL,bL,aR,fA,gJ,nH,oN,tZ,EB,dU,bN,ah.aI,qC,jN,u7,lX,vg,zN,qD,vT,h1,h2]
    all_goals (intros;omega)
   ·have e1:=uy p4;have e3:=Nv gE;subst e1 e3 p1 p3;simp[fG,jL,bL,aR,fA,gJ,nH,oN,tZ,dU,bN,ah.aI,qC,jN,u7,lX,vg,zN,qD,vT,h1,hz,h2]
    all_goals (intros;omega)
   ·have e1:=uy p4;have e3:=Nv gE;subst e1 e3 p1 p2 p3;simp[fG,jL,bL,aR,fA,gJ,nH,oN,tZ,dU,bN,ah.aI,qC,jN,u7,lX,vg,zN,qD,vT,h1,hz,h2]
    all_goals (intros;omega)
   ·have e1:=uy p4;have e3:=Nv gE;subst e1 e3 p1 p3;have ho:=ab3 p2;simp only[cT,fc,or_false,ne_eq,forall_eq_or_imp,forall_eq] at ho;obtain⟨_,o1,o2,o3,o4,o5,o6,o7,o8⟩:=ho;simp[fG,jL,bL,aR,fA,gJ,nH,dU,bN,ah.aI,h1,hz,o1,o2,o3,o4,o5,o6,o7,o8]
    all_goals (intros;omega)
   ·have e1:=uy p4;have e3:=Nv gE;subst e1 e3 p2 p3;simp[fG,jL,bL,aR,fA,gJ,nH,oN,tZ,dU,bN,ah.aI,qC,jN,u7,lX,vg,zN,qD,vT,h1,hz,h2]
    all_goals (intros;omega)
   ·have e3:=Nv gE;subst e3 p1 p2 p3;have ht:=zu b ty (yI p4);simp[fG,jL,bL,aR,fA,gJ,nH,dU,bN,ah.aI,qC,jN,u7,lX,vg,zN,qD,vT,h1,hz,ht]
    all_goals (intros;omega)
theorem aai(b:Bool):∀es:List au,ni es=true->gJ b (EB es)=es
 |[],_=>rfl
 |t::ts,h=>by
  rw[ni,ai] at h;rw[EB,gJ,J6 b t h.1,aai b ts h.2]
theorem apF(b:Bool):∀m:bq,zl m=true->tY b (Cj m)=m
 | .mk c vs e=>fun h=>by
   rw[zl,ai,ai] at h;have he:=J6 b e h.2.2;rw[Cj,bL,tY,if_neg gL,nH];have e1:dU ([bN c]++aR vs++[fG e]) 0=c:=rfl
   have e2:(([bN c]++aR vs++[fG e]).drop 1).dropLast=aR vs:=by
    rw[cf,List.singleton_append,di,cN,List.dropLast_concat]
   rw[e1,e2,oL (Ba h.2.1)];congr 1;rw[gJ,he,gp,List.getLast?_append];simp[gJ]
theorem aaj(b:Bool):∀ms:List bq,qL ms=true->oN b (KN ms)=ms
 |[],_=>rfl
 |t::ts,h=>by
  rw[qL,ai] at h;rw[KN,oN,apF b t h.1,aaj b ts h.2]
end
theorem En:jB.sz=0:=by rw[yJ];rfl
theorem Bb:mK.sz=0:=by rw[Ae];simp[mK,au.bO,au.fName,au.fType,au.fArgs,au.aX,En,xk,EU]
theorem af5(l:List ah):((fD ((l.drop 1).dropLast)).length+((fD ((l.drop 1).dropLast)).map List.length).sum)<=(l.drop 1).dropLast.length+dx ((l.drop 1).dropLast):=by
 have:=tu ((l.drop 1).dropLast);omega
theorem apG(x:ah)(m:List ah)(y:ah):dx (x::(m++[y]))=x.sz+(dx m+y.sz):=by rw[dx,gQ];simp[dx]
mutual
theorem FY(b:Bool):∀x:ah,(fA b x).sz<=x.sz
 | .mk a l=>by
   have g:=Wn b l
   have hl:(gJ b l).length=l.length:=by rw[Em,ab]
   have hm:(oN b l).length=l.length:=by rw[IG,ab]
   rw[iM,jU];simp only[ah.aI,ah.aj];rw[fA];split
   ·have g1:xk ((gJ b l).drop 1)+(dU l 0).length<=dx l:=by
     have:=g 0;simp only[cG,(by decide:¬(1<=0)),if_false] at this;omega
    have g2:xk ((gJ b l).drop 2)+((dU l 0).length+(dU l 1).length)<=dx l:=by
     have:=g 1;simp only[Nat.reduceAdd,ax,if_true,cM] at this;omega
    have g3:xk ((gJ b l).drop 3)+((dU l 1).length+(dU l 2).length)<=dx l:=by
     have:=g 2;simp only[Nat.reduceAdd,(by decide:1<=2),if_true,Nat.reduceSub] at this;omega
    split
    ·rw[Bb];omega
    ·repeat' split
     all_goals rw[Ae];simp only[au.bO,au.fName,au.fType,au.fArgs,au.aX,En,xk,EU,al,bk,cj,hl,hm,cN] at g1 g2 g3 ⊢
     all_goals try omega
     ·have h1:=A9 b (l.getD 1 cZ)
      have h2:xk ((gJ b l).drop 2)+(l.getD 1 cZ).sz<=dx l:=by
       match l with
       |[]=>simp[gJ,xk,dx,Hf]
       |[x]=>simp[gJ,xk,dx,Hf]
       |x::y::l=>
        have:=Qv b l;simp only[gJ,di,cN,dx];show _+y.sz<=_;omega
      omega
     ·match l with
      |[]=>simp[xk,EU,gJ,oN]
      |[x]=>simp[xk,EU,gJ,oN]
      |x::y::l=>
       have h1:=FY b y;have h2:=aak b l;simp only[gJ,oN,di,cN,eL,cE,xk,dx,aa];omega
   ·split
    ·rw[Ae];simp[au.bO,au.fName,au.fType,au.fArgs,au.aX,En,xk,EU]
    ·repeat' split
     all_goals rw[Ae];simp[au.bO,au.fName,au.fType,au.fArgs,au.aX,En,xk,EU]
theorem Qv(b:Bool):∀l:List ah,xk (gJ b l)<=dx l
 |[]=>by simp[gJ,xk]
 |x::xs=>by
  have h1:=FY b x;have h2:=Qv b xs;rw[gJ,xk,dx];omega
theorem Wn(b:Bool):∀(l:List ah)(i:Nat),xk ((gJ b l).drop (i+1))+((if 1<=i then(dU l (i-1)).length else 0)+(dU l i).length)<=dx l
 |[],i=>by simp[gJ,xk,J4]
 |x::xs,0=>by
  have h2:=Qv b xs;rw[gJ,di,cN,dx,show dU (x::xs) 0=x.aI from rfl,iM];simp;omega
 |x::xs,i+1=>by
  have h2:=Wn b xs i;rw[gJ,di,dx,show dU (x::xs) (i+1)=dU xs i from rfl]
  cases i with
  |zero=>rw[show dU (x::xs) (0+1-1)=x.aI from rfl,iM];simp at h2 ⊢;omega
  |succ i=>rw[show dU (x::xs) (i+1+1-1)=dU xs i from rfl];simp at h2 ⊢;omega
theorem apH(b:Bool):∀x:ah,(tY b x).sz<=x.sz
 | .mk a l=>by
   rw[iM,jU];simp only[ah.aI,ah.aj];rw[tY];split
   ·rw[Ed];simp[bq.dV,bq.aG,bq.fBody,Bb]
   ·rename_i h;have hn:=af5 l;have hb:=Tt b l;rw[Ed];simp only[bq.dV,bq.aG,bq.fBody]
    obtain⟨x,m,y,rfl⟩:∃x m y,l=x::(m++[y]):=by
     cases l with
     |nil=>simp at h
     |cons x l=>
      have hl:l≠[]:=fun e=>by rw[e] at h;simp at h
      exact⟨x,l.dropLast,l.getLast hl,by rw[List.dropLast_concat_getLast]⟩
    rw[apG] at *
    rw[show dU (x::(m++[y])) 0=x.aI from rfl,iM x];simp only[di,cN,List.dropLast_concat,aa,ae,al] at hn ⊢
    have hy:((x::(m++[y])).getLastD cZ)=y:=by rw[<-ba,gp,List.getLast?_append];simp
    rw[hy] at hb;omega
theorem aak(b:Bool):∀l:List ah,EU (oN b l)<=dx l
 |[]=>by simp[oN,EU]
 |x::xs=>by
  have h1:=apH b x;have h2:=aak b xs;rw[oN,EU,dx];omega
theorem Tt(b:Bool):∀l:List ah,((gJ b l).getLastD mK).sz<=(l.getLastD cZ).sz
 |[]=>by simp[gJ,Bb]
 |[x]=>by simpa [gJ] using FY b x
 |x::y::l=>by
  have:=Tt b (y::l);simpa [gJ] using this
end
def Cb(s:List UInt8):Prop:=s.head? =some 45
instance (s:List UInt8):Decidable (Cb s):=inferInstanceAs (Decidable (_=_))
def gF(s:List UInt8):List UInt8:=if Cb s then s.tail else s
theorem Eo:∀(l:List UInt8)(acc v:Nat),Lib.decFrom acc l=some v->∀b∈l,48<=b.toNat/\b.toNat<=57
 |[],_,_,_,b,hb=>by cases hb
 |a::l,acc,v,h,b,hb=>by
  rw[Lib.decFrom] at h
  cases hd:Lib.digitVal a with
  |none=>rw[hd] at h;cases h
  |some d=>
   rw[hd] at h;rcases cT.1 hb with rfl|hb
   ·unfold Lib.digitVal at hd;split at hd
    ·assumption
    ·cases hd
   ·exact Eo l _ v h b hb
theorem ab4{b:UInt8}(h:48<=b.toNat/\b.toNat<=57):Lib.digitVal b=some (b.toNat-48):=if_pos h
theorem decFrom_take{t:List UInt8}{i acc:Nat}(hi:i<t.length)(h:Lib.decFrom 0 (t.take i)=some acc)(hd:48<=t[i].toNat/\t[i].toNat<=57):Lib.decFrom 0 (t.take (i+1))=some (acc*10+(t[i].toNat-48)):=by
 rw[bu hi,Hg,h,ab4 hd];rfl
theorem Nw{s:List UInt8}{m:Int}(h:iH s=some m):(Cb s<->m<0)/\gF s=Lib.decDigits m.natAbs/\1<=(gF s).length/\(gF s).length<=12:=by
 obtain⟨hr,he⟩:=Tq h;have hl:(Lib.decDigits m.natAbs).length<=12:=JO 11 _ gA;obtain⟨b,r,e,b1,b2⟩:=C8 m.natAbs
 have hl1:1<=(Lib.decDigits m.natAbs).length:=by rw[e];simp
 unfold Lib.itoa at he;by_cases hn:m<0
 ·rw[if_pos hn] at he
  have hs:Cb s:=by rw[<-he];rfl
  have hb:gF s=Lib.decDigits m.natAbs:=by unfold gF;rw[if_pos hs,<-he];rfl
  exact⟨⟨fun _=>hn,fun _=>hs⟩,hb,by rw[hb];exact⟨hl1,hl⟩⟩
 ·rw[if_neg hn,show m.toNat=m.natAbs by omega] at he
  have hs:¬Cb s:=fun x=>by
   rw[<-he,e] at x;unfold Cb at x;simp only[List.head?_cons,cC] at x;rw[x] at b1;revert b1;decide
  have hb:gF s=Lib.decDigits m.natAbs:=by unfold gF;rw[if_neg hs,<-he]
  exact⟨⟨fun x=>(hs x).elim,fun x=>(hn x).elim⟩,hb,by rw[hb];exact⟨hl1,hl⟩⟩
theorem zP{s:List UInt8}(h:(gF s).length<1\/12<(gF s).length):iH s=none:=by
 cases hr:iH s with
 |none=>rfl
 |some m=>have:=(Nw hr).2.2;omega
theorem II{s:List UInt8}{i:Nat}(hi:i<(gF s).length)(h:¬(48<=(gF s)[i].toNat/\(gF s)[i].toNat<=57)):iH s=none:=by
 cases hr:iH s with
 |none=>rfl
 |some m=>
  have hk:=(Nw hr).2.1;have hd:=CZ m.natAbs;rw[<-hk] at hd;exact absurd (Eo _ _ _ hd _ (ac hi)) h
theorem Wo{s:List UInt8}{v:Nat}(hv:Lib.decFrom 0 (gF s)=some v)(hb:v<=999999999999):iH s=if Lib.itoa (if Cb s then -(v:Int) else v)=s then some (if Cb s then -(v:Int) else v) else none:=by
 obtain⟨z,hz⟩:∃z,z=(if Cb s then -(v:Int) else v):=⟨_,rfl⟩
 have hzb: -999999999999<=z/\z<=999999999999:=by rw[hz];split<;>omega
 rw[<-hz];by_cases h:Lib.itoa z=s
 ·rw[if_pos h]
  conv=>lhs;rw[<-h]
  exact Tp hzb
 ·rw[if_neg h]
  cases hr:iH s with
  |none=>rfl
  |some m=>
   have hk:=Nw hr;have hd:=CZ m.natAbs;rw[<-hk.2.1,hv] at hd
   have hm:v=m.natAbs:=by simpa using hd
   have:z=m:=by
    rw[hz];by_cases hn:Cb s
    ·have:=hk.1.1 hn;rw[if_pos hn];omega
    ·rw[if_neg hn];have:¬m<0:=fun x=>hn (hk.1.2 x);omega
   rw[this] at h;exact absurd (Tq hr).2 h
theorem ab5(s:List UInt8)(hs:s.length<=1073741824):aD prog 218 [.c (.d (.s s)),.c (.d (.i .i64 12))] (.eu [(false,[.d (.i .i64 ((iH s).getD 0))]),(false,[.d (.b (iH s).isSome)])]):=fun S=>by
 have d0:iH s=none->V.eu [(false,[.d (.i .i64 0)]),(false,[.d (.b false)])]=.eu [(false,[.d (.i .i64 ((iH s).getD 0))]),(false,[.d (.b (iH s).isSome)])]:=fun e=>by rw[e];rfl
 refine zcx [.tmp 4,.tmp 5] func218 ntmps218 ?_;refine W1 ?_;refine S0 (fun hb h=>?_) fun hb h=>?_
 ·have hpos:0<s.length:=gA
  have h0:(s.getD 0 0).toNat=45<->Cb s:=by
   cases s with
   |nil=>simp at hpos
   |cons b s=>
    unfold Cb;simp only[fb,List.head?_cons,cC];constructor
    ·intro e;exact UInt8.toNat.inj e
    ·intro e;rw[e];rfl
  refine W3 ?_;refine S0 (fun hb h=>?_) fun hb h=>?_
  ·have hn:Cb s:=h0.1 gA
   have hb:gF s=(s.take s.length).drop 1:=by unfold gF;rw[if_pos hn,ch,List.drop_one]
   refine W3 ?_;rw[<-hb]
   have hbl:(gF s).length<=s.length:=by rw[hb];simp
   refine S0 (fun hb h=>?_) fun hb h=>?_
   ·exact d0 (zP gA)
   refine S0 (fun hb h=>?_) fun hb h=>?_
   ·exact d0 (zP gA)
   have hl1:1<=(gF s).length:=gA
   have hl12:(gF s).length<=12:=gA
   refine aZ (ι:=Nat×Nat) zmx rfl [0,6,7,8,9] (fun y=>[.c (.d (.s s)),.c (.d (.b true)),.c (.d (.s (gF s))),.c (.d (.i .i64 y.2)),.c (.d (.i .i64 y.1))]) (fun _=>[]::S)
    (fun y=>y.1<=(gF s).length/\Lib.decFrom 0 ((gF s).take y.1)=some y.2/\y.2<10^y.1) (fun y=>(gF s).length-y.1) (0,0) rfl rfl ⟨an _,rfl,gE⟩ ?_
   rintro⟨i,acc⟩ ⟨p1,p2,p3⟩;simp only at p1 p2 p3;have p4:10^i<=10^12:=gc gE gA;refine W1 ?_;refine S0 (fun hb h=>?_) fun hb h=>?_
   ·have hi:i<(gF s).length:=gA
    have e:(gF s).getD i 0=(gF s)[i]:=by simp[List.getD,hi]
    have hbb:=(gF s)[i].toNat_lt;refine W3 ?_;simp only[e];refine S0 (fun hb h=>?_) fun hb h=>?_
    ·exact d0 (II hi gA)
    refine W3 ?_;simp only[e];refine S0 (fun hb h=>?_) fun hb h=>?_
    ·exact d0 (II hi gA)
    have hdg:48<=(gF s)[i].toNat/\(gF s)[i].toNat<=57:=gA
    have ht:=decFrom_take hi p2 hdg
    have e2:(10:Int)*acc+(((gF s)[i].toNat:Int)-48)=((acc*10+((gF s)[i].toNat-48):Nat):Int):=gA
    refine W3 ?_;simp -implicitDefEqProofs (disch:=omega) only[go_sem,wrap_u8,e];rw[e2];exact dH (i+1,acc*10+((gF s)[i].toNat-48)) gC rfl rfl ⟨gC,ht,by simp only[gv];omega⟩
   ·have hi:i=(gF s).length:=gA
    have hv:Lib.decFrom 0 (gF s)=some acc:=by rw[hi,ch] at p2;exact p2
    have zy:=Wo hv gA;rw[if_pos hn] at zy;rw[show(0:Int)-acc= -(acc:Int) by omega];refine C1 (Af (-(acc:Int)) gA gA) ?_;refine S0 (fun hb h=>?_) fun hb h=>?_
    ·exact d0 (zy.trans (if_neg h))
    ·rw[zy.trans (if_pos h)];rfl
  ·have hn:¬Cb s:=fun x=>h (by rw[h0.2 x];rfl)
   have hbs:gF s=s:=by unfold gF;rw[if_neg hn]
   have hbl:(gF s).length=s.length:=by rw[hbs]
   refine S0 (fun hb h=>?_) fun hb h=>?_
   ·exact d0 (zP gA)
   refine S0 (fun hb h=>?_) fun hb h=>?_
   ·exact d0 (zP gA)
   have hl1:1<=(gF s).length:=gA
   have hl12:(gF s).length<=12:=gA
   refine aZ (ι:=Nat×Nat) zmx rfl [0,6,7,8,9] (fun y=>[.c (.d (.s s)),.c (.d (.b false)),.c (.d (.s (gF s))),.c (.d (.i .i64 y.2)),.c (.d (.i .i64 y.1))]) (fun _=>[]::S)
    (fun y=>y.1<=(gF s).length/\Lib.decFrom 0 ((gF s).take y.1)=some y.2/\y.2<10^y.1) (fun y=>(gF s).length-y.1) (0,0) (by rw[hbs];rfl) rfl ⟨an _,rfl,gE⟩ ?_
   rintro⟨i,acc⟩ ⟨p1,p2,p3⟩;simp only at p1 p2 p3;have p4:10^i<=10^12:=gc gE gA;refine W1 ?_;refine S0 (fun hb h=>?_) fun hb h=>?_
   ·have hi:i<(gF s).length:=gA
    have e:(gF s).getD i 0=(gF s)[i]:=by simp[List.getD,hi]
    have hbb:=(gF s)[i].toNat_lt;refine W3 ?_;simp only[e];refine S0 (fun hb h=>?_) fun hb h=>?_
    ·exact d0 (II hi gA)
    refine W3 ?_;simp only[e];refine S0 (fun hb h=>?_) fun hb h=>?_
    ·exact d0 (II hi gA)
    have hdg:48<=(gF s)[i].toNat/\(gF s)[i].toNat<=57:=gA
    have ht:=decFrom_take hi p2 hdg
    have e2:(10:Int)*acc+(((gF s)[i].toNat:Int)-48)=((acc*10+((gF s)[i].toNat-48):Nat):Int):=gA
    refine W3 ?_;simp -implicitDefEqProofs (disch:=omega) only[go_sem,wrap_u8,e];rw[e2];exact dH (i+1,acc*10+((gF s)[i].toNat-48)) gC rfl rfl ⟨gC,ht,by simp only[gv];omega⟩
   ·have hi:i=(gF s).length:=gA
    have hv:Lib.decFrom 0 (gF s)=some acc:=by rw[hi,ch] at p2;exact p2
    have zy:=Wo hv gA;rw[if_neg hn] at zy;refine C1 (Af ((acc:Int)) gA gA) ?_;refine S0 (fun hb h=>?_) fun hb h=>?_
    ·exact d0 (zy.trans (if_neg h))
    ·rw[zy.trans (if_pos h)];rfl
 ·have hs0:s=[]:=bz gA
  have hb0:(gF s).length=0:=by rw[hs0];rfl
  refine S0 (fun hb h=>?_) fun hb h=>?_
  ·exact d0 (zP gA)
  ·omega
theorem Tv(s:List UInt8)(hs:s.length<=1073741824):aD prog 190 [.c (.d (.s s))] (.eu [(false,[.d (.i .i64 ((iH s).getD 0))]),(false,[.d (.b (iH s).isSome)])]):=fun S=>by
 refine zcx [.tmp 2,.tmp 3] func190 ntmps190 ?_;refine W1 ?_;exact C4 (ab5 s hs)
theorem Dz{α:Type}[SizeOf α]:∀(i:Nat)(l:List α),SizeOf.sizeOf (l.drop i)<=SizeOf.sizeOf l
 |0,l=>by simp
 |i+1,[]=>by simp
 |i+1,x::l=>by
  have:=Dz i l;rw[di];simp only[fS];omega
theorem pJ(l:List ah)(n i:Nat)(h:l.length<=n):((l.map ah.enc).take n).drop i=(l.drop i).map ah.enc:=by
 rw[aE (by rw[ab];exact h),dt]
theorem yY(l:List ah)(i:Nat):(l.getD i cZ).sz<=dx l:=by
 rw[cz];by_cases h:i<l.length
 ·rw[am h];exact gY (ac h)
 ·rw[cn gA];rw[Option.getD_none,iM];simp[cZ,ah.aI,ah.aj,aS]
theorem eZ(x:ah):x.aj.length+dx x.aj<=x.sz:=by rw[iM,jU];omega
theorem C9(x:ah):x.aI.length<=x.sz:=by rw[iM];omega
def Bc(x:ah):List D:=[.s x.aI]
def allA(l:List ah):Bool:=l.all fun x=>decide (x.aI≠[])
theorem ac9{l:List ah}{i:Nat}(hi:i<l.length)(h:l[i].aI=[]):allA l=false/\fD l=[]:=by
 have:allA l=false:=by
  unfold allA;rw[List.all_eq_false];exact⟨_,ac hi,by simp[h]⟩
 refine⟨this,?_⟩;unfold fD;unfold allA at this;rw[this];rfl
theorem aal{l:List ah}(h:∀j (hj:j<l.length),l[j].aI≠[]):allA l=true/\(fD l).map encS=l.map Bc:=by
 have:allA l=true:=by
  unfold allA;rw[az];intro x hx;obtain⟨j,hj,rfl⟩:=ci hx;exact decide_eq_true (h j hj)
 refine⟨this,?_⟩;unfold fD;unfold allA at this;rw[this,if_pos rfl,ew];rfl
theorem Ny{l:List ah}{i:Nat}(hi:i<l.length):(l.take i).map Bc++[[.s l[i].aI]]=(l.take (i+1)).map Bc:=by
 rw[bu hi,bw];rfl
theorem Pt{l:List ah}{i:Nat}:((l.take i).map Bc).length<=i:=by rw[ab];exact bi _ _
def lt(l:List ak)(n:Nat):List (List D):=eO (l.map ak.enc) n
def gG(l:List ak):Nat:=mH (l.map ak.enc)
theorem apI(x:ak)(n:Nat):fE x.enc n=[.i .i64 x.aN,.s x.fName,.ol n (lt x.fArgs (n+1))]:=by
 rw[ak.aC];simp only[fE,rM,vR,cR,lt]
theorem ai6(l:List ak)(n:Nat):(lt l n).length=l.length:=by unfold lt;rw[kT,ab]
theorem apJ{l:List ak}{i:Nat}(hi:i<l.length)(n:Nat):lt (l.take i) n++[[.i .i64 l[i].aN,.s l[i].fName,.ol (n+gG (l.take i)) (lt l[i].fArgs (n+gG (l.take i)+1))]]=lt (l.take (i+1)) n:=by
 rw[bu hi];unfold lt gG;rw[bw,qO];simp only[af,aw,eO,apI,lt]
theorem Wp{l:List ak}{i:Nat}(hi:i<l.length):(l.take i).map ak.enc++[[.i .i64 l[i].aN,.s l[i].fName,.sl (l[i].fArgs.map ak.enc)]]=(l.take (i+1)).map ak.enc:=by
 rw[bu hi,bw];simp only[af,aw,ak.aC]
theorem UL(k:Int)(s:List UInt8)(n:Nat):Less (.agg [.d (.i .i64 k),.d (.s s),.bH []]) (.agg [.d (.i .i64 k),.d (.s s),.d (.ol n [])]):=(fP.cons (.refl _) (.cons (.refl _) (.cons (eD n) .nil))).less
theorem ada(k:Int)(s:List UInt8)(es:List (List D)):Less (.agg [.d (.i .i64 k),.d (.s s),.bH es]) (.agg [.d (.i .i64 k),.d (.s s),.d (.sl es)]):=(fP.cons (.refl _) (.cons (.refl _) (.cons (fJ es) .nil))).less
theorem arO{s:List UInt8}(h:s≠[]):((s.getD 0 0).toNat:Int)=39<->s.head? =some 39:=by
 cases s with
 |nil=>exact(h rfl).elim
 |cons b s=>
  simp only[fb,List.head?_cons,cC];constructor
  ·intro e
   have:b.toNat=39:=gA
   exact UInt8.toNat.inj this
  ·intro e;rw[e];rfl
theorem Tw(s:List UInt8)(n:Nat)(h:s.length<=n):(s.take n).drop 1=s.tail:=by rw[aE h,List.drop_one]
theorem Tx{a b:List (List D)}(h:jd a b):pW (.d (.sl a)) (.d (.sl b)):=fun w σ S β v hr=>h.rep hr
abbrev ak.vl(t:ak)(n:Nat):V:=.agg [.d (.i .i64 t.aN),.d (.s t.fName),.d (.ol n (lt t.fArgs (n+1)))]
theorem yZ(l:List (List UInt8)):mH (l.map encS)=0:=by
 induction l with
 |nil=>rfl
 |cons s l ih=>rw[af,mH,ih];rfl
theorem arP{b:Bool}{x:ah}{r:V}{k:Int}{s:List UInt8}{l:List ak}(h:dZ b x=.mk k s l)(hl:Less r (.agg [.d (.i .i64 k),.d (.s s),.d (.sl (l.map ak.enc))])):Less r (dZ b x).v:=by rw[h];exact hl
theorem anP{b:Bool}{x:ah}{k:Int}{s:List UInt8}(h:dZ b x=.mk k s []):Less (.agg [.d (.i .i64 k),.d (.s s),.bH []]) (dZ b x).v:=by rw[h];exact ada k s []
theorem anQ{b:Bool}{x:ah}{k:Int}{s:List UInt8}(h:dZ b x=.mk k s []):Less (.agg [.d (.i .i64 k),.d (.s s),.d (.sl [])]) (dZ b x).v:=by rw[h];exact gV _
theorem anR{b:Bool}{x:ah}{r:V}{n:Nat}{k:Int}{s:List UInt8}{l:List ak}(h:dZ b x=.mk k s l)(hl:Less r (.agg [.d (.i .i64 k),.d (.s s),.d (.ol n (lt l (n+1)))])):Less r ((dZ b x).vl n):=by rw[h];exact hl
theorem ai7{b:Bool}{x:ah}{n:Nat}{k:Int}{s:List UInt8}(h:dZ b x=.mk k s []):Less (.agg [.d (.i .i64 k),.d (.s s),.bH []]) ((dZ b x).vl n):=by rw[h];exact UL k s n
theorem ai8{b:Bool}{x:ah}{n:Nat}{k:Int}{s:List UInt8}(h:dZ b x=.mk k s []):Less (.agg [.d (.i .i64 k),.d (.s s),.d (.ol n [])]) ((dZ b x).vl n):=by rw[h];exact gV _
theorem ab6{s:List UInt8}(h:1<=s.length):(s.take 1).drop 0=[39]<->s.head? =some 39:=by
 cases s with
 |nil=>simp at h
 |cons b s=>simp
theorem Ho(xs:List ah)(hx:xs.length<=1073741824):aD prog 21 [.c (.d (.sl (xs.map ah.enc)))] (.eu [(false,[.d (.sl ((fD xs).map encS))]),(false,[.d (.b (allA xs))])]):=aD.of_le fun S=>by
 refine zcx [.tmp 2,.tmp 3] func21 ntmps21 ?_;refine W1 ?_;refine W3 ?_;refine nu 4 1 [] rfl gL ?_
 refine aZ (ι:=Nat) zmx rfl [0,4,5] (fun i=>[.c (.d (.sl (xs.map ah.enc))),.c (.bJ (0,0) ((xs.take i).map Bc)),.c (.d (.i .i64 i))]) (fun i=>[.tok 1 ((xs.take i).map Bc)]::S)
  (fun i=>i<=xs.length/\∀j,∀hj:j<xs.length,j<i->xs[j].aI≠[]) (fun i=>xs.length-i) 0 rfl rfl ⟨an _,fun j _ h=>gA⟩ ?_
 rintro i ⟨p1,p2⟩;have hl:=Pt (l:=xs) (i:=i);simp -implicitDefEqProofs (disch:=omega) only[go_sem,ah.aC];refine S0 (fun hb h=>?_) fun hb h=>?_
 ·have hi':i<xs.length:=gA
  have hs:=Ny hi';refine W3 ?_;refine S0 (fun hb h=>?_) fun hb h=>?_
  ·obtain⟨e1,e2⟩:=ac9 hi' h;rw[e1,e2];exact(jr.cons (.cons (fJ _) .nil) (.refl _)).less
  ·refine W3 ?_;rw[hs];refine dH (i+1) gA rfl rfl ⟨gA,fun j hj hji=> ?_⟩;by_cases e':j=i
   ·subst e';exact h
   ·exact p2 j hj gA
 ·have hi':i=xs.length:=gA
  subst hi';obtain⟨e1,e2⟩:=aal fun j hj=>p2 j hj hj;rw[e1,e2,ch];exact gV _
theorem uf(x:ah)(hx:x.sz<=4194304):aD prog 136 [x.v] (.c (.d (.sl ((fD x.aj).map encS)))):=fun S=>by
 have:=eZ x;refine zcx [.tmp 2] func136 ntmps136 ?_;refine W1 ?_;exact C3 (Ho x.aj gA)
theorem fU(x:ah)(i:Nat)(hx:x.sz<=4194304)(hi:i<=100):aD prog 22 [x.v,.c (.d (.i .i64 i))] (x.aj.getD i cZ).v:=aD.of_le fun S=>by
 have:=eZ x;refine zcx [.cell 4 26] func22 ntmps22 ?_;refine W1 ?_;refine S0 (fun hb h=>?_) fun hb h=>?_
 ·rw[cz,cn gA];exact(fP.cons (.refl _) (.cons (fJ _) .nil)).less
 ·have hi:i<x.aj.length:=gA
  rw[cz,am hi];exact gV _
theorem wT(a b:Int):aD prog 189 [.c (.d (.i .i64 a)),.c (.d (.i .i64 b))] (.c (.d (.i .i64 (min a b)))):=fun S=>by
 refine zcx [.tmp 4] func189 ntmps189 ?_;refine W1 ?_;refine S0 (fun hb h=>?_) fun hb h=>?_
 ·exact int_eq gA
 ·exact int_eq gA
theorem zQ(x:ah)(i:Nat)(hx:x.sz<=4194304):aD prog 137 [x.v,.c (.d (.i .i64 i))] (.c (.d (.sl ((x.aj.drop i).map ah.enc)))):=fun S=>by
 have:=eZ x;refine zcx [.tmp 4] func137 ntmps137 ?_;refine W1 ?_;refine bn (wT _ _) ?_
 have e:min (i:Int) (x.aj.length:Int)=((min i x.aj.length:Nat):Int):=gA
 rw[e];have hr:=gK (l:=x.aj);refine W1 ?_;refine W3 ?_;refine⟨⟨gA,gA,gA,hr⟩,?_⟩;rw[pJ _ _ _ (ax _)];by_cases h:i<=x.aj.length
 ·rw[gj h]
 ·rw[Nat.min_eq_right gA,cy,cA gA]
theorem af6(s:List UInt8):aD prog 120 [.c (.d (.s s)),.c (.d (.sl []))] (.agg [.d (.i .i64 2),.d (.s s),.d (.sl [])]):=aD.of_le fun S=>by
 refine zcx [.cell 4 73] func120 ntmps120 ?_;refine W1 ?_;refine W3 ?_;exact gV _
theorem af7(s:List UInt8):aD prog 115 [.c (.d (.s s))] (.agg [.d (.i .i64 1),.d (.s s),.d (.sl [])]):=aD.of_le fun S=>by
 refine zcx [.cell 2 73] func115 ntmps115 ?_;refine W1 ?_;refine W3 ?_;exact ada _ _ _
theorem Lx:∀N:Nat,(∀x:ah,SizeOf.sizeOf x<N->x.sz<=4194304->aD prog 139 [x.v] (dZ false x).v)
 |0=>fun x h=>by omega
 |N+1=>by
  have ih:=Lx N;intro x hn hsz;have kL:=ah.vO x;have h1:=eZ x;have h2:=C9 x;have hx:=ac8 false x
  have hall:∀t∈x.aj,t.sz<=4194304:=fun t ht=>by have:=gY ht;omega
  refine aD.of_le fun S=> ?_;refine zcx [.cell 2 73] func139 ntmps139 ?_;refine W1 ?_;refine S0 (fun hb h=>?_) fun hb h=>?_
  ·have hne:=h;rw[if_neg h] at hx;have h39:=arO h;have hln:0<x.aI.length:=fm.2 hne;have hsl:=Tw x.aI x.aI.length (ax _);refine W3 ?_;refine S0 (fun hb h=>?_) fun hb h=>?_
   ·rw[if_pos (h39.1 h)] at hx;refine W3 ?_;rw[hsl];refine C1 (af7 _) ?_;exact anQ hx
   ·rw[if_neg (fun e=>h (h39.2 e))] at hx;refine C1 (af6 _) ?_;exact anQ hx
  rw[if_pos h] at hx;refine S0 (fun hb h=>?_) fun hb h=>?_
  ·rw[if_pos gA] at hx;exact anP hx
  rw[if_neg gA] at hx
  have hl2:2<=x.aj.length:=gA
  have a0:=j4 (l:=x.aj) (i:=0) gA;have a1:=j4 (l:=x.aj) (i:=1) gA;obtain⟨T,hT⟩:∃T:Nat->List (List D),T=fun i=>(((x.aj.map (dZ false)).drop 1).take i).map ak.enc:=⟨_,rfl⟩
  have hT0:T 0=[]:=by rw[hT];rfl
  have fZ:∀i,(T i).length<=i:=fun i=>by rw[hT];simp only[ab];exact bi _ _
  have hTr:∀i,∀r∈T i,r.length=3:=fun i=>by
   rw[hT];intro r hr;obtain⟨z,_,rfl⟩:=cr.1 hr;exact z.dK
  have hTs:∀i (hi:i+1<x.aj.length),T i++[[.i .i64 (dZ false x.aj[i+1]).aN,.s (dZ false x.aj[i+1]).fName,.sl ((dZ false x.aj[i+1]).fArgs.map ak.enc)]]=T (i+1):=fun i hi=>by
   have:=Wp (l:=(x.aj.map (dZ false)).drop 1) (i:=i) (by rw[bk,ab];omega);rw[List.getElem_drop,bp] at this;rw[hT];simp only[eq 1 i] at this ⊢;exact this
  have hTe:T (x.aj.length-1)=((x.aj.map (dZ false)).drop 1).map ak.enc:=by
   rw[hT];simp only
   rw[aE gL]
  have hTn:(T (x.aj.length-1)).length=x.aj.length-1:=by rw[hTe];simp
  have hTd:(T (x.aj.length-1)).drop 1=((x.aj.map (dZ false)).drop 2).map ak.enc:=by rw[hTe,<-dt,fR]
  clear hT;refine W3 ?_;refine nu 4 3 [] rfl gL ?_
  refine aZ (ι:=Nat) zmx rfl [1,2,3,4,5] (fun i=>[.c (.ptr (0,0) 0),.c (.ptr (0,1) 0),.c (.d (.s x.aj[0].aI)),.c (.bJ (0,2) (T i)),.c (.d (.i .i64 ((i+1:Nat):Int)))])
   (fun i=>[.box [.d (.s x.aI),.d (.sl (x.aj.map ah.enc))],.box [.d (.i .i64 0),.d (.s []),.bH []],.tok 3 (T i)]::S)
   (fun i=>i+1<=x.aj.length) (fun i=>x.aj.length-(i+1)) 0 (by rw[hT0];rfl) (by rw[hT0];rfl) gA ?_
  intro i hi;have hl:=fZ i;refine W1 ?_;refine S0 (fun hb h=>?_) fun hb h=>?_
  ·have hi':i+1<x.aj.length:=gA
   have hm:=ac hi';have hs:=hTs i hi';refine W3 ?_;refine bn (ih x.aj[i+1] (by have:=bh hm;omega) (hall _ hm)) ?_;simp -implicitDefEqProofs (disch:=omega) only[go_sem,ak.aC];refine W3 ?_;rw[hs];exact dH (i+1) gA rfl rfl gA
  have hi':i=x.aj.length-1:=gA
  subst hi';have hrows:=hTr (x.aj.length-1);have hta:((T (x.aj.length-1)).take (x.aj.length-1))=T (x.aj.length-1):=aE gA;rw[a0,a1] at hx;have tD:x.aj[0].aI=[100,121,110]/\x.aj.length=2/\x.aj[1].aI≠[]->dZ false x=.mk 4 x.aj[1].aI []:=fun e=>hx.trans (if_pos ⟨e.1,.inr e.2⟩)
  have tA:x.aj[0].aI=[97,115,115,111,99]/\x.aj.length=3/\x.aj[1].aI≠[]->dZ false x=.mk 3 x.aj[1].aI ((x.aj.map (dZ false)).drop 2):=fun e=>by
   rw[hx,if_neg (fun e'=>by have:=e'.1.symm.trans e.1;revert this;decide),if_pos ⟨e.1,.inr e.2⟩]
  have tN:¬(x.aj[0].aI=[100,121,110]/\x.aj.length=2/\x.aj[1].aI≠[])->¬(x.aj[0].aI=[97,115,115,111,99]/\x.aj.length=3/\x.aj[1].aI≠[])->dZ false x=.mk 2 x.aj[0].aI ((x.aj.map (dZ false)).drop 1):=fun e1 e2=>by
   rw[hx,if_neg (fun e'=>e1 ⟨e'.1,e'.2.resolve_left gE⟩),if_neg (fun e'=>e2 ⟨e'.1,e'.2.resolve_left gE⟩)]
  clear hx hTs ih
  repeat' (first|(refine S0 (fun hb h=>?_) fun hb h=>?_))
  all_goals first
   |(refine⟨⟨gA,gA,hrows⟩,?_⟩;refine arP (tA ⟨by assumption,gA,by assumption⟩) ?_;rw[hTn,hta,hTd];exact gV _)
   |exact anP (tD ⟨by assumption,gA,by assumption⟩)
   |(refine arP (tN (fun⟨a,b,c⟩=>by first|contradiction|omega) (fun⟨a,b,c⟩=>by first|contradiction|omega)) ?_;rw[hTe];exact gV _)
   |trace_state
theorem qX(x:ah)(hsz:x.sz<=4194304):aD prog 139 [x.v] (dZ false x).v:=Lx _ x (cg _) hsz
theorem LA(xs:List ah)(hlen:xs.length<=4194304)(hsz:∀t∈xs,t.sz<=4194304):aD prog 138 [.c (.d (.sl (xs.map ah.enc)))] (.c (.d (.sl ((xs.map (dZ false)).map ak.enc)))):=fun S=>by
 refine zcx [.tmp 2] func138 ntmps138 ?_;refine W1 ?_;refine W3 ?_;refine nu 3 3 [] rfl gL ?_
 refine aZ (ι:=Nat) zmx rfl [0,3,4] (fun i=>[.c (.d (.sl (xs.map ah.enc))),.c (.bJ (0,0) (((xs.map (dZ false)).take i).map ak.enc)),.c (.d (.i .i64 i))]) (fun i=>[.tok 3 (((xs.map (dZ false)).take i).map ak.enc)]::S)
  (fun i=>i<=xs.length) (fun i=>xs.length-i) 0 rfl rfl (an _) ?_
 intro i hi
 have hl:(((xs.map (dZ false)).take i).map ak.enc).length<=i:=by rw[ab];exact bi _ _
 refine W1 ?_;refine S0 (fun hb h=>?_) fun hb h=>?_
 ·have hi':i<xs.length:=gA
  have hs:=Wp (l:=xs.map (dZ false)) (i:=i) (by rw[ab];exact hi');rw[bp] at hs;refine W3 ?_;refine C1 (qX xs[i] (hsz _ (ac hi'))) ?_;refine W3 ?_;rw[hs];exact dH (i+1) gA rfl rfl gA
 ·have hi':i=(xs.map (dZ false)).length:=by rw[ab];omega
  rw[hi',ch]
theorem Tz(s:List UInt8)(hs:s.length<=1073741824):aD prog 246 [.c (.d (.s s)),.c (.d (.s [39]))] (.c (.d (.b (decide (s.head? =some 39))))):=fun S=>by
 refine zcx [.tmp 4] func246 ntmps246 ?_;refine W1 ?_;refine S0 (fun hb h=>?_) fun hb h=>?_
 ·exact aK (decide_eq_decide.2 (ab6 gA))
 ·have:s=[]:=bz gA;subst this;rfl
theorem TA(s:List UInt8)(hs:s.length<=1073741824):aD prog 216 [.c (.d (.s s)),.c (.d (.s [39]))] (.eu [(false,[.d (.s (if s.head? =some 39 then s.tail else s))]),(false,[.d (.b (decide (s.head? =some 39)))])]):=fun S=>by
 refine zcx [.tmp 4,.tmp 5] func216 ntmps216 ?_;refine W1 ?_;refine C1 (Tz s hs) ?_;refine S0 (fun hb h=>?_) fun hb h=>?_
 ·rw[if_neg h,decide_eq_false h]
 ·have hl:0<s.length:=by
   cases s with
   |nil=>cases h
   |cons _ _=>simp
  refine W3 ?_;rw[if_pos h,decide_eq_true h,Tw _ _ (ax _)]
theorem aam(s:List UInt8)(hs:s.length<=1073741824):aD prog 183 [.c (.d (.s s)),.c (.d (.s [39]))] (.eu [(false,[.d (.s (if s.head? =some 39 then s.tail else s))]),(false,[.d (.b (decide (s.head? =some 39)))])]):=fun S=>by
 refine zcx [.tmp 4,.tmp 5] func183 ntmps183 ?_;refine W1 ?_;exact C3 (TA s hs)
theorem Cc(xs:List ah)(hx:xs.length<=1073741824)(n:Nat):aD prog 19 [.c (.d (.sl (xs.map ah.enc)))] (.eu [(false,[.d (.ol n ((fD xs).map encS))]),(false,[.d (.b (allA xs))])]):=aD.of_le fun S=>by
 refine lF (n) (rs:=[.tmp 2,.tmp 3]) zmx func19 ntmps19 rfl rfl rfl rfl rfl ?_;refine W1 ?_;refine W3 ?_;refine lV n 4 1 [] (.inl rfl) gL ?_
 refine aZ (ι:=Nat) zmx rfl [4,8,9,10] (fun i=>[.c (.bJ (0,1) ((xs.take i).map Bc)),.c (.d (.sl (xs.map ah.enc))),.c (.d (.i .i64 xs.length)),.c (.d (.i .i64 i))]) (fun i=>[.seed n,.eP n 1 ((xs.take i).map Bc)]::S)
  (fun i=>i<=xs.length/\∀j,∀hj:j<xs.length,j<i->xs[j].aI≠[]) (fun i=>xs.length-i) 0 rfl rfl ⟨an _,fun j _ h=>gA⟩ ?_
 rintro i ⟨p1,p2⟩;have hl:=Pt (l:=xs) (i:=i);simp -implicitDefEqProofs (disch:=omega) only[go_sem,ah.aC];refine S0 (fun hb h=>?_) fun hb h=>?_
 ·have hi':i<xs.length:=gA
  have hs:=Ny hi';refine W3 ?_;refine S0 (fun hb h=>?_) fun hb h=>?_
  ·obtain⟨e1,e2⟩:=ac9 hi' h;rw[e1,e2];exact(jr.cons (.cons (eD n) .nil) (.refl _)).less
  ·refine W3 ?_;rw[hs];refine bR 2 gE (i+1) gA rfl rfl rfl rfl ⟨gA,fun j hj hji=> ?_⟩;by_cases e':j=i
   ·subst e';exact h
   ·exact p2 j hj gA
 ·have hi':i=xs.length:=gA
  subst hi';obtain⟨e1,e2⟩:=aal fun j hj=>p2 j hj hj;rw[e1,e2,ch];exact gV _
theorem rU(x:ah)(hx:x.sz<=4194304)(n:Nat):aD prog 129 [x.v] (.c (.d (.ol n ((fD x.aj).map encS)))):=fun S=>by
 have:=eZ x;refine zcx [.tmp 2] func129 ntmps129 ?_;refine W1 ?_;exact C3 (Cc x.aj gA n)
theorem ab7(s:List UInt8)(n:Nat):aD prog 184 [.c (.d (.s s))] (.agg [.d (.i .i64 1),.d (.s s),.d (.ol n [])]):=aD.of_le fun S=>by
 refine zcx [.cell 2 73] func184 ntmps184 ?_;refine W1 ?_;refine W3 ?_;exact UL _ _ _
theorem ab8(s:List UInt8)(n:Nat):aD prog 185 [.c (.d (.s s))] (.agg [.d (.i .i64 4),.d (.s s),.d (.ol n [])]):=aD.of_le fun S=>by
 refine zcx [.cell 2 73] func185 ntmps185 ?_;refine W1 ?_;refine W3 ?_;exact UL _ _ _
theorem EM:∀N:Nat,(∀x:ah,SizeOf.sizeOf x<N->∀n:Nat,x.sz<=4194304->aD prog 131 [x.v] ((dZ true x).vl n))/\
 (∀xs:List ah,SizeOf.sizeOf xs<N->∀n q:Nat,xs.length<=4194304->(∀t∈xs,t.sz<=4194304)->aD prog 130 [.c (.d (.sl (xs.map ah.enc)))] (.c (.d (.ol n (lt (xs.map (dZ true)) q)))))
 |0=>⟨fun x h=>gA,fun x h=>gA⟩
 |N+1=>by
  obtain⟨ih,qm⟩:=EM N;refine⟨fun x hn n hsz=>aD.of_le fun S=> ?_,fun xs hn n q hlen hsz S=> ?_⟩
  ·have kL:=ah.vO x;have h1:=eZ x;have h2:=C9 x;have hx:=ac8 true x
   have hall:∀t∈x.aj,t.sz<=4194304:=fun t ht=>by have:=gY ht;omega
   refine zcx [.cell 2 73] func131 ntmps131 ?_;refine W1 ?_;refine S0 (fun hb h=>?_) fun hb h=>?_
   ·rw[if_neg h] at hx;refine C1 (aam x.aI gA) ?_;refine S0 (fun hb h=>?_) fun hb h=>?_
    ·rw[if_pos h] at hx ⊢;refine C1 (ab7 _ n) ?_;exact ai8 hx
    ·rw[if_neg h] at hx;refine W3 ?_;exact ai7 hx
   rw[if_pos h] at hx;refine S0 (fun hb h=>?_) fun hb h=>?_
   ·rw[if_pos gA] at hx;exact ai7 hx
   rw[if_neg gA] at hx
   have hl2:2<=x.aj.length:=gA
   have a0:=j4 (l:=x.aj) (i:=0) gA;have a1:=j4 (l:=x.aj) (i:=1) gA;rw[a0,a1] at hx;have hr:=gK (l:=x.aj);have hd:=fun i=>pJ x.aj x.aj.length i (ax _);have hso:=fun i=>Dz i x.aj
   have hdl:∀i,(x.aj.drop i).length<=4194304:=fun i=>by rw[bk];omega
   have hda:∀i,∀t∈x.aj.drop i,t.sz<=4194304:=fun i t ht=>hall t (cJ ht);refine W3 ?_;refine S0 (fun hb h=>?_) fun hb h=>?_
   ·have hx:=hx.trans (if_pos ⟨h,.inl rfl⟩);refine W3 ?_;refine C1 (ab8 _ n) ?_;exact ai8 hx
   have hx:=hx.trans (if_neg fun e=>h e.1);refine S0 (fun hb h=>?_) fun hb h=>?_
   ·have hx:=hx.trans (if_pos ⟨h,.inl rfl⟩);refine⟨⟨gA,gA,hr⟩,?_⟩;rw[hd];refine C1 (qm (x.aj.drop 2) (by have:=hso 2;omega) n (n+1) (hdl 2) (hda 2)) ?_;refine anR hx ?_;rw[dt];exact gV _
   ·have hx:=hx.trans (if_neg fun e=>h e.1);refine⟨⟨gA,gA,hr⟩,?_⟩;rw[hd];refine C1 (qm (x.aj.drop 1) (by have:=hso 1;omega) n (n+1) (hdl 1) (hda 1)) ?_;refine anR hx ?_;rw[dt];exact gV _
  ·have FB:=fun(i:Nat) (hi:i<xs.length)=>apJ (l:=xs.map (dZ true)) (i:=i) hJ q;refine lF (n) (rs:=[.tmp 2]) zmx func130 ntmps130 rfl rfl rfl rfl rfl ?_;refine W1 ?_;refine W3 ?_;refine lV n 3 3 [] (.inl rfl) gL ?_
   refine aZ (ι:=Nat) zmx rfl [3,7,8,9] (fun i=>[.c (.bJ (0,1) (lt ((xs.map (dZ true)).take i) q)),.c (.d (.sl (xs.map ah.enc))),.c (.d (.i .i64 xs.length)),.c (.d (.i .i64 i))]) (fun i=>[.seed n,.eP n 3 (lt ((xs.map (dZ true)).take i) q)]::S)
    (fun i=>i<=xs.length) (fun i=>xs.length-i) 0 rfl rfl (an _) ?_
   intro i hi;simp -implicitDefEqProofs (disch:=omega) only[go_sem,ah.aC];refine S0 (fun hb h=>?_) fun hb h=>?_
   ·have hi':i<xs.length:=gA
    have hs:=FB i hi';rw[bp] at hs
    have hl:(lt ((xs.map (dZ true)).take i) q).length<=i:=by rw[ai6];exact bi _ _
    refine W3 ?_;refine C1 (ih xs[i] (by have:=bh (ac hi');omega) (q+gG ((xs.map (dZ true)).take i)) (hsz _ (ac hi'))) ?_;refine W3 ?_;rw[hs];exact bR 2 gE (i+1) gA rfl rfl rfl rfl gA
   ·have hi':i=(xs.map (dZ true)).length:=by rw[ab];omega
    rw[hi',ch]
theorem rV(x:ah)(n:Nat)(hsz:x.sz<=4194304):aD prog 131 [x.v] ((dZ true x).vl n):=(EM _).1 x (cg _) n hsz
theorem J7(xs:List ah)(n q:Nat)(hlen:xs.length<=4194304)(hsz:∀t∈xs,t.sz<=4194304):aD prog 130 [.c (.d (.sl (xs.map ah.enc)))] (.c (.d (.ol n (lt (xs.map (dZ true)) q)))):=(EM _).2 xs (cg _) n q hlen hsz
theorem wU(x:ah)(s:List UInt8)(k:Nat)(hk:1<=k)(hk2:k<=100)(hsz:x.sz<=4194304):aD prog 18 [x.v,.c (.d (.s s)),.c (.d (.i .i64 k))] (.c (.d (.b (dec (dQ x=true/\k<=x.aj.length/\dU x.aj 0=s))))):=fun S=>by
 have h1:=eZ x;obtain⟨t,ht⟩:∃t,t=dec (dQ x=true/\k<=x.aj.length/\dU x.aj 0=s):=⟨_,rfl⟩;rw[<-ht];refine zcx [.tmp 6] func18 ntmps18 ?_;refine W1 ?_;refine C1 (rJ x gA) ?_;refine S0 (fun hb h=>?_) fun hb h=>?_
 ·have hv:=h;refine S0 (fun hb h=>?_) fun hb h=>?_
  ·have hl:0<x.aj.length:=gA
   have hl2:k<=x.aj.length:=gA
   have a0:=j4 hl;refine W3 ?_;refine aK ?_;rw[kK,ht];exact iJ ⟨fun e=>⟨hv,hl2,by rw[a0];exact e⟩,fun e=>by rw[<-a0];exact e.2.2⟩
  ·exact aK (ht.trans (aO fun e=>gA)).symm
 ·exact aK (ht.trans (aO fun e=>by rw[e.1] at h;cases h)).symm
theorem rG(b:Bool)(x:ah):fA b x=if x.aI=[] then
 if b=true/\(x.aj.length<2\/dU x.aj 0=jN/\x.aj.length<3) then mK
 else if dU x.aj 0=qC then .mk 4 [] (dU x.aj 1) 0 jB ((x.aj.map (fA b)).drop 2) []
 else if dU x.aj 0=u7 then .mk 6 [] (dU x.aj 1) 0 jB ((x.aj.map (fA b)).drop 2) []
 else if dU x.aj 0=vg then .mk 8 [] (dU x.aj 1) 0 jB ((x.aj.map (fA b)).drop 2) []
 else if dU x.aj 0=qD then .mk 11 (dU x.aj 1) [] 0 jB ((x.aj.map (fA b)).drop 2) []
 else if dU x.aj 0=jN then .mk 5 (dU x.aj 1) (dU x.aj 2) 0 jB ((x.aj.map (fA b)).drop 3) []
 else if dU x.aj 0=zN then .mk 9 [] [] 0 jB ((x.aj.map (fA b)).drop 1) []
 else if dU x.aj 0=vT then .mk 12 [] [] 0 (dZ b (x.aj.getD 1 cZ)) ((x.aj.map (fA b)).drop 2) []
 else if dU x.aj 0=lX then .mk 7 [] [] 0 jB (((x.aj.map (fA b)).drop 1).take 1) ((x.aj.map (tY b)).drop 2)
 else .mk 10 [] (dU x.aj 0) 0 jB ((x.aj.map (fA b)).drop 1) []
 else match iH x.aI with
  |some n=>.mk 1 [] [] n jB [] []
  |none=>if x.aI=Dr then .mk 2 [] [] 1 jB [] [] else if x.aI=BL then .mk 2 [] [] 0 jB [] [] else .mk 3 [] x.aI 0 jB [] []:=by
 cases x;rw[fA,Em,IG];rfl
theorem adb(b:Bool)(x:ah)(h:2<=x.aj.length):tY b x=.mk (dU x.aj 0) (fD ((x.aj.drop 1).dropLast)) (fA b (x.aj[x.aj.length-1]' gA)):=by
 obtain⟨a,l⟩:=x;simp only[ah.aj] at h ⊢;rw[tY,if_neg gA,Em];congr 1;rw[gp,List.getLast?_eq_getElem?,ab,am (by rw[ab];omega)]
 simp
theorem ade(b:Bool)(x:ah)(h:x.aj.length<2):tY b x=.mk [] [] mK:=by
 obtain⟨a,l⟩:=x;rw[tY];exact if_pos h
def zV(b:Bool)(l:List ah):Prop:=¬(b=true/\(l.length<2\/dU l 0=jN/\l.length<3))
theorem Wq{b:Bool}{x:ah}(ha:x.aI=[])(hg:zV b x.aj)(h:dU x.aj 0=qC):fA b x=.mk 4 [] (dU x.aj 1) 0 jB ((x.aj.drop 2).map (fA b)) []:=by
 rw[rG,if_pos ha,if_neg hg,if_pos h];simp only[dt,ee]
theorem aan{b:Bool}{x:ah}(ha:x.aI=[])(hg:zV b x.aj)(h:dU x.aj 0=u7):fA b x=.mk 6 [] (dU x.aj 1) 0 jB ((x.aj.drop 2).map (fA b)) []:=by
 rw[rG,if_pos ha,if_neg hg,if_neg (by rw[h];decide),if_pos h];simp only[dt,ee]
theorem aao{b:Bool}{x:ah}(ha:x.aI=[])(hg:zV b x.aj)(h:dU x.aj 0=vg):fA b x=.mk 8 [] (dU x.aj 1) 0 jB ((x.aj.drop 2).map (fA b)) []:=by
 rw[rG,if_pos ha,if_neg hg,if_neg (by rw[h];decide),if_neg (by rw[h];decide),if_pos h];simp only[dt,ee]
theorem Ws{b:Bool}{x:ah}(ha:x.aI=[])(hg:zV b x.aj)(h:dU x.aj 0=qD):fA b x=.mk 11 (dU x.aj 1) [] 0 jB ((x.aj.drop 2).map (fA b)) []:=by
 rw[rG,if_pos ha,if_neg hg,if_neg (by rw[h];decide),if_neg (by rw[h];decide),if_neg (by rw[h];decide),if_pos h];simp only[dt,ee]
theorem Pv{b:Bool}{x:ah}(ha:x.aI=[])(hg:zV b x.aj)(h:dU x.aj 0=jN):fA b x=.mk 5 (dU x.aj 1) (dU x.aj 2) 0 jB ((x.aj.drop 3).map (fA b)) []:=by
 rw[rG,if_pos ha,if_neg hg,if_neg (by rw[h];decide),if_neg (by rw[h];decide),if_neg (by rw[h];decide),if_neg (by rw[h];decide),if_pos h];simp only[dt,ee]
theorem adf{b:Bool}{x:ah}(ha:x.aI=[])(hg:zV b x.aj)(h:dU x.aj 0=zN):fA b x=.mk 9 [] [] 0 jB ((x.aj.drop 1).map (fA b)) []:=by
 rw[rG,if_pos ha,if_neg hg,if_neg (by rw[h];decide),if_neg (by rw[h];decide),if_neg (by rw[h];decide),if_neg (by rw[h];decide),if_neg (by rw[h];decide),if_pos h];simp only[dt,ee]
theorem aap{b:Bool}{x:ah}(ha:x.aI=[])(hg:zV b x.aj)(h:dU x.aj 0=vT):fA b x=.mk 12 [] [] 0 (dZ b (x.aj.getD 1 cZ)) ((x.aj.drop 2).map (fA b)) []:=by
 rw[rG,if_pos ha,if_neg hg,if_neg (by rw[h];decide),if_neg (by rw[h];decide),if_neg (by rw[h];decide),if_neg (by rw[h];decide),if_neg (by rw[h];decide),if_neg (by rw[h];decide),if_pos h];simp only[dt,ee]
theorem Wt{b:Bool}{x:ah}(ha:x.aI=[])(hg:zV b x.aj)(h:dU x.aj 0=lX):fA b x=.mk 7 [] [] 0 jB (((x.aj.drop 1).take 1).map (fA b)) ((x.aj.drop 2).map (tY b)):=by
 rw[rG,if_pos ha,if_neg hg,if_neg (by rw[h];decide),if_neg (by rw[h];decide),if_neg (by rw[h];decide),if_neg (by rw[h];decide),if_neg (by rw[h];decide),if_neg (by rw[h];decide),if_neg (by rw[h];decide),if_pos h];simp only[dt,ee]
theorem Wu{b:Bool}{x:ah}(ha:x.aI=[])(hg:zV b x.aj)(h0:dU x.aj 0≠qC)(h1:dU x.aj 0≠u7)(h2:dU x.aj 0≠vg)(h3:dU x.aj 0≠qD)(h4:dU x.aj 0≠jN)(h5:dU x.aj 0≠zN)(h6:dU x.aj 0≠vT)(h7:dU x.aj 0≠lX):fA b x=.mk 10 [] (dU x.aj 0) 0 jB ((x.aj.drop 1).map (fA b)) []:=by
 rw[rG,if_pos ha,if_neg hg,if_neg h0,if_neg h1,if_neg h2,if_neg h3,if_neg h4,if_neg h5,if_neg h6,if_neg h7];simp only[dt,ee]
theorem Wv{x:ah}(ha:x.aI=[])(hg:¬zV true x.aj):fA true x=mK:=by
 rw[rG,if_pos ha,if_pos (Decidable.not_not.1 hg)]
theorem aaq{b:Bool}{x:ah}{n:Int}(ha:x.aI≠[])(h:iH x.aI=some n):fA b x=.mk 1 [] [] n jB [] []:=by
 rw[rG,if_neg ha,h]
theorem Ww{b:Bool}{x:ah}(ha:x.aI≠[])(h:iH x.aI=none)(h1:x.aI=Dr):fA b x=.mk 2 [] [] 1 jB [] []:=by
 rw[rG,if_neg ha,h];exact if_pos h1
theorem TB{b:Bool}{x:ah}(ha:x.aI≠[])(h:iH x.aI=none)(h1:x.aI≠Dr)(h2:x.aI=BL):fA b x=.mk 2 [] [] 0 jB [] []:=by
 rw[rG,if_neg ha,h];exact(if_neg h1).trans (if_pos h2)
theorem aar{b:Bool}{x:ah}(ha:x.aI≠[])(h:iH x.aI=none)(h1:x.aI≠Dr)(h2:x.aI≠BL):fA b x=.mk 3 [] x.aI 0 jB [] []:=by
 rw[rG,if_neg ha,h];exact(if_neg h1).trans (if_neg h2)
def lE(l:List au)(n:Nat):List (List D):=eO (l.map au.enc) n
def l7(l:List au):Nat:=mH (l.map au.enc)
def lM(l:List bq)(n:Nat):List (List D):=eO (l.map bq.enc) n
def af8(l:List bq):Nat:=mH (l.map bq.enc)
abbrev au.vl(x:au)(n:Nat):V:=.agg [.d (.i .i64 x.aN),.d (.s x.bO),.d (.s x.fName),.d (.i .i64 x.fN),.d (.i .i64 x.fType.aN),.d (.s x.fType.fName),.d (.ol n (lt x.fType.fArgs (n+1))),
 .d (.ol (n+(gG x.fType.fArgs+1)) (lE x.fArgs (n+(gG x.fType.fArgs+1)+1))),.d (.ol (n+(gG x.fType.fArgs+1)+(l7 x.fArgs+1)) (lM x.aX (n+(gG x.fType.fArgs+1)+(l7 x.fArgs+1)+1)))]
theorem aas(x:au)(n:Nat):fE x.enc n=[.i .i64 x.aN,.s x.bO,.s x.fName,.i .i64 x.fN,.i .i64 x.fType.aN,.s x.fType.fName,.ol n (lt x.fType.fArgs (n+1)),
 .ol (n+(gG x.fType.fArgs+1)) (lE x.fArgs (n+(gG x.fType.fArgs+1)+1)),.ol (n+(gG x.fType.fArgs+1)+(l7 x.fArgs+1)) (lM x.aX (n+(gG x.fType.fArgs+1)+(l7 x.fArgs+1)+1))]:=by
 simp only[au.aC,ak.aC,ba,bc,fE,rM,vR,cR,lt,lE,lM,gG,l7]
theorem amS(x:bq)(n:Nat):fE x.enc n=[.s x.dV,.ol n (x.aG.map encS)]++fE x.fBody.enc (n+1):=by
 rw[bq.aC,O9];simp only[fE,rM,Ez,vR,cR,wP,yZ,cG]
abbrev bq.vl(x:bq)(n:Nat):V:=.agg [.d (.s x.dV),.d (.ol n (x.aG.map encS)),.d (.i .i64 x.fBody.aN),.d (.s x.fBody.bO),.d (.s x.fBody.fName),.d (.i .i64 x.fBody.fN),.d (.i .i64 x.fBody.fType.aN),.d (.s x.fBody.fType.fName),.d (.ol (n+1) (lt x.fBody.fType.fArgs (n+1+1))),
 .d (.ol (n+1+(gG x.fBody.fType.fArgs+1)) (lE x.fBody.fArgs (n+1+(gG x.fBody.fType.fArgs+1)+1))),.d (.ol (n+1+(gG x.fBody.fType.fArgs+1)+(l7 x.fBody.fArgs+1)) (lM x.fBody.aX (n+1+(gG x.fBody.fType.fArgs+1)+(l7 x.fBody.fArgs+1)+1)))]
theorem ai9(l:List au)(n:Nat):(lE l n).length=l.length:=by unfold lE;rw[kT,ab]
theorem aja(l:List bq)(n:Nat):(lM l n).length=l.length:=by unfold lM;rw[kT,ab]
theorem apK{l:List au}{i:Nat}(hi:i<l.length)(n:Nat):lE (l.take i) n++[fE l[i].enc (n+l7 (l.take i))]=lE (l.take (i+1)) n:=by
 rw[bu hi];unfold lE l7;rw[bw,qO];rfl
theorem apL{l:List bq}{i:Nat}(hi:i<l.length)(n:Nat):lM (l.take i) n++[fE l[i].enc (n+af8 (l.take i))]=lM (l.take (i+1)) n:=by
 rw[bu hi];unfold lM af8;rw[bw,qO];rfl
theorem ajb{l:List au}{i:Nat}(hi:i<l.length):(l.take i).map au.enc++[l[i].enc]=(l.take (i+1)).map au.enc:=by
 rw[bu hi,bw];rfl
theorem ajc{l:List bq}{i:Nat}(hi:i<l.length):(l.take i).map bq.enc++[l[i].enc]=(l.take (i+1)).map bq.enc:=by
 rw[bu hi,bw];rfl
theorem ie0{x:au}{n:Nat}{k N:Int}{tr nm:List UInt8}(h:x=.mk k tr nm N jB [] []):Less (.agg [.d (.i .i64 k),.d (.s tr),.d (.s nm),.d (.i .i64 N),.d (.i .i64 0),.d (.s []),.bH [],.bH [],.bH []]) (x.vl n):=by
 rw[h];exact(fP.cons (.refl _) (.cons (.refl _) (.cons (.refl _) (.cons (.refl _) (.cons (.refl _) (.cons (.refl _) (.cons (eD _) (.cons (eD _) (.cons (eD _) .nil))))))))).less
theorem ie1{x:au}{n:Nat}{k N:Int}{tr nm:List UInt8}{args:List au}(h:x=.mk k tr nm N jB args []):Less (.agg [.d (.i .i64 k),.d (.s tr),.d (.s nm),.d (.i .i64 N),.d (.i .i64 0),.d (.s []),.bH [],.d (.ol (n+1) (lE args (n+1+1))),.bH []]) (x.vl n):=by
 rw[h];exact(fP.cons (.refl _) (.cons (.refl _) (.cons (.refl _) (.cons (.refl _) (.cons (.refl _) (.cons (.refl _) (.cons (eD _) (.cons (.refl _) (.cons (eD _) .nil))))))))).less
theorem ie2{x:au}{n:Nat}{k N:Int}{tr nm:List UInt8}{ty:ak}{args:List au}(h:x=.mk k tr nm N ty args []):Less (.agg [.d (.i .i64 k),.d (.s tr),.d (.s nm),.d (.i .i64 N),.d (.i .i64 ty.aN),.d (.s ty.fName),.d (.ol n (lt ty.fArgs (n+1))),.d (.ol (n+(gG ty.fArgs+1)) (lE args (n+(gG ty.fArgs+1)+1))),.bH []]) (x.vl n):=by
 rw[h];exact(fP.cons (.refl _) (.cons (.refl _) (.cons (.refl _) (.cons (.refl _) (.cons (.refl _) (.cons (.refl _) (.cons (.refl _) (.cons (.refl _) (.cons (eD _) .nil))))))))).less
theorem ie3{x:au}{n:Nat}{k N:Int}{tr nm:List UInt8}{args:List au}{arms:List bq}(h:x=.mk k tr nm N jB args arms):Less (.agg [.d (.i .i64 k),.d (.s tr),.d (.s nm),.d (.i .i64 N),.d (.i .i64 0),.d (.s []),.bH [],.d (.ol (n+1) (lE args (n+1+1))),.d (.ol (n+1+(l7 args+1)) (lM arms (n+1+(l7 args+1)+1)))]) (x.vl n):=by
 rw[h];exact(fP.cons (.refl _) (.cons (.refl _) (.cons (.refl _) (.cons (.refl _) (.cons (.refl _) (.cons (.refl _) (.cons (eD _) (.cons (.refl _) (.cons (.refl _) .nil))))))))).less
theorem se0{x:au}{k N:Int}{tr nm:List UInt8}(h:x=.mk k tr nm N jB [] []):Less (.agg [.d (.i .i64 k),.d (.s tr),.d (.s nm),.d (.i .i64 N),.d (.i .i64 0),.d (.s []),.bH [],.bH [],.bH []]) x.v:=by
 rw[h];exact(fP.cons (.refl _) (.cons (.refl _) (.cons (.refl _) (.cons (.refl _) (.cons (.refl _) (.cons (.refl _) (.cons (fJ _) (.cons (fJ _) (.cons (fJ _) .nil))))))))).less
theorem se1{x:au}{k N:Int}{tr nm:List UInt8}{args:List au}(h:x=.mk k tr nm N jB args []):Less (.agg [.d (.i .i64 k),.d (.s tr),.d (.s nm),.d (.i .i64 N),.d (.i .i64 0),.d (.s []),.bH [],.d (.sl (args.map au.enc)),.bH []]) x.v:=by
 rw[h];exact(fP.cons (.refl _) (.cons (.refl _) (.cons (.refl _) (.cons (.refl _) (.cons (.refl _) (.cons (.refl _) (.cons (fJ _) (.cons (.refl _) (.cons (fJ _) .nil))))))))).less
theorem se2{x:au}{k N:Int}{tr nm:List UInt8}{ty:ak}{args:List au}(h:x=.mk k tr nm N ty args []):Less (.agg [.d (.i .i64 k),.d (.s tr),.d (.s nm),.d (.i .i64 N),.d (.i .i64 ty.aN),.d (.s ty.fName),.d (.sl (ty.fArgs.map ak.enc)),.d (.sl (args.map au.enc)),.bH []]) x.v:=by
 rw[h];exact(fP.cons (.refl _) (.cons (.refl _) (.cons (.refl _) (.cons (.refl _) (.cons (.refl _) (.cons (.refl _) (.cons (.refl _) (.cons (.refl _) (.cons (fJ _) .nil))))))))).less
theorem se3{x:au}{k N:Int}{tr nm:List UInt8}{args:List au}{arms:List bq}(h:x=.mk k tr nm N jB args arms):Less (.agg [.d (.i .i64 k),.d (.s tr),.d (.s nm),.d (.i .i64 N),.d (.i .i64 0),.d (.s []),.bH [],.d (.sl (args.map au.enc)),.d (.sl (arms.map bq.enc))]) x.v:=by
 rw[h];exact(fP.cons (.refl _) (.cons (.refl _) (.cons (.refl _) (.cons (.refl _) (.cons (.refl _) (.cons (.refl _) (.cons (fJ _) (.cons (.refl _) (.cons (.refl _) .nil))))))))).less
theorem ab9(l:List ah)(i:Nat):((l.map ah.enc).take l.length).drop (min i l.length)=(l.drop i).map ah.enc:=by
 rw[pJ _ _ _ (ax _)];by_cases h:i<=l.length
 ·rw[gj h]
 ·rw[Nat.min_eq_right gA,cy,cA gA]
theorem apM(l:List ah):((l.map ah.enc).take (min 2 l.length)).drop 1=((l.drop 1).take 1).map ah.enc:=by
 match l with
 |[]=>rfl
 |[x]=>rfl
 |x::y::l=>simp[show min 2 (l.length+1+1)=2 by omega]
theorem af9(l:List ah)(i:Nat)(h:i<l.length+3):(l.map ah.enc++([[.s [],.sl []],[.s [],.sl []],[.s [],.sl []]]:List (List D))).getD i []=[.s (dU l i),.sl ((l.getD i cZ).aj.map ah.enc)]:=by
 rw[cz,List.getElem?_append];split
 ·rename_i hi;rw[ab] at hi;rw[bE,am hi];simp only[dC,dq];rw[ah.aC,j4 hi,cz,am hi];rfl
 ·rename_i hi;rw[ab] at hi;rw[J4 gA,cz,cn (by omega:l.length<=i),ab]
  have:i-l.length=0\/i-l.length=1\/i-l.length=2:=gA
  rcases this with e|e|e<;>rw[e]<;>rfl
theorem Wx(l:List ah)(h:2<=l.length):((l.map ah.enc).take ((l.length:Int)-1).toNat).drop 1=((l.drop 1).dropLast).map ah.enc:=by
 rw[show((l.length:Int)-1).toNat=l.length-1 by omega,<-ee,<-dt,List.dropLast_eq_take,bk,List.drop_take]
theorem wV(x:ah)(i:Nat){m:Nat}(h:x.sz<=m):(x.aj.getD i cZ).sz<=m:=by
 have:=yY x.aj i;have:=eZ x;omega
theorem y5{l:List ah}(h:jo l=true){t:ah}(ht:t∈l):iG t=true:=Fy.1 h t ht
theorem uV{l:List ah}(h:jo l=true)(i:Nat):jo (l.drop i)=true:=Fy.2 fun t ht=>y5 h (cJ ht)
theorem ajd{l:List ah}(h:jo l=true)(i:Nat):jo (l.take i)=true:=Fy.2 fun t ht=>y5 h (eA ht)
theorem Jk{α:Type}[SizeOf α]:∀(i:Nat)(l:List α),SizeOf.sizeOf (l.take i)<=SizeOf.sizeOf l
 |0,[]=>by simp
 |0,x::l=>by rw[cE];simp only[fS,List.nil.sizeOf_spec];omega
 |i+1,[]=>by simp
 |i+1,x::l=>by
  have:=Jk i l;rw[eL];simp only[fS];omega
theorem aga(n:Int):aD prog 119 [.c (.d (.i .i64 n))] (.agg [.d (.i .i64 1),.d (.s []),.d (.s []),.d (.i .i64 n),.d (.i .i64 0),.d (.s []),.bH [],.bH [],.bH []]):=fun S=>by
 refine zcx [.cell 2 83] func119 ntmps119 ?_;exact Z1
theorem acd(s:List UInt8):aD prog 118 [.c (.d (.s s))] (.agg [.d (.i .i64 3),.d (.s []),.d (.s s),.d (.i .i64 0),.d (.i .i64 0),.d (.s []),.bH [],.bH [],.bH []]):=fun S=>by
 refine zcx [.cell 2 83] func118 ntmps118 ?_;exact Z1
theorem Nz:∀N:Nat,(∀x:ah,SizeOf.sizeOf x<N->x.sz<=4194304->aD prog 140 [x.v] (fA false x).v)/\
 (∀xs:List ah,SizeOf.sizeOf xs<N->xs.length<=4194304->(∀t∈xs,t.sz<=4194304)->aD prog 191 [.c (.d (.sl (xs.map ah.enc)))] (.c (.d (.sl ((xs.map (fA false)).map au.enc)))))/\
 (∀x:ah,SizeOf.sizeOf x<N->x.sz<=4194304->aD prog 192 [x.v] (tY false x).v)
 |0=>⟨fun x h=>gA,fun x h=>gA,fun x h=>gA⟩
 |N+1=>by
  obtain⟨ih,qm,ihM⟩:=Nz N;refine⟨fun x hn hsz=>aD.of_le fun S=> ?_,fun xs hn hlen hsz S=> ?_,fun x hn hsz=>aD.of_le fun S=> ?_⟩
  ·have kL:=ah.vO x;have h1:=eZ x;have h2:=C9 x
   have hall:∀t∈x.aj,t.sz<=4194304:=fun t ht=>by have:=gY ht;omega
   have hr:=gK (l:=x.aj);have hso:=fun i=>Dz i x.aj
   have hdl:∀i,(x.aj.drop i).length<=4194304:=fun i=>by rw[bk];omega
   have hda:∀i,∀t∈x.aj.drop i,t.sz<=4194304:=fun i t ht=>hall t (cJ ht)
   have hg:zV false x.aj:=fun e=>by cases e.1
   refine zcx [.cell 2 83] func140 ntmps140 ?_;refine W1 ?_;refine S0 (fun hb h=>?_) fun hb h=>?_
   ·have hne:=h;refine bn (Tv x.aI gA) ?_
    cases Ee:iH x.aI with
    |some m=>
     simp -implicitDefEqProofs (disch:=omega) only[go_sem,dq,Option.isSome_some];refine C1 (aga m) ?_;exact se0 (aaq hne Ee)
    |none=>
     simp -implicitDefEqProofs (disch:=omega) only[go_sem,Option.getD_none,gt];refine S0 (fun hb h=>?_) fun hb h=>?_
     ·exact se0 (Ww hne Ee h)
     have k1:=h;refine S0 (fun hb h=>?_) fun hb h=>?_
     ·exact se0 (TB hne Ee k1 h)
     have k2:=h;refine C1 (acd _) ?_;exact se0 (aar hne Ee k1 k2)
   have ha:=h;have l0:=af9 x.aj 0 gA;have l1:=af9 x.aj 1 gA;have l2:=af9 x.aj 2 gA
   have hm1:min (1:Int) (x.aj.length:Int)=((min 1 x.aj.length:Nat):Int):=gA
   have hm2:min (2:Int) (x.aj.length:Int)=((min 2 x.aj.length:Nat):Int):=gA
   have hm3:min (3:Int) (x.aj.length:Int)=((min 3 x.aj.length:Nat):Int):=gA
   have hd:=fun i=>ab9 x.aj i;have hdd:=pJ x.aj x.aj.length 1 (ax _);refine W1l ?_;refine W3 ?_;refine Vl (fun hb h=>?_) fun hb h=>?_
   ·refine bn (wT _ _) ?_;rw[hm2];refine W1 ?_;refine⟨⟨gA,gA,gA,hr⟩,?_⟩;rw[hd];refine C1 (qm (x.aj.drop 2) (by have:=hso 2;omega) (hdl 2) (hda 2)) ?_;exact se1 (Wq ha hg h)
   have agb:=h;refine Vl (fun hb h=>?_) fun hb h=>?_
   ·refine bn (wT _ _) ?_;rw[hm3];refine W1 ?_;refine⟨⟨gA,gA,gA,hr⟩,?_⟩;rw[hd];refine C1 (qm (x.aj.drop 3) (by have:=hso 3;omega) (hdl 3) (hda 3)) ?_;exact se1 (Pv ha hg h)
   have Oz:=h;refine Vl (fun hb h=>?_) fun hb h=>?_
   ·refine bn (wT _ _) ?_;rw[hm2];refine W1 ?_;refine⟨⟨gA,gA,gA,hr⟩,?_⟩;rw[hd];refine C1 (qm (x.aj.drop 2) (by have:=hso 2;omega) (hdl 2) (hda 2)) ?_;exact se1 (aan ha hg h)
   have nNew:=h;refine Vl (fun hb h=>?_) fun hb h=>?_
   ·refine bn (wT _ _) ?_;rw[hm2];refine W1 ?_;refine⟨⟨gA,gA,gA,hr⟩,?_⟩;rw[hd];refine C1 (qm (x.aj.drop 2) (by have:=hso 2;omega) (hdl 2) (hda 2)) ?_;exact se1 (aao ha hg h)
   have amT:=h;refine Vl (fun hb h=>?_) fun hb h=>?_
   ·have hpos:0<x.aj.length:=by
     rcases fx x.aj.length with e|e
     ·rw[J4 gA] at h;cases h
     ·exact e
    refine⟨⟨gA,gA,hr⟩,?_⟩;rw[hdd];refine C1 (qm (x.aj.drop 1) (by have:=hso 1;omega) (hdl 1) (hda 1)) ?_;exact se1 (adf ha hg h)
   have nIf:=h;refine Vl (fun hb h=>?_) fun hb h=>?_
   ·refine bn (wT _ _) ?_;rw[hm2];refine W1 ?_;refine⟨⟨gA,gA,gA,hr⟩,?_⟩;rw[hd];refine C1 (qm (x.aj.drop 2) (by have:=hso 2;omega) (hdl 2) (hda 2)) ?_;exact se1 (Ws ha hg h)
   have agc:=h;refine Vl (fun hb h=>?_) fun hb h=>?_
   ·refine C1 (qX (x.aj.getD 1 cZ) (wV x 1 hsz)) ?_;refine bn (wT _ _) ?_;rw[hm2];refine W1 ?_;refine⟨⟨gA,gA,gA,hr⟩,?_⟩;rw[hd];refine C1 (qm (x.aj.drop 2) (by have:=hso 2;omega) (hdl 2) (hda 2)) ?_;exact se2 (aap ha hg h)
   have nThe:=h;refine Vl (fun hb h=>?_) fun hb h=>?_
   ·have hpos:0<x.aj.length:=by
     rcases fx x.aj.length with e|e
     ·rw[J4 gA] at h;cases h
     ·exact e
    have hdec:=Wt ha hg h;refine bn (wT _ _) ?_;rw[hm2];refine W1 ?_;refine⟨⟨gA,gA,hr⟩,?_⟩;rw[apM];refine C1 (qm ((x.aj.drop 1).take 1) (by have:=hso 1;have:=Jk 1 (x.aj.drop 1);omega) (by rw[cj];omega) (fun t ht=>hda 1 t (eA ht))) ?_;obtain⟨Bu,agd⟩:∃Bu,Bu=((x.aj.drop 1).take 1).map (fA false):=⟨_,rfl⟩;obtain⟨T,hT⟩:∃T:Nat->List (List D),T=fun k=>(((x.aj.drop 2).map (tY false)).take k).map bq.enc:=⟨_,rfl⟩
    have hT0:T 0=[]:=by rw[hT];rfl
    have fZ:∀k,(T k).length<=k:=fun k=>by rw[hT];simp only[ab];exact bi _ _
    have hTs:∀k (hk:k+2<x.aj.length),T k++[(tY false x.aj[k+2]).enc]=T (k+1):=fun k hk=>by
     have:=ajc (l:=(x.aj.drop 2).map (tY false)) (i:=k) (by rw[ab,bk];omega);rw[bp,List.getElem_drop] at this;rw[hT];simp only[eq 2 k] at this ⊢;exact this
    have hTe:T (x.aj.length-2)=((x.aj.drop 2).map (tY false)).map bq.enc:=by
     rw[hT];simp only
     rw[aE gL]
    clear hT;rw[<-agd] at hdec ⊢;refine kJ 3 8 11 _ rfl rfl ?_
    refine aZ (ι:=Nat) zmx rfl [1,2,6,8,9] (fun k=>[.c (.ptr (0,0) 0),.c (.ptr (0,1) 0),.c (.d (.i .i64 x.aj.length)),.c (.ptr (0,3) 0),.c (.d (.i .i64 ((k+2:Nat):Int)))])
     (fun k=>[.box [.d (.s x.aI),.d (.sl (x.aj.map ah.enc))],.box [.d (.i .i64 0),.d (.s []),.d (.s []),.d (.i .i64 0),.d (.i .i64 0),.d (.s []),.bH [],.bH [],.bH []],.tok 2 (x.aj.map ah.enc++[[.s [],.sl []],[.s [],.sl []],[.s [],.sl []]]),
       .box [.d (.i .i64 7),.d (.s []),.d (.s []),.d (.i .i64 0),.d (.i .i64 0),.d (.s []),.bH [],.d (.sl (Bu.map au.enc)),.bJ (0,4) (T k)],.tok 11 (T k)]::S)
     (fun k=>k<=x.aj.length-2) (fun k=>x.aj.length-(k+2)) 0 rfl (by rw[hT0];rfl) (an _) ?_
    intro k hk;have hlk:=fZ k;clear l0 l1 l2;refine W1 ?_;refine S0 (fun hb h=>?_) fun hb h=>?_
    ·have hk':k+2<x.aj.length:=gA
     have hm:=ac hk';have hs:=hTs k hk';simp only[bq.aC,au.aC,ak.aC,ba,bc] at hs;refine W3 ?_;refine C1 (ihM x.aj[k+2] (by have:=bh hm;omega) (hall _ hm)) ?_;refine W3 ?_;rw[hs];exact dH (k+1) gA rfl rfl gA
    ·have hk':k=x.aj.length-2:=gA
     subst hk';rw[hTe];exact se3 hdec
   have agf:=h;refine bn (wT _ _) ?_;rw[hm1];refine W1 ?_;refine⟨⟨gA,gA,gA,hr⟩,?_⟩;rw[hd];refine C1 (qm (x.aj.drop 1) (by have:=hso 1;omega) (hdl 1) (hda 1)) ?_;exact se1 (Wu ha hg agb nNew amT agc Oz nIf nThe agf)
  ·have FB:=fun(i:Nat) (hi:i<xs.length)=>ajb (l:=xs.map (fA false)) (i:=i) hJ;refine zcx [.tmp 2] func191 ntmps191 ?_;refine W1 ?_;refine W3 ?_;refine nu 3 9 [] rfl gL ?_
   refine aZ (ι:=Nat) zmx rfl [0,3,4] (fun i=>[.c (.d (.sl (xs.map ah.enc))),.c (.bJ (0,0) (((xs.map (fA false)).take i).map au.enc)),.c (.d (.i .i64 i))]) (fun i=>[.tok 9 (((xs.map (fA false)).take i).map au.enc)]::S)
    (fun i=>i<=xs.length) (fun i=>xs.length-i) 0 rfl rfl (an _) ?_
   intro i hi
   have hl:(((xs.map (fA false)).take i).map au.enc).length<=i:=by rw[ab];exact bi _ _
   refine W1 ?_;refine S0 (fun hb h=>?_) fun hb h=>?_
   ·have hi':i<xs.length:=gA
    have hs:=FB i hi';rw[bp] at hs;simp only[au.aC,ak.aC,ba,bc] at hs;refine W3 ?_;refine C1 (ih xs[i] (by have:=bh (ac hi');omega) (hsz _ (ac hi'))) ?_;refine W3 ?_;rw[hs];exact dH (i+1) gA rfl rfl gA
   ·have hi':i=(xs.map (fA false)).length:=by rw[ab];omega
    rw[hi',ch]
  ·have kL:=ah.vO x;have h1:=eZ x
   have hall:∀t∈x.aj,t.sz<=4194304:=fun t ht=>by have:=gY ht;omega
   have hr:=gK (l:=x.aj);refine zcx [.cell 2 199] func192 ntmps192 ?_;refine W1 ?_;refine S0 (fun hb h=>?_) fun hb h=>?_
   ·rw[ade false x gA];exact(fP.cons (.refl _) (.cons (fJ _) (.cons (.refl _) (.cons (.refl _) (.cons (.refl _) (.cons (.refl _) (.cons (.refl _) (.cons (.refl _) (.cons (fJ _) (.cons (fJ _) (.cons (fJ _) .nil))))))))))).less
   have hl2:2<=x.aj.length:=gA
   have a0:=j4 (l:=x.aj) (i:=0) gA;have hm:=ac (l:=x.aj) (n:=x.aj.length-1) gA;rw[adb false x hl2,a0];refine⟨⟨gA,gA,hr⟩,?_⟩;rw[Wx _ hl2];refine C1 (Ho ((x.aj.drop 1).dropLast) (by rw[List.length_dropLast,bk];omega)) ?_;refine W3 ?_
   have el:((x.aj.length:Int)-1).toNat=x.aj.length-1:=gA
   simp only[el];refine C1 (ih (x.aj[x.aj.length-1]) (by have:=bh hm;omega) (hall _ hm)) ?_;exact gV _
theorem Jl(x:ah)(hsz:x.sz<=4194304):aD prog 140 [x.v] (fA false x).v:=(Nz _).1 x (cg _) hsz
end Go.Ab
namespace Go.Proofs
open Go.Shelf
def Tryz.lays172_ren:Go.Shelf.Ren:=⟨fun|172=>247|244=>260|245=>261|247=>265|279=>266|280=>267|281=>268|282=>269|287=>275|316=>276|171=>219|205=>277|321=>284|322=>285|243=>248|246=>262|283=>270|284=>271|285=>272|286=>273|129=>279|317=>278|318=>280|319=>281|320=>282|337=>286|338=>287|n=>n,fun|9=>9|3=>3|75=>180|76=>181|4=>4|5=>5|167=>253|37=>22|0=>0|85=>254|2=>2|168=>256|53=>260|175=>266|46=>202|210=>270|127=>184|145=>282|143=>280|21=>21|171=>259|173=>263|212=>274|51=>275|20=>20|213=>276|232=>284|233=>285|80=>129|n=>n,fun|15=>1|16=>2|17=>3|18=>4|19=>5|n=>n⟩
theorem Tryz.lays172:Go.Proofs.Lays.n172 prog Tryz.lays172_ren:={
 mixed:=by kernel_rfl
 f129:=func279.trans (congrArg some (by kernel_rfl))
 f171:=func219.trans (congrArg some (by kernel_rfl))
 f172:=func247.trans (congrArg some (by kernel_rfl))
 f205:=func277.trans (congrArg some (by kernel_rfl))
 f243:=func248.trans (congrArg some (by kernel_rfl))
 f244:=func260.trans (congrArg some (by kernel_rfl))
 f245:=func261.trans (congrArg some (by kernel_rfl))
 f246:=func262.trans (congrArg some (by kernel_rfl))
 f247:=func265.trans (congrArg some (by kernel_rfl))
 f279:=func266.trans (congrArg some (by kernel_rfl))
 f280:=func267.trans (congrArg some (by kernel_rfl))
 f281:=func268.trans (congrArg some (by kernel_rfl))
 f282:=func269.trans (congrArg some (by kernel_rfl))
 f283:=func270.trans (congrArg some (by kernel_rfl))
 f284:=func271.trans (congrArg some (by kernel_rfl))
 f285:=func272.trans (congrArg some (by kernel_rfl))
 f286:=func273.trans (congrArg some (by kernel_rfl))
 f287:=func275.trans (congrArg some (by kernel_rfl))
 f316:=func276.trans (congrArg some (by kernel_rfl))
 f317:=func278.trans (congrArg some (by kernel_rfl))
 f318:=func280.trans (congrArg some (by kernel_rfl))
 f319:=func281.trans (congrArg some (by kernel_rfl))
 f320:=func282.trans (congrArg some (by kernel_rfl))
 f321:=func284.trans (congrArg some (by kernel_rfl))
 f322:=func285.trans (congrArg some (by kernel_rfl))
 f337:=func286.trans (congrArg some (by kernel_rfl))
 f338:=func287.trans (congrArg some (by kernel_rfl))
 t0:=underlying0
 a0:=Tryz.isAgg0
 z0:=Tryz.sizeOf0
 v0:=Tryz.zeroValue0
 t2:=underlying2
 a2:=Tryz.isAgg2
 z2:=Tryz.sizeOf2
 v2:=Tryz.zeroValue2
 t3:=underlying3
 a3:=Tryz.isAgg3
 z3:=Tryz.sizeOf3
 v3:=Tryz.zeroValue3
 t4:=underlying4
 a4:=Tryz.isAgg4
 z4:=Tryz.sizeOf4
 v4:=Tryz.zeroValue4
 t5:=underlying5
 a5:=Tryz.isAgg5
 z5:=Tryz.sizeOf5
 v5:=Tryz.zeroValue5
 t9:=underlying9
 a9:=Tryz.isAgg9
 z9:=Tryz.sizeOf9
 v9:=Tryz.zeroValue9
 t20:=underlying20
 a20:=Tryz.isAgg20
 z20:=Tryz.sizeOf20
 v20:=Tryz.zeroValue20
 t21:=underlying21
 a21:=Tryz.isAgg21
 z21:=Tryz.sizeOf21
 v21:=Tryz.zeroValue21
 t37:=underlying22
 a37:=Tryz.isAgg22
 z37:=Tryz.sizeOf22
 v37:=Tryz.zeroValue22
 t46:=underlying202
 a46:=Tryz.isAgg202
 z46:=Tryz.sizeOf202
 v46:=Tryz.zeroValue202
 t51:=underlying275
 a51:=Tryz.isAgg275
 z51:=Tryz.sizeOf275
 v51:=Tryz.zeroValue275
 t53:=underlying260
 a53:=Tryz.isAgg260
 z53:=Tryz.sizeOf260
 v53:=Tryz.zeroValue260
 t75:=underlying180
 a75:=Tryz.isAgg180
 z75:=Tryz.sizeOf180
 v75:=Tryz.zeroValue180
 t76:=underlying181
 a76:=Tryz.isAgg181
 z76:=Tryz.sizeOf181
 v76:=Tryz.zeroValue181
 t85:=underlying254
 a85:=Tryz.isAgg254
 z85:=Tryz.sizeOf254
 v85:=Tryz.zeroValue254
 t127:=underlying184
 a127:=Tryz.isAgg184
 z127:=Tryz.sizeOf184
 v127:=Tryz.zeroValue184
 t143:=underlying280
 a143:=Tryz.isAgg280
 z143:=Tryz.sizeOf280
 v143:=Tryz.zeroValue280
 t145:=underlying282
 a145:=Tryz.isAgg282
 z145:=Tryz.sizeOf282
 v145:=Tryz.zeroValue282
 t167:=underlying253
 a167:=Tryz.isAgg253
 z167:=Tryz.sizeOf253
 v167:=Tryz.zeroValue253
 t168:=underlying256
 a168:=Tryz.isAgg256
 z168:=Tryz.sizeOf256
 v168:=Tryz.zeroValue256
 t171:=underlying259
 a171:=Tryz.isAgg259
 z171:=Tryz.sizeOf259
 v171:=Tryz.zeroValue259
 t173:=underlying263
 a173:=Tryz.isAgg263
 z173:=Tryz.sizeOf263
 v173:=Tryz.zeroValue263
 t175:=underlying266
 a175:=Tryz.isAgg266
 z175:=Tryz.sizeOf266
 v175:=Tryz.zeroValue266
 t210:=underlying270
 a210:=Tryz.isAgg270
 z210:=Tryz.sizeOf270
 v210:=Tryz.zeroValue270
 t212:=underlying274
 a212:=Tryz.isAgg274
 z212:=Tryz.sizeOf274
 v212:=Tryz.zeroValue274
 t213:=underlying276
 a213:=Tryz.isAgg276
 z213:=Tryz.sizeOf276
 t232:=underlying284
 a232:=Tryz.isAgg284
 z232:=Tryz.sizeOf284
 v232:=Tryz.zeroValue284
 t233:=underlying285
 a233:=Tryz.isAgg285
 z233:=Tryz.sizeOf285
 v233:=Tryz.zeroValue285
 g15:=by kernel_rfl
 g16:=by kernel_rfl
 g17:=by kernel_rfl
 g18:=by kernel_rfl
 g19:=by kernel_rfl}
open Go.RowKit in
theorem Tryz.strconv_Atoi(s:ByteArray)(n:Int)(hl:s.size<=18)(h:Lib.atoi s.data.toList=some n)(w:World):
 Calls prog 247 #[.string s] w fun e w'=>e=.returned (.tuple #[.int .i64 n,.nilIface])/\∃t,w'=Lib.bytesWorld w 5 t:=Any.strconv_Atoi Tryz.lays172 s n hl h w
def Tryz.laysC172_ren:Go.Shelf.Ren:=⟨fun|172=>247|244=>260|245=>261|247=>265|279=>266|280=>267|281=>268|282=>269|287=>275|316=>276|171=>219|205=>277|321=>284|322=>285|243=>248|246=>262|283=>270|284=>271|285=>272|286=>273|129=>279|317=>278|318=>280|319=>281|320=>282|337=>286|338=>287|n=>n,fun|9=>9|3=>3|75=>180|76=>181|4=>4|5=>5|167=>253|37=>22|0=>0|85=>254|2=>2|168=>256|53=>260|175=>266|46=>202|210=>270|127=>184|145=>282|143=>280|21=>21|171=>259|173=>263|212=>274|51=>275|20=>20|213=>276|232=>284|233=>285|80=>129|n=>n,fun|15=>1|16=>2|17=>3|18=>4|19=>5|n=>n⟩
theorem Tryz.laysC172:Go.Proofs.LaysC.n172 prog Tryz.laysC172_ren:={
 mixed:=by kernel_rfl
 f129:=func279.trans (congrArg some (by kernel_rfl))
 f171:=func219.trans (congrArg some (by kernel_rfl))
 f172:=func247.trans (congrArg some (by kernel_rfl))
 f205:=func277.trans (congrArg some (by kernel_rfl))
 f243:=func248.trans (congrArg some (by kernel_rfl))
 f244:=func260.trans (congrArg some (by kernel_rfl))
 f245:=func261.trans (congrArg some (by kernel_rfl))
 f246:=func262.trans (congrArg some (by kernel_rfl))
 f247:=func265.trans (congrArg some (by kernel_rfl))
 f279:=func266.trans (congrArg some (by kernel_rfl))
 f280:=func267.trans (congrArg some (by kernel_rfl))
 f281:=func268.trans (congrArg some (by kernel_rfl))
 f282:=func269.trans (congrArg some (by kernel_rfl))
 f283:=func270.trans (congrArg some (by kernel_rfl))
 f284:=func271.trans (congrArg some (by kernel_rfl))
 f285:=func272.trans (congrArg some (by kernel_rfl))
 f286:=func273.trans (congrArg some (by kernel_rfl))
 f287:=func275.trans (congrArg some (by kernel_rfl))
 f316:=func276.trans (congrArg some (by kernel_rfl))
 f317:=func278.trans (congrArg some (by kernel_rfl))
 f318:=func280.trans (congrArg some (by kernel_rfl))
 f319:=func281.trans (congrArg some (by kernel_rfl))
 f320:=func282.trans (congrArg some (by kernel_rfl))
 f321:=func284.trans (congrArg some (by kernel_rfl))
 f322:=func285.trans (congrArg some (by kernel_rfl))
 f337:=func286.trans (congrArg some (by kernel_rfl))
 f338:=func287.trans (congrArg some (by kernel_rfl))
 t0:=underlying0
 a0:=Tryz.isAgg0
 z0:=Tryz.sizeOf0
 v0:=Tryz.zeroValue0
 t2:=underlying2
 a2:=Tryz.isAgg2
 z2:=Tryz.sizeOf2
 v2:=Tryz.zeroValue2
 t3:=underlying3
 a3:=Tryz.isAgg3
 z3:=Tryz.sizeOf3
 v3:=Tryz.zeroValue3
 t4:=underlying4
 a4:=Tryz.isAgg4
 z4:=Tryz.sizeOf4
 v4:=Tryz.zeroValue4
 t5:=underlying5
 a5:=Tryz.isAgg5
 z5:=Tryz.sizeOf5
 v5:=Tryz.zeroValue5
 t9:=underlying9
 a9:=Tryz.isAgg9
 z9:=Tryz.sizeOf9
 v9:=Tryz.zeroValue9
 t20:=underlying20
 a20:=Tryz.isAgg20
 z20:=Tryz.sizeOf20
 v20:=Tryz.zeroValue20
 t21:=underlying21
 a21:=Tryz.isAgg21
 z21:=Tryz.sizeOf21
 v21:=Tryz.zeroValue21
 t37:=underlying22
 a37:=Tryz.isAgg22
 z37:=Tryz.sizeOf22
 v37:=Tryz.zeroValue22
 t46:=underlying202
 a46:=Tryz.isAgg202
 z46:=Tryz.sizeOf202
 v46:=Tryz.zeroValue202
 t51:=underlying275
 a51:=Tryz.isAgg275
 z51:=Tryz.sizeOf275
 v51:=Tryz.zeroValue275
 t53:=underlying260
 a53:=Tryz.isAgg260
 z53:=Tryz.sizeOf260
 v53:=Tryz.zeroValue260
 t75:=underlying180
 a75:=Tryz.isAgg180
 z75:=Tryz.sizeOf180
 v75:=Tryz.zeroValue180
 t76:=underlying181
 a76:=Tryz.isAgg181
 z76:=Tryz.sizeOf181
 v76:=Tryz.zeroValue181
 t85:=underlying254
 a85:=Tryz.isAgg254
 z85:=Tryz.sizeOf254
 v85:=Tryz.zeroValue254
 t127:=underlying184
 a127:=Tryz.isAgg184
 z127:=Tryz.sizeOf184
 v127:=Tryz.zeroValue184
 t143:=underlying280
 a143:=Tryz.isAgg280
 z143:=Tryz.sizeOf280
 v143:=Tryz.zeroValue280
 t145:=underlying282
 a145:=Tryz.isAgg282
 z145:=Tryz.sizeOf282
 v145:=Tryz.zeroValue282
 t167:=underlying253
 a167:=Tryz.isAgg253
 z167:=Tryz.sizeOf253
 v167:=Tryz.zeroValue253
 t168:=underlying256
 a168:=Tryz.isAgg256
 z168:=Tryz.sizeOf256
 v168:=Tryz.zeroValue256
 t171:=underlying259
 a171:=Tryz.isAgg259
 z171:=Tryz.sizeOf259
 v171:=Tryz.zeroValue259
 t173:=underlying263
 a173:=Tryz.isAgg263
 z173:=Tryz.sizeOf263
 v173:=Tryz.zeroValue263
 t175:=underlying266
 a175:=Tryz.isAgg266
 z175:=Tryz.sizeOf266
 v175:=Tryz.zeroValue266
 t210:=underlying270
 a210:=Tryz.isAgg270
 z210:=Tryz.sizeOf270
 v210:=Tryz.zeroValue270
 t212:=underlying274
 a212:=Tryz.isAgg274
 z212:=Tryz.sizeOf274
 v212:=Tryz.zeroValue274
 t213:=underlying276
 a213:=Tryz.isAgg276
 z213:=Tryz.sizeOf276
 t232:=underlying284
 a232:=Tryz.isAgg284
 z232:=Tryz.sizeOf284
 v232:=Tryz.zeroValue284
 t233:=underlying285
 a233:=Tryz.isAgg285
 z233:=Tryz.sizeOf285
 v233:=Tryz.zeroValue285
 g15:=by kernel_rfl
 g16:=by kernel_rfl
 g17:=by kernel_rfl
 g18:=by kernel_rfl
 g19:=by kernel_rfl
 t80:=underlying129
 a80:=Tryz.isAgg129
 z80:=Tryz.sizeOf129
 v80:=Tryz.zeroValue129
 i0:=by kernel_rfl
 i2:=by kernel_rfl
 i3:=by kernel_rfl
 i4:=by kernel_rfl
 i5:=by kernel_rfl
 i9:=by kernel_rfl
 i20:=by kernel_rfl
 i21:=by kernel_rfl
 i37:=by kernel_rfl
 i46:=by kernel_rfl
 i51:=by kernel_rfl
 i53:=by kernel_rfl
 i75:=by kernel_rfl
 i76:=by kernel_rfl
 i80:=by kernel_rfl
 i85:=by kernel_rfl
 i127:=by kernel_rfl
 i143:=by kernel_rfl
 i145:=by kernel_rfl
 i167:=by kernel_rfl
 i168:=by kernel_rfl
 i171:=by kernel_rfl
 i173:=by kernel_rfl
 i175:=by kernel_rfl
 i210:=by kernel_rfl
 i212:=by kernel_rfl
 i232:=by kernel_rfl
 i233:=by kernel_rfl
 m15:=by kernel_rfl
 m16:=by kernel_rfl
 m17:=by kernel_rfl
 m18:=by kernel_rfl
 m19:=by kernel_rfl
 c0:=by kernel_rfl
 c2:=by kernel_rfl
 c3:=by kernel_rfl
 c4:=by kernel_rfl
 c5:=by kernel_rfl
 c9:=by kernel_rfl
 c20:=by kernel_rfl
 c21:=by kernel_rfl
 c37:=by kernel_rfl
 c46:=by kernel_rfl
 c51:=by kernel_rfl
 c53:=by kernel_rfl
 c75:=by kernel_rfl
 c76:=by kernel_rfl
 c80:=by kernel_rfl
 c85:=by kernel_rfl
 c127:=by kernel_rfl
 c143:=by kernel_rfl
 c145:=by kernel_rfl
 c167:=by kernel_rfl
 c168:=by kernel_rfl
 c171:=by kernel_rfl
 c173:=by kernel_rfl
 c175:=by kernel_rfl
 c210:=by kernel_rfl
 c212:=by kernel_rfl
 c213:=by kernel_rfl
 c232:=by kernel_rfl
 c233:=by kernel_rfl}
open Go.RowKit in
theorem Tryz.strconv_Atoi_err_var(s:ByteArray)(hl:s.size<=18)(h:Lib.atoi s.data.toList=none)(tp:TypeId)(p:Value)(w:World)(hvar:w.var? prog "strconv.ErrSyntax" =some #[.iface tp p]):
 Calls prog 247 #[.string s] w fun e w'=>∃N,e=.returned (.tuple #[.int .i64 0,.iface 256 (.pointer (some ⟨N,0,none⟩))])/\w.heap.size<=N/\w'.heap[N]? =some (.cells #[.string ⟨#[65,116,111,105]⟩,.string s,.iface tp p] 270 (0,0))/\Below w.heap.size w w':=Any.strconv_Atoi_err_var Tryz.laysC172 s hl h tp p w hvar
end Go.Proofs
namespace Go.Ab
theorem Xg{w w':World}{σ:Nat->Nat}(hl:∀b,b<w.heap.size\/σ b=0)(h:Go.RowKit.Below w.heap.size w w'):Grow w σ w' σ:=
 ⟨h.size,h.os,h.output,fun b hb=>⟨h.block b hb,rfl⟩,fun b=>(hl b).elim (fun x=>.inl (df x h.size)) .inr⟩
theorem aje{x y z:V}{vs:List Value}{w:World}{σ:Nat->Nat}{S:Store}{β:Hs}(h:pO w σ S β [x,y,z] vs):∃u v t,vs=[u,v,t]/\dR w σ S β x u/\dR w σ S β y v/\dR w σ S β z t:=by
 obtain⟨hl,h⟩:=h;obtain⟨u,e0,h0⟩:=h 0 x rfl;obtain⟨v,e1,h1⟩:=h 1 y rfl;obtain⟨t,e2,h2⟩:=h 2 z rfl
 match vs,hl,e0,e1,e2 with
 |[a,b,c],_,e0,e1,e2=>simp at e0 e1 e2;subst e0;subst e1;subst e2;exact⟨_,_,_,rfl,h0,h1,h2⟩
theorem agh(n:Int)(h0: -9223372036854775808<=n)(h1:n<=9223372036854775807)(w:World)(htab:Lib.TabIs prog w "internal/strconv.uint64pow10" .u64 Lib.pow10Tab):
 Calls prog 219 #[.int .i64 n] w fun e w'=>e=.returned (.string ⟨(Lib.itoa n).toArray⟩)/\Go.RowKit.Below w.heap.size w w':=
 (Tryz.strconv_Itoa n h0 h1 w htab).mono fun e w' ⟨he,k,os,hw⟩=>⟨he,by
   subst hw
   exact⟨rfl,rfl,rfl,by show w.heap.size<=(w.heap++os).size;simp,fun b hb=>by show(w.heap++os)[b]? =_;rw[cU hb]⟩⟩
theorem ace(s:List UInt8)(hs:s.length<=18)(tp:TypeId)(p:Value)(w:World)(htab:Lib.TabIs prog w "internal/strconv.uint64pow10" .u64 Lib.pow10Tab)(hvar:w.var? prog "strconv.ErrSyntax" =some #[.iface tp p]):
 Calls prog 217 #[.string ⟨s.toArray⟩,.int .i64 (-999999999999),.int .i64 999999999999] w fun e w'=>e=.returned (.tuple #[.int .i64 ((iH s).getD 0),.bool (iH s).isSome])/\Go.RowKit.Below w.heap.size w w':=by
 have hsz:(⟨s.toArray⟩:ByteArray).size<=18:=by show s.toArray.size<=18;simpa using hs
 cases h:Lib.atoi s with
 |none=>
  have hc:=Tryz.strconv_Atoi_err_var ⟨s.toArray⟩ hsz (by simpa using h) tp p w hvar
  have Ee:iH s=none:=by unfold iH;rw[h]
  rw[Ee];clear hsz
  go_enter func217,ntmps217
  go_wp2_with (go_at_call 247;refine hc.mono ?_;rintro e W1 ⟨N,rfl,-,-,hb⟩)
  go_ret2
  exact⟨rfl,hb⟩
 |some n=>
  have hbd:=Lib.atoi_bound h hs;have hc:=Tryz.strconv_Atoi ⟨s.toArray⟩ n hsz (by simpa using h) w
  have Ee:iH s=if(-999999999999<=n/\n<=999999999999)/\Lib.itoa n=s then some n else none:=by unfold iH;rw[h]
  have hc':Calls prog 247 #[.string ⟨s.toArray⟩] w fun e w'=>e=.returned (.tuple #[.int .i64 n,.nilIface])/\Go.RowKit.Below w.heap.size w w':=hc.mono fun e w' ⟨he,t,hw⟩=>⟨he,by rw[hw];exact Lib.bytesWorld_below _ _ _⟩
  have hi:∀W1,Go.RowKit.Below w.heap.size w W1->Calls prog 219 #[.int .i64 n] W1 fun e w'=>e=.returned (.string ⟨(Lib.itoa n).toArray⟩)/\Go.RowKit.Below w.heap.size w w':=fun W1 hw=>
   (agh n gA gA _ ((Lib.tabBelow_of_tabIs htab).on hw).here).mono fun e w' ⟨he,hb⟩=>⟨he,hw.trans (hb.mono hw.size)⟩
  clear hsz h hc
  go_enter func217,ntmps217
  go_wp2_with (first|(go_at_call 247;refine hc'.mono ?_;rintro e W1 ⟨rfl,hb1⟩)|(go_at_call 219;refine(hi _ hb1).mono ?_;rintro e W2 ⟨rfl,hb2⟩))
  all_goals go_ret2
  all_goals first
   |(exfalso;omega)
   |exact⟨rfl,hb2⟩
   |exact⟨rfl,hb1⟩
   |(rw[Ee,if_pos ⟨⟨gA,gA⟩,by simp_all;done⟩];exact⟨rfl,hb2⟩)
   |(rw[Ee,if_neg (by rintro⟨hc,_⟩;omega)];exact⟨rfl,hb1⟩)
   |(rw[Ee,if_neg (by rintro⟨_,hc⟩;simp[hc] at *;omega)];exact⟨rfl,hb2⟩)
   |(rw[Ee,if_neg (by rintro⟨_,hc⟩;simp_all;done)];exact⟨rfl,hb2⟩)
   |trace_state
theorem Xh{w:World}{σ:Nat->Nat}(h:mF w σ):∃tp p,w.var? prog "strconv.ErrSyntax" =some #[.iface tp p]:=by
 obtain⟨c,t,fz,q1,q2,q3⟩:=h 1 (fun l=>∃te pe,l=[Value.iface te pe]) (eC _ (eC _ (ey ..)));obtain⟨te,pe,e⟩:=q2
 have hn:prog.globalNamed "strconv.ErrSyntax" =some 1:=by kernel_rfl
 refine⟨te,pe,?_⟩;unfold World.var?;rw[hn];simp only[dy,q1,cC];exact Array.ext' e
theorem UM(s:List UInt8)(hs:s.length<=18):aD prog 217 [.c (.d (.s s)),.c (.d (.i .i64 (-999999999999))),.c (.d (.i .i64 999999999999))] (.eu [(false,[.d (.i .i64 ((iH s).getD 0))]),(false,[.d (.b (iH s).isSome)])]):=fun S=>by
 refine⟨⟨_,func217,by kernel_rfl,by kernel_rfl⟩,fun w σ β vs hS hv=> ?_⟩;obtain⟨u,v,t,rfl,⟨hu,_⟩,⟨hv,_⟩,⟨ht,_⟩⟩:=aje hv
 have hu0:u=.string ⟨s.toArray⟩:=by cases hu;rfl
 have hv0:v=.int .i64 (-999999999999):=by cases hv;rfl
 have ht0:t=.int .i64 999999999999:=by cases ht;rfl
 subst hu0 hv0 ht0;obtain⟨tp,p,hvar⟩:=Xh hS.vH;refine(ace s hs tp p w (VI hS.vH) hvar).mono fun e w' ⟨he,hb⟩=> ?_;have hg:Grow w σ w' σ:=Xg hS.live hb
 exact⟨_,.eu [(false,[.d (.i .i64 ((iH s).getD 0))]),(false,[.d (.b (iH s).isSome)])],S,σ,β,he,hS.grow hg,Keep.refl _ _,Step.oQ hg,⟨_,rfl,rfl,fun j y hy=>by
  match j,hy with
  |0,hy=>simp at hy;subst hy;exact⟨_,rfl,_,rfl,.i _ _,rfl⟩
  |1,hy=>simp at hy;subst hy;exact⟨_,rfl,_,rfl,.b _,rfl⟩
  |j+2,hy=>simp at hy⟩,rfl,rfl⟩
theorem TD(s:List UInt8)(hs:s.length<=18):aD prog 186 [.c (.d (.s s))] (.eu [(false,[.d (.i .i64 ((iH s).getD 0))]),(false,[.d (.b (iH s).isSome)])]):=fun S=>by
 refine zcx [.tmp 2,.tmp 3] func186 ntmps186 ?_;refine W1 ?_;exact C4 (UM s hs)
theorem FZ{l:List ah}(h2:2<=l.length)(h:dU l 0=jN->3<=l.length):zV true l:=fun e=>by
 rcases e.2 with e|e
 ·omega
 ·have:=h e.1;omega
theorem Wy{x:ah}(h:iG x=true)(ha:x.aI=[]):jo x.aj=true:=by rw[GJ,if_pos ha] at h;exact h
theorem ajf{x:ah}(h:iG x=true)(ha:x.aI≠[]):x.aI.length<=18:=by
 rw[GJ,if_neg ha,ai] at h;have h1:=h.1;unfold validAtom at h1;rw[ai,decide_eq_true_eq] at h1;omega
theorem IJ{x:ah}(h:iG x=true)(ha:x.aj≠[]):jo x.aj=true:=by
 by_cases e:x.aI=[]
 ·exact Wy h e
 ·rw[GJ,if_neg e,ai,decide_eq_true_eq] at h;exact absurd (bz h.2) ha
theorem ma0{x:bq}{n:Nat}(h:x=.mk [] [] mK):Less (.agg [.d (.s []),.bH [],.d (.i .i64 0),.d (.s []),.d (.s []),.d (.i .i64 0),.d (.i .i64 0),.d (.s []),.bH [],.bH [],.bH []]) (x.vl n):=by
 rw[h];exact(fP.cons (.refl _) (.cons (eD _) (.cons (.refl _) (.cons (.refl _) (.cons (.refl _) (.cons (.refl _) (.cons (.refl _) (.cons (.refl _) (.cons (eD _) (.cons (eD _) (.cons (eD _) .nil))))))))))).less
theorem NA:∀N:Nat,(∀x:ah,SizeOf.sizeOf x<N->∀n:Nat,iG x=true->x.sz<=4194304->aD prog 133 [x.v] ((fA true x).vl n))/\
 (∀xs:List ah,SizeOf.sizeOf xs<N->∀n q:Nat,jo xs=true->xs.length<=4194304->(∀t∈xs,t.sz<=4194304)->aD prog 187 [.c (.d (.sl (xs.map ah.enc)))] (.c (.d (.ol n (lE (xs.map (fA true)) q)))))/\
 (∀x:ah,SizeOf.sizeOf x<N->∀n:Nat,iG x=true->x.sz<=4194304->aD prog 188 [x.v] ((tY true x).vl n))
 |0=>⟨fun x h=>gA,fun x h=>gA,fun x h=>gA⟩
 |N+1=>by
  obtain⟨ih,qm,ihM⟩:=NA N;refine⟨fun x hn n hfo hsz=>aD.of_le fun S=> ?_,fun xs hn n q hfo hlen hsz S=> ?_,fun x hn n hfo hsz=>aD.of_le fun S=> ?_⟩
  ·have kL:=ah.vO x;have h1:=eZ x;have h2:=C9 x
   have hall:∀t∈x.aj,t.sz<=4194304:=fun t ht=>by have:=gY ht;omega
   have hr:=gK (l:=x.aj);have hso:=fun i=>Dz i x.aj
   have hdl:∀i,(x.aj.drop i).length<=4194304:=fun i=>by rw[bk];omega
   have hda:∀i,∀t∈x.aj.drop i,t.sz<=4194304:=fun i t ht=>hall t (cJ ht);have hdd:=pJ x.aj x.aj.length 1 (ax _);refine lF (n) (rs:=[.cell 2 83]) zmx func133 ntmps133 rfl rfl rfl rfl rfl ?_;refine W1 ?_;refine S0 (fun hb h=>?_) fun hb h=>?_
   ·have hne:=h;refine bn (TD x.aI (ajf hfo hne)) ?_
    cases Ee:iH x.aI with
    |some m=>
     simp -implicitDefEqProofs (disch:=omega) only[go_sem,dq,Option.isSome_some];exact ie0 (aaq hne Ee)
    |none=>
     simp -implicitDefEqProofs (disch:=omega) only[go_sem,Option.getD_none,gt];refine S0 (fun hb h=>?_) fun hb h=>?_
     ·exact ie0 (Ww hne Ee h)
     have k1:=h;refine S0 (fun hb h=>?_) fun hb h=>?_
     ·exact ie0 (TB hne Ee k1 h)
     have k2:=h;exact ie0 (aar hne Ee k1 k2)
   have ha:=h;have hfs:=Wy hfo ha;refine S0 (fun hb h=>?_) fun hb h=>?_
   ·exact ie0 (Wv ha fun e=>e ⟨rfl,.inl gA⟩)
   have hl2:2<=x.aj.length:=gA
   have a0:=j4 (l:=x.aj) (i:=0) gA;obtain⟨m,hm⟩:∃m,m=x.aj.drop 1:=⟨_,rfl⟩
   have hml:m.length=x.aj.length-1:=by rw[hm,bk]
   have hmi:∀i (hi:i<m.length),m[i]=x.aj[i+1]' gA:=fun i hi=>by simp only[hm,List.getElem_drop,eq 1 i]
   have hrm:=gK (l:=m)
   have hmd:∀i,m.drop i=x.aj.drop (i+1):=fun i=>by rw[hm,fR,eq 1 i]
   have hme:=fun i=>pJ m m.length i (ax _)
   have b1:dU x.aj 1=(m[0]' gA).aI:=by rw[hmi 0 gA,j4 gA]
   refine⟨⟨gA,gA,hr⟩,?_⟩;rw[hdd,<-hm];simp only[<-a0];refine S0 (fun hb h=>?_) fun hb h=>?_
   ·have hg:=FZ hl2 fun e=>by rw[h] at e;exact absurd e gE
    have hdec:=Wq ha hg h;refine W3 ?_;refine⟨⟨gA,gA,hrm⟩,?_⟩;rw[hme,hmd,<-b1];refine C1 (qm (x.aj.drop 2) (by have:=hso 2;omega) (n+1) (n+1+1) (uV hfs 2) (hdl 2) (hda 2)) ?_;exact ie1 hdec
   have agb:=h;refine S0 (fun hb h=>?_) fun hb h=>?_
   ·have hg:=FZ hl2 fun e=>by rw[h] at e;exact absurd e gE
    have hdec:=aan ha hg h;refine W3 ?_;refine⟨⟨gA,gA,hrm⟩,?_⟩;rw[hme,hmd,<-b1];refine C1 (qm (x.aj.drop 2) (by have:=hso 2;omega) (n+1) (n+1+1) (uV hfs 2) (hdl 2) (hda 2)) ?_;exact ie1 hdec
   have nNew:=h;refine S0 (fun hb h=>?_) fun hb h=>?_
   ·have hg:=FZ hl2 fun e=>by rw[h] at e;exact absurd e gE
    have hdec:=aao ha hg h;refine W3 ?_;refine⟨⟨gA,gA,hrm⟩,?_⟩;rw[hme,hmd,<-b1];refine C1 (qm (x.aj.drop 2) (by have:=hso 2;omega) (n+1) (n+1+1) (uV hfs 2) (hdl 2) (hda 2)) ?_;exact ie1 hdec
   have amT:=h;refine S0 (fun hb h=>?_) fun hb h=>?_
   ·have hg:=FZ hl2 fun e=>by rw[h] at e;exact absurd e gE
    have hdec:=Ws ha hg h;refine W3 ?_;refine⟨⟨gA,gA,hrm⟩,?_⟩;rw[hme,hmd,<-b1];refine C1 (qm (x.aj.drop 2) (by have:=hso 2;omega) (n+1) (n+1+1) (uV hfs 2) (hdl 2) (hda 2)) ?_;exact ie1 hdec
   have agc:=h;refine S0 (fun hb h=>?_) fun hb h=>?_
   ·have hM:=h;refine S0 (fun hb h=>?_) fun hb h=>?_
    ·exact ie0 (Wv ha fun e=>e ⟨rfl,.inr ⟨hM,gA⟩⟩)
    have hl3:3<=x.aj.length:=gA
    have hg:=FZ hl2 fun _=>hl3;have hdec:=Pv ha hg hM
    have b2:dU x.aj 2=(m[1]' gA).aI:=by rw[hmi 1 gA,j4 gA]
    refine W3 ?_;refine⟨⟨gA,gA,hrm⟩,?_⟩;rw[hme,hmd,<-b1,<-b2];refine C1 (qm (x.aj.drop 3) (by have:=hso 3;omega) (n+1) (n+1+1) (uV hfs 3) (hdl 3) (hda 3)) ?_;exact ie1 hdec
   have Oz:=h;have hg:=FZ hl2 fun e=>(Oz e).elim;refine S0 (fun hb h=>?_) fun hb h=>?_
   ·have hdec:=adf ha hg h;rw[hm];refine C1 (qm (x.aj.drop 1) (by have:=hso 1;omega) (n+1) (n+1+1) (uV hfs 1) (hdl 1) (hda 1)) ?_;exact ie1 hdec
   have nIf:=h;refine S0 (fun hb h=>?_) fun hb h=>?_
   ·have hdec:=aap ha hg h
    have g1:x.aj.getD 1 cZ=m[0]' gA:=by rw[hmi 0 gA,cz,am gA];rfl
    have gz:=wV x 1 hsz;rw[g1] at hdec gz;refine W3 ?_;refine C1 (rV m[0] n gz) ?_;refine⟨⟨gA,gA,hrm⟩,?_⟩;rw[hme,hmd];refine C1 (qm (x.aj.drop 2) (by have:=hso 2;omega) (n+(gG (dZ true m[0]).fArgs+1)) (n+(gG (dZ true m[0]).fArgs+1)+1) (uV hfs 2) (hdl 2) (hda 2)) ?_;exact ie2 hdec
   have nThe:=h;refine S0 (fun hb h=>?_) fun hb h=>?_
   ·have hdec:=Wt ha hg h;refine⟨⟨gA,hrm⟩,?_⟩;rw[<-ee];refine C1 (qm (m.take 1) (by have:=hso 1;have:=Jk 1 m;rw[hm] at this ⊢;omega) (n+1) (n+1+1) (ajd (by rw[hm];exact uV hfs 1) 1) (by rw[cj];omega) (fun t ht=>hda 1 t (by rw[<-hm];exact eA ht))) ?_;refine⟨⟨gA,gA,hrm⟩,?_⟩;rw[hme,hmd];obtain⟨Bu,agd⟩:∃Bu,Bu=(m.take 1).map (fA true):=⟨_,rfl⟩;obtain⟨r,hrr⟩:∃r,r=x.aj.drop 2:=⟨_,rfl⟩
    have hrl:r.length=x.aj.length-2:=by rw[hrr,bk]
    have hrs:∀t∈r,t.sz<=4194304/\SizeOf.sizeOf t<N/\iG t=true:=fun t ht=>by
     rw[hrr] at ht;have h5:=cJ ht;have:=bh h5;exact⟨hda 2 t ht,gA,y5 hfs h5⟩
    obtain⟨q,hq⟩:∃q,q=n+1+(l7 Bu+1):=⟨_,rfl⟩;obtain⟨L,hL⟩:∃L:Nat->Nat,L=fun k=>q+1+af8 ((r.map (tY true)).take k):=⟨_,rfl⟩;obtain⟨T,hT⟩:∃T:Nat->List (List D),T=fun k=>lM ((r.map (tY true)).take k) (q+1):=⟨_,rfl⟩
    have hT0:T 0=[]:=by rw[hT];rfl
    have fZ:∀k,(T k).length<=k:=fun k=>by rw[hT];simp only[aja];exact bi _ _
    have hTs:∀k (hk:k<r.length),T k++[fE (tY true r[k]).enc (L k)]=T (k+1):=fun k hk=>by
     have:=apL (l:=r.map (tY true)) (i:=k) (by rw[ab];exact hk) (q+1);rw[bp] at this;rw[hT,hL];exact this
    have hTe:T r.length=lM (r.map (tY true)) (q+1):=by
     rw[hT];simp only
     rw[aE gL]
    clear hT hL;rw[<-hm,<-agd,<-hrr] at hdec;rw[<-agd,<-hrr];refine W1 ?_;refine oG q 3 8 11 _ rfl rfl ?_
    refine aZ (ι:=Nat) zmx rfl [2,7,127,128,129] (fun k=>[.c (.ptr (0,2) 0),.c (.ptr (0,3) 0),.c (.d (.sl (r.map ah.enc))),.c (.d (.i .i64 r.length)),.c (.d (.i .i64 k))])
     (fun k=>[.seed n,.box [.d (.s x.aI),.d (.sl (x.aj.map ah.enc))],.box [.d (.i .i64 0),.d (.s []),.d (.s []),.d (.i .i64 0),.d (.i .i64 0),.d (.s []),.bH [],.bH [],.bH []],
       .box [.d (.i .i64 7),.d (.s []),.d (.s []),.d (.i .i64 0),.d (.i .i64 0),.d (.s []),.bH [],.d (.ol (n+1) (lE Bu (n+1+1))),.bJ (0,4) (T k)],.eP q 11 (T k)]::S)
     (fun k=>k<=r.length) (fun k=>r.length-k) 0 rfl (by rw[hT0];rfl) (an _) ?_
    intro k hk;have hlk:=fZ k;refine W1 ?_;refine S0 (fun hb h=>?_) fun hb h=>?_
    ·have hk':k<r.length:=gA
     have hmm:=hrs _ (ac hk');have hs:=hTs k hk';simp only[amS,aas,ba,bc] at hs;refine W3 ?_;refine C1 (ihM r[k] hmm.2.1 (L k) hmm.2.2 hmm.1) ?_;refine W3 ?_;rw[hs];exact bR 5 gE (k+1) gA rfl rfl rfl rfl gA
    ·have hk':k=r.length:=gA
     rw[hk',hTe,hq];exact ie3 hdec
   have agf:=h;have hdec:=Wu ha hg agb nNew amT agc Oz nIf nThe agf;rw[hm];refine C1 (qm (x.aj.drop 1) (by have:=hso 1;omega) (n+1) (n+1+1) (uV hfs 1) (hdl 1) (hda 1)) ?_;exact ie1 hdec
  ·have FB:=fun(i:Nat) (hi:i<xs.length)=>apK (l:=xs.map (fA true)) (i:=i) hJ q;refine lF (n) (rs:=[.tmp 2]) zmx func187 ntmps187 rfl rfl rfl rfl rfl ?_;refine W1 ?_;refine W3 ?_;refine lV n 3 9 [] (.inl rfl) gL ?_
   refine aZ (ι:=Nat) zmx rfl [3,7,8,9] (fun i=>[.c (.bJ (0,1) (lE ((xs.map (fA true)).take i) q)),.c (.d (.sl (xs.map ah.enc))),.c (.d (.i .i64 xs.length)),.c (.d (.i .i64 i))]) (fun i=>[.seed n,.eP n 9 (lE ((xs.map (fA true)).take i) q)]::S)
    (fun i=>i<=xs.length) (fun i=>xs.length-i) 0 rfl rfl (an _) ?_
   intro i hi;refine W1 ?_;refine S0 (fun hb h=>?_) fun hb h=>?_
   ·have hi':i<xs.length:=gA
    have hs:=FB i hi';rw[bp] at hs;simp only[aas] at hs
    have hl:(lE ((xs.map (fA true)).take i) q).length<=i:=by rw[ai9];exact bi _ _
    refine W3 ?_;refine C1 (ih xs[i] (by have:=bh (ac hi');omega) (q+l7 ((xs.map (fA true)).take i)) (y5 hfo (ac hi')) (hsz _ (ac hi'))) ?_;refine W3 ?_;rw[hs];exact bR 2 gE (i+1) gA rfl rfl rfl rfl gA
   ·have hi':i=(xs.map (fA true)).length:=by rw[ab];omega
    rw[hi',ch]
  ·have kL:=ah.vO x;have h1:=eZ x
   have hall:∀t∈x.aj,t.sz<=4194304:=fun t ht=>by have:=gY ht;omega
   have hr:=gK (l:=x.aj);refine zcx [.cell 2 199] func188 ntmps188 ?_;refine W1 ?_;refine S0 (fun hb h=>?_) fun hb h=>?_
   ·exact ma0 (ade true x gA)
   have hl2:2<=x.aj.length:=gA
   have a0:=j4 (l:=x.aj) (i:=0) gA;have hm:=ac (l:=x.aj) (n:=x.aj.length-1) gA;have hfs:=IJ hfo (fun e=>by rw[e] at hl2;simp at hl2);rw[adb true x hl2,a0];refine⟨⟨gA,gA,hr⟩,?_⟩;rw[Wx _ hl2];refine C1 (Cc ((x.aj.drop 1).dropLast) (by rw[List.length_dropLast,bk];omega) n) ?_;refine W3 ?_
   have el:((x.aj.length:Int)-1).toNat=x.aj.length-1:=gA
   simp only[el];refine C1 (ih (x.aj[x.aj.length-1]) (by have:=bh hm;omega) (n+1) (y5 hfs hm) (hall _ hm)) ?_;exact gV _
theorem Hr(x:ah)(n:Nat)(hf:iG x=true)(hsz:x.sz<=4194304):aD prog 133 [x.v] ((fA true x).vl n):=(NA _).1 x (cg _) n hf hsz
abbrev au.cv(x:au):List C:=[.d (.i .i64 x.aN),.d (.s x.bO),.d (.s x.fName),.d (.i .i64 x.fN),.d (.i .i64 x.fType.aN),.d (.s x.fType.fName),.d (.sl (x.fType.fArgs.map ak.enc)),.d (.sl (x.fArgs.map au.enc)),.d (.sl (x.aX.map bq.enc))]
abbrev au.cl(x:au)(n:Nat):List C:=[.d (.i .i64 x.aN),.d (.s x.bO),.d (.s x.fName),.d (.i .i64 x.fN),.d (.i .i64 x.fType.aN),.d (.s x.fType.fName),.d (.ol n (lt x.fType.fArgs (n+1))),
 .d (.ol (n+(gG x.fType.fArgs+1)) (lE x.fArgs (n+(gG x.fType.fArgs+1)+1))),.d (.ol (n+(gG x.fType.fArgs+1)+(l7 x.fArgs+1)) (lM x.aX (n+(gG x.fType.fArgs+1)+(l7 x.fArgs+1)+1)))]
abbrev aw8:List C:=[.d (.i .i64 0),.d (.s []),.d (.s []),.d (.i .i64 0),.d (.i .i64 0),.d (.s []),.bH [],.bH [],.bH []]
abbrev gX(l:List ah)(i:Nat):ah:=l.getD i cZ
theorem aav(l:List ah):dx l=(gX l 0).sz+dx (l.drop 1):=by
 cases l with
 |nil=>simp[dx,gX,Hf]
 |cons x l=>rw[dx,di,cN];rfl
theorem adh(l:List ah)(k i:Nat):gX (l.drop k) i=gX l (k+i):=by
 simp[gX,cz,cI]
theorem Ep(l:List ah):dx l=(gX l 0).sz+(gX l 1).sz+(gX l 2).sz+(gX l 3).sz+(gX l 4).sz+(gX l 5).sz+(gX l 6).sz+dx (l.drop 7):=by
 have h:∀k,dx (l.drop k)=(gX l k).sz+dx (l.drop (k+1)):=fun k=>by
  rw[aav (l.drop k),adh,cR,fR]
 have h0:=h 0;rw[cN] at h0;have h1:=h 1;have h2:=h 2;have h3:=h 3;have h4:=h 4;have h5:=h 5;have h6:=h 6
 simp only[Nat.reduceAdd] at *
 omega
theorem Ht(l:List ah):dx l=(gX l 0).sz+(gX l 1).sz+(gX l 2).sz+(gX l 3).sz+dx (l.drop 4):=by
 have h:=Ep l;have h1:=Ep (l.drop 4)
 have e:∀k,dx (l.drop k)=(gX l k).sz+dx (l.drop (k+1)):=fun k=>by
  rw[aav (l.drop k),adh,cR,fR]
 have h4:=e 4;have h5:=e 5;have h6:=e 6
 simp only[Nat.reduceAdd] at *
 omega
theorem IK(l:List ah)(i:Nat):dU l i=(gX l i).aI:=rfl
theorem qY(x:ah):x.aI.length+(x.aj.length+dx x.aj)=x.sz:=by rw[iM,jU]
theorem aaw{α:Type}{x:ah}{dT dF:α}{valid:α->Bool}{sx:α->ah}{head:Prop}(hx:x.aj≠[])(hd:∀a,valid a=true->sx a=x->dT=a/\dF=a)(hh:∀a,sx a=x->head):
 dec (dQ x=true/\head/\valid dT=true/\sx dT=x)=(dQ x&&dec (sD (valid dF) (sx dF)=x)):=by
 cases hv:dQ x with
 |false=>exact aO fun h=>by cases h.1
 |true=>
  rw[cd];refine iJ ⟨fun⟨_,h2,h3,h4⟩=> ?_,fun h=> ?_⟩
  ·have e:=(hd _ h3 h4).2;rw[e,h3,h4,sD,vQ,if_pos hv]
  ·obtain⟨h1,h2,_⟩:=aag h hx;have e:=(hd _ h1 h2).1;rw[e];exact⟨rfl,hh _ h2,h1,h2⟩
def oO(b:Bool)(y:ah):bQ:=if b=true/\y.aj.length≠2 then⟨[],jB⟩ else⟨dU y.aj 0,dZ b (gX y.aj 1)⟩
def oP(b:Bool)(y:ah):dz:=if b=true/\y.aj.length≠2 then⟨[],jB⟩ else⟨dU y.aj 0,dZ b (gX y.aj 1)⟩
def nY(l:List ah)(i:Nat):List (List UInt8):=fD (gX l i).aj
def Da(b:Bool)(x:ah):aV:=
 ⟨dU x.aj 1,nY x.aj 2,(gX x.aj 3).aj.map (oO b),(gX x.aj 4).aj.map (oP b),dZ b (gX x.aj 5),fA b (gX x.aj 6)⟩
theorem adi(b:Bool){c:bQ}(h:formed c.fType=true):oO b (rC c)=c:=by
 unfold oO;rw[if_neg (by simp[rC,dD])];show bQ.mk c.bO (dZ b (dI c.fType))=c;rw[zu b _ h]
theorem ajg(b:Bool){c:dz}(h:formed c.fType=true):oP b (sI c)=c:=by
 unfold oP;rw[if_neg (by simp[sI,dD])];show dz.mk c.fName (dZ b (dI c.fType))=c;rw[zu b _ h]
theorem Hu{α β:Type}{f:α->β}{g:β->α}{l:List α}(h:∀a∈l,g (f a)=a):(l.map f).map g=l:=by
 rw[ew,show l.map (g∘f)=l.map id from cQ (fun c hc=>h c hc),List.map_id]
theorem aax{f:aV}(h:j3 f=true):∀v∈f.aG,v≠[]:=by
 unfold j3 at h;simp only[ai] at h;exact Ba h.2.2.1
theorem F3(b:Bool){f:aV}(h:j3 f=true):Da b (xu f)=f:=by
 obtain⟨h1,h2,h3,h4⟩:=xw h;show aV.mk f.fName (fD (aR f.aG)) ((f.dJ.map rC).map (oO b)) ((f.bG.map sI).map (oP b)) (dZ b (dI f.dh)) (fA b (fG f.fBody))=f;rw[oL (aax h),Hu fun c hc=>adi b (h1 c hc),Hu fun c hc=>ajg b (h2 c hc),zu b _ h3,J6 b _ h4]
noncomputable def okF(x:ah):Bool:=dec (dQ x=true/\(7<=x.aj.length/\dU x.aj 0=yO)/\j3 (Da true x)=true/\xu (Da true x)=x)
theorem amU{x:ah}(hx:x.aj≠[]):okF x=(dQ x&&dec (ED (Da false x)=x)):=
 aaw hx (fun a h1 h2=>by rw[<-h2];exact⟨F3 true h1,F3 false h1⟩) fun a h=>by rw[<-h];exact⟨ax _,rfl⟩
theorem amV{x:ah}(h:okF x=true):Da false x=Da true x:=by
 have h1:=gD h
 conv=>lhs;rw[<-h1.2.2.2]
 exact F3 false h1.2.2.1
def OA:aV:=⟨[],[],[],[],jB,mK⟩
noncomputable def vC(x:ah):aV:=if okF x=true then Da true x else OA
theorem apN(b:Bool)(y:ah):(oO b y).sz<=y.sz:=by
 have h:=A9 b (gX y.aj 1);have h1:=Ht y.aj;have h2:=qY y;have h3:=qY (gX y.aj 0);unfold oO;split
 ·simp only[bQ.sz,bQ.aC,bX,bT,D.sz,ak.dY,En];simp
 ·simp only[bQ.sz,bQ.aC,bX,bT,D.sz,ak.dY,IK];omega
theorem ajh(b:Bool)(y:ah):(oP b y).sz<=y.sz:=by
 have h:=A9 b (gX y.aj 1);have h1:=Ht y.aj;have h2:=qY y;have h3:=qY (gX y.aj 0);unfold oP;split
 ·simp only[dz.sz,dz.aC,bX,bT,D.sz,ak.dY,En];simp
 ·simp only[dz.sz,dz.aC,bX,bT,D.sz,ak.dY,IK];omega
theorem Qw(b:Bool):∀l:List ah,aS ((l.map (oO b)).map bQ.enc)<=dx l
 |[]=>by simp[aS]
 |y::l=>by
  have h1:=apN b y;have h2:=Qw b l;rw[af,af,aS,dx];simp only[bQ.sz] at h1;omega
theorem TF(b:Bool):∀l:List ah,aS ((l.map (oP b)).map dz.enc)<=dx l
 |[]=>by simp[aS]
 |y::l=>by
  have h1:=ajh b y;have h2:=TF b l;rw[af,af,aS,dx];simp only[dz.sz] at h1;omega
theorem UN(b:Bool)(x:ah):(Da b x).sz<=x.sz:=by
 have h1:=Ep x.aj;have h2:=qY x;have h3:=qY (gX x.aj 1);have h4:=tu (gX x.aj 2).aj;have h4':=qY (gX x.aj 2);have h5:=Qw b (gX x.aj 3).aj;have h5':=qY (gX x.aj 3);have h6:=TF b (gX x.aj 4).aj;have h6':=qY (gX x.aj 4);have h7:=A9 b (gX x.aj 5);have h8:=FY b (gX x.aj 6);simp only[aV.sz,aV.aC,bX,bT,D.sz,ak.dY,au.dY,Da,ab,nY,dN,IK];omega
theorem jR{l:List ah}{i:Nat}(h:i<l.length):gX l i=l[i]:=by
 show l.getD i cZ=_;rw[cz,am h];rfl
def lB(l:List bQ)(n:Nat):List (List D):=eO (l.map bQ.enc) n
def XE(l:List bQ):Nat:=mH (l.map bQ.enc)
def lPr(l:List dz)(n:Nat):List (List D):=eO (l.map dz.enc) n
def anT(l:List dz):Nat:=mH (l.map dz.enc)
theorem adj(x:bQ)(n:Nat):fE x.enc n=[.s x.bO,.i .i64 x.fType.aN,.s x.fType.fName,.ol n (lt x.fType.fArgs (n+1))]:=by
 simp only[bQ.aC,ak.aC,ba,bc,fE,rM,vR,cR,lt]
theorem aay(x:dz)(n:Nat):fE x.enc n=[.s x.fName,.i .i64 x.fType.aN,.s x.fType.fName,.ol n (lt x.fType.fArgs (n+1))]:=by
 simp only[dz.aC,ak.aC,ba,bc,fE,rM,vR,cR,lt]
theorem DC{α:Type}{e:α->List D}{l:List α}{i:Nat}(hi:i<l.length)(n:Nat):eO ((l.take i).map e) n++[fE (e l[i]) (n+mH ((l.take i).map e))]=eO ((l.take (i+1)).map e) n:=by
 rw[bu hi,bw,qO];rfl
theorem FN{α:Type}{e:α->List D}{l:List α}{i:Nat}(hi:i<l.length):(l.take i).map e++[e l[i]]=(l.take (i+1)).map e:=by
 rw[bu hi,bw];rfl
theorem adk{b:Bool}{y:ah}(h:b=false\/y.aj.length=2):(oO b y).bO=dU y.aj 0/\(oO b y).fType=dZ b (y.aj.getD 1 cZ):=by
 unfold oO;rw[if_neg (by rintro⟨e1,e2⟩;rcases h with e|e;(rw[e] at e1;cases e1);exact e2 e)];exact⟨rfl,rfl⟩
theorem amW{y:ah}(h:y.aj.length≠2):oO true y=⟨[],jB⟩:=if_pos ⟨rfl,h⟩
theorem Wz{b:Bool}{y:ah}(h:b=false\/y.aj.length=2):(oP b y).fName=dU y.aj 0/\(oP b y).fType=dZ b (y.aj.getD 1 cZ):=by
 unfold oP;rw[if_neg (by rintro⟨e1,e2⟩;rcases h with e|e;(rw[e] at e1;cases e1);exact e2 e)];exact⟨rfl,rfl⟩
theorem agi{y:ah}(h:y.aj.length≠2):oP true y=⟨[],jB⟩:=if_pos ⟨rfl,h⟩
theorem UO{x:ah}(h:iG x=true){i:Nat}(hi:i<x.aj.length):iG x.aj[i]=true:=y5 (IJ h (fun e=>by rw[e] at hi;simp at hi)) (ac hi)
theorem zw(x:ah){i:Nat}(hi:i<x.aj.length):x.aj[i].sz<=x.sz:=by
 have:=gY (ac hi);have:=eZ x;omega
abbrev aV.cl(x:aV)(n p q r:Nat):List C:=[.d (.s x.fName),.d (.ol n (x.aG.map encS)),.d (.ol (n+1) (lB x.dJ (n+1+1))),.d (.ol p (lPr x.bG (p+1))),.d (.i .i64 x.dh.aN),.d (.s x.dh.fName),.d (.ol q (lt x.dh.fArgs (q+1))),
 .d (.i .i64 x.fBody.aN),.d (.s x.fBody.bO),.d (.s x.fBody.fName),.d (.i .i64 x.fBody.fN),.d (.i .i64 x.fBody.fType.aN),.d (.s x.fBody.fType.fName),.d (.ol r (lt x.fBody.fType.fArgs (r+1))),
 .d (.ol (r+(gG x.fBody.fType.fArgs+1)) (lE x.fBody.fArgs (r+(gG x.fBody.fType.fArgs+1)+1))),.d (.ol (r+(gG x.fBody.fType.fArgs+1)+(l7 x.fBody.fArgs+1)) (lM x.fBody.aX (r+(gG x.fBody.fType.fArgs+1)+(l7 x.fBody.fArgs+1)+1)))]
abbrev aV.cv(x:aV):List C:=[.d (.s x.fName),.d (.sl (x.aG.map encS)),.d (.sl (x.dJ.map bQ.enc)),.d (.sl (x.bG.map dz.enc)),.d (.i .i64 x.dh.aN),.d (.s x.dh.fName),.d (.sl (x.dh.fArgs.map ak.enc)),
 .d (.i .i64 x.fBody.aN),.d (.s x.fBody.bO),.d (.s x.fBody.fName),.d (.i .i64 x.fBody.fN),.d (.i .i64 x.fBody.fType.aN),.d (.s x.fBody.fType.fName),.d (.sl (x.fBody.fType.fArgs.map ak.enc)),.d (.sl (x.fBody.fArgs.map au.enc)),.d (.sl (x.fBody.aX.map bq.enc))]
def pF(x:aV)(n:Nat):Nat:=n+1+(XE x.dJ+1)
def qF(x:aV)(n:Nat):Nat:=pF x n+(anT x.bG+1)
def rF(x:aV)(n:Nat):Nat:=qF x n+(gG x.dh.fArgs+1)
theorem apQ(x:aV)(n:Nat):(fE x.enc n).map C.d=x.cl n (pF x n) (qF x n) (rF x n):=by
 simp only[aV.aC,au.aC,ak.aC,ba,bc,fE,rM,vR,cR,lt,lE,lM,lB,lPr,gG,l7,XE,anT,pF,qF,rF,wP,yZ,cG,af,aw];rfl
theorem aji{x:ah}(h:okF x=false):vC x=OA:=if_neg (by rw[h];decide)
theorem adl{x:ah}(h:okF x=true):vC x=Da true x:=if_pos h
abbrev J8:List C:=[.d (.s []),.bH [],.bH [],.bH [],.d (.i .i64 0),.d (.s []),.bH [],.d (.i .i64 0),.d (.s []),.d (.s []),.d (.i .i64 0),.d (.i .i64 0),.d (.s []),.bH [],.bH [],.bH []]
theorem avZ(e:aV)(h:e=OA)(ok:Bool):Less (.eu [(true,J8),(false,[.d (.b ok)])]) (.eu [(true,e.cv),(false,[.d (.b ok)])]):=by
 rw[h];exact(jr.cons (.cons (.refl _) (.cons (fJ _) (.cons (fJ _) (.cons (fJ _) (.cons (.refl _) (.cons (.refl _) (.cons (fJ _) (.cons (.refl _) (.cons (.refl _) (.cons (.refl _) (.cons (.refl _) (.cons (.refl _) (.cons (.refl _) (.cons (fJ _) (.cons (fJ _) (.cons (fJ _) .nil)))))))))))))))) (.refl _)).less
theorem arU(e:aV)(h:e=OA)(n p q r:Nat)(ok:Bool):Less (.eu [(true,J8),(false,[.d (.b ok)])]) (.eu [(true,e.cl n p q r),(false,[.d (.b ok)])]):=by
 rw[h];exact(jr.cons (.cons (.refl _) (.cons (eD _) (.cons (eD _) (.cons (eD _) (.cons (.refl _) (.cons (.refl _) (.cons (eD _) (.cons (.refl _) (.cons (.refl _) (.cons (.refl _) (.cons (.refl _) (.cons (.refl _) (.cons (.refl _) (.cons (eD _) (.cons (eD _) (.cons (eD _) .nil)))))))))))))))) (.refl _)).less
theorem LB(x:ah)(hsz:x.sz<=4194304):aD prog 142 [x.v] (.c (.d (.sl ((x.aj.map (oO false)).map bQ.enc)))):=fun S=>by
 have h1:=eZ x
 have hall:∀t∈x.aj,t.sz<=4194304:=fun t ht=>by have:=gY ht;omega
 have FB:=fun(i:Nat) (hi:i<x.aj.length)=>FN (e:=bQ.enc) (l:=x.aj.map (oO false)) (i:=i) hJ;refine zcx [.tmp 2] func142 ntmps142 ?_;refine W1 ?_;refine W3 ?_;refine nu 3 4 [] rfl gL ?_
 refine aZ (ι:=Nat) zmx rfl [1,3,4] (fun i=>[.c (.ptr (0,0) 0),.c (.bJ (0,1) (((x.aj.map (oO false)).take i).map bQ.enc)),.c (.d (.i .i64 i))]) (fun i=>[.box [.d (.s x.aI),.d (.sl (x.aj.map ah.enc))],.tok 4 (((x.aj.map (oO false)).take i).map bQ.enc)]::S)
  (fun i=>i<=x.aj.length) (fun i=>x.aj.length-i) 0 rfl rfl (an _) ?_
 intro i hi
 have hl:(((x.aj.map (oO false)).take i).map bQ.enc).length<=i:=by rw[ab];exact bi _ _
 refine W1 ?_;refine S0 (fun hb h=>?_) fun hb h=>?_
 ·have hi':i<x.aj.length:=gA
  have hz:=hall _ (ac hi');have hs:=FB i hi';have hb:=adk (b:=false) (y:=x.aj[i]) (.inl rfl);rw[bp] at hs;simp only[bQ.aC,ak.aC,ba,bc,hb.1,hb.2] at hs;refine W3 ?_;refine C1 (fU x.aj[i] 0 hz gA) ?_;refine W3 ?_;refine C1 (fU x.aj[i] 1 hz gA) ?_;refine C1 (qX (x.aj[i].aj.getD 1 cZ) (wV _ 1 hz)) ?_;refine W3 ?_;show _;rw[show(x.aj[i].aj.getD 0 cZ).aI=dU x.aj[i].aj 0 from rfl,hs];exact dH (i+1) gA rfl rfl gA
 ·have hi':i=(x.aj.map (oO false)).length:=by rw[ab];omega
  rw[hi',ch]
theorem LC(x:ah)(n q:Nat)(hsz:x.sz<=4194304):aD prog 132 [x.v] (.c (.d (.ol n (lB (x.aj.map (oO true)) q)))):=aD.of_le fun S=>by
 have h1:=eZ x
 have hall:∀t∈x.aj,t.sz<=4194304:=fun t ht=>by have:=gY ht;omega
 obtain⟨L,hL⟩:∃L:Nat->Nat,L=fun i=>q+mH (((x.aj.map (oO true)).take i).map bQ.enc):=⟨_,rfl⟩;obtain⟨T,hT⟩:∃T:Nat->List (List D),T=fun i=>eO (((x.aj.map (oO true)).take i).map bQ.enc) q:=⟨_,rfl⟩
 have hT0:T 0=[]:=by rw[hT];rfl
 have fZ:∀i,(T i).length<=i:=fun i=>by rw[hT];simp only[kT,ab];exact bi _ _
 have hTr:∀i,∀r∈T i,r.length=4:=fun i=>by
  rw[hT]
  exact zm fun r hr=>by
   obtain⟨z,_,rfl⟩:=cr.1 hr;exact z.dK
 have hTs:∀i (hi:i<x.aj.length),T i++[fE (oO true x.aj[i]).enc (L i)]=T (i+1):=fun i hi=>by
  have:=DC (e:=bQ.enc) (l:=x.aj.map (oO true)) (i:=i) hJ q;rw[bp] at this;rw[hT,hL];exact this
 have hTe:T x.aj.length=lB (x.aj.map (oO true)) q:=by
  rw[hT];simp only
  rw[aE gL];rfl
 clear hT hL;refine lF (n) (rs:=[.tmp 2]) zmx func132 ntmps132 rfl rfl rfl rfl rfl ?_;refine W1 ?_;refine W3 ?_;refine lV n 3 4 [] (.inl rfl) gL ?_
 refine aZ (ι:=Nat×List (List D)) zmx rfl [3,9,10,11] (fun y=>[.c (.bJ (0,2) y.2),.c (.d (.sl (x.aj.map ah.enc))),.c (.d (.i .i64 x.aj.length)),.c (.d (.i .i64 y.1))])
  (fun y=>[.seed n,.box [.d (.s x.aI),.d (.sl (x.aj.map ah.enc))],.eP n 4 y.2]::S)
  (fun y=>y.1<=x.aj.length/\jd y.2 (T y.1)) (fun y=>x.aj.length-y.1) (0,[]) rfl rfl ⟨an _,by rw[hT0];exact .nil⟩ ?_
 rintro⟨i,U⟩ ⟨p1,p2⟩;simp only at p1 p2;have hU1:=p2.length;have hU2:=fZ i;have hU3:=p2.rows (hTr i);refine W1 ?_;refine S0 (fun hb h=>?_) fun hb h=>?_
 ·have hi':i<x.aj.length:=gA
  have hz:=hall _ (ac hi');have hs:=hTs i hi';have hz1:=eZ x.aj[i];refine W3 ?_;refine S0 (fun hb h=>?_) fun hb h=>?_
  ·have hl2:x.aj[i].aj.length=2:=gA
   have hb:=adk (b:=true) (y:=x.aj[i]) (.inr hl2);have g1:x.aj[i].aj.getD 1 cZ=x.aj[i].aj[1]:=jR gA;rw[adj,hb.1,hb.2,j4 (by omega:0<x.aj[i].aj.length),g1] at hs;have hz2:=zw x.aj[i] (i:=1) gA;refine W3 ?_;refine C1 (rV x.aj[i].aj[1] (L i) gA) ?_;refine W3 ?_;refine bR 3 gE (i+1,_) gC rfl rfl rfl rfl ⟨gC,?_⟩
   simp only
   rw[<-hs];exact p2.snoc (.refl _)
  ·have hl2:x.aj[i].aj.length≠2:=gA
   rw[adj,amW hl2] at hs;refine bR 3 gE (i+1,_) gC rfl rfl rfl rfl ⟨gC,?_⟩
   simp only
   rw[<-hs];exact p2.snoc (.cons (.refl _) (.cons (.refl _) (.cons (.refl _) (.cons (oV _) .nil))))
 ·have hi':i=x.aj.length:=gA
  subst hi';rw[hTe] at p2;exact alX p2
theorem aaz(x:ah)(hsz:x.sz<=1048576):aD prog 67 [x.v] (.eu [(true,(vC x).cv),(false,[.d (.b (okF x))])]):=aD.of_le fun S=>by
 have h1:=eZ x;have hds:=UN false x;have hos:=apb (f:=Da false x) gA;have hgs:=fun i=>wV x i (m:=4194304) gA;obtain⟨l,hl⟩:∃l,l=(x.aj.getD 4 cZ).aj:=⟨_,rfl⟩;have hg4:=eZ (x.aj.getD 4 cZ)
 have hll:l.length<=4194304:=by have:=hgs 4;rw[hl];omega
 have hlm:∀y∈l,y.sz<=4194304:=fun y hy=>by
  have:=hgs 4;have:=gY (hl▸hy);omega
 obtain⟨F,hF⟩:∃F,F=Da false x:=⟨_,rfl⟩
 have f1:F.fName=(x.aj.getD 1 cZ).aI:=by rw[hF];rfl
 have f2:F.aG=fD (x.aj.getD 2 cZ).aj:=by rw[hF];rfl
 have f3:F.dJ=(x.aj.getD 3 cZ).aj.map (oO false):=by rw[hF];rfl
 have f5:F.dh=dZ false (x.aj.getD 5 cZ):=by rw[hF];rfl
 have f6:F.fBody=fA false (x.aj.getD 6 cZ):=by rw[hF];rfl
 obtain⟨T,hT⟩:∃T:Nat->List (List D),T=fun i=>((l.map (oP false)).take i).map dz.enc:=⟨_,rfl⟩
 have hT0:T 0=[]:=by rw[hT];rfl
 have fZ:∀i,(T i).length<=i:=fun i=>by rw[hT];simp only[ab];exact bi _ _
 have hTs:∀i (hi:i<l.length),T i++[(oP false l[i]).enc]=T (i+1):=fun i hi=>by
  have:=FN (e:=dz.enc) (l:=l.map (oP false)) (i:=i) hJ;rw[bp] at this;rw[hT];exact this
 have hTe:T l.length=F.bG.map dz.enc:=by
  rw[hT];simp only
  rw[aE gL,hF,hl];rfl
 clear hT
 have gH:okF x=false->Less (.eu [(true,J8),(false,[.d (.b false)])]) (.eu [(true,(vC x).cv),(false,[.d (.b (okF x))])]):=fun e=>by
  rw[e];exact avZ _ (aji e) false
 have c5:=qX (x.aj.getD 5 cZ) (hgs 5);have c6:=Jl (x.aj.getD 6 cZ) (hgs 6);have c2:=uf _ (hgs 2);have c3:=LB _ (hgs 3);rw[<-f2] at c2;rw[<-f3] at c3;rw[<-f5] at c5;rw[<-f6] at c6;refine zcx [.cell 2 85,.tmp 3] func67 ntmps67 ?_;refine W1 ?_;refine C1 (fU x 1 gA gA) ?_;refine C1 (fU x 2 gA gA) ?_;refine bn c2 ?_;refine W1 ?_;refine C1 (fU x 3 gA gA) ?_;refine bn c3 ?_;refine W1 ?_;refine C1 (fU x 5 gA gA) ?_;refine bn c5 ?_;refine W1 ?_;refine C1 (fU x 6 gA gA) ?_;refine bn c6 ?_;refine W1 ?_;refine W3 ?_;refine C1 (fU x 4 gA gA) ?_;rw[<-hl,<-f1];refine kJ 2 3 4 _ rfl rfl ?_
 refine aZ (ι:=Nat) zmx rfl [1,2,4,5,6] (fun i=>[.c (.ptr (0,0) 0),.c (.ptr (0,1) 0),.c (.ptr (0,2) 0),.c (.ptr (0,3) 0),.c (.d (.i .i64 i))])
  (fun i=>[.box [.d (.s x.aI),.d (.sl (x.aj.map ah.enc))],.box J8,.box [.d (.s F.fName),.d (.sl (F.aG.map encS)),.d (.sl (F.dJ.map bQ.enc)),.bJ (0,4) (T i),.d (.i .i64 F.dh.aN),.d (.s F.dh.fName),.d (.sl (F.dh.fArgs.map ak.enc)),
    .d (.i .i64 F.fBody.aN),.d (.s F.fBody.bO),.d (.s F.fBody.fName),.d (.i .i64 F.fBody.fN),.d (.i .i64 F.fBody.fType.aN),.d (.s F.fBody.fType.fName),.d (.sl (F.fBody.fType.fArgs.map ak.enc)),.d (.sl (F.fBody.fArgs.map au.enc)),.d (.sl (F.fBody.aX.map bq.enc))],
    .box [.d (.s (x.aj.getD 4 cZ).aI),.d (.sl (l.map ah.enc))],.tok 4 (T i)]::S)
  (fun i=>i<=l.length) (fun i=>l.length-i) 0 rfl (by rw[hT0];rfl) (an _) ?_
 intro i hi;have hl':=fZ i;refine W1 ?_;refine S0 (fun hb h=>?_) fun hb h=>?_
 ·have hi':i<l.length:=gA
  have hz:=hlm _ (ac hi');have hs:=hTs i hi';have hb:=Wz (b:=false) (y:=l[i]) (.inl rfl);simp only[dz.aC,ak.aC,ba,bc,hb.1,hb.2] at hs;refine W3 ?_;refine C1 (fU l[i] 0 hz gA) ?_;refine W3 ?_;refine C1 (fU l[i] 1 hz gA) ?_;refine C1 (qX (l[i].aj.getD 1 cZ) (wV _ 1 hz)) ?_;refine W3 ?_;rw[show(l[i].aj.getD 0 cZ).aI=dU l[i].aj 0 from rfl,hs];exact bR 5 gE (i+1) gA rfl rfl rfl rfl gA
 ·have hi':i=l.length:=gA
  subst hi';rw[hTe];clear hTs;refine C1 (pz x gA) ?_;refine S0 (fun hb h=>?_) fun hb h=>?_
  ·exact gH (aO fun e=>by rw[e.1] at h;cases h)
  have hv:=h;refine S0 (fun hb h=>?_) fun hb h=>?_
  ·exact gH (aO fun e=>gA)
  have hne:x.aj≠[]:=fun e=>by rw[e] at h;exact h rfl
  have hok:=amU hne;rw[hv,cd] at hok;rw[<-hF] at hok hos hds;refine W3 ?_;refine C1 (M6 F gA) ?_;refine C1 (vF (ED F) x gA) ?_;refine S0 (fun hb h=>?_) fun hb h=>?_
  ·exact gH (by rw[hok];exact aO h)
  ·have hy:okF x=true:=by rw[hok];exact bK h
   rw[adl hy,hy,<-amV hy,<-hF];exact gV _
theorem Xi(x:ah)(n:Nat)(hsz:x.sz<=1048576):aD prog 60 [x.v] (.eu [(true,(vC x).cl n (pF (vC x) n) (qF (vC x) n) (rF (vC x) n)),(false,[.d (.b (okF x))])]):=aD.of_le fun S=>by
 have h1:=eZ x;have hds:=UN true x;obtain⟨F,hF⟩:∃F,F=Da true x:=⟨_,rfl⟩;obtain⟨p,hp⟩:∃p,p=pF F n:=⟨_,rfl⟩;obtain⟨q,hq⟩:∃q,q=qF F n:=⟨_,rfl⟩;obtain⟨r,hr0⟩:∃r,r=rF F n:=⟨_,rfl⟩
 have gH:okF x=false->Less (.eu [(true,J8),(false,[.d (.b false)])]) (.eu [(true,(vC x).cl n (pF (vC x) n) (qF (vC x) n) (rF (vC x) n)),(false,[.d (.b (okF x))])]):=fun e=>by
  rw[e];exact arU _ (aji e) n _ _ _ false
 refine lF (n) (rs:=[.cell 2 85,.tmp 3]) zmx func60 ntmps60 rfl rfl rfl rfl rfl ?_;refine W1 ?_;refine C1 (wU x yO 7 gA gA gA) ?_;refine S0 (fun hb h=>?_) fun hb h=>?_
 ·exact gH (aO fun e=>h ⟨e.1,e.2.1.1,e.2.1.2⟩)
 have hf:=h;have vV:=qN hf.1
 have hfo:iG x=true:=by have:=hf.1;unfold dQ at this;rw[ai] at this;exact this.1
 have hlen:7<=x.aj.length:=hf.2.1
 have f1:F.fName=x.aj[1].aI:=by rw[hF];exact j4 gA
 have f2:F.aG=fD x.aj[2].aj:=by rw[hF,<-jR (l:=x.aj) (i:=2) gA];rfl
 have f3:F.dJ=x.aj[3].aj.map (oO true):=by rw[hF,<-jR (l:=x.aj) (i:=3) gA];rfl
 have f4:F.bG=x.aj[4].aj.map (oP true):=by rw[hF,<-jR (l:=x.aj) (i:=4) gA];rfl
 have f5:F.dh=dZ true x.aj[5]:=by rw[hF,<-jR (l:=x.aj) (i:=5) gA];rfl
 have f6:F.fBody=fA true x.aj[6]:=by rw[hF,<-jR (l:=x.aj) (i:=6) gA];rfl
 have hzs:=fun i hi=>zw x (i:=i) hi;have c2:=rU x.aj[2] (by have:=hzs 2 gA;omega) n;have c3:=LC x.aj[3] (n+1) (n+1+1) (by have:=hzs 3 gA;omega);have c5:=rV x.aj[5] q (by have:=hzs 5 gA;omega);have c6:=Hr x.aj[6] r (UO hfo gA) (by have:=hzs 6 gA;omega);rw[<-f2] at c2;rw[<-f3] at c3;rw[<-f5] at c5;rw[<-f6] at c6;have hz4:=hzs 4 gA;obtain⟨l,hl⟩:∃l,l=x.aj[4].aj:=⟨_,rfl⟩;have hg4:=eZ x.aj[4]
 have hll:l.length<=4194304:=by rw[hl];omega
 have hlm:∀y∈l,y.sz<=4194304:=fun y hy=>by have:=gY (hl▸hy);omega
 obtain⟨L,hL⟩:∃L:Nat->Nat,L=fun i=>p+1+mH (((l.map (oP true)).take i).map dz.enc):=⟨_,rfl⟩;obtain⟨T,hT⟩:∃T:Nat->List (List D),T=fun i=>eO (((l.map (oP true)).take i).map dz.enc) (p+1):=⟨_,rfl⟩
 have hT0:T 0=[]:=by rw[hT];rfl
 have fZ:∀i,(T i).length<=i:=fun i=>by rw[hT];simp only[kT,ab];exact bi _ _
 have hTr:∀i,∀r∈T i,r.length=4:=fun i=>by
  rw[hT]
  exact zm fun r hr=>by
   obtain⟨z,_,rfl⟩:=cr.1 hr;exact z.dK
 have hTs:∀i (hi:i<l.length),T i++[fE (oP true l[i]).enc (L i)]=T (i+1):=fun i hi=>by
  have:=DC (e:=dz.enc) (l:=l.map (oP true)) (i:=i) hJ (p+1);rw[bp] at this;rw[hT,hL];exact this
 have hTe:T l.length=lPr F.bG (p+1):=by
  rw[hT];simp only
  rw[aE gL,f4,hl];rfl
 clear hT hL;refine W3 ?_;refine bn c2 ?_;refine W1 ?_;refine W3 ?_;refine bn c3 ?_;refine W1 ?_;refine W3 ?_;refine bn c5 ?_;refine W1 ?_;refine W3 ?_;refine bn c6 ?_;refine W1 ?_;refine W3 ?_;rw[<-hl,<-f1];refine oG p 3 3 4 _ rfl rfl ?_
 refine aZ (ι:=Nat×List (List D)) zmx rfl [1,2,5,39,40,41] (fun y=>[.c (.ptr (0,1) 0),.c (.ptr (0,2) 0),.c (.ptr (0,3) 0),.c (.d (.sl (l.map ah.enc))),.c (.d (.i .i64 l.length)),.c (.d (.i .i64 y.1))])
  (fun y=>[.seed n,.box [.d (.s x.aI),.d (.sl (x.aj.map ah.enc))],.box J8,.box [.d (.s F.fName),.d (.ol n (F.aG.map encS)),.d (.ol (n+1) (lB F.dJ (n+1+1))),.bJ (0,4) y.2,.d (.i .i64 F.dh.aN),.d (.s F.dh.fName),.d (.ol q (lt F.dh.fArgs (q+1))),
    .d (.i .i64 F.fBody.aN),.d (.s F.fBody.bO),.d (.s F.fBody.fName),.d (.i .i64 F.fBody.fN),.d (.i .i64 F.fBody.fType.aN),.d (.s F.fBody.fType.fName),.d (.ol r (lt F.fBody.fType.fArgs (r+1))),
    .d (.ol (r+(gG F.fBody.fType.fArgs+1)) (lE F.fBody.fArgs (r+(gG F.fBody.fType.fArgs+1)+1))),.d (.ol (r+(gG F.fBody.fType.fArgs+1)+(l7 F.fBody.fArgs+1)) (lM F.fBody.aX (r+(gG F.fBody.fType.fArgs+1)+(l7 F.fBody.fArgs+1)+1)))],
    .eP p 4 y.2]::S)
  (fun y=>y.1<=l.length/\jd y.2 (T y.1)) (fun y=>l.length-y.1) (0,[]) rfl rfl ⟨an _,by rw[hT0];exact .nil⟩ ?_
 rintro⟨i,U⟩ ⟨p1,p2⟩;simp only at p1 p2;have hU1:=p2.length;have hU2:=fZ i;have hU3:=p2.rows (hTr i);refine W1 ?_;refine S0 (fun hb h=>?_) fun hb h=>?_
 ·have hi':i<l.length:=gA
  have hz:=hlm _ (ac hi');have hs:=hTs i hi';have hz1:=eZ l[i];refine W3 ?_;refine S0 (fun hb h=>?_) fun hb h=>?_
  ·have hl2:l[i].aj.length=2:=gA
   have hb:=Wz (b:=true) (y:=l[i]) (.inr hl2);have g1:l[i].aj.getD 1 cZ=l[i].aj[1]:=jR gA;rw[aay,hb.1,hb.2,j4 (by omega:0<l[i].aj.length),g1] at hs;have hz2:=zw l[i] (i:=1) gA;refine W3 ?_;refine C1 (rV l[i].aj[1] (L i) gA) ?_;refine W3 ?_;refine bR 5 gE (i+1,_) gC rfl rfl rfl rfl ⟨gC,?_⟩
   simp only
   rw[<-hs];exact p2.snoc (.refl _)
  ·have hl2:l[i].aj.length≠2:=gA
   rw[aay,agi hl2] at hs;refine bR 5 gE (i+1,_) gC rfl rfl rfl rfl ⟨gC,?_⟩
   simp only
   rw[<-hs];exact p2.snoc (.cons (.refl _) (.cons (.refl _) (.cons (.refl _) (.cons (oV _) .nil))))
 ·have hi':i=l.length:=gA
  subst hi';clear hTs;rw[hTe] at p2
  have hcl:Less (.agg [.d (.s F.fName),.d (.ol n (F.aG.map encS)),.d (.ol (n+1) (lB F.dJ (n+1+1))),.d (.sl U),.d (.i .i64 F.dh.aN),.d (.s F.dh.fName),.d (.ol q (lt F.dh.fArgs (q+1))),
   .d (.i .i64 F.fBody.aN),.d (.s F.fBody.bO),.d (.s F.fBody.fName),.d (.i .i64 F.fBody.fN),.d (.i .i64 F.fBody.fType.aN),.d (.s F.fBody.fType.fName),.d (.ol r (lt F.fBody.fType.fArgs (r+1))),
   .d (.ol (r+(gG F.fBody.fType.fArgs+1)) (lE F.fBody.fArgs (r+(gG F.fBody.fType.fArgs+1)+1))),.d (.ol (r+(gG F.fBody.fType.fArgs+1)+(l7 F.fBody.fArgs+1)) (lM F.fBody.aX (r+(gG F.fBody.fType.fArgs+1)+(l7 F.fBody.fArgs+1)+1)))]) F.v:=by
   have lab:∀(es:List (List D))(k j:Nat),pW (.d (.ol k (eO es j))) (.d (.sl es)):=fun es k j w σ S β v h=>(qE es j).rep (vI h);exact(fP.cons (.refl _) (.cons (JW _ _) (.cons (lab _ _ _) (.cons (xK (p2.trans (qE _ _))) (.cons (.refl _) (.cons (.refl _) (.cons (lab _ _ _) (.cons (.refl _) (.cons (.refl _) (.cons (.refl _) (.cons (.refl _) (.cons (.refl _) (.cons (.refl _) (.cons (lab _ _ _) (.cons (lab _ _ _) (.cons (lab _ _ _) .nil)))))))))))))))).less
  rw[<-hF] at hds;refine lQ (JU F gA) (.cons hcl .nil) ?_;refine W1 ?_;refine S0 (fun hb h=>?_) fun hb h=>?_
  ·exact gH (aO fun e=>by rw[<-hF] at e;rw[e.2.2.1] at h;cases h)
  have hv:=h;have hz:=ZC (xw hv).2.2.2;refine W3 ?_;refine lQ (aD.less (EF F 0 hv gA) (AO (xu F) 0)) (.cons hcl .nil) ?_;refine W1 ?_;refine C1 (r9 (xu F) x gA) ?_;refine S0 (fun hb h=>?_) fun hb h=>?_
  ·exact gH (aO fun e=>h (by rw[<-hF] at e;exact e.2.2.2))
  ·have hy:okF x=true:=by
    unfold okF;rw[<-hF];exact bK ⟨hf.1,hf.2,hv,h⟩
   rw[adl hy,hy,<-hF,<-hp,<-hq,<-hr0];exact(jr.cons (.cons (.refl _) (.cons (.refl _) (.cons (.refl _) (.cons (KV p2) (.refl _))))) (.refl _)).less
end Go.Ab