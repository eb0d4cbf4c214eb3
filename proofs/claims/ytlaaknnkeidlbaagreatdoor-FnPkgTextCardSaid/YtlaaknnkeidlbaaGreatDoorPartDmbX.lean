/-
  SEVERAL TEXTS IN ONE (merged by program): contracts and models, each with its own heading.
-/
import Derived.Test.YtlaaknnkeidlbaaGreatDoorPartDmbN
import Derived.Test.YtlaaknnkeidlbaaGreatDoorPartDmbO
import Derived.Lib.Atoi
import Derived.Shelf.Strconv.Atoi
import Derived.Shelf.LaysC
import Derived.Shelf.Strconv.AtoiErr
import Derived.Shelf.Strconv.ErrVar
import Derived.Lib.AppendIntMem
import Derived.Lib.AtoiBound
set_option maxHeartbeats 8000000
open Go.Proofs Go.Proofs.Tryz
set_option linter.unusedSimpArgs false
set_option linter.unusedVariables false
set_option maxRecDepth 4000
namespace Go.Ab
theorem aop{x:ah}{i:Nat}(hi:i<x.aj.length)(h:x.sz<=4194304):x.aj[i].sz<=4194304:=by
 have:=kT (List.getElem_mem hi);rw[jP,kZ] at h;omega
theorem aoq{x:ah}(h:x.sz<=4194304):x.aQ.length<=4194304/\x.aj.length<=4194304:=by
 rw[jP] at h;omega
theorem Ck:∀n:Nat,(∀x:ah,SizeOf.sizeOf x<n->∀y:ah,x.sz<=4194304->aF prog 29 [x.v,y.v] (.c (.d (.b (dec (x=y))))))/\
 (∀xs:List ah,SizeOf.sizeOf xs<n->∀ys:List ah,xs.length<=4194304->(∀t∈xs,t.sz<=4194304)->aF prog 79 [.c (.d (.sl (xs.map ah.enc))),.c (.d (.sl (ys.map ah.enc))),.c (.fn 29 [])] (.c (.d (.b (dec (xs=ys))))))
 |0=>⟨fun x h=>by omega,fun x h=>by omega⟩
 |n+1=>by
  obtain⟨ih,uM⟩:=Ck n;refine⟨fun x hn y hsz S=> ?_,fun xs hn ys hlen hsz S=> ?_⟩
  ·have att:=ah.DV x;have hb:=aoq hsz;refine zcx [.tmp 4] func29 ntmps29 ?_;refine W1 ?_;refine S0 (fun hb h=>?_) fun hb h=>?_
   ·have h1:=h;refine W3 ?_
    refine bD (uM x.aj (by omega) y.aj (by omega) (fun t ht=>by
     obtain⟨i,hi,e⟩:=List.getElem_of_mem ht
     rw[<-e];exact aop hi hsz)) ?_
    refine W1 ?_;refine aI (iO ⟨fun e=>ah.ext h1 e,fun e=>by rw[e]⟩)
   ·exact aI (aR (fun e=>h (by rw[e]))).symm
  ·refine zcx [.tmp 6] func79 ntmps79 ?_;refine W1 ?_;refine S0 (fun hb h=>?_) fun hb h=>?_
   ·exact aI (aR (fun e=>h (by rw[e]))).symm
   have hl:xs.length=ys.length:=by omega
   refine aZ (ι:=Nat) zmx rfl [1,2,15,16,17] (fun y=>[.c (.d (.sl (ys.map ah.enc))),.c (.fn 29 []),.c (.d (.sl (xs.map ah.enc))),.c (.d (.i .i64 xs.length)),.c (.d (.i .i64 y))]) (fun y=>[]::S)
    (fun i=>i<=xs.length/\∀j,j<i->xs[j]? =ys[j]?) (fun y=>xs.length-y) 0 rfl rfl ⟨Nat.zero_le _,fun j h=>by omega⟩ ?_
   rintro i ⟨p1,p2⟩;refine W1 ?_;refine S0 (fun hb h=>?_) fun hb h=>?_
   ·have hi:i<xs.length:=by omega
    have hi':i<ys.length:=by omega
    refine W3 ?_;refine C1 (ih xs[i] (by have:=List.sizeOf_lt_of_mem (List.getElem_mem hi);omega) ys[i] (hsz _ (List.getElem_mem hi))) ?_;refine S0 (fun hb h=>?_) fun hb h=>?_
    ·exact aI (aR (fun e=>h (by simp only[e]))).symm
    refine bT 0 (by decide) (i+1) (by omega) rfl rfl rfl rfl ⟨by omega,fun j hj=> ?_⟩;by_cases e:j=i
    ·subst e;rw[List.getElem?_eq_getElem hi,List.getElem?_eq_getElem hi',h]
    ·exact p2 j (by omega)
   ·have hi:i=xs.length:=by omega
    refine aI (bM (List.ext_getElem? fun j=> ?_)).symm;by_cases hj:j<i
    ·exact p2 j hj
    ·rw[List.getElem?_eq_none (by omega),List.getElem?_eq_none (by omega)]
theorem qM(x y:ah)(h:x.sz<=4194304):aF prog 29 [x.v,y.v] (.c (.d (.b (dec (x=y))))):=(Ck _).1 x (Nat.lt_succ_self _) y h
def dQ(l:List ah)(i:Nat):List UInt8:=(l.getD i eY).aQ
theorem lK{l:List ah}{i:Nat}(h:i<l.length):dQ l i=l[i].aQ:=by simp[dQ,List.getD,h]
theorem XA{l:List ah}{i:Nat}(h:l.length<=i):dQ l i=[]:=by simp[dQ,List.getD,h];rfl
def gB(l:List ah):List (List UInt8):=if l.all (fun x=>decide (x.aQ≠[]))=true then l.map ah.aQ else []
theorem nS:∀{vs:List (List UInt8)},(∀v∈vs,v≠[])->gB (aO vs)=vs:=fun {vs} h=>by
 unfold gB aO;rw[if_pos (List.all_eq_true.2 fun x hx=> ?_),List.map_map]
 ·conv=>rhs;rw[<-List.map_id vs]
  rfl
 ·obtain⟨v,hv,rfl⟩:=List.mem_map.1 hx;exact decide_eq_true (h v hv)
theorem XB:∀l:List ah,((l.map ah.aQ).map List.length).sum<=dA l
 |[]=>by simp[dA]
 |x::l=>by
  have:=XB l;rw[List.map_cons,List.map_cons,List.sum_cons,dA,jP];omega
theorem tu(l:List ah):(gB l).length<=l.length/\((gB l).map List.length).sum<=dA l:=by
 unfold gB;split
 ·refine⟨by simp,?_⟩;exact XB l
 ·simp
mutual
def fK(b:Bool):ah->ak
 | .mk a l=>if a=[] then
    if l.length<2 then .mk 0 [] []
    else if dQ l 0=II/\(b=true\/l.length=2/\dQ l 1≠[]) then .mk 4 (dQ l 1) []
    else if dQ l 0=jf/\(b=true\/l.length=3/\dQ l 1≠[]) then .mk 3 (dQ l 1) ((qZ b l).drop 2)
    else .mk 2 (dQ l 0) ((qZ b l).drop 1)
   else if a.head? =some 39 then .mk 1 a.tail [] else .mk 2 a []
def qZ(b:Bool):List ah->List ak
 |[]=>[]
 |x::xs=>fK b x::qZ b xs
end
theorem zA(b:Bool):∀l,qZ b l=l.map (fK b)
 |[]=>rfl
 |t::ts=>by rw[qZ,List.map_cons,zA b ts]
theorem al7(b:Bool)(x:ah):fK b x=if x.aQ=[] then
 if x.aj.length<2 then .mk 0 [] []
 else if dQ x.aj 0=II/\(b=true\/x.aj.length=2/\dQ x.aj 1≠[]) then .mk 4 (dQ x.aj 1) []
 else if dQ x.aj 0=jf/\(b=true\/x.aj.length=3/\dQ x.aj 1≠[]) then .mk 3 (dQ x.aj 1) ((x.aj.map (fK b)).drop 2)
 else .mk 2 (dQ x.aj 0) ((x.aj.map (fK b)).drop 1)
 else if x.aQ.head? =some 39 then .mk 1 x.aQ.tail [] else .mk 2 x.aQ []:=by
 cases x;rw[fK,zA];rfl
theorem Qx:∀a b,rU (a++b)=rU a+rU b
 |[],b=>by simp[rU]
 |x::a,b=>by rw[List.cons_append,rU,rU,Qx a b];omega
theorem XC(l:List ak)(i:Nat):rU (l.drop i)<=rU l:=by
 have:=Qx (l.take i) (l.drop i);rw[List.take_append_drop] at this;omega
theorem ajw(l:List ah)(i:Nat):dA (l.drop i)<=dA l:=by
 have:=gL (l.take i) (l.drop i);rw[List.take_append_drop] at this;omega
theorem afN(l:List ah)(i:Nat):(dQ l i).length<=dA l:=by
 by_cases h:i<l.length
 ·rw[lK h];have h1:=kT (List.getElem_mem h);rw[jP] at h1;omega
 ·rw[XA (by omega)];simp
mutual
theorem zB(b:Bool):∀x:ah,(fK b x).sz<=x.sz
 | .mk a l=>by
   have h1:=Jd b l;have h2:=XC (qZ b l) 2;have h3:=XC (qZ b l) 1;have h4:=afN l 0;have h5:=afN l 1
   have h6:(qZ b l).length=l.length:=by rw[zA,List.length_map]
   rw[jP,kZ];simp only[ah.aQ,ah.aj];rw[fK];split
   ·split
    ·rw[wZ];simp[ak.fName,ak.fArgs,rU]
    ·split
     ·rw[wZ];simp[ak.fName,ak.fArgs,rU];omega
     ·have g0:=FP b l 0;have g1:=FP b l 1;simp only[Nat.zero_add,Nat.reduceAdd] at g0 g1;split
      ·rw[wZ];simp only[ak.fName,ak.fArgs,List.length_drop,h6];omega
      ·rw[wZ];simp only[ak.fName,ak.fArgs,List.length_drop,h6];omega
   ·split
    ·rw[wZ];simp[ak.fName,ak.fArgs,rU];omega
    ·rw[wZ];simp[ak.fName,ak.fArgs,rU]
theorem Jd(b:Bool):∀l:List ah,rU (qZ b l)<=dA l
 |[]=>by simp[qZ,rU]
 |x::xs=>by
  have h1:=zB b x;have h2:=Jd b xs;rw[qZ,rU,dA];omega
theorem FP(b:Bool):∀(l:List ah)(i:Nat),rU ((qZ b l).drop (i+1))+(dQ l i).length<=dA l
 |[],i=>by simp[qZ,rU,XA]
 |x::xs,0=>by
  have h2:=Jd b xs;rw[qZ,List.drop_succ_cons,List.drop_zero,dA,show dQ (x::xs) 0=x.aQ from rfl,jP];omega
 |x::xs,i+1=>by
  have h2:=FP b xs i;rw[qZ,List.drop_succ_cons,dA,show dQ (x::xs) (i+1)=dQ xs i from rfl];omega
end
theorem Ho{s:List UInt8}(h:validName s=true):s≠[]:=fun e=>by rw[e] at h;have:=gJ h;simp at this
theorem afO{s:List UInt8}(h:validName s=true):s.head? ≠some 39:=fun e=>by
 have h1:=gJ h;have h2:=h1.2.2 0 (by omega)
 cases s with
 |nil=>cases e
 |cons c s=>
  simp only[List.head?_cons,Option.some.injEq] at e;subst e;simp[lowerB,sO] at h2
theorem ajx{s:List UInt8}(h:validName s=true):s≠II/\s≠jf:=by
 have h1:=(gJ h).2.1;refine⟨fun e=>h1 (by rw[e];simp[reserved,II]),fun e=>h1 (by rw[e];simp[reserved,jf])⟩
mutual
theorem xS(b:Bool):∀t:ak,formed t=true->fK b (dn t)=t
 | .mk k n zs=>fun hf=>by
   rw[formed,Bool.and_eq_true] at hf;have hfi:=gJ hf.1;have hzs:=NR b zs hf.2;rw[dn];by_cases h1:k=1
   ·have hz:zs=[]:=by
     have:zs.length=0:=by omega
     exact List.eq_nil_of_length_eq_zero this
    rw[if_pos h1,bN,fK,if_neg (by simp),if_pos (by simp),hz,h1];rfl
   rw[if_neg h1];by_cases h4:k=4
   ·have hz:zs=[]:=by
     have:zs.length=0:=by omega
     exact List.eq_nil_of_length_eq_zero this
    have hn:validName n=true:=by
     rcases hfi with h|h|h
     ·exact h.2.1
     ·exact h.2.1
     ·omega
    rw[if_pos h4,bH,fK,if_pos rfl,if_neg (by simp),if_pos ⟨rfl,.inr ⟨rfl,Ho hn⟩⟩,hz,h4];rfl
   rw[if_neg h4];by_cases h2:k=2/\zs.length=0
   ·have hz:zs=[]:=List.eq_nil_of_length_eq_zero h2.2
    have hn:n≠[]/\n.head? ≠some 39:=by
     rcases hfi with h|h|h
     ·omega
     ·omega
     ·rcases h.2 with g|g
      ·exact⟨Ho g.1,afO g.1⟩
      ·rcases gJ g.1 with e|e<;>rw[e]<;>simp
    rw[if_pos h2,bN,fK,if_neg hn.1,if_neg hn.2,hz,h2.1]
   rw[if_neg h2];by_cases h3:k=3
   ·have hz:zs.length=1/\validName n=true:=by
     rcases hfi with h|h|h
     ·omega
     ·exact⟨h.2.2,h.2.1⟩
     ·omega
    rw[if_pos h3,bH,fK,if_pos rfl,if_neg (by simp),if_neg (fun h=>by have:=h.1;simp[dQ,bN,ah.aQ,II,jf] at this),if_pos ⟨rfl,.inr ⟨by rw[wX];simp[hz.1],Ho hz.2⟩⟩];show ak.mk 3 n (qZ b (EB zs))=_;rw[hzs,h3]
   ·have hn:validName n=true/\zs≠[]:=by
     rcases hfi with h|h|h
     ·omega
     ·omega
     ·rcases h.2 with g|g
      ·exact⟨g.1,fun e=>h2 ⟨h.1,by rw[e];rfl⟩⟩
      ·exact(h2 ⟨h.1,g.2⟩).elim
    have hk:k=2:=by
     rcases hfi with h|h|h
     ·omega
     ·omega
     ·exact h.1
    have hd:=ajx hn.1;rw[if_neg h3,bH,fK,if_pos rfl,if_neg (by rw[wX];cases zs with|nil=>exact(hn.2 rfl).elim|cons z zs=>simp),if_neg (fun h=>hd.1 h.1),if_neg (fun h=>hd.2 h.1)];show ak.mk 2 n (qZ b (EB zs))=_;rw[hzs,hk]
theorem NR(b:Bool):∀ts:List ak,iZ ts=true->qZ b (EB ts)=ts
 |[],_=>rfl
 |t::ts,h=>by
  rw[iZ,Bool.and_eq_true] at h;rw[EB,qZ,xS b t h.1,NR b ts h.2]
end
theorem Gi(b:Bool){ts:List ak}(h:iZ ts=true):(ts.map dn).map (fK b)=ts:=by
 have:=NR b ts h;rw[zA,wX] at this;exact this
def yg(b:Bool)(y:ah):bL:=⟨dQ y.aj 0,(y.aj.drop 1).map (fK b)⟩
def tX(b:Bool)(x:ah):aX:=⟨dQ x.aj 1,gB (x.aj.getD 2 eY).aj,(x.aj.drop 3).map (yg b)⟩
theorem zC{vs:List (List UInt8)}(h:iI vs=true):∀v∈vs,v≠[]:=fun v hv=>by
 unfold iI at h;rw[Bool.and_eq_true] at h;exact Ho (List.all_eq_true.1 h.2 v hv)
theorem al8(b:Bool){c:bL}(h:iZ c.gY=true):yg b (Cg c)=c:=by
 show bL.mk c.fName ((c.gY.map dn).map (fK b))=c;rw[Gi b h]
theorem RJ{d:aX}(h:fD d=true):∀v∈d.aH,v≠[]:=by
 unfold fD at h;simp only[Bool.and_eq_true] at h;exact zC (by simp_all)
theorem RL(b:Bool){d:aX}(h:fD d=true):tX b (sS d)=d:=by
 show aX.mk d.fName (gB (aO d.aH)) ((d.aC.map Cg).map (yg b))=d;rw[nS (RJ h),List.map_map,show d.aC.map (yg b∘Cg)=d.aC.map id from List.map_congr_left (fun c hc=>al8 b (GY h c hc)),List.map_id]
theorem ajy(d:aX):3<=(sS d).aj.length/\dQ (sS d).aj 0=qd:=⟨by rw[sS,dw];simp[baseD],rfl⟩
noncomputable def okD(x:ah):Bool:=dec (dV x=true/\3<=x.aj.length/\dQ x.aj 0=qd/\fD (tX true x)=true/\sS (tX true x)=x)
noncomputable def xV(x:ah):aX:=if okD x=true then tX true x else⟨[],[],[]⟩
theorem Je:eY.sz=0:=by rw[jP];simp[eY,ah.aQ,ah.aj,aP]
theorem al9(b:Bool)(y:ah):(yg b y).sz<=y.sz:=by
 have h:=FP b y.aj 0;rw[zA] at h;rw[xk,jP,kZ];simp only[yg,List.length_map,List.length_drop,<-List.map_drop,Nat.zero_add] at h ⊢;omega
theorem XD(b:Bool):∀l:List ah,C9 (l.map (yg b))<=dA l
 |[]=>by simp[C9]
 |y::l=>by
  have h1:=al9 b y;have h2:=XD b l;rw[List.map_cons,C9,dA];omega
theorem acX(l:List ah):(dQ l 1).length+((l.getD 2 eY).aj.length+dA (l.getD 2 eY).aj)+dA (l.drop 3)<=dA l:=by
 match l with
 |[]=>simp[dQ,dA,eY,ah.aQ,ah.aj]
 |[x]=>simp[dQ,dA,eY,ah.aQ,ah.aj]
 |[x,y]=>
  simp only[dA,jP y];simp[dQ,dA,eY,ah.aQ,ah.aj];omega
 |x::y::z::l=>
  simp only[dA,jP y,jP z,kZ];simp[dQ];omega
theorem Z8(b:Bool)(x:ah):(tX b x).sz<=x.sz:=by
 have h1:=XD b (x.aj.drop 3);have h2:=tu (x.aj.getD 2 eY).aj;have h3:=acX x.aj;rw[qU,jP,kZ];simp only[tX,List.length_map,List.length_drop];omega
theorem MS(d:Nat)(h:d<10):Lib.digitVal (UInt8.ofNat (48+d))=some d:=by
 have:(UInt8.ofNat (48+d)).toNat=48+d:=by rw[UInt8.toNat_ofNat'];omega
 unfold Lib.digitVal;rw[this,if_pos (by omega)];congr 1;omega
theorem KZ:∀(l:List UInt8)(acc:Nat)(b:UInt8),Lib.decFrom acc (l++[b])=(Lib.decFrom acc l).bind fun m=>(Lib.digitVal b).map fun d=>m*10+d
 |[],acc,b=>by
  rw[List.nil_append,Lib.decFrom,Lib.decFrom];cases Lib.digitVal b<;>rfl
 |a::l,acc,b=>by
  rw[List.cons_append,Lib.decFrom,Lib.decFrom]
  cases Lib.digitVal a with
  |none=>rfl
  |some e=>exact KZ l _ b
theorem RN(n:Nat):Lib.decFrom 0 (Lib.decDigits n)=some n:=by
 induction n using Nat.strongRecOn with
 |_ n ih=>
  rw[Lib.decDigits];split
  ·rename_i h;rw[Lib.decFrom,MS n h];simp[Lib.decFrom]
  ·rename_i h;rw[KZ,ih (n/10) (by omega),MS _ (Nat.mod_lt _ (by decide))];simp only[Option.bind_some,Option.map_some,Option.some.injEq];omega
theorem Hr(n:Nat):∃b r,Lib.decDigits n=b::r/\48<=b.toNat/\b.toNat<=57:=by
 induction n using Nat.strongRecOn with
 |_ n ih=>
  rw[Lib.decDigits];split
  ·rename_i h;exact⟨_,_,rfl,by rw[UInt8.toNat_ofNat'];omega,by rw[UInt8.toNat_ofNat'];omega⟩
  ·rename_i h;obtain⟨b,r,e,h1,h2⟩:=ih (n/10) (by omega);rw[e];exact⟨b,r++_,rfl,h1,h2⟩
theorem JA(n:Nat):Lib.decNat (Lib.decDigits n)=some n:=by
 obtain⟨b,r,e,_⟩:=Hr n;unfold Lib.decNat;rw[show(Lib.decDigits n).isEmpty=false from by rw[e];rfl];exact RN n
theorem K3(b:UInt8)(r:List UInt8):Lib.atoi (b::r)=if b==45 then(Lib.decNat r).map fun(m:Nat)=> -(m:Int) else if b==43 then(Lib.decNat r).map fun(m:Nat)=>(m:Int) else(Lib.decNat (b::r)).map fun(m:Nat)=>(m:Int):=rfl
theorem TM(n:Int):Lib.atoi (Lib.itoa n)=some n:=by
 unfold Lib.itoa;split
 ·rename_i h;show Lib.atoi (45::Lib.decDigits n.natAbs)=_;rw[K3,if_pos (by decide),JA];simp only[Option.map_some,Option.some.injEq];omega
 ·rename_i h;obtain⟨b,r,e,h1,h2⟩:=Hr n.toNat;have hd:=JA n.toNat;rw[e] at hd ⊢;rw[K3,if_neg (by simp only[beq_iff_eq];intro h;rw[h] at h1;revert h1;decide),if_neg (by simp only[beq_iff_eq];intro h;rw[h] at h1;revert h1;decide),hd];simp only[Option.map_some,Option.some.injEq];omega
theorem ama(n:Int):Lib.itoa n≠[]:=fun e=>by
 have:=TM n;rw[e] at this;cases this
def mq(s:List UInt8):Option Int:=match Lib.atoi s with
 |some n=>if(-999999999999<=n/\n<=999999999999)/\Lib.itoa n=s then some n else none
 |none=>none
theorem acY{n:Int}(h: -999999999999<=n/\n<=999999999999):mq (Lib.itoa n)=some n:=by
 unfold mq;rw[TM];exact if_pos ⟨h,rfl⟩
theorem EW{b:UInt8}{r:List UInt8}(h:lowerB b):mq (b::r)=none:=by
 have h1:(b==45)=false:=by simp only[beq_eq_false_iff_ne];intro e;rw[e] at h;revert h;simp[lowerB]
 have h2:(b==43)=false:=by simp only[beq_eq_false_iff_ne];intro e;rw[e] at h;revert h;simp[lowerB]
 have h3:Lib.digitVal b=none:=if_neg (fun x=>by unfold lowerB at h;omega);unfold mq;rw[K3,h1,h2];simp[Lib.decNat,Lib.decFrom,h3]
theorem acZ{s:List UInt8}(h:validName s=true):mq s=none:=by
 have h1:=gJ h;have h2:=h1.2.2 0 (by omega)
 cases s with
 |nil=>simp at h1
 |cons b r=>
  rcases h2 with h2|h2
  ·exact EW h2
  ·exact(h2.1 rfl).elim
def jA:ak:=.mk 0 [] []
def nA:ay:=.mk 0 [] [] 0 jA [] []
mutual
def fP(b:Bool):ah->ay
 | .mk a l=>if a=[] then
    if b=true/\(l.length<2\/dQ l 0=jm/\l.length<3) then nA
    else if dQ l 0=oU then .mk 4 [] (dQ l 1) 0 jA ((gq b l).drop 2) []
    else if dQ l 0=tO then .mk 6 [] (dQ l 1) 0 jA ((gq b l).drop 2) []
    else if dQ l 0=tQ then .mk 8 [] (dQ l 1) 0 jA ((gq b l).drop 2) []
    else if dQ l 0=oV then .mk 11 (dQ l 1) [] 0 jA ((gq b l).drop 2) []
    else if dQ l 0=jm then .mk 5 (dQ l 1) (dQ l 2) 0 jA ((gq b l).drop 3) []
    else if dQ l 0=yD then .mk 9 [] [] 0 jA ((gq b l).drop 1) []
    else if dQ l 0=uF then .mk 12 [] [] 0 (fK b (l.getD 1 eY)) ((gq b l).drop 2) []
    else if dQ l 0=kW then .mk 7 [] [] 0 jA (((gq b l).drop 1).take 1) ((nT b l).drop 2)
    else .mk 10 [] (dQ l 0) 0 jA ((gq b l).drop 1) []
   else match mq a with
    |some n=>.mk 1 [] [] n jA [] []
    |none=>if a=Bz then .mk 2 [] [] 1 jA [] [] else if a=Ad then .mk 2 [] [] 0 jA [] [] else .mk 3 [] a 0 jA [] []
def gq(b:Bool):List ah->List ay
 |[]=>[]
 |x::xs=>fP b x::gq b xs
def wC(b:Bool):ah->bq
 | .mk a l=>if l.length<2 then .mk [] [] nA else .mk (dQ l 0) (gB ((l.drop 1).dropLast)) ((gq b l).getLastD nA)
def nT(b:Bool):List ah->List bq
 |[]=>[]
 |x::xs=>wC b x::nT b xs
end
theorem Cm(b:Bool):∀l,gq b l=l.map (fP b)
 |[]=>rfl
 |t::ts=>by rw[gq,List.map_cons,Cm b ts]
theorem FQ(b:Bool):∀l,nT b l=l.map (wC b)
 |[]=>rfl
 |t::ts=>by rw[nT,List.map_cons,FQ b ts]
theorem mJ(b:Bool)(l m:List ah):gq b (l++m)=gq b l++gq b m:=by simp only[Cm,List.map_append]
theorem rW(b:Bool)(l m:List ah):nT b (l++m)=nT b l++nT b m:=by simp only[FQ,List.map_append]
theorem su{t:ak}(h:yG t):t=jA:=ak.ext h.1 h.2.1 (List.eq_nil_of_length_eq_zero h.2.2)
theorem Zh{s:List UInt8}(h:s∈ops):s≠[]/\∀w∈[oU,tO,tQ,oV,jm,yD,uF,kW],s≠w:=by
 have:=ae5 h;refine⟨fun e=>by rw[e] at this;simp at this,fun w hw e=> ?_⟩;rw[e] at this;simp only[List.mem_cons,List.not_mem_nil,or_false] at hw;rcases hw with g|g|g|g|g|g|g|g<;>rw[g] at this<;>revert this<;>decide
mutual
theorem Ht(b:Bool):∀e:ay,iR e=true->fP b (fu e)=e
 | .mk k tr nm n ty zs ms=>fun hok=>by
   rw[iR,Bool.and_eq_true,Bool.and_eq_true] at hok;have hf:=gJ hok.1;have h1:=XE b zs hok.2.1;have h2:=XF b ms hok.2.2;obtain⟨p0,p1,p2,p3,p4,p5,p6⟩:=hf;simp only[ay.aM,ay.bO,ay.fName,ay.fN,ay.fType,ay.fArgs,ay.aT] at p0 p1 p2 p3 p4 p5 p6;have nz:∀{l:List ay},l.length=0->l=[]:=fun h=>List.eq_nil_of_length_eq_zero h
   have K4:k≠7->ms=[]:=fun h=>List.eq_nil_of_length_eq_zero (by
    have:¬0<ms.length:=fun x=>h (p6.2 x)
    omega)
   have hk:k=1\/k=2\/k=3\/k=4\/k=5\/k=6\/k=7\/k=8\/k=9\/k=10\/k=11\/k=12:=by omega
   rcases hk with rfl|rfl|rfl|rfl|rfl|rfl|rfl|rfl|rfl|rfl|rfl|rfl
   all_goals simp only[if_true,if_false,true_or,or_true,false_or,or_false,or_self,(by decide:(1:Int)=5<->False),Int.reduceEq] at p1 p2 p3 p4 p5
   ·have e1:=su p4;have e2:=nz p5;have e3:=K4 (by decide);subst e1 e2 e3 p1 p2;rw[fu,if_pos rfl,bN,fP,if_neg (ama n),acY (by omega)]
   ·have e1:=su p4;have e2:=nz p5;have e3:=K4 (by decide);subst e1 e2 e3 p1 p2;rw[fu,if_neg (by decide),if_pos rfl,bN,fP];rcases p3 with rfl|rfl
    ·rw[if_neg (by decide:¬(0:Int)=1),if_neg (by decide),show mq Ad=none from EW (by simp[lowerB]),if_neg (by decide),if_pos rfl]
    ·rw[if_pos rfl,if_neg (by decide),show mq Bz=none from EW (by simp[lowerB]),if_pos rfl]
   ·have e1:=su p4;have e2:=nz p5;have e3:=K4 (by decide);subst e1 e2 e3 p1 p3;have hr:=(gJ p2).2.1;rw[fu,if_neg (by decide),if_neg (by decide),if_pos rfl,bN,fP,if_neg (Ho p2),acZ p2,if_neg (fun e=>hr (by rw[e];simp[reserved,Bz])),if_neg (fun e=>hr (by rw[e];simp[reserved,Ad]))]
   all_goals have hz:(CF zs).length=zs.length:=by rw[EI,List.length_map]
   ·have e1:=su p4;have e3:=K4 (by decide);subst e1 e3 p1 p3;simp[fu,jg,bH,aO,fP,gq,mJ,nT,rW,dQ,bN,ah.aQ,oU,jm,tO,kW,tQ,yD,oV,uF,h1,hz,h2]
    all_goals (intros;omega)
   ·have e1:=su p4;have e3:=K4 (by decide);subst e1 e3 p3;simp[fu,jg,bH,aO,fP,gq,mJ,nT,rW,dQ,bN,ah.aQ,oU,jm,tO,kW,tQ,yD,oV,uF,h1,hz,h2]
    all_goals (intros;omega)
   ·have e1:=su p4;have e3:=K4 (by decide);subst e1 e3 p1 p3;simp[fu,jg,bH,aO,fP,gq,mJ,nT,rW,dQ,bN,ah.aQ,oU,jm,tO,kW,tQ,yD,oV,uF,h1,hz,h2]
    all_goals (intros;omega)
   ·have e1:=su p4;subst e1 p1 p2 p3;have hm:0<ms.length:=p6.1 rfl
    obtain⟨z,rfl⟩:∃z,zs=[z]:=by
     cases zs with
     |nil=>simp at p5
     |cons z t=>cases t with
      |nil=>exact⟨z,rfl⟩
      |cons _ _=>simp at p5
    simp only[CF,gq,List.cons.injEq,and_true] at h1;simp[fu,jg,bH,aO,fP,gq,mJ,nT,rW,CF,dQ,bN,ah.aQ,oU,jm,tO,kW,tQ,yD,oV,uF,h1,h2]
    all_goals (intros;omega)
   ·have e1:=su p4;have e3:=K4 (by decide);subst e1 e3 p1 p3;simp[fu,jg,bH,aO,fP,gq,mJ,nT,rW,dQ,bN,ah.aQ,oU,jm,tO,kW,tQ,yD,oV,uF,h1,hz,h2]
    all_goals (intros;omega)
   ·have e1:=su p4;have e3:=K4 (by decide);subst e1 e3 p1 p2 p3;simp[fu,jg,bH,aO,fP,gq,mJ,nT,rW,dQ,bN,ah.aQ,oU,jm,tO,kW,tQ,yD,oV,uF,h1,hz,h2]
    all_goals (intros;omega)
   ·have e1:=su p4;have e3:=K4 (by decide);subst e1 e3 p1 p3;have ho:=Zh p2;simp only[List.mem_cons,List.not_mem_nil,or_false,ne_eq,forall_eq_or_imp,forall_eq] at ho;obtain⟨_,o1,o2,o3,o4,o5,o6,o7,o8⟩:=ho;simp[fu,jg,bH,aO,fP,gq,mJ,dQ,bN,ah.aQ,h1,hz,o1,o2,o3,o4,o5,o6,o7,o8]
    all_goals (intros;omega)
   ·have e1:=su p4;have e3:=K4 (by decide);subst e1 e3 p2 p3;simp[fu,jg,bH,aO,fP,gq,mJ,nT,rW,dQ,bN,ah.aQ,oU,jm,tO,kW,tQ,yD,oV,uF,h1,hz,h2]
    all_goals (intros;omega)
   ·have e3:=K4 (by decide);subst e3 p1 p2 p3;have ht:=xS b ty (wY p4);simp[fu,jg,bH,aO,fP,gq,mJ,dQ,bN,ah.aQ,oU,jm,tO,kW,tQ,yD,oV,uF,h1,hz,ht]
    all_goals (intros;omega)
theorem XE(b:Bool):∀es:List ay,mD es=true->gq b (CF es)=es
 |[],_=>rfl
 |t::ts,h=>by
  rw[mD,Bool.and_eq_true] at h;rw[CF,gq,Ht b t h.1,XE b ts h.2]
theorem amb(b:Bool):∀m:bq,xM m=true->wC b (Ar m)=m
 | .mk c vs e=>fun h=>by
   rw[xM,Bool.and_eq_true,Bool.and_eq_true] at h;have he:=Ht b e h.2.2;rw[Ar,bH,wC,if_neg (by simp),mJ];have e1:dQ ([bN c]++aO vs++[fu e]) 0=c:=rfl
   have e2:(([bN c]++aO vs++[fu e]).drop 1).dropLast=aO vs:=by
    rw[List.append_assoc,List.singleton_append,List.drop_succ_cons,List.drop_zero,List.dropLast_concat]
   rw[e1,e2,nS (zC h.2.1)];congr 1;rw[gq,he,List.getLastD_eq_getLast?,List.getLast?_append];simp[gq]
theorem XF(b:Bool):∀ms:List bq,pE ms=true->nT b (IL ms)=ms
 |[],_=>rfl
 |t::ts,h=>by
  rw[pE,Bool.and_eq_true] at h;rw[IL,nT,amb b t h.1,XF b ts h.2]
end
theorem Cn:jA.sz=0:=by rw[wZ];rfl
theorem zD:nA.sz=0:=by rw[yS];simp[nA,ay.bO,ay.fName,ay.fType,ay.fArgs,ay.aT,Cn,vM,Da]
theorem ac0(l:List ah):((gB ((l.drop 1).dropLast)).length+((gB ((l.drop 1).dropLast)).map List.length).sum)<=(l.drop 1).dropLast.length+dA ((l.drop 1).dropLast):=by
 have:=tu ((l.drop 1).dropLast);omega
theorem amc(x:ah)(m:List ah)(y:ah):dA (x::(m++[y]))=x.sz+(dA m+y.sz):=by rw[dA,gL];simp[dA]
mutual
theorem DX(b:Bool):∀x:ah,(fP b x).sz<=x.sz
 | .mk a l=>by
   have g:=TN b l
   have hl:(gq b l).length=l.length:=by rw[Cm,List.length_map]
   have hm:(nT b l).length=l.length:=by rw[FQ,List.length_map]
   rw[jP,kZ];simp only[ah.aQ,ah.aj];rw[fP];split
   ·have g1:vM ((gq b l).drop 1)+(dQ l 0).length<=dA l:=by
     have:=g 0;simp only[Nat.zero_add,(by decide:¬(1<=0)),if_false] at this;omega
    have g2:vM ((gq b l).drop 2)+((dQ l 0).length+(dQ l 1).length)<=dA l:=by
     have:=g 1;simp only[Nat.reduceAdd,Nat.le_refl,if_true,Nat.sub_self] at this;omega
    have g3:vM ((gq b l).drop 3)+((dQ l 1).length+(dQ l 2).length)<=dA l:=by
     have:=g 2;simp only[Nat.reduceAdd,(by decide:1<=2),if_true,Nat.reduceSub] at this;omega
    split
    ·rw[zD];omega
    ·repeat' split
     all_goals rw[yS];simp only[ay.bO,ay.fName,ay.fType,ay.fArgs,ay.aT,Cn,vM,Da,List.length_nil,List.length_drop,List.length_take,hl,hm,List.drop_zero] at g1 g2 g3 ⊢
     all_goals try omega
     ·have h1:=zB b (l.getD 1 eY)
      have h2:vM ((gq b l).drop 2)+(l.getD 1 eY).sz<=dA l:=by
       match l with
       |[]=>simp[gq,vM,dA,Je]
       |[x]=>simp[gq,vM,dA,Je]
       |x::y::l=>
        have:=NS b l;simp only[gq,List.drop_succ_cons,List.drop_zero,dA];show _+y.sz<=_;omega
      omega
     ·match l with
      |[]=>simp[vM,Da,gq,nT]
      |[x]=>simp[vM,Da,gq,nT]
      |x::y::l=>
       have h1:=DX b y;have h2:=XG b l;simp only[gq,nT,List.drop_succ_cons,List.drop_zero,List.take_succ_cons,List.take_zero,vM,dA,List.length_cons];omega
   ·split
    ·rw[yS];simp[ay.bO,ay.fName,ay.fType,ay.fArgs,ay.aT,Cn,vM,Da]
    ·repeat' split
     all_goals rw[yS];simp[ay.bO,ay.fName,ay.fType,ay.fArgs,ay.aT,Cn,vM,Da]
theorem NS(b:Bool):∀l:List ah,vM (gq b l)<=dA l
 |[]=>by simp[gq,vM]
 |x::xs=>by
  have h1:=DX b x;have h2:=NS b xs;rw[gq,vM,dA];omega
theorem TN(b:Bool):∀(l:List ah)(i:Nat),vM ((gq b l).drop (i+1))+((if 1<=i then(dQ l (i-1)).length else 0)+(dQ l i).length)<=dA l
 |[],i=>by simp[gq,vM,XA]
 |x::xs,0=>by
  have h2:=NS b xs;rw[gq,List.drop_succ_cons,List.drop_zero,dA,show dQ (x::xs) 0=x.aQ from rfl,jP];simp;omega
 |x::xs,i+1=>by
  have h2:=TN b xs i;rw[gq,List.drop_succ_cons,dA,show dQ (x::xs) (i+1)=dQ xs i from rfl]
  cases i with
  |zero=>rw[show dQ (x::xs) (0+1-1)=x.aQ from rfl,jP];simp at h2 ⊢;omega
  |succ i=>rw[show dQ (x::xs) (i+1+1-1)=dQ xs i from rfl];simp at h2 ⊢;omega
theorem amd(b:Bool):∀x:ah,(wC b x).sz<=x.sz
 | .mk a l=>by
   rw[jP,kZ];simp only[ah.aQ,ah.aj];rw[wC];split
   ·rw[Ch];simp[bq.dN,bq.aH,bq.fBody,zD]
   ·rename_i h;have hn:=ac0 l;have hb:=Qy b l;rw[Ch];simp only[bq.dN,bq.aH,bq.fBody]
    obtain⟨x,m,y,rfl⟩:∃x m y,l=x::(m++[y]):=by
     cases l with
     |nil=>simp at h
     |cons x l=>
      have hl:l≠[]:=fun e=>by rw[e] at h;simp at h
      exact⟨x,l.dropLast,l.getLast hl,by rw[List.dropLast_concat_getLast]⟩
    rw[amc] at *
    rw[show dQ (x::(m++[y])) 0=x.aQ from rfl,jP x];simp only[List.drop_succ_cons,List.drop_zero,List.dropLast_concat,List.length_cons,List.length_append,List.length_nil] at hn ⊢
    have hy:((x::(m++[y])).getLastD eY)=y:=by rw[<-List.cons_append,List.getLastD_eq_getLast?,List.getLast?_append];simp
    rw[hy] at hb;omega
theorem XG(b:Bool):∀l:List ah,Da (nT b l)<=dA l
 |[]=>by simp[nT,Da]
 |x::xs=>by
  have h1:=amd b x;have h2:=XG b xs;rw[nT,Da,dA];omega
theorem Qy(b:Bool):∀l:List ah,((gq b l).getLastD nA).sz<=(l.getLastD eY).sz
 |[]=>by simp[gq,zD]
 |[x]=>by simpa [gq] using DX b x
 |x::y::l=>by
  have:=Qy b (y::l);simpa [gq] using this
end
def asn(s:List UInt8):Prop:=s.head? =some 45
instance (s:List UInt8):Decidable (asn s):=inferInstanceAs (Decidable (_=_))
theorem Gj{α:Type}[SizeOf α]:∀(i:Nat)(l:List α),SizeOf.sizeOf (l.drop i)<=SizeOf.sizeOf l
 |0,l=>by simp
 |i+1,[]=>by simp
 |i+1,x::l=>by
  have:=Gj i l;rw[List.drop_succ_cons];simp only[List.cons.sizeOf_spec];omega
theorem tC(l:List ah)(n i:Nat)(h:l.length<=n):((l.map ah.enc).take n).drop i=(l.drop i).map ah.enc:=by
 rw[List.take_of_length_le (by rw[List.length_map];exact h),List.map_drop]
theorem Bh(l:List ah)(i:Nat):(l.getD i eY).sz<=dA l:=by
 rw[List.getD_eq_getElem?_getD];by_cases h:i<l.length
 ·rw[List.getElem?_eq_getElem h];exact kT (List.getElem_mem h)
 ·rw[List.getElem?_eq_none (by omega)];rw[Option.getD_none,jP];simp[eY,ah.aQ,ah.aj,aP]
theorem iB(x:ah):x.aj.length+dA x.aj<=x.sz:=by rw[jP,kZ];omega
theorem NT(x:ah):x.aQ.length<=x.sz:=by rw[jP];omega
def DY(x:ah):List D:=[.s x.aQ]
def allA(l:List ah):Bool:=l.all fun x=>decide (x.aQ≠[])
theorem ame{l:List ah}{i:Nat}(hi:i<l.length)(h:l[i].aQ=[]):allA l=false/\gB l=[]:=by
 have:allA l=false:=by
  unfold allA;rw[List.all_eq_false];exact⟨_,List.getElem_mem hi,by simp[h]⟩
 refine⟨this,?_⟩;unfold gB;unfold allA at this;rw[this];rfl
theorem ajz{l:List ah}(h:∀j (hj:j<l.length),l[j].aQ≠[]):allA l=true/\(gB l).map encS=l.map DY:=by
 have:allA l=true:=by
  unfold allA;rw[List.all_eq_true];intro x hx;obtain⟨j,hj,rfl⟩:=List.getElem_of_mem hx;exact decide_eq_true (h j hj)
 refine⟨this,?_⟩;unfold gB;unfold allA at this;rw[this,if_pos rfl,List.map_map];rfl
theorem XH{l:List ah}{i:Nat}(hi:i<l.length):(l.take i).map DY++[[.s l[i].aQ]]=(l.take (i+1)).map DY:=by
 rw[List.take_succ_eq_append_getElem hi,List.map_append];rfl
theorem Zi{l:List ah}{i:Nat}:((l.take i).map DY).length<=i:=by rw[List.length_map];exact List.length_take_le _ _
def lt(l:List ak)(n:Nat):List (List D):=eZ (l.map ak.enc) n
def fU(l:List ak):Nat:=lI (l.map ak.enc)
theorem amf(x:ak)(n:Nat):fV x.enc n=[.i .i64 x.aM,.s x.fName,.ol n (lt x.fArgs (n+1))]:=by
 rw[ak.aJ];simp only[fV,vB,vw,Nat.add_zero,lt]
theorem afP(l:List ak)(n:Nat):(lt l n).length=l.length:=by unfold lt;rw[lg,List.length_map]
theorem amg{l:List ak}{i:Nat}(hi:i<l.length)(n:Nat):lt (l.take i) n++[[.i .i64 l[i].aM,.s l[i].fName,.ol (n+fU (l.take i)) (lt l[i].fArgs (n+fU (l.take i)+1))]]=lt (l.take (i+1)) n:=by
 rw[List.take_succ_eq_append_getElem hi];unfold lt fU;rw[List.map_append,pJ];simp only[List.map_cons,List.map_nil,eZ,amf,lt]
theorem RO(k:Int)(s:List UInt8)(n:Nat):Less (.agg [.d (.i .i64 k),.d (.s s),.bF []]) (.agg [.d (.i .i64 k),.d (.s s),.d (.ol n [])]):=(gH.cons (.refl _) (.cons (.refl _) (.cons (dX n) .nil))).less
theorem ac1(s:List UInt8)(n:Nat)(h:s.length<=n):(s.take n).drop 1=s.tail:=by rw[List.take_of_length_le h,List.drop_one]
theorem Qz{a b:List (List D)}(h:iH a b):pO (.d (.sl a)) (.d (.sl b)):=fun w σ S β v hr=>h.rep hr
abbrev ak.vl(t:ak)(n:Nat):V:=.agg [.d (.i .i64 t.aM),.d (.s t.fName),.d (.ol n (lt t.fArgs (n+1)))]
theorem xD(l:List (List UInt8)):lI (l.map encS)=0:=by
 induction l with
 |nil=>rfl
 |cons s l ih=>rw[List.map_cons,lI,ih];rfl
theorem akq{b:Bool}{x:ah}{r:V}{n:Nat}{k:Int}{s:List UInt8}{l:List ak}(h:fK b x=.mk k s l)(hl:Less r (.agg [.d (.i .i64 k),.d (.s s),.d (.ol n (lt l (n+1)))])):Less r ((fK b x).vl n):=by rw[h];exact hl
theorem afQ{b:Bool}{x:ah}{n:Nat}{k:Int}{s:List UInt8}(h:fK b x=.mk k s []):Less (.agg [.d (.i .i64 k),.d (.s s),.bF []]) ((fK b x).vl n):=by rw[h];exact RO k s n
theorem afR{b:Bool}{x:ah}{n:Nat}{k:Int}{s:List UInt8}(h:fK b x=.mk k s []):Less (.agg [.d (.i .i64 k),.d (.s s),.d (.ol n [])]) ((fK b x).vl n):=by rw[h];exact pQ _
theorem Zj{s:List UInt8}(h:1<=s.length):(s.take 1).drop 0=[39]<->s.head? =some 39:=by
 cases s with
 |nil=>simp at h
 |cons b s=>simp
theorem QA(s:List UInt8)(hs:s.length<=1073741824):aF prog 266 [.c (.d (.s s)),.c (.d (.s [39]))] (.c (.d (.b (decide (s.head? =some 39))))):=fun S=>by
 refine zcx [.tmp 4] func266 ntmps266 ?_;refine W1 ?_;refine S0 (fun hb h=>?_) fun hb h=>?_
 ·exact aI (decide_eq_decide.2 (Zj (by omega)))
 ·have:s=[]:=List.eq_nil_of_length_eq_zero (by omega);subst this;rfl
theorem QB(s:List UInt8)(hs:s.length<=1073741824):aF prog 239 [.c (.d (.s s)),.c (.d (.s [39]))] (.fF [(false,[.d (.s (if s.head? =some 39 then s.tail else s))]),(false,[.d (.b (decide (s.head? =some 39)))])]):=fun S=>by
 refine zcx [.tmp 4,.tmp 5] func239 ntmps239 ?_;refine W1 ?_;refine C1 (QA s hs) ?_;refine S0 (fun hb h=>?_) fun hb h=>?_
 ·rw[if_neg h,decide_eq_false h]
 ·have hl:0<s.length:=by
   cases s with
   |nil=>cases h
   |cons _ _=>simp
  refine W3 ?_;rw[if_pos h,decide_eq_true h,ac1 _ _ (Nat.le_refl _)]
theorem XI(s:List UInt8)(hs:s.length<=1073741824):aF prog 181 [.c (.d (.s s)),.c (.d (.s [39]))] (.fF [(false,[.d (.s (if s.head? =some 39 then s.tail else s))]),(false,[.d (.b (decide (s.head? =some 39)))])]):=fun S=>by
 refine zcx [.tmp 4,.tmp 5] func181 ntmps181 ?_;refine W1 ?_;exact C3 (QB s hs)
theorem Am(xs:List ah)(hx:xs.length<=1073741824)(n:Nat):aF prog 71 [.c (.d (.sl (xs.map ah.enc)))] (.fF [(false,[.d (.ol n ((gB xs).map encS))]),(false,[.d (.b (allA xs))])]):=aF.of_le fun S=>by
 refine lq (n) (rs:=[.tmp 2,.tmp 3]) zmx func71 ntmps71 rfl rfl rfl rfl rfl ?_;refine W1 ?_;refine W3 ?_;refine kR n 4 1 [] (.inl rfl) (by simp) ?_
 refine aZ (ι:=Nat) zmx rfl [4,8,9,10] (fun i=>[.c (.bI (0,1) ((xs.take i).map DY)),.c (.d (.sl (xs.map ah.enc))),.c (.d (.i .i64 xs.length)),.c (.d (.i .i64 i))]) (fun i=>[.seed n,.eG n 1 ((xs.take i).map DY)]::S)
  (fun i=>i<=xs.length/\∀j,∀hj:j<xs.length,j<i->xs[j].aQ≠[]) (fun i=>xs.length-i) 0 rfl rfl ⟨Nat.zero_le _,fun j _ h=>by omega⟩ ?_
 rintro i ⟨p1,p2⟩;have hl:=Zi (l:=xs) (i:=i);simp -implicitDefEqProofs (disch:=omega) only[go_sem,ah.aJ];refine S0 (fun hb h=>?_) fun hb h=>?_
 ·have hi':i<xs.length:=by omega
  have hs:=XH hi';refine W3 ?_;refine S0 (fun hb h=>?_) fun hb h=>?_
  ·obtain⟨e1,e2⟩:=ame hi' h;rw[e1,e2];exact(kU.cons (.cons (dX n) .nil) (.refl _)).less
  ·refine W3 ?_;rw[hs];refine bT 2 (by decide) (i+1) (by omega) rfl rfl rfl rfl ⟨by omega,fun j hj hji=> ?_⟩;by_cases e':j=i
   ·subst e';exact h
   ·exact p2 j hj (by omega)
 ·have hi':i=xs.length:=by omega
  subst hi';obtain⟨e1,e2⟩:=ajz fun j hj=>p2 j hj hj;rw[e1,e2,List.take_length];exact pQ _
theorem qC(x:ah)(hx:x.sz<=4194304)(n:Nat):aF prog 229 [x.v] (.c (.d (.ol n ((gB x.aj).map encS)))):=fun S=>by
 have:=iB x;refine zcx [.tmp 2] func229 ntmps229 ?_;refine W1 ?_;exact C3 (Am x.aj (by omega) n)
theorem Zk(s:List UInt8)(n:Nat):aF prog 182 [.c (.d (.s s))] (.agg [.d (.i .i64 1),.d (.s s),.d (.ol n [])]):=aF.of_le fun S=>by
 refine zcx [.cell 2 26] func182 ntmps182 ?_;refine W1 ?_;refine W3 ?_;exact RO _ _ _
theorem Zl(s:List UInt8)(n:Nat):aF prog 183 [.c (.d (.s s))] (.agg [.d (.i .i64 4),.d (.s s),.d (.ol n [])]):=aF.of_le fun S=>by
 refine zcx [.cell 2 26] func183 ntmps183 ?_;refine W1 ?_;refine W3 ?_;exact RO _ _ _
theorem CU:∀N:Nat,(∀x:ah,SizeOf.sizeOf x<N->∀n:Nat,x.sz<=4194304->aF prog 94 [x.v] ((fK true x).vl n))/\
 (∀xs:List ah,SizeOf.sizeOf xs<N->∀n q:Nat,xs.length<=4194304->(∀t∈xs,t.sz<=4194304)->aF prog 184 [.c (.d (.sl (xs.map ah.enc)))] (.c (.d (.ol n (lt (xs.map (fK true)) q)))))
 |0=>⟨fun x h=>by omega,fun x h=>by omega⟩
 |N+1=>by
  obtain⟨ih,uM⟩:=CU N;refine⟨fun x hn n hsz=>aF.of_le fun S=> ?_,fun xs hn n q hlen hsz S=> ?_⟩
  ·have kV:=ah.DV x;have h1:=iB x;have h2:=NT x;have hx:=al7 true x
   have hall:∀t∈x.aj,t.sz<=4194304:=fun t ht=>by have:=kT ht;omega
   refine zcx [.cell 2 26] func94 ntmps94 ?_;refine W1 ?_;refine S0 (fun hb h=>?_) fun hb h=>?_
   ·rw[if_neg h] at hx;refine C1 (XI x.aQ (by omega)) ?_;refine S0 (fun hb h=>?_) fun hb h=>?_
    ·rw[if_pos h] at hx ⊢;refine C1 (Zk _ n) ?_;exact afR hx
    ·rw[if_neg h] at hx;refine W3 ?_;exact afQ hx
   rw[if_pos h] at hx;refine S0 (fun hb h=>?_) fun hb h=>?_
   ·rw[if_pos (by omega)] at hx;exact afQ hx
   rw[if_neg (by omega)] at hx
   have hl2:2<=x.aj.length:=by omega
   have a0:=lK (l:=x.aj) (i:=0) (by omega);have a1:=lK (l:=x.aj) (i:=1) (by omega);rw[a0,a1] at hx;have hr:=gV (l:=x.aj);have hd:=fun i=>tC x.aj x.aj.length i (Nat.le_refl _);have hso:=fun i=>Gj i x.aj
   have hdl:∀i,(x.aj.drop i).length<=4194304:=fun i=>by rw[List.length_drop];omega
   have hda:∀i,∀t∈x.aj.drop i,t.sz<=4194304:=fun i t ht=>hall t (List.mem_of_mem_drop ht);refine W3 ?_;refine S0 (fun hb h=>?_) fun hb h=>?_
   ·have hx:=hx.trans (if_pos ⟨h,.inl rfl⟩);refine W3 ?_;refine C1 (Zl _ n) ?_;exact afR hx
   have hx:=hx.trans (if_neg fun e=>h e.1);refine S0 (fun hb h=>?_) fun hb h=>?_
   ·have hx:=hx.trans (if_pos ⟨h,.inl rfl⟩);refine⟨⟨by omega,by omega,hr⟩,?_⟩;rw[hd];refine C1 (uM (x.aj.drop 2) (by have:=hso 2;omega) n (n+1) (hdl 2) (hda 2)) ?_;refine akq hx ?_;rw[List.map_drop];exact pQ _
   ·have hx:=hx.trans (if_neg fun e=>h e.1);refine⟨⟨by omega,by omega,hr⟩,?_⟩;rw[hd];refine C1 (uM (x.aj.drop 1) (by have:=hso 1;omega) n (n+1) (hdl 1) (hda 1)) ?_;refine akq hx ?_;rw[List.map_drop];exact pQ _
  ·have PY:=fun(i:Nat) (hi:i<xs.length)=>amg (l:=xs.map (fK true)) (i:=i) (by rw[List.length_map];exact hi) q;refine lq (n) (rs:=[.tmp 2]) zmx func184 ntmps184 rfl rfl rfl rfl rfl ?_;refine W1 ?_;refine W3 ?_;refine kR n 3 3 [] (.inl rfl) (by simp) ?_
   refine aZ (ι:=Nat) zmx rfl [3,7,8,9] (fun i=>[.c (.bI (0,1) (lt ((xs.map (fK true)).take i) q)),.c (.d (.sl (xs.map ah.enc))),.c (.d (.i .i64 xs.length)),.c (.d (.i .i64 i))]) (fun i=>[.seed n,.eG n 3 (lt ((xs.map (fK true)).take i) q)]::S)
    (fun i=>i<=xs.length) (fun i=>xs.length-i) 0 rfl rfl (Nat.zero_le _) ?_
   intro i hi;simp -implicitDefEqProofs (disch:=omega) only[go_sem,ah.aJ];refine S0 (fun hb h=>?_) fun hb h=>?_
   ·have hi':i<xs.length:=by omega
    have hs:=PY i hi';rw[List.getElem_map] at hs
    have hl:(lt ((xs.map (fK true)).take i) q).length<=i:=by rw[afP];exact List.length_take_le _ _
    refine W3 ?_;refine C1 (ih xs[i] (by have:=List.sizeOf_lt_of_mem (List.getElem_mem hi');omega) (q+fU ((xs.map (fK true)).take i)) (hsz _ (List.getElem_mem hi'))) ?_;refine W3 ?_;rw[hs];exact bT 2 (by decide) (i+1) (by omega) rfl rfl rfl rfl (by omega)
   ·have hi':i=(xs.map (fK true)).length:=by rw[List.length_map];omega
    rw[hi',List.take_length]
theorem qD(x:ah)(n:Nat)(hsz:x.sz<=4194304):aF prog 94 [x.v] ((fK true x).vl n):=(CU _).1 x (Nat.lt_succ_self _) n hsz
theorem Hu(xs:List ah)(n q:Nat)(hlen:xs.length<=4194304)(hsz:∀t∈xs,t.sz<=4194304):aF prog 184 [.c (.d (.sl (xs.map ah.enc)))] (.c (.d (.ol n (lt (xs.map (fK true)) q)))):=(CU _).2 xs (Nat.lt_succ_self _) n q hlen hsz
theorem vG(x:ah)(s:List UInt8)(k:Nat)(hk:1<=k)(hk2:k<=100)(hsz:x.sz<=4194304):aF prog 70 [x.v,.c (.d (.s s)),.c (.d (.i .i64 k))] (.c (.d (.b (dec (dV x=true/\k<=x.aj.length/\dQ x.aj 0=s))))):=fun S=>by
 have h1:=iB x;obtain⟨t,ht⟩:∃t,t=dec (dV x=true/\k<=x.aj.length/\dQ x.aj 0=s):=⟨_,rfl⟩;rw[<-ht];refine zcx [.tmp 6] func70 ntmps70 ?_;refine W1 ?_;refine C1 (qy x (by omega)) ?_;refine S0 (fun hb h=>?_) fun hb h=>?_
 ·have hv:=h;refine S0 (fun hb h=>?_) fun hb h=>?_
  ·have hl:0<x.aj.length:=by omega
   have hl2:k<=x.aj.length:=by omega
   have a0:=lK hl;refine W3 ?_;refine aI ?_;rw[lH,ht];exact iO ⟨fun e=>⟨hv,hl2,by rw[a0];exact e⟩,fun e=>by rw[<-a0];exact e.2.2⟩
  ·exact aI (ht.trans (aR fun e=>by omega)).symm
 ·exact aI (ht.trans (aR fun e=>by rw[e.1] at h;cases h)).symm
theorem qp(b:Bool)(x:ah):fP b x=if x.aQ=[] then
 if b=true/\(x.aj.length<2\/dQ x.aj 0=jm/\x.aj.length<3) then nA
 else if dQ x.aj 0=oU then .mk 4 [] (dQ x.aj 1) 0 jA ((x.aj.map (fP b)).drop 2) []
 else if dQ x.aj 0=tO then .mk 6 [] (dQ x.aj 1) 0 jA ((x.aj.map (fP b)).drop 2) []
 else if dQ x.aj 0=tQ then .mk 8 [] (dQ x.aj 1) 0 jA ((x.aj.map (fP b)).drop 2) []
 else if dQ x.aj 0=oV then .mk 11 (dQ x.aj 1) [] 0 jA ((x.aj.map (fP b)).drop 2) []
 else if dQ x.aj 0=jm then .mk 5 (dQ x.aj 1) (dQ x.aj 2) 0 jA ((x.aj.map (fP b)).drop 3) []
 else if dQ x.aj 0=yD then .mk 9 [] [] 0 jA ((x.aj.map (fP b)).drop 1) []
 else if dQ x.aj 0=uF then .mk 12 [] [] 0 (fK b (x.aj.getD 1 eY)) ((x.aj.map (fP b)).drop 2) []
 else if dQ x.aj 0=kW then .mk 7 [] [] 0 jA (((x.aj.map (fP b)).drop 1).take 1) ((x.aj.map (wC b)).drop 2)
 else .mk 10 [] (dQ x.aj 0) 0 jA ((x.aj.map (fP b)).drop 1) []
 else match mq x.aQ with
  |some n=>.mk 1 [] [] n jA [] []
  |none=>if x.aQ=Bz then .mk 2 [] [] 1 jA [] [] else if x.aQ=Ad then .mk 2 [] [] 0 jA [] [] else .mk 3 [] x.aQ 0 jA [] []:=by
 cases x;rw[fP,Cm,FQ];rfl
theorem amh(b:Bool)(x:ah)(h:2<=x.aj.length):wC b x=.mk (dQ x.aj 0) (gB ((x.aj.drop 1).dropLast)) (fP b (x.aj[x.aj.length-1]'(by omega))):=by
 obtain⟨a,l⟩:=x;simp only[ah.aj] at h ⊢;rw[wC,if_neg (by omega),Cm];congr 1;rw[List.getLastD_eq_getLast?,List.getLast?_eq_getElem?,List.length_map,List.getElem?_eq_getElem (by rw[List.length_map];omega)]
 simp
theorem ami(b:Bool)(x:ah)(h:x.aj.length<2):wC b x=.mk [] [] nA:=by
 obtain⟨a,l⟩:=x;rw[wC];exact if_pos h
def Ao(b:Bool)(l:List ah):Prop:=¬(b=true/\(l.length<2\/dQ l 0=jm/\l.length<3))
theorem afS{b:Bool}{x:ah}(ha:x.aQ=[])(hg:Ao b x.aj)(h:dQ x.aj 0=oU):fP b x=.mk 4 [] (dQ x.aj 1) 0 jA ((x.aj.drop 2).map (fP b)) []:=by
 rw[qp,if_pos ha,if_neg hg,if_pos h];simp only[List.map_drop,List.map_take]
theorem ajA{b:Bool}{x:ah}(ha:x.aQ=[])(hg:Ao b x.aj)(h:dQ x.aj 0=tO):fP b x=.mk 6 [] (dQ x.aj 1) 0 jA ((x.aj.drop 2).map (fP b)) []:=by
 rw[qp,if_pos ha,if_neg hg,if_neg (by rw[h];decide),if_pos h];simp only[List.map_drop,List.map_take]
theorem ajB{b:Bool}{x:ah}(ha:x.aQ=[])(hg:Ao b x.aj)(h:dQ x.aj 0=tQ):fP b x=.mk 8 [] (dQ x.aj 1) 0 jA ((x.aj.drop 2).map (fP b)) []:=by
 rw[qp,if_pos ha,if_neg hg,if_neg (by rw[h];decide),if_neg (by rw[h];decide),if_pos h];simp only[List.map_drop,List.map_take]
theorem afT{b:Bool}{x:ah}(ha:x.aQ=[])(hg:Ao b x.aj)(h:dQ x.aj 0=oV):fP b x=.mk 11 (dQ x.aj 1) [] 0 jA ((x.aj.drop 2).map (fP b)) []:=by
 rw[qp,if_pos ha,if_neg hg,if_neg (by rw[h];decide),if_neg (by rw[h];decide),if_neg (by rw[h];decide),if_pos h];simp only[List.map_drop,List.map_take]
theorem Zm{b:Bool}{x:ah}(ha:x.aQ=[])(hg:Ao b x.aj)(h:dQ x.aj 0=jm):fP b x=.mk 5 (dQ x.aj 1) (dQ x.aj 2) 0 jA ((x.aj.drop 3).map (fP b)) []:=by
 rw[qp,if_pos ha,if_neg hg,if_neg (by rw[h];decide),if_neg (by rw[h];decide),if_neg (by rw[h];decide),if_neg (by rw[h];decide),if_pos h];simp only[List.map_drop,List.map_take]
theorem amj{b:Bool}{x:ah}(ha:x.aQ=[])(hg:Ao b x.aj)(h:dQ x.aj 0=yD):fP b x=.mk 9 [] [] 0 jA ((x.aj.drop 1).map (fP b)) []:=by
 rw[qp,if_pos ha,if_neg hg,if_neg (by rw[h];decide),if_neg (by rw[h];decide),if_neg (by rw[h];decide),if_neg (by rw[h];decide),if_neg (by rw[h];decide),if_pos h];simp only[List.map_drop,List.map_take]
theorem ajC{b:Bool}{x:ah}(ha:x.aQ=[])(hg:Ao b x.aj)(h:dQ x.aj 0=uF):fP b x=.mk 12 [] [] 0 (fK b (x.aj.getD 1 eY)) ((x.aj.drop 2).map (fP b)) []:=by
 rw[qp,if_pos ha,if_neg hg,if_neg (by rw[h];decide),if_neg (by rw[h];decide),if_neg (by rw[h];decide),if_neg (by rw[h];decide),if_neg (by rw[h];decide),if_neg (by rw[h];decide),if_pos h];simp only[List.map_drop,List.map_take]
theorem afU{b:Bool}{x:ah}(ha:x.aQ=[])(hg:Ao b x.aj)(h:dQ x.aj 0=kW):fP b x=.mk 7 [] [] 0 jA (((x.aj.drop 1).take 1).map (fP b)) ((x.aj.drop 2).map (wC b)):=by
 rw[qp,if_pos ha,if_neg hg,if_neg (by rw[h];decide),if_neg (by rw[h];decide),if_neg (by rw[h];decide),if_neg (by rw[h];decide),if_neg (by rw[h];decide),if_neg (by rw[h];decide),if_neg (by rw[h];decide),if_pos h];simp only[List.map_drop,List.map_take]
theorem afV{b:Bool}{x:ah}(ha:x.aQ=[])(hg:Ao b x.aj)(h0:dQ x.aj 0≠oU)(h1:dQ x.aj 0≠tO)(h2:dQ x.aj 0≠tQ)(h3:dQ x.aj 0≠oV)(h4:dQ x.aj 0≠jm)(h5:dQ x.aj 0≠yD)(h6:dQ x.aj 0≠uF)(h7:dQ x.aj 0≠kW):fP b x=.mk 10 [] (dQ x.aj 0) 0 jA ((x.aj.drop 1).map (fP b)) []:=by
 rw[qp,if_pos ha,if_neg hg,if_neg h0,if_neg h1,if_neg h2,if_neg h3,if_neg h4,if_neg h5,if_neg h6,if_neg h7];simp only[List.map_drop,List.map_take]
theorem TP{x:ah}(ha:x.aQ=[])(hg:¬Ao true x.aj):fP true x=nA:=by
 rw[qp,if_pos ha,if_pos (Decidable.not_not.1 hg)]
theorem ajD{b:Bool}{x:ah}{n:Int}(ha:x.aQ≠[])(h:mq x.aQ=some n):fP b x=.mk 1 [] [] n jA [] []:=by
 rw[qp,if_neg ha,h]
theorem afW{b:Bool}{x:ah}(ha:x.aQ≠[])(h:mq x.aQ=none)(h1:x.aQ=Bz):fP b x=.mk 2 [] [] 1 jA [] []:=by
 rw[qp,if_neg ha,h];exact if_pos h1
theorem ac2{b:Bool}{x:ah}(ha:x.aQ≠[])(h:mq x.aQ=none)(h1:x.aQ≠Bz)(h2:x.aQ=Ad):fP b x=.mk 2 [] [] 0 jA [] []:=by
 rw[qp,if_neg ha,h];exact(if_neg h1).trans (if_pos h2)
theorem ajE{b:Bool}{x:ah}(ha:x.aQ≠[])(h:mq x.aQ=none)(h1:x.aQ≠Bz)(h2:x.aQ≠Ad):fP b x=.mk 3 [] x.aQ 0 jA [] []:=by
 rw[qp,if_neg ha,h];exact(if_neg h1).trans (if_neg h2)
def lE(l:List ay)(n:Nat):List (List D):=eZ (l.map ay.enc) n
def kY(l:List ay):Nat:=lI (l.map ay.enc)
def lM(l:List bq)(n:Nat):List (List D):=eZ (l.map bq.enc) n
def ac3(l:List bq):Nat:=lI (l.map bq.enc)
abbrev ay.vl(x:ay)(n:Nat):V:=.agg [.d (.i .i64 x.aM),.d (.s x.bO),.d (.s x.fName),.d (.i .i64 x.fN),.d (.i .i64 x.fType.aM),.d (.s x.fType.fName),.d (.ol n (lt x.fType.fArgs (n+1))),
 .d (.ol (n+(fU x.fType.fArgs+1)) (lE x.fArgs (n+(fU x.fType.fArgs+1)+1))),.d (.ol (n+(fU x.fType.fArgs+1)+(kY x.fArgs+1)) (lM x.aT (n+(fU x.fType.fArgs+1)+(kY x.fArgs+1)+1)))]
theorem XJ(x:ay)(n:Nat):fV x.enc n=[.i .i64 x.aM,.s x.bO,.s x.fName,.i .i64 x.fN,.i .i64 x.fType.aM,.s x.fType.fName,.ol n (lt x.fType.fArgs (n+1)),
 .ol (n+(fU x.fType.fArgs+1)) (lE x.fArgs (n+(fU x.fType.fArgs+1)+1)),.ol (n+(fU x.fType.fArgs+1)+(kY x.fArgs+1)) (lM x.aT (n+(fU x.fType.fArgs+1)+(kY x.fArgs+1)+1))]:=by
 simp only[ay.aJ,ak.aJ,List.cons_append,List.nil_append,fV,vB,vw,Nat.add_zero,lt,lE,lM,fU,kY]
theorem ajF(x:bq)(n:Nat):fV x.enc n=[.s x.dN,.ol n (x.aH.map encS)]++fV x.fBody.enc (n+1):=by
 rw[bq.aJ,MI];simp only[fV,vB,F6,vw,Nat.add_zero,vC,xD,Nat.zero_add]
abbrev bq.vl(x:bq)(n:Nat):V:=.agg [.d (.s x.dN),.d (.ol n (x.aH.map encS)),.d (.i .i64 x.fBody.aM),.d (.s x.fBody.bO),.d (.s x.fBody.fName),.d (.i .i64 x.fBody.fN),.d (.i .i64 x.fBody.fType.aM),.d (.s x.fBody.fType.fName),.d (.ol (n+1) (lt x.fBody.fType.fArgs (n+1+1))),
 .d (.ol (n+1+(fU x.fBody.fType.fArgs+1)) (lE x.fBody.fArgs (n+1+(fU x.fBody.fType.fArgs+1)+1))),.d (.ol (n+1+(fU x.fBody.fType.fArgs+1)+(kY x.fBody.fArgs+1)) (lM x.fBody.aT (n+1+(fU x.fBody.fType.fArgs+1)+(kY x.fBody.fArgs+1)+1)))]
theorem afX(l:List ay)(n:Nat):(lE l n).length=l.length:=by unfold lE;rw[lg,List.length_map]
theorem afY(l:List bq)(n:Nat):(lM l n).length=l.length:=by unfold lM;rw[lg,List.length_map]
theorem amk{l:List ay}{i:Nat}(hi:i<l.length)(n:Nat):lE (l.take i) n++[fV l[i].enc (n+kY (l.take i))]=lE (l.take (i+1)) n:=by
 rw[List.take_succ_eq_append_getElem hi];unfold lE kY;rw[List.map_append,pJ];rfl
theorem aml{l:List bq}{i:Nat}(hi:i<l.length)(n:Nat):lM (l.take i) n++[fV l[i].enc (n+ac3 (l.take i))]=lM (l.take (i+1)) n:=by
 rw[List.take_succ_eq_append_getElem hi];unfold lM ac3;rw[List.map_append,pJ];rfl
theorem Z9{x:ay}{n:Nat}{k N:Int}{tr nm:List UInt8}(h:x=.mk k tr nm N jA [] []):Less (.agg [.d (.i .i64 k),.d (.s tr),.d (.s nm),.d (.i .i64 N),.d (.i .i64 0),.d (.s []),.bF [],.bF [],.bF []]) (x.vl n):=by
 rw[h];exact(gH.cons (.refl _) (.cons (.refl _) (.cons (.refl _) (.cons (.refl _) (.cons (.refl _) (.cons (.refl _) (.cons (dX _) (.cons (dX _) (.cons (dX _) .nil))))))))).less
theorem XK{x:ay}{n:Nat}{k N:Int}{tr nm:List UInt8}{args:List ay}(h:x=.mk k tr nm N jA args []):Less (.agg [.d (.i .i64 k),.d (.s tr),.d (.s nm),.d (.i .i64 N),.d (.i .i64 0),.d (.s []),.bF [],.d (.ol (n+1) (lE args (n+1+1))),.bF []]) (x.vl n):=by
 rw[h];exact(gH.cons (.refl _) (.cons (.refl _) (.cons (.refl _) (.cons (.refl _) (.cons (.refl _) (.cons (.refl _) (.cons (dX _) (.cons (.refl _) (.cons (dX _) .nil))))))))).less
theorem ie2{x:ay}{n:Nat}{k N:Int}{tr nm:List UInt8}{ty:ak}{args:List ay}(h:x=.mk k tr nm N ty args []):Less (.agg [.d (.i .i64 k),.d (.s tr),.d (.s nm),.d (.i .i64 N),.d (.i .i64 ty.aM),.d (.s ty.fName),.d (.ol n (lt ty.fArgs (n+1))),.d (.ol (n+(fU ty.fArgs+1)) (lE args (n+(fU ty.fArgs+1)+1))),.bF []]) (x.vl n):=by
 rw[h];exact(gH.cons (.refl _) (.cons (.refl _) (.cons (.refl _) (.cons (.refl _) (.cons (.refl _) (.cons (.refl _) (.cons (.refl _) (.cons (.refl _) (.cons (dX _) .nil))))))))).less
theorem ie3{x:ay}{n:Nat}{k N:Int}{tr nm:List UInt8}{args:List ay}{arms:List bq}(h:x=.mk k tr nm N jA args arms):Less (.agg [.d (.i .i64 k),.d (.s tr),.d (.s nm),.d (.i .i64 N),.d (.i .i64 0),.d (.s []),.bF [],.d (.ol (n+1) (lE args (n+1+1))),.d (.ol (n+1+(kY args+1)) (lM arms (n+1+(kY args+1)+1)))]) (x.vl n):=by
 rw[h];exact(gH.cons (.refl _) (.cons (.refl _) (.cons (.refl _) (.cons (.refl _) (.cons (.refl _) (.cons (.refl _) (.cons (dX _) (.cons (.refl _) (.cons (.refl _) .nil))))))))).less
theorem afZ(l:List ah)(h:2<=l.length):((l.map ah.enc).take ((l.length:Int)-1).toNat).drop 1=((l.drop 1).dropLast).map ah.enc:=by
 rw[show((l.length:Int)-1).toNat=l.length-1 by omega,<-List.map_take,<-List.map_drop,List.dropLast_eq_take,List.length_drop,List.drop_take]
theorem ajG(x:ah)(i:Nat){m:Nat}(h:x.sz<=m):(x.aj.getD i eY).sz<=m:=by
 have:=Bh x.aj i;have:=iB x;omega
theorem xE{l:List ah}(h:jv l=true){t:ah}(ht:t∈l):iE t=true:=Dy.1 h t ht
theorem tF{l:List ah}(h:jv l=true)(i:Nat):jv (l.drop i)=true:=Dy.2 fun t ht=>xE h (List.mem_of_mem_drop ht)
theorem af0{l:List ah}(h:jv l=true)(i:Nat):jv (l.take i)=true:=Dy.2 fun t ht=>xE h (List.mem_of_mem_take ht)
theorem MU{α:Type}[SizeOf α]:∀(i:Nat)(l:List α),SizeOf.sizeOf (l.take i)<=SizeOf.sizeOf l
 |0,[]=>by simp
 |0,x::l=>by rw[List.take_zero];simp only[List.cons.sizeOf_spec,List.nil.sizeOf_spec];omega
 |i+1,[]=>by simp
 |i+1,x::l=>by
  have:=MU i l;rw[List.take_succ_cons];simp only[List.cons.sizeOf_spec];omega
end Go.Ab
namespace Go.Proofs
open Go.Shelf
def Tryz.lays172_ren:Go.Shelf.Ren:=⟨fun|172=>238|244=>264|245=>265|247=>282|279=>283|280=>284|281=>285|282=>286|287=>295|316=>296|171=>190|205=>297|321=>304|322=>305|243=>244|246=>268|283=>288|284=>289|285=>290|286=>291|129=>300|317=>299|318=>301|319=>302|320=>303|337=>309|338=>310|n=>n,fun|9=>9|3=>3|75=>190|76=>191|4=>4|5=>5|167=>260|37=>22|0=>0|85=>261|2=>2|168=>263|53=>268|175=>277|46=>198|210=>281|127=>194|145=>293|143=>291|21=>21|171=>267|173=>271|212=>285|51=>286|20=>20|213=>287|232=>297|233=>298|80=>122|n=>n,fun|15=>1|16=>2|17=>3|18=>4|19=>5|n=>n⟩
theorem Tryz.lays172:Go.Proofs.Lays.n172 prog Tryz.lays172_ren:={
 mixed:=by kernel_rfl
 f129:=func300.trans (congrArg some (by kernel_rfl))
 f171:=func190.trans (congrArg some (by kernel_rfl))
 f172:=func238.trans (congrArg some (by kernel_rfl))
 f205:=func297.trans (congrArg some (by kernel_rfl))
 f243:=func244.trans (congrArg some (by kernel_rfl))
 f244:=func264.trans (congrArg some (by kernel_rfl))
 f245:=func265.trans (congrArg some (by kernel_rfl))
 f246:=func268.trans (congrArg some (by kernel_rfl))
 f247:=func282.trans (congrArg some (by kernel_rfl))
 f279:=func283.trans (congrArg some (by kernel_rfl))
 f280:=func284.trans (congrArg some (by kernel_rfl))
 f281:=func285.trans (congrArg some (by kernel_rfl))
 f282:=func286.trans (congrArg some (by kernel_rfl))
 f283:=func288.trans (congrArg some (by kernel_rfl))
 f284:=func289.trans (congrArg some (by kernel_rfl))
 f285:=func290.trans (congrArg some (by kernel_rfl))
 f286:=func291.trans (congrArg some (by kernel_rfl))
 f287:=func295.trans (congrArg some (by kernel_rfl))
 f316:=func296.trans (congrArg some (by kernel_rfl))
 f317:=func299.trans (congrArg some (by kernel_rfl))
 f318:=func301.trans (congrArg some (by kernel_rfl))
 f319:=func302.trans (congrArg some (by kernel_rfl))
 f320:=func303.trans (congrArg some (by kernel_rfl))
 f321:=func304.trans (congrArg some (by kernel_rfl))
 f322:=func305.trans (congrArg some (by kernel_rfl))
 f337:=func309.trans (congrArg some (by kernel_rfl))
 f338:=func310.trans (congrArg some (by kernel_rfl))
 t0:=underlying0
 a0:=Tryz.isAgg0
 z0:=Tryz.sizeOf0
 v0:=Tryz.zeroValue0
 t2:=underlying2
 a2:=Tryz.isAgg2
 z2:=Tryz.sizeOf2
 v2:=Tryz.zeroValue2
 t3:=underlying3
 a3:=Tryz.isAgg3
 z3:=Tryz.sizeOf3
 v3:=Tryz.zeroValue3
 t4:=underlying4
 a4:=Tryz.isAgg4
 z4:=Tryz.sizeOf4
 v4:=Tryz.zeroValue4
 t5:=underlying5
 a5:=Tryz.isAgg5
 z5:=Tryz.sizeOf5
 v5:=Tryz.zeroValue5
 t9:=underlying9
 a9:=Tryz.isAgg9
 z9:=Tryz.sizeOf9
 v9:=Tryz.zeroValue9
 t20:=underlying20
 a20:=Tryz.isAgg20
 z20:=Tryz.sizeOf20
 v20:=Tryz.zeroValue20
 t21:=underlying21
 a21:=Tryz.isAgg21
 z21:=Tryz.sizeOf21
 v21:=Tryz.zeroValue21
 t37:=underlying22
 a37:=Tryz.isAgg22
 z37:=Tryz.sizeOf22
 v37:=Tryz.zeroValue22
 t46:=underlying198
 a46:=Tryz.isAgg198
 z46:=Tryz.sizeOf198
 v46:=Tryz.zeroValue198
 t51:=underlying286
 a51:=Tryz.isAgg286
 z51:=Tryz.sizeOf286
 v51:=Tryz.zeroValue286
 t53:=underlying268
 a53:=Tryz.isAgg268
 z53:=Tryz.sizeOf268
 v53:=Tryz.zeroValue268
 t75:=underlying190
 a75:=Tryz.isAgg190
 z75:=Tryz.sizeOf190
 v75:=Tryz.zeroValue190
 t76:=underlying191
 a76:=Tryz.isAgg191
 z76:=Tryz.sizeOf191
 v76:=Tryz.zeroValue191
 t85:=underlying261
 a85:=Tryz.isAgg261
 z85:=Tryz.sizeOf261
 v85:=Tryz.zeroValue261
 t127:=underlying194
 a127:=Tryz.isAgg194
 z127:=Tryz.sizeOf194
 v127:=Tryz.zeroValue194
 t143:=underlying291
 a143:=Tryz.isAgg291
 z143:=Tryz.sizeOf291
 v143:=Tryz.zeroValue291
 t145:=underlying293
 a145:=Tryz.isAgg293
 z145:=Tryz.sizeOf293
 v145:=Tryz.zeroValue293
 t167:=underlying260
 a167:=Tryz.isAgg260
 z167:=Tryz.sizeOf260
 v167:=Tryz.zeroValue260
 t168:=underlying263
 a168:=Tryz.isAgg263
 z168:=Tryz.sizeOf263
 v168:=Tryz.zeroValue263
 t171:=underlying267
 a171:=Tryz.isAgg267
 z171:=Tryz.sizeOf267
 v171:=Tryz.zeroValue267
 t173:=underlying271
 a173:=Tryz.isAgg271
 z173:=Tryz.sizeOf271
 v173:=Tryz.zeroValue271
 t175:=underlying277
 a175:=Tryz.isAgg277
 z175:=Tryz.sizeOf277
 v175:=Tryz.zeroValue277
 t210:=underlying281
 a210:=Tryz.isAgg281
 z210:=Tryz.sizeOf281
 v210:=Tryz.zeroValue281
 t212:=underlying285
 a212:=Tryz.isAgg285
 z212:=Tryz.sizeOf285
 v212:=Tryz.zeroValue285
 t213:=underlying287
 a213:=Tryz.isAgg287
 z213:=Tryz.sizeOf287
 t232:=underlying297
 a232:=Tryz.isAgg297
 z232:=Tryz.sizeOf297
 v232:=Tryz.zeroValue297
 t233:=underlying298
 a233:=Tryz.isAgg298
 z233:=Tryz.sizeOf298
 v233:=Tryz.zeroValue298
 g15:=by kernel_rfl
 g16:=by kernel_rfl
 g17:=by kernel_rfl
 g18:=by kernel_rfl
 g19:=by kernel_rfl}
open Go.RowKit in
theorem Tryz.strconv_Atoi(s:ByteArray)(n:Int)(hl:s.size<=18)(h:Lib.atoi s.data.toList=some n)(w:World):
 Calls prog 238 #[.string s] w fun e w'=>e=.returned (.tuple #[.int .i64 n,.nilIface])/\∃t,w'=Lib.bytesWorld w 5 t:=Any.strconv_Atoi Tryz.lays172 s n hl h w
def Tryz.laysC172_ren:Go.Shelf.Ren:=⟨fun|172=>238|244=>264|245=>265|247=>282|279=>283|280=>284|281=>285|282=>286|287=>295|316=>296|171=>190|205=>297|321=>304|322=>305|243=>244|246=>268|283=>288|284=>289|285=>290|286=>291|129=>300|317=>299|318=>301|319=>302|320=>303|337=>309|338=>310|n=>n,fun|9=>9|3=>3|75=>190|76=>191|4=>4|5=>5|167=>260|37=>22|0=>0|85=>261|2=>2|168=>263|53=>268|175=>277|46=>198|210=>281|127=>194|145=>293|143=>291|21=>21|171=>267|173=>271|212=>285|51=>286|20=>20|213=>287|232=>297|233=>298|80=>122|n=>n,fun|15=>1|16=>2|17=>3|18=>4|19=>5|n=>n⟩
theorem Tryz.laysC172:Go.Proofs.LaysC.n172 prog Tryz.laysC172_ren:={
 mixed:=by kernel_rfl
 f129:=func300.trans (congrArg some (by kernel_rfl))
 f171:=func190.trans (congrArg some (by kernel_rfl))
 f172:=func238.trans (congrArg some (by kernel_rfl))
 f205:=func297.trans (congrArg some (by kernel_rfl))
 f243:=func244.trans (congrArg some (by kernel_rfl))
 f244:=func264.trans (congrArg some (by kernel_rfl))
 f245:=func265.trans (congrArg some (by kernel_rfl))
 f246:=func268.trans (congrArg some (by kernel_rfl))
 f247:=func282.trans (congrArg some (by kernel_rfl))
 f279:=func283.trans (congrArg some (by kernel_rfl))
 f280:=func284.trans (congrArg some (by kernel_rfl))
 f281:=func285.trans (congrArg some (by kernel_rfl))
 f282:=func286.trans (congrArg some (by kernel_rfl))
 f283:=func288.trans (congrArg some (by kernel_rfl))
 f284:=func289.trans (congrArg some (by kernel_rfl))
 f285:=func290.trans (congrArg some (by kernel_rfl))
 f286:=func291.trans (congrArg some (by kernel_rfl))
 f287:=func295.trans (congrArg some (by kernel_rfl))
 f316:=func296.trans (congrArg some (by kernel_rfl))
 f317:=func299.trans (congrArg some (by kernel_rfl))
 f318:=func301.trans (congrArg some (by kernel_rfl))
 f319:=func302.trans (congrArg some (by kernel_rfl))
 f320:=func303.trans (congrArg some (by kernel_rfl))
 f321:=func304.trans (congrArg some (by kernel_rfl))
 f322:=func305.trans (congrArg some (by kernel_rfl))
 f337:=func309.trans (congrArg some (by kernel_rfl))
 f338:=func310.trans (congrArg some (by kernel_rfl))
 t0:=underlying0
 a0:=Tryz.isAgg0
 z0:=Tryz.sizeOf0
 v0:=Tryz.zeroValue0
 t2:=underlying2
 a2:=Tryz.isAgg2
 z2:=Tryz.sizeOf2
 v2:=Tryz.zeroValue2
 t3:=underlying3
 a3:=Tryz.isAgg3
 z3:=Tryz.sizeOf3
 v3:=Tryz.zeroValue3
 t4:=underlying4
 a4:=Tryz.isAgg4
 z4:=Tryz.sizeOf4
 v4:=Tryz.zeroValue4
 t5:=underlying5
 a5:=Tryz.isAgg5
 z5:=Tryz.sizeOf5
 v5:=Tryz.zeroValue5
 t9:=underlying9
 a9:=Tryz.isAgg9
 z9:=Tryz.sizeOf9
 v9:=Tryz.zeroValue9
 t20:=underlying20
 a20:=Tryz.isAgg20
 z20:=Tryz.sizeOf20
 v20:=Tryz.zeroValue20
 t21:=underlying21
 a21:=Tryz.isAgg21
 z21:=Tryz.sizeOf21
 v21:=Tryz.zeroValue21
 t37:=underlying22
 a37:=Tryz.isAgg22
 z37:=Tryz.sizeOf22
 v37:=Tryz.zeroValue22
 t46:=underlying198
 a46:=Tryz.isAgg198
 z46:=Tryz.sizeOf198
 v46:=Tryz.zeroValue198
 t51:=underlying286
 a51:=Tryz.isAgg286
 z51:=Tryz.sizeOf286
 v51:=Tryz.zeroValue286
 t53:=underlying268
 a53:=Tryz.isAgg268
 z53:=Tryz.sizeOf268
 v53:=Tryz.zeroValue268
 t75:=underlying190
 a75:=Tryz.isAgg190
 z75:=Tryz.sizeOf190
 v75:=Tryz.zeroValue190
 t76:=underlying191
 a76:=Tryz.isAgg191
 z76:=Tryz.sizeOf191
 v76:=Tryz.zeroValue191
 t85:=underlying261
 a85:=Tryz.isAgg261
 z85:=Tryz.sizeOf261
 v85:=Tryz.zeroValue261
 t127:=underlying194
 a127:=Tryz.isAgg194
 z127:=Tryz.sizeOf194
 v127:=Tryz.zeroValue194
 t143:=underlying291
 a143:=Tryz.isAgg291
 z143:=Tryz.sizeOf291
 v143:=Tryz.zeroValue291
 t145:=underlying293
 a145:=Tryz.isAgg293
 z145:=Tryz.sizeOf293
 v145:=Tryz.zeroValue293
 t167:=underlying260
 a167:=Tryz.isAgg260
 z167:=Tryz.sizeOf260
 v167:=Tryz.zeroValue260
 t168:=underlying263
 a168:=Tryz.isAgg263
 z168:=Tryz.sizeOf263
 v168:=Tryz.zeroValue263
 t171:=underlying267
 a171:=Tryz.isAgg267
 z171:=Tryz.sizeOf267
 v171:=Tryz.zeroValue267
 t173:=underlying271
 a173:=Tryz.isAgg271
 z173:=Tryz.sizeOf271
 v173:=Tryz.zeroValue271
 t175:=underlying277
 a175:=Tryz.isAgg277
 z175:=Tryz.sizeOf277
 v175:=Tryz.zeroValue277
 t210:=underlying281
 a210:=Tryz.isAgg281
 z210:=Tryz.sizeOf281
 v210:=Tryz.zeroValue281
 t212:=underlying285
 a212:=Tryz.isAgg285
 z212:=Tryz.sizeOf285
 v212:=Tryz.zeroValue285
 t213:=underlying287
 a213:=Tryz.isAgg287
 z213:=Tryz.sizeOf287
 t232:=underlying297
 a232:=Tryz.isAgg297
 z232:=Tryz.sizeOf297
 v232:=Tryz.zeroValue297
 t233:=underlying298
 a233:=Tryz.isAgg298
 z233:=Tryz.sizeOf298
 v233:=Tryz.zeroValue298
 g15:=by kernel_rfl
 g16:=by kernel_rfl
 g17:=by kernel_rfl
 g18:=by kernel_rfl
 g19:=by kernel_rfl
 t80:=underlying122
 a80:=Tryz.isAgg122
 z80:=Tryz.sizeOf122
 v80:=Tryz.zeroValue122
 i0:=by kernel_rfl
 i2:=by kernel_rfl
 i3:=by kernel_rfl
 i4:=by kernel_rfl
 i5:=by kernel_rfl
 i9:=by kernel_rfl
 i20:=by kernel_rfl
 i21:=by kernel_rfl
 i37:=by kernel_rfl
 i46:=by kernel_rfl
 i51:=by kernel_rfl
 i53:=by kernel_rfl
 i75:=by kernel_rfl
 i76:=by kernel_rfl
 i80:=by kernel_rfl
 i85:=by kernel_rfl
 i127:=by kernel_rfl
 i143:=by kernel_rfl
 i145:=by kernel_rfl
 i167:=by kernel_rfl
 i168:=by kernel_rfl
 i171:=by kernel_rfl
 i173:=by kernel_rfl
 i175:=by kernel_rfl
 i210:=by kernel_rfl
 i212:=by kernel_rfl
 i232:=by kernel_rfl
 i233:=by kernel_rfl
 m15:=by kernel_rfl
 m16:=by kernel_rfl
 m17:=by kernel_rfl
 m18:=by kernel_rfl
 m19:=by kernel_rfl
 c0:=by kernel_rfl
 c2:=by kernel_rfl
 c3:=by kernel_rfl
 c4:=by kernel_rfl
 c5:=by kernel_rfl
 c9:=by kernel_rfl
 c20:=by kernel_rfl
 c21:=by kernel_rfl
 c37:=by kernel_rfl
 c46:=by kernel_rfl
 c51:=by kernel_rfl
 c53:=by kernel_rfl
 c75:=by kernel_rfl
 c76:=by kernel_rfl
 c80:=by kernel_rfl
 c85:=by kernel_rfl
 c127:=by kernel_rfl
 c143:=by kernel_rfl
 c145:=by kernel_rfl
 c167:=by kernel_rfl
 c168:=by kernel_rfl
 c171:=by kernel_rfl
 c173:=by kernel_rfl
 c175:=by kernel_rfl
 c210:=by kernel_rfl
 c212:=by kernel_rfl
 c213:=by kernel_rfl
 c232:=by kernel_rfl
 c233:=by kernel_rfl}
open Go.RowKit in
theorem Tryz.strconv_Atoi_err_var(s:ByteArray)(hl:s.size<=18)(h:Lib.atoi s.data.toList=none)(tp:TypeId)(p:Value)(w:World)(hvar:w.var? prog "strconv.ErrSyntax" =some #[.iface tp p]):
 Calls prog 238 #[.string s] w fun e w'=>∃N,e=.returned (.tuple #[.int .i64 0,.iface 263 (.pointer (some ⟨N,0,none⟩))])/\w.heap.size<=N/\w'.heap[N]? =some (.cells #[.string ⟨#[65,116,111,105]⟩,.string s,.iface tp p] 281 (0,0))/\Below w.heap.size w w':=Any.strconv_Atoi_err_var Tryz.laysC172 s hl h tp p w hvar
end Go.Proofs
namespace Go.Ab
theorem Uv{w w':World}{σ:Nat->Nat}(hl:∀b,b<w.heap.size\/σ b=0)(h:Go.RowKit.Below w.heap.size w w'):Grow w σ w' σ:=
 ⟨h.size,h.os,h.output,fun b hb=>⟨h.block b hb,rfl⟩,fun b=>(hl b).elim (fun x=>.inl (Nat.lt_of_lt_of_le x h.size)) .inr⟩
theorem af2{x y z:V}{vs:List Value}{w:World}{σ:Nat->Nat}{S:Store}{β:Hs}(h:oM w σ S β [x,y,z] vs):∃u v t,vs=[u,v,t]/\dM w σ S β x u/\dM w σ S β y v/\dM w σ S β z t:=by
 obtain⟨hl,h⟩:=h;obtain⟨u,e0,h0⟩:=h 0 x rfl;obtain⟨v,e1,h1⟩:=h 1 y rfl;obtain⟨t,e2,h2⟩:=h 2 z rfl
 match vs,hl,e0,e1,e2 with
 |[a,b,c],_,e0,e1,e2=>simp at e0 e1 e2;subst e0;subst e1;subst e2;exact⟨_,_,_,rfl,h0,h1,h2⟩
theorem ac4(n:Int)(h0: -9223372036854775808<=n)(h1:n<=9223372036854775807)(w:World)(htab:Lib.TabIs prog w "internal/strconv.uint64pow10" .u64 Lib.pow10Tab):
 Calls prog 190 #[.int .i64 n] w fun e w'=>e=.returned (.string ⟨(Lib.itoa n).toArray⟩)/\Go.RowKit.Below w.heap.size w w':=
 (Tryz.strconv_Itoa n h0 h1 w htab).mono fun e w' ⟨he,k,os,hw⟩=>⟨he,by
   subst hw
   exact⟨rfl,rfl,rfl,by show w.heap.size<=(w.heap++os).size;simp,fun b hb=>by show(w.heap++os)[b]? =_;rw[Array.getElem?_append_left hb]⟩⟩
theorem Zn(s:List UInt8)(hs:s.length<=18)(tp:TypeId)(p:Value)(w:World)(htab:Lib.TabIs prog w "internal/strconv.uint64pow10" .u64 Lib.pow10Tab)(hvar:w.var? prog "strconv.ErrSyntax" =some #[.iface tp p]):
 Calls prog 180 #[.string ⟨s.toArray⟩,.int .i64 (-999999999999),.int .i64 999999999999] w fun e w'=>e=.returned (.tuple #[.int .i64 ((mq s).getD 0),.bool (mq s).isSome])/\Go.RowKit.Below w.heap.size w w':=by
 have hsz:(⟨s.toArray⟩:ByteArray).size<=18:=by show s.toArray.size<=18;simpa using hs
 cases h:Lib.atoi s with
 |none=>
  have hc:=Tryz.strconv_Atoi_err_var ⟨s.toArray⟩ hsz (by simpa using h) tp p w hvar
  have Ju:mq s=none:=by unfold mq;rw[h]
  rw[Ju];clear hsz
  go_enter func180,ntmps180
  go_wp2_with (go_at_call 238;refine hc.mono ?_;rintro e W1 ⟨N,rfl,-,-,hb⟩)
  go_ret2
  exact⟨rfl,hb⟩
 |some n=>
  have hbd:=Lib.atoi_bound h hs;have hc:=Tryz.strconv_Atoi ⟨s.toArray⟩ n hsz (by simpa using h) w
  have Ju:mq s=if(-999999999999<=n/\n<=999999999999)/\Lib.itoa n=s then some n else none:=by unfold mq;rw[h]
  have hc':Calls prog 238 #[.string ⟨s.toArray⟩] w fun e w'=>e=.returned (.tuple #[.int .i64 n,.nilIface])/\Go.RowKit.Below w.heap.size w w':=hc.mono fun e w' ⟨he,t,hw⟩=>⟨he,by rw[hw];exact Lib.bytesWorld_below _ _ _⟩
  have hi:∀W1,Go.RowKit.Below w.heap.size w W1->Calls prog 190 #[.int .i64 n] W1 fun e w'=>e=.returned (.string ⟨(Lib.itoa n).toArray⟩)/\Go.RowKit.Below w.heap.size w w':=fun W1 hw=>
   (ac4 n (by omega) (by omega) _ ((Lib.tabBelow_of_tabIs htab).on hw).here).mono fun e w' ⟨he,hb⟩=>⟨he,hw.trans (hb.mono hw.size)⟩
  clear hsz h hc
  go_enter func180,ntmps180
  go_wp2_with (first|(go_at_call 238;refine hc'.mono ?_;rintro e W1 ⟨rfl,hb1⟩)|(go_at_call 190;refine(hi _ hb1).mono ?_;rintro e W2 ⟨rfl,hb2⟩))
  all_goals go_ret2
  all_goals first
   |(exfalso;omega)
   |exact⟨rfl,hb2⟩
   |exact⟨rfl,hb1⟩
   |(rw[Ju,if_pos ⟨⟨by omega,by omega⟩,by simp_all;done⟩];exact⟨rfl,hb2⟩)
   |(rw[Ju,if_neg (by rintro⟨hc,_⟩;omega)];exact⟨rfl,hb1⟩)
   |(rw[Ju,if_neg (by rintro⟨_,hc⟩;simp[hc] at *;omega)];exact⟨rfl,hb2⟩)
   |(rw[Ju,if_neg (by rintro⟨_,hc⟩;simp_all;done)];exact⟨rfl,hb2⟩)
   |trace_state
theorem Uw{w:World}{σ:Nat->Nat}(h:lS w σ):∃tp p,w.var? prog "strconv.ErrSyntax" =some #[.iface tp p]:=by
 obtain⟨c,t,fz,q1,q2,q3⟩:=h 1 (fun l=>∃te pe,l=[Value.iface te pe]) (List.mem_cons_of_mem _ (List.mem_cons_of_mem _ (List.mem_cons_self ..)));obtain⟨te,pe,e⟩:=q2
 have hn:prog.globalNamed "strconv.ErrSyntax" =some 1:=by kernel_rfl
 refine⟨te,pe,?_⟩;unfold World.var?;rw[hn];simp only[Option.bind_some,q1,Option.some.injEq];exact Array.ext' e
theorem RP(s:List UInt8)(hs:s.length<=18):aF prog 180 [.c (.d (.s s)),.c (.d (.i .i64 (-999999999999))),.c (.d (.i .i64 999999999999))] (.fF [(false,[.d (.i .i64 ((mq s).getD 0))]),(false,[.d (.b (mq s).isSome)])]):=fun S=>by
 refine⟨⟨_,func180,by kernel_rfl,by kernel_rfl⟩,fun w σ β vs hS hv=> ?_⟩;obtain⟨u,v,t,rfl,⟨hu,_⟩,⟨hv,_⟩,⟨ht,_⟩⟩:=af2 hv
 have hu0:u=.string ⟨s.toArray⟩:=by cases hu;rfl
 have hv0:v=.int .i64 (-999999999999):=by cases hv;rfl
 have ht0:t=.int .i64 999999999999:=by cases ht;rfl
 subst hu0 hv0 ht0;obtain⟨tp,p,hvar⟩:=Uw hS.wh;refine(Zn s hs tp p w (Td hS.wh) hvar).mono fun e w' ⟨he,hb⟩=> ?_;have hg:Grow w σ w' σ:=Uv hS.live hb
 exact⟨_,.fF [(false,[.d (.i .i64 ((mq s).getD 0))]),(false,[.d (.b (mq s).isSome)])],S,σ,β,he,hS.grow hg,Keep.refl _ _,Step.nU hg,⟨_,rfl,rfl,fun j y hy=>by
  match j,hy with
  |0,hy=>simp at hy;subst hy;exact⟨_,rfl,_,rfl,.i _ _,rfl⟩
  |1,hy=>simp at hy;subst hy;exact⟨_,rfl,_,rfl,.b _,rfl⟩
  |j+2,hy=>simp at hy⟩,rfl,rfl⟩
theorem QC(s:List UInt8)(hs:s.length<=18):aF prog 92 [.c (.d (.s s))] (.fF [(false,[.d (.i .i64 ((mq s).getD 0))]),(false,[.d (.b (mq s).isSome)])]):=fun S=>by
 refine zcx [.tmp 2,.tmp 3] func92 ntmps92 ?_;refine W1 ?_;exact C4 (RP s hs)
theorem DZ{l:List ah}(h2:2<=l.length)(h:dQ l 0=jm->3<=l.length):Ao true l:=fun e=>by
 rcases e.2 with e|e
 ·omega
 ·have:=h e.1;omega
theorem TQ{x:ah}(h:iE x=true)(ha:x.aQ=[]):jv x.aj=true:=by rw[EC,if_pos ha] at h;exact h
theorem af3{x:ah}(h:iE x=true)(ha:x.aQ≠[]):x.aQ.length<=18:=by
 rw[EC,if_neg ha,Bool.and_eq_true] at h;have h1:=h.1;unfold validAtom at h1;rw[Bool.and_eq_true,decide_eq_true_eq] at h1;omega
theorem FR{x:ah}(h:iE x=true)(ha:x.aj≠[]):jv x.aj=true:=by
 by_cases e:x.aQ=[]
 ·exact TQ h e
 ·rw[EC,if_neg e,Bool.and_eq_true,decide_eq_true_eq] at h;exact absurd (List.eq_nil_of_length_eq_zero h.2) ha
theorem ma0{x:bq}{n:Nat}(h:x=.mk [] [] nA):Less (.agg [.d (.s []),.bF [],.d (.i .i64 0),.d (.s []),.d (.s []),.d (.i .i64 0),.d (.i .i64 0),.d (.s []),.bF [],.bF [],.bF []]) (x.vl n):=by
 rw[h];exact(gH.cons (.refl _) (.cons (dX _) (.cons (.refl _) (.cons (.refl _) (.cons (.refl _) (.cons (.refl _) (.cons (.refl _) (.cons (.refl _) (.cons (dX _) (.cons (dX _) (.cons (dX _) .nil))))))))))).less
theorem K5:∀N:Nat,(∀x:ah,SizeOf.sizeOf x<N->∀n:Nat,iE x=true->x.sz<=4194304->aF prog 39 [x.v] ((fP true x).vl n))/\
 (∀xs:List ah,SizeOf.sizeOf xs<N->∀n q:Nat,jv xs=true->xs.length<=4194304->(∀t∈xs,t.sz<=4194304)->aF prog 93 [.c (.d (.sl (xs.map ah.enc)))] (.c (.d (.ol n (lE (xs.map (fP true)) q)))))/\
 (∀x:ah,SizeOf.sizeOf x<N->∀n:Nat,iE x=true->x.sz<=4194304->aF prog 95 [x.v] ((wC true x).vl n))
 |0=>⟨fun x h=>by omega,fun x h=>by omega,fun x h=>by omega⟩
 |N+1=>by
  obtain⟨ih,uM,ihM⟩:=K5 N;refine⟨fun x hn n hfo hsz=>aF.of_le fun S=> ?_,fun xs hn n q hfo hlen hsz S=> ?_,fun x hn n hfo hsz=>aF.of_le fun S=> ?_⟩
  ·have kV:=ah.DV x;have h1:=iB x;have h2:=NT x
   have hall:∀t∈x.aj,t.sz<=4194304:=fun t ht=>by have:=kT ht;omega
   have hr:=gV (l:=x.aj);have hso:=fun i=>Gj i x.aj
   have hdl:∀i,(x.aj.drop i).length<=4194304:=fun i=>by rw[List.length_drop];omega
   have hda:∀i,∀t∈x.aj.drop i,t.sz<=4194304:=fun i t ht=>hall t (List.mem_of_mem_drop ht);have hdd:=tC x.aj x.aj.length 1 (Nat.le_refl _);refine lq (n) (rs:=[.cell 2 30]) zmx func39 ntmps39 rfl rfl rfl rfl rfl ?_;refine W1 ?_;refine S0 (fun hb h=>?_) fun hb h=>?_
   ·have hne:=h;refine bD (QC x.aQ (af3 hfo hne)) ?_
    cases Ju:mq x.aQ with
    |some m=>
     simp -implicitDefEqProofs (disch:=omega) only[go_sem,Option.getD_some,Option.isSome_some];exact Z9 (ajD hne Ju)
    |none=>
     simp -implicitDefEqProofs (disch:=omega) only[go_sem,Option.getD_none,Option.isSome_none];refine S0 (fun hb h=>?_) fun hb h=>?_
     ·exact Z9 (afW hne Ju h)
     have k1:=h;refine S0 (fun hb h=>?_) fun hb h=>?_
     ·exact Z9 (ac2 hne Ju k1 h)
     have k2:=h;exact Z9 (ajE hne Ju k1 k2)
   have ha:=h;have hfs:=TQ hfo ha;refine S0 (fun hb h=>?_) fun hb h=>?_
   ·exact Z9 (TP ha fun e=>e ⟨rfl,.inl (by omega)⟩)
   have hl2:2<=x.aj.length:=by omega
   have a0:=lK (l:=x.aj) (i:=0) (by omega);obtain⟨m,hm⟩:∃m,m=x.aj.drop 1:=⟨_,rfl⟩
   have hml:m.length=x.aj.length-1:=by rw[hm,List.length_drop]
   have hmi:∀i (hi:i<m.length),m[i]=x.aj[i+1]'(by omega):=fun i hi=>by simp only[hm,List.getElem_drop,Nat.add_comm 1 i]
   have hrm:=gV (l:=m)
   have hmd:∀i,m.drop i=x.aj.drop (i+1):=fun i=>by rw[hm,List.drop_drop,Nat.add_comm 1 i]
   have hme:=fun i=>tC m m.length i (Nat.le_refl _)
   have b1:dQ x.aj 1=(m[0]'(by omega)).aQ:=by rw[hmi 0 (by omega),lK (by omega)]
   refine⟨⟨by omega,by omega,hr⟩,?_⟩;rw[hdd,<-hm];simp only[<-a0];refine S0 (fun hb h=>?_) fun hb h=>?_
   ·have hg:=DZ hl2 fun e=>by rw[h] at e;exact absurd e (by decide)
    have hdec:=afS ha hg h;refine W3 ?_;refine⟨⟨by omega,by omega,hrm⟩,?_⟩;rw[hme,hmd,<-b1];refine C1 (uM (x.aj.drop 2) (by have:=hso 2;omega) (n+1) (n+1+1) (tF hfs 2) (hdl 2) (hda 2)) ?_;exact XK hdec
   have aqg:=h;refine S0 (fun hb h=>?_) fun hb h=>?_
   ·have hg:=DZ hl2 fun e=>by rw[h] at e;exact absurd e (by decide)
    have hdec:=ajA ha hg h;refine W3 ?_;refine⟨⟨by omega,by omega,hrm⟩,?_⟩;rw[hme,hmd,<-b1];refine C1 (uM (x.aj.drop 2) (by have:=hso 2;omega) (n+1) (n+1+1) (tF hfs 2) (hdl 2) (hda 2)) ?_;exact XK hdec
   have nNew:=h;refine S0 (fun hb h=>?_) fun hb h=>?_
   ·have hg:=DZ hl2 fun e=>by rw[h] at e;exact absurd e (by decide)
    have hdec:=ajB ha hg h;refine W3 ?_;refine⟨⟨by omega,by omega,hrm⟩,?_⟩;rw[hme,hmd,<-b1];refine C1 (uM (x.aj.drop 2) (by have:=hso 2;omega) (n+1) (n+1+1) (tF hfs 2) (hdl 2) (hda 2)) ?_;exact XK hdec
   have aso:=h;refine S0 (fun hb h=>?_) fun hb h=>?_
   ·have hg:=DZ hl2 fun e=>by rw[h] at e;exact absurd e (by decide)
    have hdec:=afT ha hg h;refine W3 ?_;refine⟨⟨by omega,by omega,hrm⟩,?_⟩;rw[hme,hmd,<-b1];refine C1 (uM (x.aj.drop 2) (by have:=hso 2;omega) (n+1) (n+1+1) (tF hfs 2) (hdl 2) (hda 2)) ?_;exact XK hdec
   have aqh:=h;refine S0 (fun hb h=>?_) fun hb h=>?_
   ·have hM:=h;refine S0 (fun hb h=>?_) fun hb h=>?_
    ·exact Z9 (TP ha fun e=>e ⟨rfl,.inr ⟨hM,by omega⟩⟩)
    have hl3:3<=x.aj.length:=by omega
    have hg:=DZ hl2 fun _=>hl3;have hdec:=Zm ha hg hM
    have b2:dQ x.aj 2=(m[1]'(by omega)).aQ:=by rw[hmi 1 (by omega),lK (by omega)]
    refine W3 ?_;refine⟨⟨by omega,by omega,hrm⟩,?_⟩;rw[hme,hmd,<-b1,<-b2];refine C1 (uM (x.aj.drop 3) (by have:=hso 3;omega) (n+1) (n+1+1) (tF hfs 3) (hdl 3) (hda 3)) ?_;exact XK hdec
   have aac:=h;have hg:=DZ hl2 fun e=>(aac e).elim;refine S0 (fun hb h=>?_) fun hb h=>?_
   ·have hdec:=amj ha hg h;rw[hm];refine C1 (uM (x.aj.drop 1) (by have:=hso 1;omega) (n+1) (n+1+1) (tF hfs 1) (hdl 1) (hda 1)) ?_;exact XK hdec
   have nIf:=h;refine S0 (fun hb h=>?_) fun hb h=>?_
   ·have hdec:=ajC ha hg h
    have g1:x.aj.getD 1 eY=m[0]'(by omega):=by rw[hmi 0 (by omega),List.getD_eq_getElem?_getD,List.getElem?_eq_getElem (by omega)];rfl
    have gz:=ajG x 1 hsz;rw[g1] at hdec gz;refine W3 ?_;refine C1 (qD m[0] n gz) ?_;refine⟨⟨by omega,by omega,hrm⟩,?_⟩;rw[hme,hmd];refine C1 (uM (x.aj.drop 2) (by have:=hso 2;omega) (n+(fU (fK true m[0]).fArgs+1)) (n+(fU (fK true m[0]).fArgs+1)+1) (tF hfs 2) (hdl 2) (hda 2)) ?_;exact ie2 hdec
   have nThe:=h;refine S0 (fun hb h=>?_) fun hb h=>?_
   ·have hdec:=afU ha hg h;refine⟨⟨by omega,hrm⟩,?_⟩;rw[<-List.map_take];refine C1 (uM (m.take 1) (by have:=hso 1;have:=MU 1 m;rw[hm] at this ⊢;omega) (n+1) (n+1+1) (af0 (by rw[hm];exact tF hfs 1) 1) (by rw[List.length_take];omega) (fun t ht=>hda 1 t (by rw[<-hm];exact List.mem_of_mem_take ht))) ?_;refine⟨⟨by omega,by omega,hrm⟩,?_⟩;rw[hme,hmd];obtain⟨Ee,aos⟩:∃Ee,Ee=(m.take 1).map (fP true):=⟨_,rfl⟩;obtain⟨r,hrr⟩:∃r,r=x.aj.drop 2:=⟨_,rfl⟩
    have hrl:r.length=x.aj.length-2:=by rw[hrr,List.length_drop]
    have hrs:∀t∈r,t.sz<=4194304/\SizeOf.sizeOf t<N/\iE t=true:=fun t ht=>by
     rw[hrr] at ht;have h5:=List.mem_of_mem_drop ht;have:=List.sizeOf_lt_of_mem h5;exact⟨hda 2 t ht,by omega,xE hfs h5⟩
    obtain⟨q,hq⟩:∃q,q=n+1+(kY Ee+1):=⟨_,rfl⟩;obtain⟨L,hL⟩:∃L:Nat->Nat,L=fun k=>q+1+ac3 ((r.map (wC true)).take k):=⟨_,rfl⟩;obtain⟨T,hT⟩:∃T:Nat->List (List D),T=fun k=>lM ((r.map (wC true)).take k) (q+1):=⟨_,rfl⟩
    have hT0:T 0=[]:=by rw[hT];rfl
    have gM:∀k,(T k).length<=k:=fun k=>by rw[hT];simp only[afY];exact List.length_take_le _ _
    have hTs:∀k (hk:k<r.length),T k++[fV (wC true r[k]).enc (L k)]=T (k+1):=fun k hk=>by
     have:=aml (l:=r.map (wC true)) (i:=k) (by rw[List.length_map];exact hk) (q+1);rw[List.getElem_map] at this;rw[hT,hL];exact this
    have hTe:T r.length=lM (r.map (wC true)) (q+1):=by
     rw[hT];simp only
     rw[List.take_of_length_le (by simp)]
    clear hT hL;rw[<-hm,<-aos,<-hrr] at hdec;rw[<-aos,<-hrr];refine W1 ?_;refine oW q 3 8 11 _ rfl rfl ?_
    refine aZ (ι:=Nat) zmx rfl [2,7,127,128,129] (fun k=>[.c (.ptr (0,2) 0),.c (.ptr (0,3) 0),.c (.d (.sl (r.map ah.enc))),.c (.d (.i .i64 r.length)),.c (.d (.i .i64 k))])
     (fun k=>[.seed n,.box [.d (.s x.aQ),.d (.sl (x.aj.map ah.enc))],.box [.d (.i .i64 0),.d (.s []),.d (.s []),.d (.i .i64 0),.d (.i .i64 0),.d (.s []),.bF [],.bF [],.bF []],
       .box [.d (.i .i64 7),.d (.s []),.d (.s []),.d (.i .i64 0),.d (.i .i64 0),.d (.s []),.bF [],.d (.ol (n+1) (lE Ee (n+1+1))),.bI (0,4) (T k)],.eG q 11 (T k)]::S)
     (fun k=>k<=r.length) (fun k=>r.length-k) 0 rfl (by rw[hT0];rfl) (Nat.zero_le _) ?_
    intro k hk;have hlk:=gM k;refine W1 ?_;refine S0 (fun hb h=>?_) fun hb h=>?_
    ·have hk':k<r.length:=by omega
     have hmm:=hrs _ (List.getElem_mem hk');have hs:=hTs k hk';simp only[ajF,XJ,List.cons_append,List.nil_append] at hs;refine W3 ?_;refine C1 (ihM r[k] hmm.2.1 (L k) hmm.2.2 hmm.1) ?_;refine W3 ?_;rw[hs];exact bT 5 (by decide) (k+1) (by omega) rfl rfl rfl rfl (by omega)
    ·have hk':k=r.length:=by omega
     rw[hk',hTe,hq];exact ie3 hdec
   have aqi:=h;have hdec:=afV ha hg aqg nNew aso aqh aac nIf nThe aqi;rw[hm];refine C1 (uM (x.aj.drop 1) (by have:=hso 1;omega) (n+1) (n+1+1) (tF hfs 1) (hdl 1) (hda 1)) ?_;exact XK hdec
  ·have PY:=fun(i:Nat) (hi:i<xs.length)=>amk (l:=xs.map (fP true)) (i:=i) (by rw[List.length_map];exact hi) q;refine lq (n) (rs:=[.tmp 2]) zmx func93 ntmps93 rfl rfl rfl rfl rfl ?_;refine W1 ?_;refine W3 ?_;refine kR n 3 9 [] (.inl rfl) (by simp) ?_
   refine aZ (ι:=Nat) zmx rfl [3,7,8,9] (fun i=>[.c (.bI (0,1) (lE ((xs.map (fP true)).take i) q)),.c (.d (.sl (xs.map ah.enc))),.c (.d (.i .i64 xs.length)),.c (.d (.i .i64 i))]) (fun i=>[.seed n,.eG n 9 (lE ((xs.map (fP true)).take i) q)]::S)
    (fun i=>i<=xs.length) (fun i=>xs.length-i) 0 rfl rfl (Nat.zero_le _) ?_
   intro i hi;refine W1 ?_;refine S0 (fun hb h=>?_) fun hb h=>?_
   ·have hi':i<xs.length:=by omega
    have hs:=PY i hi';rw[List.getElem_map] at hs;simp only[XJ] at hs
    have hl:(lE ((xs.map (fP true)).take i) q).length<=i:=by rw[afX];exact List.length_take_le _ _
    refine W3 ?_;refine C1 (ih xs[i] (by have:=List.sizeOf_lt_of_mem (List.getElem_mem hi');omega) (q+kY ((xs.map (fP true)).take i)) (xE hfo (List.getElem_mem hi')) (hsz _ (List.getElem_mem hi'))) ?_;refine W3 ?_;rw[hs];exact bT 2 (by decide) (i+1) (by omega) rfl rfl rfl rfl (by omega)
   ·have hi':i=(xs.map (fP true)).length:=by rw[List.length_map];omega
    rw[hi',List.take_length]
  ·have kV:=ah.DV x;have h1:=iB x
   have hall:∀t∈x.aj,t.sz<=4194304:=fun t ht=>by have:=kT ht;omega
   have hr:=gV (l:=x.aj);refine zcx [.cell 2 73] func95 ntmps95 ?_;refine W1 ?_;refine S0 (fun hb h=>?_) fun hb h=>?_
   ·exact ma0 (ami true x (by omega))
   have hl2:2<=x.aj.length:=by omega
   have a0:=lK (l:=x.aj) (i:=0) (by omega);have hm:=List.getElem_mem (l:=x.aj) (n:=x.aj.length-1) (by omega);have hfs:=FR hfo (fun e=>by rw[e] at hl2;simp at hl2);rw[amh true x hl2,a0];refine⟨⟨by omega,by omega,hr⟩,?_⟩;rw[afZ _ hl2];refine C1 (Am ((x.aj.drop 1).dropLast) (by rw[List.length_dropLast,List.length_drop];omega) n) ?_;refine W3 ?_
   have el:((x.aj.length:Int)-1).toNat=x.aj.length-1:=by omega
   simp only[el];refine C1 (ih (x.aj[x.aj.length-1]) (by have:=List.sizeOf_lt_of_mem hm;omega) (n+1) (xE hfs hm) (hall _ hm)) ?_;exact pQ _
theorem EX(x:ah)(n:Nat)(hf:iE x=true)(hsz:x.sz<=4194304):aF prog 39 [x.v] ((fP true x).vl n):=(K5 _).1 x (Nat.lt_succ_self _) n hf hsz
abbrev ay.cv(x:ay):List C:=[.d (.i .i64 x.aM),.d (.s x.bO),.d (.s x.fName),.d (.i .i64 x.fN),.d (.i .i64 x.fType.aM),.d (.s x.fType.fName),.d (.sl (x.fType.fArgs.map ak.enc)),.d (.sl (x.fArgs.map ay.enc)),.d (.sl (x.aT.map bq.enc))]
abbrev ay.cl(x:ay)(n:Nat):List C:=[.d (.i .i64 x.aM),.d (.s x.bO),.d (.s x.fName),.d (.i .i64 x.fN),.d (.i .i64 x.fType.aM),.d (.s x.fType.fName),.d (.ol n (lt x.fType.fArgs (n+1))),
 .d (.ol (n+(fU x.fType.fArgs+1)) (lE x.fArgs (n+(fU x.fType.fArgs+1)+1))),.d (.ol (n+(fU x.fType.fArgs+1)+(kY x.fArgs+1)) (lM x.aT (n+(fU x.fType.fArgs+1)+(kY x.fArgs+1)+1)))]
abbrev atd:List C:=[.d (.i .i64 0),.d (.s []),.d (.s []),.d (.i .i64 0),.d (.i .i64 0),.d (.s []),.bF [],.bF [],.bF []]
abbrev gX(l:List ah)(i:Nat):ah:=l.getD i eY
theorem XL(l:List ah):dA l=(gX l 0).sz+dA (l.drop 1):=by
 cases l with
 |nil=>simp[dA,gX,Je]
 |cons x l=>rw[dA,List.drop_succ_cons,List.drop_zero];rfl
theorem aad(l:List ah)(k i:Nat):gX (l.drop k) i=gX l (k+i):=by
 simp[gX,List.getD_eq_getElem?_getD,List.getElem?_drop]
theorem Co(l:List ah):dA l=(gX l 0).sz+(gX l 1).sz+(gX l 2).sz+(gX l 3).sz+(gX l 4).sz+(gX l 5).sz+(gX l 6).sz+dA (l.drop 7):=by
 have h:∀k,dA (l.drop k)=(gX l k).sz+dA (l.drop (k+1)):=fun k=>by
  rw[XL (l.drop k),aad,Nat.add_zero,List.drop_drop]
 have h0:=h 0;rw[List.drop_zero] at h0;have h1:=h 1;have h2:=h 2;have h3:=h 3;have h4:=h 4;have h5:=h 5;have h6:=h 6
 simp only[Nat.reduceAdd] at *
 omega
theorem EY(l:List ah):dA l=(gX l 0).sz+(gX l 1).sz+(gX l 2).sz+(gX l 3).sz+dA (l.drop 4):=by
 have h:=Co l;have h1:=Co (l.drop 4)
 have e:∀k,dA (l.drop k)=(gX l k).sz+dA (l.drop (k+1)):=fun k=>by
  rw[XL (l.drop k),aad,Nat.add_zero,List.drop_drop]
 have h4:=e 4;have h5:=e 5;have h6:=e 6
 simp only[Nat.reduceAdd] at *
 omega
theorem FT(l:List ah)(i:Nat):dQ l i=(gX l i).aQ:=rfl
theorem qE(x:ah):x.aQ.length+(x.aj.length+dA x.aj)=x.sz:=by rw[jP,kZ]
def tY(b:Bool)(y:ah):bW:=if b=true/\y.aj.length≠2 then⟨[],jA⟩ else⟨dQ y.aj 0,fK b (gX y.aj 1)⟩
def qN(b:Bool)(y:ah):dD:=if b=true/\y.aj.length≠2 then⟨[],jA⟩ else⟨dQ y.aj 0,fK b (gX y.aj 1)⟩
def nX(l:List ah)(i:Nat):List (List UInt8):=gB (gX l i).aj
def K6(b:Bool)(x:ah):aY:=
 ⟨dQ x.aj 1,nX x.aj 2,(gX x.aj 3).aj.map (tY b),(gX x.aj 4).aj.map (qN b),fK b (gX x.aj 5),fP b (gX x.aj 6)⟩
theorem aae(b:Bool){c:bW}(h:formed c.fType=true):tY b (qh c)=c:=by
 unfold tY;rw[if_neg (by simp[qh,dw])];show bW.mk c.bO (fK b (dn c.fType))=c;rw[xS b _ h]
theorem af4(b:Bool){c:dD}(h:formed c.fType=true):qN b (qV c)=c:=by
 unfold qN;rw[if_neg (by simp[qV,dw])];show dD.mk c.fName (fK b (dn c.fType))=c;rw[xS b _ h]
theorem EZ{α β:Type}{f:α->β}{g:β->α}{l:List α}(h:∀a∈l,g (f a)=a):(l.map f).map g=l:=by
 rw[List.map_map,show l.map (g∘f)=l.map id from List.map_congr_left (fun c hc=>h c hc),List.map_id]
theorem XM{f:aY}(h:jH f=true):∀v∈f.aH,v≠[]:=by
 unfold jH at h;simp only[Bool.and_eq_true] at h;exact zC h.2.2.1
theorem RQ(b:Bool){f:aY}(h:jH f=true):K6 b (vN f)=f:=by
 obtain⟨h1,h2,h3,h4⟩:=vO h;show aY.mk f.fName (gB (aO f.aH)) ((f.dI.map qh).map (tY b)) ((f.bC.map qV).map (qN b)) (fK b (dn f.cB)) (fP b (fu f.fBody))=f;rw[nS (XM h),EZ fun c hc=>aae b (h1 c hc),EZ fun c hc=>af4 b (h2 c hc),xS b _ h3,Ht b _ h4]
noncomputable def okF(x:ah):Bool:=dec (dV x=true/\(7<=x.aj.length/\dQ x.aj 0=Af)/\jH (K6 true x)=true/\vN (K6 true x)=x)
def QD:aY:=⟨[],[],[],[],jA,nA⟩
noncomputable def xG(x:ah):aY:=if okF x=true then K6 true x else QD
theorem amm(b:Bool)(y:ah):(tY b y).sz<=y.sz:=by
 have h:=zB b (gX y.aj 1);have h1:=EY y.aj;have h2:=qE y;have h3:=qE (gX y.aj 0);unfold tY;split
 ·simp only[bW.sz,bW.aJ,bQ,bP,D.sz,ak.dP,Cn];simp
 ·simp only[bW.sz,bW.aJ,bQ,bP,D.sz,ak.dP,FT];omega
theorem af5(b:Bool)(y:ah):(qN b y).sz<=y.sz:=by
 have h:=zB b (gX y.aj 1);have h1:=EY y.aj;have h2:=qE y;have h3:=qE (gX y.aj 0);unfold qN;split
 ·simp only[dD.sz,dD.aJ,bQ,bP,D.sz,ak.dP,Cn];simp
 ·simp only[dD.sz,dD.aJ,bQ,bP,D.sz,ak.dP,FT];omega
theorem NU(b:Bool):∀l:List ah,aP ((l.map (tY b)).map bW.enc)<=dA l
 |[]=>by simp[aP]
 |y::l=>by
  have h1:=amm b y;have h2:=NU b l;rw[List.map_cons,List.map_cons,aP,dA];simp only[bW.sz] at h1;omega
theorem QE(b:Bool):∀l:List ah,aP ((l.map (qN b)).map dD.enc)<=dA l
 |[]=>by simp[aP]
 |y::l=>by
  have h1:=af5 b y;have h2:=QE b l;rw[List.map_cons,List.map_cons,aP,dA];simp only[dD.sz] at h1;omega
theorem aaf(b:Bool)(x:ah):(K6 b x).sz<=x.sz:=by
 have h1:=Co x.aj;have h2:=qE x;have h3:=qE (gX x.aj 1);have h4:=tu (gX x.aj 2).aj;have h4':=qE (gX x.aj 2);have h5:=NU b (gX x.aj 3).aj;have h5':=qE (gX x.aj 3);have h6:=QE b (gX x.aj 4).aj;have h6':=qE (gX x.aj 4);have h7:=zB b (gX x.aj 5);have h8:=DX b (gX x.aj 6);simp only[aY.sz,aY.aJ,bQ,bP,D.sz,ak.dP,ay.dP,K6,List.length_map,nX,dH,FT];omega
theorem jO{l:List ah}{i:Nat}(h:i<l.length):gX l i=l[i]:=by
 show l.getD i eY=_;rw[List.getD_eq_getElem?_getD,List.getElem?_eq_getElem h];rfl
def lB(l:List bW)(n:Nat):List (List D):=eZ (l.map bW.enc) n
def UW(l:List bW):Nat:=lI (l.map bW.enc)
def lPr(l:List dD)(n:Nat):List (List D):=eZ (l.map dD.enc) n
def akr(l:List dD):Nat:=lI (l.map dD.enc)
theorem aag(x:bW)(n:Nat):fV x.enc n=[.s x.bO,.i .i64 x.fType.aM,.s x.fType.fName,.ol n (lt x.fType.fArgs (n+1))]:=by
 simp only[bW.aJ,ak.aJ,List.cons_append,List.nil_append,fV,vB,vw,Nat.add_zero,lt]
theorem XO(x:dD)(n:Nat):fV x.enc n=[.s x.fName,.i .i64 x.fType.aM,.s x.fType.fName,.ol n (lt x.fType.fArgs (n+1))]:=by
 simp only[dD.aJ,ak.aJ,List.cons_append,List.nil_append,fV,vB,vw,Nat.add_zero,lt]
theorem BI{α:Type}{e:α->List D}{l:List α}{i:Nat}(hi:i<l.length)(n:Nat):eZ ((l.take i).map e) n++[fV (e l[i]) (n+lI ((l.take i).map e))]=eZ ((l.take (i+1)).map e) n:=by
 rw[List.take_succ_eq_append_getElem hi,List.map_append,pJ];rfl
theorem amn{b:Bool}{y:ah}(h:b=false\/y.aj.length=2):(tY b y).bO=dQ y.aj 0/\(tY b y).fType=fK b (y.aj.getD 1 eY):=by
 unfold tY;rw[if_neg (by rintro⟨e1,e2⟩;rcases h with e|e;(rw[e] at e1;cases e1);exact e2 e)];exact⟨rfl,rfl⟩
theorem ajH{y:ah}(h:y.aj.length≠2):tY true y=⟨[],jA⟩:=if_pos ⟨rfl,h⟩
theorem af6{b:Bool}{y:ah}(h:b=false\/y.aj.length=2):(qN b y).fName=dQ y.aj 0/\(qN b y).fType=fK b (y.aj.getD 1 eY):=by
 unfold qN;rw[if_neg (by rintro⟨e1,e2⟩;rcases h with e|e;(rw[e] at e1;cases e1);exact e2 e)];exact⟨rfl,rfl⟩
theorem ac5{y:ah}(h:y.aj.length≠2):qN true y=⟨[],jA⟩:=if_pos ⟨rfl,h⟩
theorem RU{x:ah}(h:iE x=true){i:Nat}(hi:i<x.aj.length):iE x.aj[i]=true:=xE (FR h (fun e=>by rw[e] at hi;simp at hi)) (List.getElem_mem hi)
theorem yI(x:ah){i:Nat}(hi:i<x.aj.length):x.aj[i].sz<=x.sz:=by
 have:=kT (List.getElem_mem hi);have:=iB x;omega
abbrev aY.cl(x:aY)(n p q r:Nat):List C:=[.d (.s x.fName),.d (.ol n (x.aH.map encS)),.d (.ol (n+1) (lB x.dI (n+1+1))),.d (.ol p (lPr x.bC (p+1))),.d (.i .i64 x.cB.aM),.d (.s x.cB.fName),.d (.ol q (lt x.cB.fArgs (q+1))),
 .d (.i .i64 x.fBody.aM),.d (.s x.fBody.bO),.d (.s x.fBody.fName),.d (.i .i64 x.fBody.fN),.d (.i .i64 x.fBody.fType.aM),.d (.s x.fBody.fType.fName),.d (.ol r (lt x.fBody.fType.fArgs (r+1))),
 .d (.ol (r+(fU x.fBody.fType.fArgs+1)) (lE x.fBody.fArgs (r+(fU x.fBody.fType.fArgs+1)+1))),.d (.ol (r+(fU x.fBody.fType.fArgs+1)+(kY x.fBody.fArgs+1)) (lM x.fBody.aT (r+(fU x.fBody.fType.fArgs+1)+(kY x.fBody.fArgs+1)+1)))]
abbrev aY.cv(x:aY):List C:=[.d (.s x.fName),.d (.sl (x.aH.map encS)),.d (.sl (x.dI.map bW.enc)),.d (.sl (x.bC.map dD.enc)),.d (.i .i64 x.cB.aM),.d (.s x.cB.fName),.d (.sl (x.cB.fArgs.map ak.enc)),
 .d (.i .i64 x.fBody.aM),.d (.s x.fBody.bO),.d (.s x.fBody.fName),.d (.i .i64 x.fBody.fN),.d (.i .i64 x.fBody.fType.aM),.d (.s x.fBody.fType.fName),.d (.sl (x.fBody.fType.fArgs.map ak.enc)),.d (.sl (x.fBody.fArgs.map ay.enc)),.d (.sl (x.fBody.aT.map bq.enc))]
def pF(x:aY)(n:Nat):Nat:=n+1+(UW x.dI+1)
def qF(x:aY)(n:Nat):Nat:=pF x n+(akr x.bC+1)
def rF(x:aY)(n:Nat):Nat:=qF x n+(fU x.cB.fArgs+1)
theorem amr(x:aY)(n:Nat):(fV x.enc n).map C.d=x.cl n (pF x n) (qF x n) (rF x n):=by
 simp only[aY.aJ,ay.aJ,ak.aJ,List.cons_append,List.nil_append,fV,vB,vw,Nat.add_zero,lt,lE,lM,lB,lPr,fU,kY,UW,akr,pF,qF,rF,vC,xD,Nat.zero_add,List.map_cons,List.map_nil];rfl
theorem aov{x:ah}(h:okF x=false):xG x=QD:=if_neg (by rw[h];decide)
theorem ams{x:ah}(h:okF x=true):xG x=K6 true x:=if_pos h
abbrev XP:List C:=[.d (.s []),.bF [],.bF [],.bF [],.d (.i .i64 0),.d (.s []),.bF [],.d (.i .i64 0),.d (.s []),.d (.s []),.d (.i .i64 0),.d (.i .i64 0),.d (.s []),.bF [],.bF [],.bF []]
theorem aow(e:aY)(h:e=QD)(n p q r:Nat)(ok:Bool):Less (.fF [(true,XP),(false,[.d (.b ok)])]) (.fF [(true,e.cl n p q r),(false,[.d (.b ok)])]):=by
 rw[h];exact(kU.cons (.cons (.refl _) (.cons (dX _) (.cons (dX _) (.cons (dX _) (.cons (.refl _) (.cons (.refl _) (.cons (dX _) (.cons (.refl _) (.cons (.refl _) (.cons (.refl _) (.cons (.refl _) (.cons (.refl _) (.cons (.refl _) (.cons (dX _) (.cons (dX _) (.cons (dX _) .nil)))))))))))))))) (.refl _)).less
theorem JB(x:ah)(n q:Nat)(hsz:x.sz<=4194304):aF prog 230 [x.v] (.c (.d (.ol n (lB (x.aj.map (tY true)) q)))):=aF.of_le fun S=>by
 have h1:=iB x
 have hall:∀t∈x.aj,t.sz<=4194304:=fun t ht=>by have:=kT ht;omega
 obtain⟨L,hL⟩:∃L:Nat->Nat,L=fun i=>q+lI (((x.aj.map (tY true)).take i).map bW.enc):=⟨_,rfl⟩;obtain⟨T,hT⟩:∃T:Nat->List (List D),T=fun i=>eZ (((x.aj.map (tY true)).take i).map bW.enc) q:=⟨_,rfl⟩
 have hT0:T 0=[]:=by rw[hT];rfl
 have gM:∀i,(T i).length<=i:=fun i=>by rw[hT];simp only[lg,List.length_map];exact List.length_take_le _ _
 have hTr:∀i,∀r∈T i,r.length=4:=fun i=>by
  rw[hT]
  exact xO fun r hr=>by
   obtain⟨z,_,rfl⟩:=List.mem_map.1 hr;exact z.eB
 have hTs:∀i (hi:i<x.aj.length),T i++[fV (tY true x.aj[i]).enc (L i)]=T (i+1):=fun i hi=>by
  have:=BI (e:=bW.enc) (l:=x.aj.map (tY true)) (i:=i) (by rw[List.length_map];exact hi) q;rw[List.getElem_map] at this;rw[hT,hL];exact this
 have hTe:T x.aj.length=lB (x.aj.map (tY true)) q:=by
  rw[hT];simp only
  rw[List.take_of_length_le (by simp)];rfl
 clear hT hL;refine lq (n) (rs:=[.tmp 2]) zmx func230 ntmps230 rfl rfl rfl rfl rfl ?_;refine W1 ?_;refine W3 ?_;refine kR n 3 4 [] (.inl rfl) (by simp) ?_
 refine aZ (ι:=Nat×List (List D)) zmx rfl [3,9,10,11] (fun y=>[.c (.bI (0,2) y.2),.c (.d (.sl (x.aj.map ah.enc))),.c (.d (.i .i64 x.aj.length)),.c (.d (.i .i64 y.1))])
  (fun y=>[.seed n,.box [.d (.s x.aQ),.d (.sl (x.aj.map ah.enc))],.eG n 4 y.2]::S)
  (fun y=>y.1<=x.aj.length/\iH y.2 (T y.1)) (fun y=>x.aj.length-y.1) (0,[]) rfl rfl ⟨Nat.zero_le _,by rw[hT0];exact .nil⟩ ?_
 rintro⟨i,U⟩ ⟨p1,p2⟩;simp only at p1 p2;have hU1:=p2.length;have hU2:=gM i;have hU3:=p2.rows (hTr i);refine W1 ?_;refine S0 (fun hb h=>?_) fun hb h=>?_
 ·have hi':i<x.aj.length:=by omega
  have hz:=hall _ (List.getElem_mem hi');have hs:=hTs i hi';have hz1:=iB x.aj[i];refine W3 ?_;refine S0 (fun hb h=>?_) fun hb h=>?_
  ·have hl2:x.aj[i].aj.length=2:=by omega
   have hb:=amn (b:=true) (y:=x.aj[i]) (.inr hl2);have g1:x.aj[i].aj.getD 1 eY=x.aj[i].aj[1]:=jO (by omega);rw[aag,hb.1,hb.2,lK (by omega:0<x.aj[i].aj.length),g1] at hs;have hz2:=yI x.aj[i] (i:=1) (by omega);refine W3 ?_;refine C1 (qD x.aj[i].aj[1] (L i) (by omega)) ?_;refine W3 ?_;refine bT 3 (by decide) (i+1,_) (by simp only;omega) rfl rfl rfl rfl ⟨by simp only;omega,?_⟩
   simp only
   rw[<-hs];exact p2.snoc (.refl _)
  ·have hl2:x.aj[i].aj.length≠2:=by omega
   rw[aag,ajH hl2] at hs;refine bT 3 (by decide) (i+1,_) (by simp only;omega) rfl rfl rfl rfl ⟨by simp only;omega,?_⟩
   simp only
   rw[<-hs];exact p2.snoc (.cons (.refl _) (.cons (.refl _) (.cons (.refl _) (.cons (nW _) .nil))))
 ·have hi':i=x.aj.length:=by omega
  subst hi';rw[hTe] at p2;exact aiM p2
theorem Ux(x:ah)(n:Nat)(hsz:x.sz<=1048576):aF prog 167 [x.v] (.fF [(true,(xG x).cl n (pF (xG x) n) (qF (xG x) n) (rF (xG x) n)),(false,[.d (.b (okF x))])]):=aF.of_le fun S=>by
 have h1:=iB x;have hds:=aaf true x;obtain⟨F,hF⟩:∃F,F=K6 true x:=⟨_,rfl⟩;obtain⟨p,hp⟩:∃p,p=pF F n:=⟨_,rfl⟩;obtain⟨q,hq⟩:∃q,q=qF F n:=⟨_,rfl⟩;obtain⟨r,hr0⟩:∃r,r=rF F n:=⟨_,rfl⟩
 have mU:okF x=false->Less (.fF [(true,XP),(false,[.d (.b false)])]) (.fF [(true,(xG x).cl n (pF (xG x) n) (qF (xG x) n) (rF (xG x) n)),(false,[.d (.b (okF x))])]):=fun e=>by
  rw[e];exact aow _ (aov e) n _ _ _ false
 refine lq (n) (rs:=[.cell 2 97,.tmp 3]) zmx func167 ntmps167 rfl rfl rfl rfl rfl ?_;refine W1 ?_;refine C1 (vG x Af 7 (by omega) (by omega) (by omega)) ?_;refine S0 (fun hb h=>?_) fun hb h=>?_
 ·exact mU (aR fun e=>h ⟨e.1,e.2.1.1,e.2.1.2⟩)
 have hf:=h;have uH:=uN hf.1
 have hfo:iE x=true:=by have:=hf.1;unfold dV at this;rw[Bool.and_eq_true] at this;exact this.1
 have hlen:7<=x.aj.length:=hf.2.1
 have f1:F.fName=x.aj[1].aQ:=by rw[hF];exact lK (by omega)
 have f2:F.aH=gB x.aj[2].aj:=by rw[hF,<-jO (l:=x.aj) (i:=2) (by omega)];rfl
 have f3:F.dI=x.aj[3].aj.map (tY true):=by rw[hF,<-jO (l:=x.aj) (i:=3) (by omega)];rfl
 have f4:F.bC=x.aj[4].aj.map (qN true):=by rw[hF,<-jO (l:=x.aj) (i:=4) (by omega)];rfl
 have f5:F.cB=fK true x.aj[5]:=by rw[hF,<-jO (l:=x.aj) (i:=5) (by omega)];rfl
 have f6:F.fBody=fP true x.aj[6]:=by rw[hF,<-jO (l:=x.aj) (i:=6) (by omega)];rfl
 have hzs:=fun i hi=>yI x (i:=i) hi;have c2:=qC x.aj[2] (by have:=hzs 2 (by omega);omega) n;have c3:=JB x.aj[3] (n+1) (n+1+1) (by have:=hzs 3 (by omega);omega);have c5:=qD x.aj[5] q (by have:=hzs 5 (by omega);omega);have c6:=EX x.aj[6] r (RU hfo (by omega)) (by have:=hzs 6 (by omega);omega);rw[<-f2] at c2;rw[<-f3] at c3;rw[<-f5] at c5;rw[<-f6] at c6;have hz4:=hzs 4 (by omega);obtain⟨l,hl⟩:∃l,l=x.aj[4].aj:=⟨_,rfl⟩;have hg4:=iB x.aj[4]
 have hll:l.length<=4194304:=by rw[hl];omega
 have hlm:∀y∈l,y.sz<=4194304:=fun y hy=>by have:=kT (hl▸hy);omega
 obtain⟨L,hL⟩:∃L:Nat->Nat,L=fun i=>p+1+lI (((l.map (qN true)).take i).map dD.enc):=⟨_,rfl⟩;obtain⟨T,hT⟩:∃T:Nat->List (List D),T=fun i=>eZ (((l.map (qN true)).take i).map dD.enc) (p+1):=⟨_,rfl⟩
 have hT0:T 0=[]:=by rw[hT];rfl
 have gM:∀i,(T i).length<=i:=fun i=>by rw[hT];simp only[lg,List.length_map];exact List.length_take_le _ _
 have hTr:∀i,∀r∈T i,r.length=4:=fun i=>by
  rw[hT]
  exact xO fun r hr=>by
   obtain⟨z,_,rfl⟩:=List.mem_map.1 hr;exact z.eB
 have hTs:∀i (hi:i<l.length),T i++[fV (qN true l[i]).enc (L i)]=T (i+1):=fun i hi=>by
  have:=BI (e:=dD.enc) (l:=l.map (qN true)) (i:=i) (by rw[List.length_map];exact hi) (p+1);rw[List.getElem_map] at this;rw[hT,hL];exact this
 have hTe:T l.length=lPr F.bC (p+1):=by
  rw[hT];simp only
  rw[List.take_of_length_le (by simp),f4,hl];rfl
 clear hT hL;refine W3 ?_;refine bD c2 ?_;refine W1 ?_;refine W3 ?_;refine bD c3 ?_;refine W1 ?_;refine W3 ?_;refine bD c5 ?_;refine W1 ?_;refine W3 ?_;refine bD c6 ?_;refine W1 ?_;refine W3 ?_;rw[<-hl,<-f1];refine oW p 3 3 4 _ rfl rfl ?_
 refine aZ (ι:=Nat×List (List D)) zmx rfl [1,2,5,39,40,41] (fun y=>[.c (.ptr (0,1) 0),.c (.ptr (0,2) 0),.c (.ptr (0,3) 0),.c (.d (.sl (l.map ah.enc))),.c (.d (.i .i64 l.length)),.c (.d (.i .i64 y.1))])
  (fun y=>[.seed n,.box [.d (.s x.aQ),.d (.sl (x.aj.map ah.enc))],.box XP,.box [.d (.s F.fName),.d (.ol n (F.aH.map encS)),.d (.ol (n+1) (lB F.dI (n+1+1))),.bI (0,4) y.2,.d (.i .i64 F.cB.aM),.d (.s F.cB.fName),.d (.ol q (lt F.cB.fArgs (q+1))),
    .d (.i .i64 F.fBody.aM),.d (.s F.fBody.bO),.d (.s F.fBody.fName),.d (.i .i64 F.fBody.fN),.d (.i .i64 F.fBody.fType.aM),.d (.s F.fBody.fType.fName),.d (.ol r (lt F.fBody.fType.fArgs (r+1))),
    .d (.ol (r+(fU F.fBody.fType.fArgs+1)) (lE F.fBody.fArgs (r+(fU F.fBody.fType.fArgs+1)+1))),.d (.ol (r+(fU F.fBody.fType.fArgs+1)+(kY F.fBody.fArgs+1)) (lM F.fBody.aT (r+(fU F.fBody.fType.fArgs+1)+(kY F.fBody.fArgs+1)+1)))],
    .eG p 4 y.2]::S)
  (fun y=>y.1<=l.length/\iH y.2 (T y.1)) (fun y=>l.length-y.1) (0,[]) rfl rfl ⟨Nat.zero_le _,by rw[hT0];exact .nil⟩ ?_
 rintro⟨i,U⟩ ⟨p1,p2⟩;simp only at p1 p2;have hU1:=p2.length;have hU2:=gM i;have hU3:=p2.rows (hTr i);refine W1 ?_;refine S0 (fun hb h=>?_) fun hb h=>?_
 ·have hi':i<l.length:=by omega
  have hz:=hlm _ (List.getElem_mem hi');have hs:=hTs i hi';have hz1:=iB l[i];refine W3 ?_;refine S0 (fun hb h=>?_) fun hb h=>?_
  ·have hl2:l[i].aj.length=2:=by omega
   have hb:=af6 (b:=true) (y:=l[i]) (.inr hl2);have g1:l[i].aj.getD 1 eY=l[i].aj[1]:=jO (by omega);rw[XO,hb.1,hb.2,lK (by omega:0<l[i].aj.length),g1] at hs;have hz2:=yI l[i] (i:=1) (by omega);refine W3 ?_;refine C1 (qD l[i].aj[1] (L i) (by omega)) ?_;refine W3 ?_;refine bT 5 (by decide) (i+1,_) (by simp only;omega) rfl rfl rfl rfl ⟨by simp only;omega,?_⟩
   simp only
   rw[<-hs];exact p2.snoc (.refl _)
  ·have hl2:l[i].aj.length≠2:=by omega
   rw[XO,ac5 hl2] at hs;refine bT 5 (by decide) (i+1,_) (by simp only;omega) rfl rfl rfl rfl ⟨by simp only;omega,?_⟩
   simp only
   rw[<-hs];exact p2.snoc (.cons (.refl _) (.cons (.refl _) (.cons (.refl _) (.cons (nW _) .nil))))
 ·have hi':i=l.length:=by omega
  subst hi';clear hTs;rw[hTe] at p2
  have hcl:Less (.agg [.d (.s F.fName),.d (.ol n (F.aH.map encS)),.d (.ol (n+1) (lB F.dI (n+1+1))),.d (.sl U),.d (.i .i64 F.cB.aM),.d (.s F.cB.fName),.d (.ol q (lt F.cB.fArgs (q+1))),
   .d (.i .i64 F.fBody.aM),.d (.s F.fBody.bO),.d (.s F.fBody.fName),.d (.i .i64 F.fBody.fN),.d (.i .i64 F.fBody.fType.aM),.d (.s F.fBody.fType.fName),.d (.ol r (lt F.fBody.fType.fArgs (r+1))),
   .d (.ol (r+(fU F.fBody.fType.fArgs+1)) (lE F.fBody.fArgs (r+(fU F.fBody.fType.fArgs+1)+1))),.d (.ol (r+(fU F.fBody.fType.fArgs+1)+(kY F.fBody.fArgs+1)) (lM F.fBody.aT (r+(fU F.fBody.fType.fArgs+1)+(kY F.fBody.fArgs+1)+1)))]) F.v:=by
   have lab:∀(es:List (List D))(k j:Nat),pO (.d (.ol k (eZ es j))) (.d (.sl es)):=fun es k j w σ S β v h=>(oZ es j).rep (um h);exact(gH.cons (.refl _) (.cons (G8 _ _) (.cons (lab _ _ _) (.cons (vX (p2.trans (oZ _ _))) (.cons (.refl _) (.cons (.refl _) (.cons (lab _ _ _) (.cons (.refl _) (.cons (.refl _) (.cons (.refl _) (.cons (.refl _) (.cons (.refl _) (.cons (.refl _) (.cons (lab _ _ _) (.cons (lab _ _ _) (.cons (lab _ _ _) .nil)))))))))))))))).less
  rw[<-hF] at hds;refine jS (G6 F (by omega)) (.cons hcl .nil) ?_;refine W1 ?_;refine S0 (fun hb h=>?_) fun hb h=>?_
  ·exact mU (aR fun e=>by rw[<-hF] at e;rw[e.2.2.1] at h;cases h)
  have hv:=h;have hz:=W9 (vO hv).2.2.2;refine W3 ?_;refine jS (aF.less (CJ F 0 hv (by omega)) (zm (vN F) 0)) (.cons hcl .nil) ?_;refine W1 ?_;refine C1 (qM (vN F) x (by omega)) ?_;refine S0 (fun hb h=>?_) fun hb h=>?_
  ·exact mU (aR fun e=>h (by rw[<-hF] at e;exact e.2.2.2))
  ·have hy:okF x=true:=by
    unfold okF;rw[<-hF];exact bM ⟨hf.1,hf.2,hv,h⟩
   rw[ams hy,hy,<-hF,<-hp,<-hq,<-hr0];exact(kU.cons (.cons (.refl _) (.cons (.refl _) (.cons (.refl _) (.cons (IZ p2) (.refl _))))) (.refl _)).less
end Go.Ab