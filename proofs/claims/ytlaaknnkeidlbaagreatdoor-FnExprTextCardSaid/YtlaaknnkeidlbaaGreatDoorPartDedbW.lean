/-
  SEVERAL TEXTS IN ONE (merged by program): contracts and models, each with its own heading.
-/
import Derived.Test.YtlaaknnkeidlbaaGreatDoorPartDedbK
import Derived.Test.YtlaaknnkeidlbaaGreatDoorPartDedbV
import Derived.Lib.Atoi
set_option maxHeartbeats 8000000
open Go.Proofs Go.Proofs.Tryz
set_option linter.unusedSimpArgs false
set_option linter.unusedVariables false
set_option maxRecDepth 4000
namespace Go.Ab
theorem Gj(d:Nat)(h:d<10):Lib.digitVal (UInt8.ofNat (48+d))=some d:=by
 have:(UInt8.ofNat (48+d)).toNat=48+d:=by rw[UInt8.toNat_ofNat'];omega
 unfold Lib.digitVal;rw[this,if_pos (by omega)];congr 1;omega
theorem zu:∀(l:List UInt8)(acc:Nat)(b:UInt8),Lib.decFrom acc (l++[b])=(Lib.decFrom acc l).bind fun m=>(Lib.digitVal b).map fun d=>m*10+d
 |[],acc,b=>by
  rw[aw,Lib.decFrom,Lib.decFrom];cases Lib.digitVal b<;>rfl
 |a::l,acc,b=>by
  rw[am,Lib.decFrom,Lib.decFrom]
  cases Lib.digitVal a with
  |none=>rfl
  |some e=>exact zu l _ b
theorem vH(n:Nat):Lib.decFrom 0 (Lib.decDigits n)=some n:=by
 induction n using Nat.strongRecOn with
 |_ n ih=>
  rw[Lib.decDigits];split
  ·rename_i h;rw[Lib.decFrom,Gj n h];simp[Lib.decFrom]
  ·rename_i h;rw[zu,ih (n/10) (by omega),Gj _ (Nat.mod_lt _ (by decide))];simp only[dc,cQ,cb];omega
theorem vI(n:Nat):∃b r,Lib.decDigits n=b::r/\48<=b.toNat/\b.toNat<=57:=by
 induction n using Nat.strongRecOn with
 |_ n ih=>
  rw[Lib.decDigits];split
  ·rename_i h;exact⟨_,_,rfl,by rw[UInt8.toNat_ofNat'];omega,by rw[UInt8.toNat_ofNat'];omega⟩
  ·rename_i h;obtain⟨b,r,e,h1,h2⟩:=ih (n/10) (by omega);rw[e];exact⟨b,r++_,rfl,h1,h2⟩
theorem CV(n:Nat):Lib.decNat (Lib.decDigits n)=some n:=by
 obtain⟨b,r,e,_⟩:=vI n;unfold Lib.decNat;rw[show(Lib.decDigits n).isEmpty=false from by rw[e];rfl];exact vH n
theorem Ew(b:UInt8)(r:List UInt8):Lib.atoi (b::r)=if b==45 then(Lib.decNat r).map fun(m:Nat)=> -(m:Int) else if b==43 then(Lib.decNat r).map fun(m:Nat)=>(m:Int) else(Lib.decNat (b::r)).map fun(m:Nat)=>(m:Int):=rfl
theorem Ms(n:Int):Lib.atoi (Lib.itoa n)=some n:=by
 unfold Lib.itoa;split
 ·rename_i h;show Lib.atoi (45::Lib.decDigits n.natAbs)=_;rw[Ew,if_pos (by decide),CV];simp only[cQ,cb];omega
 ·rename_i h;obtain⟨b,r,e,h1,h2⟩:=vI n.toNat;have hd:=CV n.toNat;rw[e] at hd ⊢;rw[Ew,if_neg (by simp only[beq_iff_eq];intro h;rw[h] at h1;revert h1;decide),if_neg (by simp only[beq_iff_eq];intro h;rw[h] at h1;revert h1;decide),hd];simp only[cQ,cb];omega
theorem afq(n:Int):Lib.itoa n≠[]:=fun e=>by
 have:=Ms n;rw[e] at this;cases this
def fu(s:List UInt8):Option Int:=match Lib.atoi s with
 |some n=>if(-999999999999<=n/\n<=999999999999)/\Lib.itoa n=s then some n else none
 |none=>none
theorem JW{n:Int}(h: -999999999999<=n/\n<=999999999999):fu (Lib.itoa n)=some n:=by
 unfold fu;rw[Ms];exact if_pos ⟨h,rfl⟩
theorem JX{s:List UInt8}{n:Int}(h:fu s=some n):(-999999999999<=n/\n<=999999999999)/\Lib.itoa n=s:=by
 unfold fu at h;split at h
 ·split at h
  ·cases h;assumption
  ·cases h
 ·cases h
theorem zw{b:UInt8}{r:List UInt8}(h:lowerB b):fu (b::r)=none:=by
 have h1:(b==45)=false:=by simp only[beq_eq_false_iff_ne];intro e;rw[e] at h;revert h;simp[lowerB]
 have h2:(b==43)=false:=by simp only[beq_eq_false_iff_ne];intro e;rw[e] at h;revert h;simp[lowerB]
 have h3:Lib.digitVal b=none:=if_neg (fun x=>by unfold lowerB at h;omega);unfold fu;rw[Ew,h1,h2];simp[Lib.decNat,Lib.decFrom,h3]
theorem Ww{s:List UInt8}(h:validName s=true):fu s=none:=by
 have h1:=iJ h;have h2:=h1.2.2 0 (by omega)
 cases s with
 |nil=>simp at h1
 |cons b r=>
  rcases h2 with h2|h2
  ·exact zw h2
  ·exact(h2.1 rfl).elim
def jh:au:=.mk 0 [] []
def lW:aj:=.mk 0 [] [] 0 jh [] []
mutual
def bW(b:Bool):ah->aj
 | .mk a l=>if a=[] then
    if b=true/\(l.length<2\/cO l 0=fM/\l.length<3) then lW
    else if cO l 0=kg then .mk 4 [] (cO l 1) 0 jh ((dL b l).drop 2) []
    else if cO l 0=mV then .mk 6 [] (cO l 1) 0 jh ((dL b l).drop 2) []
    else if cO l 0=mW then .mk 8 [] (cO l 1) 0 jh ((dL b l).drop 2) []
    else if cO l 0=kr then .mk 11 (cO l 1) [] 0 jh ((dL b l).drop 2) []
    else if cO l 0=fM then .mk 5 (cO l 1) (cO l 2) 0 jh ((dL b l).drop 3) []
    else if cO l 0=qY then .mk 9 [] [] 0 jh ((dL b l).drop 1) []
    else if cO l 0=nA then .mk 12 [] [] 0 (fq b (l.getD 1 gF)) ((dL b l).drop 2) []
    else if cO l 0=gJ then .mk 7 [] [] 0 jh (((dL b l).drop 1).take 1) ((kD b l).drop 2)
    else .mk 10 [] (cO l 0) 0 jh ((dL b l).drop 1) []
   else match fu a with
    |some n=>.mk 1 [] [] n jh [] []
    |none=>if a=vS then .mk 2 [] [] 1 jh [] [] else if a=uN then .mk 2 [] [] 0 jh [] [] else .mk 3 [] a 0 jh [] []
def dL(b:Bool):List ah->List aj
 |[]=>[]
 |x::xs=>bW b x::dL b xs
def mZ(b:Bool):ah->aK
 | .mk a l=>if l.length<2 then .mk [] [] lW else .mk (cO l 0) (mY ((l.drop 1).dropLast)) ((dL b l).getLastD lW)
def kD(b:Bool):List ah->List aK
 |[]=>[]
 |x::xs=>mZ b x::kD b xs
end
theorem wZ(b:Bool):∀l,dL b l=l.map (bW b)
 |[]=>rfl
 |t::ts=>by rw[dL,ag,wZ b ts]
theorem zZ(b:Bool):∀l,kD b l=l.map (mZ b)
 |[]=>rfl
 |t::ts=>by rw[kD,ag,zZ b ts]
theorem jB(b:Bool)(l m:List ah):dL b (l++m)=dL b l++dL b m:=by simp only[wZ,bi]
theorem ng(b:Bool)(l m:List ah):kD b (l++m)=kD b l++kD b m:=by simp only[zZ,bi]
theorem oM{t:au}(h:zQ t):t=jh:=au.ext h.1 h.2.1 (bh h.2.2)
theorem Sv{s:List UInt8}(h:s∈ops):s≠[]/\∀w∈[kg,mV,mW,kr,fM,qY,nA,gJ],s≠w:=by
 have:=YU h;refine⟨fun e=>by rw[e] at this;simp at this,fun w hw e=> ?_⟩;rw[e] at this;simp only[cA,ep,or_false] at hw;rcases hw with g|g|g|g|g|g|g|g<;>rw[g] at this<;>revert this<;>decide
mutual
theorem Bn(b:Bool):∀e:aj,gT e=true->bW b (bT e)=e
 | .mk k tr nm n ty zs ms=>fun hok=>by
   rw[gT,af,af] at hok;have hf:=iJ hok.1;have h1:=Ql b zs hok.2.1;have h2:=Qm b ms hok.2.2;obtain⟨p0,p1,p2,p3,p4,p5,p6⟩:=hf;simp only[aj.aH,aj.aW,aj.fName,aj.fN,aj.fType,aj.fArgs,aj.aG] at p0 p1 p2 p3 p4 p5 p6;have nz:∀{l:List aj},l.length=0->l=[]:=fun h=>bh h
   have Ey:k≠7->ms=[]:=fun h=>bh (by
    have:¬0<ms.length:=fun x=>h (p6.2 x)
    omega)
   have hk:k=1\/k=2\/k=3\/k=4\/k=5\/k=6\/k=7\/k=8\/k=9\/k=10\/k=11\/k=12:=by omega
   rcases hk with rfl|rfl|rfl|rfl|rfl|rfl|rfl|rfl|rfl|rfl|rfl|rfl
   all_goals simp only[if_true,if_false,true_or,or_true,false_or,or_false,or_self,(by decide:(1:Int)=5<->False),Int.reduceEq] at p1 p2 p3 p4 p5
   ·have e1:=oM p4;have e2:=nz p5;have e3:=Ey (by decide);subst e1 e2 e3 p1 p2;rw[bT,if_pos rfl,aM,bW,if_neg (afq n),JW (by omega)]
   ·have e1:=oM p4;have e2:=nz p5;have e3:=Ey (by decide);subst e1 e2 e3 p1 p2;rw[bT,if_neg (by decide),if_pos rfl,aM,bW];rcases p3 with rfl|rfl
    ·rw[if_neg (by decide:¬(0:Int)=1),if_neg (by decide),show fu uN=none from zw (by simp[lowerB]),if_neg (by decide),if_pos rfl]
    ·rw[if_pos rfl,if_neg (by decide),show fu vS=none from zw (by simp[lowerB]),if_pos rfl]
   ·have e1:=oM p4;have e2:=nz p5;have e3:=Ey (by decide);subst e1 e2 e3 p1 p3;have hr:=(iJ p2).2.1;rw[bT,if_neg (by decide),if_neg (by decide),if_pos rfl,aM,bW,if_neg (Bl p2),Ww p2,if_neg (fun e=>hr (by rw[e];simp[reserved,vS])),if_neg (fun e=>hr (by rw[e];simp[reserved,uN]))]
   all_goals have hz:(xA zs).length=zs.length:=by rw[zi,ai]
   ·have e1:=oM p4;have e3:=Ey (by decide);subst e1 e3 p1 p3;simp[bT,eD,dh,aP,bW,dL,jB,kD,ng,cO,aM,ah.aI,kg,fM,mV,gJ,mW,qY,kr,nA,h1,hz,h2]
    all_goals (intros;omega)
   ·have e1:=oM p4;have e3:=Ey (by decide);subst e1 e3 p3;simp[bT,eD,dh,aP,bW,dL,jB,kD,ng,cO,aM,ah.aI,kg,fM,mV,gJ,mW,qY,kr,nA,h1,hz,h2]
    all_goals (intros;omega)
   ·have e1:=oM p4;have e3:=Ey (by decide);subst e1 e3 p1 p3;simp[bT,eD,dh,aP,bW,dL,jB,kD,ng,cO,aM,ah.aI,kg,fM,mV,gJ,mW,qY,kr,nA,h1,hz,h2]
    all_goals (intros;omega)
   ·have e1:=oM p4;subst e1 p1 p2 p3;have hm:0<ms.length:=p6.1 rfl
    obtain⟨z,rfl⟩:∃z,zs=[z]:=by
     cases zs with
     |nil=>simp at p5
     |cons z t=>cases t with
      |nil=>exact⟨z,rfl⟩
      |cons _ _=>simp at p5
    simp only[xA,dL,ed,and_true] at h1;simp[bT,eD,dh,aP,bW,dL,jB,kD,ng,xA,cO,aM,ah.aI,kg,fM,mV,gJ,mW,qY,kr,nA,h1,h2]
    all_goals (intros;omega)
   ·have e1:=oM p4;have e3:=Ey (by decide);subst e1 e3 p1 p3;simp[bT,eD,dh,aP,bW,dL,jB,kD,ng,cO,aM,ah.aI,kg,fM,mV,gJ,mW,qY,kr,nA,h1,hz,h2]
    all_goals (intros;omega)
   ·have e1:=oM p4;have e3:=Ey (by decide);subst e1 e3 p1 p2 p3;simp[bT,eD,dh,aP,bW,dL,jB,kD,ng,cO,aM,ah.aI,kg,fM,mV,gJ,mW,qY,kr,nA,h1,hz,h2]
    all_goals (intros;omega)
   ·have e1:=oM p4;have e3:=Ey (by decide);subst e1 e3 p1 p3;have ho:=Sv p2;simp only[cA,ep,or_false,ne_eq,forall_eq_or_imp,forall_eq] at ho;obtain⟨_,o1,o2,o3,o4,o5,o6,o7,o8⟩:=ho;simp[bT,eD,dh,aP,bW,dL,jB,cO,aM,ah.aI,h1,hz,o1,o2,o3,o4,o5,o6,o7,o8]
    all_goals (intros;omega)
   ·have e1:=oM p4;have e3:=Ey (by decide);subst e1 e3 p2 p3;simp[bT,eD,dh,aP,bW,dL,jB,kD,ng,cO,aM,ah.aI,kg,fM,mV,gJ,mW,qY,kr,nA,h1,hz,h2]
    all_goals (intros;omega)
   ·have e3:=Ey (by decide);subst e3 p1 p2 p3;have ht:=TF b ty (DW p4);simp[bT,eD,dh,aP,bW,dL,jB,cO,aM,ah.aI,kg,fM,mV,gJ,mW,qY,kr,nA,h1,hz,ht]
    all_goals (intros;omega)
theorem Ql(b:Bool):∀es:List aj,jq es=true->dL b (xA es)=es
 |[],_=>rfl
 |t::ts,h=>by
  rw[jq,af] at h;rw[xA,dL,Bn b t h.1,Ql b ts h.2]
theorem afr(b:Bool):∀m:aK,rE m=true->mZ b (rJ m)=m
 | .mk c vs e=>fun h=>by
   rw[rE,af,af] at h;have he:=Bn b e h.2.2;rw[rJ,dh,mZ,if_neg (by simp),jB];have e1:cO ([aM c]++aP vs++[bT e]) 0=c:=rfl
   have e2:(([aM c]++aP vs++[bT e]).drop 1).dropLast=aP vs:=by
    rw[bk,List.singleton_append,cY,db,List.dropLast_concat]
   rw[e1,e2,Qd (afn h.2.1)];congr 1;rw[dL,he,ff,List.getLast?_append];simp[dL]
theorem Qm(b:Bool):∀ms:List aK,kZ ms=true->kD b (Cg ms)=ms
 |[],_=>rfl
 |t::ts,h=>by
  rw[kZ,af] at h;rw[Cg,kD,afr b t h.1,Qm b ts h.2]
end
theorem JY:jh.sz=0:=by rw[qV];rfl
theorem z8:lW.sz=0:=by rw[qZ];simp[lW,aj.aW,aj.fName,aj.fType,aj.fArgs,aj.aG,JY,pY,xH]
theorem Wx(l:List ah):((mY ((l.drop 1).dropLast)).length+((mY ((l.drop 1).dropLast)).map List.length).sum)<=(l.drop 1).dropLast.length+dD ((l.drop 1).dropLast):=by
 have:=Zz ((l.drop 1).dropLast);omega
theorem afs(x:ah)(m:List ah)(y:ah):dD (x::(m++[y]))=x.sz+(dD m+y.sz):=by rw[dD,jF];simp[dD]
mutual
theorem yE(b:Bool):∀x:ah,(bW b x).sz<=x.sz
 | .mk a l=>by
   have g:=Mt b l
   have hl:(dL b l).length=l.length:=by rw[wZ,ai]
   have hm:(kD b l).length=l.length:=by rw[zZ,ai]
   rw[iQ,j6];simp only[ah.aI,ah.ak];rw[bW];split
   ·have g1:pY ((dL b l).drop 1)+(cO l 0).length<=dD l:=by
     have:=g 0;simp only[cL,(by decide:¬(1<=0)),if_false] at this;omega
    have g2:pY ((dL b l).drop 2)+((cO l 0).length+(cO l 1).length)<=dD l:=by
     have:=g 1;simp only[Nat.reduceAdd,ax,if_true,cq] at this;omega
    have g3:pY ((dL b l).drop 3)+((cO l 1).length+(cO l 2).length)<=dD l:=by
     have:=g 2;simp only[Nat.reduceAdd,(by decide:1<=2),if_true,Nat.reduceSub] at this;omega
    split
    ·rw[z8];omega
    ·repeat' split
     all_goals rw[qZ];simp only[aj.aW,aj.fName,aj.fType,aj.fArgs,aj.aG,JY,pY,xH,aq,bj,bm,hl,hm,db] at g1 g2 g3 ⊢
     all_goals try omega
     ·have h1:=TD b (l.getD 1 gF)
      have h2:pY ((dL b l).drop 2)+(l.getD 1 gF).sz<=dD l:=by
       match l with
       |[]=>simp[dL,pY,dD,GZ]
       |[x]=>simp[dL,pY,dD,GZ]
       |x::y::l=>
        have:=G5 b l;simp only[dL,cY,db,dD];show _+y.sz<=_;omega
      omega
     ·match l with
      |[]=>simp[pY,xH,dL,kD]
      |[x]=>simp[pY,xH,dL,kD]
      |x::y::l=>
       have h1:=yE b y;have h2:=Qn b l;simp only[dL,kD,cY,db,List.take_succ_cons,df,pY,dD,aa];omega
   ·split
    ·rw[qZ];simp[aj.aW,aj.fName,aj.fType,aj.fArgs,aj.aG,JY,pY,xH]
    ·repeat' split
     all_goals rw[qZ];simp[aj.aW,aj.fName,aj.fType,aj.fArgs,aj.aG,JY,pY,xH]
theorem G5(b:Bool):∀l:List ah,pY (dL b l)<=dD l
 |[]=>by simp[dL,pY]
 |x::xs=>by
  have h1:=yE b x;have h2:=G5 b xs;rw[dL,pY,dD];omega
theorem Mt(b:Bool):∀(l:List ah)(i:Nat),pY ((dL b l).drop (i+1))+((if 1<=i then(cO l (i-1)).length else 0)+(cO l i).length)<=dD l
 |[],i=>by simp[dL,pY,Bj]
 |x::xs,0=>by
  have h2:=G5 b xs;rw[dL,cY,db,dD,show cO (x::xs) 0=x.aI from rfl,iQ];simp;omega
 |x::xs,i+1=>by
  have h2:=Mt b xs i;rw[dL,cY,dD,show cO (x::xs) (i+1)=cO xs i from rfl]
  cases i with
  |zero=>rw[show cO (x::xs) (0+1-1)=x.aI from rfl,iQ];simp at h2 ⊢;omega
  |succ i=>rw[show cO (x::xs) (i+1+1-1)=cO xs i from rfl];simp at h2 ⊢;omega
theorem aft(b:Bool):∀x:ah,(mZ b x).sz<=x.sz
 | .mk a l=>by
   rw[iQ,j6];simp only[ah.aI,ah.ak];rw[mZ];split
   ·rw[tV];simp[aK.bK,aK.bH,aK.fBody,z8]
   ·rename_i h;have hn:=Wx l;have hb:=JZ b l;rw[tV];simp only[aK.bK,aK.bH,aK.fBody]
    obtain⟨x,m,y,rfl⟩:∃x m y,l=x::(m++[y]):=by
     cases l with
     |nil=>simp at h
     |cons x l=>
      have hl:l≠[]:=fun e=>by rw[e] at h;simp at h
      exact⟨x,l.dropLast,l.getLast hl,by rw[List.dropLast_concat_getLast]⟩
    rw[afs] at *
    rw[show cO (x::(m++[y])) 0=x.aI from rfl,iQ x];simp only[cY,db,List.dropLast_concat,aa,ab,aq] at hn ⊢
    have hy:((x::(m++[y])).getLastD gF)=y:=by rw[<-am,ff,List.getLast?_append];simp
    rw[hy] at hb;omega
theorem Qn(b:Bool):∀l:List ah,xH (kD b l)<=dD l
 |[]=>by simp[kD,xH]
 |x::xs=>by
  have h1:=aft b x;have h2:=Qn b xs;rw[kD,xH,dD];omega
theorem JZ(b:Bool):∀l:List ah,((dL b l).getLastD lW).sz<=(l.getLastD gF).sz
 |[]=>by simp[dL,z8]
 |[x]=>by simpa [dL] using yE b x
 |x::y::l=>by
  have:=JZ b (y::l);simpa [dL] using this
end
theorem Qo{x:aj}(h:d9 x=true):gT x=true:=by rw[d9,af] at h;exact h.2
noncomputable def sj(x:ah):Bool:=dec (dJ x=true/\d9 (bW true x)=true/\bT (bW true x)=x)
theorem acS(x:ah):sj x=dec (dJ x=true/\d9 (bW false x)=true/\bT (bW false x)=x):=by
 have key:∀b c:Bool,d9 (bW b x)=true->bT (bW b x)=x->bW c x=bW b x:=fun b c h1 h2=>by
  conv=>lhs;rw[<-h2]
  exact Bn c _ (Qo h1)
 refine mo ⟨fun⟨h0,h1,h2⟩=> ?_,fun⟨h0,h1,h2⟩=> ?_⟩
 ·rw[key true false h1 h2];exact⟨h0,h1,h2⟩
 ·rw[key false true h1 h2];exact⟨h0,h1,h2⟩
theorem acT{x:ah}(h:sj x=true):bW false x=bW true x:=by
 have h1:=iJ h
 conv=>lhs;rw[<-h1.2.2]
 exact Bn false _ (Qo h1.2.1)
noncomputable def xL(x:ah):aj:=if sj x=true then bW true x else lW
theorem ag3{x:ah}(h:x.sz<=1048576):(xL x).sz<=1048576:=by
 have:=yE true x;unfold xL;split
 ·omega
 ·rw[z8];omega
def uQ(s:List UInt8):Prop:=s.head? =some 45
instance (s:List UInt8):Decidable (uQ s):=inferInstanceAs (Decidable (_=_))
def dG(s:List UInt8):List UInt8:=if uQ s then s.tail else s
theorem w9:∀(l:List UInt8)(acc v:Nat),Lib.decFrom acc l=some v->∀b∈l,48<=b.toNat/\b.toNat<=57
 |[],_,_,_,b,hb=>by cases hb
 |a::l,acc,v,h,b,hb=>by
  rw[Lib.decFrom] at h
  cases hd:Lib.digitVal a with
  |none=>rw[hd] at h;cases h
  |some d=>
   rw[hd] at h;rcases cA.1 hb with rfl|hb
   ·unfold Lib.digitVal at hd;split at hd
    ·assumption
    ·cases hd
   ·exact w9 l _ v h b hb
theorem Sw{b:UInt8}(h:48<=b.toNat/\b.toNat<=57):Lib.digitVal b=some (b.toNat-48):=if_pos h
theorem decFrom_take{t:List UInt8}{i acc:Nat}(hi:i<t.length)(h:Lib.decFrom 0 (t.take i)=some acc)(hd:48<=t[i].toNat/\t[i].toNat<=57):Lib.decFrom 0 (t.take (i+1))=some (acc*10+(t[i].toNat-48)):=by
 rw[bp hi,zu,h,Sw hd];rfl
theorem Ez{s:List UInt8}{m:Int}(h:fu s=some m):(uQ s<->m<0)/\dG s=Lib.decDigits m.natAbs/\1<=(dG s).length/\(dG s).length<=12:=by
 obtain⟨hr,he⟩:=JX h;have hl:(Lib.decDigits m.natAbs).length<=12:=Bf 11 _ (by omega);obtain⟨b,r,e,b1,b2⟩:=vI m.natAbs
 have hl1:1<=(Lib.decDigits m.natAbs).length:=by rw[e];simp
 unfold Lib.itoa at he;by_cases hn:m<0
 ·rw[if_pos hn] at he
  have hs:uQ s:=by rw[<-he];rfl
  have hb:dG s=Lib.decDigits m.natAbs:=by unfold dG;rw[if_pos hs,<-he];rfl
  exact⟨⟨fun _=>hn,fun _=>hs⟩,hb,by rw[hb];exact⟨hl1,hl⟩⟩
 ·rw[if_neg hn,show m.toNat=m.natAbs by omega] at he
  have hs:¬uQ s:=fun x=>by
   rw[<-he,e] at x;unfold uQ at x;simp only[List.head?_cons,cb] at x;rw[x] at b1;revert b1;decide
  have hb:dG s=Lib.decDigits m.natAbs:=by unfold dG;rw[if_neg hs,<-he]
  exact⟨⟨fun x=>(hs x).elim,fun x=>(hn x).elim⟩,hb,by rw[hb];exact⟨hl1,hl⟩⟩
theorem su{s:List UInt8}(h:(dG s).length<1\/12<(dG s).length):fu s=none:=by
 cases hr:fu s with
 |none=>rfl
 |some m=>have:=(Ez hr).2.2;omega
theorem Aa{s:List UInt8}{i:Nat}(hi:i<(dG s).length)(h:¬(48<=(dG s)[i].toNat/\(dG s)[i].toNat<=57)):fu s=none:=by
 cases hr:fu s with
 |none=>rfl
 |some m=>
  have hk:=(Ez hr).2.1;have hd:=vH m.natAbs;rw[<-hk] at hd;exact absurd (w9 _ _ _ hd _ (ap hi)) h
theorem Mv{s:List UInt8}{v:Nat}(hv:Lib.decFrom 0 (dG s)=some v)(hb:v<=999999999999):fu s=if Lib.itoa (if uQ s then -(v:Int) else v)=s then some (if uQ s then -(v:Int) else v) else none:=by
 obtain⟨z,hz⟩:∃z,z=(if uQ s then -(v:Int) else v):=⟨_,rfl⟩
 have hzb: -999999999999<=z/\z<=999999999999:=by rw[hz];split<;>omega
 rw[<-hz];by_cases h:Lib.itoa z=s
 ·rw[if_pos h]
  conv=>lhs;rw[<-h]
  exact JW hzb
 ·rw[if_neg h]
  cases hr:fu s with
  |none=>rfl
  |some m=>
   have hk:=Ez hr;have hd:=vH m.natAbs;rw[<-hk.2.1,hv] at hd
   have hm:v=m.natAbs:=by simpa using hd
   have:z=m:=by
    rw[hz];by_cases hn:uQ s
    ·have:=hk.1.1 hn;rw[if_pos hn];omega
    ·rw[if_neg hn];have:¬m<0:=fun x=>hn (hk.1.2 x);omega
   rw[this] at h;exact absurd (JX hr).2 h
theorem Sy(s:List UInt8)(hs:s.length<=1073741824):aF prog 195 [.c (.d (.s s)),.c (.d (.i .i64 12))] (.dI [(false,[.d (.i .i64 ((fu s).getD 0))]),(false,[.d (.b (fu s).isSome)])]):=fun S=>by
 have d0:fu s=none->V.dI [(false,[.d (.i .i64 0)]),(false,[.d (.b false)])]=.dI [(false,[.d (.i .i64 ((fu s).getD 0))]),(false,[.d (.b (fu s).isSome)])]:=fun e=>by rw[e];rfl
 refine zcx [.tmp 4,.tmp 5] func195 ntmps195 ?_;simp -implicitDefEqProofs (disch:=omega) only[go_sem]
 with_reducible refine ay (fun hb=> ?_) (fun hb=> ?_)<;>have h:=hb<;>(try simp only[wf_preprocess] at h)<;>simp -implicitDefEqProofs (disch:=omega) only[go_sem,hb]<;>(repeat(with_reducible refine And.intro ?_ ?_;focus first|omega|rfl|assumption|exact⟨_,rfl,rfl⟩|(simp;omega)|(simp;done)))
 ·have hpos:0<s.length:=by omega
  have h0:(s.getD 0 0).toNat=45<->uQ s:=by
   cases s with
   |nil=>simp at hpos
   |cons b s=>
    unfold uQ;simp only[eE,List.head?_cons,cb];constructor
    ·intro e;exact UInt8.toNat.inj e
    ·intro e;rw[e];rfl
  (repeat(with_reducible refine And.intro ?_ ?_;focus first|omega|rfl|assumption|exact⟨_,rfl,rfl⟩|(simp;omega)|(simp;done)))
  with_reducible refine ay (fun hb=> ?_) (fun hb=> ?_)<;>have h:=hb<;>(try simp only[wf_preprocess] at h)<;>simp -implicitDefEqProofs (disch:=omega) only[go_sem,hb]<;>(repeat(with_reducible refine And.intro ?_ ?_;focus first|omega|rfl|assumption|exact⟨_,rfl,rfl⟩|(simp;omega)|(simp;done)))
  ·have hn:uQ s:=h0.1 (by omega)
   have hb:dG s=(s.take s.length).drop 1:=by unfold dG;rw[if_pos hn,co,List.drop_one]
   (repeat(with_reducible refine And.intro ?_ ?_;focus first|omega|rfl|assumption|exact⟨_,rfl,rfl⟩|(simp;omega)|(simp;done)))
   rw[<-hb]
   have hbl:(dG s).length<=s.length:=by rw[hb];simp
   with_reducible refine ay (fun hb=> ?_) (fun hb=> ?_)<;>have h:=hb<;>(try simp only[wf_preprocess] at h)<;>simp -implicitDefEqProofs (disch:=omega) only[go_sem,hb]<;>(repeat(with_reducible refine And.intro ?_ ?_;focus first|omega|rfl|assumption|exact⟨_,rfl,rfl⟩|(simp;omega)|(simp;done)))
   ·exact d0 (su (by omega))
   with_reducible refine ay (fun hb=> ?_) (fun hb=> ?_)<;>have h:=hb<;>(try simp only[wf_preprocess] at h)<;>simp -implicitDefEqProofs (disch:=omega) only[go_sem,hb]<;>(repeat(with_reducible refine And.intro ?_ ?_;focus first|omega|rfl|assumption|exact⟨_,rfl,rfl⟩|(simp;omega)|(simp;done)))
   ·exact d0 (su (by omega))
   have hl1:1<=(dG s).length:=by omega
   have hl12:(dG s).length<=12:=by omega
   refine bI (ι:=Nat×Nat) zmx rfl [0,6,7,8,9] (fun y=>[.c (.d (.s s)),.c (.d (.b true)),.c (.d (.s (dG s))),.c (.d (.i .i64 y.2)),.c (.d (.i .i64 y.1))]) (fun _=>[]::S)
    (fun y=>y.1<=(dG s).length/\Lib.decFrom 0 ((dG s).take y.1)=some y.2/\y.2<10^y.1) (fun y=>(dG s).length-y.1) (0,0) rfl rfl ⟨ba _,rfl,by decide⟩ ?_
   rintro⟨i,acc⟩ ⟨p1,p2,p3⟩;simp only at p1 p2 p3;have p4:10^i<=10^12:=Nat.pow_le_pow_right (by decide) (by omega);simp -implicitDefEqProofs (disch:=omega) only[go_sem]
   with_reducible refine ay (fun hb=> ?_) (fun hb=> ?_)<;>have h:=hb<;>(try simp only[wf_preprocess] at h)<;>simp -implicitDefEqProofs (disch:=omega) only[go_sem,hb]<;>(repeat(with_reducible refine And.intro ?_ ?_;focus first|omega|rfl|assumption|exact⟨_,rfl,rfl⟩|(simp;omega)|(simp;done)))
   ·have hi:i<(dG s).length:=by omega
    have e:(dG s).getD i 0=(dG s)[i]:=by simp[List.getD,hi]
    have hbb:=(dG s)[i].toNat_lt
    (repeat(with_reducible refine And.intro ?_ ?_;focus first|omega|rfl|assumption|exact⟨_,rfl,rfl⟩|(simp;omega)|(simp;done)))
    simp only[e]
    with_reducible refine ay (fun hb=> ?_) (fun hb=> ?_)<;>have h:=hb<;>(try simp only[wf_preprocess] at h)<;>simp -implicitDefEqProofs (disch:=omega) only[go_sem,hb]<;>(repeat(with_reducible refine And.intro ?_ ?_;focus first|omega|rfl|assumption|exact⟨_,rfl,rfl⟩|(simp;omega)|(simp;done)))
    ·exact d0 (Aa hi (by omega))
    (repeat(with_reducible refine And.intro ?_ ?_;focus first|omega|rfl|assumption|exact⟨_,rfl,rfl⟩|(simp;omega)|(simp;done)))
    simp only[e]
    with_reducible refine ay (fun hb=> ?_) (fun hb=> ?_)<;>have h:=hb<;>(try simp only[wf_preprocess] at h)<;>simp -implicitDefEqProofs (disch:=omega) only[go_sem,hb]<;>(repeat(with_reducible refine And.intro ?_ ?_;focus first|omega|rfl|assumption|exact⟨_,rfl,rfl⟩|(simp;omega)|(simp;done)))
    ·exact d0 (Aa hi (by omega))
    have hdg:48<=(dG s)[i].toNat/\(dG s)[i].toNat<=57:=by omega
    have ht:=decFrom_take hi p2 hdg
    have e2:(10:Int)*acc+(((dG s)[i].toNat:Int)-48)=((acc*10+((dG s)[i].toNat-48):Nat):Int):=by omega
    (repeat(with_reducible refine And.intro ?_ ?_;focus first|omega|rfl|assumption|exact⟨_,rfl,rfl⟩|(simp;omega)|(simp;done)))
    simp -implicitDefEqProofs (disch:=omega) only[go_sem,wrap_u8,e];rw[e2];exact bZ (i+1,acc*10+((dG s)[i].toNat-48)) (by simp only;omega) rfl rfl ⟨by simp only;omega,ht,by simp only[fi];omega⟩
   ·have hi:i=(dG s).length:=by omega
    have hv:Lib.decFrom 0 (dG s)=some acc:=by rw[hi,co] at p2;exact p2
    have rH:=Mv hv (by omega);rw[if_pos hn] at rH;rw[show(0:Int)-acc= -(acc:Int) by omega];refine aA (sI (-(acc:Int)) (by omega) (by omega)) ?_;simp -implicitDefEqProofs (disch:=omega) only[go_sem]
    with_reducible refine ay (fun hb=> ?_) (fun hb=> ?_)<;>have h:=hb<;>(try simp only[wf_preprocess] at h)<;>simp -implicitDefEqProofs (disch:=omega) only[go_sem,hb]<;>(repeat(with_reducible refine And.intro ?_ ?_;focus first|omega|rfl|assumption|exact⟨_,rfl,rfl⟩|(simp;omega)|(simp;done)))
    ·exact d0 (rH.trans (if_neg h))
    ·rw[rH.trans (if_pos h)];rfl
  ·have hn:¬uQ s:=fun x=>h (by rw[h0.2 x];rfl)
   have hbs:dG s=s:=by unfold dG;rw[if_neg hn]
   have hbl:(dG s).length=s.length:=by rw[hbs]
   with_reducible refine ay (fun hb=> ?_) (fun hb=> ?_)<;>have h:=hb<;>(try simp only[wf_preprocess] at h)<;>simp -implicitDefEqProofs (disch:=omega) only[go_sem,hb]<;>(repeat(with_reducible refine And.intro ?_ ?_;focus first|omega|rfl|assumption|exact⟨_,rfl,rfl⟩|(simp;omega)|(simp;done)))
   ·exact d0 (su (by omega))
   with_reducible refine ay (fun hb=> ?_) (fun hb=> ?_)<;>have h:=hb<;>(try simp only[wf_preprocess] at h)<;>simp -implicitDefEqProofs (disch:=omega) only[go_sem,hb]<;>(repeat(with_reducible refine And.intro ?_ ?_;focus first|omega|rfl|assumption|exact⟨_,rfl,rfl⟩|(simp;omega)|(simp;done)))
   ·exact d0 (su (by omega))
   have hl1:1<=(dG s).length:=by omega
   have hl12:(dG s).length<=12:=by omega
   refine bI (ι:=Nat×Nat) zmx rfl [0,6,7,8,9] (fun y=>[.c (.d (.s s)),.c (.d (.b false)),.c (.d (.s (dG s))),.c (.d (.i .i64 y.2)),.c (.d (.i .i64 y.1))]) (fun _=>[]::S)
    (fun y=>y.1<=(dG s).length/\Lib.decFrom 0 ((dG s).take y.1)=some y.2/\y.2<10^y.1) (fun y=>(dG s).length-y.1) (0,0) (by rw[hbs];rfl) rfl ⟨ba _,rfl,by decide⟩ ?_
   rintro⟨i,acc⟩ ⟨p1,p2,p3⟩;simp only at p1 p2 p3;have p4:10^i<=10^12:=Nat.pow_le_pow_right (by decide) (by omega);simp -implicitDefEqProofs (disch:=omega) only[go_sem]
   with_reducible refine ay (fun hb=> ?_) (fun hb=> ?_)<;>have h:=hb<;>(try simp only[wf_preprocess] at h)<;>simp -implicitDefEqProofs (disch:=omega) only[go_sem,hb]<;>(repeat(with_reducible refine And.intro ?_ ?_;focus first|omega|rfl|assumption|exact⟨_,rfl,rfl⟩|(simp;omega)|(simp;done)))
   ·have hi:i<(dG s).length:=by omega
    have e:(dG s).getD i 0=(dG s)[i]:=by simp[List.getD,hi]
    have hbb:=(dG s)[i].toNat_lt
    (repeat(with_reducible refine And.intro ?_ ?_;focus first|omega|rfl|assumption|exact⟨_,rfl,rfl⟩|(simp;omega)|(simp;done)))
    simp only[e]
    with_reducible refine ay (fun hb=> ?_) (fun hb=> ?_)<;>have h:=hb<;>(try simp only[wf_preprocess] at h)<;>simp -implicitDefEqProofs (disch:=omega) only[go_sem,hb]<;>(repeat(with_reducible refine And.intro ?_ ?_;focus first|omega|rfl|assumption|exact⟨_,rfl,rfl⟩|(simp;omega)|(simp;done)))
    ·exact d0 (Aa hi (by omega))
    (repeat(with_reducible refine And.intro ?_ ?_;focus first|omega|rfl|assumption|exact⟨_,rfl,rfl⟩|(simp;omega)|(simp;done)))
    simp only[e]
    with_reducible refine ay (fun hb=> ?_) (fun hb=> ?_)<;>have h:=hb<;>(try simp only[wf_preprocess] at h)<;>simp -implicitDefEqProofs (disch:=omega) only[go_sem,hb]<;>(repeat(with_reducible refine And.intro ?_ ?_;focus first|omega|rfl|assumption|exact⟨_,rfl,rfl⟩|(simp;omega)|(simp;done)))
    ·exact d0 (Aa hi (by omega))
    have hdg:48<=(dG s)[i].toNat/\(dG s)[i].toNat<=57:=by omega
    have ht:=decFrom_take hi p2 hdg
    have e2:(10:Int)*acc+(((dG s)[i].toNat:Int)-48)=((acc*10+((dG s)[i].toNat-48):Nat):Int):=by omega
    (repeat(with_reducible refine And.intro ?_ ?_;focus first|omega|rfl|assumption|exact⟨_,rfl,rfl⟩|(simp;omega)|(simp;done)))
    simp -implicitDefEqProofs (disch:=omega) only[go_sem,wrap_u8,e];rw[e2];exact bZ (i+1,acc*10+((dG s)[i].toNat-48)) (by simp only;omega) rfl rfl ⟨by simp only;omega,ht,by simp only[fi];omega⟩
   ·have hi:i=(dG s).length:=by omega
    have hv:Lib.decFrom 0 (dG s)=some acc:=by rw[hi,co] at p2;exact p2
    have rH:=Mv hv (by omega);rw[if_neg hn] at rH;refine aA (sI ((acc:Int)) (by omega) (by omega)) ?_;simp -implicitDefEqProofs (disch:=omega) only[go_sem]
    with_reducible refine ay (fun hb=> ?_) (fun hb=> ?_)<;>have h:=hb<;>(try simp only[wf_preprocess] at h)<;>simp -implicitDefEqProofs (disch:=omega) only[go_sem,hb]<;>(repeat(with_reducible refine And.intro ?_ ?_;focus first|omega|rfl|assumption|exact⟨_,rfl,rfl⟩|(simp;omega)|(simp;done)))
    ·exact d0 (rH.trans (if_neg h))
    ·rw[rH.trans (if_pos h)];rfl
 ·have hs0:s=[]:=bh (by omega)
  have hb0:(dG s).length=0:=by rw[hs0];rfl
  with_reducible refine ay (fun hb=> ?_) (fun hb=> ?_)<;>have h:=hb<;>(try simp only[wf_preprocess] at h)<;>simp -implicitDefEqProofs (disch:=omega) only[go_sem,hb]<;>(repeat(with_reducible refine And.intro ?_ ?_;focus first|omega|rfl|assumption|exact⟨_,rfl,rfl⟩|(simp;omega)|(simp;done)))
  ·exact d0 (su (by omega))
  ·omega
theorem J2(s:List UInt8)(hs:s.length<=1073741824):aF prog 107 [.c (.d (.s s))] (.dI [(false,[.d (.i .i64 ((fu s).getD 0))]),(false,[.d (.b (fu s).isSome)])]):=fun S=>by
 refine zcx [.tmp 2,.tmp 3] func107 ntmps107 ?_;simp -implicitDefEqProofs (disch:=omega) only[go_sem];refine aA (Sy s hs) ?_;simp -implicitDefEqProofs (disch:=omega) only[go_sem]<;>(repeat(with_reducible refine And.intro ?_ ?_;focus first|omega|rfl|assumption|exact⟨_,rfl,rfl⟩|(simp;omega)|(simp;done)))
theorem lN(b:Bool)(x:ah):bW b x=if x.aI=[] then
 if b=true/\(x.ak.length<2\/cO x.ak 0=fM/\x.ak.length<3) then lW
 else if cO x.ak 0=kg then .mk 4 [] (cO x.ak 1) 0 jh ((x.ak.map (bW b)).drop 2) []
 else if cO x.ak 0=mV then .mk 6 [] (cO x.ak 1) 0 jh ((x.ak.map (bW b)).drop 2) []
 else if cO x.ak 0=mW then .mk 8 [] (cO x.ak 1) 0 jh ((x.ak.map (bW b)).drop 2) []
 else if cO x.ak 0=kr then .mk 11 (cO x.ak 1) [] 0 jh ((x.ak.map (bW b)).drop 2) []
 else if cO x.ak 0=fM then .mk 5 (cO x.ak 1) (cO x.ak 2) 0 jh ((x.ak.map (bW b)).drop 3) []
 else if cO x.ak 0=qY then .mk 9 [] [] 0 jh ((x.ak.map (bW b)).drop 1) []
 else if cO x.ak 0=nA then .mk 12 [] [] 0 (fq b (x.ak.getD 1 gF)) ((x.ak.map (bW b)).drop 2) []
 else if cO x.ak 0=gJ then .mk 7 [] [] 0 jh (((x.ak.map (bW b)).drop 1).take 1) ((x.ak.map (mZ b)).drop 2)
 else .mk 10 [] (cO x.ak 0) 0 jh ((x.ak.map (bW b)).drop 1) []
 else match fu x.aI with
  |some n=>.mk 1 [] [] n jh [] []
  |none=>if x.aI=vS then .mk 2 [] [] 1 jh [] [] else if x.aI=uN then .mk 2 [] [] 0 jh [] [] else .mk 3 [] x.aI 0 jh [] []:=by
 cases x;rw[bW,wZ,zZ];rfl
theorem TI(b:Bool)(x:ah)(h:2<=x.ak.length):mZ b x=.mk (cO x.ak 0) (mY ((x.ak.drop 1).dropLast)) (bW b (x.ak[x.ak.length-1]'(by omega))):=by
 obtain⟨a,l⟩:=x;simp only[ah.ak] at h ⊢;rw[mZ,if_neg (by omega),wZ];congr 1;rw[ff,List.getLast?_eq_getElem?,ai,al (by rw[ai];omega)]
 simp
theorem TJ(b:Bool)(x:ah)(h:x.ak.length<2):mZ b x=.mk [] [] lW:=by
 obtain⟨a,l⟩:=x;rw[mZ];exact if_pos h
def sw(b:Bool)(l:List ah):Prop:=¬(b=true/\(l.length<2\/cO l 0=fM/\l.length<3))
theorem Mw{b:Bool}{x:ah}(ha:x.aI=[])(hg:sw b x.ak)(h:cO x.ak 0=kg):bW b x=.mk 4 [] (cO x.ak 1) 0 jh ((x.ak.drop 2).map (bW b)) []:=by
 rw[lN,if_pos ha,if_neg hg,if_pos h];simp only[dg,du]
theorem Qp{b:Bool}{x:ah}(ha:x.aI=[])(hg:sw b x.ak)(h:cO x.ak 0=mV):bW b x=.mk 6 [] (cO x.ak 1) 0 jh ((x.ak.drop 2).map (bW b)) []:=by
 rw[lN,if_pos ha,if_neg hg,if_neg (by rw[h];decide),if_pos h];simp only[dg,du]
theorem Qq{b:Bool}{x:ah}(ha:x.aI=[])(hg:sw b x.ak)(h:cO x.ak 0=mW):bW b x=.mk 8 [] (cO x.ak 1) 0 jh ((x.ak.drop 2).map (bW b)) []:=by
 rw[lN,if_pos ha,if_neg hg,if_neg (by rw[h];decide),if_neg (by rw[h];decide),if_pos h];simp only[dg,du]
theorem Mx{b:Bool}{x:ah}(ha:x.aI=[])(hg:sw b x.ak)(h:cO x.ak 0=kr):bW b x=.mk 11 (cO x.ak 1) [] 0 jh ((x.ak.drop 2).map (bW b)) []:=by
 rw[lN,if_pos ha,if_neg hg,if_neg (by rw[h];decide),if_neg (by rw[h];decide),if_neg (by rw[h];decide),if_pos h];simp only[dg,du]
theorem Gl{b:Bool}{x:ah}(ha:x.aI=[])(hg:sw b x.ak)(h:cO x.ak 0=fM):bW b x=.mk 5 (cO x.ak 1) (cO x.ak 2) 0 jh ((x.ak.drop 3).map (bW b)) []:=by
 rw[lN,if_pos ha,if_neg hg,if_neg (by rw[h];decide),if_neg (by rw[h];decide),if_neg (by rw[h];decide),if_neg (by rw[h];decide),if_pos h];simp only[dg,du]
theorem TK{b:Bool}{x:ah}(ha:x.aI=[])(hg:sw b x.ak)(h:cO x.ak 0=qY):bW b x=.mk 9 [] [] 0 jh ((x.ak.drop 1).map (bW b)) []:=by
 rw[lN,if_pos ha,if_neg hg,if_neg (by rw[h];decide),if_neg (by rw[h];decide),if_neg (by rw[h];decide),if_neg (by rw[h];decide),if_neg (by rw[h];decide),if_pos h];simp only[dg,du]
theorem Qr{b:Bool}{x:ah}(ha:x.aI=[])(hg:sw b x.ak)(h:cO x.ak 0=nA):bW b x=.mk 12 [] [] 0 (fq b (x.ak.getD 1 gF)) ((x.ak.drop 2).map (bW b)) []:=by
 rw[lN,if_pos ha,if_neg hg,if_neg (by rw[h];decide),if_neg (by rw[h];decide),if_neg (by rw[h];decide),if_neg (by rw[h];decide),if_neg (by rw[h];decide),if_neg (by rw[h];decide),if_pos h];simp only[dg,du]
theorem MB{b:Bool}{x:ah}(ha:x.aI=[])(hg:sw b x.ak)(h:cO x.ak 0=gJ):bW b x=.mk 7 [] [] 0 jh (((x.ak.drop 1).take 1).map (bW b)) ((x.ak.drop 2).map (mZ b)):=by
 rw[lN,if_pos ha,if_neg hg,if_neg (by rw[h];decide),if_neg (by rw[h];decide),if_neg (by rw[h];decide),if_neg (by rw[h];decide),if_neg (by rw[h];decide),if_neg (by rw[h];decide),if_neg (by rw[h];decide),if_pos h];simp only[dg,du]
theorem MC{b:Bool}{x:ah}(ha:x.aI=[])(hg:sw b x.ak)(h0:cO x.ak 0≠kg)(h1:cO x.ak 0≠mV)(h2:cO x.ak 0≠mW)(h3:cO x.ak 0≠kr)(h4:cO x.ak 0≠fM)(h5:cO x.ak 0≠qY)(h6:cO x.ak 0≠nA)(h7:cO x.ak 0≠gJ):bW b x=.mk 10 [] (cO x.ak 0) 0 jh ((x.ak.drop 1).map (bW b)) []:=by
 rw[lN,if_pos ha,if_neg hg,if_neg h0,if_neg h1,if_neg h2,if_neg h3,if_neg h4,if_neg h5,if_neg h6,if_neg h7];simp only[dg,du]
theorem ME{x:ah}(ha:x.aI=[])(hg:¬sw true x.ak):bW true x=lW:=by
 rw[lN,if_pos ha,if_pos (Decidable.not_not.1 hg)]
theorem Qs{b:Bool}{x:ah}{n:Int}(ha:x.aI≠[])(h:fu x.aI=some n):bW b x=.mk 1 [] [] n jh [] []:=by
 rw[lN,if_neg ha,h]
theorem MF{b:Bool}{x:ah}(ha:x.aI≠[])(h:fu x.aI=none)(h1:x.aI=vS):bW b x=.mk 2 [] [] 1 jh [] []:=by
 rw[lN,if_neg ha,h];exact if_pos h1
theorem J3{b:Bool}{x:ah}(ha:x.aI≠[])(h:fu x.aI=none)(h1:x.aI≠vS)(h2:x.aI=uN):bW b x=.mk 2 [] [] 0 jh [] []:=by
 rw[lN,if_neg ha,h];exact(if_neg h1).trans (if_pos h2)
theorem Qt{b:Bool}{x:ah}(ha:x.aI≠[])(h:fu x.aI=none)(h1:x.aI≠vS)(h2:x.aI≠uN):bW b x=.mk 3 [] x.aI 0 jh [] []:=by
 rw[lN,if_neg ha,h];exact(if_neg h1).trans (if_neg h2)
def lE(l:List aj)(n:Nat):List (List D):=fC (l.map aj.enc) n
def pI(l:List aj):Nat:=pz (l.map aj.enc)
def lM(l:List aK)(n:Nat):List (List D):=fC (l.map aK.enc) n
def Wy(l:List aK):Nat:=pz (l.map aK.enc)
abbrev aj.vl(x:aj)(n:Nat):V:=.agg [.d (.i .i64 x.aH),.d (.s x.aW),.d (.s x.fName),.d (.i .i64 x.fN),.d (.i .i64 x.fType.aH),.d (.s x.fType.fName),.d (.ol n (lt x.fType.fArgs (n+1))),
 .d (.ol (n+(jH x.fType.fArgs+1)) (lE x.fArgs (n+(jH x.fType.fArgs+1)+1))),.d (.ol (n+(jH x.fType.fArgs+1)+(pI x.fArgs+1)) (lM x.aG (n+(jH x.fType.fArgs+1)+(pI x.fArgs+1)+1)))]
theorem zx(x:aj)(n:Nat):eu x.enc n=[.i .i64 x.aH,.s x.aW,.s x.fName,.i .i64 x.fN,.i .i64 x.fType.aH,.s x.fType.fName,.ol n (lt x.fType.fArgs (n+1)),
 .ol (n+(jH x.fType.fArgs+1)) (lE x.fArgs (n+(jH x.fType.fArgs+1)+1)),.ol (n+(jH x.fType.fArgs+1)+(pI x.fArgs+1)) (lM x.aG (n+(jH x.fType.fArgs+1)+(pI x.fArgs+1)+1))]:=by
 simp only[aj.aB,au.aB,am,aw,eu,lS,qz,di,lt,lE,lM,jH,pI]
theorem acU(x:aK)(n:Nat):eu x.enc n=[.s x.bK,.ol n (x.bH.map encS)]++eu x.fBody.enc (n+1):=by
 rw[aK.aB,F9];simp only[eu,lS,pE,qz,di,PN,acR,cL]
abbrev aK.vl(x:aK)(n:Nat):V:=.agg [.d (.s x.bK),.d (.ol n (x.bH.map encS)),.d (.i .i64 x.fBody.aH),.d (.s x.fBody.aW),.d (.s x.fBody.fName),.d (.i .i64 x.fBody.fN),.d (.i .i64 x.fBody.fType.aH),.d (.s x.fBody.fType.fName),.d (.ol (n+1) (lt x.fBody.fType.fArgs (n+1+1))),
 .d (.ol (n+1+(jH x.fBody.fType.fArgs+1)) (lE x.fBody.fArgs (n+1+(jH x.fBody.fType.fArgs+1)+1))),.d (.ol (n+1+(jH x.fBody.fType.fArgs+1)+(pI x.fBody.fArgs+1)) (lM x.fBody.aG (n+1+(jH x.fBody.fType.fArgs+1)+(pI x.fBody.fArgs+1)+1)))]
theorem ZJ(l:List aj)(n:Nat):(lE l n).length=l.length:=by unfold lE;rw[mR,ai]
theorem ZK(l:List aK)(n:Nat):(lM l n).length=l.length:=by unfold lM;rw[mR,ai]
theorem afu{l:List aj}{i:Nat}(hi:i<l.length)(n:Nat):lE (l.take i) n++[eu l[i].enc (n+pI (l.take i))]=lE (l.take (i+1)) n:=by
 rw[bp hi];unfold lE pI;rw[bi,qX];rfl
theorem afv{l:List aK}{i:Nat}(hi:i<l.length)(n:Nat):lM (l.take i) n++[eu l[i].enc (n+Wy (l.take i))]=lM (l.take (i+1)) n:=by
 rw[bp hi];unfold lM Wy;rw[bi,qX];rfl
theorem ZL{l:List aj}{i:Nat}(hi:i<l.length):(l.take i).map aj.enc++[l[i].enc]=(l.take (i+1)).map aj.enc:=by
 rw[bp hi,bi];rfl
theorem ZM{l:List aK}{i:Nat}(hi:i<l.length):(l.take i).map aK.enc++[l[i].enc]=(l.take (i+1)).map aK.enc:=by
 rw[bp hi,bi];rfl
theorem TL{x:aj}{n:Nat}{k N:Int}{tr nm:List UInt8}(h:x=.mk k tr nm N jh [] []):Less (.agg [.d (.i .i64 k),.d (.s tr),.d (.s nm),.d (.i .i64 N),.d (.i .i64 0),.d (.s []),.bB [],.bB [],.bB []]) (x.vl n):=by
 rw[h];exact(dV.cons (.refl _) (.cons (.refl _) (.cons (.refl _) (.cons (.refl _) (.cons (.refl _) (.cons (.refl _) (.cons (gq _) (.cons (gq _) (.cons (gq _) .nil))))))))).less
theorem Qu{x:aj}{n:Nat}{k N:Int}{tr nm:List UInt8}{args:List aj}(h:x=.mk k tr nm N jh args []):Less (.agg [.d (.i .i64 k),.d (.s tr),.d (.s nm),.d (.i .i64 N),.d (.i .i64 0),.d (.s []),.bB [],.d (.ol (n+1) (lE args (n+1+1))),.bB []]) (x.vl n):=by
 rw[h];exact(dV.cons (.refl _) (.cons (.refl _) (.cons (.refl _) (.cons (.refl _) (.cons (.refl _) (.cons (.refl _) (.cons (gq _) (.cons (.refl _) (.cons (gq _) .nil))))))))).less
theorem ie2{x:aj}{n:Nat}{k N:Int}{tr nm:List UInt8}{ty:au}{args:List aj}(h:x=.mk k tr nm N ty args []):Less (.agg [.d (.i .i64 k),.d (.s tr),.d (.s nm),.d (.i .i64 N),.d (.i .i64 ty.aH),.d (.s ty.fName),.d (.ol n (lt ty.fArgs (n+1))),.d (.ol (n+(jH ty.fArgs+1)) (lE args (n+(jH ty.fArgs+1)+1))),.bB []]) (x.vl n):=by
 rw[h];exact(dV.cons (.refl _) (.cons (.refl _) (.cons (.refl _) (.cons (.refl _) (.cons (.refl _) (.cons (.refl _) (.cons (.refl _) (.cons (.refl _) (.cons (gq _) .nil))))))))).less
theorem ie3{x:aj}{n:Nat}{k N:Int}{tr nm:List UInt8}{args:List aj}{arms:List aK}(h:x=.mk k tr nm N jh args arms):Less (.agg [.d (.i .i64 k),.d (.s tr),.d (.s nm),.d (.i .i64 N),.d (.i .i64 0),.d (.s []),.bB [],.d (.ol (n+1) (lE args (n+1+1))),.d (.ol (n+1+(pI args+1)) (lM arms (n+1+(pI args+1)+1)))]) (x.vl n):=by
 rw[h];exact(dV.cons (.refl _) (.cons (.refl _) (.cons (.refl _) (.cons (.refl _) (.cons (.refl _) (.cons (.refl _) (.cons (gq _) (.cons (.refl _) (.cons (.refl _) .nil))))))))).less
theorem se0{x:aj}{k N:Int}{tr nm:List UInt8}(h:x=.mk k tr nm N jh [] []):Less (.agg [.d (.i .i64 k),.d (.s tr),.d (.s nm),.d (.i .i64 N),.d (.i .i64 0),.d (.s []),.bB [],.bB [],.bB []]) x.v:=by
 rw[h];exact(dV.cons (.refl _) (.cons (.refl _) (.cons (.refl _) (.cons (.refl _) (.cons (.refl _) (.cons (.refl _) (.cons (jk _) (.cons (jk _) (.cons (jk _) .nil))))))))).less
theorem Qv{x:aj}{k N:Int}{tr nm:List UInt8}{args:List aj}(h:x=.mk k tr nm N jh args []):Less (.agg [.d (.i .i64 k),.d (.s tr),.d (.s nm),.d (.i .i64 N),.d (.i .i64 0),.d (.s []),.bB [],.d (.sl (args.map aj.enc)),.bB []]) x.v:=by
 rw[h];exact(dV.cons (.refl _) (.cons (.refl _) (.cons (.refl _) (.cons (.refl _) (.cons (.refl _) (.cons (.refl _) (.cons (jk _) (.cons (.refl _) (.cons (jk _) .nil))))))))).less
theorem se2{x:aj}{k N:Int}{tr nm:List UInt8}{ty:au}{args:List aj}(h:x=.mk k tr nm N ty args []):Less (.agg [.d (.i .i64 k),.d (.s tr),.d (.s nm),.d (.i .i64 N),.d (.i .i64 ty.aH),.d (.s ty.fName),.d (.sl (ty.fArgs.map au.enc)),.d (.sl (args.map aj.enc)),.bB []]) x.v:=by
 rw[h];exact(dV.cons (.refl _) (.cons (.refl _) (.cons (.refl _) (.cons (.refl _) (.cons (.refl _) (.cons (.refl _) (.cons (.refl _) (.cons (.refl _) (.cons (jk _) .nil))))))))).less
theorem se3{x:aj}{k N:Int}{tr nm:List UInt8}{args:List aj}{arms:List aK}(h:x=.mk k tr nm N jh args arms):Less (.agg [.d (.i .i64 k),.d (.s tr),.d (.s nm),.d (.i .i64 N),.d (.i .i64 0),.d (.s []),.bB [],.d (.sl (args.map aj.enc)),.d (.sl (arms.map aK.enc))]) x.v:=by
 rw[h];exact(dV.cons (.refl _) (.cons (.refl _) (.cons (.refl _) (.cons (.refl _) (.cons (.refl _) (.cons (.refl _) (.cons (jk _) (.cons (.refl _) (.cons (.refl _) .nil))))))))).less
theorem Sz(l:List ah)(i:Nat):((l.map ah.enc).take l.length).drop (min i l.length)=(l.drop i).map ah.enc:=by
 rw[wY _ _ _ (ax _)];by_cases h:i<=l.length
 ·rw[Nat.min_eq_left h]
 ·rw[Nat.min_eq_right (by omega),cH,eR (by omega)]
theorem afw(l:List ah):((l.map ah.enc).take (min 2 l.length)).drop 1=((l.drop 1).take 1).map ah.enc:=by
 match l with
 |[]=>rfl
 |[x]=>rfl
 |x::y::l=>simp[show min 2 (l.length+1+1)=2 by omega]
theorem Wz(l:List ah)(i:Nat)(h:i<l.length+3):(l.map ah.enc++([[.s [],.sl []],[.s [],.sl []],[.s [],.sl []]]:List (List D))).getD i []=[.s (cO l i),.sl ((l.getD i gF).ak.map ah.enc)]:=by
 rw[cr,List.getElem?_append];split
 ·rename_i hi;rw[ai] at hi;rw[be,al hi];simp only[cQ,cN];rw[ah.aB,oL hi,cr,al hi];rfl
 ·rename_i hi;rw[ai] at hi;rw[Bj (by omega),cr,ck (by omega:l.length<=i),ai]
  have:i-l.length=0\/i-l.length=1\/i-l.length=2:=by omega
  rcases this with e|e|e<;>rw[e]<;>rfl
theorem MG(l:List ah)(h:2<=l.length):((l.map ah.enc).take ((l.length:Int)-1).toNat).drop 1=((l.drop 1).dropLast).map ah.enc:=by
 rw[show((l.length:Int)-1).toNat=l.length-1 by omega,<-du,<-dg,List.dropLast_eq_take,bj,List.drop_take]
theorem Qw(x:ah)(i:Nat){m:Nat}(h:x.sz<=m):(x.ak.getD i gF).sz<=m:=by
 have:=acQ x.ak i;have:=sO x;omega
theorem zy{l:List ah}(h:fI l=true){t:ah}(ht:t∈l):gu t=true:=yh.1 h t ht
theorem nZ{l:List ah}(h:fI l=true)(i:Nat):fI (l.drop i)=true:=yh.2 fun t ht=>zy h (eh ht)
theorem ZN{l:List ah}(h:fI l=true)(i:Nat):fI (l.take i)=true:=yh.2 fun t ht=>zy h (eg ht)
theorem Aw{α:Type}[SizeOf α]:∀(i:Nat)(l:List α),SizeOf.sizeOf (l.take i)<=SizeOf.sizeOf l
 |0,[]=>by simp
 |0,x::l=>by rw[df];simp only[List.cons.sizeOf_spec,List.nil.sizeOf_spec];omega
 |i+1,[]=>by simp
 |i+1,x::l=>by
  have:=Aw i l;rw[List.take_succ_cons];simp only[List.cons.sizeOf_spec];omega
theorem WA(n:Int):aF prog 78 [.c (.d (.i .i64 n))] (.agg [.d (.i .i64 1),.d (.s []),.d (.s []),.d (.i .i64 n),.d (.i .i64 0),.d (.s []),.bB [],.bB [],.bB []]):=fun S=>by
 refine zcx [.cell 2 30] func78 ntmps78 ?_;simp -implicitDefEqProofs (disch:=omega) only[go_sem]
theorem SA(s:List UInt8):aF prog 85 [.c (.d (.s s))] (.agg [.d (.i .i64 3),.d (.s []),.d (.s s),.d (.i .i64 0),.d (.i .i64 0),.d (.s []),.bB [],.bB [],.bB []]):=fun S=>by
 refine zcx [.cell 2 30] func85 ntmps85 ?_;simp -implicitDefEqProofs (disch:=omega) only[go_sem]
theorem EA:∀N:Nat,(∀x:ah,SizeOf.sizeOf x<N->x.sz<=4194304->aF prog 43 [x.v] (bW false x).v)/\
 (∀xs:List ah,SizeOf.sizeOf xs<N->xs.length<=4194304->(∀t∈xs,t.sz<=4194304)->aF prog 108 [.c (.d (.sl (xs.map ah.enc)))] (.c (.d (.sl ((xs.map (bW false)).map aj.enc)))))/\
 (∀x:ah,SizeOf.sizeOf x<N->x.sz<=4194304->aF prog 111 [x.v] (mZ false x).v)
 |0=>⟨fun x h=>by omega,fun x h=>by omega,fun x h=>by omega⟩
 |N+1=>by
  obtain⟨ih,mD,ihM⟩:=EA N;refine⟨fun x hn hsz=>aF.of_le fun S=> ?_,fun xs hn hlen hsz S=> ?_,fun x hn hsz=>aF.of_le fun S=> ?_⟩
  ·have j4:=ah.qj x;have h1:=sO x;have h2:=Cq x
   have hall:∀t∈x.ak,t.sz<=4194304:=fun t ht=>by have:=nD ht;omega
   have hr:=ji (l:=x.ak);have hso:=fun i=>vY i x.ak
   have hdl:∀i,(x.ak.drop i).length<=4194304:=fun i=>by rw[bj];omega
   have hda:∀i,∀t∈x.ak.drop i,t.sz<=4194304:=fun i t ht=>hall t (eh ht)
   have hg:sw false x.ak:=fun e=>by cases e.1
   refine zcx [.cell 2 30] func43 ntmps43 ?_;simp -implicitDefEqProofs (disch:=omega) only[go_sem]
   with_reducible refine ay (fun hb=> ?_) (fun hb=> ?_)<;>have h:=hb<;>(try simp only[wf_preprocess] at h)<;>simp -implicitDefEqProofs (disch:=omega) only[go_sem,hb]<;>(repeat(with_reducible refine And.intro ?_ ?_;focus first|omega|rfl|assumption|exact⟨_,rfl,rfl⟩|(simp;omega)|(simp;done)))
   ·have hne:=h;refine aA (J2 x.aI (by omega)) ?_
    cases wQ:fu x.aI with
    |some m=>
     simp -implicitDefEqProofs (disch:=omega) only[go_sem,cN,Option.isSome_some];refine aA (WA m) ?_;simp -implicitDefEqProofs (disch:=omega) only[go_sem];exact se0 (Qs hne wQ)
    |none=>
     simp -implicitDefEqProofs (disch:=omega) only[go_sem,Option.getD_none,fg]
     with_reducible refine ay (fun hb=> ?_) (fun hb=> ?_)<;>have h:=hb<;>(try simp only[wf_preprocess] at h)<;>simp -implicitDefEqProofs (disch:=omega) only[go_sem,hb]<;>(repeat(with_reducible refine And.intro ?_ ?_;focus first|omega|rfl|assumption|exact⟨_,rfl,rfl⟩|(simp;omega)|(simp;done)))
     ·exact se0 (MF hne wQ h)
     have k1:=h
     with_reducible refine ay (fun hb=> ?_) (fun hb=> ?_)<;>have h:=hb<;>(try simp only[wf_preprocess] at h)<;>simp -implicitDefEqProofs (disch:=omega) only[go_sem,hb]<;>(repeat(with_reducible refine And.intro ?_ ?_;focus first|omega|rfl|assumption|exact⟨_,rfl,rfl⟩|(simp;omega)|(simp;done)))
     ·exact se0 (J3 hne wQ k1 h)
     have k2:=h;refine aA (SA _) ?_;simp -implicitDefEqProofs (disch:=omega) only[go_sem];exact se0 (Qt hne wQ k1 k2)
   have ha:=h;have l0:=Wz x.ak 0 (by omega);have l1:=Wz x.ak 1 (by omega);have l2:=Wz x.ak 2 (by omega)
   have hm1:min (1:Int) (x.ak.length:Int)=((min 1 x.ak.length:Nat):Int):=by omega
   have hm2:min (2:Int) (x.ak.length:Int)=((min 2 x.ak.length:Nat):Int):=by omega
   have hm3:min (3:Int) (x.ak.length:Int)=((min 3 x.ak.length:Nat):Int):=by omega
   have hd:=fun i=>Sz x.ak i;have hdd:=wY x.ak x.ak.length 1 (ax _);simp -implicitDefEqProofs (disch:=omega) only[go_sem,l0,l1,l2]
   (repeat(with_reducible refine And.intro ?_ ?_;focus first|omega|rfl|assumption|exact⟨_,rfl,rfl⟩|(simp;omega)|(simp;done)))
   with_reducible refine ay (fun hb=> ?_) (fun hb=> ?_)<;>have h:=hb<;>(try simp only[wf_preprocess] at h)<;>simp -implicitDefEqProofs (disch:=omega) only[go_sem,hb,l0,l1,l2]<;>(repeat(with_reducible refine And.intro ?_ ?_;focus first|omega|rfl|assumption|exact⟨_,rfl,rfl⟩|(simp;omega)|(simp;done)))
   ·refine aA (rz _ _) ?_;rw[hm2];simp -implicitDefEqProofs (disch:=omega) only[go_sem];refine⟨⟨by omega,by omega,by omega,hr⟩,?_⟩;rw[hd];refine aA (mD (x.ak.drop 2) (by have:=hso 2;omega) (hdl 2) (hda 2)) ?_;simp -implicitDefEqProofs (disch:=omega) only[go_sem];exact Qv (Mw ha hg h)
   have WB:=h
   with_reducible refine ay (fun hb=> ?_) (fun hb=> ?_)<;>have h:=hb<;>(try simp only[wf_preprocess] at h)<;>simp -implicitDefEqProofs (disch:=omega) only[go_sem,hb,l0,l1,l2]<;>(repeat(with_reducible refine And.intro ?_ ?_;focus first|omega|rfl|assumption|exact⟨_,rfl,rfl⟩|(simp;omega)|(simp;done)))
   ·refine aA (rz _ _) ?_;rw[hm3];simp -implicitDefEqProofs (disch:=omega) only[go_sem];refine⟨⟨by omega,by omega,by omega,hr⟩,?_⟩;rw[hd];refine aA (mD (x.ak.drop 3) (by have:=hso 3;omega) (hdl 3) (hda 3)) ?_;simp -implicitDefEqProofs (disch:=omega) only[go_sem];exact Qv (Gl ha hg h)
   have FE:=h
   with_reducible refine ay (fun hb=> ?_) (fun hb=> ?_)<;>have h:=hb<;>(try simp only[wf_preprocess] at h)<;>simp -implicitDefEqProofs (disch:=omega) only[go_sem,hb,l0,l1,l2]<;>(repeat(with_reducible refine And.intro ?_ ?_;focus first|omega|rfl|assumption|exact⟨_,rfl,rfl⟩|(simp;omega)|(simp;done)))
   ·refine aA (rz _ _) ?_;rw[hm2];simp -implicitDefEqProofs (disch:=omega) only[go_sem];refine⟨⟨by omega,by omega,by omega,hr⟩,?_⟩;rw[hd];refine aA (mD (x.ak.drop 2) (by have:=hso 2;omega) (hdl 2) (hda 2)) ?_;simp -implicitDefEqProofs (disch:=omega) only[go_sem];exact Qv (Qp ha hg h)
   have nNew:=h
   with_reducible refine ay (fun hb=> ?_) (fun hb=> ?_)<;>have h:=hb<;>(try simp only[wf_preprocess] at h)<;>simp -implicitDefEqProofs (disch:=omega) only[go_sem,hb,l0,l1,l2]<;>(repeat(with_reducible refine And.intro ?_ ?_;focus first|omega|rfl|assumption|exact⟨_,rfl,rfl⟩|(simp;omega)|(simp;done)))
   ·refine aA (rz _ _) ?_;rw[hm2];simp -implicitDefEqProofs (disch:=omega) only[go_sem];refine⟨⟨by omega,by omega,by omega,hr⟩,?_⟩;rw[hd];refine aA (mD (x.ak.drop 2) (by have:=hso 2;omega) (hdl 2) (hda 2)) ?_;simp -implicitDefEqProofs (disch:=omega) only[go_sem];exact Qv (Qq ha hg h)
   have acV:=h
   with_reducible refine ay (fun hb=> ?_) (fun hb=> ?_)<;>have h:=hb<;>(try simp only[wf_preprocess] at h)<;>simp -implicitDefEqProofs (disch:=omega) only[go_sem,hb,l0,l1,l2]<;>(repeat(with_reducible refine And.intro ?_ ?_;focus first|omega|rfl|assumption|exact⟨_,rfl,rfl⟩|(simp;omega)|(simp;done)))
   ·have hpos:0<x.ak.length:=by
     rcases eM x.ak.length with e|e
     ·rw[Bj (by omega)] at h;cases h
     ·exact e
    refine⟨⟨by omega,by omega,hr⟩,?_⟩;rw[hdd];refine aA (mD (x.ak.drop 1) (by have:=hso 1;omega) (hdl 1) (hda 1)) ?_;simp -implicitDefEqProofs (disch:=omega) only[go_sem];exact Qv (TK ha hg h)
   have nIf:=h
   with_reducible refine ay (fun hb=> ?_) (fun hb=> ?_)<;>have h:=hb<;>(try simp only[wf_preprocess] at h)<;>simp -implicitDefEqProofs (disch:=omega) only[go_sem,hb,l0,l1,l2]<;>(repeat(with_reducible refine And.intro ?_ ?_;focus first|omega|rfl|assumption|exact⟨_,rfl,rfl⟩|(simp;omega)|(simp;done)))
   ·refine aA (rz _ _) ?_;rw[hm2];simp -implicitDefEqProofs (disch:=omega) only[go_sem];refine⟨⟨by omega,by omega,by omega,hr⟩,?_⟩;rw[hd];refine aA (mD (x.ak.drop 2) (by have:=hso 2;omega) (hdl 2) (hda 2)) ?_;simp -implicitDefEqProofs (disch:=omega) only[go_sem];exact Qv (Mx ha hg h)
   have WC:=h
   with_reducible refine ay (fun hb=> ?_) (fun hb=> ?_)<;>have h:=hb<;>(try simp only[wf_preprocess] at h)<;>simp -implicitDefEqProofs (disch:=omega) only[go_sem,hb,l0,l1,l2]<;>(repeat(with_reducible refine And.intro ?_ ?_;focus first|omega|rfl|assumption|exact⟨_,rfl,rfl⟩|(simp;omega)|(simp;done)))
   ·refine aA (Qj (x.ak.getD 1 gF) (Qw x 1 hsz)) ?_;simp -implicitDefEqProofs (disch:=omega) only[go_sem];refine aA (rz _ _) ?_;rw[hm2];simp -implicitDefEqProofs (disch:=omega) only[go_sem];refine⟨⟨by omega,by omega,by omega,hr⟩,?_⟩;rw[hd];refine aA (mD (x.ak.drop 2) (by have:=hso 2;omega) (hdl 2) (hda 2)) ?_;simp -implicitDefEqProofs (disch:=omega) only[go_sem];exact se2 (Qr ha hg h)
   have nThe:=h
   with_reducible refine ay (fun hb=> ?_) (fun hb=> ?_)<;>have h:=hb<;>(try simp only[wf_preprocess] at h)<;>simp -implicitDefEqProofs (disch:=omega) only[go_sem,hb,l0,l1,l2]<;>(repeat(with_reducible refine And.intro ?_ ?_;focus first|omega|rfl|assumption|exact⟨_,rfl,rfl⟩|(simp;omega)|(simp;done)))
   ·have hpos:0<x.ak.length:=by
     rcases eM x.ak.length with e|e
     ·rw[Bj (by omega)] at h;cases h
     ·exact e
    have hdec:=MB ha hg h;refine aA (rz _ _) ?_;rw[hm2];simp -implicitDefEqProofs (disch:=omega) only[go_sem];refine⟨⟨by omega,by omega,hr⟩,?_⟩;rw[afw];refine aA (mD ((x.ak.drop 1).take 1) (by have:=hso 1;have:=Aw 1 (x.ak.drop 1);omega) (by rw[bm];omega) (fun t ht=>hda 1 t (eg ht))) ?_;simp -implicitDefEqProofs (disch:=omega) only[go_sem];obtain⟨lH,WE⟩:∃lH,lH=((x.ak.drop 1).take 1).map (bW false):=⟨_,rfl⟩;obtain⟨T,hT⟩:∃T:Nat->List (List D),T=fun k=>(((x.ak.drop 2).map (mZ false)).take k).map aK.enc:=⟨_,rfl⟩
    have hT0:T 0=[]:=by rw[hT];rfl
    have Bg:∀k,(T k).length<=k:=fun k=>by rw[hT];simp only[ai];exact ci _ _
    have hTs:∀k (hk:k+2<x.ak.length),T k++[(mZ false x.ak[k+2]).enc]=T (k+1):=fun k hk=>by
     have:=ZM (l:=(x.ak.drop 2).map (mZ false)) (i:=k) (by rw[ai,bj];omega);rw[cj,List.getElem_drop] at this;rw[hT];simp only[dE 2 k] at this ⊢;exact this
    have hTe:T (x.ak.length-2)=((x.ak.drop 2).map (mZ false)).map aK.enc:=by
     rw[hT];simp only
     rw[cm (by simp)]
    clear hT;rw[<-WE] at hdec ⊢;refine Eo 3 8 11 _ rfl rfl ?_
    refine bI (ι:=Nat) zmx rfl [1,2,6,8,9] (fun k=>[.c (.ptr (0,0) 0),.c (.ptr (0,1) 0),.c (.d (.i .i64 x.ak.length)),.c (.ptr (0,3) 0),.c (.d (.i .i64 ((k+2:Nat):Int)))])
     (fun k=>[.box [.d (.s x.aI),.d (.sl (x.ak.map ah.enc))],.box [.d (.i .i64 0),.d (.s []),.d (.s []),.d (.i .i64 0),.d (.i .i64 0),.d (.s []),.bB [],.bB [],.bB []],.tok 2 (x.ak.map ah.enc++[[.s [],.sl []],[.s [],.sl []],[.s [],.sl []]]),
       .box [.d (.i .i64 7),.d (.s []),.d (.s []),.d (.i .i64 0),.d (.i .i64 0),.d (.s []),.bB [],.d (.sl (lH.map aj.enc)),.bM (0,4) (T k)],.tok 11 (T k)]::S)
     (fun k=>k<=x.ak.length-2) (fun k=>x.ak.length-(k+2)) 0 rfl (by rw[hT0];rfl) (ba _) ?_
    intro k hk;have hlk:=Bg k;clear l0 l1 l2;simp -implicitDefEqProofs (disch:=omega) only[go_sem]
    with_reducible refine ay (fun hb=> ?_) (fun hb=> ?_)<;>have h:=hb<;>(try simp only[wf_preprocess] at h)<;>simp -implicitDefEqProofs (disch:=omega) only[go_sem,hb]<;>(repeat(with_reducible refine And.intro ?_ ?_;focus first|omega|rfl|assumption|exact⟨_,rfl,rfl⟩|(simp;omega)|(simp;done)))
    ·have hk':k+2<x.ak.length:=by omega
     have hm:=ap hk';have hs:=hTs k hk';simp only[aK.aB,aj.aB,au.aB,am,aw] at hs
     (repeat(with_reducible refine And.intro ?_ ?_;focus first|omega|rfl|assumption|exact⟨_,rfl,rfl⟩|(simp;omega)|(simp;done)))
     refine aA (ihM x.ak[k+2] (by have:=bc hm;omega) (hall _ hm)) ?_;simp -implicitDefEqProofs (disch:=omega) only[go_sem]
     (repeat(with_reducible refine And.intro ?_ ?_;focus first|omega|rfl|assumption|exact⟨_,rfl,rfl⟩|(simp;omega)|(simp;done)))
     rw[hs];exact bZ (k+1) (by omega) rfl rfl (by omega)
    ·have hk':k=x.ak.length-2:=by omega
     subst hk';rw[hTe];exact se3 hdec
   have WG:=h;refine aA (rz _ _) ?_;rw[hm1];simp -implicitDefEqProofs (disch:=omega) only[go_sem];refine⟨⟨by omega,by omega,by omega,hr⟩,?_⟩;rw[hd];refine aA (mD (x.ak.drop 1) (by have:=hso 1;omega) (hdl 1) (hda 1)) ?_;simp -implicitDefEqProofs (disch:=omega) only[go_sem];exact Qv (MC ha hg WB nNew acV WC FE nIf nThe WG)
  ·have Ce:=fun(i:Nat) (hi:i<xs.length)=>ZL (l:=xs.map (bW false)) (i:=i) (by rw[ai];exact hi);refine zcx [.tmp 2] func108 ntmps108 ?_;simp -implicitDefEqProofs (disch:=omega) only[go_sem]
   (repeat(with_reducible refine And.intro ?_ ?_;focus first|omega|rfl|assumption|exact⟨_,rfl,rfl⟩|(simp;omega)|(simp;done)))
   refine Iy 3 9 [] rfl (by simp) ?_
   refine bI (ι:=Nat) zmx rfl [0,3,4] (fun i=>[.c (.d (.sl (xs.map ah.enc))),.c (.bM (0,0) (((xs.map (bW false)).take i).map aj.enc)),.c (.d (.i .i64 i))]) (fun i=>[.tok 9 (((xs.map (bW false)).take i).map aj.enc)]::S)
    (fun i=>i<=xs.length) (fun i=>xs.length-i) 0 rfl rfl (ba _) ?_
   intro i hi
   have hl:(((xs.map (bW false)).take i).map aj.enc).length<=i:=by rw[ai];exact ci _ _
   simp -implicitDefEqProofs (disch:=omega) only[go_sem]
   with_reducible refine ay (fun hb=> ?_) (fun hb=> ?_)<;>have h:=hb<;>(try simp only[wf_preprocess] at h)<;>simp -implicitDefEqProofs (disch:=omega) only[go_sem,hb]<;>(repeat(with_reducible refine And.intro ?_ ?_;focus first|omega|rfl|assumption|exact⟨_,rfl,rfl⟩|(simp;omega)|(simp;done)))
   ·have hi':i<xs.length:=by omega
    have hs:=Ce i hi';rw[cj] at hs;simp only[aj.aB,au.aB,am,aw] at hs
    (repeat(with_reducible refine And.intro ?_ ?_;focus first|omega|rfl|assumption|exact⟨_,rfl,rfl⟩|(simp;omega)|(simp;done)))
    refine aA (ih xs[i] (by have:=bc (ap hi');omega) (hsz _ (ap hi'))) ?_;simp -implicitDefEqProofs (disch:=omega) only[go_sem]
    (repeat(with_reducible refine And.intro ?_ ?_;focus first|omega|rfl|assumption|exact⟨_,rfl,rfl⟩|(simp;omega)|(simp;done)))
    rw[hs];exact bZ (i+1) (by omega) rfl rfl (by omega)
   ·have hi':i=(xs.map (bW false)).length:=by rw[ai];omega
    rw[hi',co]
  ·have j4:=ah.qj x;have h1:=sO x
   have hall:∀t∈x.ak,t.sz<=4194304:=fun t ht=>by have:=nD ht;omega
   have hr:=ji (l:=x.ak);refine zcx [.cell 2 73] func111 ntmps111 ?_;simp -implicitDefEqProofs (disch:=omega) only[go_sem]
   with_reducible refine ay (fun hb=> ?_) (fun hb=> ?_)<;>have h:=hb<;>(try simp only[wf_preprocess] at h)<;>simp -implicitDefEqProofs (disch:=omega) only[go_sem,hb]<;>(repeat(with_reducible refine And.intro ?_ ?_;focus first|omega|rfl|assumption|exact⟨_,rfl,rfl⟩|(simp;omega)|(simp;done)))
   ·rw[TJ false x (by omega)];exact(dV.cons (.refl _) (.cons (jk _) (.cons (.refl _) (.cons (.refl _) (.cons (.refl _) (.cons (.refl _) (.cons (.refl _) (.cons (.refl _) (.cons (jk _) (.cons (jk _) (.cons (jk _) .nil))))))))))).less
   have hl2:2<=x.ak.length:=by omega
   have a0:=oL (l:=x.ak) (i:=0) (by omega);have hm:=ap (l:=x.ak) (n:=x.ak.length-1) (by omega);rw[TI false x hl2,a0];refine⟨⟨by omega,by omega,hr⟩,?_⟩;rw[MG _ hl2];refine aA (Qi ((x.ak.drop 1).dropLast) (by rw[List.length_dropLast,bj];omega)) ?_;simp -implicitDefEqProofs (disch:=omega) only[go_sem]
   (repeat(with_reducible refine And.intro ?_ ?_;focus first|omega|rfl|assumption|exact⟨_,rfl,rfl⟩|(simp;omega)|(simp;done)))
   have el:((x.ak.length:Int)-1).toNat=x.ak.length-1:=by omega
   simp only[el];refine aA (ih (x.ak[x.ak.length-1]) (by have:=bc hm;omega) (hall _ hm)) ?_;simp -implicitDefEqProofs (disch:=omega) only[go_sem];exact iZ _
theorem SB(x:ah)(hsz:x.sz<=4194304):aF prog 43 [x.v] (bW false x).v:=(EA _).1 x (br _) hsz
end Go.Ab