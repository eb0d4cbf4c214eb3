/-
  SEVERAL TEXTS IN ONE (merged by program): contracts and models, each with its own heading.
-/
import Derived.Test.YtnmjbebcebbmfaaGreatDoorPartDnbW
import Derived.Test.YtnmjbebcebbmfaaGreatDoorPartDnbX
import Derived.Test.YtnmjbebcebbmfaaGreatDoorPartDnbY
import Derived.Test.YtnmjbebcebbmfaaGreatDoorPartDnba
import Derived.Test.YtnmjbebcebbmfaaGreatDoorPartDnbc
import Derived.Test.YtnmjbebcebbmfaaGreatDoorPartDnbd
import Derived.Test.YtnmjbebcebbmfaaGreatDoorPartDnbe
import Derived.Test.YtnmjbebcebbmfaaGreatDoorRows
import Derived.LaidMore
import Derived.Stop.LaidErr
set_option maxHeartbeats 8000000
open Go.Proofs Go.Proofs.Tryz
set_option linter.unusedSimpArgs false
set_option linter.unusedVariables false
set_option maxRecDepth 8000
set_option maxRecDepth 4000
set_option maxRecDepth 100000
namespace Go.Ab
theorem WE{bs:List Int}(hB:Bytes bs)(c c2:Cu bs)(k:Int)(l j:Nat)(S:Store)(hk:bC S (l,j)=some (.box (cur c)))(h2:aY 10 c=(k,c2))(hk3:k=2\/k=3):
 bS prog 48 [.c (.ptr (l,j) 0)] S (fun r S1=>r=(zq k c2).1.v/\S1=bA S (l,j) (.box (cur (zq k c2).2))):=by
 have g:∀x:Ab.Obj,bC (bA S (l,j) x) (l,j)=some x:=fun x=>dA _ _ _ _ hk;have q2:=fun fr:List Ab.Obj=>eB hB c (1+l) j (fr::S) 10 (by rw[aW];exact hk) gA gA;simp only[h2,dn] at q2;obtain⟨q,hq⟩:∃q,q=zq k c2:=⟨_,rfl⟩;rw[<-hq];refine bS.of_le ?_;refine FE [40] (rs:=[.cell 2 69]) zmx func48 ntmps48 rfl rfl rfl rfl rfl ?_;refine W1 ?_;refine C1 (iB _) ?_;refine C1 (iB _) ?_;refine W3 ?_;refine C1 (zZ [108,105,115,116] [su [97]] rfl gE (.inl rfl)) ?_;refine W3 ?_;refine bD rfl (q2 _) ?_;rcases hk3 with rfl|rfl
 ·simp only[zq,reduceIte,Int.reduceEq] at hq;refine W1 ?_;refine bD rfl (D5 hB 2 c2 (1+l) j _ gO gA) ?_;refine W1 ?_;refine W3 ?_;refine⟨by cases l<;>rfl,?_⟩;refine W1 ?_;rw[hq];exact lend
 ·simp only[zq,reduceIte,Int.reduceEq] at hq;refine W1 ?_;refine dX [true] rfl (gB hB c2 (1+l) j _ XB gO gE gE) ?_;refine W1 ?_;refine W3 ?_;refine⟨by cases l<;>rfl,?_⟩;refine W1 ?_;rw[hq];exact lend
theorem ajv{bs:List Int}(hB:Bytes bs)(c c2:Cu bs)(k:Int)(l j:Nat)(S:Store)(hk:bC S (l,j)=some (.box (cur c)))(h2:aY 10 c=(k,c2))(hk2:k≠2)(hk3:k≠3):
 bS prog 48 [.c (.ptr (l,j) 0)] S (fun r S1=>r=(zq k c2).1.v/\S1=bA S (l,j) (.box (cur (zq k c2).2))):=by
 have g:∀x:Ab.Obj,bC (bA S (l,j) x) (l,j)=some x:=fun x=>dA _ _ _ _ hk;have q2:=fun fr:List Ab.Obj=>eB hB c (1+l) j (fr::S) 10 (by rw[aW];exact hk) gA gA;simp only[h2,dn] at q2;obtain⟨q,hq⟩:∃q,q=zq k c2:=⟨_,rfl⟩;rw[<-hq];refine bS.of_le ?_;refine nT [40] (rs:=[.cell 2 69]) zmx func48 ntmps48 rfl rfl rfl rfl rfl ?_;refine W1 ?_;refine C1 (iB _) ?_;refine C1 (iB _) ?_;refine W3 ?_;refine C1 (zZ [108,105,115,116] [su [97]] rfl gE (.inl rfl)) ?_;refine W3 ?_;refine bD rfl (q2 _) ?_;refine W1 ?_;refine S0 (fun hb h=>?_) fun hb h=>?_
 ·subst h;simp only[zq,reduceIte,Int.reduceEq] at hq;refine dX [true] rfl (gB hB c2 (1+l) j _ Lj gO gE gE) ?_;refine W1 ?_;refine W3 ?_;refine⟨by cases l<;>rfl,?_⟩;refine W1 ?_;rw[hq];exact lend
 have e0:=h;refine S0 (fun hb h=>?_) fun hb h=>?_
 ·subst h;simp only[zq,reduceIte,Int.reduceEq] at hq;have hx:=iF (n:=2) c2 gA;obtain⟨m,hm⟩:∃m:Nat,(aY 2 c2).1=(m:Int):=⟨(aY 2 c2).1.toNat,gA⟩;have q3:=fun fr:List Ab.Obj=>eB hB c2 (1+l) j (fr::bA S (l,j) (.box (cur c2))) 2 gO gA gA;rw[hm] at hx hq;simp only[hm,dn,cu] at q3;refine bD rfl (q3 _) ?_;refine W1 ?_;refine W3 ?_;refine⟨by cases l<;>rfl,?_⟩;refine W1 ?_;rw[hq]
  have hm2:m=0\/m=1:=gA
  clear hm q3;rcases hm2 with rfl|rfl
  all_goals
   refine⟨Ef ?_,rfl⟩;rfl
 have e1:=h;refine S0 (fun hb h=>?_) fun hb h=>?_
 ·exact absurd h hk2
 refine S0 (fun hb h=>?_) fun hb h=>?_
 ·exact absurd h hk3
 simp only[zq,if_neg e0,if_neg e1,if_neg hk2,if_neg hk3] at hq;rw[hq];exact lend
theorem agl{bs:List Int}(hB:Bytes bs)(c:Cu bs)(l j:Nat)(S:Store)(hk:bC S (l,j)=some (.box (cur c))):
 bS prog 48 [.c (.ptr (l,j) 0)] S (fun r S1=>r=(FI c).1.v/\S1=bA S (l,j) (.box (cur (FI c).2))):=by
 unfold FI;by_cases h2:(aY 10 c).1=2
 ·exact WE hB c _ _ l j S hk rfl (.inl h2)
 by_cases h3:(aY 10 c).1=3
 ·exact WE hB c _ _ l j S hk rfl (.inr h3)
 ·exact ajv hB c _ _ l j S hk rfl h2 h3
def uz{bs:List Int}(p:aT)(k:Int)(c:Cu bs):aT×Cu bs:=
 if k=0 then(⟨p.fName,p.eY,p.aJ++[(BP c).1],p.ay,p.aH,p.aM⟩,(BP c).2) else
 if k=1 then(⟨p.fName,p.eY,p.aJ,p.ay++[(FI c).1],p.aH,p.aM⟩,(FI c).2) else
 if k=2 then(⟨p.fName,p.eY,p.aJ,p.ay,p.aH++[(instX c).1],p.aM⟩,(instX c).2) else
 (⟨p.fName,p.eY,p.aJ,p.ay,p.aH,p.aM++[(SG c).1]⟩,(SG c).2)
def Hw{bs:List Int}:Nat->aT->Cu bs->aT×Cu bs
 |0,p,c=>(p,c)
 |n+1,p,c=>Hw n (uz p (aY 4 c).1 (aY 4 c).2).1 (uz p (aY 4 c).1 (aY 4 c).2).2
def XF:List (List UInt8):=[[],[99,111,114,101]]
theorem agm:fO XF:=by unfold fO;decide
def agn:List (List UInt8):=[[99,111,114,101],[113],[112]]
theorem ajw:fO agn:=by unfold fO;decide
def UY{bs:List Int}(p:aT)(k:Int)(c:Cu bs):aT×Cu bs:=
 if k=0 then(⟨(cK XF c).1,p.eY,p.aJ,p.ay,p.aH,p.aM⟩,(cK XF c).2) else
 if k=1 then(⟨p.fName,p.eY++[(cK agn c).1],p.aJ,p.ay,p.aH,p.aM⟩,(cK agn c).2) else(p,c)
def K9:aT:=⟨[112],[[99,111,114,101]],[],[],[],[]⟩
def am4{bs:List Int}(p:aT)(c:Cu bs):aT×Cu bs:=UY p (aY 10 c).1 (aY 10 c).2
def y9{bs:List Int}(c:Cu bs):aT×Cu bs:=
 am4 (Hw (aY 5 c).1.toNat K9 (aY 5 c).2).1 (Hw (aY 5 c).1.toNat K9 (aY 5 c).2).2
theorem uX(s:List UInt8)(d:List (List UInt8))(t:List bI)(a:List aU)(i:List aQ)(f:List aV):
 (aT.mk s d t a i f).sz=s.length+(d.length+aS (d.map encS))+(t.length+aS (t.map bI.enc))+(a.length+aS (a.map aU.enc))+(i.length+aS (i.map aQ.enc))+(f.length+aS (f.map aV.enc)):=by
 simp only[aT.sz,aT.aC,bX,bT,D.sz,ab];omega
theorem agp{bs:List Int}(p:aT)(k:Int)(c:Cu bs):(uz p k c).1.sz<=p.sz+2001/\(uz p k c).1.fName=p.fName/\(uz p k c).1.eY=p.eY:=by
 have h0:=uX p.fName p.eY p.aJ p.ay p.aH p.aM;rw[aT.eta] at h0;have h1:=aiK c;have h2:=ama c;have h3:=instX_sz c;have h4:=aru c;unfold uz;split
 ·refine⟨?_,rfl,rfl⟩;simp only[uX,bw,wB,af,aw,aS,ae,aa,al,bI.dY];omega
 split
 ·refine⟨?_,rfl,rfl⟩;simp only[uX,bw,wB,af,aw,aS,ae,aa,al,aU.dY];omega
 split
 ·refine⟨?_,rfl,rfl⟩;simp only[uX,bw,wB,af,aw,aS,ae,aa,al,aQ.dY];omega
 ·refine⟨?_,rfl,rfl⟩;simp only[uX,bw,wB,af,aw,aS,ae,aa,al,aV.dY];omega
theorem adq{bs:List Int}:∀(n:Nat)(p:aT)(c:Cu bs),(Hw n p c).1.sz<=p.sz+n*2001
 |0,p,c=>by show p.sz<=_;omega
 |n+1,p,c=>by
  have h1:=(agp p (aY 4 c).1 (aY 4 c).2).1;have h2:=adq n (uz p (aY 4 c).1 (aY 4 c).2).1 (uz p (aY 4 c).1 (aY 4 c).2).2;rw[Hw];omega
theorem apU{bs:List Int}(c:Cu bs):(y9 c).1.sz<=9000:=by
 have hr:=iF (n:=5) c gA;have h1:=adq (aY 5 c).1.toNat K9 (aY 5 c).2
 have h0:K9.sz=6:=by rw[K9,uX];simp[aS,rR]
 have h2:(aY 5 c).1.toNat<=4:=gA
 have h3:=cx 2001 h2;unfold y9 am4;generalize (Hw (aY 5 c).1.toNat K9 (aY 5 c).2).1=p at h1;generalize (Hw (aY 5 c).1.toNat K9 (aY 5 c).2).2=c1;generalize (aY 10 c1).1=k;generalize (aY 10 c1).2=c2;have h4:=iA c2 agm;have h5:=iA c2 ajw;have h6:=uX p.fName p.eY p.aJ p.ay p.aH p.aM;rw[aT.eta] at h6;unfold UY;split
 ·simp only[uX];omega
 split
 ·simp only[uX,bw,wB,af,aw,aS,rR,ae,aa,al];omega
 ·show p.sz<=_;omega
theorem ajx{bs:List Int}(hB:Bytes bs)(c:Cu bs)(l j:Nat)(S:Store)(hk:bC S (l,j)=some (.box (cur c))):
 bS prog 13 [.c (.ptr (l,j) 0)] S (fun r S1=>r=(y9 c).1.v/\S1=bA S (l,j) (.box (cur (y9 c).2))):=by
 have g:∀x:Ab.Obj,bC (bA S (l,j) x) (l,j)=some x:=fun x=>dA _ _ _ _ hk;unfold y9;have hx:=iF (n:=5) c gA;obtain⟨n,hn⟩:∃n:Nat,(aY 5 c).1=(n:Int):=⟨(aY 5 c).1.toNat,gA⟩;have q0:=fun fr:List Ab.Obj=>eB hB c (1+l) j (fr::S) 5 (by rw[aW];exact hk) gA gA
 generalize hc0:(aY 5 c).2=c0 at *
 rw[hn] at hx;simp only[hn,fk,dn] at q0 ⊢;obtain⟨R,hR⟩:∃R,R=Hw n K9 c0:=⟨_,rfl⟩;rw[<-hR];refine bS.of_le ?_;refine nT [40] (rs:=[.cell 2 34]) zmx func13 ntmps13 rfl rfl rfl rfl rfl ?_;refine W1 ?_;refine W3 ?_;refine bD rfl (q0 _) ?_;refine W1 ?_;refine kJ 1 2 5 _ rfl rfl ?_;refine kJ 1 3 3 _ rfl rfl ?_;refine kJ 1 4 12 _ rfl rfl ?_;refine kJ 1 5 16 _ rfl rfl ?_
 refine KC [40] zmx rfl [0,2,3,4,5] (ι:=Nat×aT×Cu bs) (fun x=>[.c (.ptr (1+l,j) 0),.c (.ptr (0,0) 0),.c (.ptr (0,1) 0),.c (.d (.i .i64 n)),.c (.d (.i .i64 x.1))])
  (fun x=>[.box [.d (.s []),.bH [],.bH [],.bH [],.bH [],.bH []],.box [.d (.s [112]),.bH [[.s [99,111,114,101]]],.bJ (0,2) (x.2.1.aJ.map bI.enc),.bJ (0,3) (x.2.1.ay.map aU.enc),.bJ (0,4) (x.2.1.aH.map aQ.enc),.bJ (0,5) (x.2.1.aM.map aV.enc)],
    .tok 5 (x.2.1.aJ.map bI.enc),.tok 3 (x.2.1.ay.map aU.enc),.tok 12 (x.2.1.aH.map aQ.enc),.tok 16 (x.2.1.aM.map aV.enc)]::bA S (l,j) (.box (cur x.2.2)))
  (fun x=>x.1<=n/\Hw (n-x.1) x.2.1 x.2.2=R/\x.2.1.fName=[112]/\x.2.1.eY=[[99,111,114,101]]/\x.2.1.aJ.length<=x.1/\x.2.1.ay.length<=x.1/\x.2.1.aH.length<=x.1/\x.2.1.aM.length<=x.1) (fun x=>n-x.1) (0,K9,c0) rfl rfl ⟨an _,hR.symm,rfl,rfl,ax _,ax _,ax _,ax _⟩ ?_
 rintro⟨i,⟨pn,pd,pt,pa,pi,pf⟩,d⟩ ⟨p1,p2,p3,p4,p5,p6,p7,p8⟩;simp only at p1 p2 p3 p4 p5 p6 p7 p8;subst p3 p4;refine W1 ?_;refine S0 (fun hb h=>?_) fun hb h=>?_
 ·have ek:n-i=(n-(i+1))+1:=gA
  rw[ek,Hw] at p2;obtain⟨k,hkd⟩:∃k,k=(aY 4 d).1:=⟨_,rfl⟩;obtain⟨d1,hd1⟩:∃d1,d1=(aY 4 d).2:=⟨_,rfl⟩;have q1:=fun fr:List Ab.Obj=>eB hB d (1+l) j (fr::bA S (l,j) (.box (cur d))) 4 gO gA gA;simp only[<-hkd,<-hd1,dn,cu] at q1 p2;refine bD rfl (q1 _) ?_;refine W1 ?_;refine S0 (fun hb h=>?_) fun hb h=>?_
  ·subst h;simp only[uz,reduceIte] at p2;refine bD rfl (abW hB d1 (1+l) j _ gO) ?_;refine W1 ?_;refine W3 ?_;refine⟨by cases l<;>rfl,?_⟩;refine W1 ?_;refine bR 6 gE (i+1,⟨_,_,pt++[(BP d1).1],pa,pi,pf⟩,(BP d1).2) gC rfl ?_ (by cases l<;>rfl) rfl ⟨gC,p2,rfl,rfl,by simp only[ae,aa,al];omega,gC,gC,gC⟩;simp only[bw,af,aw];rfl
  have e0:=h;refine S0 (fun hb h=>?_) fun hb h=>?_
  ·subst h;simp only[uz,reduceIte,Int.reduceEq] at p2;refine bD rfl (agl hB d1 (1+l) j _ gO) ?_;refine W1 ?_;refine W3 ?_;refine⟨by cases l<;>rfl,?_⟩;refine W1 ?_;refine bR 6 gE (i+1,⟨_,_,pt,pa++[(FI d1).1],pi,pf⟩,(FI d1).2) gC rfl ?_ (by cases l<;>rfl) rfl ⟨gC,p2,rfl,rfl,gC,by simp only[ae,aa,al];omega,gC,gC⟩;simp only[bw,af,aw];rfl
  have e1:=h;refine S0 (fun hb h=>?_) fun hb h=>?_
  ·subst h;simp only[uz,reduceIte,Int.reduceEq] at p2;refine bD rfl (afP hB d1 (1+l) j _ gO) ?_;refine W1 ?_;refine W3 ?_;refine⟨by cases l<;>rfl,?_⟩;refine W1 ?_;refine bR 6 gE (i+1,⟨_,_,pt,pa,pi++[(instX d1).1],pf⟩,(instX d1).2) gC rfl ?_ (by cases l<;>rfl) rfl ⟨gC,p2,rfl,rfl,gC,gC,by simp only[ae,aa,al];omega,gC⟩;simp only[bw,af,aw,aQ.aC,ak.aC,ba,bc];rfl
  have e2:=h;simp only[uz,if_neg e0,if_neg e1,if_neg e2] at p2;refine bD rfl (amh hB d1 (1+l) j _ gO) ?_;refine W1 ?_;refine W3 ?_;refine⟨by cases l<;>rfl,?_⟩;refine W1 ?_;refine bR 6 gE (i+1,⟨_,_,pt,pa,pi,pf++[(SG d1).1]⟩,(SG d1).2) gC rfl ?_ (by cases l<;>rfl) rfl ⟨gC,p2,rfl,rfl,gC,gC,gC,by simp only[ae,aa,al];omega⟩;simp only[bw,af,aw,aV.aC,ak.aC,au.aC,ba,bc];rfl
 ·have ei:n-i=0:=gA
  rw[ei,Hw] at p2;subst p2;unfold am4;obtain⟨k,hkd⟩:∃k,k=(aY 10 d).1:=⟨_,rfl⟩;obtain⟨d1,hd1⟩:∃d1,d1=(aY 10 d).2:=⟨_,rfl⟩;have q1:=fun fr:List Ab.Obj=>eB hB d (1+l) j (fr::bA S (l,j) (.box (cur d))) 10 gO gA gA;simp only[<-hkd,<-hd1,dn,cu] at q1 ⊢;obtain⟨q,hq⟩:∃q,q=UY ⟨[112],[[99,111,114,101]],pt,pa,pi,pf⟩ k d1:=⟨_,rfl⟩;rw[<-hq];refine bD rfl (q1 _) ?_;refine W1 ?_;refine S0 (fun hb h=>?_) fun hb h=>?_
  ·subst h;simp only[UY,reduceIte] at hq;refine dX [true] rfl (gB hB d1 (1+l) j _ XF gO gE gE) ?_;refine W1 ?_;rw[hq];exact⟨Ef rfl,rfl⟩
  have e0:=h;refine S0 (fun hb h=>?_) fun hb h=>?_
  ·subst h;simp only[UY,reduceIte,Int.reduceEq] at hq;refine dX [true] rfl (gB hB d1 (1+l) j _ agn gO gE gE) ?_;refine W1 ?_;refine W3 ?_;refine⟨by cases l<;>rfl,?_⟩;refine W1 ?_;rw[hq];exact⟨Ef rfl,rfl⟩
  have e1:=h;simp only[UY,if_neg e0,if_neg e1] at hq;rw[hq];exact⟨Ef rfl,rfl⟩
theorem UZ(x:aT)(hsz:x.sz<=1048576):aD prog 8 [x.v] (.c (.d (.s (BZ (vo x))))):=fun S=>by
 have c1:aD prog 26 [x.v] (vo x).v:=by
  have h2:aD prog 26 [x.v] (.agg ((fE (vo x).enc 0).map .d)):=by
   have:=ab0 x 0 hsz
   first|exact this|(rw[jM];exact this)
  have:=aD.less h2 GK;rw[ah.Ml] at this;exact this
 have hd:(vo x).sz<=1048576:=aps gA;obtain⟨X,hX⟩:∃X,X=vo x:=⟨_,rfl⟩;rw[<-hX] at hd c1 ⊢;clear hX;refine zcx [.tmp 2] func8 ntmps8 ?_;refine W1 ?_;refine bn c1 ?_;refine W1 ?_;refine lQ (r9 X cZ gA) (.cons (by exact Less.refl _) (.cons (by exact Less.refl _) .nil)) ?_;refine W1 ?_;refine S0 (fun hb h=>?_) fun hb h=>?_
 ·rw[aiU (by simpa using h)]
 ·refine C2 (UE X gA) ?_;rw[aiV (by simpa using h)]
theorem TJ{s:List UInt8}(h:lu s=false):kg s=cZ:=by
 unfold kg;rw[dif_neg (jw h)]
theorem am5(s:List UInt8):(kg s).sz<=1048576:=by
 cases h:lu s with
 |true=>have:=qN (Pp h);omega
 |false=>rw[TJ h,Hf];omega
theorem ajy{w:World}{σ:Nat->Nat}{S:Store}{β:Hs}{x:ah}{lv:Value}{b:Bool}(h:dO w σ (.sl (x.aj.map ah.enc)) lv)(h1:lv.oneCell'=true):
 dR w σ S β (.eu [(true,x.enc.map .d),(false,[.d (.b b)])]) (.tuple #[.agg #[.string ⟨x.aI.toArray⟩,lv],.bool b]):=by
 refine⟨_,rfl,rfl,fun j y hy=> ?_⟩
 match j,hy with
 |0,hy=>
  simp at hy;subst hy;refine⟨_,rfl,_,rfl,by rw[ah.aC];rfl,fun j y hy=> ?_⟩;rw[ah.aC] at hy
  match j,hy with
  |0,hy=>simp at hy;subst hy;exact⟨_,rfl,.s _,rfl⟩
  |1,hy=>simp at hy;subst hy;exact⟨_,rfl,h,h1⟩
 |1,hy=>
  simp at hy;subst hy;exact⟨_,rfl,_,rfl,.b _,rfl⟩
theorem arZ{w:World}{σ:Nat->Nat}{es:List (List D)}{v:Value}(h:dO w σ (.sl es) v):v.oneCell'=true:=by
 cases h<;>rfl
theorem Xl(s:List UInt8)(hs:s.length<=33554432):aD prog 29 [.c (.d (.s s))] (.eu [(true,(kg s).enc.map .d),(false,[.d (.b (lu s))])]):=fun S=>by
 refine⟨⟨_,func29,by kernel_rfl,by kernel_rfl⟩,fun w σ β vs hS hv=> ?_⟩;obtain⟨u,rfl,hu⟩:=ZY hv
 obtain rfl:u=.string ⟨s.toArray⟩:=by cases hu.1;rfl
 refine(afY s w σ hS.live hS.vH hs).mono fun e w' ⟨lv,σ',he,hr,hg,hgl⟩=> ?_;exact⟨_,_,S,σ',β,he,hS.grow hg,Keep.refl _ _,Step.oQ hg,ajy hr (arZ hr),rfl,rfl⟩
def am6:List UInt8:=[112,97,99,107,97,103,101]
def isK(s:List UInt8)(y:ah):Bool:=decide (dU y.aj 0=s)
noncomputable def Hy(l:List ah):List bI:=(l.filter (isK kE)).map um
noncomputable def Hz(l:List ah):List aU:=(l.filter (isK og)).map qW
noncomputable def HY(l:List ah):List aQ:=(l.filter (isK kX)).map qx
noncomputable def H6(l:List ah):List aV:=(l.filter (isK yO)).map vC
noncomputable def jS(y:ah):Bool:=if isK kE y=true then wW y else if isK og y=true then okD y else if isK kX y=true then y7 y else if isK yO y=true then okF y else false
noncomputable def decP(x:ah):aT:=⟨dU x.aj 1,nY x.aj 2,Hy (x.aj.drop 3),Hz (x.aj.drop 3),HY (x.aj.drop 3),H6 (x.aj.drop 3)⟩
noncomputable def XG(x:ah):Prop:=dQ x=true/\3<=x.aj.length/\dU x.aj 0=am6/\(gX x.aj 2).aI=[]/\(gX x.aj 2).aj.all (fun y=>decide (y.aI≠[]))=true
noncomputable def Bd(x:ah):Bool:=dec (XG x/\(∀y∈x.aj.drop 3,jS y=true)/\validPkg (decP x)=true)
def La:aT:=⟨[],[],[],[],[],[]⟩
noncomputable def H7(x:ah):aT:=if Bd x=true then decP x else La
theorem ajz{x:ah}(h:Bd x=false):H7 x=La:=if_neg (by rw[h];decide)
theorem OC{x:ah}(h:Bd x=true):H7 x=decP x:=if_pos h
theorem gu{s s':List UInt8}{y:ah}(h:isK s y=true)(hs:s≠s'):isK s' y=false:=by
 unfold isK at *
 rw[decide_eq_true_eq] at h;rw[h];exact decide_eq_false hs
theorem H8{α:Type}(s:List UInt8)(f:ah->α){l:List ah}{i:Nat}(hi:i<l.length):((l.take (i+1)).filter (isK s)).map f=((l.take i).filter (isK s)).map f++if isK s l[i]=true then [f l[i]] else []:=by
 rw[bu hi,dg,bw];congr 1;by_cases h:isK s l[i]=true
 ·rw[if_pos h,List.filter_cons,if_pos h];rfl
 ·rw[if_neg h,List.filter_cons,if_neg h];rfl
theorem adr{α:Type}(s:List UInt8)(f:ah->α)(l:List ah)(i:Nat):(((l.take i).filter (isK s)).map f).length<=i:=by
 rw[ab];exact co (List.length_filter_le _ _) (bi _ _)
theorem ads(y:ah):(um y).sz<=y.sz:=by
 unfold um;split
 ·exact Qx true y
 ·simp[ND,bI.sz,bI.aC,bX,D.sz,aS]
theorem ajA(y:ah):(qW y).sz<=y.sz:=by
 unfold qW;split
 ·exact UK true y
 ·simp[aU.sz,aU.aC,bX,D.sz,aS]
theorem ajB(y:ah):(qx y).sz<=y.sz:=by
 unfold qx;split
 ·exact UR true y
 ·have:OB.sz=0:=by simp[OB,jB,aQ.sz,aQ.aC,ak.aC,ak.aN,ak.fName,ak.fArgs,bX,D.sz,aS]
  omega
theorem ajC(y:ah):(vC y).sz<=y.sz:=by
 unfold vC;split
 ·exact UN true y
 ·have:OA.sz=0:=by simp[OA,jB,mK,aV.sz,aV.aC,ak.aC,ak.aN,ak.fName,ak.fArgs,au.aC,bX,D.sz,aS,au.aN,au.bO,au.fName,au.fN,au.fType,au.fArgs,au.aX]
  omega
theorem Ce{α:Type}(s:List UInt8)(f:ah->α)(e:α->List D)(h:∀y,bX (e (f y))<=y.sz):∀l:List ah,aS (((l.filter (isK s)).map f).map e)<=dx l/\((l.filter (isK s)).map f).length<=l.length
 |[]=>⟨ax _,ax _⟩
 |y::l=>by
  obtain⟨h1,h2⟩:=Ce s f e h l;rw[List.filter_cons];split
  ·have:=h y;rw[af,af,aS,dx,aa,aa];omega
  ·rw[dx,aa];omega
theorem adt{x:ah}(h:x.sz<=500000):(decP x).sz<=4194304:=by
 have h1:=aae x.aj 3;have h2:=eZ x
 have h3:(x.aj.drop 3).length<=x.aj.length:=by rw[bk];omega
 have h4:=tu (gX x.aj 2).aj;have h5:(gX x.aj 2).sz<=dx x.aj:=yY x.aj 2;have h5':=qY (gX x.aj 2);have h6:(dU x.aj 1).length<=dx x.aj:=co (C9 _) (yY x.aj 1);have t1:=Ce kE um bI.enc ads (x.aj.drop 3);have t2:=Ce og qW aU.enc ajA (x.aj.drop 3);have t3:=Ce kX qx aQ.enc ajB (x.aj.drop 3);have t4:=Ce yO vC aV.enc ajC (x.aj.drop 3);have t5:=eZ (gX x.aj 2)
 simp only[aT.sz,aT.aC,bX,bT,D.sz,ab,decP,Hy,Hz,HY,H6,nY,dN] at *
 omega
theorem U0(x:ah)(i:Nat){m:Nat}(h:x.sz<=m):(x.aj.getD i cZ).sz<=m:=by
 have:=yY x.aj i;have:=eZ x;omega
theorem WG{b:Bool}{l:List ah}{i:Nat}(hi:i<l.length):((l.take i).map (yX b)).map bF.enc++[[.s (l[i].aj.getD 0 cZ).aI,.sl (((l[i].aj.drop 1).map (dZ b)).map ak.enc)]]=((l.take (i+1)).map (yX b)).map bF.enc:=by
 rw[bu hi,bw,bw];simp only[af,aw,bF.aC];rfl
theorem apV{x:ah}(h:okD x=true):(qW x).fName=(kW false x).fName/\(qW x).aG=(kW false x).aG/\(qW x).aF=(kW false x).aF:=by
 unfold qW;rw[if_pos h,<-amR h];exact⟨rfl,rfl,rfl⟩
theorem ajD{x:ah}(h:okD x=false):qW x=⟨[],[],[]⟩:=by
 unfold qW;rw[if_neg (by rw[h];decide)]
theorem apW{x:ah}(h:okD x=true):qW x=kW true x:=if_pos h
theorem ar0{x:ah}(h:x.aj.length=0):okD x=false:=aO fun h1=>gA
theorem am7(ok:Bool):Less (.eu [(true,[.d (.s []),.bH [],.bH []]),(false,[.d (.b ok)])]) (.eu [(true,[.d (.s []),.d (.sl []),.d (.sl [])]),(false,[.d (.b ok)])]):=
 (jr.cons (.cons (.refl _) (.cons (fJ _) (.cons (fJ _) .nil))) (.refl _)).less
theorem agq(n:Nat)(ok:Bool):Less (.eu [(true,[.d (.s []),.bH [],.bH []]),(false,[.d (.b ok)])]) (.eu [(true,[.d (.s []),.d (.ol n []),.d (.ol (n+1) [])]),(false,[.d (.b ok)])]):=
 (jr.cons (.cons (.refl _) (.cons (eD _) (.cons (eD _) .nil))) (.refl _)).less
def lc(l:List bF)(n:Nat):List (List D):=eO (l.map bF.enc) n
def XH(l:List bF):Nat:=mH (l.map bF.enc)
theorem apX(x:bF)(n:Nat):fE x.enc n=[.s x.fName,.ol n (lt x.iq (n+1))]:=by
 rw[bF.aC];simp only[fE,rM,vR,cR,lt]
theorem apY(x:aU)(n:Nat):fE x.enc n=[.s x.fName,.ol n (x.aG.map encS),.ol (n+1) (lc x.aF (n+1+1))]:=by
 rw[aU.aC];simp only[fE,rM,vR,cR,wP,yZ,cG,lc]
theorem ar1(l:List ak)(n:Nat):M9 (.ol n (lt l (n+1))) (.sl (l.map ak.enc)):=acY (.sl (l.map ak.enc)) n
theorem apZ{l:List bF}{i:Nat}(hi:i<l.length)(n:Nat):lc (l.take i) n++[[.s l[i].fName,.ol (n+XH (l.take i)) (lt l[i].iq (n+XH (l.take i)+1))]]=lc (l.take (i+1)) n:=by
 rw[bu hi];unfold lc XH;rw[bw,qO];simp only[af,aw,eO,apX]
theorem U1(x:ah)(hsz:x.sz<=1048576):aD prog 65 [x.v] (.eu [(true,[.d (.s (qW x).fName),.d (.sl ((qW x).aG.map encS)),.d (.sl ((qW x).aF.map bF.enc))]),(false,[.d (.b (okD x))])]):=aD.of_le fun S=>by
 have h1:=eZ x;have hds:=UK false x;have hos:=ao8 (d:=kW false x) gA;obtain⟨l,hl⟩:∃l,l=x.aj.drop 3:=⟨_,rfl⟩
 have hll:l.length<=1048576:=by rw[hl,bk];omega
 have hlm:∀y∈l,y.sz<=1048576:=fun y hy=>by
  have:=gY (cJ (hl▸hy));omega
 obtain⟨T,hT⟩:∃T:Nat->List (List D),T=fun i=>((l.take i).map (yX false)).map bF.enc:=⟨_,rfl⟩
 have hT0:T 0=[]:=by rw[hT];rfl
 have fZ:∀i,(T i).length<=i:=fun i=>by rw[hT];simp only[ab];exact bi _ _
 have hTs:∀i (hi:i<l.length),T i++[[.s (l[i].aj.getD 0 cZ).aI,.sl (((l[i].aj.drop 1).map (dZ false)).map ak.enc)]]=T (i+1):=fun i hi=>by rw[hT];exact WG hi
 have hTe:T l.length=((kW false x).aF).map bF.enc:=by
  rw[hT];simp only
  rw[ch,hl];rfl
 clear hT;refine zcx [.cell 2 69,.tmp 3] func65 ntmps65 ?_;refine W1 ?_;refine C1 (fU x 1 gA gA) ?_;refine C1 (fU x 2 gA gA) ?_;refine C1 (uf _ (U0 x 2 gA)) ?_;refine W3 ?_;refine C1 (zQ x 3 gA) ?_;rw[<-hl];refine kJ 2 2 2 _ rfl rfl ?_
 refine aZ (ι:=Nat) zmx rfl [1,2,4,5,6] (fun i=>[.c (.ptr (0,0) 0),.c (.ptr (0,1) 0),.c (.ptr (0,2) 0),.c (.d (.sl (l.map ah.enc))),.c (.d (.i .i64 i))])
  (fun i=>[.box [.d (.s x.aI),.d (.sl (x.aj.map ah.enc))],.box [.d (.s []),.bH [],.bH []],.box [.d (.s (kW false x).fName),.d (.sl ((kW false x).aG.map encS)),.bJ (0,3) (T i)],.tok 2 (T i)]::S)
  (fun i=>i<=l.length) (fun i=>l.length-i) 0 rfl (by rw[hT0];rfl) (an _) ?_
 intro i hi;have hl':=fZ i;refine W1 ?_;refine S0 (fun hb h=>?_) fun hb h=>?_
 ·have hi':i<l.length:=gA
  have hm:=ac hi';have hs:=hTs i hi';have hz:=hlm _ hm;have hz1:=eZ l[i];refine W3 ?_;refine C1 (fU l[i] 0 gA gA) ?_;refine W3 ?_;refine C1 (zQ l[i] 1 gA) ?_;refine C1 (LA (l[i].aj.drop 1) (by rw[bk];omega) (fun t ht=>by have:=gY (cJ ht);omega)) ?_;refine W3 ?_;rw[hs];exact bR 4 gE (i+1) gA rfl rfl rfl rfl gA
 ·have hi':i=l.length:=gA
  subst hi';rw[hTe];clear hTs;refine C1 (pz x gA) ?_
  have gH:okD x=false->Less (.eu [(true,[.d (.s []),.bH [],.bH []]),(false,[.d (.b false)])]) (.eu [(true,[.d (.s (qW x).fName),.d (.sl ((qW x).aG.map encS)),.d (.sl ((qW x).aF.map bF.enc))]),(false,[.d (.b (okD x))])]):=fun e=>by
   rw[ajD e,e];exact am7 false
  refine S0 (fun hb h=>?_) fun hb h=>?_
  ·exact gH (aO fun e=>by rw[e.1] at h;cases h)
  have hv:=h;refine S0 (fun hb h=>?_) fun hb h=>?_
  ·exact gH (ar0 gA)
  have hne:x.aj≠[]:=fun e=>by rw[e] at h;exact h rfl
  have hok:=amQ hne;rw[hv,cd] at hok;refine W3 ?_;refine C1 (Jb (kW false x) gA) ?_;refine C1 (vF (BJ (kW false x)) x gA) ?_;refine S0 (fun hb h=>?_) fun hb h=>?_
  ·exact gH (by rw[hok];exact aO h)
  ·have hy:okD x=true:=by rw[hok];exact bK h
   obtain⟨e1,e2,e3⟩:=apV hy;rw[e1,e2,e3,hy];exact gV _
theorem TK(x:ah)(n:Nat)(hsz:x.sz<=1048576):aD prog 58 [x.v] (.eu [(true,[.d (.s (qW x).fName),.d (.ol n ((qW x).aG.map encS)),.d (.ol (n+1) (lc (qW x).aF (n+1+1)))]),(false,[.d (.b (okD x))])]):=aD.of_le fun S=>by
 have h1:=eZ x;have hds:=UK true x;obtain⟨l,hl⟩:∃l,l=x.aj.drop 3:=⟨_,rfl⟩
 have hll:l.length<=1048576:=by rw[hl,bk];omega
 have hlm:∀y∈l,y.sz<=1048576:=fun y hy=>by
  have:=gY (cJ (hl▸hy));omega
 have gH:okD x=false->Less (.eu [(true,[.d (.s []),.bH [],.bH []]),(false,[.d (.b false)])]) (.eu [(true,[.d (.s (qW x).fName),.d (.ol n ((qW x).aG.map encS)),.d (.ol (n+1) (lc (qW x).aF (n+1+1)))]),(false,[.d (.b (okD x))])]):=fun e=>by
  rw[ajD e,e];exact agq n false
 refine lF (n) (rs:=[.cell 2 69,.tmp 3]) zmx func58 ntmps58 rfl rfl rfl rfl rfl ?_;refine W1 ?_;refine C1 (wU x og 3 gA gA gA) ?_;refine S0 (fun hb h=>?_) fun hb h=>?_
 ·exact gH (aO fun e=>h ⟨e.1,e.2.1,e.2.2.1⟩)
 have hf:=h;have hlen:3<=x.aj.length:=hf.2.1;have hr:=gK (l:=x.aj);have a1:=j4 (l:=x.aj) (i:=1) gA
 have g2:(x.aj.getD 2 cZ)=x.aj[2]:=by rw[cz,am gA];rfl
 have z2:=U0 x 2 hsz;rw[g2] at z2
 have hvars:(kW true x).aG=fD x.aj[2].aj:=by rw[<-g2];rfl
 have hname:(kW true x).fName=x.aj[1].aI:=a1;have vV:=qN hf.1;have hsl:=Zv (kW true x);obtain⟨L,hL⟩:∃L:Nat->Nat,L=fun i=>n+1+1+XH ((l.map (yX true)).take i):=⟨_,rfl⟩;obtain⟨T,hT⟩:∃T:Nat->List (List D),T=fun i=>lc ((l.map (yX true)).take i) (n+1+1):=⟨_,rfl⟩;obtain⟨P,hP⟩:∃P:Nat->List (List D),P=fun i=>((l.take i).map (yX true)).map bF.enc:=⟨_,rfl⟩
 have hT0:T 0=[]:=by rw[hT];rfl
 have Yo:P 0=[]:=by rw[hP];rfl
 have hPl:∀i,(P i).length<=i:=fun i=>by rw[hP];simp only[ab];exact bi _ _
 have hPr:∀i,∀r∈P i,r.length=2:=fun i=>by
  rw[hP];intro r hr;obtain⟨z,_,rfl⟩:=cr.1 hr;exact z.dK
 have hTs:∀i (hi:i<l.length),T i++[[.s (yX true l[i]).fName,.ol (L i) (lt (yX true l[i]).iq (L i+1))]]=T (i+1):=fun i hi=>by
  have:=apZ (l:=l.map (yX true)) (i:=i) hJ (n+1+1);rw[bp] at this;rw[hT,hL];exact this
 have hPs:∀i (hi:i<l.length),P i++[[.s (l[i].aj.getD 0 cZ).aI,.sl (((l[i].aj.drop 1).map (dZ true)).map ak.enc)]]=P (i+1):=fun i hi=>by rw[hP];exact WG hi
 have hTe:T l.length=lc (kW true x).aF (n+1+1):=by
  rw[hT];simp only
  rw[aE gL,hl];rfl
 have hPe:P l.length=(kW true x).aF.map bF.enc:=by
  rw[hP];simp only
  rw[ch,hl];rfl
 clear hT hP hL;refine C1 (rU x.aj[2] gA n) ?_;refine⟨⟨gA,gA,hr⟩,?_⟩;rw[pJ _ _ _ (ax _),<-hl,<-hvars,<-hname];refine W1 ?_;refine oG (n+1) 3 2 2 _ rfl rfl ?_
 refine aZ (ι:=Nat×List (List D)) zmx rfl [1,2,4,25,26,27] (fun y=>[.c (.ptr (0,1) 0),.c (.ptr (0,2) 0),.c (.ptr (0,3) 0),.c (.d (.sl (l.map ah.enc))),.c (.d (.i .i64 l.length)),.c (.d (.i .i64 y.1))])
  (fun y=>[.seed n,.box [.d (.s x.aI),.d (.sl (x.aj.map ah.enc))],.box [.d (.s []),.bH [],.bH []],.box [.d (.s (kW true x).fName),.d (.ol n ((kW true x).aG.map encS)),.bJ (0,4) y.2],.eP (n+1) 2 y.2]::S)
  (fun y=>y.1<=l.length/\jd y.2 (P y.1)/\((∀j,∀hj:j<l.length,j<y.1->l[j].aj≠[])->y.2=T y.1)) (fun y=>l.length-y.1) (0,[]) rfl rfl ⟨an _,by rw[Yo];exact .nil,fun _=>hT0.symm⟩ ?_
 rintro⟨i,U⟩ ⟨p1,p2,p3⟩;simp only at p1 p2 p3;have hU1:=p2.length;have hU2:=hPl i;have hU3:=p2.rows (hPr i);refine W1 ?_;refine S0 (fun hb h=>?_) fun hb h=>?_
 ·have hi':i<l.length:=gA
  have hm:=ac hi';have hs:=hTs i hi';have hps:=hPs i hi';have hz:=hlm _ hm;have hz1:=eZ l[i];have hry:=gK (l:=l[i].aj);refine W3 ?_;refine S0 (fun hb h=>?_) fun hb h=>?_
  ·have hpos:0<l[i].aj.length:=gA
   refine W3 ?_;refine⟨⟨gA,gA,hry⟩,?_⟩;rw[pJ _ _ _ (ax _)];refine C1 (J7 (l[i].aj.drop 1) (L i) (L i+1) (by rw[bk];omega) (fun t ht=>by have:=gY (cJ ht);omega)) ?_;refine W3 ?_
   have g0:l[i].aj.getD 0 cZ=l[i].aj[0]:=by rw[cz,am hpos];rfl
   rw[g0] at hps;have hcn:(yX true l[i]).fName=l[i].aj[0].aI:=j4 hpos;rw[hcn] at hs;refine bR 5 gE (i+1,_) gC rfl rfl rfl rfl ⟨gC,?_,fun hg=> ?_⟩
   ·simp only
    rw[<-hps];exact p2.snoc (.cons (.refl _) (.cons (ar1 _ _) .nil))
   ·simp only
    rw[p3 fun j hj hji=>hg j hj gC,<-hs];rfl
  ·have hnil:l[i].aj=[]:=bz gA
   have g0:l[i].aj.getD 0 cZ=cZ:=by rw[hnil];rfl
   rw[g0,hnil] at hps;refine bR 5 gE (i+1,_) gC rfl rfl rfl rfl ⟨gC,?_,fun hg=> ?_⟩
   ·simp only
    rw[<-hps];exact p2.snoc (.refl _)
   ·exact absurd hnil (hg i hi' gC)
 ·have hi':i=l.length:=gA
  subst hi';clear hTs hPs;rw[hPe] at p2;refine lQ (GQ (kW true x) gA) (.cons (fP.less (.cons (.refl _) (.cons (JW _ _) (.cons (Tx p2) .nil)))) .nil) ?_;refine W1 ?_;refine S0 (fun hb h=>?_) fun hb h=>?_
  ·exact gH (aO fun e=>by rw[e.2.2.2.1] at h;cases h)
  have hv:=h;refine W3 ?_;refine lQ (aD.less (BK (kW true x) 0 hv gA) (AO (uQ (kW true x)) 0)) (.cons (fP.less (.cons (.refl _) (.cons (JW _ _) (.cons (Tx p2) .nil)))) .nil) ?_;refine W1 ?_;refine C1 (r9 (uQ (kW true x)) x gA) ?_;refine S0 (fun hb h=>?_) fun hb h=>?_
  ·exact gH (aO fun e=>h e.2.2.2.2)
  ·have hy:okD x=true:=bK ⟨hf.1,hf.2.1,hf.2.2,hv,h⟩
   have hgood:U=T l.length:=p3 fun j hj _ e=>by
    have h3:=congrArg (fun z=>z.aj.drop 3) h;simp only[<-hl] at h3;have h4:(uQ (kW true x)).aj.drop 3=(kW true x).aF.map Ec:=rfl;rw[h4] at h3
    have h5:l[j]=Ec ((kW true x).aF[j]'(by have:=congrArg List.length h3;rw[ab] at this;omega)):=by
     simp only[<-h3,bp]
    rw[h5] at e;simp[Ec,dD] at e
   rw[hgood,hTe,apW hy,hy];exact gV _
noncomputable def IQ(y:ah):List (List D):=if isK kE y=true then [(um y).enc] else []
noncomputable def IU(y:ah):List (List D):=if isK og y=true then [(qW y).enc] else []
noncomputable def IV(y:ah):List (List D):=if isK kX y=true then [(qx y).enc] else []
noncomputable def addFn(y:ah):List (List D):=if isK yO y=true then [(vC y).enc] else []
theorem xC{s s':List UInt8}{y:ah}(h:isK s y=true)(hs:s≠s')(r:List (List D)):(if isK s' y=true then r else [])=[]:=if_neg (by rw[gu h hs];decide)
def pst(bx br:List C)(nm dp:D)(a b c d:List (List D)):List Obj:=[.box bx,.box br,.box [.d nm,.d dp,.bJ (0,3) a,.bJ (0,4) b,.bJ (0,5) c,.bJ (0,6) d],.tok 5 a,.tok 3 b,.tok 12 c,.tok 16 d]
theorem am8{l:List ah}{i:Nat}(hi:i<l.length):(Hy (l.take (i+1))).map bI.enc=(Hy (l.take i)).map bI.enc++IQ l[i]:=by
 unfold Hy IQ;rw[H8 _ _ hi,bw];split<;>rfl
theorem am9{l:List ah}{i:Nat}(hi:i<l.length):(Hz (l.take (i+1))).map aU.enc=(Hz (l.take i)).map aU.enc++IU l[i]:=by
 unfold Hz IU;rw[H8 _ _ hi,bw];split<;>rfl
theorem ana{l:List ah}{i:Nat}(hi:i<l.length):(HY (l.take (i+1))).map aQ.enc=(HY (l.take i)).map aQ.enc++IV l[i]:=by
 unfold HY IV;rw[H8 _ _ hi,bw];split<;>rfl
theorem anb{l:List ah}{i:Nat}(hi:i<l.length):(H6 (l.take (i+1))).map aV.enc=(H6 (l.take i)).map aV.enc++addFn l[i]:=by
 unfold H6 addFn;rw[H8 _ _ hi,bw];split<;>rfl
theorem ajE(l:List ah)(i:Nat):((Hy (l.take i)).map bI.enc).length<=i/\((Hz (l.take i)).map aU.enc).length<=i/\((HY (l.take i)).map aQ.enc).length<=i/\((H6 (l.take i)).map aV.enc).length<=i:=by
 have h:=fun {α:Type} s (f:ah->α)=>adr s f l i
 simp only[ab,Hy,Hz,HY,H6] at *
 exact⟨h _ id,h _ id,h _ id,h _ id⟩
def za:List C:=[.d (.s []),.bH [],.bH [],.bH [],.bH [],.bH []]
def aT.cv(p:aT):List C:=[.d (.s p.fName),.d (.sl (p.eY.map encS)),.d (.sl (p.aJ.map bI.enc)),.d (.sl (p.ay.map aU.enc)),.d (.sl (p.aH.map aQ.enc)),.d (.sl (p.aM.map aV.enc))]
theorem av3(e:aT)(h:e=La)(ok:Bool):Less (.eu [(true,za),(false,[.d (.b ok)])]) (.eu [(true,e.cv),(false,[.d (.b ok)])]):=by
 subst h;exact(jr.cons (.cons (.refl _) (.cons (fJ _) (.cons (fJ _) (.cons (fJ _) (.cons (fJ _) (.cons (fJ _) .nil)))))) (.refl _)).less
theorem acj(y:ah)(hsz:y.sz<=1048576)(bx br:List C)(nm dp:D)(a b c d:List (List D))(Ω:Store)(ha:a.length<=1048576)(hb:b.length<=1048576)(hc:c.length<=1048576)(hd:d.length<=1048576):
 bS prog 24 [.c (.ptr (0,2) 0),y.v] (pst bx br nm dp a b c d::Ω) (fun r S'=>r=.c (.d (.b (jS y)))/\S'=pst bx br nm dp (a++IQ y) (b++IU y) (c++IV y) (d++addFn y)::Ω):=by
 unfold pst;refine zcx [.tmp 4] func24 ntmps24 ?_;refine W1 ?_;refine C1 (fU y 0 gA gA) ?_;have hk:∀s,isK s y=decide ((y.aj.getD 0 cZ).aI=s):=fun s=>rfl;refine S0 (fun hb h=>?_) fun hb h=>?_
 ·have h1:isK kE y=true:=by rw[hk];exact hb
  refine C1 (aaL y gA) ?_;refine W3 ?_;have e0:jS y=wW y:=if_pos h1;have e1:IQ y=[(um y).enc]:=if_pos h1;have e2:IU y=[]:=xC h1 gE _;have e3:IV y=[]:=xC h1 gE _;have e4:addFn y=[]:=xC h1 gE _;rw[e0,e1,e2,e3,e4];exact Z1
  (repeat(with_reducible refine And.intro ?_ ?_;focus first|omega|rfl|assumption|exact⟨_,rfl,rfl⟩|(simp;omega)|(simp;done)))
 have n1:isK kE y=false:=by rw[hk];exact hb
 refine S0 (fun hb h=>?_) fun hb h=>?_
 ·have h1:isK og y=true:=by rw[hk];exact hb
  refine C1 (U1 y gA) ?_;refine W3 ?_
  have e0:jS y=okD y:=by unfold jS;simp only[n1,h1,if_false,if_true,cP]
  have e1:IQ y=[]:=xC h1 gE _;have e2:IU y=[(qW y).enc]:=if_pos h1;have e3:IV y=[]:=xC h1 gE _;have e4:addFn y=[]:=xC h1 gE _;rw[e0,e1,e2,e3,e4];exact Z1
  (repeat(with_reducible refine And.intro ?_ ?_;focus first|omega|rfl|assumption|exact⟨_,rfl,rfl⟩|(simp;omega)|(simp;done)))
 have n2:isK og y=false:=by rw[hk];exact hb
 refine S0 (fun hb h=>?_) fun hb h=>?_
 ·have h1:isK kX y=true:=by rw[hk];exact hb
  refine C1 (acf y gA) ?_;refine W3 ?_
  have e0:jS y=y7 y:=by unfold jS;simp only[n1,n2,h1,if_false,if_true,cP]
  have e1:IQ y=[]:=xC h1 gE _;have e2:IU y=[]:=xC h1 gE _;have e3:IV y=[(qx y).enc]:=if_pos h1;have e4:addFn y=[]:=xC h1 gE _;rw[e0,e1,e2,e3,e4];exact Z1
  (repeat(with_reducible refine And.intro ?_ ?_;focus first|omega|rfl|assumption|exact⟨_,rfl,rfl⟩|(simp;omega)|(simp;done)))
 have n3:isK kX y=false:=by rw[hk];exact hb
 refine S0 (fun hb h=>?_) fun hb h=>?_
 ·have h1:isK yO y=true:=by rw[hk];exact hb
  refine C1 (aaz y gA) ?_;refine W3 ?_
  have e0:jS y=okF y:=by unfold jS;simp only[n1,n2,n3,h1,if_false,if_true,cP]
  have e1:IQ y=[]:=xC h1 gE _;have e2:IU y=[]:=xC h1 gE _;have e3:IV y=[]:=xC h1 gE _;have e4:addFn y=[(vC y).enc]:=if_pos h1;rw[e0,e1,e2,e3,e4];exact Z1
  (repeat(with_reducible refine And.intro ?_ ?_;focus first|omega|rfl|assumption|exact⟨_,rfl,rfl⟩|(simp;omega)|(simp;done)))
 have n4:isK yO y=false:=by rw[hk];exact hb
 unfold jS IQ IU IV addFn;simp only[n1,n2,n3,n4,if_false,cP,bm];exact⟨trivial,trivial⟩
theorem acn(x:ah)(hsz:x.sz<=1048576):aD prog 7 [x.v] (.eu [(true,(H7 x).cv),(false,[.d (.b (Bd x))])]):=aD.of_le fun S=>by
 have h1:=eZ x;obtain⟨l,hl⟩:∃l,l=x.aj.drop 3:=⟨_,rfl⟩
 have hll:l.length<=1048576:=by rw[hl,bk];omega
 have hlen:l.length=x.aj.length-3:=by rw[hl,bk]
 have hlm:∀y∈l,y.sz<=1048576:=fun y hy=>by
  have:=gY (cJ (hl▸hy));omega
 have gH:Bd x=false->Less (.eu [(true,za),(false,[.d (.b false)])]) (.eu [(true,(H7 x).cv),(false,[.d (.b (Bd x))])]):=fun e=>by
  rw[e];exact av3 _ (ajz e) false
 have hnm:((x.aj.getD 2 cZ).aj).length<=1073741824:=by
  have:=U0 x 2 (ax _);have:=eZ (x.aj.getD 2 cZ);omega
 refine zcx [.cell 2 34,.tmp 3] func7 ntmps7 ?_;refine W1 ?_;refine C1 (fU x 2 gA gA) ?_;refine C1 (Ho _ hnm) ?_;refine C1 (fU x 1 gA gA) ?_;refine C1 (pz x gA) ?_;refine S0 (fun hb h=>?_) fun hb h=>?_
 ·exact gH (aO fun e=>by rw[e.1.1] at h;cases h)
 have hv:=h;refine S0 (fun hb h=>?_) fun hb h=>?_
 ·exact gH (aO fun e=>by have:=e.1.2.1;omega)
 have h3:3<=x.aj.length:=gA
 refine W3 ?_;have a0:x.aj[0].aI=dU x.aj 0:=(j4 gA).symm;have g2:x.aj[2]=gX x.aj 2:=(jR gA).symm;refine S0 (fun hb h=>?_) fun hb h=>?_
 ·exact gH (aO fun e=>h (a0.trans e.1.2.2.1))
 have hw:dU x.aj 0=am6:=by rw[<-a0];exact h
 refine W3 ?_;refine S0 (fun hb h=>?_) fun hb h=>?_
 ·exact gH (aO fun e=>h (by rw[g2];exact e.1.2.2.2.1))
 have hz2:(gX x.aj 2).aI=[]:=by rw[<-g2];exact h
 refine S0 (fun hb h=>?_) fun hb h=>?_
 ·exact gH (aO fun e=>by have:=e.1.2.2.2.2;unfold allA at h;rw[show(x.aj.getD 2 cZ)=gX x.aj 2 from rfl,this] at h;cases h)
 have hall:(gX x.aj 2).aj.all (fun y=>decide (y.aI≠[]))=true:=h;have hhead:XG x:=⟨hv,h3,hw,hz2,hall⟩;have hvs:=qN hv;refine kJ 2 2 5 _ rfl rfl ?_;refine kJ 2 3 3 _ rfl rfl ?_;refine kJ 2 4 12 _ rfl rfl ?_;refine kJ 2 5 16 _ rfl rfl ?_
 refine aZ (ι:=Nat) zmx rfl [1,2,6,7] (fun i=>[.c (.ptr (0,0) 0),.c (.ptr (0,1) 0),.c (.ptr (0,2) 0),.c (.d (.i .i64 (i+3:Nat)))])
  (fun i=>pst [.d (.s x.aI),.d (.sl (x.aj.map ah.enc))] za (.s (x.aj.getD 1 cZ).aI) (.sl ((fD (x.aj.getD 2 cZ).aj).map encS)) ((Hy (l.take i)).map bI.enc) ((Hz (l.take i)).map aU.enc) ((HY (l.take i)).map aQ.enc) ((H6 (l.take i)).map aV.enc)::S)
  (fun i=>i<=l.length/\∀j,∀hj:j<l.length,j<i->jS l[j]=true) (fun i=>l.length-i) 0 rfl rfl ⟨an _,fun j _ h=>gA⟩ ?_
 rintro i ⟨p1,p2⟩;obtain⟨t1,t2,t3,t4⟩:=ajE l i;simp -implicitDefEqProofs (disch:=omega) only[go_sem,pst];refine S0 (fun hb h=>?_) fun hb h=>?_
 ·have hi:i<l.length:=gA
  have hm:=ac hi;have hz:=hlm _ hm
  have hg:x.aj[i+3]' gA=l[i]:=by
   simp only[hl,List.getElem_drop];congr 1;omega
  refine W3 ?_;simp only[hg];have hc:=acj l[i] hz [.d (.s x.aI),.d (.sl (x.aj.map ah.enc))] za (.s (x.aj.getD 1 cZ).aI) (.sl ((fD (x.aj.getD 2 cZ).aj).map encS)) _ _ _ _ S (co t1 gA) (co t2 gA) (co t3 gA) (co t4 gA);rw[<-am8 hi,<-am9 hi,<-ana hi,<-anb hi] at hc;refine bD rfl hc ?_;simp -implicitDefEqProofs (disch:=omega) only[go_sem,pst];refine S0 (fun hb h=>?_) fun hb h=>?_
  ·exact⟨gE,gH (aO fun e=>by have:=e.2.1 l[i] (by rw[<-hl];exact hm);rw[this] at h;cases h)⟩
  ·refine dH (i+1) gA rfl rfl ⟨gA,fun j hj hji=> ?_⟩;by_cases e:j=i
   ·subst e;exact h
   ·exact p2 j hj gA
 ·have hi:i=l.length:=gA
  subst hi;rw[ch,hl];refine C1 (xZ (decP x) (adt gA)) ?_
  have hits:∀y∈x.aj.drop 3,jS y=true:=fun y hy=>by
   rw[<-hl] at hy;obtain⟨j,hj,rfl⟩:=List.mem_iff_getElem.1 hy;exact p2 j hj hj
  refine S0 (fun hb h=>?_) fun hb h=>?_
  ·exact⟨gE,gH (aO fun e=>by rw[e.2.2] at h;cases h)⟩
  ·have hy:Bd x=true:=bK ⟨hhead,hits,h⟩;rw[OC hy,hy];exact⟨gE,gV _⟩
def pY(b:Bool)(r:List D)(n:Nat):List (List D):=if b=true then [fE r n] else []
def Jm(n:Nat)(bx br:List C)(nm dp:D)(n1 n2 n3 n4:Nat)(a b c d:List (List D))(mo:List Obj):List Obj:=.seed n:: .box bx:: .box br:: .box [.d nm,.d dp,.bJ (0,4) a,.bJ (0,5) b,.bJ (0,6) c,.bJ (0,7) d]:: .eP n1 5 a:: .eP n2 3 b:: .eP n3 12 c:: .eP n4 16 d::mo
def unD:C->D
 | .d x=>x
 |_=>.s []
theorem ap0{r:List D}{cs:List C}(h:r.map C.d=cs):r=cs.map unD:=by
 subst h;rw[ew];exact(List.map_id r).symm
theorem FP{b:Bool}{r:List D}{n:Nat}{cs:List C}(h:b=true)(hc:(fE r n).map C.d=cs):pY b r n=[cs.map unD]:=by
 unfold pY;rw[if_pos h,ap0 hc]
theorem jK{b:Bool}{r:List D}{n:Nat}(h:b=false):pY b r n=[]:=by
 unfold pY;rw[if_neg (by rw[h];decide)]
theorem ap1(x:aU)(n:Nat):(fE x.enc n).map C.d=[.d (.s x.fName),.d (.ol n (x.aG.map encS)),.d (.ol (n+1) (lc x.aF (n+1+1)))]:=by rw[apY];rfl
def E8(p:aT)(n:Nat):Nat:=n+1+(mH (p.aJ.map bI.enc)+1)
def E9(p:aT)(n:Nat):Nat:=E8 p n+(mH (p.ay.map aU.enc)+1)
def H9(p:aT)(n:Nat):Nat:=E9 p n+(mH (p.aH.map aQ.enc)+1)
theorem Qz(p:aT)(n:Nat):fE p.enc n=[.s p.fName,.ol n (p.eY.map encS),.ol (n+1) (eO (p.aJ.map bI.enc) (n+1+1)),.ol (E8 p n) (eO (p.ay.map aU.enc) (E8 p n+1)),.ol (E9 p n) (eO (p.aH.map aQ.enc) (E9 p n+1)),.ol (H9 p n) (eO (p.aM.map aV.enc) (H9 p n+1))]:=by
 simp only[aT.aC,fE,rM,vR,cR,wP,yZ,cG,E8,E9,H9]
theorem IW{α:Type}(s:List UInt8)(f:ah->α)(e:α->List D){l:List ah}{i:Nat}(hi:i<l.length)(n:Nat):
 eO ((((l.take (i+1)).filter (isK s)).map f).map e) n=eO ((((l.take i).filter (isK s)).map f).map e) n++pY (isK s l[i]) (e (f l[i])) (n+mH ((((l.take i).filter (isK s)).map f).map e)):=by
 rw[H8 _ _ hi,bw,qO];congr 1;unfold pY;split<;>rfl
theorem Lb{α:Type}(s:List UInt8)(f:ah->α)(e:α->List D)(l:List ah)(i n:Nat):(eO ((((l.take i).filter (isK s)).map f).map e) n).length<=i:=by
 rw[kT,ab];exact adr s f l i
theorem ajF(e:aT)(h:e=La)(n:Nat)(ok:Bool):Less (.eu [(true,za),(false,[.d (.b ok)])]) (.eu [(true,(fE e.enc n).map .d),(false,[.d (.b ok)])]):=by
 subst h;rw[Qz];exact(jr.cons (.cons (.refl _) (.cons (eD _) (.cons (eD _) (.cons (eD _) (.cons (eD _) (.cons (eD _) .nil)))))) (.refl _)).less
theorem aco(y:ah)(hsz:y.sz<=1048576)(n:Nat)(bx br:List C)(nm dp:D)(n1 n2 n3 n4:Nat)(q1 q2 q3 q4:Nat)(a b c d:List (List D))(mo:List Ab.Obj)(Ω:Store)(ha:a.length<=1048576)(hb:b.length<=1048576)(hc:c.length<=1048576)(hd:d.length<=1048576):
 bS prog 20 [.c (.ptr (0,3) 0),y.v] (Jm n bx br nm dp n1 n2 n3 n4 a b c d mo::Ω) (fun r S'=>r=.c (.d (.b (jS y)))/\S'=Jm n bx br nm dp n1 n2 n3 n4 (a++pY (isK kE y) (um y).enc q1) (b++pY (isK og y) (qW y).enc q2) (c++pY (isK kX y) (qx y).enc q3) (d++pY (isK yO y) (vC y).enc q4) mo::Ω):=by
 have hg:∀h0:0<y.aj.length,y.aj[0].aI=dU y.aj 0:=fun h0=>(j4 h0).symm;obtain⟨A,hA'⟩:∃A,A=pY (isK kE y) (um y).enc q1:=⟨_,rfl⟩;obtain⟨B,hB'⟩:∃A,A=pY (isK og y) (qW y).enc q2:=⟨_,rfl⟩;obtain⟨C,hC'⟩:∃A,A=pY (isK kX y) (qx y).enc q3:=⟨_,rfl⟩;obtain⟨D,hD'⟩:∃A,A=pY (isK yO y) (vC y).enc q4:=⟨_,rfl⟩;rw[<-hA',<-hB',<-hC',<-hD'];have TL:∀{s},dU y.aj 0=s->isK s y=true:=fun h=>decide_eq_true h;have NH:∀{s},¬dU y.aj 0=s->isK s y=false:=fun h=>decide_eq_false h;unfold Jm;refine zcx [.tmp 4] func20 ntmps20 ?_;refine W1 ?_;refine S0 (fun hb h=>?_) fun hb h=>?_
 ·have h0:y.aj=[]:=bz gA;have hn:∀s,s≠[]->isK s y=false:=fun s hs=>NH (by rw[h0];exact fun e=>hs e.symm);have m1:=hn kE gE;have m2:=hn og gE;have m3:=hn kX gE;have m4:=hn yO gE
  have e0:jS y=false:=by unfold jS;simp only[m1,m2,m3,m4,if_false,cP]
  rw[e0,hA',hB',hC',hD',jK m1,jK m2,jK m3,jK m4];simp only[bm];exact⟨trivial,trivial⟩
 have h0:0<y.aj.length:=gA
 refine W3 ?_;simp only[hg h0];refine S0 (fun hb h=>?_) fun hb h=>?_
 ·have k1:isK kE y=true:=TL h
  have e0:jS y=wW y:=by unfold jS;simp only[k1,if_false,if_true,cP]
  have hA:=(hA').trans (FP k1 (aaG _ _));simp only[af,aw,unD] at hA;have hB:=(hB').trans (jK (gu k1 gE));have hC:=(hC').trans (jK (gu k1 gE));have hD:=(hD').trans (jK (gu k1 gE));rw[e0,hA,hB,hC,hD];refine C1 (Xk y q1 hsz) ?_;refine W3 ?_;omega
 have m1:isK kE y=false:=NH h;refine S0 (fun hb h=>?_) fun hb h=>?_
 ·have k1:isK og y=true:=TL h
  have e0:jS y=okD y:=by unfold jS;simp only[m1,k1,if_false,if_true,cP]
  have hA:=(hA').trans (jK (gu k1 gE));have hB:=(hB').trans (FP k1 (ap1 _ _));simp only[af,aw,unD] at hB;have hC:=(hC').trans (jK (gu k1 gE));have hD:=(hD').trans (jK (gu k1 gE));rw[e0,hA,hB,hC,hD];refine C1 (TK y q2 hsz) ?_;refine W3 ?_;omega
 have m2:isK og y=false:=NH h;refine S0 (fun hb h=>?_) fun hb h=>?_
 ·have k1:isK kX y=true:=TL h
  have e0:jS y=y7 y:=by unfold jS;simp only[m1,m2,k1,if_false,if_true,cP]
  have hA:=(hA').trans (jK (gu k1 gE));have hB:=(hB').trans (jK (gu k1 gE));have hC:=(hC').trans (FP k1 (apR _ _));simp only[af,aw,unD] at hC;have hD:=(hD').trans (jK (gu k1 gE));rw[e0,hA,hB,hC,hD];refine C1 (aaF y q3 hsz) ?_;refine W3 ?_;omega
 have m3:isK kX y=false:=NH h;refine S0 (fun hb h=>?_) fun hb h=>?_
 ·have k1:isK yO y=true:=TL h
  have e0:jS y=okF y:=by unfold jS;simp only[m1,m2,m3,k1,if_false,if_true,cP]
  have hA:=(hA').trans (jK (gu k1 gE));have hB:=(hB').trans (jK (gu k1 gE));have hC:=(hC').trans (jK (gu k1 gE));have hD:=(hD').trans (FP k1 (apQ _ _));simp only[af,aw,unD] at hD;rw[e0,hA,hB,hC,hD];refine C1 (Xi y q4 hsz) ?_;refine W3 ?_;omega
 have m4:isK yO y=false:=NH h
 have e0:jS y=false:=by unfold jS;simp only[m1,m2,m3,m4,if_false,cP]
 rw[e0,hA',hB',hC',hD',jK m1,jK m2,jK m3,jK m4];simp only[bm];exact⟨trivial,trivial⟩
theorem anc{x:ah}(h:x.sz<=11700):(decP x).sz<=1048576:=by
 have h1:=aae x.aj 3;have h2:=eZ x
 have h3:(x.aj.drop 3).length<=x.aj.length:=by rw[bk];omega
 have h4:=tu (gX x.aj 2).aj;have h5:(gX x.aj 2).sz<=dx x.aj:=yY x.aj 2;have h5':=qY (gX x.aj 2);have h6:(dU x.aj 1).length<=dx x.aj:=co (C9 _) (yY x.aj 1);have t1:=Ce kE um bI.enc ads (x.aj.drop 3);have t2:=Ce og qW aU.enc ajA (x.aj.drop 3);have t3:=Ce kX qx aQ.enc ajB (x.aj.drop 3);have t4:=Ce yO vC aV.enc ajC (x.aj.drop 3);have t5:=eZ (gX x.aj 2)
 simp only[aT.sz,aT.aC,bX,bT,D.sz,ab,decP,Hy,Hz,HY,H6,nY,dN] at *
 omega
theorem ar2(x:ah):(H7 x).sz<=1048576:=by
 unfold H7;split
 ·rename_i h;have h2:XG x:=(gD h).1;exact anc (qN h2.1)
 ·simp[La,aT.sz,aT.aC,bX,D.sz,aS]
theorem aaM(x:ah)(n:Nat)(hsz:x.sz<=1048576):aD prog 6 [x.v] (.eu [(true,(fE (H7 x).enc n).map .d),(false,[.d (.b (Bd x))])]):=aD.of_le fun S=>by
 have h1:=eZ x;obtain⟨l,hl⟩:∃l,l=x.aj.drop 3:=⟨_,rfl⟩
 have hll:l.length<=1048576:=by rw[hl,bk];omega
 have hlen:l.length=x.aj.length-3:=by rw[hl,bk]
 have hlm:∀y∈l,y.sz<=1048576:=fun y hy=>by
  have:=gY (cJ (hl▸hy));omega
 have gH:Bd x=false->Less (.eu [(true,za),(false,[.d (.b false)])]) (.eu [(true,(fE (H7 x).enc n).map .d),(false,[.d (.b (Bd x))])]):=fun e=>by
  rw[e];exact ajF _ (ajz e) n false
 refine lF (n) (rs:=[.cell 2 34,.tmp 3]) zmx func6 ntmps6 rfl rfl rfl rfl rfl ?_;refine W1 ?_;refine C1 (wU x am6 3 gA gA gA) ?_;refine S0 (fun hb h=>?_) fun hb h=>?_
 ·exact gH (aO fun e=>h ⟨e.1.1,e.1.2.1,e.1.2.2.1⟩)
 have hf:=h;have h3:3<=x.aj.length:=hf.2.1;refine W3 ?_;have g2:x.aj[2]=gX x.aj 2:=(jR gA).symm;have a1:x.aj[1].aI=dU x.aj 1:=(j4 gA).symm;simp only[g2];refine S0 (fun hb h=>?_) fun hb h=>?_
 ·exact gH (aO fun e=>h e.1.2.2.2.1)
 have hz2:=h;refine W3 ?_;have hvs:=qN hf.1;obtain⟨F,hF⟩:∃F,F=decP x:=⟨_,rfl⟩
 have hnm:(gX x.aj 2).aj.length<=1073741824:=by
  have:=yY x.aj 2;have:=eZ (gX x.aj 2);have:(gX x.aj 2).sz<=dx x.aj:=yY x.aj 2;omega
 have hc:=Cc (gX x.aj 2).aj hnm n;rw[<-g2] at hc;refine bn hc ?_;refine W1 ?_;refine W3 ?_;refine⟨⟨gA,gA,gK⟩,?_⟩;rw[pJ _ _ _ (ax _),<-hl];refine W1 ?_;refine oG (n+1) 3 2 5 _ rfl rfl ?_;refine oG (E8 F n) 3 3 3 _ rfl rfl ?_;refine oG (E9 F n) 3 4 12 _ rfl rfl ?_;refine oG (H9 F n) 3 5 16 _ rfl rfl ?_;obtain⟨T1,hT1⟩:∃T:Nat->List (List D),T=fun i=>eO ((((l.take i).filter (isK kE)).map um).map bI.enc) (n+1+1):=⟨_,rfl⟩;obtain⟨T2,Yr⟩:∃T:Nat->List (List D),T=fun i=>eO ((((l.take i).filter (isK og)).map qW).map aU.enc) (E8 F n+1):=⟨_,rfl⟩;obtain⟨T3,G6⟩:∃T:Nat->List (List D),T=fun i=>eO ((((l.take i).filter (isK kX)).map qx).map aQ.enc) (E9 F n+1):=⟨_,rfl⟩;obtain⟨T4,hT4⟩:∃T:Nat->List (List D),T=fun i=>eO ((((l.take i).filter (isK yO)).map vC).map aV.enc) (H9 F n+1):=⟨_,rfl⟩
 have z1:T1 0=[]:=by rw[hT1];rfl
 have z2:T2 0=[]:=by rw[Yr];rfl
 have z3:T3 0=[]:=by rw[G6];rfl
 have z4:T4 0=[]:=by rw[hT4];rfl
 have t1:∀i,(T1 i).length<=i:=fun i=>by rw[hT1];exact Lb _ _ _ _ _ _
 have t2:∀i,(T2 i).length<=i:=fun i=>by rw[Yr];exact Lb _ _ _ _ _ _
 have t3:∀i,(T3 i).length<=i:=fun i=>by rw[G6];exact Lb _ _ _ _ _ _
 have t4:∀i,(T4 i).length<=i:=fun i=>by rw[hT4];exact Lb _ _ _ _ _ _
 have atN:∀i (hi:i<l.length) (mo:List Ab.Obj),bS prog 20 [.c (.ptr (0,3) 0),l[i].v] (Jm n [.d (.s x.aI),.d (.sl (x.aj.map ah.enc))] za (.s x.aj[1].aI) (.ol n ((fD x.aj[2].aj).map encS)) (n+1) (E8 F n) (E9 F n) (H9 F n) (T1 i) (T2 i) (T3 i) (T4 i) mo::S) (fun r S'=>r=.c (.d (.b (jS l[i])))/\S'=Jm n [.d (.s x.aI),.d (.sl (x.aj.map ah.enc))] za (.s x.aj[1].aI) (.ol n ((fD x.aj[2].aj).map encS)) (n+1) (E8 F n) (E9 F n) (H9 F n) (T1 (i+1)) (T2 (i+1)) (T3 (i+1)) (T4 (i+1)) mo::S):=fun i hi mo=>by
  have e1:T1 (i+1)=T1 i++pY (isK kE l[i]) (um l[i]).enc ((n+1+1)+mH ((((l.take i).filter (isK kE)).map um).map bI.enc)):=by rw[hT1];exact IW kE um bI.enc hi (n+1+1)
  have e2:T2 (i+1)=T2 i++pY (isK og l[i]) (qW l[i]).enc ((E8 F n+1)+mH ((((l.take i).filter (isK og)).map qW).map aU.enc)):=by rw[Yr];exact IW og qW aU.enc hi (E8 F n+1)
  have e3:T3 (i+1)=T3 i++pY (isK kX l[i]) (qx l[i]).enc ((E9 F n+1)+mH ((((l.take i).filter (isK kX)).map qx).map aQ.enc)):=by rw[G6];exact IW kX qx aQ.enc hi (E9 F n+1)
  have e4:T4 (i+1)=T4 i++pY (isK yO l[i]) (vC l[i]).enc ((H9 F n+1)+mH ((((l.take i).filter (isK yO)).map vC).map aV.enc)):=by rw[hT4];exact IW yO vC aV.enc hi (H9 F n+1)
  rw[e1,e2,e3,e4];exact aco l[i] (hlm _ (ac hi)) n _ _ _ _ _ _ _ _ _ _ _ _ _ _ _ _ mo S (co (t1 i) gA) (co (t2 i) gA) (co (t3 i) gA) (co (t4 i) gA)
 have w1:T1 l.length=eO (F.aJ.map bI.enc) (n+1+1):=by rw[hT1,hF];simp only;rw[ch,hl];rfl
 have w2:T2 l.length=eO (F.ay.map aU.enc) (E8 F n+1):=by rw[Yr,hF];simp only;rw[ch,hl];rfl
 have w3:T3 l.length=eO (F.aH.map aQ.enc) (E9 F n+1):=by rw[G6,hF];simp only;rw[ch,hl];rfl
 have w4:T4 l.length=eO (F.aM.map aV.enc) (H9 F n+1):=by rw[hT4,hF];simp only;rw[ch,hl];rfl
 clear hT1 Yr G6 hT4 hc
 have hall:allA x.aj[2].aj=(gX x.aj 2).aj.all (fun y=>decide (y.aI≠[])):=by rw[g2];rfl
 obtain⟨B,hB⟩:∃B,B=allA x.aj[2].aj:=⟨_,rfl⟩;rw[<-hB]
 have av4:F.fName=x.aj[1].aI:=by rw[hF];exact a1.symm
 have av5:F.eY=fD x.aj[2].aj:=by rw[hF,g2];rfl
 cases B with
 |false=>
  have hno:Bd x=false:=aO fun e=>by have:=e.1.2.2.2.2;rw[<-hall,<-hB] at this;cases this
  refine aZ (ι:=Nat) zmx rfl [2,5,6,39,40,41] (fun i=>[.c (.ptr (0,2) 0),.c (.d (.b false)),.c (.ptr (0,3) 0),.c (.d (.sl (l.map ah.enc))),.c (.d (.i .i64 l.length)),.c (.d (.i .i64 0))])
   (fun i=>Jm n [.d (.s x.aI),.d (.sl (x.aj.map ah.enc))] za (.s x.aj[1].aI) (.ol n ((fD x.aj[2].aj).map encS)) (n+1) (E8 F n) (E9 F n) (H9 F n) [] [] [] [] []::S)
   (fun i=>i=0) (fun i=>i) 0 rfl rfl rfl ?_
  rintro i p1;simp -implicitDefEqProofs (disch:=omega) only[go_sem,Jm];refine S0 (fun hb h=>?_) fun hb h=>?_
  ·refine W3 ?_;exact⟨gE,gH hno⟩
  ·exact⟨gE,gH hno⟩
 |true=>
  have hhead:XG x:=⟨hf.1,h3,hf.2.2,hz2,hall.symm.trans hB.symm⟩
  refine aZ (ι:=Nat) zmx rfl [2,5,6,39,40,41] (fun i=>[.c (.ptr (0,2) 0),.c (.d (.b true)),.c (.ptr (0,3) 0),.c (.d (.sl (l.map ah.enc))),.c (.d (.i .i64 l.length)),.c (.d (.i .i64 i))])
   (fun i=>Jm n [.d (.s x.aI),.d (.sl (x.aj.map ah.enc))] za (.s x.aj[1].aI) (.ol n ((fD x.aj[2].aj).map encS)) (n+1) (E8 F n) (E9 F n) (H9 F n) (T1 i) (T2 i) (T3 i) (T4 i) []::S)
   (fun i=>i<=l.length/\∀j,∀hj:j<l.length,j<i->jS l[j]=true) (fun i=>l.length-i) 0 rfl (by rw[z1,z2,z3,z4];rfl) ⟨an _,fun j _ h=>gA⟩ ?_
  rintro i ⟨p1,p2⟩;have t1:=t1 i;have t2:=t2 i;have t3:=t3 i;have t4:=t4 i;simp -implicitDefEqProofs (disch:=omega) only[go_sem,Jm];refine S0 (fun hb h=>?_) fun hb h=>?_
  ·have hi:i<l.length:=gA
   refine W3 ?_;refine bD rfl (atN i hi _) ?_;simp -implicitDefEqProofs (disch:=omega) only[go_sem,Jm];refine S0 (fun hb h=>?_) fun hb h=>?_
   ·exact⟨gE,gH (aO fun e=>by have:=e.2.1 l[i] (by rw[<-hl];exact ac hi);rw[this] at h;cases h)⟩
   ·refine bR 8 gE (i+1) gA rfl rfl rfl rfl ⟨gA,fun j hj hji=> ?_⟩;by_cases e:j=i
    ·subst e;exact h
    ·exact p2 j hj gA
  ·have hi:i=l.length:=gA
   subst hi;rw[w1,w2,w3,w4,<-av4,<-av5]
   have hits:∀y∈x.aj.drop 3,jS y=true:=fun y hy=>by
    rw[<-hl] at hy;obtain⟨j,hj,rfl⟩:=List.mem_iff_getElem.1 hy;exact p2 j hj hj
   have hcl:Less (.agg [.d (.s F.fName),.d (.ol n (F.eY.map encS)),.d (.sl (eO (F.aJ.map bI.enc) (n+1+1))),.d (.sl (eO (F.ay.map aU.enc) (E8 F n+1))),.d (.sl (eO (F.aH.map aQ.enc) (E9 F n+1))),.d (.sl (eO (F.aM.map aV.enc) (H9 F n+1)))]) F.v:=
    (fP.cons (.refl _) (.cons (JW _ _) (.cons (xK (qE _ _)) (.cons (xK (qE _ _)) (.cons (xK (qE _ _)) (.cons (xK (qE _ _)) .nil)))))).less
   refine lQ (uT F (by rw[hF];exact adt gA)) (.cons hcl .nil) ?_;refine W1 ?_
   with_reducible refine qJ (fun hb=> ?_) (fun hb=> ?_)<;>have h:=hb<;>(try simp only[wf_preprocess] at h)<;>simp -implicitDefEqProofs (disch:=omega) only[go_sem,hb,false_and,if_false]<;>refine W3 ?_
   ·exact⟨gE,gH (aO fun e=>by rw[<-hF] at e;rw[e.2.2] at h;cases h)⟩
   ·have hy:Bd x=true:=bK ⟨hhead,hits,by rw[<-hF];exact h⟩;rw[OC hy,hy,<-hF];have hq:=Qz F n;simp only[aT.aC] at hq;rw[hq];exact⟨gE,gV _⟩
theorem LD(x:ah)(n:Nat)(hsz:x.sz<=1048576):aD prog 6 [x.v] (.eu [(true,(fE (H7 x).enc n).map .d),(false,[.d (.b (Bd x))])]):=aaM x n hsz
noncomputable def Cg(s:List UInt8):Bool:=lu s&&Bd (kg s)
noncomputable def Jo(s:List UInt8):aT:=if lu s=true then H7 (kg s) else La
abbrev aT.cl(p:aT)(n:Nat):List C:=[.d (.s p.fName),.d (.ol n (p.eY.map encS)),.d (.ol (n+1) (eO (p.aJ.map bI.enc) (n+1+1))),.d (.ol (E8 p n) (eO (p.ay.map aU.enc) (E8 p n+1))),.d (.ol (E9 p n) (eO (p.aH.map aQ.enc) (E9 p n+1))),.d (.ol (H9 p n) (eO (p.aM.map aV.enc) (H9 p n+1)))]
theorem QA(p:aT)(n:Nat):(fE p.enc n).map C.d=p.cl n:=by rw[Qz];rfl
theorem TM(s:List UInt8)(n:Nat)(hs:s.length<=1048576):aD prog 9 [.c (.d (.s s))] (.eu [(true,(fE (Jo s).enc n).map .d),(false,[.d (.b (Cg s))])]):=aD.of_le fun S=>by
 rw[QA];have hz:=am5 s;have c1:=Xl s gA;have c2:=LD (kg s) n hz;rw[QA] at c2
 have gH:lu s=false->Less (.eu [(true,za),(false,[.d (.b false)])]) (.eu [(true,(Jo s).cl n),(false,[.d (.b (Cg s))])]):=fun e=>by
  have e1:Jo s=La:=if_neg (by rw[e];decide)
  have e2:Cg s=false:=by unfold Cg;rw[e];rfl
  rw[e2,<-QA];exact ajF _ e1 n false
 have anZ:lu s=true->Jo s=H7 (kg s)/\Cg s=Bd (kg s):=fun e=>⟨if_pos e,by unfold Cg;rw[e];rfl⟩;obtain⟨X,hX⟩:∃X,X=kg s:=⟨_,rfl⟩;rw[<-hX] at c1 c2 anZ;refine zcx [.cell 2 34,.tmp 3] func9 ntmps9 ?_;refine W1 ?_;refine bn c1 ?_;simp -implicitDefEqProofs (disch:=omega) only[go_sem,ah.aC,af,aw];refine S0 (fun hb h=>?_) fun hb h=>?_
 ·exact gH h
 ·obtain⟨q1,q2⟩:=anZ h;rw[q1,q2];refine bn c2 ?_;refine W1 ?_;exact gV _
def agt(k:List UInt8):Prop:=∀b,k.head? =some b->bV b=false
theorem ane:agt []:=fun b h=>by cases h
theorem WH{b:UInt8}{k:List UInt8}(h:bV b=false):agt (b::k):=fun c hc=>by
 obtain rfl:b=c:=by simpa using hc
 exact h
theorem aaN:∀(u k:List UInt8),u.all bV=true->agt k->(u++k).takeWhile bV=u/\(u++k).dropWhile bV=k
 |[],k,_,hk=>by
  cases k with
  |nil=>exact⟨rfl,rfl⟩
  |cons b k=>
   have:=hk b rfl;simp[List.takeWhile,List.dropWhile,this]
 |b::u,k,hu,hk=>by
  rw[dv,ai] at hu;obtain⟨h1,h2⟩:=aaN u k hu.2 hk;simp[List.takeWhile,List.dropWhile,hu.1,h1,h2]
mutual
theorem QB:∀(x:ah),iG x=true->∀k,agt k->lex (iO x++k)=rD x++lex k
 | .mk [] l,hf,k,hk=>by
   rw[iG,if_pos rfl] at hf;rw[iO,if_pos rfl,rD,show [40]++iN [32] (nX l)++[41]++k=40::(iN [32] (nX l)++(41::k)) by simp];rw[lJ (tX gE),if_neg gE,if_pos rfl,NI l hf k]
   simp
 | .mk (b::u) l,hf,k,hk=>by
   rw[iG,if_neg gL,ai] at hf;have ha:=hf.1;unfold validAtom at ha;rw[ai,dv,ai] at ha;rw[iO,if_neg gL,rD,ba,lJ (tX (Nf ha.1.1).1),if_pos ha.1.1];obtain⟨h1,h2⟩:=aaN u k ha.1.2 hk;rw[h1,h2];rfl
theorem NI:∀(l:List ah),jo l=true->∀k,lex (iN [32] (nX l)++(41::k))=j6 l++ .cl::lex k
 |[],_,k=>by
  show lex (41::k)=.cl::lex k;rw[lJ (tX gE),if_neg gE,if_neg gE,if_pos rfl]
 |[x],hf,k=>by
  rw[jo,ai] at hf;have h1:=QB x hf.1 (41::k) (WH gE);have h2:=NI [] rfl k;rw[show iN [32] (nX [x])=iO x by simp[nX,iN],h1];rw[show iN [32] (nX [])++(41::k)=41::k from rfl] at h2;rw[h2];simp[j6]
 |x::y::l,hf,k=>by
  rw[jo,ai] at hf;have h1:=QB x hf.1 (32::(iN [32] (nX (y::l))++(41::k))) (WH gE);have h2:=NI (y::l) hf.2 k;rw[show iN [32] (nX (x::y::l))++(41::k)=iO x++(32::(iN [32] (nX (y::l))++(41::k))) by simp[nX,iN],h1]
  rw[show lex (32::(iN [32] (nX (y::l))++(41::k)))=lex (iN [32] (nX (y::l))++(41::k)) by
   rw[<-yT (32::_),FK gE,yT],h2]
  simp[j6]
end
theorem aaO{x:ah}(h:dQ x=true):Denotes (iO x) x:=by
 have hf:=(G7 h).1;have:=QB x hf [] ane;rw[bm,lex_nil (l:=[]) rfl,bm] at this;exact⟨h,this⟩
theorem agu{x:ah}(h:dQ x=true):lu (iO x)=true/\kg (iO x)=x:=AZ (aaO h)
theorem acp:lu []=false:=by
 refine aO fun⟨x,hx⟩=> ?_;have h2:=hx.2;rw[lex_nil (l:=[]) rfl] at h2;obtain⟨a,l⟩:=x;cases a<;>simp[rD] at h2
theorem agv(b:Bool)(x:ah):(b=true/\dQ x=true/\sD b x=x)\/sD b x=cZ:=by
 cases b with
 |false=>exact .inr rfl
 |true=>
  cases h:dQ x with
  |true=>exact .inl ⟨rfl,rfl,if_pos h⟩
  |false=>exact .inr (if_neg (by rw[h];decide))
theorem Er(l:List ah):(bL l).aj.length=l.length:=rfl
theorem Lc{α β:Type}{f:α->β}{q:β->Bool}(h:∀x,q (f x)=true)(l:List α):(l.map f).filter q=l.map f:=List.filter_eq_self.2 fun y hy=>by
 obtain⟨x,_,rfl⟩:=cr.1 hy;exact h x
theorem uD{α β:Type}{f:α->β}{q:β->Bool}(h:∀x,q (f x)=false)(l:List α):(l.map f).filter q=[]:=List.filter_eq_nil_iff.2 fun y hy=>by
 obtain⟨x,_,rfl⟩:=cr.1 hy;rw[h x];decide
theorem Ld{α β:Type}{f:α->β}{g:β->α}{l:List α}(h:∀x∈l,g (f x)=x):(l.map f).map g=l:=by
 rw[ew]
 conv=>rhs;rw[<-List.map_id l]
 exact cQ h
theorem ar3{d:aU}(h:fK d=true)(hx:dQ (uQ d)=true):okD (uQ d)=true/\qW (uQ d)=d:=by
 have ho:okD (uQ d)=true:=bK ⟨hx,(aaf d).1,rfl,by rw[FX true h];exact h,by rw[FX true h]⟩;exact⟨ho,by unfold qW;rw[if_pos ho,FX true h]⟩
theorem ap2{d:bI}(h:dW d=true)(hx:dQ (kF d)=true):wW (kF d)=true/\um (kF d)=d:=by
 have ho:wW (kF d)=true:=bK ⟨hx,⟨by rw[kF,Er];simp[jq],rfl⟩,by rw[Dc true h];exact h,by rw[Dc true h]⟩;exact⟨ho,by unfold um;rw[if_pos ho,Dc true h]⟩
theorem ar4{d:aQ}(h:fB d=true)(hx:dQ (qw d)=true):y7 (qw d)=true/\qx (qw d)=d:=by
 have ho:y7 (qw d)=true:=bK ⟨hx,⟨by rw[qw,Er];simp[ng],rfl⟩,by rw[F5 true h];exact h,by rw[F5 true h]⟩;exact⟨ho,by unfold qx;rw[if_pos ho,F5 true h]⟩
theorem ar5{d:aV}(h:j3 d=true)(hx:dQ (xu d)=true):okF (xu d)=true/\vC (xu d)=d:=by
 have ho:okF (xu d)=true:=bK ⟨hx,⟨by rw[xu,Er];simp,rfl⟩,by rw[F3 true h];exact h,by rw[F3 true h]⟩;exact⟨ho,by unfold vC;rw[if_pos ho,F3 true h]⟩
theorem aaP(t:bI):isK kE (kF t)=true:=decide_eq_true rfl
theorem U2(t:aU):isK og (uQ t)=true:=decide_eq_true rfl
theorem k_in(t:aQ):isK kX (qw t)=true:=decide_eq_true rfl
theorem NJ(t:aV):isK yO (xu t)=true:=decide_eq_true rfl
theorem ar6{p:aT}(h:validPkg p=true)(hp:(fT p).all dQ=true)(hx:dQ (tV p)=true):Bd (tV p)=true/\H7 (tV p)=p:=by
 have h0:=h;unfold validPkg uw vk at h0;simp only[ai] at h0;obtain⟨⟨n1,n2,n3,n4,n5⟩,n6,i1,i2,i3,i4⟩:=h0;have hd:(tV p).aj.drop 3=fT p:=rfl;have hall:=az.1 hp;have v1:∀t∈p.aJ,wW (kF t)=true/\um (kF t)=t:=fun t ht=>ap2 (az.1 i1 t ht) (hall _ (by unfold fT;exact ga _ (be ht)));have v2:∀t∈p.ay,okD (uQ t)=true/\qW (uQ t)=t:=fun t ht=>ar3 (az.1 i2 t ht) (hall _ (by unfold fT;exact ep _ (ga _ (be ht))));have v3:∀t∈p.aH,y7 (qw t)=true/\qx (qw t)=t:=fun t ht=>ar4 (az.1 i3 t ht) (hall _ (by unfold fT;exact ep _ (ep _ (ga _ (be ht)))));have v4:∀t∈p.aM,okF (xu t)=true/\vC (xu t)=t:=fun t ht=>ar5 (az.1 i4 t ht) (hall _ (by unfold fT;exact ep _ (ep _ (ep _ (be ht)))));have hne:=Ba n3
 have hdec:decP (tV p)=p:=by
  have e1:Hy (fT p)=p.aJ:=by
   unfold Hy fT;rw[dg,dg,dg,Lc aaP,uD (fun d=>gu (U2 d) gE),uD (fun d=>gu (k_in d) gE),uD (fun d=>gu (NJ d) gE)];simp only[bm];exact Ld fun t ht=>(v1 t ht).2
  have e2:Hz (fT p)=p.ay:=by
   unfold Hz fT;rw[dg,dg,dg,Lc U2,uD (fun d=>gu (aaP d) gE),uD (fun d=>gu (k_in d) gE),uD (fun d=>gu (NJ d) gE)];simp only[bm,bc];exact Ld fun t ht=>(v2 t ht).2
  have e3:HY (fT p)=p.aH:=by
   unfold HY fT;rw[dg,dg,dg,Lc k_in,uD (fun d=>gu (aaP d) gE),uD (fun d=>gu (U2 d) gE),uD (fun d=>gu (NJ d) gE)];simp only[bm,bc];exact Ld fun t ht=>(v3 t ht).2
  have e4:H6 (fT p)=p.aM:=by
   unfold H6 fT;rw[dg,dg,dg,Lc NJ,uD (fun d=>gu (aaP d) gE),uD (fun d=>gu (U2 d) gE),uD (fun d=>gu (k_in d) gE)];simp only[bm,bc];exact Ld fun t ht=>(v4 t ht).2
  have e5:nY (tV p).aj 2=p.eY:=oL hne;unfold decP;rw[hd,e1,e2,e3,e4,e5];rfl
 have hok:Bd (tV p)=true:=by
  refine bK ⟨⟨hx,by rw[tV,Er];simp[eU],rfl,rfl,?_⟩,fun y hy=> ?_,by rw[hdec];exact h⟩
  ·show(aR p.eY).all (fun y=>decide (y.aI≠[]))=true;refine az.2 fun y hy=> ?_;obtain⟨v,hv,rfl⟩:=cr.1 hy;exact decide_eq_true (hne v hv)
  ·rw[hd] at hy;unfold fT at hy;unfold jS;rcases dm.1 hy with hy|hy
   ·obtain⟨t,ht,rfl⟩:=cr.1 hy;rw[if_pos (aaP t)];exact(v1 t ht).1
   rcases dm.1 hy with hy|hy
   ·obtain⟨t,ht,rfl⟩:=cr.1 hy;rw[if_neg (by rw[gu (U2 t) gE];decide),if_pos (U2 t)];exact(v2 t ht).1
   rcases dm.1 hy with hy|hy
   ·obtain⟨t,ht,rfl⟩:=cr.1 hy;rw[if_neg (by rw[gu (k_in t) gE];decide),if_neg (by rw[gu (k_in t) gE];decide),if_pos (k_in t)];exact(v3 t ht).1
   ·obtain⟨t,ht,rfl⟩:=cr.1 hy;rw[if_neg (by rw[gu (NJ t) gE];decide),if_neg (by rw[gu (NJ t) gE];decide),if_neg (by rw[gu (NJ t) gE];decide),if_pos (NJ t)];exact(v4 t ht).1
 exact⟨hok,(OC hok).trans hdec⟩
theorem anf(p:aT):¬((tV p).aI=[]/\(tV p).aj.length=0):=fun h=>by
 have:=h.2;rw[tV,Er] at this;simp[eU] at this
theorem rtP(p:aT):Cg (BZ (vo p))=dec (BZ (vo p)≠[])/\(Cg (BZ (vo p))=true->Jo (BZ (vo p))=p/\validPkg p=true):=by
 have hno:∀s:List UInt8,s=[]->Cg s=dec (s≠[])/\(Cg s=true->Jo s=p/\validPkg p=true):=fun s hs=>by
  have:Cg s=false:=by unfold Cg;rw[hs,acp];rfl
  rw[this,hs];exact⟨(aO fun h=>h rfl).symm,fun h=>by cases h⟩
 rcases agv (validPkg p&&(fT p).all dQ) (tV p) with⟨h1,h2,h3⟩|h
 ·have e:vo p=tV p:=h3;rw[ai] at h1;obtain⟨q1,q2⟩:=ar6 h1.1 h1.2 h2;obtain⟨p1,p2⟩:=agu h2
  have hf:BZ (tV p)=iO (tV p):=by
   unfold BZ;rw[if_neg (anf p),K5,if_pos h2]
  have hne:iO (tV p)≠[]:=by
   rw[ZW];split
   ·simp
   ·assumption
  rw[e,hf];refine⟨?_,fun _=>⟨?_,h1.1⟩⟩
  ·rw[bK hne];unfold Cg;rw[p1,p2,q1];rfl
  ·unfold Jo;rw[if_pos p1,p2,q2]
 ·have e:vo p=cZ:=h;rw[e];exact hno _ (if_pos ⟨rfl,rfl⟩)
end Go.Ab
namespace Go.Proofs.YtnmjbebcebbmfaaGreatDoor.fnPkgOrder
open Go Go.Ab
noncomputable def QC{bs:List Int}(p:aT)(c:Cu bs):ah×Cu bs:=if(bZ 4 c).1=true then(kg (Nc (bZ 4 c).2).1,(Nc (bZ 4 c).2).2) else(vo p,(bZ 4 c).2)
noncomputable def sxX(bs:List Int):ah:=(Iw (QC (y9 (yC bs)).1 (y9 (yC bs)).2).1 (QC (y9 (yC bs)).1 (y9 (yC bs)).2).2).1
theorem ang{bs:List Int}(c:Cu bs):(Nc c).1.length<=2000:=amu _ _ (ZO _ (Ms _ (by decide))) _ _ _
theorem acr(s:List UInt8):(kg s).sz<=11700:=by
 cases h:lu s with
 |true=>exact qN (Pp h)
 |false=>rw[TJ h,Hf];omega
theorem adx{bs:List Int}(p:aT)(c:Cu bs):(QC p c).1.sz<=11700:=by
 unfold QC;split
 ·exact acr _
 ·exact FV _ _
theorem ar7(bs:List Int):(sxX bs).sz<=100000:=by
 have h1:=al7 (QC (y9 (yC bs)).1 (y9 (yC bs)).2).1 (QC (y9 (yC bs)).1 (y9 (yC bs)).2).2;have h2:=adx (y9 (yC bs)).1 (y9 (yC bs)).2;unfold sxX;omega
theorem anh{bs:List Int}(hB:Bytes bs):aD prog 5 [.c (.d (.sl (bs.map Gx)))] (sxX bs).v:=fun S=>by
 have hs:=apU (yC bs);obtain⟨R,hR⟩:∃R,R=sxX bs:=⟨_,rfl⟩;rw[<-hR];unfold sxX at hR;obtain⟨p,hp⟩:∃p,p=(y9 (yC bs)).1:=⟨_,rfl⟩;obtain⟨c1,hc1⟩:∃c1,c1=(y9 (yC bs)).2:=⟨_,rfl⟩;have q1:=fun(l j:Nat) (S:Store) (hk:bC S (l,j)=some (.box (cur (yC bs))))=>ajx hB (yC bs) l j S hk;rw[<-hp] at hs;rw[<-hp,<-hc1] at hR q1;have q2:=afQ p (by omega);have q3:=fun(l j:Nat) (S:Store) (hk:bC S (l,j)=some (.box (cur c1)))=>iW hB c1 l j S 4 hk (by omega) (by omega);have hpre:=adx p c1;unfold QC at hR hpre;obtain⟨o,ho⟩:∃o,o=(bZ 4 c1).1:=⟨_,rfl⟩;obtain⟨c2,hc2⟩:∃c2,c2=(bZ 4 c1).2:=⟨_,rfl⟩;rw[<-ho,<-hc2] at hR hpre q3;have hal:=ang c2;have q4:=fun(l j:Nat) (S:Store) (hk:bC S (l,j)=some (.box (cur c2)))=>aiP hB c2 l j S hk;obtain⟨s,hsd⟩:∃s,s=(Nc c2).1:=⟨_,rfl⟩;obtain⟨c3,hc3⟩:∃c3,c3=(Nc c2).2:=⟨_,rfl⟩;rw[<-hsd,<-hc3] at hR hpre q4;rw[<-hsd] at hal;have q5:=Xj s (by omega);simp only[ah.aC,List.map_cons,List.map_nil] at q5;refine zcx [.cell 2 26] func5 ntmps5 ?_;refine W1 ?_;refine bD rfl (alx hB _ _) ?_;refine W1 ?_;refine bD rfl (q1 0 1 _ rfl) ?_;refine W1 ?_;refine bn q2 ?_;refine W1 ?_;refine bD rfl (q3 0 1 _ rfl) ?_
 cases o with
 |true=>
  rw[if_pos rfl] at hR hpre;simp only at hR hpre;have q6:=fun(l j:Nat) (S:Store) (hk:bC S (l,j)=some (.box (cur c3)))=>Nb hB c3 l j S (kg s) hk (by omega);rw[<-hR] at q6;refine W1 ?_;refine bD rfl (q4 0 1 _ rfl) ?_;refine W1 ?_;refine bn q5 ?_;refine W1 ?_;refine bD rfl (q6 0 1 _ rfl) ?_;exact Z1
  first|done|rfl
 |false=>
  rw[if_neg (by decide)] at hR hpre;simp only at hR hpre;have q6:=fun(l j:Nat) (S:Store) (hk:bC S (l,j)=some (.box (cur c2)))=>Nb hB c2 l j S (vo p) hk (by omega);rw[<-hR] at q6;refine W1 ?_;refine bD rfl (q6 0 1 _ rfl) ?_;exact Z1
  first|done|rfl
theorem law(x0:List Int)(b0:∀x∈x0,0<=x/\x<=255):bS prog 3 [.c (.d (.sl (x0.map Gx)))] [] (fun r _=>r=.c (.d (.b true))):=by
 refine zcx [.tmp 2] func3 ntmps3 ?_;refine W1 ?_;refine C1 (aq0 x0) ?_;refine S1 fun hb h=>?_;have hBs:Bytes x0:=⟨by omega,b0⟩;have p1:=anh hBs;have hys:=ar7 x0;obtain⟨y,hy⟩:∃y,y=sxX x0:=⟨_,rfl⟩;rw[<-hy] at p1 hys;clear hy
 have d1:aD prog 6 [y.v] (.eu [(true,(H7 y).enc.map .d),(false,[.d (.b (Bd y))])]):=
  aD.less (LD y 0 (by omega)) (VQ fun w σ S β vs h=>VD h)
 have d2:=acn y (by omega);have hps:=ar2 y
 have hval:Bd y=true->validPkg (H7 y)=true:=fun h=>by
  rw[OC h];exact(gD h).2.2
 obtain⟨p,hp⟩:∃p,p=H7 y:=⟨_,rfl⟩;obtain⟨B,hB⟩:∃B,B=Bd y:=⟨_,rfl⟩;rw[<-hp,<-hB] at d1 d2 hval;rw[<-hp] at hps;clear hp hB;have e1:=UZ p (by omega);have v1:=uT p (by omega);obtain⟨r1,r2⟩:=rtP p;have ht:=amB (vo p);obtain⟨T,hT⟩:∃T,T=BZ (vo p):=⟨_,rfl⟩;rw[<-hT] at e1 r1 r2 ht;clear hT
 have d3:aD prog 9 [.c (.d (.s T))] (.eu [(true,(Jo T).enc.map .d),(false,[.d (.b (Cg T))])]):=
  aD.less (TM T 0 (by omega)) (VQ fun w σ S β vs h=>VD h)
 have r3:T≠[]->Jo T=p:=fun h=>(r2 (by rw[r1];exact bK h)).1;obtain⟨u,hu⟩:∃u,u=Jo T:=⟨_,rfl⟩;rw[<-hu] at d3 r3;rw[r1] at d3;clear hu r1 r2;simp only[aT.aC,aT.cv,List.map_cons,List.map_nil] at d1 d2 d3;refine bn p1 ?_;refine W1 ?_;refine bn d1 ?_;refine W1 ?_;refine bn d2 ?_
 cases B with
 |false=>
  simp -implicitDefEqProofs (disch:=omega) only[go_sem,bK rfl,Bool.not_true,Bool.not_false]
  first|done|rfl
 |true=>
  have hv:=hval rfl;rw[hv] at v1;simp -implicitDefEqProofs (disch:=omega) only[go_sem,bK rfl,Bool.not_true,Bool.not_false];refine bn e1 ?_;refine W1 ?_;refine bn d3 ?_;by_cases hT0:T=[]
  ·subst hT0;have k1:dec (([]:List UInt8)≠[])=false:=aO fun h=>h rfl;simp -implicitDefEqProofs (disch:=omega) only[go_sem,k1,bK rfl,Bool.not_true,Bool.not_false]
   first|done|rfl
  ·have k1:dec (T≠[])=true:=bK hT0;have k2:decide (T=[])=false:=decide_eq_false hT0;have hup:=r3 hT0;subst hup;simp -implicitDefEqProofs (disch:=omega) only[go_sem,k1,k2,bK rfl,Bool.not_true,Bool.not_false];refine bn e1 ?_;simp -implicitDefEqProofs (disch:=omega) only[go_sem,k1,k2,bK rfl,Bool.not_true,Bool.not_false];refine bn v1 ?_;simp -implicitDefEqProofs (disch:=omega) only[go_sem,k1,k2,bK rfl,Bool.not_true,Bool.not_false]
   first|done|rfl
end Go.Proofs.YtnmjbebcebbmfaaGreatDoor.fnPkgOrder
namespace Go.Ab
theorem Xm{H:Type}{enc:TypeId×Value->H}{P:Program}{w:World}{base:Nat}{sp:Nat->Bool}{held:Bool}{fuel n:Nat}{t e:TypeId}{k:IntKind}{cs:List Value}{ns:List Int}{p:List MemPlace}
 (ht:P.underlying t=some (.array n e))(he:P.underlying e=some (.int k))(ce:P.cellsOf e=1)(ct:P.cellsOf t=n)
 (h:DataW.trod enc P w base sp held fuel t cs=some (.agg (ns.map fun z=>.lit (.int k z)),p)):cs=ns.map (Value.int k ·):=by
 obtain⟨xs,m,_,ex,hlen,hl,hel⟩:=DataW.trod_array ht h;rw[ct] at hlen;have e3:=DataW.agg.inj (Prod.mk.inj ex).1
 have hns:ns.length=n:=by have:=congrArg List.length e3;simpa [hl] using this
 refine List.ext_getElem (by rw[hlen,ab,hns]) fun i h1 h2=> ?_;have k0:=hel i gA;rw[ce,Nat.mul_one] at k0
 have hd:(cs.drop i).take 1=[cs[i]]:=by
  rw[cb h1];rfl
 rw[hd,am gA] at k0;obtain⟨z,a,b,_⟩:=DataW.trod_int he k0
 have e4:(ns.map fun z=>(DataW.lit (Lit.int k z):DataW H))[i]'(by rw[ab];omega)=(xs.map (·.1))[i]'(by rw[ab];omega):=by simp only[e3]
 rw[bp,bp,b] at e4;simp only[DataW.lit.injEq,Lit.int.injEq,true_and] at e4;rw[bp,e4];simpa using a
theorem NK{P:Program}{w:World}{n:String}{g:Nat}{cs:Array Value}(hg:P.globalNamed n=some g)(h:w.var? P n=some cs):∃t fz,w.heap[g]? =some (.cells cs t fz):=by
 unfold World.var? at h;rw[hg] at h;simp only[dy] at h;split at h
 ·rename_i c t fz hh;cases h;exact⟨t,fz,hh⟩
 ·cases h
open Go.ChangeShapes Go.RowKit
theorem gES:prog.globalNamed "strconv.ErrSyntax" =some 1:=by kernel_rfl
theorem ap3:(prog.globals[1]?).map (·.type)=some 180:=by kernel_rfl
theorem gER:prog.globalNamed "strconv.ErrRange" =some 2:=by kernel_rfl
theorem ap4:(prog.globals[2]?).map (·.type)=some 180:=by kernel_rfl
theorem cellsE:prog.cellsOf 282=1:=by kernel_rfl
theorem cellsS:prog.cellsOf 9=1:=by kernel_rfl
theorem an0: "*" ++ "errors.errorString" = "*errors.errorString" :=by decide
theorem ar8(u:TypeId)(h:prog.typeName? 3 u=some "*errors.errorString"):u=280:=
 typeName_ptr_named (nm:= "errors.errorString") (by rw[an0];kernel_rfl) (by kernel_rfl) (by decide) u (by rw[an0];exact h)
theorem aaQ{W:World}{r:List (String×DataW Unit)}(hr:(r.all fun x=>x.2.handleName?.isNone)=true)
 (h0:laidMetH prog (("math/bits.deBruijn32tab",YtnmjbebcebbmfaaGreatDoor.Rows.laid_math_bits_deBruijn32tab)::("math/bits.deBruijn64tab",YtnmjbebcebbmfaaGreatDoor.Rows.laid_math_bits_deBruijn64tab)::("internal/strconv.uint64pow10",YtnmjbebcebbmfaaGreatDoor.Rows.laid_internal_strconv_uint64pow10)::("strconv.ErrRange",YtnmjbebcebbmfaaGreatDoor.Rows.laid_strconv_ErrRange)::("strconv.ErrSyntax",YtnmjbebcebbmfaaGreatDoor.Rows.laid_strconv_ErrSyntax)::r) W):mF W (lW W):=by
 rw[MakeChecks.laidMetH_plain _ _ _ (by
  rw[dv,dv,dv,dv,dv,hr];kernel_rfl)] at h0
 have hR:=h0.tail.tail.tail;have hS:=hR.tail;obtain⟨a1,s1,hv1,_,_,_⟩:=laid_sentinel hR gER ap4 underlying180 ar8 underlying280 underlying282 rfl rfl underlying9 cellsE cellsS;obtain⟨a2,s2,hv2,_,_,_⟩:=laid_sentinel hS gES ap3 underlying180 ar8 underlying280 underlying282 rfl rfl underlying9 cellsE cellsS;obtain⟨t1,DJ,Lh⟩:=NK gER hv1;obtain⟨t2,fz2,zx⟩:=NK gES hv2;obtain⟨ps,⟨_,_,_,_,_,_,_,_,_,_,⟨_,_,_,_,_,_,_,_,_,_,⟨g,t,cs,fuel,p,q,hg,ht,hv,hd,_,_⟩,_⟩,_⟩,_,_⟩:=h0
 have hn:prog.globalNamed "internal/strconv.uint64pow10" =some 3:=by kernel_rfl
 obtain rfl:=cL (hn.symm.trans hg);obtain rfl:=cL ((show(prog.globals[3]?).map (·.type)=some 274 by kernel_rfl).symm.trans ht)
 have hl:(YtnmjbebcebbmfaaGreatDoor.Rows.laid_internal_strconv_uint64pow10:DataW Unit)=.agg (((List.range 20).map fun i=>((10^i:Nat):Int)).map fun z=>.lit (.int .u64 z)):=by kernel_rfl
 rw[hl] at hd;have e:=Xm underlying274 underlying260 (by kernel_rfl) (by kernel_rfl) hd;obtain⟨t',fz,hh⟩:=NK hg hv;intro g' p' hm
 have fast:∀{b:Nat}{c:Array Value}{t:TypeId}{fz:Nat×Nat},W.heap[b]? =some (.cells c t fz)->c.size<=lW W b:=fun {b c t fz} hb=>by
  unfold lW;rw[hb];exact ax _
 rcases cT.1 hm with hm|hm
 ·cases hm;refine⟨cs,t',fz,hh,?_,fast hh⟩;show cs.toList=_;rw[e,ew];rfl
 rcases cT.1 hm with hm|hm
 ·cases hm;exact⟨_,t1,DJ,Lh,⟨_,_,rfl⟩,fast Lh⟩
 ·have hm':=List.eq_of_mem_singleton hm;cases hm';exact⟨_,t2,fz2,zx,⟨_,_,rfl⟩,fast zx⟩
theorem ajH{P:Program}{n:Nat}{t:TypeId}{ds:List D}(h:WT P n t ds):∃m,n=m+1:=by
 cases n with
 |zero=>exact h.elim
 |succ m=>exact⟨m,rfl⟩
theorem ar9{P:Program}{n:Nat}{t:TypeId}{k:IntKind}{ds:List D}(ht:P.underlying t=some (.int k))(h:WT P n t ds):∃x,ds=[.i k x]/\(Lit.int k x).wf=true:=by
 obtain⟨m,rfl⟩:=ajH h;simp only[WT,ht] at h;exact h
theorem ani{P:Program}{n:Nat}{t e:TypeId}{ds:List D}(ht:P.underlying t=some (.slice e))(h:WT P n t ds):∃es m,m<n/\ds=[.sl es]/\∀x∈es,WT P m e x:=by
 obtain⟨m,rfl⟩:=ajH h;simp only[WT,ht] at h;obtain⟨es,h1,_,h2⟩:=h;exact⟨es,m,gA,h1,fun x hx=>(h2 x hx).2⟩
theorem ady{P:Program}{W:TypeId->List D->Prop}(hW:∀t ds,W t ds->Gs ds):∀(fs:List Field)(ds:List D),WTF P W fs ds->Gs ds
 |[],ds,h=>by
  have h:ds=[]:=h;rw[h];exact Gt
 |f::fs,ds,h=>by
  obtain⟨a,b,rfl,_,h1,h2⟩:=h;exact abv.2 ⟨hW _ _ h1,ady hW fs b h2⟩
theorem aaR{P:Program}:∀(n:Nat)(t:TypeId)(ds:List D),WT P n t ds->Gs ds
 |0,t,ds,h=>h.elim
 |n+1,t,ds,h=>by
  simp only[WT] at h;split at h
  ·obtain⟨b,rfl⟩:=h;exact Ih.2 ⟨.b _,Gt⟩
  ·obtain⟨b,rfl,_⟩:=h;exact Ih.2 ⟨.i _ _,Gt⟩
  ·obtain⟨l,rfl,hl⟩:=h;exact Ih.2 ⟨.s _ hl,Gt⟩
  ·obtain⟨es,rfl,hl,hh⟩:=h;exact Ih.2 ⟨.sl _ hl fun e he d hd=>aaR n _ e (hh e he).2 d hd,Gt⟩
  ·exact ady (aaR n) _ _ h
  ·exact h.elim
end Go.Ab