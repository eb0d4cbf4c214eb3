/-
  SEVERAL TEXTS IN ONE (merged by program): contracts and models, each with its own heading.
-/
import Derived.Test.YtlaaknnkeidlbaaGreatDoorPartDmbT
import Derived.Test.YtlaaknnkeidlbaaGreatDoorPartDmbU
import Derived.Test.YtlaaknnkeidlbaaGreatDoorPartDmbW
import Derived.Test.YtlaaknnkeidlbaaGreatDoorPartDmbY
import Derived.Test.YtlaaknnkeidlbaaGreatDoorPartDmbZ
import Derived.Test.YtlaaknnkeidlbaaGreatDoorPartDmba
import Derived.Test.YtlaaknnkeidlbaaGreatDoorRows
import Derived.LaidMore
import Derived.Stop.LaidErr
set_option maxHeartbeats 8000000
open Go.Proofs Go.Proofs.Tryz
set_option linter.unusedSimpArgs false
set_option linter.unusedVariables false
set_option maxRecDepth 8000
set_option maxRecDepth 4000
set_option maxRecDepth 100000
namespace Go.Ab
theorem TU{bs:List Int}(hB:Bytes bs)(c c2:Cu bs)(k:Int)(l j:Nat)(S:Store)(hk:bE S (l,j)=some (.box (cur c)))(h2:bn 10 c=(k,c2))(hk3:k=2\/k=3):
 bX prog 121 [.c (.ptr (l,j) 0)] S (fun r S1=>r=(xR k c2).1.v/\S1=bG S (l,j) (.box (cur (xR k c2).2))):=by
 have g:∀x:Ab.Obj,bE (bG S (l,j) x) (l,j)=some x:=fun x=>dL _ _ _ _ hk;have q2:=fun fr:List Ab.Obj=>eU hB c (1+l) j (fr::S) 10 (by rw[aV];exact hk) (by omega) (by omega);simp only[h2,dW] at q2;obtain⟨q,hq⟩:∃q,q=xR k c2:=⟨_,rfl⟩;rw[<-hq];refine bX.of_le ?_;refine DF [58] (rs:=[.cell 2 88]) zmx func121 ntmps121 rfl rfl rfl rfl rfl ?_;refine W1 ?_;refine C1 (gK _) ?_;refine C1 (gK _) ?_;refine W3 ?_;refine C1 (yN [108,105,115,116] [qP [97]] rfl (by decide) (.inl rfl)) ?_;refine W3 ?_;refine aW rfl (q2 _) ?_;rcases hk3 with rfl|rfl
 ·simp only[xR,reduceIte,Int.reduceEq] at hq;refine W1 ?_;refine aW rfl (jq hB 2 c2 (1+l) j _ (by rw[aV];exact g _) (by omega)) ?_;refine W1 ?_;refine W3 ?_;refine⟨by cases l<;>rfl,?_⟩;refine W1 ?_;rw[hq];exact lend
 ·simp only[xR,reduceIte,Int.reduceEq] at hq;refine W1 ?_;refine cK [true] rfl (eO hB c2 (1+l) j _ UR (by rw[aV];exact g _) (by decide) (by decide)) ?_;refine W1 ?_;refine W3 ?_;refine⟨by cases l<;>rfl,?_⟩;refine W1 ?_;rw[hq];exact lend
theorem agk{bs:List Int}(hB:Bytes bs)(c c2:Cu bs)(k:Int)(l j:Nat)(S:Store)(hk:bE S (l,j)=some (.box (cur c)))(h2:bn 10 c=(k,c2))(hk2:k≠2)(hk3:k≠3):
 bX prog 121 [.c (.ptr (l,j) 0)] S (fun r S1=>r=(xR k c2).1.v/\S1=bG S (l,j) (.box (cur (xR k c2).2))):=by
 have g:∀x:Ab.Obj,bE (bG S (l,j) x) (l,j)=some x:=fun x=>dL _ _ _ _ hk;have q2:=fun fr:List Ab.Obj=>eU hB c (1+l) j (fr::S) 10 (by rw[aV];exact hk) (by omega) (by omega);simp only[h2,dW] at q2;obtain⟨q,hq⟩:∃q,q=xR k c2:=⟨_,rfl⟩;rw[<-hq];refine bX.of_le ?_;refine BU [58] (rs:=[.cell 2 88]) zmx func121 ntmps121 rfl rfl rfl rfl rfl ?_;refine W1 ?_;refine C1 (gK _) ?_;refine C1 (gK _) ?_;refine W3 ?_;refine C1 (yN [108,105,115,116] [qP [97]] rfl (by decide) (.inl rfl)) ?_;refine W3 ?_;refine aW rfl (q2 _) ?_;refine W1 ?_;refine S0 (fun hb h=>?_) fun hb h=>?_
 ·subst h;simp only[xR,reduceIte,Int.reduceEq] at hq;refine cK [true] rfl (eO hB c2 (1+l) j _ Jp (by rw[aV];exact g _) (by decide) (by decide)) ?_;refine W1 ?_;refine W3 ?_;refine⟨by cases l<;>rfl,?_⟩;refine W1 ?_;rw[hq];exact lend
 have e0:=h;refine S0 (fun hb h=>?_) fun hb h=>?_
 ·subst h;simp only[xR,reduceIte,Int.reduceEq] at hq;have hx:=jK (n:=2) c2 (by omega);obtain⟨m,hm⟩:∃m:Nat,(bn 2 c2).1=(m:Int):=⟨(bn 2 c2).1.toNat,by omega⟩;have q3:=fun fr:List Ab.Obj=>eU hB c2 (1+l) j (fr::bG S (l,j) (.box (cur c2))) 2 (by rw[aV];exact g _) (by omega) (by omega);rw[hm] at hx hq;simp only[hm,dW,dJ] at q3;refine aW rfl (q3 _) ?_;refine W1 ?_;refine W3 ?_;refine⟨by cases l<;>rfl,?_⟩;refine W1 ?_;rw[hq]
  have hm2:m=0\/m=1:=by omega
  clear hm q3;rcases hm2 with rfl|rfl
  all_goals
   refine⟨Ci ?_,rfl⟩;rfl
 have e1:=h;refine S0 (fun hb h=>?_) fun hb h=>?_
 ·exact absurd h hk2
 refine S0 (fun hb h=>?_) fun hb h=>?_
 ·exact absurd h hk3
 simp only[xR,if_neg e0,if_neg e1,if_neg hk2,if_neg hk3] at hq;rw[hq];exact lend
theorem ac6{bs:List Int}(hB:Bytes bs)(c:Cu bs)(l j:Nat)(S:Store)(hk:bE S (l,j)=some (.box (cur c))):
 bX prog 121 [.c (.ptr (l,j) 0)] S (fun r S1=>r=(DJ c).1.v/\S1=bG S (l,j) (.box (cur (DJ c).2))):=by
 unfold DJ;by_cases h2:(bn 10 c).1=2
 ·exact TU hB c _ _ l j S hk rfl (.inl h2)
 by_cases h3:(bn 10 c).1=3
 ·exact TU hB c _ _ l j S hk rfl (.inr h3)
 ·exact agk hB c _ _ l j S hk rfl h2 h3
def sw{bs:List Int}(p:aU)(k:Int)(c:Cu bs):aU×Cu bs:=
 if k=0 then(⟨p.fName,p.eH,p.aG++[(Ag c).1],p.au,p.aD,p.aK⟩,(Ag c).2) else
 if k=1 then(⟨p.fName,p.eH,p.aG,p.au++[(DJ c).1],p.aD,p.aK⟩,(DJ c).2) else
 if k=2 then(⟨p.fName,p.eH,p.aG,p.au,p.aD++[(instX c).1],p.aK⟩,(instX c).2) else
 (⟨p.fName,p.eH,p.aG,p.au,p.aD,p.aK++[(Qh c).1]⟩,(Qh c).2)
def E5{bs:List Int}:Nat->aU->Cu bs->aU×Cu bs
 |0,p,c=>(p,c)
 |n+1,p,c=>E5 n (sw p (bn 4 c).1 (bn 4 c).2).1 (sw p (bn 4 c).1 (bn 4 c).2).2
def UY:List (List UInt8):=[[],[99,111,114,101]]
theorem ac7:fI UY:=by unfold fI;decide
def ac8:List (List UInt8):=[[99,111,114,101],[113],[112]]
theorem agl:fI ac8:=by unfold fI;decide
def RZ{bs:List Int}(p:aU)(k:Int)(c:Cu bs):aU×Cu bs:=
 if k=0 then(⟨(bZ UY c).1,p.eH,p.aG,p.au,p.aD,p.aK⟩,(bZ UY c).2) else
 if k=1 then(⟨p.fName,p.eH++[(bZ ac8 c).1],p.aG,p.au,p.aD,p.aK⟩,(bZ ac8 c).2) else(p,c)
def Jf:aU:=⟨[112],[[99,111,114,101]],[],[],[],[]⟩
def ajO{bs:List Int}(p:aU)(c:Cu bs):aU×Cu bs:=RZ p (bn 10 c).1 (bn 10 c).2
def NZ{bs:List Int}(c:Cu bs):aU×Cu bs:=
 ajO (E5 (bn 5 c).1.toNat Jf (bn 5 c).2).1 (E5 (bn 5 c).1.toNat Jf (bn 5 c).2).2
theorem tH(s:List UInt8)(d:List (List UInt8))(t:List bJ)(a:List aX)(i:List aS)(f:List aY):
 (aU.mk s d t a i f).sz=s.length+(d.length+aP (d.map encS))+(t.length+aP (t.map bJ.enc))+(a.length+aP (a.map aX.enc))+(i.length+aP (i.map aS.enc))+(f.length+aP (f.map aY.enc)):=by
 simp only[aU.sz,aU.aJ,bQ,bP,D.sz,List.length_map];omega
theorem ac9{bs:List Int}(p:aU)(k:Int)(c:Cu bs):(sw p k c).1.sz<=p.sz+2001/\(sw p k c).1.fName=p.fName/\(sw p k c).1.eH=p.eH:=by
 have h0:=tH p.fName p.eH p.aG p.au p.aD p.aK;rw[aU.eta] at h0;have h1:=afw c;have h2:=aiX c;have h3:=instX_sz c;have h4:=an4 c;unfold sw;split
 ·refine⟨?_,rfl,rfl⟩;simp only[tH,List.map_append,uQ,List.map_cons,List.map_nil,aP,List.length_append,List.length_cons,List.length_nil,bJ.dP];omega
 split
 ·refine⟨?_,rfl,rfl⟩;simp only[tH,List.map_append,uQ,List.map_cons,List.map_nil,aP,List.length_append,List.length_cons,List.length_nil,aX.dP];omega
 split
 ·refine⟨?_,rfl,rfl⟩;simp only[tH,List.map_append,uQ,List.map_cons,List.map_nil,aP,List.length_append,List.length_cons,List.length_nil,aS.dP];omega
 ·refine⟨?_,rfl,rfl⟩;simp only[tH,List.map_append,uQ,List.map_cons,List.map_nil,aP,List.length_append,List.length_cons,List.length_nil,aY.dP];omega
theorem aai{bs:List Int}:∀(n:Nat)(p:aU)(c:Cu bs),(E5 n p c).1.sz<=p.sz+n*2001
 |0,p,c=>by show p.sz<=_;omega
 |n+1,p,c=>by
  have h1:=(ac9 p (bn 4 c).1 (bn 4 c).2).1;have h2:=aai n (sw p (bn 4 c).1 (bn 4 c).2).1 (sw p (bn 4 c).1 (bn 4 c).2).2;rw[E5];omega
theorem amx{bs:List Int}(c:Cu bs):(NZ c).1.sz<=9000:=by
 have hr:=jK (n:=5) c (by omega);have h1:=aai (bn 5 c).1.toNat Jf (bn 5 c).2
 have h0:Jf.sz=6:=by rw[Jf,tH];simp[aP,qA]
 have h2:(bn 5 c).1.toNat<=4:=by omega
 have h3:=Nat.mul_le_mul_right 2001 h2;unfold NZ ajO;generalize (E5 (bn 5 c).1.toNat Jf (bn 5 c).2).1=p at h1;generalize (E5 (bn 5 c).1.toNat Jf (bn 5 c).2).2=c1;generalize (bn 10 c1).1=k;generalize (bn 10 c1).2=c2;have h4:=iC c2 ac7;have h5:=iC c2 agl;have h6:=tH p.fName p.eH p.aG p.au p.aD p.aK;rw[aU.eta] at h6;unfold RZ;split
 ·simp only[tH];omega
 split
 ·simp only[tH,List.map_append,uQ,List.map_cons,List.map_nil,aP,qA,List.length_append,List.length_cons,List.length_nil];omega
 ·show p.sz<=_;omega
theorem agm{bs:List Int}(hB:Bytes bs)(c:Cu bs)(l j:Nat)(S:Store)(hk:bE S (l,j)=some (.box (cur c))):
 bX prog 50 [.c (.ptr (l,j) 0)] S (fun r S1=>r=(NZ c).1.v/\S1=bG S (l,j) (.box (cur (NZ c).2))):=by
 have g:∀x:Ab.Obj,bE (bG S (l,j) x) (l,j)=some x:=fun x=>dL _ _ _ _ hk;unfold NZ;have hx:=jK (n:=5) c (by omega);obtain⟨n,hn⟩:∃n:Nat,(bn 5 c).1=(n:Int):=⟨(bn 5 c).1.toNat,by omega⟩;have q0:=fun fr:List Ab.Obj=>eU hB c (1+l) j (fr::S) 5 (by rw[aV];exact hk) (by omega) (by omega)
 generalize hc0:(bn 5 c).2=c0 at *
 rw[hn] at hx;simp only[hn,Int.toNat_natCast,dW] at q0 ⊢;obtain⟨R,hR⟩:∃R,R=E5 n Jf c0:=⟨_,rfl⟩;rw[<-hR];refine bX.of_le ?_;refine BU [58] (rs:=[.cell 2 49]) zmx func50 ntmps50 rfl rfl rfl rfl rfl ?_;refine W1 ?_;refine W3 ?_;refine aW rfl (q0 _) ?_;refine W1 ?_;refine FI 1 2 5 _ rfl rfl ?_;refine FI 1 3 3 _ rfl rfl ?_;refine FI 1 4 12 _ rfl rfl ?_;refine FI 1 5 16 _ rfl rfl ?_
 refine aik [58] zmx rfl [0,2,3,4,5] (ι:=Nat×aU×Cu bs) (fun x=>[.c (.ptr (1+l,j) 0),.c (.ptr (0,0) 0),.c (.ptr (0,1) 0),.c (.d (.i .i64 n)),.c (.d (.i .i64 x.1))])
  (fun x=>[.box [.d (.s []),.bF [],.bF [],.bF [],.bF [],.bF []],.box [.d (.s [112]),.bF [[.s [99,111,114,101]]],.bI (0,2) (x.2.1.aG.map bJ.enc),.bI (0,3) (x.2.1.au.map aX.enc),.bI (0,4) (x.2.1.aD.map aS.enc),.bI (0,5) (x.2.1.aK.map aY.enc)],
    .tok 5 (x.2.1.aG.map bJ.enc),.tok 3 (x.2.1.au.map aX.enc),.tok 12 (x.2.1.aD.map aS.enc),.tok 16 (x.2.1.aK.map aY.enc)]::bG S (l,j) (.box (cur x.2.2)))
  (fun x=>x.1<=n/\E5 (n-x.1) x.2.1 x.2.2=R/\x.2.1.fName=[112]/\x.2.1.eH=[[99,111,114,101]]/\x.2.1.aG.length<=x.1/\x.2.1.au.length<=x.1/\x.2.1.aD.length<=x.1/\x.2.1.aK.length<=x.1) (fun x=>n-x.1) (0,Jf,c0) rfl rfl ⟨Nat.zero_le _,hR.symm,rfl,rfl,Nat.le_refl _,Nat.le_refl _,Nat.le_refl _,Nat.le_refl _⟩ ?_
 rintro⟨i,⟨pn,pd,pt,pa,pi,pf⟩,d⟩ ⟨p1,p2,p3,p4,p5,p6,p7,p8⟩;simp only at p1 p2 p3 p4 p5 p6 p7 p8;subst p3 p4;refine W1 ?_;refine S0 (fun hb h=>?_) fun hb h=>?_
 ·have ek:n-i=(n-(i+1))+1:=by omega
  rw[ek,E5] at p2;obtain⟨k,hkd⟩:∃k,k=(bn 4 d).1:=⟨_,rfl⟩;obtain⟨d1,hd1⟩:∃d1,d1=(bn 4 d).2:=⟨_,rfl⟩;have q1:=fun fr:List Ab.Obj=>eU hB d (1+l) j (fr::bG S (l,j) (.box (cur d))) 4 (by rw[aV];exact g _) (by omega) (by omega);simp only[<-hkd,<-hd1,dW,dJ] at q1 p2;refine aW rfl (q1 _) ?_;refine W1 ?_;refine S0 (fun hb h=>?_) fun hb h=>?_
  ·subst h;simp only[sw,reduceIte] at p2;refine aW rfl (Y8 hB d1 (1+l) j _ (by rw[aV];exact g _)) ?_;refine W1 ?_;refine W3 ?_;refine⟨by cases l<;>rfl,?_⟩;refine W1 ?_;refine bT 6 (by decide) (i+1,⟨_,_,pt++[(Ag d1).1],pa,pi,pf⟩,(Ag d1).2) (by simp only;omega) rfl ?_ (by cases l<;>rfl) rfl ⟨by simp only;omega,p2,rfl,rfl,by simp only[List.length_append,List.length_cons,List.length_nil];omega,by simp only;omega,by simp only;omega,by simp only;omega⟩;simp only[List.map_append,List.map_cons,List.map_nil];rfl
  have e0:=h;refine S0 (fun hb h=>?_) fun hb h=>?_
  ·subst h;simp only[sw,reduceIte,Int.reduceEq] at p2;refine aW rfl (ac6 hB d1 (1+l) j _ (by rw[aV];exact g _)) ?_;refine W1 ?_;refine W3 ?_;refine⟨by cases l<;>rfl,?_⟩;refine W1 ?_;refine bT 6 (by decide) (i+1,⟨_,_,pt,pa++[(DJ d1).1],pi,pf⟩,(DJ d1).2) (by simp only;omega) rfl ?_ (by cases l<;>rfl) rfl ⟨by simp only;omega,p2,rfl,rfl,by simp only;omega,by simp only[List.length_append,List.length_cons,List.length_nil];omega,by simp only;omega,by simp only;omega⟩;simp only[List.map_append,List.map_cons,List.map_nil];rfl
  have e1:=h;refine S0 (fun hb h=>?_) fun hb h=>?_
  ·subst h;simp only[sw,reduceIte,Int.reduceEq] at p2;refine aW rfl (acH hB d1 (1+l) j _ (by rw[aV];exact g _)) ?_;refine W1 ?_;refine W3 ?_;refine⟨by cases l<;>rfl,?_⟩;refine W1 ?_;refine bT 6 (by decide) (i+1,⟨_,_,pt,pa,pi++[(instX d1).1],pf⟩,(instX d1).2) (by simp only;omega) rfl ?_ (by cases l<;>rfl) rfl ⟨by simp only;omega,p2,rfl,rfl,by simp only;omega,by simp only;omega,by simp only[List.length_append,List.length_cons,List.length_nil];omega,by simp only;omega⟩;simp only[List.map_append,List.map_cons,List.map_nil,aS.aJ,ak.aJ,List.cons_append,List.nil_append];rfl
  have e2:=h;simp only[sw,if_neg e0,if_neg e1,if_neg e2] at p2;refine aW rfl (ai0 hB d1 (1+l) j _ (by rw[aV];exact g _)) ?_;refine W1 ?_;refine W3 ?_;refine⟨by cases l<;>rfl,?_⟩;refine W1 ?_;refine bT 6 (by decide) (i+1,⟨_,_,pt,pa,pi,pf++[(Qh d1).1]⟩,(Qh d1).2) (by simp only;omega) rfl ?_ (by cases l<;>rfl) rfl ⟨by simp only;omega,p2,rfl,rfl,by simp only;omega,by simp only;omega,by simp only;omega,by simp only[List.length_append,List.length_cons,List.length_nil];omega⟩;simp only[List.map_append,List.map_cons,List.map_nil,aY.aJ,ak.aJ,ay.aJ,List.cons_append,List.nil_append];rfl
 ·have ei:n-i=0:=by omega
  rw[ei,E5] at p2;subst p2;unfold ajO;obtain⟨k,hkd⟩:∃k,k=(bn 10 d).1:=⟨_,rfl⟩;obtain⟨d1,hd1⟩:∃d1,d1=(bn 10 d).2:=⟨_,rfl⟩;have q1:=fun fr:List Ab.Obj=>eU hB d (1+l) j (fr::bG S (l,j) (.box (cur d))) 10 (by rw[aV];exact g _) (by omega) (by omega);simp only[<-hkd,<-hd1,dW,dJ] at q1 ⊢;obtain⟨q,hq⟩:∃q,q=RZ ⟨[112],[[99,111,114,101]],pt,pa,pi,pf⟩ k d1:=⟨_,rfl⟩;rw[<-hq];refine aW rfl (q1 _) ?_;refine W1 ?_;refine S0 (fun hb h=>?_) fun hb h=>?_
  ·subst h;simp only[RZ,reduceIte] at hq;refine cK [true] rfl (eO hB d1 (1+l) j _ UY (by rw[aV];exact g _) (by decide) (by decide)) ?_;refine W1 ?_;rw[hq];exact⟨Ci rfl,rfl⟩
  have e0:=h;refine S0 (fun hb h=>?_) fun hb h=>?_
  ·subst h;simp only[RZ,reduceIte,Int.reduceEq] at hq;refine cK [true] rfl (eO hB d1 (1+l) j _ ac8 (by rw[aV];exact g _) (by decide) (by decide)) ?_;refine W1 ?_;refine W3 ?_;refine⟨by cases l<;>rfl,?_⟩;refine W1 ?_;rw[hq];exact⟨Ci rfl,rfl⟩
  have e1:=h;simp only[RZ,if_neg e0,if_neg e1] at hq;rw[hq];exact⟨Ci rfl,rfl⟩
def tk0(k:Key):Nat->List (List D)->V
 |0,_=>.c (.bF [])
 |_+1,es=>.c (.bI k es)
def ob0(z:Nat):Nat->List (List D)->List Obj
 |0,_=>[]
 |_+1,es=>[.tok z es]
theorem kJ(k:Key)(es:List (List D)):tk0 k 0 es=.c (.bF []):=rfl
theorem ji(k:Key)(n:Nat)(es:List (List D)):tk0 k (n+1) es=.c (.bI k es):=rfl
theorem kK(z:Nat)(es:List (List D)):ob0 z 0 es=[]:=rfl
theorem jk(z n:Nat)(es:List (List D)):ob0 z (n+1) es=[.tok z es]:=rfl
theorem amy(xs:List (List UInt8))(b:List UInt8)(hl:xs.length<=1073741824)(hf:(fZ b xs).length<=1073741824)(hp:∀i,(fZ b (xs.take i)).length<=(fZ b xs).length):aF prog 200 [.c (.d (.sl (xs.map encS))),.c (.d (.s b))] (.c (.d (.s (fZ b xs)))):=fun S=>by
 refine zcx [.tmp 4] func200 ntmps200 ?_;refine W1 ?_
 refine aZ (ι:=Nat) zmx rfl [0,1,5,6] (fun i=>[.c (.d (.sl (xs.map encS))),.c (.d (.s b)),tk0 (0,0) i (sZ (fZ b (xs.take i))),.c (.d (.i .i64 i))]) (fun i=>ob0 1 i (sZ (fZ b (xs.take i)))::S)
  (fun i=>i<=xs.length) (fun i=>xs.length-i) 0 rfl rfl (Nat.zero_le _) ?_
 rintro i p1;have hi1:=hp (i+1);by_cases hi:i<xs.length
 ·have hst:=Jb b xs i hi
  cases i with
  |zero=>
   simp -implicitDefEqProofs (disch:=omega) only[go_sem,kJ,ji,kK,jk]
   with_reducible refine dS (fun hb=> ?_) (fun hb=> ?_)<;>have h:=hb<;>(try simp only[wf_preprocess] at h)<;>simp -implicitDefEqProofs (disch:=omega) only[go_sem,hb,kJ,ji,kK,jk]<;>refine W3 ?_
   ·refine W3 ?_
    with_reducible refine dS (fun hb=> ?_) (fun hb=> ?_)<;>have h:=hb<;>(try simp only[wf_preprocess] at h)<;>simp -implicitDefEqProofs (disch:=omega) only[go_sem,hb,kJ,ji,kK,jk]<;>refine W3 ?_
    ·omega
    ·have e:sZ (fZ b (xs.take (0+1)))=xs[0].map (fun b=>[D.i .u8 b.toNat]):=by rw[hst,if_pos rfl];rfl
     rw[hst,if_pos rfl] at hi1;exact⟨by omega,dB (0+1) (by omega) (by rw[ji,e];rfl) (by rw[jk,e]) (by omega)⟩
   ·omega
  |succ j=>
   simp -implicitDefEqProofs (disch:=omega) only[go_sem,kJ,ji,kK,jk]
   with_reducible refine dS (fun hb=> ?_) (fun hb=> ?_)<;>have h:=hb<;>(try simp only[wf_preprocess] at h)<;>simp -implicitDefEqProofs (disch:=omega) only[go_sem,hb,kJ,ji,kK,jk]<;>refine W3 ?_
   ·refine W3 ?_
    with_reducible refine dS (fun hb=> ?_) (fun hb=> ?_)<;>have h:=hb<;>(try simp only[wf_preprocess] at h)<;>simp -implicitDefEqProofs (disch:=omega) only[go_sem,hb,kJ,ji,kK,jk]<;>refine W3 ?_
    ·have e:sZ (fZ b (xs.take (j+1+1)))=sZ (fZ b (xs.take (j+1)))++b.map (fun b=>[D.i .u8 b.toNat])++xs[j+1].map (fun b=>[D.i .u8 b.toNat]):=by
      rw[hst,if_neg (by omega),Jw,Jw];rfl
     rw[hst,if_neg (by omega)] at hi1;simp only[List.length_append] at hi1;refine⟨by rw[Jy];omega,⟨by omega,hi⟩,fun y hy=> ?_,⟨_,rfl,rfl⟩,by rw[List.length_append,List.length_map,Jy];omega,?_⟩
     ·obtain⟨z,_,rfl⟩:=List.mem_map.1 hy;rfl
     ·exact dB (j+1+1) (by omega) (by rw[ji,e];rfl) (by rw[jk,e]) (by omega)
    ·omega
   ·omega
 ·have hi:i=xs.length:=by omega
  cases i with
  |zero=>
   simp -implicitDefEqProofs (disch:=omega) only[go_sem,kJ,ji,kK,jk]
   with_reducible refine dS (fun hb=> ?_) (fun hb=> ?_)<;>have h:=hb<;>(try simp only[wf_preprocess] at h)<;>simp -implicitDefEqProofs (disch:=omega) only[go_sem,hb,kJ,ji,kK,jk]<;>refine W3 ?_
   ·omega
   ·rw[List.eq_nil_of_length_eq_zero hi.symm];rfl
  |succ j=>
   simp -implicitDefEqProofs (disch:=omega) only[go_sem,kJ,ji,kK,jk]
   with_reducible refine dS (fun hb=> ?_) (fun hb=> ?_)<;>have h:=hb<;>(try simp only[wf_preprocess] at h)<;>simp -implicitDefEqProofs (disch:=omega) only[go_sem,hb,kJ,ji,kK,jk]<;>refine W3 ?_
   ·omega
   ·refine⟨fun y hy=>acP _ y hy,?_⟩;rw[Zf,hi,List.take_length]
theorem QJ:∀n:Nat,∀x:ah,SizeOf.sizeOf x<n->x.sz<=67108864->aF prog 118 [x.v] (.c (.d (.s (gy x))))
 |0=>fun x h=>by omega
 |n+1=>by
  have ih:=QJ n;intro x hn hsz S;have ht:=NM x;have hln:=FM x;have hts:=ED hsz
  have hll:x.aj.length<=67108864:=by
   have h2:=jP x;omega
  have hE:∀i (hi:i<x.aj.length),(((x.aj.take (i+1)).map gy).map encS)=((x.aj.take i).map gy).map encS++[[.s (gy x.aj[i])]]:=fun i hi=>by
   rw[List.take_succ_eq_append_getElem hi,List.map_append,List.map_append];rfl
  refine zcx [.tmp 2] func118 ntmps118 ?_;refine W1 ?_;refine S0 (fun hb h=>?_) fun hb h=>?_
  ·rw[ht,if_neg (by simpa using h)]
  ·rw[if_pos (by simpa using h)] at ht
   have hf:(fZ [32] (x.aj.map gy)).length<=1073741824:=by
    rw[ht] at hln;simp only[List.length_append,List.length_cons,List.length_nil] at hln;omega
   have hj:=amy (x.aj.map gy) [32] (by rw[List.length_map];omega) hf (Qp _ _)
   refine aZ (ι:=Nat) zmx rfl [1,3,4] (fun i=>[.c (.ptr (0,0) 0),tk0 (0,1) i (((x.aj.take i).map gy).map encS),.c (.d (.i .i64 i))]) (fun i=>(.box [.d (.s x.aQ),.d (.sl (x.aj.map ah.enc))]::ob0 1 i (((x.aj.take i).map gy).map encS))::S)
    (fun i=>i<=x.aj.length) (fun i=>x.aj.length-i) 0 rfl rfl (Nat.zero_le _) ?_
   rintro i p1;by_cases hi:i<x.aj.length
   ·have hsz':=AQ hi hsz;have he:=hE i hi;have hl:=ah.LM hi
    cases i with
    |zero=>
     simp -implicitDefEqProofs (disch:=omega) only[go_sem,kJ,ji,kK,jk]
     with_reducible refine dS (fun hb=> ?_) (fun hb=> ?_)<;>have h:=hb<;>(try simp only[wf_preprocess] at h)<;>simp -implicitDefEqProofs (disch:=omega) only[go_sem,hb,kJ,ji,kK,jk]<;>refine W3 ?_
     ·refine W3 ?_;refine C2 (ih x.aj[0] (by omega) hsz'.1) ?_;exact dB (0+1) (by omega) (by rw[ji,he];rfl) (by rw[jk,he];rfl) (by omega)
     ·omega
    |succ j=>
     simp -implicitDefEqProofs (disch:=omega) only[go_sem,kJ,ji,kK,jk]
     with_reducible refine dS (fun hb=> ?_) (fun hb=> ?_)<;>have h:=hb<;>(try simp only[wf_preprocess] at h)<;>simp -implicitDefEqProofs (disch:=omega) only[go_sem,hb,kJ,ji,kK,jk]<;>refine W3 ?_
     ·refine W3 ?_;refine C2 (ih x.aj[j+1] (by omega) hsz'.1) ?_;exact dB (j+1+1) (by omega) (by rw[ji,he];rfl) (by rw[jk,he]) (by omega)
     ·omega
   ·have hi:i=x.aj.length:=by omega
    cases i with
    |zero=>
     simp -implicitDefEqProofs (disch:=omega) only[go_sem,kJ,ji,kK,jk]
     with_reducible refine dS (fun hb=> ?_) (fun hb=> ?_)<;>have h:=hb<;>(try simp only[wf_preprocess] at h)<;>simp -implicitDefEqProofs (disch:=omega) only[go_sem,hb,kJ,ji,kK,jk]<;>refine W3 ?_
     ·omega
     ·rw[List.eq_nil_of_length_eq_zero hi.symm] at ht hj;refine jS hj (.cons (by exact Less.refl _) (.cons (Less.refl _) .nil)) ?_;refine W1 ?_;exact⟨by decide,by decide,by rw[ht];rfl⟩
    |succ j=>
     simp -implicitDefEqProofs (disch:=omega) only[go_sem,kJ,ji,kK,jk]
     with_reducible refine dS (fun hb=> ?_) (fun hb=> ?_)<;>have h:=hb<;>(try simp only[wf_preprocess] at h)<;>simp -implicitDefEqProofs (disch:=omega) only[go_sem,hb,kJ,ji,kK,jk]<;>refine W3 ?_
     ·omega
     ·rw[hi,List.take_length];refine jS hj (.cons (by exact Less.refl _) (.cons (Less.refl _) .nil)) ?_;refine W1 ?_;exact⟨by omega,by omega,by rw[ht];rfl⟩
theorem agn(x:ah)(hsz:x.sz<=67108864):aF prog 118 [x.v] (.c (.d (.s (gy x)))):=QJ _ x (Nat.lt_succ_self _) hsz
theorem R3(x:ah)(hsz:x.sz<=67108864):aF prog 46 [x.v] (.c (.d (.s (Bf x)))):=fun S=>by
 refine zcx [.tmp 2] func46 ntmps46 ?_;refine W1 ?_;refine C2 (Cz x hsz) ?_;refine S0 (fun hb h=>?_) fun hb h=>?_
 ·rw[Bf,if_neg (by simpa using h)]
 ·refine C2 (agn x hsz) ?_;rw[Bf,if_pos (by simpa using h)]
theorem agp(x:aU):(qB x).aQ=[]:=by
 unfold qB;generalize (validPkg x&&(fE x).all dV)=b;cases b
 ·rfl
 ·show(uO (rH x)).aQ=[];unfold uO;split<;>rfl
theorem R4(x:aU)(hsz:x.sz<=1048576):aF prog 18 [x.v] (.c (.d (.s (vE (qB x))))):=fun S=>by
 have c1:aF prog 51 [x.v] (qB x).v:=by
  have h2:aF prog 51 [x.v] (.agg ((fV (qB x).enc 0).map .d)):=by
   have:=Zc x 0 hsz
   first|exact this|(rw[jF];exact this)
  have:=aF.less h2 IJ;rw[ah.Na] at this;exact this
 have hd:(qB x).sz<=1048576:=Z5 (by omega);obtain⟨X,hX⟩:∃X,X=qB x:=⟨_,rfl⟩;rw[<-hX] at hd c1 ⊢;clear hX;refine zcx [.tmp 2] func18 ntmps18 ?_;refine W1 ?_;refine bD c1 ?_;refine W1 ?_;refine jS (qM X eY (by omega)) (.cons (by exact Less.refl _) (.cons (by exact Less.refl _) .nil)) ?_;refine W1 ?_;refine S0 (fun hb h=>?_) fun hb h=>?_
 ·rw[afF (by simpa using h)]
 ·refine C2 (RF X (by omega)) ?_;rw[afG (by simpa using h)]
theorem R5(x:aU)(hsz:x.sz<=1048576):aF prog 19 [x.v] (.c (.d (.s (vE (qB x))))):=fun S=>by
 have c1:=acI x (by omega);have hd:(qB x).sz<=1048576:=Z5 (by omega);have ha:(qB x).aQ=[]:=agp x;obtain⟨X,hX⟩:∃X,X=qB x:=⟨_,rfl⟩;rw[<-hX] at hd c1 ha ⊢;clear hX;refine zcx [.tmp 2] func19 ntmps19 ?_;refine W1 ?_;refine bD c1 ?_;refine W1 ?_;refine S0 (fun hb h=>?_) fun hb h=>?_
 ·rw[aod ha (by omega)]
 ·refine C2 (R3 X (by omega)) ?_;rw[aoc (by omega)]
theorem ada{s:List UInt8}(h:qj s=false):nR s=eY:=by
 unfold nR;rw[dif_neg (jo h)]
theorem ajP(s:List UInt8):(nR s).sz<=1048576:=by
 cases h:qj s with
 |true=>have:=uN (Ze h);omega
 |false=>rw[ada h,Je];omega
theorem agq{w:World}{σ:Nat->Nat}{S:Store}{β:Hs}{x:ah}{lv:Value}{b:Bool}(h:dK w σ (.sl (x.aj.map ah.enc)) lv)(h1:lv.oneCell'=true):
 dM w σ S β (.fF [(true,x.enc.map .d),(false,[.d (.b b)])]) (.tuple #[.agg #[.string ⟨x.aQ.toArray⟩,lv],.bool b]):=by
 refine⟨_,rfl,rfl,fun j y hy=> ?_⟩
 match j,hy with
 |0,hy=>
  simp at hy;subst hy;refine⟨_,rfl,_,rfl,by rw[ah.aJ];rfl,fun j y hy=> ?_⟩;rw[ah.aJ] at hy
  match j,hy with
  |0,hy=>simp at hy;subst hy;exact⟨_,rfl,.s _,rfl⟩
  |1,hy=>simp at hy;subst hy;exact⟨_,rfl,h,h1⟩
 |1,hy=>
  simp at hy;subst hy;exact⟨_,rfl,_,rfl,.b _,rfl⟩
theorem aoA{w:World}{σ:Nat->Nat}{es:List (List D)}{v:Value}(h:dK w σ (.sl es) v):v.oneCell'=true:=by
 cases h<;>rfl
theorem Uz(s:List UInt8)(hs:s.length<=33554432):aF prog 31 [.c (.d (.s s))] (.fF [(true,(nR s).enc.map .d),(false,[.d (.b (qj s))])]):=fun S=>by
 refine⟨⟨_,func31,by kernel_rfl,by kernel_rfl⟩,fun w σ β vs hS hv=> ?_⟩;obtain⟨u,rfl,hu⟩:=Xr hv
 obtain rfl:u=.string ⟨s.toArray⟩:=by cases hu.1;rfl
 refine(acT s w σ hS.live hS.wh hs).mono fun e w' ⟨lv,σ',he,hr,hg,hgl⟩=> ?_;exact⟨_,_,S,σ',β,he,hS.grow hg,Keep.refl _ _,Step.nU hg,agq hr (aoA hr),rfl,rfl⟩
def aoB:List UInt8:=[112,97,99,107,97,103,101]
def isK(s:List UInt8)(y:ah):Bool:=decide (dQ y.aj 0=s)
noncomputable def adb(l:List ah):List bJ:=(l.filter (isK lC)).map xH
noncomputable def ade(l:List ah):List aX:=(l.filter (isK qd)).map xV
noncomputable def adf(l:List ah):List aS:=(l.filter (isK mh)).map rX
noncomputable def adg(l:List ah):List aY:=(l.filter (isK Af)).map xG
noncomputable def oz(y:ah):Bool:=if isK lC y=true then CV y else if isK qd y=true then okD y else if isK mh y=true then Di y else if isK Af y=true then okF y else false
noncomputable def decP(x:ah):aU:=⟨dQ x.aj 1,nX x.aj 2,adb (x.aj.drop 3),ade (x.aj.drop 3),adf (x.aj.drop 3),adg (x.aj.drop 3)⟩
noncomputable def aky(x:ah):Prop:=dV x=true/\3<=x.aj.length/\dQ x.aj 0=aoB/\(gX x.aj 2).aQ=[]/\(gX x.aj 2).aj.all (fun y=>decide (y.aQ≠[]))=true
noncomputable def Hy(x:ah):Bool:=dec (aky x/\(∀y∈x.aj.drop 3,oz y=true)/\validPkg (decP x)=true)
def QK:aU:=⟨[],[],[],[],[],[]⟩
noncomputable def TV(x:ah):aU:=if Hy x=true then decP x else QK
theorem aoC{x:ah}(h:Hy x=false):TV x=QK:=if_neg (by rw[h];decide)
theorem aaj{x:ah}(h:Hy x=true):TV x=decP x:=if_pos h
theorem fT{s s':List UInt8}{y:ah}(h:isK s y=true)(hs:s≠s'):isK s' y=false:=by
 unfold isK at *
 rw[decide_eq_true_eq] at h;rw[h];exact decide_eq_false hs
theorem ajQ{α:Type}(s:List UInt8)(f:ah->α){l:List ah}{i:Nat}(hi:i<l.length):((l.take (i+1)).filter (isK s)).map f=((l.take i).filter (isK s)).map f++if isK s l[i]=true then [f l[i]] else []:=by
 rw[List.take_succ_eq_append_getElem hi,List.filter_append,List.map_append];congr 1;by_cases h:isK s l[i]=true
 ·rw[if_pos h,List.filter_cons,if_pos h];rfl
 ·rw[if_neg h,List.filter_cons,if_neg h];rfl
theorem amz{α:Type}(s:List UInt8)(f:ah->α)(l:List ah)(i:Nat):(((l.take i).filter (isK s)).map f).length<=i:=by
 rw[List.length_map];exact Nat.le_trans (List.length_filter_le _ _) (List.length_take_le _ _)
theorem amA(y:ah):(xH y).sz<=y.sz:=by
 unfold xH;split
 ·exact XU true y
 ·simp[QH,bJ.sz,bJ.aJ,bQ,D.sz,aP]
theorem aoD(y:ah):(xV y).sz<=y.sz:=by
 unfold xV;split
 ·exact Z8 true y
 ·simp[aX.sz,aX.aJ,bQ,D.sz,aP]
theorem aoE(y:ah):(rX y).sz<=y.sz:=by
 unfold rX;split
 ·exact aah true y
 ·have:QF.sz=0:=by simp[QF,jA,aS.sz,aS.aJ,ak.aJ,ak.aM,ak.fName,ak.fArgs,bQ,D.sz,aP]
  omega
theorem aoF(y:ah):(xG y).sz<=y.sz:=by
 unfold xG;split
 ·exact aaf true y
 ·have:QD.sz=0:=by simp[QD,jA,nA,aY.sz,aY.aJ,ak.aJ,ak.aM,ak.fName,ak.fArgs,ay.aJ,bQ,D.sz,aP,ay.aM,ay.bO,ay.fName,ay.fN,ay.fType,ay.fArgs,ay.aT]
  omega
theorem K9{α:Type}(s:List UInt8)(f:ah->α)(e:α->List D)(h:∀y,bQ (e (f y))<=y.sz):∀l:List ah,aP (((l.filter (isK s)).map f).map e)<=dA l/\((l.filter (isK s)).map f).length<=l.length
 |[]=>⟨Nat.le_refl _,Nat.le_refl _⟩
 |y::l=>by
  obtain⟨h1,h2⟩:=K9 s f e h l;rw[List.filter_cons];split
  ·have:=h y;rw[List.map_cons,List.map_cons,aP,dA,List.length_cons,List.length_cons];omega
  ·rw[dA,List.length_cons];omega
theorem amB{x:ah}(h:x.sz<=500000):(decP x).sz<=4194304:=by
 have h1:=ajw x.aj 3;have h2:=iB x
 have h3:(x.aj.drop 3).length<=x.aj.length:=by rw[List.length_drop];omega
 have h4:=tu (gX x.aj 2).aj;have h5:(gX x.aj 2).sz<=dA x.aj:=Bh x.aj 2;have h5':=qE (gX x.aj 2);have h6:(dQ x.aj 1).length<=dA x.aj:=Nat.le_trans (NT _) (Bh x.aj 1);have t1:=K9 lC xH bJ.enc amA (x.aj.drop 3);have t2:=K9 qd xV aX.enc aoD (x.aj.drop 3);have t3:=K9 mh rX aS.enc aoE (x.aj.drop 3);have t4:=K9 Af xG aY.enc aoF (x.aj.drop 3);have t5:=iB (gX x.aj 2)
 simp only[aU.sz,aU.aJ,bQ,bP,D.sz,List.length_map,decP,adb,ade,adf,adg,nX,dH] at *
 omega
theorem amC(x:ah)(i:Nat){m:Nat}(h:x.sz<=m):(x.aj.getD i eY).sz<=m:=by
 have:=Bh x.aj i;have:=iB x;omega
theorem agr{b:Bool}{l:List ah}{i:Nat}(hi:i<l.length):((l.take i).map (yg b)).map bL.enc++[[.s (l[i].aj.getD 0 eY).aQ,.sl (((l[i].aj.drop 1).map (fK b)).map ak.enc)]]=((l.take (i+1)).map (yg b)).map bL.enc:=by
 rw[List.take_succ_eq_append_getElem hi,List.map_append,List.map_append];simp only[List.map_cons,List.map_nil,bL.aJ];rfl
theorem aoG{x:ah}(h:okD x=false):xV x=⟨[],[],[]⟩:=by
 unfold xV;rw[if_neg (by rw[h];decide)]
theorem amD{x:ah}(h:okD x=true):xV x=tX true x:=if_pos h
theorem adh(n:Nat)(ok:Bool):Less (.fF [(true,[.d (.s []),.bF [],.bF []]),(false,[.d (.b ok)])]) (.fF [(true,[.d (.s []),.d (.ol n []),.d (.ol (n+1) [])]),(false,[.d (.b ok)])]):=
 (kU.cons (.cons (.refl _) (.cons (dX _) (.cons (dX _) .nil))) (.refl _)).less
def lc(l:List bL)(n:Nat):List (List D):=eZ (l.map bL.enc) n
def UZ(l:List bL):Nat:=lI (l.map bL.enc)
theorem amE(x:bL)(n:Nat):fV x.enc n=[.s x.fName,.ol n (lt x.gY (n+1))]:=by
 rw[bL.aJ];simp only[fV,vB,vw,Nat.add_zero,lt]
theorem amF(x:aX)(n:Nat):fV x.enc n=[.s x.fName,.ol n (x.aH.map encS),.ol (n+1) (lc x.aC (n+1+1))]:=by
 rw[aX.aJ];simp only[fV,vB,vw,Nat.add_zero,vC,xD,Nat.zero_add,lc]
theorem aoH(l:List ak)(n:Nat):KH (.ol n (lt l (n+1))) (.sl (l.map ak.enc)):=ZX (.sl (l.map ak.enc)) n
theorem amG{l:List bL}{i:Nat}(hi:i<l.length)(n:Nat):lc (l.take i) n++[[.s l[i].fName,.ol (n+UZ (l.take i)) (lt l[i].gY (n+UZ (l.take i)+1))]]=lc (l.take (i+1)) n:=by
 rw[List.take_succ_eq_append_getElem hi];unfold lc UZ;rw[List.map_append,pJ];simp only[List.map_cons,List.map_nil,eZ,amE]
theorem QL(x:ah)(n:Nat)(hsz:x.sz<=1048576):aF prog 165 [x.v] (.fF [(true,[.d (.s (xV x).fName),.d (.ol n ((xV x).aH.map encS)),.d (.ol (n+1) (lc (xV x).aC (n+1+1)))]),(false,[.d (.b (okD x))])]):=aF.of_le fun S=>by
 have h1:=iB x;have hds:=Z8 true x;obtain⟨l,hl⟩:∃l,l=x.aj.drop 3:=⟨_,rfl⟩
 have hll:l.length<=1048576:=by rw[hl,List.length_drop];omega
 have hlm:∀y∈l,y.sz<=1048576:=fun y hy=>by
  have:=kT (List.mem_of_mem_drop (hl▸hy));omega
 have mU:okD x=false->Less (.fF [(true,[.d (.s []),.bF [],.bF []]),(false,[.d (.b false)])]) (.fF [(true,[.d (.s (xV x).fName),.d (.ol n ((xV x).aH.map encS)),.d (.ol (n+1) (lc (xV x).aC (n+1+1)))]),(false,[.d (.b (okD x))])]):=fun e=>by
  rw[aoG e,e];exact adh n false
 refine lq (n) (rs:=[.cell 2 88,.tmp 3]) zmx func165 ntmps165 rfl rfl rfl rfl rfl ?_;refine W1 ?_;refine C1 (vG x qd 3 (by omega) (by omega) (by omega)) ?_;refine S0 (fun hb h=>?_) fun hb h=>?_
 ·exact mU (aR fun e=>h ⟨e.1,e.2.1,e.2.2.1⟩)
 have hf:=h;have hlen:3<=x.aj.length:=hf.2.1;have hr:=gV (l:=x.aj);have a1:=lK (l:=x.aj) (i:=1) (by omega)
 have g2:(x.aj.getD 2 eY)=x.aj[2]:=by rw[List.getD_eq_getElem?_getD,List.getElem?_eq_getElem (by omega)];rfl
 have z2:=amC x 2 hsz;rw[g2] at z2
 have hvars:(tX true x).aH=gB x.aj[2].aj:=by rw[<-g2];rfl
 have hname:(tX true x).fName=x.aj[1].aQ:=a1;have uH:=uN hf.1;have hsl:=WS (tX true x);obtain⟨L,hL⟩:∃L:Nat->Nat,L=fun i=>n+1+1+UZ ((l.map (yg true)).take i):=⟨_,rfl⟩;obtain⟨T,hT⟩:∃T:Nat->List (List D),T=fun i=>lc ((l.map (yg true)).take i) (n+1+1):=⟨_,rfl⟩;obtain⟨P,hP⟩:∃P:Nat->List (List D),P=fun i=>((l.take i).map (yg true)).map bL.enc:=⟨_,rfl⟩
 have hT0:T 0=[]:=by rw[hT];rfl
 have VD:P 0=[]:=by rw[hP];rfl
 have hPl:∀i,(P i).length<=i:=fun i=>by rw[hP];simp only[List.length_map];exact List.length_take_le _ _
 have hPr:∀i,∀r∈P i,r.length=2:=fun i=>by
  rw[hP];intro r hr;obtain⟨z,_,rfl⟩:=List.mem_map.1 hr;exact z.eB
 have hTs:∀i (hi:i<l.length),T i++[[.s (yg true l[i]).fName,.ol (L i) (lt (yg true l[i]).gY (L i+1))]]=T (i+1):=fun i hi=>by
  have:=amG (l:=l.map (yg true)) (i:=i) (by rw[List.length_map];exact hi) (n+1+1);rw[List.getElem_map] at this;rw[hT,hL];exact this
 have hPs:∀i (hi:i<l.length),P i++[[.s (l[i].aj.getD 0 eY).aQ,.sl (((l[i].aj.drop 1).map (fK true)).map ak.enc)]]=P (i+1):=fun i hi=>by rw[hP];exact agr hi
 have hTe:T l.length=lc (tX true x).aC (n+1+1):=by
  rw[hT];simp only
  rw[List.take_of_length_le (by simp),hl];rfl
 have hPe:P l.length=(tX true x).aC.map bL.enc:=by
  rw[hP];simp only
  rw[List.take_length,hl];rfl
 clear hT hP hL;refine C1 (qC x.aj[2] (by omega) n) ?_;refine⟨⟨by omega,by omega,hr⟩,?_⟩;rw[tC _ _ _ (Nat.le_refl _),<-hl,<-hvars,<-hname];refine W1 ?_;refine oW (n+1) 3 2 2 _ rfl rfl ?_
 refine aZ (ι:=Nat×List (List D)) zmx rfl [1,2,4,25,26,27] (fun y=>[.c (.ptr (0,1) 0),.c (.ptr (0,2) 0),.c (.ptr (0,3) 0),.c (.d (.sl (l.map ah.enc))),.c (.d (.i .i64 l.length)),.c (.d (.i .i64 y.1))])
  (fun y=>[.seed n,.box [.d (.s x.aQ),.d (.sl (x.aj.map ah.enc))],.box [.d (.s []),.bF [],.bF []],.box [.d (.s (tX true x).fName),.d (.ol n ((tX true x).aH.map encS)),.bI (0,4) y.2],.eG (n+1) 2 y.2]::S)
  (fun y=>y.1<=l.length/\iH y.2 (P y.1)/\((∀j,∀hj:j<l.length,j<y.1->l[j].aj≠[])->y.2=T y.1)) (fun y=>l.length-y.1) (0,[]) rfl rfl ⟨Nat.zero_le _,by rw[VD];exact .nil,fun _=>hT0.symm⟩ ?_
 rintro⟨i,U⟩ ⟨p1,p2,p3⟩;simp only at p1 p2 p3;have hU1:=p2.length;have hU2:=hPl i;have hU3:=p2.rows (hPr i);refine W1 ?_;refine S0 (fun hb h=>?_) fun hb h=>?_
 ·have hi':i<l.length:=by omega
  have hm:=List.getElem_mem hi';have hs:=hTs i hi';have hps:=hPs i hi';have hz:=hlm _ hm;have hz1:=iB l[i];have hry:=gV (l:=l[i].aj);refine W3 ?_;refine S0 (fun hb h=>?_) fun hb h=>?_
  ·have hpos:0<l[i].aj.length:=by omega
   refine W3 ?_;refine⟨⟨by omega,by omega,hry⟩,?_⟩;rw[tC _ _ _ (Nat.le_refl _)];refine C1 (Hu (l[i].aj.drop 1) (L i) (L i+1) (by rw[List.length_drop];omega) (fun t ht=>by have:=kT (List.mem_of_mem_drop ht);omega)) ?_;refine W3 ?_
   have g0:l[i].aj.getD 0 eY=l[i].aj[0]:=by rw[List.getD_eq_getElem?_getD,List.getElem?_eq_getElem hpos];rfl
   rw[g0] at hps;have hcn:(yg true l[i]).fName=l[i].aj[0].aQ:=lK hpos;rw[hcn] at hs;refine bT 5 (by decide) (i+1,_) (by simp only;omega) rfl rfl rfl rfl ⟨by simp only;omega,?_,fun hg=> ?_⟩
   ·simp only
    rw[<-hps];exact p2.snoc (.cons (.refl _) (.cons (aoH _ _) .nil))
   ·simp only
    rw[p3 fun j hj hji=>hg j hj (by simp only;omega),<-hs];rfl
  ·have hnil:l[i].aj=[]:=List.eq_nil_of_length_eq_zero (by omega)
   have g0:l[i].aj.getD 0 eY=eY:=by rw[hnil];rfl
   rw[g0,hnil] at hps;refine bT 5 (by decide) (i+1,_) (by simp only;omega) rfl rfl rfl rfl ⟨by simp only;omega,?_,fun hg=> ?_⟩
   ·simp only
    rw[<-hps];exact p2.snoc (.refl _)
   ·exact absurd hnil (hg i hi' (by simp only;omega))
 ·have hi':i=l.length:=by omega
  subst hi';clear hTs hPs;rw[hPe] at p2;refine jS (EH (tX true x) (by omega)) (.cons (gH.less (.cons (.refl _) (.cons (G8 _ _) (.cons (Qz p2) .nil)))) .nil) ?_;refine W1 ?_;refine S0 (fun hb h=>?_) fun hb h=>?_
  ·exact mU (aR fun e=>by rw[e.2.2.2.1] at h;cases h)
  have hv:=h;refine W3 ?_;refine jS (aF.less (Ac (tX true x) 0 hv (by omega)) (zm (sS (tX true x)) 0)) (.cons (gH.less (.cons (.refl _) (.cons (G8 _ _) (.cons (Qz p2) .nil)))) .nil) ?_;refine W1 ?_;refine C1 (qM (sS (tX true x)) x (by omega)) ?_;refine S0 (fun hb h=>?_) fun hb h=>?_
  ·exact mU (aR fun e=>h e.2.2.2.2)
  ·have hy:okD x=true:=bM ⟨hf.1,hf.2.1,hf.2.2,hv,h⟩
   have hgood:U=T l.length:=p3 fun j hj _ e=>by
    have h3:=congrArg (fun z=>z.aj.drop 3) h;simp only[<-hl] at h3;have h4:(sS (tX true x)).aj.drop 3=(tX true x).aC.map Cg:=rfl;rw[h4] at h3
    have h5:l[j]=Cg ((tX true x).aC[j]'(by have:=congrArg List.length h3;rw[List.length_map] at this;omega)):=by
     simp only[<-h3,List.getElem_map]
    rw[h5] at e;simp[Cg,dw] at e
   rw[hgood,hTe,amD hy,hy];exact pQ _
def E8:List C:=[.d (.s []),.bF [],.bF [],.bF [],.bF [],.bF []]
def aU.cv(p:aU):List C:=[.d (.s p.fName),.d (.sl (p.eH.map encS)),.d (.sl (p.aG.map bJ.enc)),.d (.sl (p.au.map aX.enc)),.d (.sl (p.aD.map aS.enc)),.d (.sl (p.aK.map aY.enc))]
def oC(b:Bool)(r:List D)(n:Nat):List (List D):=if b=true then [fV r n] else []
def Gm(n:Nat)(bx br:List C)(nm dp:D)(n1 n2 n3 n4:Nat)(a b c d:List (List D))(mo:List Obj):List Obj:=.seed n:: .box bx:: .box br:: .box [.d nm,.d dp,.bI (0,4) a,.bI (0,5) b,.bI (0,6) c,.bI (0,7) d]:: .eG n1 5 a:: .eG n2 3 b:: .eG n3 12 c:: .eG n4 16 d::mo
def unD:C->D
 | .d x=>x
 |_=>.s []
theorem amH{r:List D}{cs:List C}(h:r.map C.d=cs):r=cs.map unD:=by
 subst h;rw[List.map_map];exact(List.map_id r).symm
theorem DN{b:Bool}{r:List D}{n:Nat}{cs:List C}(h:b=true)(hc:(fV r n).map C.d=cs):oC b r n=[cs.map unD]:=by
 unfold oC;rw[if_pos h,amH hc]
theorem je{b:Bool}{r:List D}{n:Nat}(h:b=false):oC b r n=[]:=by
 unfold oC;rw[if_neg (by rw[h];decide)]
theorem amI(x:aX)(n:Nat):(fV x.enc n).map C.d=[.d (.s x.fName),.d (.ol n (x.aH.map encS)),.d (.ol (n+1) (lc x.aC (n+1+1)))]:=by rw[amF];rfl
def Dj(p:aU)(n:Nat):Nat:=n+1+(lI (p.aG.map bJ.enc)+1)
def Dk(p:aU)(n:Nat):Nat:=Dj p n+(lI (p.au.map aX.enc)+1)
def E9(p:aU)(n:Nat):Nat:=Dk p n+(lI (p.aD.map aS.enc)+1)
theorem N7(p:aU)(n:Nat):fV p.enc n=[.s p.fName,.ol n (p.eH.map encS),.ol (n+1) (eZ (p.aG.map bJ.enc) (n+1+1)),.ol (Dj p n) (eZ (p.au.map aX.enc) (Dj p n+1)),.ol (Dk p n) (eZ (p.aD.map aS.enc) (Dk p n+1)),.ol (E9 p n) (eZ (p.aK.map aY.enc) (E9 p n+1))]:=by
 simp only[aU.aJ,fV,vB,vw,Nat.add_zero,vC,xD,Nat.zero_add,Dj,Dk,E9]
theorem FU{α:Type}(s:List UInt8)(f:ah->α)(e:α->List D){l:List ah}{i:Nat}(hi:i<l.length)(n:Nat):
 eZ ((((l.take (i+1)).filter (isK s)).map f).map e) n=eZ ((((l.take i).filter (isK s)).map f).map e) n++oC (isK s l[i]) (e (f l[i])) (n+lI ((((l.take i).filter (isK s)).map f).map e)):=by
 rw[ajQ _ _ hi,List.map_append,pJ];congr 1;unfold oC;split<;>rfl
theorem Jg{α:Type}(s:List UInt8)(f:ah->α)(e:α->List D)(l:List ah)(i n:Nat):(eZ ((((l.take i).filter (isK s)).map f).map e) n).length<=i:=by
 rw[lg,List.length_map];exact amz s f l i
theorem agt(e:aU)(h:e=QK)(n:Nat)(ok:Bool):Less (.fF [(true,E8),(false,[.d (.b ok)])]) (.fF [(true,(fV e.enc n).map .d),(false,[.d (.b ok)])]):=by
 subst h;rw[N7];exact(kU.cons (.cons (.refl _) (.cons (dX _) (.cons (dX _) (.cons (dX _) (.cons (dX _) (.cons (dX _) .nil)))))) (.refl _)).less
theorem Zr(y:ah)(hsz:y.sz<=1048576)(n:Nat)(bx br:List C)(nm dp:D)(n1 n2 n3 n4:Nat)(q1 q2 q3 q4:Nat)(a b c d:List (List D))(mo:List Ab.Obj)(Ω:Store)(ha:a.length<=1048576)(hb:b.length<=1048576)(hc:c.length<=1048576)(hd:d.length<=1048576):
 bX prog 72 [.c (.ptr (0,3) 0),y.v] (Gm n bx br nm dp n1 n2 n3 n4 a b c d mo::Ω) (fun r S'=>r=.c (.d (.b (oz y)))/\S'=Gm n bx br nm dp n1 n2 n3 n4 (a++oC (isK lC y) (xH y).enc q1) (b++oC (isK qd y) (xV y).enc q2) (c++oC (isK mh y) (rX y).enc q3) (d++oC (isK Af y) (xG y).enc q4) mo::Ω):=by
 have hg:∀h0:0<y.aj.length,y.aj[0].aQ=dQ y.aj 0:=fun h0=>(lK h0).symm;obtain⟨A,hA'⟩:∃A,A=oC (isK lC y) (xH y).enc q1:=⟨_,rfl⟩;obtain⟨B,hB'⟩:∃A,A=oC (isK qd y) (xV y).enc q2:=⟨_,rfl⟩;obtain⟨C,hC'⟩:∃A,A=oC (isK mh y) (rX y).enc q3:=⟨_,rfl⟩;obtain⟨D,hD'⟩:∃A,A=oC (isK Af y) (xG y).enc q4:=⟨_,rfl⟩;rw[<-hA',<-hB',<-hC',<-hD'];have QM:∀{s},dQ y.aj 0=s->isK s y=true:=fun h=>decide_eq_true h;have La:∀{s},¬dQ y.aj 0=s->isK s y=false:=fun h=>decide_eq_false h;unfold Gm;refine zcx [.tmp 4] func72 ntmps72 ?_;refine W1 ?_;refine S0 (fun hb h=>?_) fun hb h=>?_
 ·have h0:y.aj=[]:=List.eq_nil_of_length_eq_zero (by omega);have hn:∀s,s≠[]->isK s y=false:=fun s hs=>La (by rw[h0];exact fun e=>hs e.symm);have m1:=hn lC (by decide);have m2:=hn qd (by decide);have m3:=hn mh (by decide);have m4:=hn Af (by decide)
  have e0:oz y=false:=by unfold oz;simp only[m1,m2,m3,m4,if_false,Bool.false_eq_true]
  rw[e0,hA',hB',hC',hD',je m1,je m2,je m3,je m4];simp only[List.append_nil];exact⟨trivial,trivial⟩
 have h0:0<y.aj.length:=by omega
 refine W3 ?_;simp only[hg h0];refine S0 (fun hb h=>?_) fun hb h=>?_
 ·have k1:isK lC y=true:=QM h
  have e0:oz y=CV y:=by unfold oz;simp only[k1,if_false,if_true,Bool.false_eq_true]
  have hA:=(hA').trans (DN k1 (XV _ _));simp only[List.map_cons,List.map_nil,unD] at hA;have hB:=(hB').trans (je (fT k1 (by decide)));have hC:=(hC').trans (je (fT k1 (by decide)));have hD:=(hD').trans (je (fT k1 (by decide)));rw[e0,hA,hB,hC,hD];refine C1 (Uy y q1 hsz) ?_;refine W3 ?_;omega
 have m1:isK lC y=false:=La h;refine S0 (fun hb h=>?_) fun hb h=>?_
 ·have k1:isK qd y=true:=QM h
  have e0:oz y=okD y:=by unfold oz;simp only[m1,k1,if_false,if_true,Bool.false_eq_true]
  have hA:=(hA').trans (je (fT k1 (by decide)));have hB:=(hB').trans (DN k1 (amI _ _));simp only[List.map_cons,List.map_nil,unD] at hB;have hC:=(hC').trans (je (fT k1 (by decide)));have hD:=(hD').trans (je (fT k1 (by decide)));rw[e0,hA,hB,hC,hD];refine C1 (QL y q2 hsz) ?_;refine W3 ?_;omega
 have m2:isK qd y=false:=La h;refine S0 (fun hb h=>?_) fun hb h=>?_
 ·have k1:isK mh y=true:=QM h
  have e0:oz y=Di y:=by unfold oz;simp only[m1,m2,k1,if_false,if_true,Bool.false_eq_true]
  have hA:=(hA').trans (je (fT k1 (by decide)));have hB:=(hB').trans (je (fT k1 (by decide)));have hC:=(hC').trans (DN k1 (amt _ _));simp only[List.map_cons,List.map_nil,unD] at hC;have hD:=(hD').trans (je (fT k1 (by decide)));rw[e0,hA,hB,hC,hD];refine C1 (XT y q3 hsz) ?_;refine W3 ?_;omega
 have m3:isK mh y=false:=La h;refine S0 (fun hb h=>?_) fun hb h=>?_
 ·have k1:isK Af y=true:=QM h
  have e0:oz y=okF y:=by unfold oz;simp only[m1,m2,m3,k1,if_false,if_true,Bool.false_eq_true]
  have hA:=(hA').trans (je (fT k1 (by decide)));have hB:=(hB').trans (je (fT k1 (by decide)));have hC:=(hC').trans (je (fT k1 (by decide)));have hD:=(hD').trans (DN k1 (amr _ _));simp only[List.map_cons,List.map_nil,unD] at hD;rw[e0,hA,hB,hC,hD];refine C1 (Ux y q4 hsz) ?_;refine W3 ?_;omega
 have m4:isK Af y=false:=La h
 have e0:oz y=false:=by unfold oz;simp only[m1,m2,m3,m4,if_false,Bool.false_eq_true]
 rw[e0,hA',hB',hC',hD',je m1,je m2,je m3,je m4];simp only[List.append_nil];exact⟨trivial,trivial⟩
theorem XZ(x:ah)(n:Nat)(hsz:x.sz<=1048576):aF prog 25 [x.v] (.fF [(true,(fV (TV x).enc n).map .d),(false,[.d (.b (Hy x))])]):=aF.of_le fun S=>by
 have h1:=iB x;obtain⟨l,hl⟩:∃l,l=x.aj.drop 3:=⟨_,rfl⟩
 have hll:l.length<=1048576:=by rw[hl,List.length_drop];omega
 have hlen:l.length=x.aj.length-3:=by rw[hl,List.length_drop]
 have hlm:∀y∈l,y.sz<=1048576:=fun y hy=>by
  have:=kT (List.mem_of_mem_drop (hl▸hy));omega
 have mU:Hy x=false->Less (.fF [(true,E8),(false,[.d (.b false)])]) (.fF [(true,(fV (TV x).enc n).map .d),(false,[.d (.b (Hy x))])]):=fun e=>by
  rw[e];exact agt _ (aoC e) n false
 refine lq (n) (rs:=[.cell 2 49,.tmp 3]) zmx func25 ntmps25 rfl rfl rfl rfl rfl ?_;refine W1 ?_;refine C1 (vG x aoB 3 (by omega) (by omega) (by omega)) ?_;refine S0 (fun hb h=>?_) fun hb h=>?_
 ·exact mU (aR fun e=>h ⟨e.1.1,e.1.2.1,e.1.2.2.1⟩)
 have hf:=h;have h3:3<=x.aj.length:=hf.2.1;refine W3 ?_;have g2:x.aj[2]=gX x.aj 2:=(jO (by omega)).symm;have a1:x.aj[1].aQ=dQ x.aj 1:=(lK (by omega)).symm;simp only[g2];refine S0 (fun hb h=>?_) fun hb h=>?_
 ·exact mU (aR fun e=>h e.1.2.2.2.1)
 have hz2:=h;refine W3 ?_;have hvs:=uN hf.1;obtain⟨F,hF⟩:∃F,F=decP x:=⟨_,rfl⟩
 have hnm:(gX x.aj 2).aj.length<=1073741824:=by
  have:=Bh x.aj 2;have:=iB (gX x.aj 2);have:(gX x.aj 2).sz<=dA x.aj:=Bh x.aj 2;omega
 have hc:=Am (gX x.aj 2).aj hnm n;rw[<-g2] at hc;refine bD hc ?_;refine W1 ?_;refine W3 ?_;refine⟨⟨by omega,by omega,gV⟩,?_⟩;rw[tC _ _ _ (Nat.le_refl _),<-hl];refine W1 ?_;refine oW (n+1) 3 2 5 _ rfl rfl ?_;refine oW (Dj F n) 3 3 3 _ rfl rfl ?_;refine oW (Dk F n) 3 4 12 _ rfl rfl ?_;refine oW (E9 F n) 3 5 16 _ rfl rfl ?_;obtain⟨T1,hT1⟩:∃T:Nat->List (List D),T=fun i=>eZ ((((l.take i).filter (isK lC)).map xH).map bJ.enc) (n+1+1):=⟨_,rfl⟩;obtain⟨T2,VG⟩:∃T:Nat->List (List D),T=fun i=>eZ ((((l.take i).filter (isK qd)).map xV).map aX.enc) (Dj F n+1):=⟨_,rfl⟩;obtain⟨T3,ER⟩:∃T:Nat->List (List D),T=fun i=>eZ ((((l.take i).filter (isK mh)).map rX).map aS.enc) (Dk F n+1):=⟨_,rfl⟩;obtain⟨T4,hT4⟩:∃T:Nat->List (List D),T=fun i=>eZ ((((l.take i).filter (isK Af)).map xG).map aY.enc) (E9 F n+1):=⟨_,rfl⟩
 have z1:T1 0=[]:=by rw[hT1];rfl
 have z2:T2 0=[]:=by rw[VG];rfl
 have z3:T3 0=[]:=by rw[ER];rfl
 have z4:T4 0=[]:=by rw[hT4];rfl
 have t1:∀i,(T1 i).length<=i:=fun i=>by rw[hT1];exact Jg _ _ _ _ _ _
 have t2:∀i,(T2 i).length<=i:=fun i=>by rw[VG];exact Jg _ _ _ _ _ _
 have t3:∀i,(T3 i).length<=i:=fun i=>by rw[ER];exact Jg _ _ _ _ _ _
 have t4:∀i,(T4 i).length<=i:=fun i=>by rw[hT4];exact Jg _ _ _ _ _ _
 have aqj:∀i (hi:i<l.length) (mo:List Ab.Obj),bX prog 72 [.c (.ptr (0,3) 0),l[i].v] (Gm n [.d (.s x.aQ),.d (.sl (x.aj.map ah.enc))] E8 (.s x.aj[1].aQ) (.ol n ((gB x.aj[2].aj).map encS)) (n+1) (Dj F n) (Dk F n) (E9 F n) (T1 i) (T2 i) (T3 i) (T4 i) mo::S) (fun r S'=>r=.c (.d (.b (oz l[i])))/\S'=Gm n [.d (.s x.aQ),.d (.sl (x.aj.map ah.enc))] E8 (.s x.aj[1].aQ) (.ol n ((gB x.aj[2].aj).map encS)) (n+1) (Dj F n) (Dk F n) (E9 F n) (T1 (i+1)) (T2 (i+1)) (T3 (i+1)) (T4 (i+1)) mo::S):=fun i hi mo=>by
  have e1:T1 (i+1)=T1 i++oC (isK lC l[i]) (xH l[i]).enc ((n+1+1)+lI ((((l.take i).filter (isK lC)).map xH).map bJ.enc)):=by rw[hT1];exact FU lC xH bJ.enc hi (n+1+1)
  have e2:T2 (i+1)=T2 i++oC (isK qd l[i]) (xV l[i]).enc ((Dj F n+1)+lI ((((l.take i).filter (isK qd)).map xV).map aX.enc)):=by rw[VG];exact FU qd xV aX.enc hi (Dj F n+1)
  have e3:T3 (i+1)=T3 i++oC (isK mh l[i]) (rX l[i]).enc ((Dk F n+1)+lI ((((l.take i).filter (isK mh)).map rX).map aS.enc)):=by rw[ER];exact FU mh rX aS.enc hi (Dk F n+1)
  have e4:T4 (i+1)=T4 i++oC (isK Af l[i]) (xG l[i]).enc ((E9 F n+1)+lI ((((l.take i).filter (isK Af)).map xG).map aY.enc)):=by rw[hT4];exact FU Af xG aY.enc hi (E9 F n+1)
  rw[e1,e2,e3,e4];exact Zr l[i] (hlm _ (List.getElem_mem hi)) n _ _ _ _ _ _ _ _ _ _ _ _ _ _ _ _ mo S (Nat.le_trans (t1 i) (by omega)) (Nat.le_trans (t2 i) (by omega)) (Nat.le_trans (t3 i) (by omega)) (Nat.le_trans (t4 i) (by omega))
 have w1:T1 l.length=eZ (F.aG.map bJ.enc) (n+1+1):=by rw[hT1,hF];simp only;rw[List.take_length,hl];rfl
 have w2:T2 l.length=eZ (F.au.map aX.enc) (Dj F n+1):=by rw[VG,hF];simp only;rw[List.take_length,hl];rfl
 have w3:T3 l.length=eZ (F.aD.map aS.enc) (Dk F n+1):=by rw[ER,hF];simp only;rw[List.take_length,hl];rfl
 have w4:T4 l.length=eZ (F.aK.map aY.enc) (E9 F n+1):=by rw[hT4,hF];simp only;rw[List.take_length,hl];rfl
 clear hT1 VG ER hT4 hc
 have hall:allA x.aj[2].aj=(gX x.aj 2).aj.all (fun y=>decide (y.aQ≠[])):=by rw[g2];rfl
 obtain⟨B,hB⟩:∃B,B=allA x.aj[2].aj:=⟨_,rfl⟩;rw[<-hB]
 have asq:F.fName=x.aj[1].aQ:=by rw[hF];exact a1.symm
 have asr:F.eH=gB x.aj[2].aj:=by rw[hF,g2];rfl
 cases B with
 |false=>
  have hno:Hy x=false:=aR fun e=>by have:=e.1.2.2.2.2;rw[<-hall,<-hB] at this;cases this
  refine aZ (ι:=Nat) zmx rfl [2,5,6,39,40,41] (fun i=>[.c (.ptr (0,2) 0),.c (.d (.b false)),.c (.ptr (0,3) 0),.c (.d (.sl (l.map ah.enc))),.c (.d (.i .i64 l.length)),.c (.d (.i .i64 0))])
   (fun i=>Gm n [.d (.s x.aQ),.d (.sl (x.aj.map ah.enc))] E8 (.s x.aj[1].aQ) (.ol n ((gB x.aj[2].aj).map encS)) (n+1) (Dj F n) (Dk F n) (E9 F n) [] [] [] [] []::S)
   (fun i=>i=0) (fun i=>i) 0 rfl rfl rfl ?_
  rintro i p1;simp -implicitDefEqProofs (disch:=omega) only[go_sem,Gm];refine S0 (fun hb h=>?_) fun hb h=>?_
  ·refine W3 ?_;exact⟨by decide,mU hno⟩
  ·exact⟨by decide,mU hno⟩
 |true=>
  have hhead:aky x:=⟨hf.1,h3,hf.2.2,hz2,hall.symm.trans hB.symm⟩
  refine aZ (ι:=Nat) zmx rfl [2,5,6,39,40,41] (fun i=>[.c (.ptr (0,2) 0),.c (.d (.b true)),.c (.ptr (0,3) 0),.c (.d (.sl (l.map ah.enc))),.c (.d (.i .i64 l.length)),.c (.d (.i .i64 i))])
   (fun i=>Gm n [.d (.s x.aQ),.d (.sl (x.aj.map ah.enc))] E8 (.s x.aj[1].aQ) (.ol n ((gB x.aj[2].aj).map encS)) (n+1) (Dj F n) (Dk F n) (E9 F n) (T1 i) (T2 i) (T3 i) (T4 i) []::S)
   (fun i=>i<=l.length/\∀j,∀hj:j<l.length,j<i->oz l[j]=true) (fun i=>l.length-i) 0 rfl (by rw[z1,z2,z3,z4];rfl) ⟨Nat.zero_le _,fun j _ h=>by omega⟩ ?_
  rintro i ⟨p1,p2⟩;have t1:=t1 i;have t2:=t2 i;have t3:=t3 i;have t4:=t4 i;simp -implicitDefEqProofs (disch:=omega) only[go_sem,Gm];refine S0 (fun hb h=>?_) fun hb h=>?_
  ·have hi:i<l.length:=by omega
   refine W3 ?_;refine aW rfl (aqj i hi _) ?_;simp -implicitDefEqProofs (disch:=omega) only[go_sem,Gm];refine S0 (fun hb h=>?_) fun hb h=>?_
   ·exact⟨by decide,mU (aR fun e=>by have:=e.2.1 l[i] (by rw[<-hl];exact List.getElem_mem hi);rw[this] at h;cases h)⟩
   ·refine bT 8 (by decide) (i+1) (by omega) rfl rfl rfl rfl ⟨by omega,fun j hj hji=> ?_⟩;by_cases e:j=i
    ·subst e;exact h
    ·exact p2 j hj (by omega)
  ·have hi:i=l.length:=by omega
   subst hi;rw[w1,w2,w3,w4,<-asq,<-asr]
   have hits:∀y∈x.aj.drop 3,oz y=true:=fun y hy=>by
    rw[<-hl] at hy;obtain⟨j,hj,rfl⟩:=List.mem_iff_getElem.1 hy;exact p2 j hj hj
   have hcl:Less (.agg [.d (.s F.fName),.d (.ol n (F.eH.map encS)),.d (.sl (eZ (F.aG.map bJ.enc) (n+1+1))),.d (.sl (eZ (F.au.map aX.enc) (Dj F n+1))),.d (.sl (eZ (F.aD.map aS.enc) (Dk F n+1))),.d (.sl (eZ (F.aK.map aY.enc) (E9 F n+1)))]) F.v:=
    (gH.cons (.refl _) (.cons (G8 _ _) (.cons (vX (oZ _ _)) (.cons (vX (oZ _ _)) (.cons (vX (oZ _ _)) (.cons (vX (oZ _ _)) .nil)))))).less
   refine jS (sW F (by rw[hF];exact amB (by omega))) (.cons hcl .nil) ?_;refine W1 ?_
   with_reducible refine dS (fun hb=> ?_) (fun hb=> ?_)<;>have h:=hb<;>(try simp only[wf_preprocess] at h)<;>simp -implicitDefEqProofs (disch:=omega) only[go_sem,hb,false_and,if_false]<;>refine W3 ?_
   ·exact⟨by decide,mU (aR fun e=>by rw[<-hF] at e;rw[e.2.2] at h;cases h)⟩
   ·have hy:Hy x=true:=bM ⟨hhead,hits,by rw[<-hF];exact h⟩;rw[aaj hy,hy,<-hF];have hq:=N7 F n;simp only[aU.aJ] at hq;rw[hq];exact⟨by decide,pQ _⟩
theorem UA(x:ah)(n:Nat)(hsz:x.sz<=1048576):aF prog 25 [x.v] (.fF [(true,(fV (TV x).enc n).map .d),(false,[.d (.b (Hy x))])]):=XZ x n hsz
noncomputable def Ap(s:List UInt8):Bool:=qj s&&Hy (nR s)
noncomputable def Gn(s:List UInt8):aU:=if qj s=true then TV (nR s) else QK
abbrev aU.cl(p:aU)(n:Nat):List C:=[.d (.s p.fName),.d (.ol n (p.eH.map encS)),.d (.ol (n+1) (eZ (p.aG.map bJ.enc) (n+1+1))),.d (.ol (Dj p n) (eZ (p.au.map aX.enc) (Dj p n+1))),.d (.ol (Dk p n) (eZ (p.aD.map aS.enc) (Dk p n+1))),.d (.ol (E9 p n) (eZ (p.aK.map aY.enc) (E9 p n+1)))]
theorem N8(p:aU)(n:Nat):(fV p.enc n).map C.d=p.cl n:=by rw[N7];rfl
theorem QN(s:List UInt8)(n:Nat)(hs:s.length<=1048576):aF prog 22 [.c (.d (.s s))] (.fF [(true,(fV (Gn s).enc n).map .d),(false,[.d (.b (Ap s))])]):=aF.of_le fun S=>by
 rw[N8];have hz:=ajP s;have c1:=Uz s (by omega);have c2:=UA (nR s) n hz;rw[N8] at c2
 have mU:qj s=false->Less (.fF [(true,E8),(false,[.d (.b false)])]) (.fF [(true,(Gn s).cl n),(false,[.d (.b (Ap s))])]):=fun e=>by
  have e1:Gn s=QK:=if_neg (by rw[e];decide)
  have e2:Ap s=false:=by unfold Ap;rw[e];rfl
  rw[e2,<-N8];exact agt _ e1 n false
 have akz:qj s=true->Gn s=TV (nR s)/\Ap s=Hy (nR s):=fun e=>⟨if_pos e,by unfold Ap;rw[e];rfl⟩;obtain⟨X,hX⟩:∃X,X=nR s:=⟨_,rfl⟩;rw[<-hX] at c1 c2 akz;refine zcx [.cell 2 49,.tmp 3] func22 ntmps22 ?_;refine W1 ?_;refine bD c1 ?_;simp -implicitDefEqProofs (disch:=omega) only[go_sem,ah.aJ,List.map_cons,List.map_nil];refine S0 (fun hb h=>?_) fun hb h=>?_
 ·exact mU h
 ·obtain⟨q1,q2⟩:=akz h;rw[q1,q2];refine bD c2 ?_;refine W1 ?_;exact pQ _
def adj(k:List UInt8):Prop:=∀b,k.head? =some b->dh b=false
theorem ajR:adj []:=fun b h=>by cases h
theorem TW{b:UInt8}{k:List UInt8}(h:dh b=false):adj (b::k):=fun c hc=>by
 obtain rfl:b=c:=by simpa using hc
 exact h
theorem X0:∀(u k:List UInt8),u.all dh=true->adj k->(u++k).takeWhile dh=u/\(u++k).dropWhile dh=k
 |[],k,_,hk=>by
  cases k with
  |nil=>exact⟨rfl,rfl⟩
  |cons b k=>
   have:=hk b rfl;simp[List.takeWhile,List.dropWhile,this]
 |b::u,k,hu,hk=>by
  rw[List.all_cons,Bool.and_eq_true] at hu;obtain⟨h1,h2⟩:=X0 u k hu.2 hk;simp[List.takeWhile,List.dropWhile,hu.1,h1,h2]
mutual
theorem N9:∀(x:ah),iE x=true->∀k,adj k->lex (gy x++k)=wJ x++lex k
 | .mk [] l,hf,k,hk=>by
   rw[iE,if_pos rfl] at hf;rw[gy,if_pos rfl,wJ,show [40]++fZ [32] (ny l)++[41]++k=40::(fZ [32] (ny l)++(41::k)) by simp];rw[rV (tV (by decide)),if_neg (by decide),if_pos rfl,Lb l hf k]
   simp
 | .mk (b::u) l,hf,k,hk=>by
   rw[iE,if_neg (by simp),Bool.and_eq_true] at hf;have ha:=hf.1;unfold validAtom at ha;rw[Bool.and_eq_true,List.all_cons,Bool.and_eq_true] at ha;rw[gy,if_neg (by simp),wJ,List.cons_append,rV (tV (KL ha.1.1).1),if_pos ha.1.1];obtain⟨h1,h2⟩:=X0 u k ha.1.2 hk;rw[h1,h2];rfl
theorem Lb:∀(l:List ah),jv l=true->∀k,lex (fZ [32] (ny l)++(41::k))=lQ l++ .cl::lex k
 |[],_,k=>by
  show lex (41::k)=.cl::lex k;rw[rV (tV (by decide)),if_neg (by decide),if_neg (by decide),if_pos rfl]
 |[x],hf,k=>by
  rw[jv,Bool.and_eq_true] at hf;have h1:=N9 x hf.1 (41::k) (TW (by decide));have h2:=Lb [] rfl k;rw[show fZ [32] (ny [x])=gy x by simp[ny,fZ],h1];rw[show fZ [32] (ny [])++(41::k)=41::k from rfl] at h2;rw[h2];simp[lQ]
 |x::y::l,hf,k=>by
  rw[jv,Bool.and_eq_true] at hf;have h1:=N9 x hf.1 (32::(fZ [32] (ny (y::l))++(41::k))) (TW (by decide));have h2:=Lb (y::l) hf.2 k;rw[show fZ [32] (ny (x::y::l))++(41::k)=gy x++(32::(fZ [32] (ny (y::l))++(41::k))) by simp[ny,fZ],h1]
  rw[show lex (32::(fZ [32] (ny (y::l))++(41::k)))=lex (fZ [32] (ny (y::l))++(41::k)) by
   rw[<-Bd (32::_),I8 (by decide),Bd],h2]
  simp[lQ]
end
theorem X3{x:ah}(h:dV x=true):Denotes (gy x) x:=by
 have hf:=(KM h).1;have:=N9 x hf [] ajR;rw[List.append_nil,lex_nil (l:=[]) rfl,List.append_nil] at this;exact⟨h,this⟩
theorem adk{x:ah}(h:dV x=true):qj (gy x)=true/\nR (gy x)=x:=FL (X3 h)
theorem Zt:qj []=false:=by
 refine aR fun⟨x,hx⟩=> ?_;have h2:=hx.2;rw[lex_nil (l:=[]) rfl] at h2;obtain⟨a,l⟩:=x;cases a<;>simp[wJ] at h2
theorem adl(b:Bool)(x:ah):(b=true/\dV x=true/\vv b x=x)\/vv b x=eY:=by
 cases b with
 |false=>exact .inr rfl
 |true=>
  cases h:dV x with
  |true=>exact .inl ⟨rfl,rfl,if_pos h⟩
  |false=>exact .inr (if_neg (by rw[h];decide))
theorem Cr(l:List ah):(bH l).aj.length=l.length:=rfl
theorem Jh{α β:Type}{f:α->β}{q:β->Bool}(h:∀x,q (f x)=true)(l:List α):(l.map f).filter q=l.map f:=List.filter_eq_self.2 fun y hy=>by
 obtain⟨x,_,rfl⟩:=List.mem_map.1 hy;exact h x
theorem sD{α β:Type}{f:α->β}{q:β->Bool}(h:∀x,q (f x)=false)(l:List α):(l.map f).filter q=[]:=List.filter_eq_nil_iff.2 fun y hy=>by
 obtain⟨x,_,rfl⟩:=List.mem_map.1 hy;rw[h x];decide
theorem Ji{α β:Type}{f:α->β}{g:β->α}{l:List α}(h:∀x∈l,g (f x)=x):(l.map f).map g=l:=by
 rw[List.map_map]
 conv=>rhs;rw[<-List.map_id l]
 exact List.map_congr_left h
theorem aoI{d:aX}(h:fD d=true)(hx:dV (sS d)=true):okD (sS d)=true/\xV (sS d)=d:=by
 have ho:okD (sS d)=true:=bM ⟨hx,(ajy d).1,rfl,by rw[RL true h];exact h,by rw[RL true h]⟩;exact⟨ho,by unfold xV;rw[if_pos ho,RL true h]⟩
theorem amJ{d:bJ}(h:dO d=true)(hx:dV (jW d)=true):CV (jW d)=true/\xH (jW d)=d:=by
 have ho:CV (jW d)=true:=bM ⟨hx,⟨by rw[jW,Cr];simp[iX],rfl⟩,by rw[NW true h];exact h,by rw[NW true h]⟩;exact⟨ho,by unfold xH;rw[if_pos ho,NW true h]⟩
theorem aoJ{d:aS}(h:eX d=true)(hx:dV (pR d)=true):Di (pR d)=true/\rX (pR d)=d:=by
 have ho:Di (pR d)=true:=bM ⟨hx,⟨by rw[pR,Cr];simp[mR],rfl⟩,by rw[RV true h];exact h,by rw[RV true h]⟩;exact⟨ho,by unfold rX;rw[if_pos ho,RV true h]⟩
theorem aoK{d:aY}(h:jH d=true)(hx:dV (vN d)=true):okF (vN d)=true/\xG (vN d)=d:=by
 have ho:okF (vN d)=true:=bM ⟨hx,⟨by rw[vN,Cr];simp,rfl⟩,by rw[RQ true h];exact h,by rw[RQ true h]⟩;exact⟨ho,by unfold xG;rw[if_pos ho,RQ true h]⟩
theorem X4(t:bJ):isK lC (jW t)=true:=decide_eq_true rfl
theorem R6(t:aX):isK qd (sS t)=true:=decide_eq_true rfl
theorem k_in(t:aS):isK mh (pR t)=true:=decide_eq_true rfl
theorem Lc(t:aY):isK Af (vN t)=true:=decide_eq_true rfl
theorem aoL{p:aU}(h:validPkg p=true)(hp:(fE p).all dV=true)(hx:dV (rH p)=true):Hy (rH p)=true/\TV (rH p)=p:=by
 have h0:=h;unfold validPkg sj tT at h0;simp only[Bool.and_eq_true] at h0;obtain⟨⟨n1,n2,n3,n4,n5⟩,n6,i1,i2,i3,i4⟩:=h0;have hd:(rH p).aj.drop 3=fE p:=rfl;have hall:=List.all_eq_true.1 hp;have v1:∀t∈p.aG,CV (jW t)=true/\xH (jW t)=t:=fun t ht=>amJ (List.all_eq_true.1 i1 t ht) (hall _ (by unfold fE;exact List.mem_append_left _ (List.mem_map_of_mem ht)));have v2:∀t∈p.au,okD (sS t)=true/\xV (sS t)=t:=fun t ht=>aoI (List.all_eq_true.1 i2 t ht) (hall _ (by unfold fE;exact List.mem_append_right _ (List.mem_append_left _ (List.mem_map_of_mem ht))));have v3:∀t∈p.aD,Di (pR t)=true/\rX (pR t)=t:=fun t ht=>aoJ (List.all_eq_true.1 i3 t ht) (hall _ (by unfold fE;exact List.mem_append_right _ (List.mem_append_right _ (List.mem_append_left _ (List.mem_map_of_mem ht)))));have v4:∀t∈p.aK,okF (vN t)=true/\xG (vN t)=t:=fun t ht=>aoK (List.all_eq_true.1 i4 t ht) (hall _ (by unfold fE;exact List.mem_append_right _ (List.mem_append_right _ (List.mem_append_right _ (List.mem_map_of_mem ht)))));have hne:=zC n3
 have hdec:decP (rH p)=p:=by
  have e1:adb (fE p)=p.aG:=by
   unfold adb fE;rw[List.filter_append,List.filter_append,List.filter_append,Jh X4,sD (fun d=>fT (R6 d) (by decide)),sD (fun d=>fT (k_in d) (by decide)),sD (fun d=>fT (Lc d) (by decide))];simp only[List.append_nil];exact Ji fun t ht=>(v1 t ht).2
  have e2:ade (fE p)=p.au:=by
   unfold ade fE;rw[List.filter_append,List.filter_append,List.filter_append,Jh R6,sD (fun d=>fT (X4 d) (by decide)),sD (fun d=>fT (k_in d) (by decide)),sD (fun d=>fT (Lc d) (by decide))];simp only[List.append_nil,List.nil_append];exact Ji fun t ht=>(v2 t ht).2
  have e3:adf (fE p)=p.aD:=by
   unfold adf fE;rw[List.filter_append,List.filter_append,List.filter_append,Jh k_in,sD (fun d=>fT (X4 d) (by decide)),sD (fun d=>fT (R6 d) (by decide)),sD (fun d=>fT (Lc d) (by decide))];simp only[List.append_nil,List.nil_append];exact Ji fun t ht=>(v3 t ht).2
  have e4:adg (fE p)=p.aK:=by
   unfold adg fE;rw[List.filter_append,List.filter_append,List.filter_append,Jh Lc,sD (fun d=>fT (X4 d) (by decide)),sD (fun d=>fT (R6 d) (by decide)),sD (fun d=>fT (k_in d) (by decide))];simp only[List.append_nil,List.nil_append];exact Ji fun t ht=>(v4 t ht).2
  have e5:nX (rH p).aj 2=p.eH:=nS hne;unfold decP;rw[hd,e1,e2,e3,e4,e5];rfl
 have hok:Hy (rH p)=true:=by
  refine bM ⟨⟨hx,by rw[rH,Cr];simp[eF],rfl,rfl,?_⟩,fun y hy=> ?_,by rw[hdec];exact h⟩
  ·show(aO p.eH).all (fun y=>decide (y.aQ≠[]))=true;refine List.all_eq_true.2 fun y hy=> ?_;obtain⟨v,hv,rfl⟩:=List.mem_map.1 hy;exact decide_eq_true (hne v hv)
  ·rw[hd] at hy;unfold fE at hy;unfold oz;rcases List.mem_append.1 hy with hy|hy
   ·obtain⟨t,ht,rfl⟩:=List.mem_map.1 hy;rw[if_pos (X4 t)];exact(v1 t ht).1
   rcases List.mem_append.1 hy with hy|hy
   ·obtain⟨t,ht,rfl⟩:=List.mem_map.1 hy;rw[if_neg (by rw[fT (R6 t) (by decide)];decide),if_pos (R6 t)];exact(v2 t ht).1
   rcases List.mem_append.1 hy with hy|hy
   ·obtain⟨t,ht,rfl⟩:=List.mem_map.1 hy;rw[if_neg (by rw[fT (k_in t) (by decide)];decide),if_neg (by rw[fT (k_in t) (by decide)];decide),if_pos (k_in t)];exact(v3 t ht).1
   ·obtain⟨t,ht,rfl⟩:=List.mem_map.1 hy;rw[if_neg (by rw[fT (Lc t) (by decide)];decide),if_neg (by rw[fT (Lc t) (by decide)];decide),if_neg (by rw[fT (Lc t) (by decide)];decide),if_pos (Lc t)];exact(v4 t ht).1
 exact⟨hok,(aaj hok).trans hdec⟩
theorem ajS(p:aU):¬((rH p).aQ=[]/\(rH p).aj.length=0):=fun h=>by
 have:=h.2;rw[rH,Cr] at this;simp[eF] at this
theorem rtP(p:aU):Ap (vE (qB p))=dec (vE (qB p)≠[])/\(Ap (vE (qB p))=true->Gn (vE (qB p))=p/\validPkg p=true):=by
 have hno:∀s:List UInt8,s=[]->Ap s=dec (s≠[])/\(Ap s=true->Gn s=p/\validPkg p=true):=fun s hs=>by
  have:Ap s=false:=by unfold Ap;rw[hs,Zt];rfl
  rw[this,hs];exact⟨(aR fun h=>h rfl).symm,fun h=>by cases h⟩
 rcases adl (validPkg p&&(fE p).all dV) (rH p) with⟨h1,h2,h3⟩|h
 ·have e:qB p=rH p:=h3;rw[Bool.and_eq_true] at h1;obtain⟨q1,q2⟩:=aoL h1.1 h1.2 h2;obtain⟨p1,p2⟩:=adk h2
  have hf:vE (rH p)=gy (rH p):=by
   unfold vE;rw[if_neg (ajS p),Bf,if_pos h2]
  have hne:gy (rH p)≠[]:=by
   rw[NM];split
   ·simp
   ·assumption
  rw[e,hf];refine⟨?_,fun _=>⟨?_,h1.1⟩⟩
  ·rw[bM hne];unfold Ap;rw[p1,p2,q1];rfl
  ·unfold Gn;rw[if_pos p1,p2,q2]
 ·have e:qB p=eY:=h;rw[e];exact hno _ (if_pos ⟨rfl,rfl⟩)
end Go.Ab
namespace Go.Proofs.YtlaaknnkeidlbaaGreatDoor.fnPkgText
open Go Go.Ab
theorem ajT{bs:List Int}(hB:Bytes bs):aF prog 17 [.c (.d (.sl (bs.map Ev)))] (NZ (Ry bs)).1.v:=fun S=>by
 refine zcx [.cell 2 49] func17 ntmps17 ?_;refine W1 ?_;refine aW rfl (aiV hB _ _) ?_;refine W1 ?_;refine aW rfl (agm hB (Ry bs) 0 1 _ rfl) ?_;exact Z1
 first|done|rfl
theorem law(x0:List Int)(b0:∀x∈x0,0<=x/\x<=255):bX prog 4 [.c (.d (.sl (x0.map Ev)))] [] (fun r _=>r=.c (.d (.b true))):=by
 refine zcx [.tmp 2] func4 ntmps4 ?_;refine W1 ?_;refine C1 (an3 x0) ?_;refine S1 fun hb h=>?_;have hBs:Bytes x0:=⟨by omega,b0⟩;have p1:=ajT hBs;have hps:=amx (Ry x0);obtain⟨p,hp⟩:∃p,p=(NZ (Ry x0)).1:=⟨_,rfl⟩;rw[<-hp] at p1 hps;clear hp;have hsum:=aU.sum p;have e1:=R4 p (by omega);have e2:=R5 p (by omega);have v1:=sW p (by omega);have v2:=wI p (by omega);obtain⟨r1,r2⟩:=rtP p;have ht:=aji (qB p);obtain⟨T,hT⟩:∃T,T=vE (qB p):=⟨_,rfl⟩;rw[<-hT] at e1 e2 r1 r2 ht;clear hT
 have d1:aF prog 22 [.c (.d (.s T))] (.fF [(true,(Gn T).enc.map .d),(false,[.d (.b (Ap T))])]):=
  aF.less (QN T 0 (by omega)) (afs fun w σ S β vs h=>afc h)
 have r3:T≠[]->Gn T=p:=fun h=>(r2 (by rw[r1];exact bM h)).1;obtain⟨u,hu⟩:∃u,u=Gn T:=⟨_,rfl⟩;rw[<-hu] at d1 r3;rw[r1] at d1;clear hu r1 r2;simp only[aU.aJ,List.map_cons,List.map_nil] at d1;refine bD p1 ?_;refine W1 ?_;refine bD e1 ?_;refine W1 ?_;refine bD e2 ?_;simp -implicitDefEqProofs (disch:=omega) only[go_sem,bM rfl,Bool.not_true];refine bD v1 ?_;simp -implicitDefEqProofs (disch:=omega) only[go_sem,bM rfl,Bool.not_true];refine bD v2 ?_;simp -implicitDefEqProofs (disch:=omega) only[go_sem,bM rfl,Bool.not_true];refine bD d1 ?_;by_cases hT0:T=[]
 ·subst hT0;have k1:dec (([]:List UInt8)≠[])=false:=aR fun h=>h rfl;simp -implicitDefEqProofs (disch:=omega) only[go_sem,k1,bM rfl,Bool.not_true,Bool.not_false]
  first|done|rfl
 ·have k1:dec (T≠[])=true:=bM hT0;have k2:decide (T=[])=false:=decide_eq_false hT0;have hup:=r3 hT0;subst hup;simp -implicitDefEqProofs (disch:=omega) only[go_sem,k1,k2,bM rfl,Bool.not_true,Bool.not_false];refine bD e2 ?_;simp -implicitDefEqProofs (disch:=omega) only[go_sem,k1,k2,bM rfl,Bool.not_true,Bool.not_false];refine bD (O0 u.eH u.eH (by omega)) ?_;simp -implicitDefEqProofs (disch:=omega) only[go_sem,k1,k2,bM rfl,Bool.not_true,Bool.not_false]
  first|done|rfl
end Go.Proofs.YtlaaknnkeidlbaaGreatDoor.fnPkgText
namespace Go.Ab
theorem UC{H:Type}{enc:TypeId×Value->H}{P:Program}{w:World}{base:Nat}{sp:Nat->Bool}{held:Bool}{fuel n:Nat}{t e:TypeId}{k:IntKind}{cs:List Value}{ns:List Int}{p:List MemPlace}
 (ht:P.underlying t=some (.array n e))(he:P.underlying e=some (.int k))(ce:P.cellsOf e=1)(ct:P.cellsOf t=n)
 (h:DataW.trod enc P w base sp held fuel t cs=some (.agg (ns.map fun z=>.lit (.int k z)),p)):cs=ns.map (Value.int k ·):=by
 obtain⟨xs,m,_,ex,hlen,hl,hel⟩:=DataW.trod_array ht h;rw[ct] at hlen;have e3:=DataW.agg.inj (Prod.mk.inj ex).1
 have hns:ns.length=n:=by have:=congrArg List.length e3;simpa [hl] using this
 refine List.ext_getElem (by rw[hlen,List.length_map,hns]) fun i h1 h2=> ?_;have k0:=hel i (by omega);rw[ce,Nat.mul_one] at k0
 have hd:(cs.drop i).take 1=[cs[i]]:=by
  rw[List.drop_eq_getElem_cons h1];rfl
 rw[hd,List.getElem?_eq_getElem (by omega)] at k0;obtain⟨z,a,b,_⟩:=DataW.trod_int he k0
 have e4:(ns.map fun z=>(DataW.lit (Lit.int k z):DataW H))[i]'(by rw[List.length_map];omega)=(xs.map (·.1))[i]'(by rw[List.length_map];omega):=by simp only[e3]
 rw[List.getElem_map,List.getElem_map,b] at e4;simp only[DataW.lit.injEq,Lit.int.injEq,true_and] at e4;rw[List.getElem_map,e4];simpa using a
theorem Ld{P:Program}{w:World}{n:String}{g:Nat}{cs:Array Value}(hg:P.globalNamed n=some g)(h:w.var? P n=some cs):∃t fz,w.heap[g]? =some (.cells cs t fz):=by
 unfold World.var? at h;rw[hg] at h;simp only[Option.bind_some] at h;split at h
 ·rename_i c t fz hh;cases h;exact⟨t,fz,hh⟩
 ·cases h
open Go.ChangeShapes Go.RowKit
theorem gES:prog.globalNamed "strconv.ErrSyntax" =some 1:=by kernel_rfl
theorem amK:(prog.globals[1]?).map (·.type)=some 190:=by kernel_rfl
theorem gER:prog.globalNamed "strconv.ErrRange" =some 2:=by kernel_rfl
theorem amL:(prog.globals[2]?).map (·.type)=some 190:=by kernel_rfl
theorem cellsE:prog.cellsOf 293=1:=by kernel_rfl
theorem cellsS:prog.cellsOf 9=1:=by kernel_rfl
theorem akA: "*" ++ "errors.errorString" = "*errors.errorString" :=by decide
theorem aoM(u:TypeId)(h:prog.typeName? 3 u=some "*errors.errorString"):u=291:=
 typeName_ptr_named (nm:= "errors.errorString") (by rw[akA];kernel_rfl) (by kernel_rfl) (by decide) u (by rw[akA];exact h)
theorem X5{W:World}{r:List (String×DataW Unit)}(hr:(r.all fun x=>x.2.handleName?.isNone)=true)
 (h0:laidMetH prog (("math/bits.deBruijn32tab",YtlaaknnkeidlbaaGreatDoor.Rows.laid_math_bits_deBruijn32tab)::("math/bits.deBruijn64tab",YtlaaknnkeidlbaaGreatDoor.Rows.laid_math_bits_deBruijn64tab)::("internal/strconv.uint64pow10",YtlaaknnkeidlbaaGreatDoor.Rows.laid_internal_strconv_uint64pow10)::("strconv.ErrRange",YtlaaknnkeidlbaaGreatDoor.Rows.laid_strconv_ErrRange)::("strconv.ErrSyntax",YtlaaknnkeidlbaaGreatDoor.Rows.laid_strconv_ErrSyntax)::r) W):lS W (kS W):=by
 rw[MakeChecks.laidMetH_plain _ _ _ (by
  rw[List.all_cons,List.all_cons,List.all_cons,List.all_cons,List.all_cons,hr];kernel_rfl)] at h0
 have hR:=h0.tail.tail.tail;have hS:=hR.tail;obtain⟨a1,s1,hv1,_,_,_⟩:=laid_sentinel hR gER amL underlying190 aoM underlying291 underlying293 rfl rfl underlying9 cellsE cellsS;obtain⟨a2,s2,hv2,_,_,_⟩:=laid_sentinel hS gES amK underlying190 aoM underlying291 underlying293 rfl rfl underlying9 cellsE cellsS;obtain⟨t1,Fj,Jm⟩:=Ld gER hv1;obtain⟨t2,fz2,yu⟩:=Ld gES hv2;obtain⟨ps,⟨_,_,_,_,_,_,_,_,_,_,⟨_,_,_,_,_,_,_,_,_,_,⟨g,t,cs,fuel,p,q,hg,ht,hv,hd,_,_⟩,_⟩,_⟩,_,_⟩:=h0
 have hn:prog.globalNamed "internal/strconv.uint64pow10" =some 3:=by kernel_rfl
 obtain rfl:=Option.some.inj (hn.symm.trans hg);obtain rfl:=Option.some.inj ((show(prog.globals[3]?).map (·.type)=some 285 by kernel_rfl).symm.trans ht)
 have hl:(YtlaaknnkeidlbaaGreatDoor.Rows.laid_internal_strconv_uint64pow10:DataW Unit)=.agg (((List.range 20).map fun i=>((10^i:Nat):Int)).map fun z=>.lit (.int .u64 z)):=by kernel_rfl
 rw[hl] at hd;have e:=UC underlying285 underlying268 (by kernel_rfl) (by kernel_rfl) hd;obtain⟨t',fz,hh⟩:=Ld hg hv;intro g' p' hm
 have fast:∀{b:Nat}{c:Array Value}{t:TypeId}{fz:Nat×Nat},W.heap[b]? =some (.cells c t fz)->c.size<=kS W b:=fun {b c t fz} hb=>by
  unfold kS;rw[hb];exact Nat.le_refl _
 rcases List.mem_cons.1 hm with hm|hm
 ·cases hm;refine⟨cs,t',fz,hh,?_,fast hh⟩;show cs.toList=_;rw[e,List.map_map];rfl
 rcases List.mem_cons.1 hm with hm|hm
 ·cases hm;exact⟨_,t1,Fj,Jm,⟨_,_,rfl⟩,fast Jm⟩
 ·have hm':=List.eq_of_mem_singleton hm;cases hm';exact⟨_,t2,fz2,yu,⟨_,_,rfl⟩,fast yu⟩
theorem agv{P:Program}{n:Nat}{t:TypeId}{ds:List D}(h:WT P n t ds):∃m,n=m+1:=by
 cases n with
 |zero=>exact h.elim
 |succ m=>exact⟨m,rfl⟩
theorem aoN{P:Program}{n:Nat}{t:TypeId}{k:IntKind}{ds:List D}(ht:P.underlying t=some (.int k))(h:WT P n t ds):∃x,ds=[.i k x]/\(Lit.int k x).wf=true:=by
 obtain⟨m,rfl⟩:=agv h;simp only[WT,ht] at h;exact h
theorem ajU{P:Program}{n:Nat}{t e:TypeId}{ds:List D}(ht:P.underlying t=some (.slice e))(h:WT P n t ds):∃es m,m<n/\ds=[.sl es]/\∀x∈es,WT P m e x:=by
 obtain⟨m,rfl⟩:=agv h;simp only[WT,ht] at h;obtain⟨es,h1,_,h2⟩:=h;exact⟨es,m,by omega,h1,fun x hx=>(h2 x hx).2⟩
theorem aal{P:Program}{W:TypeId->List D->Prop}(hW:∀t ds,W t ds->Ep ds):∀(fs:List Field)(ds:List D),WTF P W fs ds->Ep ds
 |[],ds,h=>by
  have h:ds=[]:=h;rw[h];exact Er
 |f::fs,ds,h=>by
  obtain⟨a,b,rfl,_,h1,h2⟩:=h;exact YH.2 ⟨hW _ _ h1,aal hW fs b h2⟩
theorem X6{P:Program}:∀(n:Nat)(t:TypeId)(ds:List D),WT P n t ds->Ep ds
 |0,t,ds,h=>h.elim
 |n+1,t,ds,h=>by
  simp only[WT] at h;split at h
  ·obtain⟨b,rfl⟩:=h;exact Fv.2 ⟨.b _,Er⟩
  ·obtain⟨b,rfl,_⟩:=h;exact Fv.2 ⟨.i _ _,Er⟩
  ·obtain⟨l,rfl,hl⟩:=h;exact Fv.2 ⟨.s _ hl,Er⟩
  ·obtain⟨es,rfl,hl,hh⟩:=h;exact Fv.2 ⟨.sl _ hl fun e he d hd=>X6 n _ e (hh e he).2 d hd,Er⟩
  ·exact aal (X6 n) _ _ h
  ·exact h.elim
end Go.Ab