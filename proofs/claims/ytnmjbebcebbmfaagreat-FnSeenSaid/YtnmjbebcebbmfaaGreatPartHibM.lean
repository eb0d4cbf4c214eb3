/-
  SEVERAL TEXTS IN ONE (merged by program): contracts and models, each with its own heading.
-/
import Derived.Test.YtnmjbebcebbmfaaGreatPartHibL
set_option maxHeartbeats 8000000
open Go.Proofs Go.Proofs.Tryz
set_option linter.unusedSimpArgs false
set_option linter.unusedVariables false
set_option maxRecDepth 8000
namespace Go.Ab
theorem I6{bs:List Int}(hB:Bytes bs)(c c2:Cu bs)(k:Int)(l j:Nat)(S:Store)(hk:aN S (l,j)=some (.box (cur c)))(h2:aD 10 c=(k,c2))(hk3:k=2\/k=3):
 bK prog 49 [.c (.ptr (l,j) 0)] S (fun r S1=>r=(qm k c2).1.v/\S1=aP S (l,j) (.box (cur (qm k c2).2))):=by
 have g:∀x:Ab.Obj,aN (aP S (l,j) x) (l,j)=some x:=fun x=>bP _ _ _ _ hk;have q2:=fun fr:List Ab.Obj=>dB hB c (1+l) j (fr::S) 10 (by rw[aQ];exact hk) (by omega) (by omega);simp only[h2,dh] at q2;obtain⟨q,hq⟩:∃q,q=qm k c2:=⟨_,rfl⟩;rw[<-hq];refine bK.of_le ?_;refine wo [34] (rs:=[.cell 2 69]) zmx func49 ntmps49 rfl rfl rfl rfl rfl ?_;simp -implicitDefEqProofs (disch:=omega) only[go_sem];refine au (eH _) ?_;simp -implicitDefEqProofs (disch:=omega) only[go_sem];refine au (eH _) ?_;simp -implicitDefEqProofs (disch:=omega) only[go_sem]
 (repeat(with_reducible refine And.intro ?_ ?_;focus first|omega|rfl|assumption|exact⟨_,rfl,rfl⟩|(simp;omega)|(simp;done)))
 refine au (qR [108,105,115,116] [kT [97]] rfl (by decide) (.inl rfl)) ?_;simp -implicitDefEqProofs (disch:=omega) only[go_sem]
 (repeat(with_reducible refine And.intro ?_ ?_;focus first|omega|rfl|assumption|exact⟨_,rfl,rfl⟩|(simp;omega)|(simp;done)))
 refine bq rfl (q2 _) ?_;rcases hk3 with rfl|rfl
 ·simp only[qm,reduceIte,Int.reduceEq] at hq;simp -implicitDefEqProofs (disch:=omega) only[go_sem];refine bq rfl (vk hB 2 c2 (1+l) j _ (by rw[aQ];exact g _) (by omega)) ?_;simp -implicitDefEqProofs (disch:=omega) only[go_sem]
  (repeat(with_reducible refine And.intro ?_ ?_;focus first|omega|rfl|assumption|exact⟨_,rfl,rfl⟩|(simp;omega)|(simp;done)))
  refine⟨by cases l<;>rfl,?_⟩;simp -implicitDefEqProofs (disch:=omega) only[go_sem];rw[hq];exact lend
 ·simp only[qm,reduceIte,Int.reduceEq] at hq;simp -implicitDefEqProofs (disch:=omega) only[go_sem];refine dJ [true] rfl (dU hB c2 (1+l) j _ JK (by rw[aQ];exact g _) (by decide) (by decide)) ?_;simp -implicitDefEqProofs (disch:=omega) only[go_sem]
  (repeat(with_reducible refine And.intro ?_ ?_;focus first|omega|rfl|assumption|exact⟨_,rfl,rfl⟩|(simp;omega)|(simp;done)))
  refine⟨by cases l<;>rfl,?_⟩;simp -implicitDefEqProofs (disch:=omega) only[go_sem];rw[hq];exact lend
theorem UU{bs:List Int}(hB:Bytes bs)(c c2:Cu bs)(k:Int)(l j:Nat)(S:Store)(hk:aN S (l,j)=some (.box (cur c)))(h2:aD 10 c=(k,c2))(hk2:k≠2)(hk3:k≠3):
 bK prog 49 [.c (.ptr (l,j) 0)] S (fun r S1=>r=(qm k c2).1.v/\S1=aP S (l,j) (.box (cur (qm k c2).2))):=by
 have g:∀x:Ab.Obj,aN (aP S (l,j) x) (l,j)=some x:=fun x=>bP _ _ _ _ hk;have q2:=fun fr:List Ab.Obj=>dB hB c (1+l) j (fr::S) 10 (by rw[aQ];exact hk) (by omega) (by omega);simp only[h2,dh] at q2;obtain⟨q,hq⟩:∃q,q=qm k c2:=⟨_,rfl⟩;rw[<-hq];refine bK.of_le ?_;refine rF [34] (rs:=[.cell 2 69]) zmx func49 ntmps49 rfl rfl rfl rfl rfl ?_;simp -implicitDefEqProofs (disch:=omega) only[go_sem];refine au (eH _) ?_;simp -implicitDefEqProofs (disch:=omega) only[go_sem];refine au (eH _) ?_;simp -implicitDefEqProofs (disch:=omega) only[go_sem]
 (repeat(with_reducible refine And.intro ?_ ?_;focus first|omega|rfl|assumption|exact⟨_,rfl,rfl⟩|(simp;omega)|(simp;done)))
 refine au (qR [108,105,115,116] [kT [97]] rfl (by decide) (.inl rfl)) ?_;simp -implicitDefEqProofs (disch:=omega) only[go_sem]
 (repeat(with_reducible refine And.intro ?_ ?_;focus first|omega|rfl|assumption|exact⟨_,rfl,rfl⟩|(simp;omega)|(simp;done)))
 refine bq rfl (q2 _) ?_;simp -implicitDefEqProofs (disch:=omega) only[go_sem]
 with_reducible refine aj (fun hb=> ?_) (fun hb=> ?_)<;>have h:=hb<;>(try simp only[wf_preprocess] at h)<;>simp -implicitDefEqProofs (disch:=omega) only[go_sem,hb]<;>(repeat(with_reducible refine And.intro ?_ ?_;focus first|omega|rfl|assumption|exact⟨_,rfl,rfl⟩|(simp;omega)|(simp;done)))
 ·subst h;simp only[qm,reduceIte,Int.reduceEq] at hq;refine dJ [true] rfl (dU hB c2 (1+l) j _ z8 (by rw[aQ];exact g _) (by decide) (by decide)) ?_;simp -implicitDefEqProofs (disch:=omega) only[go_sem]
  (repeat(with_reducible refine And.intro ?_ ?_;focus first|omega|rfl|assumption|exact⟨_,rfl,rfl⟩|(simp;omega)|(simp;done)))
  refine⟨by cases l<;>rfl,?_⟩;simp -implicitDefEqProofs (disch:=omega) only[go_sem];rw[hq];exact lend
 have e0:=h
 with_reducible refine aj (fun hb=> ?_) (fun hb=> ?_)<;>have h:=hb<;>(try simp only[wf_preprocess] at h)<;>simp -implicitDefEqProofs (disch:=omega) only[go_sem,hb]<;>(repeat(with_reducible refine And.intro ?_ ?_;focus first|omega|rfl|assumption|exact⟨_,rfl,rfl⟩|(simp;omega)|(simp;done)))
 ·subst h;simp only[qm,reduceIte,Int.reduceEq] at hq;have hx:=eD (n:=2) c2 (by omega);obtain⟨m,hm⟩:∃m:Nat,(aD 2 c2).1=(m:Int):=⟨(aD 2 c2).1.toNat,by omega⟩;have q3:=fun fr:List Ab.Obj=>dB hB c2 (1+l) j (fr::aP S (l,j) (.box (cur c2))) 2 (by rw[aQ];exact g _) (by omega) (by omega);rw[hm] at hx hq;simp only[hm,dh,bW] at q3;refine bq rfl (q3 _) ?_;simp -implicitDefEqProofs (disch:=omega) only[go_sem]
  (repeat(with_reducible refine And.intro ?_ ?_;focus first|omega|rfl|assumption|exact⟨_,rfl,rfl⟩|(simp;omega)|(simp;done)))
  refine⟨by cases l<;>rfl,?_⟩;simp -implicitDefEqProofs (disch:=omega) only[go_sem];rw[hq]
  have hm2:m=0\/m=1:=by omega
  clear hm q3;rcases hm2 with rfl|rfl
  all_goals
   refine⟨vo ?_,rfl⟩;rfl
 have e1:=h
 with_reducible refine aj (fun hb=> ?_) (fun hb=> ?_)<;>have h:=hb<;>(try simp only[wf_preprocess] at h)<;>simp -implicitDefEqProofs (disch:=omega) only[go_sem,hb]<;>(repeat(with_reducible refine And.intro ?_ ?_;focus first|omega|rfl|assumption|exact⟨_,rfl,rfl⟩|(simp;omega)|(simp;done)))
 ·exact absurd h hk2
 with_reducible refine aj (fun hb=> ?_) (fun hb=> ?_)<;>have h:=hb<;>(try simp only[wf_preprocess] at h)<;>simp -implicitDefEqProofs (disch:=omega) only[go_sem,hb]<;>(repeat(with_reducible refine And.intro ?_ ?_;focus first|omega|rfl|assumption|exact⟨_,rfl,rfl⟩|(simp;omega)|(simp;done)))
 ·exact absurd h hk3
 simp only[qm,if_neg e0,if_neg e1,if_neg hk2,if_neg hk3] at hq;rw[hq];exact lend
theorem Ru{bs:List Int}(hB:Bytes bs)(c:Cu bs)(l j:Nat)(S:Store)(hk:aN S (l,j)=some (.box (cur c))):
 bK prog 49 [.c (.ptr (l,j) 0)] S (fun r S1=>r=(wz c).1.v/\S1=aP S (l,j) (.box (cur (wz c).2))):=by
 unfold wz;by_cases h2:(aD 10 c).1=2
 ·exact I6 hB c _ _ l j S hk rfl (.inl h2)
 by_cases h3:(aD 10 c).1=3
 ·exact I6 hB c _ _ l j S hk rfl (.inr h3)
 ·exact UU hB c _ _ l j S hk rfl h2 h3
def l7{bs:List Int}(p:aA)(k:Int)(c:Cu bs):aA×Cu bs:=
 if k=0 then(⟨p.fName,p.bX,p.bZ++[(sV c).1],p.aG,p.bS,p.bH⟩,(sV c).2) else
 if k=1 then(⟨p.fName,p.bX,p.bZ,p.aG++[(wz c).1],p.bS,p.bH⟩,(wz c).2) else
 if k=2 then(⟨p.fName,p.bX,p.bZ,p.aG,p.bS++[(instX c).1],p.bH⟩,(instX c).2) else
 (⟨p.fName,p.bX,p.bZ,p.aG,p.bS,p.bH++[(Ga c).1]⟩,(Ga c).2)
def xE{bs:List Int}:Nat->aA->Cu bs->aA×Cu bs
 |0,p,c=>(p,c)
 |n+1,p,c=>xE n (l7 p (aD 4 c).1 (aD 4 c).2).1 (l7 p (aD 4 c).1 (aD 4 c).2).2
def JM:List (List UInt8):=[[],[99,111,114,101]]
theorem Rv:dO JM:=by unfold dO;decide
def Rw:List (List UInt8):=[[99,111,114,101],[113],[112]]
theorem UW:dO Rw:=by unfold dO;decide
def Hl{bs:List Int}(p:aA)(k:Int)(c:Cu bs):aA×Cu bs:=
 if k=0 then(⟨(bD JM c).1,p.bX,p.bZ,p.aG,p.bS,p.bH⟩,(bD JM c).2) else
 if k=1 then(⟨p.fName,p.bX++[(bD Rw c).1],p.bZ,p.aG,p.bS,p.bH⟩,(bD Rw c).2) else(p,c)
def jI:aA:=⟨[112],[[99,111,114,101]],[],[],[],[]⟩
def X8{bs:List Int}(p:aA)(c:Cu bs):aA×Cu bs:=Hl p (aD 10 c).1 (aD 10 c).2
def zN{bs:List Int}(c:Cu bs):aA×Cu bs:=
 X8 (xE (aD 5 c).1.toNat jI (aD 5 c).2).1 (xE (aD 5 c).1.toNat jI (aD 5 c).2).2
theorem iM(s:List UInt8)(d:List (List UInt8))(t:List dx)(a:List aZ)(i:List bI)(f:List bJ):
 (aA.mk s d t a i f).sz=s.length+(d.length+aH (d.map encS))+(t.length+aH (t.map dx.enc))+(a.length+aH (a.map aZ.enc))+(i.length+aH (i.map bI.enc))+(f.length+aH (f.map bJ.enc)):=by
 simp only[aA.sz,aA.aB,aY,bG,D.sz,al];omega
theorem Rx{bs:List Int}(p:aA)(k:Int)(c:Cu bs):(l7 p k c).1.sz<=p.sz+2001/\(l7 p k c).1.fName=p.fName/\(l7 p k c).1.bX=p.bX:=by
 have h0:=iM p.fName p.bX p.bZ p.aG p.bS p.bH;rw[aA.eta] at h0;have h1:=UM c;have h2:=XR c;have h3:=instX_sz c;have h4:=abC c;unfold l7;split
 ·refine⟨?_,rfl,rfl⟩;simp only[iM,bc,lq,af,ap,aH,ab,aa,ae,dx.cB];omega
 split
 ·refine⟨?_,rfl,rfl⟩;simp only[iM,bc,lq,af,ap,aH,ab,aa,ae,aZ.cB];omega
 split
 ·refine⟨?_,rfl,rfl⟩;simp only[iM,bc,lq,af,ap,aH,ab,aa,ae,bI.cB];omega
 ·refine⟨?_,rfl,rfl⟩;simp only[iM,bc,lq,af,ap,aH,ab,aa,ae,bJ.cB];omega
theorem OI{bs:List Int}:∀(n:Nat)(p:aA)(c:Cu bs),(xE n p c).1.sz<=p.sz+n*2001
 |0,p,c=>by show p.sz<=_;omega
 |n+1,p,c=>by
  have h1:=(Rx p (aD 4 c).1 (aD 4 c).2).1;have h2:=OI n (l7 p (aD 4 c).1 (aD 4 c).2).1 (l7 p (aD 4 c).1 (aD 4 c).2).2;rw[xE];omega
theorem aae{bs:List Int}(c:Cu bs):(zN c).1.sz<=9000:=by
 have hr:=eD (n:=5) c (by omega);have h1:=OI (aD 5 c).1.toNat jI (aD 5 c).2
 have h0:jI.sz=6:=by rw[jI,iM];simp[aH,kL]
 have h2:(aD 5 c).1.toNat<=4:=by omega
 have h3:=ce 2001 h2;unfold zN X8;generalize (xE (aD 5 c).1.toNat jI (aD 5 c).2).1=p at h1;generalize (xE (aD 5 c).1.toNat jI (aD 5 c).2).2=c1;generalize (aD 10 c1).1=k;generalize (aD 10 c1).2=c2;have h4:=eX c2 Rv;have h5:=eX c2 UW;have h6:=iM p.fName p.bX p.bZ p.aG p.bS p.bH;rw[aA.eta] at h6;unfold Hl;split
 ·simp only[iM];omega
 split
 ·simp only[iM,bc,lq,af,ap,aH,kL,ab,aa,ae];omega
 ·show p.sz<=_;omega
theorem UY{bs:List Int}(hB:Bytes bs)(c:Cu bs)(l j:Nat)(S:Store)(hk:aN S (l,j)=some (.box (cur c))):
 bK prog 26 [.c (.ptr (l,j) 0)] S (fun r S1=>r=(zN c).1.v/\S1=aP S (l,j) (.box (cur (zN c).2))):=by
 have g:∀x:Ab.Obj,aN (aP S (l,j) x) (l,j)=some x:=fun x=>bP _ _ _ _ hk;unfold zN;have hx:=eD (n:=5) c (by omega);obtain⟨n,hn⟩:∃n:Nat,(aD 5 c).1=(n:Int):=⟨(aD 5 c).1.toNat,by omega⟩;have q0:=fun fr:List Ab.Obj=>dB hB c (1+l) j (fr::S) 5 (by rw[aQ];exact hk) (by omega) (by omega)
 generalize hc0:(aD 5 c).2=c0 at *
 rw[hn] at hx;simp only[hn,cN,dh] at q0 ⊢;obtain⟨R,hR⟩:∃R,R=xE n jI c0:=⟨_,rfl⟩;rw[<-hR];refine bK.of_le ?_;refine rF [34] (rs:=[.cell 2 45]) zmx func26 ntmps26 rfl rfl rfl rfl rfl ?_;simp -implicitDefEqProofs (disch:=omega) only[go_sem]
 (repeat(with_reducible refine And.intro ?_ ?_;focus first|omega|rfl|assumption|exact⟨_,rfl,rfl⟩|(simp;omega)|(simp;done)))
 refine bq rfl (q0 _) ?_;simp -implicitDefEqProofs (disch:=omega) only[go_sem];refine rJ 1 2 5 _ rfl rfl ?_;refine rJ 1 3 3 _ rfl rfl ?_;refine rJ 1 4 12 _ rfl rfl ?_;refine rJ 1 5 16 _ rfl rfl ?_
 refine LV [34] zmx rfl [0,2,3,4,5] (ι:=Nat×aA×Cu bs) (fun x=>[.c (.ptr (1+l,j) 0),.c (.ptr (0,0) 0),.c (.ptr (0,1) 0),.c (.d (.i .i64 n)),.c (.d (.i .i64 x.1))])
  (fun x=>[.box [.d (.s []),.bF [],.bF [],.bF [],.bF [],.bF []],.box [.d (.s [112]),.bF [[.s [99,111,114,101]]],.bM (0,2) (x.2.1.bZ.map dx.enc),.bM (0,3) (x.2.1.aG.map aZ.enc),.bM (0,4) (x.2.1.bS.map bI.enc),.bM (0,5) (x.2.1.bH.map bJ.enc)],
    .tok 5 (x.2.1.bZ.map dx.enc),.tok 3 (x.2.1.aG.map aZ.enc),.tok 12 (x.2.1.bS.map bI.enc),.tok 16 (x.2.1.bH.map bJ.enc)]::aP S (l,j) (.box (cur x.2.2)))
  (fun x=>x.1<=n/\xE (n-x.1) x.2.1 x.2.2=R/\x.2.1.fName=[112]/\x.2.1.bX=[[99,111,114,101]]/\x.2.1.bZ.length<=x.1/\x.2.1.aG.length<=x.1/\x.2.1.bS.length<=x.1/\x.2.1.bH.length<=x.1) (fun x=>n-x.1) (0,jI,c0) rfl rfl ⟨ao _,hR.symm,rfl,rfl,aw _,aw _,aw _,aw _⟩ ?_
 rintro⟨i,⟨pn,pd,pt,pa,pi,pf⟩,d⟩ ⟨p1,p2,p3,p4,p5,p6,p7,p8⟩;simp only at p1 p2 p3 p4 p5 p6 p7 p8;subst p3 p4;simp -implicitDefEqProofs (disch:=omega) only[go_sem]
 with_reducible refine aj (fun hb=> ?_) (fun hb=> ?_)<;>have h:=hb<;>(try simp only[wf_preprocess] at h)<;>simp -implicitDefEqProofs (disch:=omega) only[go_sem,hb]<;>(repeat(with_reducible refine And.intro ?_ ?_;focus first|omega|rfl|assumption|exact⟨_,rfl,rfl⟩|(simp;omega)|(simp;done)))
 ·have ek:n-i=(n-(i+1))+1:=by omega
  rw[ek,xE] at p2;obtain⟨k,hkd⟩:∃k,k=(aD 4 d).1:=⟨_,rfl⟩;obtain⟨d1,hd1⟩:∃d1,d1=(aD 4 d).2:=⟨_,rfl⟩;have q1:=fun fr:List Ab.Obj=>dB hB d (1+l) j (fr::aP S (l,j) (.box (cur d))) 4 (by rw[aQ];exact g _) (by omega) (by omega);simp only[<-hkd,<-hd1,dh,bW] at q1 p2;refine bq rfl (q1 _) ?_;simp -implicitDefEqProofs (disch:=omega) only[go_sem]
  with_reducible refine aj (fun hb=> ?_) (fun hb=> ?_)<;>have h:=hb<;>(try simp only[wf_preprocess] at h)<;>simp -implicitDefEqProofs (disch:=omega) only[go_sem,hb]<;>(repeat(with_reducible refine And.intro ?_ ?_;focus first|omega|rfl|assumption|exact⟨_,rfl,rfl⟩|(simp;omega)|(simp;done)))
  ·subst h;simp only[l7,reduceIte] at p2;refine bq rfl (NG hB d1 (1+l) j _ (by rw[aQ];exact g _)) ?_;simp -implicitDefEqProofs (disch:=omega) only[go_sem]
   (repeat(with_reducible refine And.intro ?_ ?_;focus first|omega|rfl|assumption|exact⟨_,rfl,rfl⟩|(simp;omega)|(simp;done)))
   refine⟨by cases l<;>rfl,?_⟩;simp -implicitDefEqProofs (disch:=omega) only[go_sem];refine dL 6 (by decide) (i+1,⟨_,_,pt++[(sV d1).1],pa,pi,pf⟩,(sV d1).2) (by simp only;omega) rfl ?_ (by cases l<;>rfl) rfl ⟨by simp only;omega,p2,rfl,rfl,by simp only[ab,aa,ae];omega,by simp only;omega,by simp only;omega,by simp only;omega⟩;simp only[bc,af,ap];rfl
  have e0:=h
  with_reducible refine aj (fun hb=> ?_) (fun hb=> ?_)<;>have h:=hb<;>(try simp only[wf_preprocess] at h)<;>simp -implicitDefEqProofs (disch:=omega) only[go_sem,hb]<;>(repeat(with_reducible refine And.intro ?_ ?_;focus first|omega|rfl|assumption|exact⟨_,rfl,rfl⟩|(simp;omega)|(simp;done)))
  ·subst h;simp only[l7,reduceIte,Int.reduceEq] at p2;refine bq rfl (Ru hB d1 (1+l) j _ (by rw[aQ];exact g _)) ?_;simp -implicitDefEqProofs (disch:=omega) only[go_sem]
   (repeat(with_reducible refine And.intro ?_ ?_;focus first|omega|rfl|assumption|exact⟨_,rfl,rfl⟩|(simp;omega)|(simp;done)))
   refine⟨by cases l<;>rfl,?_⟩;simp -implicitDefEqProofs (disch:=omega) only[go_sem];refine dL 6 (by decide) (i+1,⟨_,_,pt,pa++[(wz d1).1],pi,pf⟩,(wz d1).2) (by simp only;omega) rfl ?_ (by cases l<;>rfl) rfl ⟨by simp only;omega,p2,rfl,rfl,by simp only;omega,by simp only[ab,aa,ae];omega,by simp only;omega,by simp only;omega⟩;simp only[bc,af,ap];rfl
  have e1:=h
  with_reducible refine aj (fun hb=> ?_) (fun hb=> ?_)<;>have h:=hb<;>(try simp only[wf_preprocess] at h)<;>simp -implicitDefEqProofs (disch:=omega) only[go_sem,hb]<;>(repeat(with_reducible refine And.intro ?_ ?_;focus first|omega|rfl|assumption|exact⟨_,rfl,rfl⟩|(simp;omega)|(simp;done)))
  ·subst h;simp only[l7,reduceIte,Int.reduceEq] at p2;refine bq rfl (Rt hB d1 (1+l) j _ (by rw[aQ];exact g _)) ?_;simp -implicitDefEqProofs (disch:=omega) only[go_sem]
   (repeat(with_reducible refine And.intro ?_ ?_;focus first|omega|rfl|assumption|exact⟨_,rfl,rfl⟩|(simp;omega)|(simp;done)))
   refine⟨by cases l<;>rfl,?_⟩;simp -implicitDefEqProofs (disch:=omega) only[go_sem];refine dL 6 (by decide) (i+1,⟨_,_,pt,pa,pi++[(instX d1).1],pf⟩,(instX d1).2) (by simp only;omega) rfl ?_ (by cases l<;>rfl) rfl ⟨by simp only;omega,p2,rfl,rfl,by simp only;omega,by simp only;omega,by simp only[ab,aa,ae];omega,by simp only;omega⟩;simp only[bc,af,ap,bI.aB,ah.aB,az,ba];rfl
  have e2:=h;simp only[l7,if_neg e0,if_neg e1,if_neg e2] at p2;refine bq rfl (XW hB d1 (1+l) j _ (by rw[aQ];exact g _)) ?_;simp -implicitDefEqProofs (disch:=omega) only[go_sem]
  (repeat(with_reducible refine And.intro ?_ ?_;focus first|omega|rfl|assumption|exact⟨_,rfl,rfl⟩|(simp;omega)|(simp;done)))
  refine⟨by cases l<;>rfl,?_⟩;simp -implicitDefEqProofs (disch:=omega) only[go_sem];refine dL 6 (by decide) (i+1,⟨_,_,pt,pa,pi,pf++[(Ga d1).1]⟩,(Ga d1).2) (by simp only;omega) rfl ?_ (by cases l<;>rfl) rfl ⟨by simp only;omega,p2,rfl,rfl,by simp only;omega,by simp only;omega,by simp only;omega,by simp only[ab,aa,ae];omega⟩;simp only[bc,af,ap,bJ.aB,ah.aB,ak.aB,az,ba];rfl
 ·have ei:n-i=0:=by omega
  rw[ei,xE] at p2;subst p2;unfold X8;obtain⟨k,hkd⟩:∃k,k=(aD 10 d).1:=⟨_,rfl⟩;obtain⟨d1,hd1⟩:∃d1,d1=(aD 10 d).2:=⟨_,rfl⟩;have q1:=fun fr:List Ab.Obj=>dB hB d (1+l) j (fr::aP S (l,j) (.box (cur d))) 10 (by rw[aQ];exact g _) (by omega) (by omega);simp only[<-hkd,<-hd1,dh,bW] at q1 ⊢;obtain⟨q,hq⟩:∃q,q=Hl ⟨[112],[[99,111,114,101]],pt,pa,pi,pf⟩ k d1:=⟨_,rfl⟩;rw[<-hq];refine bq rfl (q1 _) ?_;simp -implicitDefEqProofs (disch:=omega) only[go_sem]
  with_reducible refine aj (fun hb=> ?_) (fun hb=> ?_)<;>have h:=hb<;>(try simp only[wf_preprocess] at h)<;>simp -implicitDefEqProofs (disch:=omega) only[go_sem,hb]<;>(repeat(with_reducible refine And.intro ?_ ?_;focus first|omega|rfl|assumption|exact⟨_,rfl,rfl⟩|(simp;omega)|(simp;done)))
  ·subst h;simp only[Hl,reduceIte] at hq;refine dJ [true] rfl (dU hB d1 (1+l) j _ JM (by rw[aQ];exact g _) (by decide) (by decide)) ?_;simp -implicitDefEqProofs (disch:=omega) only[go_sem];rw[hq];exact⟨vo rfl,rfl⟩
  have e0:=h
  with_reducible refine aj (fun hb=> ?_) (fun hb=> ?_)<;>have h:=hb<;>(try simp only[wf_preprocess] at h)<;>simp -implicitDefEqProofs (disch:=omega) only[go_sem,hb]<;>(repeat(with_reducible refine And.intro ?_ ?_;focus first|omega|rfl|assumption|exact⟨_,rfl,rfl⟩|(simp;omega)|(simp;done)))
  ·subst h;simp only[Hl,reduceIte,Int.reduceEq] at hq;refine dJ [true] rfl (dU hB d1 (1+l) j _ Rw (by rw[aQ];exact g _) (by decide) (by decide)) ?_;simp -implicitDefEqProofs (disch:=omega) only[go_sem]
   (repeat(with_reducible refine And.intro ?_ ?_;focus first|omega|rfl|assumption|exact⟨_,rfl,rfl⟩|(simp;omega)|(simp;done)))
   refine⟨by cases l<;>rfl,?_⟩;simp -implicitDefEqProofs (disch:=omega) only[go_sem];rw[hq];exact⟨vo rfl,rfl⟩
  have e1:=h;simp only[Hl,if_neg e0,if_neg e1] at hq;rw[hq];exact⟨vo rfl,rfl⟩
section
variable {P:Program} {N:Nat} {w:World} {σ:Nat->Nat} {β:Hs}
theorem Ry{own:List Obj}{Ω:Store}(j:Nat)(cs cs':List C)(hj:own[j]? =some (.box cs))(hS:dM w σ (own::Ω) β)(hle:∀b cv ty fz,aN β (0,j)=some (.pointer (some ⟨b,0,none⟩))->w.heap[b]? =some (.cells cv ty fz)->dS w σ (own::Ω) β cs cv.toList->dS w σ (own::Ω) β cs' cv.toList):
 ∃β',dM w σ ((own.set j (.box cs'))::Ω) β'/\Step (own::Ω) β σ w ((own.set j (.box cs'))::Ω) β' σ w/\Keep (own::Ω) β ((own.set j (.box cs'))::Ω) β'/\fF β'=fF β:=by
 cases β with
 |nil=>have:=hS.shape.1;simp at this
 |cons bo bΩ=>
 have hg0:aN (own::Ω) (0,j)=some (.box cs):=by rw[aJ];exact hj
 obtain⟨hb,yI,hr⟩:=hS.obj (0,j) _ hg0;obtain⟨b,cv,ty,rfl,hbc,hσ,hcs⟩:=hr;have hcs:dS w σ (own::Ω) (bo::bΩ) cs cv.toList:=hcs;have hko:iU (.box cs) (some (Value.pointer (some ⟨b,0,none⟩))) (.box cs') (some (Value.pointer (some ⟨b,0,none⟩))):=.inr ⟨⟨_,rfl⟩,rfl⟩
 have hK:Keep (own::Ω) (bo::bΩ) (aP (own::Ω) (0,j) (.box cs')) (aP (bo::bΩ) (0,j) (.pointer (some ⟨b,0,none⟩))):=by
  intro k1 o1 e1;by_cases e:k1=(0,j)
  ·subst e;rw[hg0] at e1;cases e1;exact⟨_,bP _ _ _ _ hg0,by rw[yI,bP _ _ _ _ yI];exact hko⟩
  ·exact⟨o1,(dD _ _ _ _ (Ne.symm e)).trans e1,by rw[dD _ _ _ _ (Ne.symm e)];exact .refl _ _⟩
 obtain⟨hS2,hk2,sD⟩:=hS.set (w':=w) (σ':=σ) (o':=.box cs') (h':=.pointer (some ⟨b,0,none⟩)) hg0 yI (aw _) rfl rfl (dR.refl _ _) hS.live (fun _ _ _=>⟨rfl,rfl⟩) hko
  ⟨b,cv,ty,rfl,hbc,hσ,by
    have h1:=hle _ _ _ _ yI hbc hcs;refine⟨h1.1,fun m x hm=> ?_⟩;obtain⟨u,hu,hc,ho⟩:=h1.2 m x hm
    exact⟨u,hu,hc.mono (dR.refl _ _) hK,ho⟩⟩ (fun _ e=>.inl e)
 have est:aP (own::Ω) (0,j) (.box cs')=(own.set j (.box cs'))::Ω:=rfl;rw[est] at hS2 hk2 sD;exact⟨_,hS2,sD,hk2,rfl⟩
theorem aaf{c:Code}{Q:Exit->St->Prop}{tm:List (Nat×V)}{own:List Obj}{Ω:Store}(j off j1:Nat)(cs:List C)(es:List (List D))(hj:own[j]? =some (.box cs))(hc:cs[off]? =some (.bM (0,j1) es))
 (h:∀v,AW P N c Q ⟨tm,(own.set j (.box (cs.set off (.oW (0,j1) es.length v))))::Ω⟩):AW P N c Q ⟨tm,own::Ω⟩:=by
 intro a w σ β hR
 have hg0:aN (own::Ω) (0,j)=some (.box cs):=by rw[aJ];exact hj
 obtain⟨h0,hb0,b,cv,ty,rfl,hbc,hσ,hcs⟩:=hR.S.obj _ _ hg0;have hcs:dS w σ (own::Ω) β cs cv.toList:=hcs;obtain⟨v,hv,hrep,hone⟩:=hcs.2 off _ hc
 obtain⟨β',hS',hst,hk,ht⟩:=Ry j cs (cs.set off (.oW (0,j1) es.length v)) hj hR.S (fun b' cv' ty' Kc e1 e2 hvs=>by
  rw[hb0] at e1;cases e1;rw[hbc] at e2;cases e2;refine⟨by rw[cn];exact hvs.1,fun m x hm=> ?_⟩;by_cases e:m=off
  ·subst e;rw[cW (ai.1 hc).1] at hm;cases hm;exact⟨v,hv,⟨⟨rfl,hone⟩,hrep.2⟩,hone⟩
  ·rw[eA (Ne.symm e)] at hm
   exact hvs.2 m x hm)
 refine wp_mono (h v a w σ β' ⟨hR.size,hR.defers,hS',fun u=>(hR.T u).mono (dR.refl _ _) hk⟩) ?_;rintro e a' w' ⟨s'',uN,β'',k1,k2,k3,k4⟩;refine⟨s'',uN,β'',k1,hst.trans k2,?_,k4⟩;rw[ht] at k3;exact k3
theorem aag{own:List Obj}{Ω:Store}(j i aM:Nat)(cs:List C)(hj:own[j]? =some (.box cs))(hi:cs[i]? =some (.bF []))(hS:dM w σ (own::Ω) β):
 ∃β',dM w σ ((own.set j (.box (cs.set i (.eP (0,own.length))))++[.cZ aM []])::Ω) β'/\Step (own::Ω) β σ w ((own.set j (.box (cs.set i (.eP (0,own.length))))++[.cZ aM []])::Ω) β' σ w/\Keep (own::Ω) β ((own.set j (.box (cs.set i (.eP (0,own.length))))++[.cZ aM []])::Ω) β':=by
 cases β with
 |nil=>have:=hS.shape.1;simp at this
 |cons bo bΩ=>
 have hlen:bo.length=own.length:=by
  obtain⟨gr,g1,g2⟩:=hS.shape.2 0 own rfl;simp at g1;rw[g1];exact g2
 have hjl:=(ai.1 hj).1
 have hg0:aN (own::Ω) (0,j)=some (.box cs):=by rw[aJ];exact hj
 obtain⟨hb,yI,hr⟩:=hS.obj (0,j) _ hg0;obtain⟨b,cv,ty,rfl,hbc,hσ,hcs⟩:=hr;have hcs:dS w σ (own::Ω) (bo::bΩ) cs cv.toList:=hcs;obtain⟨v,hv,hc0,hone⟩:=hcs.2 i _ hi
 have hx:∃ad:Option Addr,v=.slice ad 0 0:=by
  obtain⟨hd,ad,n,hval⟩:=hc0
  have hn:n=0:=by rw[hval] at hd;cases hd<;>rfl
  exact⟨ad,by rw[hval,hn]⟩
 obtain⟨ad,hval⟩:=hx;have hg:Grow w σ w σ:=Grow.refl hS.live
 obtain⟨hS',hk,hst⟩:=hS.push (o:=.cZ aM []) (h:=v) hg hlen ⟨(fun e he=>by cases he),ad,0,hval,aw _,.inl rfl⟩ (fun b hb=>by
  rw[hval] at hb
  cases ad<;>simp[owns,blk] at hb)
 have hk1:aN ((own++[.cZ aM []])::Ω) (0,j)=some (.box cs):=gu _ _ _ _ _ hg0;have yN:aN ((bo++[v])::bΩ) (0,j)=some (.pointer (some ⟨b,0,none⟩)):=gu _ _ _ _ _ yI;have hko:iU (.box cs) (some (Value.pointer (some ⟨b,0,none⟩))) (.box (cs.set i (.eP (0,own.length)))) (some (Value.pointer (some ⟨b,0,none⟩))):=.inr ⟨⟨_,rfl⟩,rfl⟩
 have hK:Keep ((own++[.cZ aM []])::Ω) ((bo++[v])::bΩ) (aP ((own++[.cZ aM []])::Ω) (0,j) (.box (cs.set i (.eP (0,own.length))))) (aP ((bo++[v])::bΩ) (0,j) (.pointer (some ⟨b,0,none⟩))):=by
  intro k1 o1 e1;by_cases e:k1=(0,j)
  ·subst e;rw[hk1] at e1;cases e1;exact⟨_,bP _ _ _ _ hk1,by rw[yN,bP _ _ _ _ yN];exact hko⟩
  ·exact⟨o1,(dD _ _ _ _ (Ne.symm e)).trans e1,by rw[dD _ _ _ _ (Ne.symm e)];exact .refl _ _⟩
 have hne:(0,own.length)≠(0,j):=fun e=>by injection e with _ e;omega
 obtain⟨hS2,hk2,sD⟩:=hS'.set (w':=w) (σ':=σ) (o':=.box (cs.set i (.eP (0,own.length)))) (h':=.pointer (some ⟨b,0,none⟩)) hk1 yN (aw _) rfl rfl (dR.refl _ _) hS'.live (fun _ _ _=>⟨rfl,rfl⟩) hko
  ⟨b,cv,ty,rfl,hbc,hσ,by
    refine⟨by rw[cn];exact hcs.1,fun m x hm=> ?_⟩;rw[cM] at hm;by_cases e:i=m
    ·subst e;rw[if_pos rfl] at hm;split at hm
     ·cases hm;refine⟨v,hv,⟨.cZ aM [],?_,fun a1 b1 e1=> ?_⟩,hone⟩
      ·show aN (aP _ (0,j) _) (0,own.length)=_;rw[dD _ _ _ _ (Ne.symm hne),bL]
      ·show aN (aP _ (0,j) _) (0,own.length)=_;rw[dD _ _ _ _ (Ne.symm hne),<-hlen,bL]
     ·cases hm
    ·rw[if_neg e] at hm;obtain⟨u,hu,hc,ho⟩:=hcs.2 m x hm
     exact⟨u,hu,(hc.mono (dR.refl _ _) hk).mono (dR.refl _ _) hK,ho⟩⟩ (fun _ e=>.inl e)
 have est:aP ((own++[.cZ aM []])::Ω) (0,j) (.box (cs.set i (.eP (0,own.length))))=(own.set j (.box (cs.set i (.eP (0,own.length))))++[.cZ aM []])::Ω:=by
  rw[aP,List.set_append_left _ _ hjl]
 rw[est] at hS2 hk2 sD;exact⟨_,hS2,hst.trans sD,hk.trans hk2⟩
theorem UZ{c:Code}{Q:Exit->St->Prop}{tm:List (Nat×V)}{own:List Obj}{Ω:Store}(j i aM:Nat)(cs:List C)(hj:own[j]? =some (.box cs))(hi:cs[i]? =some (.bF []))
 (h:AW P N c Q ⟨tm,(own.set j (.box (cs.set i (.eP (0,own.length))))++[.cZ aM []])::Ω⟩):AW P N c Q ⟨tm,own::Ω⟩:=by
 refine lK h fun a w σ β hR=> ?_;obtain⟨β',hS,hst,hk⟩:=aag j i aM cs hj hi hR.S;refine⟨σ,β',⟨hR.size,hR.defers,hS,fun u=>(hR.T u).mono (dR.refl _ _) hk⟩,hst,?_⟩;intro k o hko
 obtain⟨o',h1,h2⟩:=hk (k.1+1,k.2) o (by
  obtain⟨l,i⟩:=k;show aN (own::Ω) (l+1,i)=_
  rw[bB];exact hko)
 obtain⟨bo,bΩ,rfl,_⟩:=frames hR;have h3:=hS.shape.1
 cases β' with
 |nil=>simp at h3
 |cons bo' bΩ'=>
  rw[bB] at h1;rw[bB,bB] at h2;exact⟨o',h1,h2⟩
theorem OJ{ι:Type}{c:Code}{Q:Exit->St->Prop}{s:St}(ts:List Nat)(f:ι->List V)(g:ι->Store)(p:ι->Prop)(μ:ι->Nat)(i0:ι)
 (h1:ts.map (look s.tm)=f i0)(h2:s.st=g i0)(h3:p i0)
 (round:∀i,p i->AW P N c (gZ (Inv N ts f g p μ i) Q) ⟨jl ts (f i),g i⟩):AW P N (.loop c) Q s:=by
 refine Gt (ι:=ι) (fun i s=>∃s0,gQ N s s0/\ts.map (look s0.tm)=f i/\s0.st=g i/\p i) μ i0 ⟨s,gQ.refl _ _,h1,h2,h3⟩ fun i s hI=> ?_;obtain⟨s0,hg,h1,h2,h3⟩:=hI;refine lK ?_ hg
 have hr:=(round i h3).mono (Q':=gZ (fun s'=>∃j,μ j<μ i/\∃s0,gQ N s' s0/\ts.map (look s0.tm)=f j/\s0.st=g j/\p j) Q) fun e s' h=>by
  cases e with
  |normal=>
   obtain⟨j,s0,a1,a2,a3,a4,a5⟩:=h;exact⟨j,a1,s0,a2,a3,a4,a5⟩
  |_=>exact h
 obtain⟨tm,st⟩:=s0;simp only at h1 h2;subst h2;rw[<-h1] at hr;exact Px hr fun t=>tY _ ts t
end
def kE:List (List UInt8):=[[97],[98],[99],[100],[101],[102]]
theorem X9:dO kE:=by unfold dO;decide
theorem OL{i:Nat}:(kE.getD i []).length<=1:=by
 by_cases h:i<6
 ·match i,h with
  |0,_=>decide
  |1,_=>decide
  |2,_=>decide
  |3,_=>decide
  |4,_=>decide
  |5,_=>decide
  |n+6,h=>omega
 ·rw[ch,bp (show kE.length<=i by show 6<=i;omega)];exact ao _
def mO{bs:List Int}:Nat->Nat->List (List UInt8)->Cu bs->List (List UInt8)×Cu bs
 |0,_,acc,c=>(acc,c)
 |r+1,k,acc,c=>mO r (k+1) (if(cK 3 c).1=true then acc++[kE.getD k []] else acc) (cK 3 c).2
def vI(i:Nat)(ds:List (List UInt8)):aA:=⟨kE.getD i [],ds,[],[],[],[]⟩
def oV{bs:List Int}:Nat->Nat->List aA->Cu bs->List aA×Cu bs
 |0,_,acc,c=>(acc,c)
 |r+1,i,acc,c=>oV r (i+1) (acc++[vI i (mO i 0 [] c).1]) (mO i 0 [] c).2
theorem Rz{bs:List Int}(c:Cu bs):(bD kE c).1.length<=8:=eX c X9
def Ya{bs:List Int}(L:List aA)(k m:Int)(c:Cu bs):List aA×Cu bs:=
 if m=0 then(L.set k.toNat ⟨(L.getD k.toNat jI).fName,(L.getD k.toNat jI).bX++[(bD kE c).1],(L.getD k.toNat jI).bZ,(L.getD k.toNat jI).aG,(L.getD k.toNat jI).bS,(L.getD k.toNat jI).bH⟩,(bD kE c).2) else
 if m=1 then(L.set k.toNat ⟨(bD kE c).1,(L.getD k.toNat jI).bX,(L.getD k.toNat jI).bZ,(L.getD k.toNat jI).aG,(L.getD k.toNat jI).bS,(L.getD k.toNat jI).bH⟩,(bD kE c).2) else
 if m=2 then(L++[(zN c).1],(zN c).2) else(L,c)
def Yb{bs:List Int}(n:Nat)(L:List aA)(c:Cu bs):List aA×Cu bs:=
 if n=0 then(L,c) else Ya L (aD n c).1 (aD 10 (aD n c).2).1 (aD 10 (aD n c).2).2
def w16{bs:List Int}(c:Cu bs):List aA×Cu bs:=
 Yb (aD 6 c).1.toNat (oV (aD 6 c).1.toNat 0 [] (aD 6 c).2).1 (oV (aD 6 c).1.toNat 0 [] (aD 6 c).2).2
theorem Mf{bs:List Int}:∀(r k:Nat)(acc:List (List UInt8))(c:Cu bs),(mO r k acc c).1.length<=acc.length+r/\aH ((mO r k acc c).1.map encS)<=aH (acc.map encS)+r*8
 |0,k,acc,c=>⟨aw _,by show aH (acc.map encS)<=_;omega⟩
 |r+1,k,acc,c=>by
  have h:=Mf r (k+1) (if(cK 3 c).1=true then acc++[kE.getD k []] else acc) (cK 3 c).2;rw[mO];have hn:=OL (i:=k);split at h
  ·rename_i e;rw[if_pos e];simp only[bc,lq,af,ap,aH,ab,aa,ae,encS,aY,D.sz] at h ⊢;omega
  ·rename_i e;rw[if_neg e];omega
theorem aah(i:Nat)(ds:List (List UInt8)):(vI i ds).sz<=1+(ds.length+aH (ds.map encS)):=by
 have hn:=OL (i:=i);unfold vI;simp only[iM,ap,aH,ae];omega
theorem zO{bs:List Int}:∀(r i:Nat)(acc:List aA)(c:Cu bs),r+i<=6->(∀p∈acc,p.sz<=60)->(oV r i acc c).1.length=acc.length+r/\∀p∈(oV r i acc c).1,p.sz<=60
 |0,i,acc,c,_,h=>⟨rfl,h⟩
 |r+1,i,acc,c,hr,h=>by
  rw[oV];have h1:=aah i (mO i 0 [] c).1;have h2:=Mf i 0 [] c;simp only[ap,aH,ae] at h2
  have h3:=zO r (i+1) (acc++[vI i (mO i 0 [] c).1]) (mO i 0 [] c).2 (by omega) (fun p hp=>by
   rcases cR.1 hp with hp|hp
   ·exact h p hp
   ·rw[dt.1 hp];omega)
  exact⟨by rw[h3.1,ab];simp only[aa,ae];omega,h3.2⟩
theorem OM:∀(L:List aA)(m:Nat),(∀p∈L,p.sz<=m)->aH (L.map aA.enc)<=L.length*m
 |[],m,_=>by simp[aH]
 |p::L,m,h=>by
  have h1:=h p (by simp);have h2:=OM L m (fun q hq=>h q (by simp[hq]));rw[af,aH,aA.cB,aa,Nat.succ_mul];omega
theorem abE{bs:List Int}(c:Cu bs):(w16 c).1.length<=6/\(aS.mk (w16 c).1).sz<=1000000:=by
 have hr:=eD (n:=6) c (by omega);obtain⟨n,hn⟩:∃n:Nat,(aD 6 c).1=(n:Int):=⟨(aD 6 c).1.toNat,by omega⟩;rw[hn] at hr;have h1:=zO n 0 [] (aD 6 c).2 (by omega) (fun p hp=>by cases hp);unfold w16;rw[hn,cN];generalize (oV n 0 [] (aD 6 c).2).1=L at h1 ⊢;generalize (oV n 0 [] (aD 6 c).2).2=c1
 have key:∀L':List aA,L'.length<=6->(∀p∈L',p.sz<=10000)->L'.length<=6/\(aS.mk L').sz<=1000000:=fun L' h2 h3=>by
  have:=OM L' 10000 h3;refine⟨h2,?_⟩;simp only[aS.sz,aS.aB,aY,D.sz,al];omega
 have hL:L.length<=5:=by rw[h1.1];simp only[ae];omega
 have hp:∀p∈L,p.sz<=10000:=fun p hp=>by have:=h1.2 p hp;omega
 have hset:∀(k:Nat)(q:aA),q.sz<=10000->∀p∈L.set k q,p.sz<=10000:=fun k q hq p hm=>by
  rcases List.mem_or_eq_of_mem_set hm with h|h
  ·exact hp p h
  ·rw[h];exact hq
 unfold Yb;split
 ·exact key L (by omega) hp
 rename_i hn0;have hk:=eD (n:=n) c1 (by omega);generalize (aD n c1).1=k at hk;generalize (aD 10 (aD n c1).2).1=m;generalize (aD 10 (aD n c1).2).2=c2
 have hg:(L.getD k.toNat jI).sz<=60:=by
  have hkl:k.toNat<L.length:=by rw[h1.1];simp only[ae];omega
  rw[ch,ag hkl];exact h1.2 _ (ac hkl)
 have hg0:=iM (L.getD k.toNat jI).fName (L.getD k.toNat jI).bX (L.getD k.toNat jI).bZ (L.getD k.toNat jI).aG (L.getD k.toNat jI).bS (L.getD k.toNat jI).bH;rw[aA.eta] at hg0;have hpk:=Rz c2;have hx:=aae c2;unfold Ya;split
 ·refine key _ (by rw[cn];omega) (hset _ _ ?_);simp only[iM,bc,lq,af,ap,aH,ab,aa,ae,encS,aY,D.sz];omega
 split
 ·refine key _ (by rw[cn];omega) (hset _ _ ?_);simp only[iM];omega
 split
 ·refine key _ (by rw[ab];simp only[aa,ae];omega) fun p hm=> ?_;rcases cR.1 hm with h|h
  ·exact hp p h
  ·rw[dt.1 h];omega
 ·exact key L (by omega) hp
theorem Bz{i:Nat}(h:i<kE.length):kE[i]=kE.getD i []:=by rw[ch,ag h];rfl
theorem RA:kE.length=6:=rfl
theorem abF(acc:List aA)(i:Nat)(ds:List (List UInt8)):acc.map aA.enc++[[.s (kE.getD i []),.sl (ds.map encS),.sl [],.sl [],.sl [],.sl []]]=(acc++[vI i ds]).map aA.enc:=by
 rw[bc];rfl
def RB(k:Nat)(v:Value):List D:=[.s (kE.getD k []),.o v,.sl [],.sl [],.sl [],.sl []]
theorem NH{bs:List Int}(hB:Bytes bs)(c:Cu bs)(l j:Nat)(S:Store)(hk:aN S (l,j)=some (.box (cur c))):
 bK prog 13 [.c (.ptr (l,j) 0)] S (fun r S1=>r=(aS.mk (w16 c).1).v/\S1=aP S (l,j) (.box (cur (w16 c).2))):=by
 have g:∀x:Ab.Obj,aN (aP S (l,j) x) (l,j)=some x:=fun x=>bP _ _ _ _ hk;have hnl:=RA;have hx:=eD (n:=6) c (by omega);obtain⟨n,hn⟩:∃n:Nat,(aD 6 c).1=(n:Int):=⟨(aD 6 c).1.toNat,by omega⟩;have q0:=fun fr:List Ab.Obj=>dB hB c (1+l) j (fr::S) 6 (by rw[aQ];exact hk) (by omega) (by omega);unfold w16
 generalize hc0:(aD 6 c).2=c0 at *
 rw[hn] at hx;simp only[hn,cN,dh] at q0 ⊢;obtain⟨R,hR⟩:∃R,R=oV n 0 [] c0:=⟨_,rfl⟩
 have hRl:R.1.length=n:=by rw[hR,(zO n 0 [] c0 (by omega) (fun p hp=>by cases hp)).1];simp
 have hRs:∀p∈R.1,p.sz<=60:=by rw[hR];exact(zO n 0 [] c0 (by omega) (fun p hp=>by cases hp)).2
 rw[<-hR];unfold Yb Ya;obtain⟨K,hK⟩:∃K,K=(aD n R.2).1:=⟨_,rfl⟩;obtain⟨c2,hc2⟩:∃c2,c2=(aD n R.2).2:=⟨_,rfl⟩;rw[<-hK,<-hc2];obtain⟨m,hm⟩:∃m,m=(aD 10 c2).1:=⟨_,rfl⟩;obtain⟨c3,hc3⟩:∃c3,c3=(aD 10 c2).2:=⟨_,rfl⟩;rw[<-hm,<-hc3];have q2:=fun(h:1<=n) (fr:List Ab.Obj)=>dB hB R.2 (1+l) j (fr::aP S (l,j) (.box (cur R.2))) n (by rw[aQ];exact g _) (by omega) (by omega);have q3:=fun(fr:List Ab.Obj)=>dB hB c2 (1+l) j (fr::aP S (l,j) (.box (cur c2))) 10 (by rw[aQ];exact g _) (by omega) (by omega);simp only[<-hK,<-hc2,<-hm,<-hc3,dh,bW] at q2 q3
 have hKr:n≠0->0<=K/\K<n:=fun h=>by rw[hK];exact eD _ (by omega)
 obtain⟨kk,hk1,hk2⟩:∃kk:Nat,(n≠0->m=0->K=kk)/\(n=0\/m≠0->kk=n):=by
  by_cases h:n≠0/\m=0
  ·exact⟨K.toNat,fun _ _=>by have:=hKr h.1;omega,fun h'=>by rcases h' with h'|h';exact absurd h' h.1;exact absurd h.2 h'⟩
  ·exact⟨n,fun h1 h2=>absurd ⟨h1,h2⟩ h,fun _=>rfl⟩
 have q4:=fun(fr:List Ab.Obj)=>dU hB c3 (1+l) j (fr::aP S (l,j) (.box (cur c3))) kE (by rw[aQ];exact g _) (by omega) (by omega);obtain⟨s,hs⟩:∃s,s=(bD kE c3).1:=⟨_,rfl⟩;obtain⟨c4,hc4⟩:∃c4,c4=(bD kE c3).2:=⟨_,rfl⟩;have q5:=fun(fr:List Ab.Obj)=>UY hB c3 (1+l) j (fr::aP S (l,j) (.box (cur c3))) (by rw[aQ];exact g _);obtain⟨y,hy⟩:∃y,y=(zN c3).1:=⟨_,rfl⟩;obtain⟨c5,hc5⟩:∃c5,c5=(zN c3).2:=⟨_,rfl⟩;simp only[<-hs,<-hc4,<-hy,<-hc5,dh,bW] at q4 q5 ⊢;clear hs hc4 hy hc5;refine rF [34,24] (rs:=[.cell 2 26]) zmx func13 ntmps13 rfl rfl rfl rfl rfl ?_;simp -implicitDefEqProofs (disch:=omega) only[go_sem];refine bq rfl (q0 _) ?_;simp -implicitDefEqProofs (disch:=omega) only[go_sem];refine UZ 1 0 6 _ rfl rfl ?_
 refine LV [34,24] zmx rfl [0,2,3,4,5,6] (ι:=Nat×List aA×Cu bs×Option (Value×List (List UInt8))) (fun x=>[.c (.ptr (1+l,j) 0),.c (.ptr (0,0) 0),.c (.ptr (0,1) 0),.c (.bF (kE.map encS)),.c (.d (.i .i64 n)),.c (.d (.i .i64 x.1))])
  (fun x=>(match x.2.2.2 with
    |none=>[.box [.bF []],.box [.eP (0,2)],.cZ 6 (x.2.1.map aA.enc)]
    |some (v,dk)=>[.box [.bF []],.box [.eP (0,2)],.cZ 6 ((x.2.1.map aA.enc).set kk (RB kk v)),.box [.d (.s (kE.getD kk [])),.oW (0,4) dk.length v,.bF [],.bF [],.bF [],.bF []],.tok 1 (dk.map encS)])::aP S (l,j) (.box (cur x.2.2.1)))
  (fun x=>x.1<=n/\oV (n-x.1) x.1 x.2.1 x.2.2.1=R/\x.2.1.length=x.1/\((x.2.2.2=none/\x.1<=kk)\/∃v dk,x.2.2.2=some (v,dk)/\kk<x.1/\x.2.1[kk]? =some (vI kk dk))) (fun x=>n-x.1) (0,[],c0,none) rfl rfl ⟨ao _,hR.symm,rfl,.inl ⟨rfl,ao _⟩⟩ ?_
 rintro⟨i,acc,d,mo⟩ ⟨p1,p2,p3,p4⟩;simp only at p1 p2 p3 p4;rcases p4 with⟨rfl,p4⟩|⟨v,dk,rfl,p4,p5⟩
 ·simp only
  simp -implicitDefEqProofs (disch:=omega) only[go_sem]
  with_reducible refine aj (fun hb=> ?_) (fun hb=> ?_)<;>have h:=hb<;>(try simp only[wf_preprocess] at h)<;>simp -implicitDefEqProofs (disch:=omega) only[go_sem,hb]<;>(repeat(with_reducible refine And.intro ?_ ?_;focus first|omega|rfl|assumption|exact⟨_,rfl,rfl⟩|(simp;omega)|(simp;done)))
  ·have ek:n-i=(n-(i+1))+1:=by omega
   rw[ek,oV] at p2
   have hil:i<kE.length:=by omega
   (repeat(with_reducible refine And.intro ?_ ?_;focus first|omega|rfl|assumption|exact⟨_,rfl,rfl⟩|(simp;omega)|(simp;done)))
   refine rJ 3 1 1 _ rfl rfl ?_;obtain⟨Q,hQ⟩:∃Q,Q=mO i 0 [] d:=⟨_,rfl⟩;rw[<-hQ] at p2
   refine OJ [0,2,3,4,5,6,7,8] (ι:=Nat×List (List UInt8)×Cu bs) (fun x=>[.c (.ptr (1+l,j) 0),.c (.ptr (0,0) 0),.c (.ptr (0,1) 0),.c (.bF (kE.map encS)),.c (.d (.i .i64 n)),.c (.d (.i .i64 i)),.c (.ptr (0,3) 0),.c (.d (.i .i64 x.1))])
    (fun x=>[.box [.bF []],.box [.eP (0,2)],.cZ 6 (acc.map aA.enc),.box [.d (.s kE[i]),.bM (0,4) (x.2.1.map encS),.bF [],.bF [],.bF [],.bF []],.tok 1 (x.2.1.map encS)]::aP S (l,j) (.box (cur x.2.2)))
    (fun x=>x.1<=i/\mO (i-x.1) x.1 x.2.1 x.2.2=Q/\x.2.1.length<=x.1) (fun x=>i-x.1) (0,[],d) rfl rfl ⟨ao _,hQ.symm,aw _⟩ ?_
   rintro⟨k,ds,e⟩ ⟨r1,r2,r3⟩;simp only at r1 r2 r3;by_cases hki:k<i
   ·have ek2:i-k=(i-(k+1))+1:=by omega
    have dl:decide ((k:Int)<(i:Int))=true:=decide_eq_true (by omega);refine iy (P:=prog) (T:=[34,24]) zmx _ _ _ rfl ?_;simp -implicitDefEqProofs (disch:=omega) only[go_sem,dl];rw[ek2,mO] at r2
    have hkl:k<kE.length:=by omega
    have q1:=fun fr:List Ab.Obj=>iA hB e (1+l) j (fr::aP S (l,j) (.box (cur e))) 3 (by rw[aQ];exact g _) (by omega) (by omega);obtain⟨o,ho⟩:∃o,o=(cK 3 e).1:=⟨_,rfl⟩;obtain⟨e1,he1⟩:∃e1,e1=(cK 3 e).2:=⟨_,rfl⟩;simp only[<-ho,<-he1,dh,bW] at q1 r2;refine bq rfl (q1 _) ?_
    cases o with
    |true=>
     simp only[if_true] at r2;simp -implicitDefEqProofs (disch:=omega) only[go_sem,encS]
     (repeat(with_reducible refine And.intro ?_ ?_;focus first|omega|rfl|assumption|exact⟨_,rfl,rfl⟩|(simp;omega)|(simp;done)))
     refine⟨by rfl,?_⟩;simp -implicitDefEqProofs (disch:=omega) only[go_sem];rw[Bz hkl];refine bU (k+1,ds++[kE.getD k []],e1) (by simp only;omega) rfl ?_ ⟨by simp only;omega,r2,by simp only[ab,aa,ae];omega⟩;simp only[bc,af,ap];rfl
    |false=>
     simp only[dd,if_false] at r2;simp -implicitDefEqProofs (disch:=omega) only[go_sem];exact bU (k+1,ds,e1) (by simp only;omega) rfl rfl ⟨by simp only;omega,r2,by simp only;omega⟩
   ·obtain rfl:k=i:=by omega
    have dl:decide ((k:Int)<(k:Int))=false:=decide_eq_false (by omega);rw[cU,mO] at r2;subst r2;by_cases hkk:k=kk
    ·subst hkk;refine aaf 3 1 4 _ _ rfl rfl fun v=> ?_;refine iy (P:=prog) (T:=[34,24]) zmx _ _ _ rfl ?_;simp -implicitDefEqProofs (disch:=omega) only[go_sem,dl]
     (repeat(with_reducible refine And.intro ?_ ?_;focus first|omega|rfl|assumption|exact⟨_,rfl,rfl⟩|(simp;omega)|(simp;done)))
     refine Ma 5 2 5 6 _ (by decide) (k+1,acc++[vI k ds],e,some (v,ds)) rfl (by omega) (by omega) (by simp only;omega) (by cases l<;>rfl) ?_ ⟨by simp only;omega,p2,by simp only[ab,aa,ae];omega,.inr ⟨v,ds,rfl,by simp only;omega,by simp only;rw[<-p3,am (aw _),cU];rfl⟩⟩;simp only[bc,af,ap];rw[List.set_append_right _ _ (by rw[al];omega),al,p3,cU,Bz hil];rfl
    ·refine iy (P:=prog) (T:=[34,24]) zmx _ _ _ rfl ?_;simp -implicitDefEqProofs (disch:=omega) only[go_sem,dl]
     (repeat(with_reducible refine And.intro ?_ ?_;focus first|omega|rfl|assumption|exact⟨_,rfl,rfl⟩|(simp;omega)|(simp;done)))
     refine Ma 3 2 5 6 _ (by decide) (k+1,acc++[vI k ds],e,none) rfl (by omega) (by omega) (by simp only;omega) (by cases l<;>rfl) ?_ ⟨by simp only;omega,p2,by simp only[ab,aa,ae];omega,.inl ⟨rfl,by simp only;omega⟩⟩
     simp only
     rw[<-abF,Bz hil];rfl
  ·have hi:i=n:=by omega
   subst hi;rw[cU,oV] at p2;subst p2;simp only at hRl hRs q2 ⊢
   have hel:(acc.map aA.enc).length=i:=by rw[al];exact p3
   by_cases hn0:i=0
   ·have d0:decide (0<(i:Int))=false:=decide_eq_false (by omega);rw[if_pos hn0];simp -implicitDefEqProofs (disch:=omega) only[go_sem,d0]
    first|done|exact⟨rfl,rfl⟩
   have d0:decide (0<(i:Int))=true:=decide_eq_true (by omega)
   have hm0:m≠0:=fun h=>by
    have h1:=hk1 hn0 h;have h2:=(hKr hn0).2;omega
   have d1:decide (m=0)=false:=decide_eq_false hm0;obtain⟨k1,hKk,afQ⟩:∃k1:Nat,K=k1/\k1<i:=⟨K.toNat,by have:=hKr hn0;omega,by have:=hKr hn0;omega⟩;rw[hKk] at q2 ⊢;rw[if_neg hn0,if_neg hm0,cN];simp -implicitDefEqProofs (disch:=omega) only[go_sem,d0];refine bq rfl (q2 (by omega) _) ?_;simp -implicitDefEqProofs (disch:=omega) only[go_sem];refine bq rfl (q3 _) ?_;simp -implicitDefEqProofs (disch:=omega) only[go_sem,d1];by_cases hm1:m=1
   ·have d2:decide (m=1)=true:=decide_eq_true hm1;rw[if_pos hm1];simp -implicitDefEqProofs (disch:=omega) only[go_sem,d2];refine dJ [true] rfl (q4 _) ?_;simp -implicitDefEqProofs (disch:=omega) only[go_sem]
    (repeat(with_reducible refine And.intro ?_ ?_;focus first|omega|rfl|assumption|exact⟨_,rfl,rfl⟩|(simp;omega)|(simp;done)))
    refine⟨by cases l<;>rfl,?_⟩;simp -implicitDefEqProofs (disch:=omega) only[go_sem]
    have hg:acc.getD k1 jI=acc[k1]:=by rw[ch,ag (by omega)];rfl
    simp only[hg,aS.v,List.map_set];rfl
   have d2:decide (m=1)=false:=decide_eq_false hm1;rw[if_neg hm1];by_cases hm2:m=2
   ·have d3:decide (m=2)=true:=decide_eq_true hm2;rw[if_pos hm2];simp -implicitDefEqProofs (disch:=omega) only[go_sem,d2,d3];refine bq rfl (q5 _) ?_;simp -implicitDefEqProofs (disch:=omega) only[go_sem];refine⟨by rfl,?_⟩
    (repeat(with_reducible refine And.intro ?_ ?_;focus first|omega|rfl|assumption|exact⟨_,rfl,rfl⟩|(simp;omega)|(simp;done)))
    refine⟨by cases l<;>rfl,?_⟩;simp -implicitDefEqProofs (disch:=omega) only[go_sem];simp only[aS.v,bc,af,ap];rfl
   ·have d3:decide (m=2)=false:=decide_eq_false hm2;rw[if_neg hm2];simp -implicitDefEqProofs (disch:=omega) only[go_sem,d2,d3]
    first|done|exact⟨rfl,rfl⟩
 ·simp only
  have hkn:kk<kE.length:=by omega
  simp -implicitDefEqProofs (disch:=omega) only[go_sem]
  with_reducible refine aj (fun hb=> ?_) (fun hb=> ?_)<;>have h:=hb<;>(try simp only[wf_preprocess] at h)<;>simp -implicitDefEqProofs (disch:=omega) only[go_sem,hb]<;>(repeat(with_reducible refine And.intro ?_ ?_;focus first|omega|rfl|assumption|exact⟨_,rfl,rfl⟩|(simp;omega)|(simp;done)))
  ·have ek:n-i=(n-(i+1))+1:=by omega
   rw[ek,oV] at p2
   have hil:i<kE.length:=by omega
   (repeat(with_reducible refine And.intro ?_ ?_;focus first|omega|rfl|assumption|exact⟨_,rfl,rfl⟩|(simp;omega)|(simp;done)))
   refine rJ 5 1 1 _ rfl rfl ?_;obtain⟨Q,hQ⟩:∃Q,Q=mO i 0 [] d:=⟨_,rfl⟩;rw[<-hQ] at p2
   refine OJ [0,2,3,4,5,6,7,8] (ι:=Nat×List (List UInt8)×Cu bs) (fun x=>[.c (.ptr (1+l,j) 0),.c (.ptr (0,0) 0),.c (.ptr (0,1) 0),.c (.bF (kE.map encS)),.c (.d (.i .i64 n)),.c (.d (.i .i64 i)),.c (.ptr (0,5) 0),.c (.d (.i .i64 x.1))])
    (fun x=>[.box [.bF []],.box [.eP (0,2)],.cZ 6 ((acc.map aA.enc).set kk (RB kk v)),.box [.d (.s (kE.getD kk [])),.oW (0,4) dk.length v,.bF [],.bF [],.bF [],.bF []],.tok 1 (dk.map encS),.box [.d (.s kE[i]),.bM (0,6) (x.2.1.map encS),.bF [],.bF [],.bF [],.bF []],.tok 1 (x.2.1.map encS)]::aP S (l,j) (.box (cur x.2.2)))
    (fun x=>x.1<=i/\mO (i-x.1) x.1 x.2.1 x.2.2=Q/\x.2.1.length<=x.1) (fun x=>i-x.1) (0,[],d) rfl rfl ⟨ao _,hQ.symm,aw _⟩ ?_
   rintro⟨k,ds,e⟩ ⟨r1,r2,r3⟩;simp only at r1 r2 r3;by_cases hki:k<i
   ·have ek2:i-k=(i-(k+1))+1:=by omega
    have dl:decide ((k:Int)<(i:Int))=true:=decide_eq_true (by omega);refine iy (P:=prog) (T:=[34,24]) zmx _ _ _ rfl ?_;simp -implicitDefEqProofs (disch:=omega) only[go_sem,dl];rw[ek2,mO] at r2
    have hkl:k<kE.length:=by omega
    have q1:=fun fr:List Ab.Obj=>iA hB e (1+l) j (fr::aP S (l,j) (.box (cur e))) 3 (by rw[aQ];exact g _) (by omega) (by omega);obtain⟨o,ho⟩:∃o,o=(cK 3 e).1:=⟨_,rfl⟩;obtain⟨e1,he1⟩:∃e1,e1=(cK 3 e).2:=⟨_,rfl⟩;simp only[<-ho,<-he1,dh,bW] at q1 r2;refine bq rfl (q1 _) ?_
    cases o with
    |true=>
     simp only[if_true] at r2;simp -implicitDefEqProofs (disch:=omega) only[go_sem,encS]
     (repeat(with_reducible refine And.intro ?_ ?_;focus first|omega|rfl|assumption|exact⟨_,rfl,rfl⟩|(simp;omega)|(simp;done)))
     refine⟨by rfl,?_⟩;simp -implicitDefEqProofs (disch:=omega) only[go_sem];rw[Bz hkl];refine bU (k+1,ds++[kE.getD k []],e1) (by simp only;omega) rfl ?_ ⟨by simp only;omega,r2,by simp only[ab,aa,ae];omega⟩;simp only[bc,af,ap];rfl
    |false=>
     simp only[dd,if_false] at r2;simp -implicitDefEqProofs (disch:=omega) only[go_sem];exact bU (k+1,ds,e1) (by simp only;omega) rfl rfl ⟨by simp only;omega,r2,by simp only;omega⟩
   ·obtain rfl:k=i:=by omega
    have dl:decide ((k:Int)<(k:Int))=false:=decide_eq_false (by omega);rw[cU,mO] at r2;subst r2;refine iy (P:=prog) (T:=[34,24]) zmx _ _ _ rfl ?_;simp -implicitDefEqProofs (disch:=omega) only[go_sem,dl]
    (repeat(with_reducible refine And.intro ?_ ?_;focus first|omega|rfl|assumption|exact⟨_,rfl,rfl⟩|(simp;omega)|(simp;done)))
    refine Ma 5 2 7 6 _ (by decide) (k+1,acc++[vI k ds],e,some (v,dk)) rfl (by omega) (by omega) (by simp only;omega) (by cases l<;>rfl) ?_ ⟨by simp only;omega,p2,by simp only[ab,aa,ae];omega,.inr ⟨v,dk,rfl,by simp only;omega,by simp only;rw[an (by omega)];exact p5⟩⟩;simp only[bc,af,ap];rw[List.set_append_left _ _ (by rw[al];omega),Bz hil];rfl
  ·have hi:i=n:=by omega
   subst hi;rw[cU,oV] at p2;subst p2;simp only at hRl hRs q2 ⊢
   have hn0:i≠0:=by omega
   have hm0:m=0:=by
    by_cases h:m=0
    ·exact h
    ·have:=hk2 (.inr h);omega
   have hKk:=hk1 hn0 hm0;rw[hKk] at q2 ⊢;rw[if_neg hn0,if_pos hm0,cN];have d0:decide (0<(i:Int))=true:=decide_eq_true (by omega);have d1:decide (m=0)=true:=decide_eq_true hm0;obtain⟨E,hE⟩:∃E,E=(acc.map aA.enc).set kk (RB kk v):=⟨_,rfl⟩
   have hEl:E.length=i:=by rw[hE,cn,al];exact p3
   have YN:E.getD kk []=[.s (kE.getD kk []),.o v,.sl [],.sl [],.sl [],.sl []]:=by
    rw[hE,ch,cW (by rw[al];omega)];rfl
   rw[<-hE];simp -implicitDefEqProofs (disch:=omega) only[go_sem,d0];refine bq rfl (q2 (by omega) _) ?_;simp -implicitDefEqProofs (disch:=omega) only[go_sem];refine bq rfl (q3 _) ?_;simp -implicitDefEqProofs (disch:=omega) only[go_sem,d1,YN]
   (repeat(with_reducible refine And.intro ?_ ?_;focus first|omega|rfl|assumption|exact⟨_,rfl,rfl⟩|(simp;omega)|(simp;done)))
   refine dJ [true] rfl (q4 _) ?_;simp -implicitDefEqProofs (disch:=omega) only[go_sem,YN]
   (repeat(with_reducible refine And.intro ?_ ?_;focus first|omega|rfl|assumption|exact⟨_,rfl,rfl⟩|(simp;omega)|(simp;done)))
   have hdk:dk.length<=60:=by
    have h:=hRs _ (cq p5);unfold vI at h;simp only[iM] at h;omega
   refine Dq 3 1 4 (dk.map encS) ⟨_,rfl,by rw[al];rfl,rfl⟩ (by rw[al];simp only[aa,ae];omega) ?_;simp -implicitDefEqProofs (disch:=omega) only[go_sem,YN]
   (repeat(with_reducible refine And.intro ?_ ?_;focus first|omega|rfl|assumption|exact⟨_,rfl,rfl⟩|(simp;omega)|(simp;done)))
   refine⟨by cases l<;>rfl,?_⟩;simp -implicitDefEqProofs (disch:=omega) only[go_sem,YN]
   have hg:acc.getD kk jI=vI kk dk:=by rw[ch,p5];rfl
   simp only[hg,hE,aS.v,List.map_set,List.set_set,vI,aA.aB,bc,af,ap];rfl
end Go.Ab