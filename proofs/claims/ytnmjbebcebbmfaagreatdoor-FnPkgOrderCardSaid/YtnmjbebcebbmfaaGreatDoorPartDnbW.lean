/-
  SEVERAL TEXTS IN ONE (merged by program): contracts and models, each with its own heading.
-/
import Derived.Test.YtnmjbebcebbmfaaGreatDoorPartDnbU
import Derived.Test.YtnmjbebcebbmfaaGreatDoorPartDnbV
set_option maxHeartbeats 8000000
open Go.Proofs Go.Proofs.Tryz
set_option linter.unusedSimpArgs false
set_option linter.unusedVariables false
set_option maxRecDepth 8000
namespace Go.Ab
def acL:List (List UInt8):=[[97],[99]]
theorem amr:fO acL:=by unfold fO;decide
theorem SH(s:List UInt8)(v:List (List UInt8))(b:au):bX (cO.mk s v b).enc=s.length+(v.length+aS (v.map encS))+b.sz:=by
 simp only[cO.aC,bX,bT,D.sz,ab,au.dY];omega
theorem inst_mk_sz(t:List UInt8)(v:List (List UInt8))(h:ak)(w:List bQ)(d e:Bool)(a:ak)(m:List cO):(aQ.mk t v h w d e a m).sz=t.length+(v.length+aS (v.map encS))+h.sz+(w.length+aS (w.map bQ.enc))+a.sz+(m.length+aS (m.map cO.enc)):=by
 simp only[aQ.sz,aQ.aC,bX,bT,D.sz,ab,ak.dY];omega
def ug(h:Int):List (List UInt8):=if h=0 then [] else if h=1 then [[97]] else if h=2 then [[97],[98]] else [[97]]
def Dv(h:Int):ak:=if h=0 then wK else if h=1 then wJ [108,105,115,116] [su [97]] else if h=2 then wJ [112,97,105,114] [su [97],su [98]] else su [97]
def headW(h:Int)(s:List UInt8):List bQ:=if h=0 then [] else if h=1 then [⟨s,su [97]⟩] else if h=2 then [] else [⟨[111,114,100],su [97]⟩]
def KY(n:Int):cO:=⟨[109],[[120]],nP n⟩
def instK{bs:List Int}(s:List UInt8)(n:Int)(v:List (List UInt8))(t:ak)(w:List bQ)(o:Bool)(a:ak)(d:Bool)(k:Int)(c:Cu bs):aQ×Cu bs:=
 if k=0 then(⟨s,v,(uL 2 c).1,w,d,o,a,[KY n]⟩,(uL 2 c).2) else
 if k=1 then(⟨s,v++[(cK acL c).1],t,w,d,o,a,[KY n]⟩,(cK acL c).2) else
 if k=2 then(⟨s,v,t,w++[⟨[101,113],(uL 1 c).1⟩],d,o,a,[KY n]⟩,(uL 1 c).2) else
 if k=3 then(⟨s,v,t,w,d,o,a,[⟨[109],[[120]],(iX 2 Iy c).1⟩]⟩,(iX 2 Iy c).2) else
 if k=4 then(⟨s,v,t,w,d,o,wK,[KY n]⟩,c) else
 if k=5 then(⟨s,v,t,w,d,o,a,[⟨[109],[],nP n⟩]⟩,c) else
 (⟨s,v,t,w,d,o,a,[KY n]⟩,c)
def Eh{bs:List Int}(h:Int)(o:Bool)(c:Cu bs):ak×Cu bs:=match o with
 |true=>qp (ug h) 1 c
 |false=>(zT,c)
def instH{bs:List Int}(s:List UInt8)(n h:Int)(o:Bool)(a:ak)(c:Cu bs):aQ×Cu bs:=
 instK s n (ug h) (Dv h) (headW h s) o a (bZ 4 c).1 (aY 12 (bZ 4 c).2).1 (aY 12 (bZ 4 c).2).2
def instG{bs:List Int}(s:List UInt8)(n h:Int)(c:Cu bs):aQ×Cu bs:=
 instH s n h (bZ 3 c).1 (Eh h (bZ 3 c).1 (bZ 3 c).2).1 (Eh h (bZ 3 c).1 (bZ 3 c).2).2
def instX{bs:List Int}(c:Cu bs):aQ×Cu bs:=
 instG (cK oI c).1 (aY 9 (cK oI c).2).1 (aY 4 (aY 9 (cK oI c).2).2).1 (aY 4 (aY 9 (cK oI c).2).2).2
theorem KZ(h:Int):(ug h).length<=2/\aS ((ug h).map encS)<=2/\fO (ug h):=by
 unfold ug;split
 ·exact⟨gE,gE,by unfold fO;decide⟩
 split
 ·exact⟨gE,gE,by unfold fO;decide⟩
 split<;>exact⟨gE,gE,by unfold fO;decide⟩
theorem ams(h:Int):(Dv h).sz<=20:=by
 unfold Dv;split
 ·rw[xL];omega
 split
 ·simp only[Ol,rX,aa,al];omega
 split
 ·simp only[acR,rX,aa,al];omega
 ·simp only[rX,aa,al];omega
theorem amt(h:Int)(s:List UInt8):(headW h s).length<=1/\aS ((headW h s).map bQ.enc)<=s.length+4:=by
 unfold headW;split
 ·exact⟨gL,by simp[aS]⟩
 split
 ·exact⟨gL,by simp only[af,aw,aS,uS,rX,aa,al];omega⟩
 split
 ·exact⟨gL,by simp[aS]⟩
 ·exact⟨gL,by simp only[af,aw,aS,uS,rX,aa,al];omega⟩
theorem instX_sz{bs:List Int}(c:Cu bs):(instX c).1.sz<=2000:=by
 unfold instX;have h0:=iA c ZJ;generalize (cK oI c).1=s at h0;generalize (aY 9 (cK oI c).2).1=n;generalize (aY 4 (aY 9 (cK oI c).2).2).1=h;generalize (aY 4 (aY 9 (cK oI c).2).2).2=c1;unfold instG
 have ha:(Eh h (bZ 3 c1).1 (bZ 3 c1).2).1.sz<=30:=by
  cases (bZ 3 c1).1 with
  |true=>have:=Mv (KZ h).2.2 1 (bZ 3 c1).2;show(qp (ug h) 1 (bZ 3 c1).2).1.sz<=30;omega
  |false=>show zT.sz<=30;rw[sw];omega
 generalize (Eh h (bZ 3 c1).1 (bZ 3 c1).2).1=a at ha;generalize (Eh h (bZ 3 c1).1 (bZ 3 c1).2).2=c2;generalize (bZ 3 c1).1=o;unfold instH;have h1:=KZ h;have h2:=ams h;have h3:=amt h s;generalize ug h=v at h1;generalize Dv h=t at h2;generalize headW h s=w at h3;generalize (bZ 4 c2).1=d;generalize (aY 12 (bZ 4 c2).2).1=k;generalize (aY 12 (bZ 4 c2).2).2=c3;have h4:=GD 2 c3;have h5:=GD 1 c3;have h6:=P5 2 Iy c3 Qo;have h7:=iA c3 amr;unfold instK
 iterate 6
  split
  ·simp only[inst_mk_sz,KY,SH,Uz,xL,af,aw,bw,aS,wB,rR,uS,aa,al,ae];omega
 simp only[inst_mk_sz,KY,SH,Uz,af,aw,aS,rR,aa,al];omega
theorem aiN{bs:List Int}(hB:Bytes bs)(c c1 c2 c3 c4 c5 c6 c7:Cu bs)(s:List UInt8)(n h:Int)(o d:Bool)(a:ak)(k:Int)(l j:Nat)(S:Store)(hk:bC S (l,j)=some (.box (cur c)))(h1:cK oI c=(s,c1))(h2:aY 9 c1=(n,c2))(h3:aY 4 c2=(h,c3))(h4:bZ 3 c3=(o,c4))(h5:Eh h o c4=(a,c5))(h6:bZ 4 c5=(d,c6))(h7:aY 12 c6=(k,c7))(hh:h=0\/h=1\/h=2\/h=3)(avP:k=3\/k=5):
 bS prog 49 [.c (.ptr (l,j) 0)] S (fun r S1=>r=(instK s n (ug h) (Dv h) (headW h s) o a d k c7).1.v/\S1=bA S (l,j) (.box (cur (instK s n (ug h) (Dv h) (headW h s) o a d k c7).2))):=by
 have g:∀x:Ab.Obj,bC (bA S (l,j) x) (l,j)=some x:=fun x=>dA _ _ _ _ hk;have q1:=fun fr:List Ab.Obj=>gB hB c (1+l) j (fr::S) oI (by rw[aW];exact hk) gE gE;simp only[h1,dn] at q1;have q2:=fun fr:List Ab.Obj=>eB hB c1 (1+l) j (fr::bA S (l,j) (.box (cur c1))) 9 gO gA gA;simp only[h2,dn,cu] at q2;have q3:=fun fr:List Ab.Obj=>eB hB c2 (1+l) j (fr::bA S (l,j) (.box (cur c2))) 4 gO gA gA;simp only[h3,dn,cu] at q3;have q4:=fun fr:List Ab.Obj=>iW hB c3 (1+l) j (fr::bA S (l,j) (.box (cur c3))) 3 gO gA gA;simp only[h4,dn,cu] at q4;have q5:=fun(fr:List Ab.Obj)=>xH (KF hB (vars:=ug h) (by have:=(KZ h).1;omega) 1 c4 (1+l) j (fr::bA S (l,j) (.box (cur c4))) gO gA);have q6:=fun fr:List Ab.Obj=>iW hB c5 (1+l) j (fr::bA S (l,j) (.box (cur c5))) 4 gO gA gA;simp only[h6,dn,cu] at q6;have q7:=fun fr:List Ab.Obj=>eB hB c6 (1+l) j (fr::bA S (l,j) (.box (cur c6))) 12 gO gA gA;simp only[h7,dn,cu] at q7;obtain⟨q,hq⟩:∃q,q=instK s n (ug h) (Dv h) (headW h s) o a d k c7:=⟨_,rfl⟩;rw[<-hq];refine bS.of_le ?_;refine FE [40] (rs:=[.cell 2 77]) zmx func49 ntmps49 rfl rfl rfl rfl rfl ?_;refine W1 ?_;refine dX [true] rfl (q1 _) ?_;refine W1 ?_;refine bD rfl (q2 _) ?_;refine W1 ?_;refine C1 (uM _) ?_;refine W3 ?_;refine bD rfl (q3 _) ?_;rcases hh with rfl|rfl|rfl|rfl
 all_goals refine W1 ?_
 all_goals
  first
  |(refine bn tK ?_
    refine W1 ?_)
  |(refine bn (iB _) ?_
    refine W1 ?_;refine W3 ?_;refine C1 (zZ [108,105,115,116] [su [97]] rfl gE (.inl rfl)) ?_;refine C1 (iB _) ?_;refine W3 ?_
    first
    |(refine⟨by rfl,?_⟩
      refine W1 ?_)
    |skip)
  |(refine bn (iB _) ?_
    refine W1 ?_;refine C1 (iB _) ?_;refine W3 ?_;refine bn (zZ [112,97,105,114] [su [97],su [98]] rfl gE (.inl rfl)) ?_
    refine W1 ?_)
  |(refine bn (iB _) ?_
    refine W1 ?_;refine C1 (iB _) ?_
    refine W3 ?_)
 all_goals refine bD rfl (q4 _) ?_
 all_goals rcases o with _|_
 all_goals
  first
  |(have e5:qp (ug _) 1 c4=(a,c5):=h5
    rw[e5] at q5;simp only[dn,cu] at q5;refine W1 ?_;refine dX [true] rfl (q5 _) ?_
    refine W1 ?_)
  |(obtain⟨rfl,rfl⟩:zT=a/\c4=c5:=by
     have e5:(zT,c4)=(a,c5):=h5;cases e5;exact⟨rfl,rfl⟩
    refine W1 ?_)
 all_goals
  refine bD rfl (q6 _) ?_;refine W1 ?_;refine bD rfl (q7 _) ?_;rcases avP with rfl|rfl
  ·simp only[instK,reduceIte,Int.reduceEq] at hq;refine W1 ?_;refine dX [true] rfl (xI (O0 hB 2 Iy c7 (1+l) j _ gE gO)) ?_;refine W1 ?_;refine W3 ?_
   first
   |(refine⟨by cases l<;>rfl,?_⟩
     refine W1 ?_)
   |skip
   rw[hq];exact lend
  ·simp only[instK,reduceIte,Int.reduceEq] at hq;refine W1 ?_;refine W3 ?_
   first
   |(refine⟨by cases l<;>rfl,?_⟩
     simp -implicitDefEqProofs (disch:=omega) only[go_sem])
   |skip
   rw[hq];exact lend
theorem aiO{bs:List Int}(hB:Bytes bs)(c c1 c2 c3 c4 c5 c6 c7:Cu bs)(s:List UInt8)(n h:Int)(o d:Bool)(a:ak)(k:Int)(l j:Nat)(S:Store)(hk:bC S (l,j)=some (.box (cur c)))(h1:cK oI c=(s,c1))(h2:aY 9 c1=(n,c2))(h3:aY 4 c2=(h,c3))(h4:bZ 3 c3=(o,c4))(h5:Eh h o c4=(a,c5))(h6:bZ 4 c5=(d,c6))(h7:aY 12 c6=(k,c7))(hh:h=0\/h=1\/h=2\/h=3)(hk3:k≠3)(hk5:k≠5):
 bS prog 49 [.c (.ptr (l,j) 0)] S (fun r S1=>r=(instK s n (ug h) (Dv h) (headW h s) o a d k c7).1.v/\S1=bA S (l,j) (.box (cur (instK s n (ug h) (Dv h) (headW h s) o a d k c7).2))):=by
 have g:∀x:Ab.Obj,bC (bA S (l,j) x) (l,j)=some x:=fun x=>dA _ _ _ _ hk;have q1:=fun fr:List Ab.Obj=>gB hB c (1+l) j (fr::S) oI (by rw[aW];exact hk) gE gE;simp only[h1,dn] at q1;have q2:=fun fr:List Ab.Obj=>eB hB c1 (1+l) j (fr::bA S (l,j) (.box (cur c1))) 9 gO gA gA;simp only[h2,dn,cu] at q2;have q3:=fun fr:List Ab.Obj=>eB hB c2 (1+l) j (fr::bA S (l,j) (.box (cur c2))) 4 gO gA gA;simp only[h3,dn,cu] at q3;have q4:=fun fr:List Ab.Obj=>iW hB c3 (1+l) j (fr::bA S (l,j) (.box (cur c3))) 3 gO gA gA;simp only[h4,dn,cu] at q4;have q5:=fun(fr:List Ab.Obj)=>xH (KF hB (vars:=ug h) (by have:=(KZ h).1;omega) 1 c4 (1+l) j (fr::bA S (l,j) (.box (cur c4))) gO gA);have q6:=fun fr:List Ab.Obj=>iW hB c5 (1+l) j (fr::bA S (l,j) (.box (cur c5))) 4 gO gA gA;simp only[h6,dn,cu] at q6;have q7:=fun fr:List Ab.Obj=>eB hB c6 (1+l) j (fr::bA S (l,j) (.box (cur c6))) 12 gO gA gA;simp only[h7,dn,cu] at q7;obtain⟨q,hq⟩:∃q,q=instK s n (ug h) (Dv h) (headW h s) o a d k c7:=⟨_,rfl⟩;rw[<-hq];refine bS.of_le ?_;refine nT [40] (rs:=[.cell 2 77]) zmx func49 ntmps49 rfl rfl rfl rfl rfl ?_;refine W1 ?_;refine dX [true] rfl (q1 _) ?_;refine W1 ?_;refine bD rfl (q2 _) ?_;refine W1 ?_;refine C1 (uM _) ?_;refine W3 ?_;refine bD rfl (q3 _) ?_;rcases hh with rfl|rfl|rfl|rfl
 all_goals refine W1 ?_
 all_goals
  first
  |(refine bn tK ?_
    refine W1 ?_)
  |(refine bn (iB _) ?_
    refine W1 ?_;refine W3 ?_;refine C1 (zZ [108,105,115,116] [su [97]] rfl gE (.inl rfl)) ?_;refine C1 (iB _) ?_;refine W3 ?_
    first
    |(refine⟨by rfl,?_⟩
      refine W1 ?_)
    |skip)
  |(refine bn (iB _) ?_
    refine W1 ?_;refine C1 (iB _) ?_;refine W3 ?_;refine bn (zZ [112,97,105,114] [su [97],su [98]] rfl gE (.inl rfl)) ?_
    refine W1 ?_)
  |(refine bn (iB _) ?_
    refine W1 ?_;refine C1 (iB _) ?_
    refine W3 ?_)
 all_goals refine bD rfl (q4 _) ?_
 all_goals rcases o with _|_
 all_goals
  first
  |(have e5:qp (ug _) 1 c4=(a,c5):=h5
    rw[e5] at q5;simp only[dn,cu] at q5;refine W1 ?_;refine dX [true] rfl (q5 _) ?_
    refine W1 ?_)
  |(obtain⟨rfl,rfl⟩:zT=a/\c4=c5:=by
     have e5:(zT,c4)=(a,c5):=h5;cases e5;exact⟨rfl,rfl⟩
    refine W1 ?_)
 all_goals
  refine bD rfl (q6 _) ?_;refine W1 ?_;refine bD rfl (q7 _) ?_;refine W1 ?_;refine S0 (fun hb h=>?_) fun hb h=>?_
  ·subst h;simp only[instK,reduceIte,Int.reduceEq] at hq;refine bD rfl (D5 hB 2 c7 (1+l) j _ gO gA) ?_;refine W1 ?_;rw[hq];exact lend
  have e0:=h;refine S0 (fun hb h=>?_) fun hb h=>?_
  ·subst h;simp only[instK,reduceIte,Int.reduceEq] at hq;refine dX [true] rfl (gB hB c7 (1+l) j _ acL gO gE gE) ?_;refine W1 ?_;refine W3 ?_
   first
   |(refine⟨by cases l<;>rfl,?_⟩
     refine W1 ?_)
   |skip
   rw[hq];exact lend
  have e1:=h;refine S0 (fun hb h=>?_) fun hb h=>?_
  ·subst h;simp only[instK,reduceIte,Int.reduceEq] at hq;refine bD rfl (D5 hB 1 c7 (1+l) j _ gO gA) ?_;refine W1 ?_;refine W3 ?_
   first
   |(refine⟨by cases l<;>rfl,?_⟩
     refine W1 ?_)
   |skip
   rw[hq];exact lend
  have e2:=h;refine S0 (fun hb h=>?_) fun hb h=>?_
  ·exact absurd h hk3
  refine S0 (fun hb h=>?_) fun hb h=>?_
  ·subst h;simp only[instK,reduceIte,Int.reduceEq] at hq;refine bn tK ?_;refine W1 ?_;rw[hq];exact lend
  have e4:=h;refine S0 (fun hb h=>?_) fun hb h=>?_
  ·exact absurd h hk5
  simp only[instK,if_neg e0,if_neg e1,if_neg e2,if_neg hk3,if_neg e4,if_neg hk5] at hq;rw[hq];exact lend
theorem afP{bs:List Int}(hB:Bytes bs)(c:Cu bs)(l j:Nat)(S:Store)(hk:bC S (l,j)=some (.box (cur c))):
 bS prog 49 [.c (.ptr (l,j) 0)] S (fun r S1=>r=(instX c).1.v/\S1=bA S (l,j) (.box (cur (instX c).2))):=by
 have hh:=iF (n:=4) (aY 9 (cK oI c).2).2 gA;unfold instX;generalize hh0:(aY 4 (aY 9 (cK oI c).2).2).1=h at hh;generalize hc0:(aY 4 (aY 9 (cK oI c).2).2).2=c3;unfold instG;generalize hc1:(Eh h (bZ 3 c3).1 (bZ 3 c3).2).2=c5;unfold instH;by_cases h35:(aY 12 (bZ 4 c5).2).1=3\/(aY 12 (bZ 4 c5).2).1=5
 ·exact aiN hB c _ _ c3 _ c5 _ _ _ _ h _ _ _ _ l j S hk rfl rfl (eR hh0 hc0) rfl (eR rfl hc1) rfl rfl gA h35
 ·exact aiO hB c _ _ c3 _ c5 _ _ _ _ h _ _ _ _ l j S hk rfl rfl (eR hh0 hc0) rfl (eR rfl hc1) rfl rfl gA (fun e=>h35 (.inl e)) (fun e=>h35 (.inr e))
end Go.Ab