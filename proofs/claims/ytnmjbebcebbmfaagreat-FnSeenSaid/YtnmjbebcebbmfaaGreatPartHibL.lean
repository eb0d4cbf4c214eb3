/-
  SEVERAL TEXTS IN ONE (merged by program): contracts and models, each with its own heading.
-/
import Derived.Test.YtnmjbebcebbmfaaGreatPartHibI
import Derived.Test.YtnmjbebcebbmfaaGreatPartHibK
set_option maxHeartbeats 8000000
open Go.Proofs Go.Proofs.Tryz
set_option linter.unusedSimpArgs false
set_option linter.unusedVariables false
set_option maxRecDepth 8000
namespace Go.Ab
def YM:List (List UInt8):=[[97],[99]]
theorem X5:dO YM:=by unfold dO;decide
theorem Gb(s:List UInt8)(v:List (List UInt8))(b:ak):aY (cO.mk s v b).enc=s.length+(v.length+aH (v.map encS))+b.sz:=by
 simp only[cO.aB,aY,bG,D.sz,al,ak.cB];omega
theorem inst_mk_sz(t:List UInt8)(v:List (List UInt8))(h:ah)(w:List bR)(d e:Bool)(a:ah)(m:List cO):(bI.mk t v h w d e a m).sz=t.length+(v.length+aH (v.map encS))+h.sz+(w.length+aH (w.map bR.enc))+a.sz+(m.length+aH (m.map cO.enc)):=by
 simp only[bI.sz,bI.aB,aY,bG,D.sz,al,ah.cB];omega
def lU(h:Int):List (List UInt8):=if h=0 then [] else if h=1 then [[97]] else if h=2 then [[97],[98]] else [[97]]
def uK(h:Int):ah:=if h=0 then nT else if h=1 then nS [108,105,115,116] [kT [97]] else if h=2 then nS [112,97,105,114] [kT [97],kT [98]] else kT [97]
def headW(h:Int)(s:List UInt8):List bR:=if h=0 then [] else if h=1 then [⟨s,kT [97]⟩] else if h=2 then [] else [⟨[111,114,100],kT [97]⟩]
def zL(n:Int):cO:=⟨[109],[[120]],je n⟩
def instK{bs:List Int}(s:List UInt8)(n:Int)(v:List (List UInt8))(t:ah)(w:List bR)(o:Bool)(a:ah)(d:Bool)(k:Int)(c:Cu bs):bI×Cu bs:=
 if k=0 then(⟨s,v,(mI 2 c).1,w,d,o,a,[zL n]⟩,(mI 2 c).2) else
 if k=1 then(⟨s,v++[(bD YM c).1],t,w,d,o,a,[zL n]⟩,(bD YM c).2) else
 if k=2 then(⟨s,v,t,w++[⟨[101,113],(mI 1 c).1⟩],d,o,a,[zL n]⟩,(mI 1 c).2) else
 if k=3 then(⟨s,v,t,w,d,o,a,[⟨[109],[[120]],(fE 2 xV c).1⟩]⟩,(fE 2 xV c).2) else
 if k=4 then(⟨s,v,t,w,d,o,nT,[zL n]⟩,c) else
 if k=5 then(⟨s,v,t,w,d,o,a,[⟨[109],[],je n⟩]⟩,c) else
 (⟨s,v,t,w,d,o,a,[zL n]⟩,c)
def vw{bs:List Int}(h:Int)(o:Bool)(c:Cu bs):ah×Cu bs:=match o with
 |true=>jV (lU h) 1 c
 |false=>(zT,c)
def instH{bs:List Int}(s:List UInt8)(n h:Int)(o:Bool)(a:ah)(c:Cu bs):bI×Cu bs:=
 instK s n (lU h) (uK h) (headW h s) o a (cK 4 c).1 (aD 12 (cK 4 c).2).1 (aD 12 (cK 4 c).2).2
def instG{bs:List Int}(s:List UInt8)(n h:Int)(c:Cu bs):bI×Cu bs:=
 instH s n h (cK 3 c).1 (vw h (cK 3 c).1 (cK 3 c).2).1 (vw h (cK 3 c).1 (cK 3 c).2).2
def instX{bs:List Int}(c:Cu bs):bI×Cu bs:=
 instG (bD jG c).1 (aD 9 (bD jG c).2).1 (aD 4 (aD 9 (bD jG c).2).2).1 (aD 4 (aD 9 (bD jG c).2).2).2
theorem zM(h:Int):(lU h).length<=2/\aH ((lU h).map encS)<=2/\dO (lU h):=by
 unfold lU;split
 ·exact⟨by decide,by decide,by unfold dO;decide⟩
 split
 ·exact⟨by decide,by decide,by unfold dO;decide⟩
 split<;>exact⟨by decide,by decide,by unfold dO;decide⟩
theorem X6(h:Int):(uK h).sz<=20:=by
 unfold uK;split
 ·rw[oI];omega
 split
 ·simp only[Cn,kR,aa,ae];omega
 split
 ·simp only[OD,kR,aa,ae];omega
 ·simp only[kR,aa,ae];omega
theorem X7(h:Int)(s:List UInt8):(headW h s).length<=1/\aH ((headW h s).map bR.enc)<=s.length+4:=by
 unfold headW;split
 ·exact⟨by simp,by simp[aH]⟩
 split
 ·exact⟨by simp,by simp only[af,ap,aH,mM,kR,aa,ae];omega⟩
 split
 ·exact⟨by simp,by simp[aH]⟩
 ·exact⟨by simp,by simp only[af,ap,aH,mM,kR,aa,ae];omega⟩
theorem instX_sz{bs:List Int}(c:Cu bs):(instX c).1.sz<=2000:=by
 unfold instX;have h0:=eX c Me;generalize (bD jG c).1=s at h0;generalize (aD 9 (bD jG c).2).1=n;generalize (aD 4 (aD 9 (bD jG c).2).2).1=h;generalize (aD 4 (aD 9 (bD jG c).2).2).2=c1;unfold instG
 have ha:(vw h (cK 3 c1).1 (cK 3 c1).2).1.sz<=30:=by
  cases (cK 3 c1).1 with
  |true=>have:=Bt (zM h).2.2 1 (cK 3 c1).2;show(jV (lU h) 1 (cK 3 c1).2).1.sz<=30;omega
  |false=>show zT.sz<=30;rw[kU];omega
 generalize (vw h (cK 3 c1).1 (cK 3 c1).2).1=a at ha;generalize (vw h (cK 3 c1).1 (cK 3 c1).2).2=c2;generalize (cK 3 c1).1=o;unfold instH;have h1:=zM h;have h2:=X6 h;have h3:=X7 h s;generalize lU h=v at h1;generalize uK h=t at h2;generalize headW h s=w at h3;generalize (cK 4 c2).1=d;generalize (aD 12 (cK 4 c2).2).1=k;generalize (aD 12 (cK 4 c2).2).2=c3;have h4:=xB 2 c3;have h5:=xB 1 c3;have h6:=Ed 2 xV c3 Ef;have h7:=eX c3 X5;unfold instK
 iterate 6
  split
  ·simp only[inst_mk_sz,zL,Gb,Hg,oI,af,ap,bc,aH,lq,kL,mM,aa,ae,ab];omega
 simp only[inst_mk_sz,zL,Gb,Hg,af,ap,aH,kL,aa,ae];omega
theorem UQ{bs:List Int}(hB:Bytes bs)(c c1 c2 c3 c4 c5 c6 c7:Cu bs)(s:List UInt8)(n h:Int)(o d:Bool)(a:ah)(k:Int)(l j:Nat)(S:Store)(hk:aN S (l,j)=some (.box (cur c)))(h1:bD jG c=(s,c1))(h2:aD 9 c1=(n,c2))(h3:aD 4 c2=(h,c3))(h4:cK 3 c3=(o,c4))(h5:vw h o c4=(a,c5))(h6:cK 4 c5=(d,c6))(h7:aD 12 c6=(k,c7))(hh:h=0\/h=1\/h=2\/h=3)(ae1:k=3\/k=5):
 bK prog 50 [.c (.ptr (l,j) 0)] S (fun r S1=>r=(instK s n (lU h) (uK h) (headW h s) o a d k c7).1.v/\S1=aP S (l,j) (.box (cur (instK s n (lU h) (uK h) (headW h s) o a d k c7).2))):=by
 have g:∀x:Ab.Obj,aN (aP S (l,j) x) (l,j)=some x:=fun x=>bP _ _ _ _ hk;have q1:=fun fr:List Ab.Obj=>dU hB c (1+l) j (fr::S) jG (by rw[aQ];exact hk) (by decide) (by decide);simp only[h1,dh] at q1;have q2:=fun fr:List Ab.Obj=>dB hB c1 (1+l) j (fr::aP S (l,j) (.box (cur c1))) 9 (by rw[aQ];exact g _) (by omega) (by omega);simp only[h2,dh,bW] at q2;have q3:=fun fr:List Ab.Obj=>dB hB c2 (1+l) j (fr::aP S (l,j) (.box (cur c2))) 4 (by rw[aQ];exact g _) (by omega) (by omega);simp only[h3,dh,bW] at q3;have q4:=fun fr:List Ab.Obj=>iA hB c3 (1+l) j (fr::aP S (l,j) (.box (cur c3))) 3 (by rw[aQ];exact g _) (by omega) (by omega);simp only[h4,dh,bW] at q4;have q5:=fun(fr:List Ab.Obj)=>oG (zJ hB (vars:=lU h) (by have:=(zM h).1;omega) 1 c4 (1+l) j (fr::aP S (l,j) (.box (cur c4))) (by rw[aQ];exact g _) (by omega));have q6:=fun fr:List Ab.Obj=>iA hB c5 (1+l) j (fr::aP S (l,j) (.box (cur c5))) 4 (by rw[aQ];exact g _) (by omega) (by omega);simp only[h6,dh,bW] at q6;have q7:=fun fr:List Ab.Obj=>dB hB c6 (1+l) j (fr::aP S (l,j) (.box (cur c6))) 12 (by rw[aQ];exact g _) (by omega) (by omega);simp only[h7,dh,bW] at q7;obtain⟨q,hq⟩:∃q,q=instK s n (lU h) (uK h) (headW h s) o a d k c7:=⟨_,rfl⟩;rw[<-hq];refine bK.of_le ?_;refine wo [34] (rs:=[.cell 2 77]) zmx func50 ntmps50 rfl rfl rfl rfl rfl ?_;simp -implicitDefEqProofs (disch:=omega) only[go_sem];refine dJ [true] rfl (q1 _) ?_;simp -implicitDefEqProofs (disch:=omega) only[go_sem];refine bq rfl (q2 _) ?_;simp -implicitDefEqProofs (disch:=omega) only[go_sem];refine au (mJ _) ?_;simp -implicitDefEqProofs (disch:=omega) only[go_sem]
 (repeat(with_reducible refine And.intro ?_ ?_;focus first|omega|rfl|assumption|exact⟨_,rfl,rfl⟩|(simp;omega)|(simp;done)))
 refine bq rfl (q3 _) ?_;rcases hh with rfl|rfl|rfl|rfl
 all_goals simp -implicitDefEqProofs (disch:=omega) only[go_sem]
 all_goals
  first
  |(refine au lS ?_
    simp -implicitDefEqProofs (disch:=omega) only[go_sem])
  |(refine au (eH _) ?_
    simp -implicitDefEqProofs (disch:=omega) only[go_sem]
    (repeat(with_reducible refine And.intro ?_ ?_;focus first|omega|rfl|assumption|exact⟨_,rfl,rfl⟩|(simp;omega)|(simp;done)))
    refine au (qR [108,105,115,116] [kT [97]] rfl (by decide) (.inl rfl)) ?_;simp -implicitDefEqProofs (disch:=omega) only[go_sem];refine au (eH _) ?_;simp -implicitDefEqProofs (disch:=omega) only[go_sem]
    (repeat(with_reducible refine And.intro ?_ ?_;focus first|omega|rfl|assumption|exact⟨_,rfl,rfl⟩|(simp;omega)|(simp;done)))
    first
    |(refine⟨by rfl,?_⟩
      simp -implicitDefEqProofs (disch:=omega) only[go_sem])
    |skip)
  |(refine au (eH _) ?_
    simp -implicitDefEqProofs (disch:=omega) only[go_sem];refine au (eH _) ?_;simp -implicitDefEqProofs (disch:=omega) only[go_sem]
    (repeat(with_reducible refine And.intro ?_ ?_;focus first|omega|rfl|assumption|exact⟨_,rfl,rfl⟩|(simp;omega)|(simp;done)))
    refine au (qR [112,97,105,114] [kT [97],kT [98]] rfl (by decide) (.inl rfl)) ?_
    simp -implicitDefEqProofs (disch:=omega) only[go_sem])
  |(refine au (eH _) ?_
    simp -implicitDefEqProofs (disch:=omega) only[go_sem];refine au (eH _) ?_;simp -implicitDefEqProofs (disch:=omega) only[go_sem]
    (repeat(with_reducible refine And.intro ?_ ?_;focus first|omega|rfl|assumption|exact⟨_,rfl,rfl⟩|(simp;omega)|(simp;done))))
 all_goals refine bq rfl (q4 _) ?_
 all_goals rcases o with _|_
 all_goals
  first
  |(have e5:jV (lU _) 1 c4=(a,c5):=h5
    rw[e5] at q5;simp only[dh,bW] at q5;simp -implicitDefEqProofs (disch:=omega) only[go_sem];refine dJ [true] rfl (q5 _) ?_
    simp -implicitDefEqProofs (disch:=omega) only[go_sem])
  |(obtain⟨rfl,rfl⟩:zT=a/\c4=c5:=by
     have e5:(zT,c4)=(a,c5):=h5;cases e5;exact⟨rfl,rfl⟩
    simp -implicitDefEqProofs (disch:=omega) only[go_sem])
 all_goals
  refine bq rfl (q6 _) ?_;simp -implicitDefEqProofs (disch:=omega) only[go_sem];refine bq rfl (q7 _) ?_;rcases ae1 with rfl|rfl
  ·simp only[instK,reduceIte,Int.reduceEq] at hq;simp -implicitDefEqProofs (disch:=omega) only[go_sem];refine dJ [true] rfl (oH (Di hB 2 xV c7 (1+l) j _ (by decide) (by rw[aQ];exact g _))) ?_;simp -implicitDefEqProofs (disch:=omega) only[go_sem]
   (repeat(with_reducible refine And.intro ?_ ?_;focus first|omega|rfl|assumption|exact⟨_,rfl,rfl⟩|(simp;omega)|(simp;done)))
   first
   |(refine⟨by cases l<;>rfl,?_⟩
     simp -implicitDefEqProofs (disch:=omega) only[go_sem])
   |skip
   rw[hq];exact lend
  ·simp only[instK,reduceIte,Int.reduceEq] at hq;simp -implicitDefEqProofs (disch:=omega) only[go_sem]
   (repeat(with_reducible refine And.intro ?_ ?_;focus first|omega|rfl|assumption|exact⟨_,rfl,rfl⟩|(simp;omega)|(simp;done)))
   first
   |(refine⟨by cases l<;>rfl,?_⟩
     simp -implicitDefEqProofs (disch:=omega) only[go_sem])
   |skip
   rw[hq];exact lend
theorem UR{bs:List Int}(hB:Bytes bs)(c c1 c2 c3 c4 c5 c6 c7:Cu bs)(s:List UInt8)(n h:Int)(o d:Bool)(a:ah)(k:Int)(l j:Nat)(S:Store)(hk:aN S (l,j)=some (.box (cur c)))(h1:bD jG c=(s,c1))(h2:aD 9 c1=(n,c2))(h3:aD 4 c2=(h,c3))(h4:cK 3 c3=(o,c4))(h5:vw h o c4=(a,c5))(h6:cK 4 c5=(d,c6))(h7:aD 12 c6=(k,c7))(hh:h=0\/h=1\/h=2\/h=3)(hk3:k≠3)(hk5:k≠5):
 bK prog 50 [.c (.ptr (l,j) 0)] S (fun r S1=>r=(instK s n (lU h) (uK h) (headW h s) o a d k c7).1.v/\S1=aP S (l,j) (.box (cur (instK s n (lU h) (uK h) (headW h s) o a d k c7).2))):=by
 have g:∀x:Ab.Obj,aN (aP S (l,j) x) (l,j)=some x:=fun x=>bP _ _ _ _ hk;have q1:=fun fr:List Ab.Obj=>dU hB c (1+l) j (fr::S) jG (by rw[aQ];exact hk) (by decide) (by decide);simp only[h1,dh] at q1;have q2:=fun fr:List Ab.Obj=>dB hB c1 (1+l) j (fr::aP S (l,j) (.box (cur c1))) 9 (by rw[aQ];exact g _) (by omega) (by omega);simp only[h2,dh,bW] at q2;have q3:=fun fr:List Ab.Obj=>dB hB c2 (1+l) j (fr::aP S (l,j) (.box (cur c2))) 4 (by rw[aQ];exact g _) (by omega) (by omega);simp only[h3,dh,bW] at q3;have q4:=fun fr:List Ab.Obj=>iA hB c3 (1+l) j (fr::aP S (l,j) (.box (cur c3))) 3 (by rw[aQ];exact g _) (by omega) (by omega);simp only[h4,dh,bW] at q4;have q5:=fun(fr:List Ab.Obj)=>oG (zJ hB (vars:=lU h) (by have:=(zM h).1;omega) 1 c4 (1+l) j (fr::aP S (l,j) (.box (cur c4))) (by rw[aQ];exact g _) (by omega));have q6:=fun fr:List Ab.Obj=>iA hB c5 (1+l) j (fr::aP S (l,j) (.box (cur c5))) 4 (by rw[aQ];exact g _) (by omega) (by omega);simp only[h6,dh,bW] at q6;have q7:=fun fr:List Ab.Obj=>dB hB c6 (1+l) j (fr::aP S (l,j) (.box (cur c6))) 12 (by rw[aQ];exact g _) (by omega) (by omega);simp only[h7,dh,bW] at q7;obtain⟨q,hq⟩:∃q,q=instK s n (lU h) (uK h) (headW h s) o a d k c7:=⟨_,rfl⟩;rw[<-hq];refine bK.of_le ?_;refine rF [34] (rs:=[.cell 2 77]) zmx func50 ntmps50 rfl rfl rfl rfl rfl ?_;simp -implicitDefEqProofs (disch:=omega) only[go_sem];refine dJ [true] rfl (q1 _) ?_;simp -implicitDefEqProofs (disch:=omega) only[go_sem];refine bq rfl (q2 _) ?_;simp -implicitDefEqProofs (disch:=omega) only[go_sem];refine au (mJ _) ?_;simp -implicitDefEqProofs (disch:=omega) only[go_sem]
 (repeat(with_reducible refine And.intro ?_ ?_;focus first|omega|rfl|assumption|exact⟨_,rfl,rfl⟩|(simp;omega)|(simp;done)))
 refine bq rfl (q3 _) ?_;rcases hh with rfl|rfl|rfl|rfl
 all_goals simp -implicitDefEqProofs (disch:=omega) only[go_sem]
 all_goals
  first
  |(refine au lS ?_
    simp -implicitDefEqProofs (disch:=omega) only[go_sem])
  |(refine au (eH _) ?_
    simp -implicitDefEqProofs (disch:=omega) only[go_sem]
    (repeat(with_reducible refine And.intro ?_ ?_;focus first|omega|rfl|assumption|exact⟨_,rfl,rfl⟩|(simp;omega)|(simp;done)))
    refine au (qR [108,105,115,116] [kT [97]] rfl (by decide) (.inl rfl)) ?_;simp -implicitDefEqProofs (disch:=omega) only[go_sem];refine au (eH _) ?_;simp -implicitDefEqProofs (disch:=omega) only[go_sem]
    (repeat(with_reducible refine And.intro ?_ ?_;focus first|omega|rfl|assumption|exact⟨_,rfl,rfl⟩|(simp;omega)|(simp;done)))
    first
    |(refine⟨by rfl,?_⟩
      simp -implicitDefEqProofs (disch:=omega) only[go_sem])
    |skip)
  |(refine au (eH _) ?_
    simp -implicitDefEqProofs (disch:=omega) only[go_sem];refine au (eH _) ?_;simp -implicitDefEqProofs (disch:=omega) only[go_sem]
    (repeat(with_reducible refine And.intro ?_ ?_;focus first|omega|rfl|assumption|exact⟨_,rfl,rfl⟩|(simp;omega)|(simp;done)))
    refine au (qR [112,97,105,114] [kT [97],kT [98]] rfl (by decide) (.inl rfl)) ?_
    simp -implicitDefEqProofs (disch:=omega) only[go_sem])
  |(refine au (eH _) ?_
    simp -implicitDefEqProofs (disch:=omega) only[go_sem];refine au (eH _) ?_;simp -implicitDefEqProofs (disch:=omega) only[go_sem]
    (repeat(with_reducible refine And.intro ?_ ?_;focus first|omega|rfl|assumption|exact⟨_,rfl,rfl⟩|(simp;omega)|(simp;done))))
 all_goals refine bq rfl (q4 _) ?_
 all_goals rcases o with _|_
 all_goals
  first
  |(have e5:jV (lU _) 1 c4=(a,c5):=h5
    rw[e5] at q5;simp only[dh,bW] at q5;simp -implicitDefEqProofs (disch:=omega) only[go_sem];refine dJ [true] rfl (q5 _) ?_
    simp -implicitDefEqProofs (disch:=omega) only[go_sem])
  |(obtain⟨rfl,rfl⟩:zT=a/\c4=c5:=by
     have e5:(zT,c4)=(a,c5):=h5;cases e5;exact⟨rfl,rfl⟩
    simp -implicitDefEqProofs (disch:=omega) only[go_sem])
 all_goals
  refine bq rfl (q6 _) ?_;simp -implicitDefEqProofs (disch:=omega) only[go_sem];refine bq rfl (q7 _) ?_;simp -implicitDefEqProofs (disch:=omega) only[go_sem]
  with_reducible refine aj (fun hb=> ?_) (fun hb=> ?_)<;>have h:=hb<;>(try simp only[wf_preprocess] at h)<;>simp -implicitDefEqProofs (disch:=omega) only[go_sem,hb]<;>(repeat(with_reducible refine And.intro ?_ ?_;focus first|omega|rfl|assumption|exact⟨_,rfl,rfl⟩|(simp;omega)|(simp;done)))
  ·subst h;simp only[instK,reduceIte,Int.reduceEq] at hq;refine bq rfl (vk hB 2 c7 (1+l) j _ (by rw[aQ];exact g _) (by omega)) ?_;simp -implicitDefEqProofs (disch:=omega) only[go_sem];rw[hq];exact lend
  have e0:=h
  with_reducible refine aj (fun hb=> ?_) (fun hb=> ?_)<;>have h:=hb<;>(try simp only[wf_preprocess] at h)<;>simp -implicitDefEqProofs (disch:=omega) only[go_sem,hb]<;>(repeat(with_reducible refine And.intro ?_ ?_;focus first|omega|rfl|assumption|exact⟨_,rfl,rfl⟩|(simp;omega)|(simp;done)))
  ·subst h;simp only[instK,reduceIte,Int.reduceEq] at hq;refine dJ [true] rfl (dU hB c7 (1+l) j _ YM (by rw[aQ];exact g _) (by decide) (by decide)) ?_;simp -implicitDefEqProofs (disch:=omega) only[go_sem]
   (repeat(with_reducible refine And.intro ?_ ?_;focus first|omega|rfl|assumption|exact⟨_,rfl,rfl⟩|(simp;omega)|(simp;done)))
   first
   |(refine⟨by cases l<;>rfl,?_⟩
     simp -implicitDefEqProofs (disch:=omega) only[go_sem])
   |skip
   rw[hq];exact lend
  have e1:=h
  with_reducible refine aj (fun hb=> ?_) (fun hb=> ?_)<;>have h:=hb<;>(try simp only[wf_preprocess] at h)<;>simp -implicitDefEqProofs (disch:=omega) only[go_sem,hb]<;>(repeat(with_reducible refine And.intro ?_ ?_;focus first|omega|rfl|assumption|exact⟨_,rfl,rfl⟩|(simp;omega)|(simp;done)))
  ·subst h;simp only[instK,reduceIte,Int.reduceEq] at hq;refine bq rfl (vk hB 1 c7 (1+l) j _ (by rw[aQ];exact g _) (by omega)) ?_;simp -implicitDefEqProofs (disch:=omega) only[go_sem]
   (repeat(with_reducible refine And.intro ?_ ?_;focus first|omega|rfl|assumption|exact⟨_,rfl,rfl⟩|(simp;omega)|(simp;done)))
   first
   |(refine⟨by cases l<;>rfl,?_⟩
     simp -implicitDefEqProofs (disch:=omega) only[go_sem])
   |skip
   rw[hq];exact lend
  have e2:=h
  with_reducible refine aj (fun hb=> ?_) (fun hb=> ?_)<;>have h:=hb<;>(try simp only[wf_preprocess] at h)<;>simp -implicitDefEqProofs (disch:=omega) only[go_sem,hb]<;>(repeat(with_reducible refine And.intro ?_ ?_;focus first|omega|rfl|assumption|exact⟨_,rfl,rfl⟩|(simp;omega)|(simp;done)))
  ·exact absurd h hk3
  with_reducible refine aj (fun hb=> ?_) (fun hb=> ?_)<;>have h:=hb<;>(try simp only[wf_preprocess] at h)<;>simp -implicitDefEqProofs (disch:=omega) only[go_sem,hb]<;>(repeat(with_reducible refine And.intro ?_ ?_;focus first|omega|rfl|assumption|exact⟨_,rfl,rfl⟩|(simp;omega)|(simp;done)))
  ·subst h;simp only[instK,reduceIte,Int.reduceEq] at hq;refine au lS ?_;simp -implicitDefEqProofs (disch:=omega) only[go_sem];rw[hq];exact lend
  have e4:=h
  with_reducible refine aj (fun hb=> ?_) (fun hb=> ?_)<;>have h:=hb<;>(try simp only[wf_preprocess] at h)<;>simp -implicitDefEqProofs (disch:=omega) only[go_sem,hb]<;>(repeat(with_reducible refine And.intro ?_ ?_;focus first|omega|rfl|assumption|exact⟨_,rfl,rfl⟩|(simp;omega)|(simp;done)))
  ·exact absurd h hk5
  simp only[instK,if_neg e0,if_neg e1,if_neg e2,if_neg hk3,if_neg e4,if_neg hk5] at hq;rw[hq];exact lend
theorem Rt{bs:List Int}(hB:Bytes bs)(c:Cu bs)(l j:Nat)(S:Store)(hk:aN S (l,j)=some (.box (cur c))):
 bK prog 50 [.c (.ptr (l,j) 0)] S (fun r S1=>r=(instX c).1.v/\S1=aP S (l,j) (.box (cur (instX c).2))):=by
 have hh:=eD (n:=4) (aD 9 (bD jG c).2).2 (by omega);unfold instX;generalize hh0:(aD 4 (aD 9 (bD jG c).2).2).1=h at hh;generalize hc0:(aD 4 (aD 9 (bD jG c).2).2).2=c3;unfold instG;generalize hc1:(vw h (cK 3 c3).1 (cK 3 c3).2).2=c5;unfold instH;by_cases h35:(aD 12 (cK 4 c5).2).1=3\/(aD 12 (cK 4 c5).2).1=5
 ·exact UQ hB c _ _ c3 _ c5 _ _ _ _ h _ _ _ _ l j S hk rfl rfl (eo hh0 hc0) rfl (eo rfl hc1) rfl rfl (by omega) h35
 ·exact UR hB c _ _ c3 _ c5 _ _ _ _ h _ _ _ _ l j S hk rfl rfl (eo hh0 hc0) rfl (eo rfl hc1) rfl rfl (by omega) (fun e=>h35 (.inl e)) (fun e=>h35 (.inr e))
end Go.Ab