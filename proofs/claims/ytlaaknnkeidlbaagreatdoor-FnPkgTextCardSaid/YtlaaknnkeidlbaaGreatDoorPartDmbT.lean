/-
  SEVERAL TEXTS IN ONE (merged by program): contracts and models, each with its own heading.
-/
import Derived.Test.YtlaaknnkeidlbaaGreatDoorPartDmbR
import Derived.Test.YtlaaknnkeidlbaaGreatDoorPartDmbS
set_option maxHeartbeats 8000000
open Go.Proofs Go.Proofs.Tryz
set_option linter.unusedSimpArgs false
set_option linter.unusedVariables false
set_option maxRecDepth 8000
namespace Go.Ab
def KI:List (List UInt8):=[[97],[99]]
theorem ai8:fI KI:=by unfold fI;decide
theorem Qi(s:List UInt8)(v:List (List UInt8))(b:ay):bQ (cO.mk s v b).enc=s.length+(v.length+aP (v.map encS))+b.sz:=by
 simp only[cO.aJ,bQ,bP,D.sz,List.length_map,ay.dP];omega
theorem inst_mk_sz(t:List UInt8)(v:List (List UInt8))(h:ak)(w:List bW)(d e:Bool)(a:ak)(m:List cO):(aS.mk t v h w d e a m).sz=t.length+(v.length+aP (v.map encS))+h.sz+(w.length+aP (w.map bW.enc))+a.sz+(m.length+aP (m.map cO.enc)):=by
 simp only[aS.sz,aS.aJ,bQ,bP,D.sz,List.length_map,ak.dP];omega
def nE(h:Int):List (List UInt8):=if h=0 then [] else if h=1 then [[97]] else if h=2 then [[97],[98]] else [[97]]
def BD(h:Int):ak:=if h=0 then uZ else if h=1 then uY [108,105,115,116] [qP [97]] else if h=2 then uY [112,97,105,114] [qP [97],qP [98]] else qP [97]
def headW(h:Int)(s:List UInt8):List bW:=if h=0 then [] else if h=1 then [⟨s,qP [97]⟩] else if h=2 then [] else [⟨[111,114,100],qP [97]⟩]
def I6(n:Int):cO:=⟨[109],[[120]],mY n⟩
def instK{bs:List Int}(s:List UInt8)(n:Int)(v:List (List UInt8))(t:ak)(w:List bW)(o:Bool)(a:ak)(d:Bool)(k:Int)(c:Cu bs):aS×Cu bs:=
 if k=0 then(⟨s,v,(sM 2 c).1,w,d,o,a,[I6 n]⟩,(sM 2 c).2) else
 if k=1 then(⟨s,v++[(bZ KI c).1],t,w,d,o,a,[I6 n]⟩,(bZ KI c).2) else
 if k=2 then(⟨s,v,t,w++[⟨[101,113],(sM 1 c).1⟩],d,o,a,[I6 n]⟩,(sM 1 c).2) else
 if k=3 then(⟨s,v,t,w,d,o,a,[⟨[109],[[120]],(iD 2 yE c).1⟩]⟩,(iD 2 yE c).2) else
 if k=4 then(⟨s,v,t,w,d,o,uZ,[I6 n]⟩,c) else
 if k=5 then(⟨s,v,t,w,d,o,a,[⟨[109],[],mY n⟩]⟩,c) else
 (⟨s,v,t,w,d,o,a,[I6 n]⟩,c)
def Cj{bs:List Int}(h:Int)(o:Bool)(c:Cu bs):ak×Cu bs:=match o with
 |true=>mV (nE h) 1 c
 |false=>(zT,c)
def instH{bs:List Int}(s:List UInt8)(n h:Int)(o:Bool)(a:ak)(c:Cu bs):aS×Cu bs:=
 instK s n (nE h) (BD h) (headW h s) o a (d9 4 c).1 (bn 12 (d9 4 c).2).1 (bn 12 (d9 4 c).2).2
def instG{bs:List Int}(s:List UInt8)(n h:Int)(c:Cu bs):aS×Cu bs:=
 instH s n h (d9 3 c).1 (Cj h (d9 3 c).1 (d9 3 c).2).1 (Cj h (d9 3 c).1 (d9 3 c).2).2
def instX{bs:List Int}(c:Cu bs):aS×Cu bs:=
 instG (bZ nO c).1 (bn 9 (bZ nO c).2).1 (bn 4 (bn 9 (bZ nO c).2).2).1 (bn 4 (bn 9 (bZ nO c).2).2).2
theorem I7(h:Int):(nE h).length<=2/\aP ((nE h).map encS)<=2/\fI (nE h):=by
 unfold nE;split
 ·exact⟨by decide,by decide,by unfold fI;decide⟩
 split
 ·exact⟨by decide,by decide,by unfold fI;decide⟩
 split<;>exact⟨by decide,by decide,by unfold fI;decide⟩
theorem ai9(h:Int):(BD h).sz<=20:=by
 unfold BD;split
 ·rw[vY];omega
 split
 ·simp only[LK,qJ,List.length_cons,List.length_nil];omega
 split
 ·simp only[ZQ,qJ,List.length_cons,List.length_nil];omega
 ·simp only[qJ,List.length_cons,List.length_nil];omega
theorem aja(h:Int)(s:List UInt8):(headW h s).length<=1/\aP ((headW h s).map bW.enc)<=s.length+4:=by
 unfold headW;split
 ·exact⟨by simp,by simp[aP]⟩
 split
 ·exact⟨by simp,by simp only[List.map_cons,List.map_nil,aP,sV,qJ,List.length_cons,List.length_nil];omega⟩
 split
 ·exact⟨by simp,by simp[aP]⟩
 ·exact⟨by simp,by simp only[List.map_cons,List.map_nil,aP,sV,qJ,List.length_cons,List.length_nil];omega⟩
theorem instX_sz{bs:List Int}(c:Cu bs):(instX c).1.sz<=2000:=by
 unfold instX;have h0:=iC c Xe;generalize (bZ nO c).1=s at h0;generalize (bn 9 (bZ nO c).2).1=n;generalize (bn 4 (bn 9 (bZ nO c).2).2).1=h;generalize (bn 4 (bn 9 (bZ nO c).2).2).2=c1;unfold instG
 have ha:(Cj h (d9 3 c1).1 (d9 3 c1).2).1.sz<=30:=by
  cases (d9 3 c1).1 with
  |true=>have:=J8 (I7 h).2.2 1 (d9 3 c1).2;show(mV (nE h) 1 (d9 3 c1).2).1.sz<=30;omega
  |false=>show zT.sz<=30;rw[qQ];omega
 generalize (Cj h (d9 3 c1).1 (d9 3 c1).2).1=a at ha;generalize (Cj h (d9 3 c1).1 (d9 3 c1).2).2=c2;generalize (d9 3 c1).1=o;unfold instH;have h1:=I7 h;have h2:=ai9 h;have h3:=aja h s;generalize nE h=v at h1;generalize BD h=t at h2;generalize headW h s=w at h3;generalize (d9 4 c2).1=d;generalize (bn 12 (d9 4 c2).2).1=k;generalize (bn 12 (d9 4 c2).2).2=c3;have h4:=Ez 2 c3;have h5:=Ez 1 c3;have h6:=Nj 2 yE c3 NI;have h7:=iC c3 ai8;unfold instK
 iterate 6
  split
  ·simp only[inst_mk_sz,I6,Qi,RA,vY,List.map_cons,List.map_nil,List.map_append,aP,uQ,qA,sV,List.length_cons,List.length_nil,List.length_append];omega
 simp only[inst_mk_sz,I6,Qi,RA,List.map_cons,List.map_nil,aP,qA,List.length_cons,List.length_nil];omega
theorem afz{bs:List Int}(hB:Bytes bs)(c c1 c2 c3 c4 c5 c6 c7:Cu bs)(s:List UInt8)(n h:Int)(o d:Bool)(a:ak)(k:Int)(l j:Nat)(S:Store)(hk:bE S (l,j)=some (.box (cur c)))(h1:bZ nO c=(s,c1))(h2:bn 9 c1=(n,c2))(h3:bn 4 c2=(h,c3))(h4:d9 3 c3=(o,c4))(h5:Cj h o c4=(a,c5))(h6:d9 4 c5=(d,c6))(h7:bn 12 c6=(k,c7))(hh:h=0\/h=1\/h=2\/h=3)(KJ:k=3\/k=5):
 bX prog 122 [.c (.ptr (l,j) 0)] S (fun r S1=>r=(instK s n (nE h) (BD h) (headW h s) o a d k c7).1.v/\S1=bG S (l,j) (.box (cur (instK s n (nE h) (BD h) (headW h s) o a d k c7).2))):=by
 have g:∀x:Ab.Obj,bE (bG S (l,j) x) (l,j)=some x:=fun x=>dL _ _ _ _ hk;have q1:=fun fr:List Ab.Obj=>eO hB c (1+l) j (fr::S) nO (by rw[aV];exact hk) (by decide) (by decide);simp only[h1,dW] at q1;have q2:=fun fr:List Ab.Obj=>eU hB c1 (1+l) j (fr::bG S (l,j) (.box (cur c1))) 9 (by rw[aV];exact g _) (by omega) (by omega);simp only[h2,dW,dJ] at q2;have q3:=fun fr:List Ab.Obj=>eU hB c2 (1+l) j (fr::bG S (l,j) (.box (cur c2))) 4 (by rw[aV];exact g _) (by omega) (by omega);simp only[h3,dW,dJ] at q3;have q4:=fun fr:List Ab.Obj=>ni hB c3 (1+l) j (fr::bG S (l,j) (.box (cur c3))) 3 (by rw[aV];exact g _) (by omega) (by omega);simp only[h4,dW,dJ] at q4;have q5:=fun(fr:List Ab.Obj)=>vU (Iz hB (vars:=nE h) (by have:=(I7 h).1;omega) 1 c4 (1+l) j (fr::bG S (l,j) (.box (cur c4))) (by rw[aV];exact g _) (by omega));have q6:=fun fr:List Ab.Obj=>ni hB c5 (1+l) j (fr::bG S (l,j) (.box (cur c5))) 4 (by rw[aV];exact g _) (by omega) (by omega);simp only[h6,dW,dJ] at q6;have q7:=fun fr:List Ab.Obj=>eU hB c6 (1+l) j (fr::bG S (l,j) (.box (cur c6))) 12 (by rw[aV];exact g _) (by omega) (by omega);simp only[h7,dW,dJ] at q7;obtain⟨q,hq⟩:∃q,q=instK s n (nE h) (BD h) (headW h s) o a d k c7:=⟨_,rfl⟩;rw[<-hq];refine bX.of_le ?_;refine DF [58] (rs:=[.cell 2 93]) zmx func122 ntmps122 rfl rfl rfl rfl rfl ?_;refine W1 ?_;refine cK [true] rfl (q1 _) ?_;refine W1 ?_;refine aW rfl (q2 _) ?_;refine W1 ?_;refine C1 (sN _) ?_;refine W3 ?_;refine aW rfl (q3 _) ?_;rcases hh with rfl|rfl|rfl|rfl
 ·refine W1 ?_;refine bD kG ?_;refine W1 ?_;refine aW rfl (q4 _) ?_
  cases o with
  |true=>
   have e5:mV (nE _) 1 c4=(a,c5):=h5;rw[e5] at q5;simp only[dW,dJ] at q5;refine W1 ?_;refine cK [true] rfl (q5 _) ?_;refine W1 ?_;refine aW rfl (q6 _) ?_;refine W1 ?_;refine aW rfl (q7 _) ?_;rcases KJ with rfl|rfl
   ·simp only[instK,reduceIte,Int.reduceEq] at hq;refine W1 ?_;refine cK [true] rfl (kr (oP hB 2 yE c7 (1+l) j _ (by decide) (by rw[aV];exact g _))) ?_;refine W1 ?_;refine W3 ?_
    first
    |(refine⟨by cases l<;>rfl,?_⟩
      refine W1 ?_)
    |skip
    rw[hq];exact lend
   ·simp only[instK,reduceIte,Int.reduceEq] at hq;refine W1 ?_;refine W3 ?_
    first
    |(refine⟨by cases l<;>rfl,?_⟩
      simp -implicitDefEqProofs (disch:=omega) only[go_sem])
    |skip
    rw[hq];exact lend
  |false=>
   obtain⟨rfl,rfl⟩:zT=a/\c4=c5:=by
    have e5:(zT,c4)=(a,c5):=h5;cases e5;exact⟨rfl,rfl⟩
   refine W1 ?_;refine aW rfl (q6 _) ?_;refine W1 ?_;refine aW rfl (q7 _) ?_;rcases KJ with rfl|rfl
   ·simp only[instK,reduceIte,Int.reduceEq] at hq;refine W1 ?_;refine cK [true] rfl (kr (oP hB 2 yE c7 (1+l) j _ (by decide) (by rw[aV];exact g _))) ?_;refine W1 ?_;refine W3 ?_
    first
    |(refine⟨by cases l<;>rfl,?_⟩
      refine W1 ?_)
    |skip
    rw[hq];exact lend
   ·simp only[instK,reduceIte,Int.reduceEq] at hq;refine W1 ?_;refine W3 ?_
    first
    |(refine⟨by cases l<;>rfl,?_⟩
      simp -implicitDefEqProofs (disch:=omega) only[go_sem])
    |skip
    rw[hq];exact lend
 ·refine W1 ?_;refine C1 (gK _) ?_;refine W3 ?_;refine C1 (yN [108,105,115,116] [qP [97]] rfl (by decide) (.inl rfl)) ?_;refine C1 (gK _) ?_;refine W3 ?_
  first
  |(refine⟨by rfl,?_⟩
    refine W1 ?_)
  |skip
  refine aW rfl (q4 _) ?_
  cases o with
  |true=>
   have e5:mV (nE _) 1 c4=(a,c5):=h5;rw[e5] at q5;simp only[dW,dJ] at q5;refine W1 ?_;refine cK [true] rfl (q5 _) ?_;refine W1 ?_;refine aW rfl (q6 _) ?_;refine W1 ?_;refine aW rfl (q7 _) ?_;rcases KJ with rfl|rfl
   ·simp only[instK,reduceIte,Int.reduceEq] at hq;refine W1 ?_;refine cK [true] rfl (kr (oP hB 2 yE c7 (1+l) j _ (by decide) (by rw[aV];exact g _))) ?_;refine W1 ?_;refine W3 ?_
    first
    |(refine⟨by cases l<;>rfl,?_⟩
      refine W1 ?_)
    |skip
    rw[hq];exact lend
   ·simp only[instK,reduceIte,Int.reduceEq] at hq;refine W1 ?_;refine W3 ?_
    first
    |(refine⟨by cases l<;>rfl,?_⟩
      simp -implicitDefEqProofs (disch:=omega) only[go_sem])
    |skip
    rw[hq];exact lend
  |false=>
   obtain⟨rfl,rfl⟩:zT=a/\c4=c5:=by
    have e5:(zT,c4)=(a,c5):=h5;cases e5;exact⟨rfl,rfl⟩
   refine W1 ?_;refine aW rfl (q6 _) ?_;refine W1 ?_;refine aW rfl (q7 _) ?_;rcases KJ with rfl|rfl
   ·simp only[instK,reduceIte,Int.reduceEq] at hq;refine W1 ?_;refine cK [true] rfl (kr (oP hB 2 yE c7 (1+l) j _ (by decide) (by rw[aV];exact g _))) ?_;refine W1 ?_;refine W3 ?_
    first
    |(refine⟨by cases l<;>rfl,?_⟩
      refine W1 ?_)
    |skip
    rw[hq];exact lend
   ·simp only[instK,reduceIte,Int.reduceEq] at hq;refine W1 ?_;refine W3 ?_
    first
    |(refine⟨by cases l<;>rfl,?_⟩
      simp -implicitDefEqProofs (disch:=omega) only[go_sem])
    |skip
    rw[hq];exact lend
 ·refine W1 ?_;refine C1 (gK _) ?_;refine C1 (gK _) ?_;refine W3 ?_;refine C1 (yN [112,97,105,114] [qP [97],qP [98]] rfl (by decide) (.inl rfl)) ?_;refine aW rfl (q4 _) ?_
  cases o with
  |true=>
   have e5:mV (nE _) 1 c4=(a,c5):=h5;rw[e5] at q5;simp only[dW,dJ] at q5;refine W1 ?_;refine cK [true] rfl (q5 _) ?_;refine W1 ?_;refine aW rfl (q6 _) ?_;refine W1 ?_;refine aW rfl (q7 _) ?_;rcases KJ with rfl|rfl
   ·simp only[instK,reduceIte,Int.reduceEq] at hq;refine W1 ?_;refine cK [true] rfl (kr (oP hB 2 yE c7 (1+l) j _ (by decide) (by rw[aV];exact g _))) ?_;refine W1 ?_;refine W3 ?_
    first
    |(refine⟨by cases l<;>rfl,?_⟩
      refine W1 ?_)
    |skip
    rw[hq];exact lend
   ·simp only[instK,reduceIte,Int.reduceEq] at hq;refine W1 ?_;refine W3 ?_
    first
    |(refine⟨by cases l<;>rfl,?_⟩
      simp -implicitDefEqProofs (disch:=omega) only[go_sem])
    |skip
    rw[hq];exact lend
  |false=>
   obtain⟨rfl,rfl⟩:zT=a/\c4=c5:=by
    have e5:(zT,c4)=(a,c5):=h5;cases e5;exact⟨rfl,rfl⟩
   refine W1 ?_;refine aW rfl (q6 _) ?_;refine W1 ?_;refine aW rfl (q7 _) ?_;rcases KJ with rfl|rfl
   ·simp only[instK,reduceIte,Int.reduceEq] at hq;refine W1 ?_;refine cK [true] rfl (kr (oP hB 2 yE c7 (1+l) j _ (by decide) (by rw[aV];exact g _))) ?_;refine W1 ?_;refine W3 ?_
    first
    |(refine⟨by cases l<;>rfl,?_⟩
      refine W1 ?_)
    |skip
    rw[hq];exact lend
   ·simp only[instK,reduceIte,Int.reduceEq] at hq;refine W1 ?_;refine W3 ?_
    first
    |(refine⟨by cases l<;>rfl,?_⟩
      simp -implicitDefEqProofs (disch:=omega) only[go_sem])
    |skip
    rw[hq];exact lend
 ·refine W1 ?_;refine C1 (gK _) ?_;refine C1 (gK _) ?_;refine W3 ?_;refine aW rfl (q4 _) ?_
  cases o with
  |true=>
   have e5:mV (nE _) 1 c4=(a,c5):=h5;rw[e5] at q5;simp only[dW,dJ] at q5;refine W1 ?_;refine cK [true] rfl (q5 _) ?_;refine W1 ?_;refine aW rfl (q6 _) ?_;refine W1 ?_;refine aW rfl (q7 _) ?_;rcases KJ with rfl|rfl
   ·simp only[instK,reduceIte,Int.reduceEq] at hq;refine W1 ?_;refine cK [true] rfl (kr (oP hB 2 yE c7 (1+l) j _ (by decide) (by rw[aV];exact g _))) ?_;refine W1 ?_;refine W3 ?_
    first
    |(refine⟨by cases l<;>rfl,?_⟩
      refine W1 ?_)
    |skip
    rw[hq];exact lend
   ·simp only[instK,reduceIte,Int.reduceEq] at hq;refine W1 ?_;refine W3 ?_
    first
    |(refine⟨by cases l<;>rfl,?_⟩
      simp -implicitDefEqProofs (disch:=omega) only[go_sem])
    |skip
    rw[hq];exact lend
  |false=>
   obtain⟨rfl,rfl⟩:zT=a/\c4=c5:=by
    have e5:(zT,c4)=(a,c5):=h5;cases e5;exact⟨rfl,rfl⟩
   refine W1 ?_;refine aW rfl (q6 _) ?_;refine W1 ?_;refine aW rfl (q7 _) ?_;rcases KJ with rfl|rfl
   ·simp only[instK,reduceIte,Int.reduceEq] at hq;refine W1 ?_;refine cK [true] rfl (kr (oP hB 2 yE c7 (1+l) j _ (by decide) (by rw[aV];exact g _))) ?_;refine W1 ?_;refine W3 ?_
    first
    |(refine⟨by cases l<;>rfl,?_⟩
      refine W1 ?_)
    |skip
    rw[hq];exact lend
   ·simp only[instK,reduceIte,Int.reduceEq] at hq;refine W1 ?_;refine W3 ?_
    first
    |(refine⟨by cases l<;>rfl,?_⟩
      simp -implicitDefEqProofs (disch:=omega) only[go_sem])
    |skip
    rw[hq];exact lend
theorem afA{bs:List Int}(hB:Bytes bs)(c c1 c2 c3 c4 c5 c6 c7:Cu bs)(s:List UInt8)(n h:Int)(o d:Bool)(a:ak)(k:Int)(l j:Nat)(S:Store)(hk:bE S (l,j)=some (.box (cur c)))(h1:bZ nO c=(s,c1))(h2:bn 9 c1=(n,c2))(h3:bn 4 c2=(h,c3))(h4:d9 3 c3=(o,c4))(h5:Cj h o c4=(a,c5))(h6:d9 4 c5=(d,c6))(h7:bn 12 c6=(k,c7))(hh:h=0\/h=1\/h=2\/h=3)(hk3:k≠3)(hk5:k≠5):
 bX prog 122 [.c (.ptr (l,j) 0)] S (fun r S1=>r=(instK s n (nE h) (BD h) (headW h s) o a d k c7).1.v/\S1=bG S (l,j) (.box (cur (instK s n (nE h) (BD h) (headW h s) o a d k c7).2))):=by
 have g:∀x:Ab.Obj,bE (bG S (l,j) x) (l,j)=some x:=fun x=>dL _ _ _ _ hk;have q1:=fun fr:List Ab.Obj=>eO hB c (1+l) j (fr::S) nO (by rw[aV];exact hk) (by decide) (by decide);simp only[h1,dW] at q1;have q2:=fun fr:List Ab.Obj=>eU hB c1 (1+l) j (fr::bG S (l,j) (.box (cur c1))) 9 (by rw[aV];exact g _) (by omega) (by omega);simp only[h2,dW,dJ] at q2;have q3:=fun fr:List Ab.Obj=>eU hB c2 (1+l) j (fr::bG S (l,j) (.box (cur c2))) 4 (by rw[aV];exact g _) (by omega) (by omega);simp only[h3,dW,dJ] at q3;have q4:=fun fr:List Ab.Obj=>ni hB c3 (1+l) j (fr::bG S (l,j) (.box (cur c3))) 3 (by rw[aV];exact g _) (by omega) (by omega);simp only[h4,dW,dJ] at q4;have q5:=fun(fr:List Ab.Obj)=>vU (Iz hB (vars:=nE h) (by have:=(I7 h).1;omega) 1 c4 (1+l) j (fr::bG S (l,j) (.box (cur c4))) (by rw[aV];exact g _) (by omega));have q6:=fun fr:List Ab.Obj=>ni hB c5 (1+l) j (fr::bG S (l,j) (.box (cur c5))) 4 (by rw[aV];exact g _) (by omega) (by omega);simp only[h6,dW,dJ] at q6;have q7:=fun fr:List Ab.Obj=>eU hB c6 (1+l) j (fr::bG S (l,j) (.box (cur c6))) 12 (by rw[aV];exact g _) (by omega) (by omega);simp only[h7,dW,dJ] at q7;obtain⟨q,hq⟩:∃q,q=instK s n (nE h) (BD h) (headW h s) o a d k c7:=⟨_,rfl⟩;rw[<-hq];refine bX.of_le ?_;refine BU [58] (rs:=[.cell 2 93]) zmx func122 ntmps122 rfl rfl rfl rfl rfl ?_;refine W1 ?_;refine cK [true] rfl (q1 _) ?_;refine W1 ?_;refine aW rfl (q2 _) ?_;refine W1 ?_;refine C1 (sN _) ?_;refine W3 ?_;refine aW rfl (q3 _) ?_;rcases hh with rfl|rfl|rfl|rfl
 ·refine W1 ?_;refine bD kG ?_;refine W1 ?_;refine aW rfl (q4 _) ?_
  cases o with
  |true=>
   have e5:mV (nE _) 1 c4=(a,c5):=h5;rw[e5] at q5;simp only[dW,dJ] at q5;refine W1 ?_;refine cK [true] rfl (q5 _) ?_;refine W1 ?_;refine aW rfl (q6 _) ?_;refine W1 ?_;refine aW rfl (q7 _) ?_;refine W1 ?_;refine S0 (fun hb h=>?_) fun hb h=>?_
   ·subst h;simp only[instK,reduceIte,Int.reduceEq] at hq;refine aW rfl (jq hB 2 c7 (1+l) j _ (by rw[aV];exact g _) (by omega)) ?_;refine W1 ?_;rw[hq];exact lend
   have e0:=h;refine S0 (fun hb h=>?_) fun hb h=>?_
   ·subst h;simp only[instK,reduceIte,Int.reduceEq] at hq;refine cK [true] rfl (eO hB c7 (1+l) j _ KI (by rw[aV];exact g _) (by decide) (by decide)) ?_;refine W1 ?_;refine W3 ?_
    first
    |(refine⟨by cases l<;>rfl,?_⟩
      refine W1 ?_)
    |skip
    rw[hq];exact lend
   have e1:=h;refine S0 (fun hb h=>?_) fun hb h=>?_
   ·subst h;simp only[instK,reduceIte,Int.reduceEq] at hq;refine aW rfl (jq hB 1 c7 (1+l) j _ (by rw[aV];exact g _) (by omega)) ?_;refine W1 ?_;refine W3 ?_
    first
    |(refine⟨by cases l<;>rfl,?_⟩
      refine W1 ?_)
    |skip
    rw[hq];exact lend
   have e2:=h;refine S0 (fun hb h=>?_) fun hb h=>?_
   ·exact absurd h hk3
   refine S0 (fun hb h=>?_) fun hb h=>?_
   ·subst h;simp only[instK,reduceIte,Int.reduceEq] at hq;refine bD kG ?_;refine W1 ?_;rw[hq];exact lend
   have e4:=h;refine S0 (fun hb h=>?_) fun hb h=>?_
   ·exact absurd h hk5
   simp only[instK,if_neg e0,if_neg e1,if_neg e2,if_neg hk3,if_neg e4,if_neg hk5] at hq;rw[hq];exact lend
  |false=>
   obtain⟨rfl,rfl⟩:zT=a/\c4=c5:=by
    have e5:(zT,c4)=(a,c5):=h5;cases e5;exact⟨rfl,rfl⟩
   refine W1 ?_;refine aW rfl (q6 _) ?_;refine W1 ?_;refine aW rfl (q7 _) ?_;refine W1 ?_;refine S0 (fun hb h=>?_) fun hb h=>?_
   ·subst h;simp only[instK,reduceIte,Int.reduceEq] at hq;refine aW rfl (jq hB 2 c7 (1+l) j _ (by rw[aV];exact g _) (by omega)) ?_;refine W1 ?_;rw[hq];exact lend
   have e0:=h;refine S0 (fun hb h=>?_) fun hb h=>?_
   ·subst h;simp only[instK,reduceIte,Int.reduceEq] at hq;refine cK [true] rfl (eO hB c7 (1+l) j _ KI (by rw[aV];exact g _) (by decide) (by decide)) ?_;refine W1 ?_;refine W3 ?_
    first
    |(refine⟨by cases l<;>rfl,?_⟩
      refine W1 ?_)
    |skip
    rw[hq];exact lend
   have e1:=h;refine S0 (fun hb h=>?_) fun hb h=>?_
   ·subst h;simp only[instK,reduceIte,Int.reduceEq] at hq;refine aW rfl (jq hB 1 c7 (1+l) j _ (by rw[aV];exact g _) (by omega)) ?_;refine W1 ?_;refine W3 ?_
    first
    |(refine⟨by cases l<;>rfl,?_⟩
      refine W1 ?_)
    |skip
    rw[hq];exact lend
   have e2:=h;refine S0 (fun hb h=>?_) fun hb h=>?_
   ·exact absurd h hk3
   refine S0 (fun hb h=>?_) fun hb h=>?_
   ·subst h;simp only[instK,reduceIte,Int.reduceEq] at hq;refine bD kG ?_;refine W1 ?_;rw[hq];exact lend
   have e4:=h;refine S0 (fun hb h=>?_) fun hb h=>?_
   ·exact absurd h hk5
   simp only[instK,if_neg e0,if_neg e1,if_neg e2,if_neg hk3,if_neg e4,if_neg hk5] at hq;rw[hq];exact lend
 ·refine W1 ?_;refine C1 (gK _) ?_;refine W3 ?_;refine C1 (yN [108,105,115,116] [qP [97]] rfl (by decide) (.inl rfl)) ?_;refine C1 (gK _) ?_;refine W3 ?_
  first
  |(refine⟨by rfl,?_⟩
    refine W1 ?_)
  |skip
  refine aW rfl (q4 _) ?_
  cases o with
  |true=>
   have e5:mV (nE _) 1 c4=(a,c5):=h5;rw[e5] at q5;simp only[dW,dJ] at q5;refine W1 ?_;refine cK [true] rfl (q5 _) ?_;refine W1 ?_;refine aW rfl (q6 _) ?_;refine W1 ?_;refine aW rfl (q7 _) ?_;refine W1 ?_;refine S0 (fun hb h=>?_) fun hb h=>?_
   ·subst h;simp only[instK,reduceIte,Int.reduceEq] at hq;refine aW rfl (jq hB 2 c7 (1+l) j _ (by rw[aV];exact g _) (by omega)) ?_;refine W1 ?_;rw[hq];exact lend
   have e0:=h;refine S0 (fun hb h=>?_) fun hb h=>?_
   ·subst h;simp only[instK,reduceIte,Int.reduceEq] at hq;refine cK [true] rfl (eO hB c7 (1+l) j _ KI (by rw[aV];exact g _) (by decide) (by decide)) ?_;refine W1 ?_;refine W3 ?_
    first
    |(refine⟨by cases l<;>rfl,?_⟩
      refine W1 ?_)
    |skip
    rw[hq];exact lend
   have e1:=h;refine S0 (fun hb h=>?_) fun hb h=>?_
   ·subst h;simp only[instK,reduceIte,Int.reduceEq] at hq;refine aW rfl (jq hB 1 c7 (1+l) j _ (by rw[aV];exact g _) (by omega)) ?_;refine W1 ?_;refine W3 ?_
    first
    |(refine⟨by cases l<;>rfl,?_⟩
      refine W1 ?_)
    |skip
    rw[hq];exact lend
   have e2:=h;refine S0 (fun hb h=>?_) fun hb h=>?_
   ·exact absurd h hk3
   refine S0 (fun hb h=>?_) fun hb h=>?_
   ·subst h;simp only[instK,reduceIte,Int.reduceEq] at hq;refine bD kG ?_;refine W1 ?_;rw[hq];exact lend
   have e4:=h;refine S0 (fun hb h=>?_) fun hb h=>?_
   ·exact absurd h hk5
   simp only[instK,if_neg e0,if_neg e1,if_neg e2,if_neg hk3,if_neg e4,if_neg hk5] at hq;rw[hq];exact lend
  |false=>
   obtain⟨rfl,rfl⟩:zT=a/\c4=c5:=by
    have e5:(zT,c4)=(a,c5):=h5;cases e5;exact⟨rfl,rfl⟩
   refine W1 ?_;refine aW rfl (q6 _) ?_;refine W1 ?_;refine aW rfl (q7 _) ?_;refine W1 ?_;refine S0 (fun hb h=>?_) fun hb h=>?_
   ·subst h;simp only[instK,reduceIte,Int.reduceEq] at hq;refine aW rfl (jq hB 2 c7 (1+l) j _ (by rw[aV];exact g _) (by omega)) ?_;refine W1 ?_;rw[hq];exact lend
   have e0:=h;refine S0 (fun hb h=>?_) fun hb h=>?_
   ·subst h;simp only[instK,reduceIte,Int.reduceEq] at hq;refine cK [true] rfl (eO hB c7 (1+l) j _ KI (by rw[aV];exact g _) (by decide) (by decide)) ?_;refine W1 ?_;refine W3 ?_
    first
    |(refine⟨by cases l<;>rfl,?_⟩
      refine W1 ?_)
    |skip
    rw[hq];exact lend
   have e1:=h;refine S0 (fun hb h=>?_) fun hb h=>?_
   ·subst h;simp only[instK,reduceIte,Int.reduceEq] at hq;refine aW rfl (jq hB 1 c7 (1+l) j _ (by rw[aV];exact g _) (by omega)) ?_;refine W1 ?_;refine W3 ?_
    first
    |(refine⟨by cases l<;>rfl,?_⟩
      refine W1 ?_)
    |skip
    rw[hq];exact lend
   have e2:=h;refine S0 (fun hb h=>?_) fun hb h=>?_
   ·exact absurd h hk3
   refine S0 (fun hb h=>?_) fun hb h=>?_
   ·subst h;simp only[instK,reduceIte,Int.reduceEq] at hq;refine bD kG ?_;refine W1 ?_;rw[hq];exact lend
   have e4:=h;refine S0 (fun hb h=>?_) fun hb h=>?_
   ·exact absurd h hk5
   simp only[instK,if_neg e0,if_neg e1,if_neg e2,if_neg hk3,if_neg e4,if_neg hk5] at hq;rw[hq];exact lend
 ·refine W1 ?_;refine C1 (gK _) ?_;refine C1 (gK _) ?_;refine W3 ?_;refine C1 (yN [112,97,105,114] [qP [97],qP [98]] rfl (by decide) (.inl rfl)) ?_;refine aW rfl (q4 _) ?_
  cases o with
  |true=>
   have e5:mV (nE _) 1 c4=(a,c5):=h5;rw[e5] at q5;simp only[dW,dJ] at q5;refine W1 ?_;refine cK [true] rfl (q5 _) ?_;refine W1 ?_;refine aW rfl (q6 _) ?_;refine W1 ?_;refine aW rfl (q7 _) ?_;refine W1 ?_;refine S0 (fun hb h=>?_) fun hb h=>?_
   ·subst h;simp only[instK,reduceIte,Int.reduceEq] at hq;refine aW rfl (jq hB 2 c7 (1+l) j _ (by rw[aV];exact g _) (by omega)) ?_;refine W1 ?_;rw[hq];exact lend
   have e0:=h;refine S0 (fun hb h=>?_) fun hb h=>?_
   ·subst h;simp only[instK,reduceIte,Int.reduceEq] at hq;refine cK [true] rfl (eO hB c7 (1+l) j _ KI (by rw[aV];exact g _) (by decide) (by decide)) ?_;refine W1 ?_;refine W3 ?_
    first
    |(refine⟨by cases l<;>rfl,?_⟩
      refine W1 ?_)
    |skip
    rw[hq];exact lend
   have e1:=h;refine S0 (fun hb h=>?_) fun hb h=>?_
   ·subst h;simp only[instK,reduceIte,Int.reduceEq] at hq;refine aW rfl (jq hB 1 c7 (1+l) j _ (by rw[aV];exact g _) (by omega)) ?_;refine W1 ?_;refine W3 ?_
    first
    |(refine⟨by cases l<;>rfl,?_⟩
      refine W1 ?_)
    |skip
    rw[hq];exact lend
   have e2:=h;refine S0 (fun hb h=>?_) fun hb h=>?_
   ·exact absurd h hk3
   refine S0 (fun hb h=>?_) fun hb h=>?_
   ·subst h;simp only[instK,reduceIte,Int.reduceEq] at hq;refine bD kG ?_;refine W1 ?_;rw[hq];exact lend
   have e4:=h;refine S0 (fun hb h=>?_) fun hb h=>?_
   ·exact absurd h hk5
   simp only[instK,if_neg e0,if_neg e1,if_neg e2,if_neg hk3,if_neg e4,if_neg hk5] at hq;rw[hq];exact lend
  |false=>
   obtain⟨rfl,rfl⟩:zT=a/\c4=c5:=by
    have e5:(zT,c4)=(a,c5):=h5;cases e5;exact⟨rfl,rfl⟩
   refine W1 ?_;refine aW rfl (q6 _) ?_;refine W1 ?_;refine aW rfl (q7 _) ?_;refine W1 ?_;refine S0 (fun hb h=>?_) fun hb h=>?_
   ·subst h;simp only[instK,reduceIte,Int.reduceEq] at hq;refine aW rfl (jq hB 2 c7 (1+l) j _ (by rw[aV];exact g _) (by omega)) ?_;refine W1 ?_;rw[hq];exact lend
   have e0:=h;refine S0 (fun hb h=>?_) fun hb h=>?_
   ·subst h;simp only[instK,reduceIte,Int.reduceEq] at hq;refine cK [true] rfl (eO hB c7 (1+l) j _ KI (by rw[aV];exact g _) (by decide) (by decide)) ?_;refine W1 ?_;refine W3 ?_
    first
    |(refine⟨by cases l<;>rfl,?_⟩
      refine W1 ?_)
    |skip
    rw[hq];exact lend
   have e1:=h;refine S0 (fun hb h=>?_) fun hb h=>?_
   ·subst h;simp only[instK,reduceIte,Int.reduceEq] at hq;refine aW rfl (jq hB 1 c7 (1+l) j _ (by rw[aV];exact g _) (by omega)) ?_;refine W1 ?_;refine W3 ?_
    first
    |(refine⟨by cases l<;>rfl,?_⟩
      refine W1 ?_)
    |skip
    rw[hq];exact lend
   have e2:=h;refine S0 (fun hb h=>?_) fun hb h=>?_
   ·exact absurd h hk3
   refine S0 (fun hb h=>?_) fun hb h=>?_
   ·subst h;simp only[instK,reduceIte,Int.reduceEq] at hq;refine bD kG ?_;refine W1 ?_;rw[hq];exact lend
   have e4:=h;refine S0 (fun hb h=>?_) fun hb h=>?_
   ·exact absurd h hk5
   simp only[instK,if_neg e0,if_neg e1,if_neg e2,if_neg hk3,if_neg e4,if_neg hk5] at hq;rw[hq];exact lend
 ·refine W1 ?_;refine C1 (gK _) ?_;refine C1 (gK _) ?_;refine W3 ?_;refine aW rfl (q4 _) ?_
  cases o with
  |true=>
   have e5:mV (nE _) 1 c4=(a,c5):=h5;rw[e5] at q5;simp only[dW,dJ] at q5;refine W1 ?_;refine cK [true] rfl (q5 _) ?_;refine W1 ?_;refine aW rfl (q6 _) ?_;refine W1 ?_;refine aW rfl (q7 _) ?_;refine W1 ?_;refine S0 (fun hb h=>?_) fun hb h=>?_
   ·subst h;simp only[instK,reduceIte,Int.reduceEq] at hq;refine aW rfl (jq hB 2 c7 (1+l) j _ (by rw[aV];exact g _) (by omega)) ?_;refine W1 ?_;rw[hq];exact lend
   have e0:=h;refine S0 (fun hb h=>?_) fun hb h=>?_
   ·subst h;simp only[instK,reduceIte,Int.reduceEq] at hq;refine cK [true] rfl (eO hB c7 (1+l) j _ KI (by rw[aV];exact g _) (by decide) (by decide)) ?_;refine W1 ?_;refine W3 ?_
    first
    |(refine⟨by cases l<;>rfl,?_⟩
      refine W1 ?_)
    |skip
    rw[hq];exact lend
   have e1:=h;refine S0 (fun hb h=>?_) fun hb h=>?_
   ·subst h;simp only[instK,reduceIte,Int.reduceEq] at hq;refine aW rfl (jq hB 1 c7 (1+l) j _ (by rw[aV];exact g _) (by omega)) ?_;refine W1 ?_;refine W3 ?_
    first
    |(refine⟨by cases l<;>rfl,?_⟩
      refine W1 ?_)
    |skip
    rw[hq];exact lend
   have e2:=h;refine S0 (fun hb h=>?_) fun hb h=>?_
   ·exact absurd h hk3
   refine S0 (fun hb h=>?_) fun hb h=>?_
   ·subst h;simp only[instK,reduceIte,Int.reduceEq] at hq;refine bD kG ?_;refine W1 ?_;rw[hq];exact lend
   have e4:=h;refine S0 (fun hb h=>?_) fun hb h=>?_
   ·exact absurd h hk5
   simp only[instK,if_neg e0,if_neg e1,if_neg e2,if_neg hk3,if_neg e4,if_neg hk5] at hq;rw[hq];exact lend
  |false=>
   obtain⟨rfl,rfl⟩:zT=a/\c4=c5:=by
    have e5:(zT,c4)=(a,c5):=h5;cases e5;exact⟨rfl,rfl⟩
   refine W1 ?_;refine aW rfl (q6 _) ?_;refine W1 ?_;refine aW rfl (q7 _) ?_;refine W1 ?_;refine S0 (fun hb h=>?_) fun hb h=>?_
   ·subst h;simp only[instK,reduceIte,Int.reduceEq] at hq;refine aW rfl (jq hB 2 c7 (1+l) j _ (by rw[aV];exact g _) (by omega)) ?_;refine W1 ?_;rw[hq];exact lend
   have e0:=h;refine S0 (fun hb h=>?_) fun hb h=>?_
   ·subst h;simp only[instK,reduceIte,Int.reduceEq] at hq;refine cK [true] rfl (eO hB c7 (1+l) j _ KI (by rw[aV];exact g _) (by decide) (by decide)) ?_;refine W1 ?_;refine W3 ?_
    first
    |(refine⟨by cases l<;>rfl,?_⟩
      refine W1 ?_)
    |skip
    rw[hq];exact lend
   have e1:=h;refine S0 (fun hb h=>?_) fun hb h=>?_
   ·subst h;simp only[instK,reduceIte,Int.reduceEq] at hq;refine aW rfl (jq hB 1 c7 (1+l) j _ (by rw[aV];exact g _) (by omega)) ?_;refine W1 ?_;refine W3 ?_
    first
    |(refine⟨by cases l<;>rfl,?_⟩
      refine W1 ?_)
    |skip
    rw[hq];exact lend
   have e2:=h;refine S0 (fun hb h=>?_) fun hb h=>?_
   ·exact absurd h hk3
   refine S0 (fun hb h=>?_) fun hb h=>?_
   ·subst h;simp only[instK,reduceIte,Int.reduceEq] at hq;refine bD kG ?_;refine W1 ?_;rw[hq];exact lend
   have e4:=h;refine S0 (fun hb h=>?_) fun hb h=>?_
   ·exact absurd h hk5
   simp only[instK,if_neg e0,if_neg e1,if_neg e2,if_neg hk3,if_neg e4,if_neg hk5] at hq;rw[hq];exact lend
theorem acH{bs:List Int}(hB:Bytes bs)(c:Cu bs)(l j:Nat)(S:Store)(hk:bE S (l,j)=some (.box (cur c))):
 bX prog 122 [.c (.ptr (l,j) 0)] S (fun r S1=>r=(instX c).1.v/\S1=bG S (l,j) (.box (cur (instX c).2))):=by
 have hh:=jK (n:=4) (bn 9 (bZ nO c).2).2 (by omega);unfold instX;generalize hh0:(bn 4 (bn 9 (bZ nO c).2).2).1=h at hh;generalize hc0:(bn 4 (bn 9 (bZ nO c).2).2).2=c3;unfold instG;generalize hc1:(Cj h (d9 3 c3).1 (d9 3 c3).2).2=c5;unfold instH;by_cases h35:(bn 12 (d9 4 c5).2).1=3\/(bn 12 (d9 4 c5).2).1=5
 ·exact afz hB c _ _ c3 _ c5 _ _ _ _ h _ _ _ _ l j S hk rfl rfl (Prod.ext hh0 hc0) rfl (Prod.ext rfl hc1) rfl rfl (by omega) h35
 ·exact afA hB c _ _ c3 _ c5 _ _ _ _ h _ _ _ _ l j S hk rfl rfl (Prod.ext hh0 hc0) rfl (Prod.ext rfl hc1) rfl rfl (by omega) (fun e=>h35 (.inl e)) (fun e=>h35 (.inr e))
end Go.Ab