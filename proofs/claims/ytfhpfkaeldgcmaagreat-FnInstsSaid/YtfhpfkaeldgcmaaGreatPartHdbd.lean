/-
  SEVERAL TEXTS IN ONE (merged by program): contracts and models, each with its own heading.
-/
import Derived.Test.YtfhpfkaeldgcmaaGreatPartHdbV
import Derived.Test.YtfhpfkaeldgcmaaGreatPartHdbZ
set_option maxHeartbeats 8000000
open Go.Proofs Go.Proofs.Tryz
set_option linter.unusedSimpArgs false
set_option linter.unusedVariables false
set_option maxRecDepth 8000
namespace Go.Ab
def Gm:List (List UInt8):=[[97],[99]]
theorem ad5:eZ Gm:=by unfold eZ;decide
theorem Li(s:List UInt8)(v:List (List UInt8))(b:aC):bF (aN.mk s v b).enc=s.length+(v.length+aI (v.map encS))+b.sz:=by
 simp only[aN.aj,bF,bL,D.sz,List.length_map,aC.cK];omega
theorem inst_mk_sz(t:List UInt8)(v:List (List UInt8))(h:ay)(w:List aM)(d e:Bool)(a:ay)(m:List aN):(aH.mk t v h w d e a m).sz=t.length+(v.length+aI (v.map encS))+h.sz+(w.length+aI (w.map aM.enc))+a.sz+(m.length+aI (m.map aN.enc)):=by
 simp only[aH.sz,aH.aj,bF,bL,D.sz,List.length_map,ay.cK];omega
def kU(h:Int):List (List UInt8):=if h=0 then [] else if h=1 then [[97]] else if h=2 then [[97],[98]] else [[97]]
def yt(h:Int):ay:=if h=0 then rE else if h=1 then rD [108,105,115,116] [nJ [97]] else if h=2 then rD [112,97,105,114] [nJ [97],nJ [98]] else nJ [97]
def headW(h:Int)(s:List UInt8):List aM:=if h=0 then [] else if h=1 then [⟨s,nJ [97]⟩] else if h=2 then [] else [⟨[111,114,100],nJ [97]⟩]
def Er(n:Int):aN:=⟨[109],[[120]],kL n⟩
def instK{bs:List Int}(s:List UInt8)(n:Int)(v:List (List UInt8))(t:ay)(w:List aM)(o:Bool)(a:ay)(d:Bool)(k:Int)(c:Cu bs):aH×Cu bs:=
 if k=0 then(⟨s,v,(pJ 2 c).1,w,d,o,a,[Er n]⟩,(pJ 2 c).2) else
 if k=1 then(⟨s,v++[(bP Gm c).1],t,w,d,o,a,[Er n]⟩,(bP Gm c).2) else
 if k=2 then(⟨s,v,t,w++[⟨[101,113],(pJ 1 c).1⟩],d,o,a,[Er n]⟩,(pJ 1 c).2) else
 if k=3 then(⟨s,v,t,w,d,o,a,[⟨[109],[[120]],(gT 2 uM c).1⟩]⟩,(gT 2 uM c).2) else
 if k=4 then(⟨s,v,t,w,d,o,rE,[Er n]⟩,c) else
 if k=5 then(⟨s,v,t,w,d,o,a,[⟨[109],[],kL n⟩]⟩,c) else
 (⟨s,v,t,w,d,o,a,[Er n]⟩,c)
def yV{bs:List Int}(h:Int)(o:Bool)(c:Cu bs):ay×Cu bs:=match o with
 |true=>kH (kU h) 1 c
 |false=>(zT,c)
def instH{bs:List Int}(s:List UInt8)(n h:Int)(o:Bool)(a:ay)(c:Cu bs):aH×Cu bs:=
 instK s n (kU h) (yt h) (headW h s) o a (bW 4 c).1 (aT 12 (bW 4 c).2).1 (aT 12 (bW 4 c).2).2
def instG{bs:List Int}(s:List UInt8)(n h:Int)(c:Cu bs):aH×Cu bs:=
 instH s n h (bW 3 c).1 (yV h (bW 3 c).1 (bW 3 c).2).1 (yV h (bW 3 c).1 (bW 3 c).2).2
def instX{bs:List Int}(c:Cu bs):aH×Cu bs:=
 instG (bP lD c).1 (aT 9 (bP lD c).2).1 (aT 4 (aT 9 (bP lD c).2).2).1 (aT 4 (aT 9 (bP lD c).2).2).2
theorem Es(h:Int):(kU h).length<=2/\aI ((kU h).map encS)<=2/\eZ (kU h):=by
 unfold kU;split
 ·exact⟨by decide,by decide,by unfold eZ;decide⟩
 split
 ·exact⟨by decide,by decide,by unfold eZ;decide⟩
 split<;>exact⟨by decide,by decide,by unfold eZ;decide⟩
theorem ad6(h:Int):(yt h).sz<=20:=by
 unfold yt;split
 ·rw[sD];omega
 split
 ·simp only[Hl,nD,List.length_cons,List.length_nil];omega
 split
 ·simp only[Ut,nD,List.length_cons,List.length_nil];omega
 ·simp only[nD,List.length_cons,List.length_nil];omega
theorem ad7(h:Int)(s:List UInt8):(headW h s).length<=1/\aI ((headW h s).map aM.enc)<=s.length+4:=by
 unfold headW;split
 ·exact⟨by simp,by simp[aI]⟩
 split
 ·exact⟨by simp,by simp only[List.map_cons,List.map_nil,aI,pR,nD,List.length_cons,List.length_nil];omega⟩
 split
 ·exact⟨by simp,by simp[aI]⟩
 ·exact⟨by simp,by simp only[List.map_cons,List.map_nil,aI,pR,nD,List.length_cons,List.length_nil];omega⟩
theorem instX_sz{bs:List Int}(c:Cu bs):(instX c).1.sz<=2000:=by
 unfold instX;have h0:=gP c Rc;generalize (bP lD c).1=s at h0;generalize (aT 9 (bP lD c).2).1=n;generalize (aT 4 (aT 9 (bP lD c).2).2).1=h;generalize (aT 4 (aT 9 (bP lD c).2).2).2=c1;unfold instG
 have ha:(yV h (bW 3 c1).1 (bW 3 c1).2).1.sz<=30:=by
  cases (bW 3 c1).1 with
  |true=>have:=F8 (Es h).2.2 1 (bW 3 c1).2;show(kH (kU h) 1 (bW 3 c1).2).1.sz<=30;omega
  |false=>show zT.sz<=30;rw[nK];omega
 generalize (yV h (bW 3 c1).1 (bW 3 c1).2).1=a at ha;generalize (yV h (bW 3 c1).1 (bW 3 c1).2).2=c2;generalize (bW 3 c1).1=o;unfold instH;have h1:=Es h;have h2:=ad6 h;have h3:=ad7 h s;generalize kU h=v at h1;generalize yt h=t at h2;generalize headW h s=w at h3;generalize (bW 4 c2).1=d;generalize (aT 12 (bW 4 c2).2).1=k;generalize (aT 12 (bW 4 c2).2).2=c3;have h4:=AU 2 c3;have h5:=AU 1 c3;have h6:=Ji 2 uM c3 Jk;have h7:=gP c3 ad5;unfold instK
 iterate 6
  split
  ·simp only[inst_mk_sz,Er,Li,Mx,sD,List.map_cons,List.map_nil,List.map_append,aI,pO,nk,pR,List.length_cons,List.length_nil,List.length_append];omega
 simp only[inst_mk_sz,Er,Li,Mx,List.map_cons,List.map_nil,aI,nk,List.length_cons,List.length_nil];omega
theorem aaE{bs:List Int}(hB:Bytes bs)(c c1 c2 c3 c4 c5 c6 c7:Cu bs)(s:List UInt8)(n h:Int)(o d:Bool)(a:ay)(k:Int)(l j:Nat)(S:Store)(hk:bg S (l,j)=some (.box (cur c)))(h1:bP lD c=(s,c1))(h2:aT 9 c1=(n,c2))(h3:aT 4 c2=(h,c3))(h4:bW 3 c3=(o,c4))(h5:yV h o c4=(a,c5))(h6:bW 4 c5=(d,c6))(h7:aT 12 c6=(k,c7))(hh:h=0\/h=1\/h=2\/h=3)(Gn:k=3\/k=5):
 cB prog 103 [.c (.ptr (l,j) 0)] S (fun r S1=>r=(instK s n (kU h) (yt h) (headW h s) o a d k c7).1.v/\S1=aX S (l,j) (.box (cur (instK s n (kU h) (yt h) (headW h s) o a d k c7).2))):=by
 have g:∀x:Ab.Obj,bg (aX S (l,j) x) (l,j)=some x:=fun x=>dn _ _ _ _ hk;have q1:=fun fr:List Ab.Obj=>dS hB c (1+l) j (fr::S) lD (by rw[aG];exact hk) (by decide) (by decide);simp only[h1,ak] at q1;have q2:=fun fr:List Ab.Obj=>dY hB c1 (1+l) j (fr::aX S (l,j) (.box (cur c1))) 9 (by rw[aG];exact g _) (by omega) (by omega);simp only[h2,ak,ah] at q2;have q3:=fun fr:List Ab.Obj=>dY hB c2 (1+l) j (fr::aX S (l,j) (.box (cur c2))) 4 (by rw[aG];exact g _) (by omega) (by omega);simp only[h3,ak,ah] at q3;have q4:=fun fr:List Ab.Obj=>iD hB c3 (1+l) j (fr::aX S (l,j) (.box (cur c3))) 3 (by rw[aG];exact g _) (by omega) (by omega);simp only[h4,ak,ah] at q4;have q5:=fun(fr:List Ab.Obj)=>sw (Ej hB (vars:=kU h) (by have:=(Es h).1;omega) 1 c4 (1+l) j (fr::aX S (l,j) (.box (cur c4))) (by rw[aG];exact g _) (by omega));have q6:=fun fr:List Ab.Obj=>iD hB c5 (1+l) j (fr::aX S (l,j) (.box (cur c5))) 4 (by rw[aG];exact g _) (by omega) (by omega);simp only[h6,ak,ah] at q6;have q7:=fun fr:List Ab.Obj=>dY hB c6 (1+l) j (fr::aX S (l,j) (.box (cur c6))) 12 (by rw[aG];exact g _) (by omega) (by omega);simp only[h7,ak,ah] at q7;obtain⟨q,hq⟩:∃q,q=instK s n (kU h) (yt h) (headW h s) o a d k c7:=⟨_,rfl⟩;rw[<-hq];refine cB.of_le ?_;refine zG [67] (rs:=[.cell 2 45]) zmx func103 ntmps103 rfl rfl rfl rfl rfl ?_;simp -implicitDefEqProofs (disch:=omega) only[go_sem];refine cu [true] rfl (q1 _) ?_;simp -implicitDefEqProofs (disch:=omega) only[go_sem,ak,ah];refine bn rfl (q2 _) ?_;simp -implicitDefEqProofs (disch:=omega) only[go_sem,ak,ah];refine aB (pK _) ?_;simp -implicitDefEqProofs (disch:=omega) only[go_sem]
 (repeat(with_reducible refine And.intro ?_ ?_;focus first|omega|rfl|assumption|exact⟨_,rfl,rfl⟩|(simp;omega)|(simp;done)))
 refine bn rfl (q3 _) ?_;rcases hh with rfl|rfl|rfl|rfl
 ·simp -implicitDefEqProofs (disch:=omega) only[go_sem,ak,ah];refine aB jA ?_;simp -implicitDefEqProofs (disch:=omega) only[go_sem,ak,ah];refine bn rfl (q4 _) ?_
  cases o with
  |true=>
   have e5:kH (kU _) 1 c4=(a,c5):=h5;rw[e5] at q5;simp only[ak,ah] at q5;simp -implicitDefEqProofs (disch:=omega) only[go_sem,ak,ah];refine cu [true] rfl (q5 _) ?_;simp -implicitDefEqProofs (disch:=omega) only[go_sem,ak,ah];refine bn rfl (q6 _) ?_;simp -implicitDefEqProofs (disch:=omega) only[go_sem,ak,ah];refine bn rfl (q7 _) ?_;rcases Gn with rfl|rfl
   ·simp only[instK,reduceIte,Int.reduceEq] at hq;simp -implicitDefEqProofs (disch:=omega) only[go_sem,ak,ah];refine cu [true] rfl (jm (mE hB 2 uM c7 (1+l) j _ (by decide) (by rw[aG];exact g _))) ?_;simp -implicitDefEqProofs (disch:=omega) only[go_sem,ak,ah]
    (repeat(with_reducible refine And.intro ?_ ?_;focus first|omega|rfl|assumption|exact⟨_,rfl,rfl⟩|(simp;omega)|(simp;done)))
    first
    |(refine⟨by cases l<;>rfl,?_⟩
      simp -implicitDefEqProofs (disch:=omega) only[go_sem,ak,ah])
    |skip
    rw[hq]
    first|exact⟨aF rfl,rfl⟩|(refine⟨aF ?_,rfl⟩;simp only[aH.v,List.map_cons,List.map_nil,List.map_append,aM.aj,aN.aj,ay.aj,aC.aj,List.cons_append,List.nil_append];rfl)
   ·simp only[instK,reduceIte,Int.reduceEq] at hq;simp -implicitDefEqProofs (disch:=omega) only[go_sem,ak,ah]
    (repeat(with_reducible refine And.intro ?_ ?_;focus first|omega|rfl|assumption|exact⟨_,rfl,rfl⟩|(simp;omega)|(simp;done)))
    first
    |(refine⟨by cases l<;>rfl,?_⟩
      simp -implicitDefEqProofs (disch:=omega) only[go_sem,ak,ah])
    |skip
    rw[hq]
    first|exact⟨aF rfl,rfl⟩|(refine⟨aF ?_,rfl⟩;simp only[aH.v,List.map_cons,List.map_nil,List.map_append,aM.aj,aN.aj,ay.aj,aC.aj,List.cons_append,List.nil_append];rfl)
  |false=>
   obtain⟨rfl,rfl⟩:zT=a/\c4=c5:=by
    have e5:(zT,c4)=(a,c5):=h5;cases e5;exact⟨rfl,rfl⟩
   simp -implicitDefEqProofs (disch:=omega) only[go_sem,ak,ah];refine bn rfl (q6 _) ?_;simp -implicitDefEqProofs (disch:=omega) only[go_sem,ak,ah];refine bn rfl (q7 _) ?_;rcases Gn with rfl|rfl
   ·simp only[instK,reduceIte,Int.reduceEq] at hq;simp -implicitDefEqProofs (disch:=omega) only[go_sem,ak,ah];refine cu [true] rfl (jm (mE hB 2 uM c7 (1+l) j _ (by decide) (by rw[aG];exact g _))) ?_;simp -implicitDefEqProofs (disch:=omega) only[go_sem,ak,ah]
    (repeat(with_reducible refine And.intro ?_ ?_;focus first|omega|rfl|assumption|exact⟨_,rfl,rfl⟩|(simp;omega)|(simp;done)))
    first
    |(refine⟨by cases l<;>rfl,?_⟩
      simp -implicitDefEqProofs (disch:=omega) only[go_sem,ak,ah])
    |skip
    rw[hq]
    first|exact⟨aF rfl,rfl⟩|(refine⟨aF ?_,rfl⟩;simp only[aH.v,List.map_cons,List.map_nil,List.map_append,aM.aj,aN.aj,ay.aj,aC.aj,List.cons_append,List.nil_append];rfl)
   ·simp only[instK,reduceIte,Int.reduceEq] at hq;simp -implicitDefEqProofs (disch:=omega) only[go_sem,ak,ah]
    (repeat(with_reducible refine And.intro ?_ ?_;focus first|omega|rfl|assumption|exact⟨_,rfl,rfl⟩|(simp;omega)|(simp;done)))
    first
    |(refine⟨by cases l<;>rfl,?_⟩
      simp -implicitDefEqProofs (disch:=omega) only[go_sem,ak,ah])
    |skip
    rw[hq]
    first|exact⟨aF rfl,rfl⟩|(refine⟨aF ?_,rfl⟩;simp only[aH.v,List.map_cons,List.map_nil,List.map_append,aM.aj,aN.aj,ay.aj,aC.aj,List.cons_append,List.nil_append];rfl)
 ·simp -implicitDefEqProofs (disch:=omega) only[go_sem,ak,ah];refine aB (fQ _) ?_;simp -implicitDefEqProofs (disch:=omega) only[go_sem]
  (repeat(with_reducible refine And.intro ?_ ?_;focus first|omega|rfl|assumption|exact⟨_,rfl,rfl⟩|(simp;omega)|(simp;done)))
  refine aB (vk [108,105,115,116] [nJ [97]] rfl (by decide) (.inl rfl)) ?_;simp -implicitDefEqProofs (disch:=omega) only[go_sem,ak,ah];refine aB (fQ _) ?_;simp -implicitDefEqProofs (disch:=omega) only[go_sem,ak,ah]
  (repeat(with_reducible refine And.intro ?_ ?_;focus first|omega|rfl|assumption|exact⟨_,rfl,rfl⟩|(simp;omega)|(simp;done)))
  first
  |(refine⟨by rfl,?_⟩
    simp -implicitDefEqProofs (disch:=omega) only[go_sem,ak,ah])
  |skip
  refine bn rfl (q4 _) ?_
  cases o with
  |true=>
   have e5:kH (kU _) 1 c4=(a,c5):=h5;rw[e5] at q5;simp only[ak,ah] at q5;simp -implicitDefEqProofs (disch:=omega) only[go_sem,ak,ah];refine cu [true] rfl (q5 _) ?_;simp -implicitDefEqProofs (disch:=omega) only[go_sem,ak,ah];refine bn rfl (q6 _) ?_;simp -implicitDefEqProofs (disch:=omega) only[go_sem,ak,ah];refine bn rfl (q7 _) ?_;rcases Gn with rfl|rfl
   ·simp only[instK,reduceIte,Int.reduceEq] at hq;simp -implicitDefEqProofs (disch:=omega) only[go_sem,ak,ah];refine cu [true] rfl (jm (mE hB 2 uM c7 (1+l) j _ (by decide) (by rw[aG];exact g _))) ?_;simp -implicitDefEqProofs (disch:=omega) only[go_sem,ak,ah]
    (repeat(with_reducible refine And.intro ?_ ?_;focus first|omega|rfl|assumption|exact⟨_,rfl,rfl⟩|(simp;omega)|(simp;done)))
    first
    |(refine⟨by cases l<;>rfl,?_⟩
      simp -implicitDefEqProofs (disch:=omega) only[go_sem,ak,ah])
    |skip
    rw[hq]
    first|exact⟨aF rfl,rfl⟩|(refine⟨aF ?_,rfl⟩;simp only[aH.v,List.map_cons,List.map_nil,List.map_append,aM.aj,aN.aj,ay.aj,aC.aj,List.cons_append,List.nil_append];rfl)
   ·simp only[instK,reduceIte,Int.reduceEq] at hq;simp -implicitDefEqProofs (disch:=omega) only[go_sem,ak,ah]
    (repeat(with_reducible refine And.intro ?_ ?_;focus first|omega|rfl|assumption|exact⟨_,rfl,rfl⟩|(simp;omega)|(simp;done)))
    first
    |(refine⟨by cases l<;>rfl,?_⟩
      simp -implicitDefEqProofs (disch:=omega) only[go_sem,ak,ah])
    |skip
    rw[hq]
    first|exact⟨aF rfl,rfl⟩|(refine⟨aF ?_,rfl⟩;simp only[aH.v,List.map_cons,List.map_nil,List.map_append,aM.aj,aN.aj,ay.aj,aC.aj,List.cons_append,List.nil_append];rfl)
  |false=>
   obtain⟨rfl,rfl⟩:zT=a/\c4=c5:=by
    have e5:(zT,c4)=(a,c5):=h5;cases e5;exact⟨rfl,rfl⟩
   simp -implicitDefEqProofs (disch:=omega) only[go_sem,ak,ah];refine bn rfl (q6 _) ?_;simp -implicitDefEqProofs (disch:=omega) only[go_sem,ak,ah];refine bn rfl (q7 _) ?_;rcases Gn with rfl|rfl
   ·simp only[instK,reduceIte,Int.reduceEq] at hq;simp -implicitDefEqProofs (disch:=omega) only[go_sem,ak,ah];refine cu [true] rfl (jm (mE hB 2 uM c7 (1+l) j _ (by decide) (by rw[aG];exact g _))) ?_;simp -implicitDefEqProofs (disch:=omega) only[go_sem,ak,ah]
    (repeat(with_reducible refine And.intro ?_ ?_;focus first|omega|rfl|assumption|exact⟨_,rfl,rfl⟩|(simp;omega)|(simp;done)))
    first
    |(refine⟨by cases l<;>rfl,?_⟩
      simp -implicitDefEqProofs (disch:=omega) only[go_sem,ak,ah])
    |skip
    rw[hq]
    first|exact⟨aF rfl,rfl⟩|(refine⟨aF ?_,rfl⟩;simp only[aH.v,List.map_cons,List.map_nil,List.map_append,aM.aj,aN.aj,ay.aj,aC.aj,List.cons_append,List.nil_append];rfl)
   ·simp only[instK,reduceIte,Int.reduceEq] at hq;simp -implicitDefEqProofs (disch:=omega) only[go_sem,ak,ah]
    (repeat(with_reducible refine And.intro ?_ ?_;focus first|omega|rfl|assumption|exact⟨_,rfl,rfl⟩|(simp;omega)|(simp;done)))
    first
    |(refine⟨by cases l<;>rfl,?_⟩
      simp -implicitDefEqProofs (disch:=omega) only[go_sem,ak,ah])
    |skip
    rw[hq]
    first|exact⟨aF rfl,rfl⟩|(refine⟨aF ?_,rfl⟩;simp only[aH.v,List.map_cons,List.map_nil,List.map_append,aM.aj,aN.aj,ay.aj,aC.aj,List.cons_append,List.nil_append];rfl)
 ·simp -implicitDefEqProofs (disch:=omega) only[go_sem,ak,ah];refine aB (fQ _) ?_;simp -implicitDefEqProofs (disch:=omega) only[go_sem];refine aB (fQ _) ?_;simp -implicitDefEqProofs (disch:=omega) only[go_sem]
  (repeat(with_reducible refine And.intro ?_ ?_;focus first|omega|rfl|assumption|exact⟨_,rfl,rfl⟩|(simp;omega)|(simp;done)))
  refine aB (vk [112,97,105,114] [nJ [97],nJ [98]] rfl (by decide) (.inl rfl)) ?_;simp -implicitDefEqProofs (disch:=omega) only[go_sem,ak,ah];refine bn rfl (q4 _) ?_
  cases o with
  |true=>
   have e5:kH (kU _) 1 c4=(a,c5):=h5;rw[e5] at q5;simp only[ak,ah] at q5;simp -implicitDefEqProofs (disch:=omega) only[go_sem,ak,ah];refine cu [true] rfl (q5 _) ?_;simp -implicitDefEqProofs (disch:=omega) only[go_sem,ak,ah];refine bn rfl (q6 _) ?_;simp -implicitDefEqProofs (disch:=omega) only[go_sem,ak,ah];refine bn rfl (q7 _) ?_;rcases Gn with rfl|rfl
   ·simp only[instK,reduceIte,Int.reduceEq] at hq;simp -implicitDefEqProofs (disch:=omega) only[go_sem,ak,ah];refine cu [true] rfl (jm (mE hB 2 uM c7 (1+l) j _ (by decide) (by rw[aG];exact g _))) ?_;simp -implicitDefEqProofs (disch:=omega) only[go_sem,ak,ah]
    (repeat(with_reducible refine And.intro ?_ ?_;focus first|omega|rfl|assumption|exact⟨_,rfl,rfl⟩|(simp;omega)|(simp;done)))
    first
    |(refine⟨by cases l<;>rfl,?_⟩
      simp -implicitDefEqProofs (disch:=omega) only[go_sem,ak,ah])
    |skip
    rw[hq]
    first|exact⟨aF rfl,rfl⟩|(refine⟨aF ?_,rfl⟩;simp only[aH.v,List.map_cons,List.map_nil,List.map_append,aM.aj,aN.aj,ay.aj,aC.aj,List.cons_append,List.nil_append];rfl)
   ·simp only[instK,reduceIte,Int.reduceEq] at hq;simp -implicitDefEqProofs (disch:=omega) only[go_sem,ak,ah]
    (repeat(with_reducible refine And.intro ?_ ?_;focus first|omega|rfl|assumption|exact⟨_,rfl,rfl⟩|(simp;omega)|(simp;done)))
    first
    |(refine⟨by cases l<;>rfl,?_⟩
      simp -implicitDefEqProofs (disch:=omega) only[go_sem,ak,ah])
    |skip
    rw[hq]
    first|exact⟨aF rfl,rfl⟩|(refine⟨aF ?_,rfl⟩;simp only[aH.v,List.map_cons,List.map_nil,List.map_append,aM.aj,aN.aj,ay.aj,aC.aj,List.cons_append,List.nil_append];rfl)
  |false=>
   obtain⟨rfl,rfl⟩:zT=a/\c4=c5:=by
    have e5:(zT,c4)=(a,c5):=h5;cases e5;exact⟨rfl,rfl⟩
   simp -implicitDefEqProofs (disch:=omega) only[go_sem,ak,ah];refine bn rfl (q6 _) ?_;simp -implicitDefEqProofs (disch:=omega) only[go_sem,ak,ah];refine bn rfl (q7 _) ?_;rcases Gn with rfl|rfl
   ·simp only[instK,reduceIte,Int.reduceEq] at hq;simp -implicitDefEqProofs (disch:=omega) only[go_sem,ak,ah];refine cu [true] rfl (jm (mE hB 2 uM c7 (1+l) j _ (by decide) (by rw[aG];exact g _))) ?_;simp -implicitDefEqProofs (disch:=omega) only[go_sem,ak,ah]
    (repeat(with_reducible refine And.intro ?_ ?_;focus first|omega|rfl|assumption|exact⟨_,rfl,rfl⟩|(simp;omega)|(simp;done)))
    first
    |(refine⟨by cases l<;>rfl,?_⟩
      simp -implicitDefEqProofs (disch:=omega) only[go_sem,ak,ah])
    |skip
    rw[hq]
    first|exact⟨aF rfl,rfl⟩|(refine⟨aF ?_,rfl⟩;simp only[aH.v,List.map_cons,List.map_nil,List.map_append,aM.aj,aN.aj,ay.aj,aC.aj,List.cons_append,List.nil_append];rfl)
   ·simp only[instK,reduceIte,Int.reduceEq] at hq;simp -implicitDefEqProofs (disch:=omega) only[go_sem,ak,ah]
    (repeat(with_reducible refine And.intro ?_ ?_;focus first|omega|rfl|assumption|exact⟨_,rfl,rfl⟩|(simp;omega)|(simp;done)))
    first
    |(refine⟨by cases l<;>rfl,?_⟩
      simp -implicitDefEqProofs (disch:=omega) only[go_sem,ak,ah])
    |skip
    rw[hq]
    first|exact⟨aF rfl,rfl⟩|(refine⟨aF ?_,rfl⟩;simp only[aH.v,List.map_cons,List.map_nil,List.map_append,aM.aj,aN.aj,ay.aj,aC.aj,List.cons_append,List.nil_append];rfl)
 ·simp -implicitDefEqProofs (disch:=omega) only[go_sem,ak,ah];refine aB (fQ _) ?_;simp -implicitDefEqProofs (disch:=omega) only[go_sem];refine aB (fQ _) ?_;simp -implicitDefEqProofs (disch:=omega) only[go_sem]
  (repeat(with_reducible refine And.intro ?_ ?_;focus first|omega|rfl|assumption|exact⟨_,rfl,rfl⟩|(simp;omega)|(simp;done)))
  refine bn rfl (q4 _) ?_
  cases o with
  |true=>
   have e5:kH (kU _) 1 c4=(a,c5):=h5;rw[e5] at q5;simp only[ak,ah] at q5;simp -implicitDefEqProofs (disch:=omega) only[go_sem,ak,ah];refine cu [true] rfl (q5 _) ?_;simp -implicitDefEqProofs (disch:=omega) only[go_sem,ak,ah];refine bn rfl (q6 _) ?_;simp -implicitDefEqProofs (disch:=omega) only[go_sem,ak,ah];refine bn rfl (q7 _) ?_;rcases Gn with rfl|rfl
   ·simp only[instK,reduceIte,Int.reduceEq] at hq;simp -implicitDefEqProofs (disch:=omega) only[go_sem,ak,ah];refine cu [true] rfl (jm (mE hB 2 uM c7 (1+l) j _ (by decide) (by rw[aG];exact g _))) ?_;simp -implicitDefEqProofs (disch:=omega) only[go_sem,ak,ah]
    (repeat(with_reducible refine And.intro ?_ ?_;focus first|omega|rfl|assumption|exact⟨_,rfl,rfl⟩|(simp;omega)|(simp;done)))
    first
    |(refine⟨by cases l<;>rfl,?_⟩
      simp -implicitDefEqProofs (disch:=omega) only[go_sem,ak,ah])
    |skip
    rw[hq]
    first|exact⟨aF rfl,rfl⟩|(refine⟨aF ?_,rfl⟩;simp only[aH.v,List.map_cons,List.map_nil,List.map_append,aM.aj,aN.aj,ay.aj,aC.aj,List.cons_append,List.nil_append];rfl)
   ·simp only[instK,reduceIte,Int.reduceEq] at hq;simp -implicitDefEqProofs (disch:=omega) only[go_sem,ak,ah]
    (repeat(with_reducible refine And.intro ?_ ?_;focus first|omega|rfl|assumption|exact⟨_,rfl,rfl⟩|(simp;omega)|(simp;done)))
    first
    |(refine⟨by cases l<;>rfl,?_⟩
      simp -implicitDefEqProofs (disch:=omega) only[go_sem,ak,ah])
    |skip
    rw[hq]
    first|exact⟨aF rfl,rfl⟩|(refine⟨aF ?_,rfl⟩;simp only[aH.v,List.map_cons,List.map_nil,List.map_append,aM.aj,aN.aj,ay.aj,aC.aj,List.cons_append,List.nil_append];rfl)
  |false=>
   obtain⟨rfl,rfl⟩:zT=a/\c4=c5:=by
    have e5:(zT,c4)=(a,c5):=h5;cases e5;exact⟨rfl,rfl⟩
   simp -implicitDefEqProofs (disch:=omega) only[go_sem,ak,ah];refine bn rfl (q6 _) ?_;simp -implicitDefEqProofs (disch:=omega) only[go_sem,ak,ah];refine bn rfl (q7 _) ?_;rcases Gn with rfl|rfl
   ·simp only[instK,reduceIte,Int.reduceEq] at hq;simp -implicitDefEqProofs (disch:=omega) only[go_sem,ak,ah];refine cu [true] rfl (jm (mE hB 2 uM c7 (1+l) j _ (by decide) (by rw[aG];exact g _))) ?_;simp -implicitDefEqProofs (disch:=omega) only[go_sem,ak,ah]
    (repeat(with_reducible refine And.intro ?_ ?_;focus first|omega|rfl|assumption|exact⟨_,rfl,rfl⟩|(simp;omega)|(simp;done)))
    first
    |(refine⟨by cases l<;>rfl,?_⟩
      simp -implicitDefEqProofs (disch:=omega) only[go_sem,ak,ah])
    |skip
    rw[hq]
    first|exact⟨aF rfl,rfl⟩|(refine⟨aF ?_,rfl⟩;simp only[aH.v,List.map_cons,List.map_nil,List.map_append,aM.aj,aN.aj,ay.aj,aC.aj,List.cons_append,List.nil_append];rfl)
   ·simp only[instK,reduceIte,Int.reduceEq] at hq;simp -implicitDefEqProofs (disch:=omega) only[go_sem,ak,ah]
    (repeat(with_reducible refine And.intro ?_ ?_;focus first|omega|rfl|assumption|exact⟨_,rfl,rfl⟩|(simp;omega)|(simp;done)))
    first
    |(refine⟨by cases l<;>rfl,?_⟩
      simp -implicitDefEqProofs (disch:=omega) only[go_sem,ak,ah])
    |skip
    rw[hq]
    first|exact⟨aF rfl,rfl⟩|(refine⟨aF ?_,rfl⟩;simp only[aH.v,List.map_cons,List.map_nil,List.map_append,aM.aj,aN.aj,ay.aj,aC.aj,List.cons_append,List.nil_append];rfl)
theorem aaF{bs:List Int}(hB:Bytes bs)(c c1 c2 c3 c4 c5 c6 c7:Cu bs)(s:List UInt8)(n h:Int)(o d:Bool)(a:ay)(k:Int)(l j:Nat)(S:Store)(hk:bg S (l,j)=some (.box (cur c)))(h1:bP lD c=(s,c1))(h2:aT 9 c1=(n,c2))(h3:aT 4 c2=(h,c3))(h4:bW 3 c3=(o,c4))(h5:yV h o c4=(a,c5))(h6:bW 4 c5=(d,c6))(h7:aT 12 c6=(k,c7))(hh:h=0\/h=1\/h=2\/h=3)(hk3:k≠3)(hk5:k≠5):
 cB prog 103 [.c (.ptr (l,j) 0)] S (fun r S1=>r=(instK s n (kU h) (yt h) (headW h s) o a d k c7).1.v/\S1=aX S (l,j) (.box (cur (instK s n (kU h) (yt h) (headW h s) o a d k c7).2))):=by
 have g:∀x:Ab.Obj,bg (aX S (l,j) x) (l,j)=some x:=fun x=>dn _ _ _ _ hk;have q1:=fun fr:List Ab.Obj=>dS hB c (1+l) j (fr::S) lD (by rw[aG];exact hk) (by decide) (by decide);simp only[h1,ak] at q1;have q2:=fun fr:List Ab.Obj=>dY hB c1 (1+l) j (fr::aX S (l,j) (.box (cur c1))) 9 (by rw[aG];exact g _) (by omega) (by omega);simp only[h2,ak,ah] at q2;have q3:=fun fr:List Ab.Obj=>dY hB c2 (1+l) j (fr::aX S (l,j) (.box (cur c2))) 4 (by rw[aG];exact g _) (by omega) (by omega);simp only[h3,ak,ah] at q3;have q4:=fun fr:List Ab.Obj=>iD hB c3 (1+l) j (fr::aX S (l,j) (.box (cur c3))) 3 (by rw[aG];exact g _) (by omega) (by omega);simp only[h4,ak,ah] at q4;have q5:=fun(fr:List Ab.Obj)=>sw (Ej hB (vars:=kU h) (by have:=(Es h).1;omega) 1 c4 (1+l) j (fr::aX S (l,j) (.box (cur c4))) (by rw[aG];exact g _) (by omega));have q6:=fun fr:List Ab.Obj=>iD hB c5 (1+l) j (fr::aX S (l,j) (.box (cur c5))) 4 (by rw[aG];exact g _) (by omega) (by omega);simp only[h6,ak,ah] at q6;have q7:=fun fr:List Ab.Obj=>dY hB c6 (1+l) j (fr::aX S (l,j) (.box (cur c6))) 12 (by rw[aG];exact g _) (by omega) (by omega);simp only[h7,ak,ah] at q7;obtain⟨q,hq⟩:∃q,q=instK s n (kU h) (yt h) (headW h s) o a d k c7:=⟨_,rfl⟩;rw[<-hq];refine cB.of_le ?_;refine oZ [67] (rs:=[.cell 2 45]) zmx func103 ntmps103 rfl rfl rfl rfl rfl ?_;simp -implicitDefEqProofs (disch:=omega) only[go_sem];refine cu [true] rfl (q1 _) ?_;simp -implicitDefEqProofs (disch:=omega) only[go_sem,ak,ah];refine bn rfl (q2 _) ?_;simp -implicitDefEqProofs (disch:=omega) only[go_sem,ak,ah];refine aB (pK _) ?_;simp -implicitDefEqProofs (disch:=omega) only[go_sem]
 (repeat(with_reducible refine And.intro ?_ ?_;focus first|omega|rfl|assumption|exact⟨_,rfl,rfl⟩|(simp;omega)|(simp;done)))
 refine bn rfl (q3 _) ?_;rcases hh with rfl|rfl|rfl|rfl
 ·simp -implicitDefEqProofs (disch:=omega) only[go_sem,ak,ah];refine aB jA ?_;simp -implicitDefEqProofs (disch:=omega) only[go_sem,ak,ah];refine bn rfl (q4 _) ?_
  cases o with
  |true=>
   have e5:kH (kU _) 1 c4=(a,c5):=h5;rw[e5] at q5;simp only[ak,ah] at q5;simp -implicitDefEqProofs (disch:=omega) only[go_sem,ak,ah];refine cu [true] rfl (q5 _) ?_;simp -implicitDefEqProofs (disch:=omega) only[go_sem,ak,ah];refine bn rfl (q6 _) ?_;simp -implicitDefEqProofs (disch:=omega) only[go_sem,ak,ah];refine bn rfl (q7 _) ?_;simp -implicitDefEqProofs (disch:=omega) only[go_sem,ak,ah]
   with_reducible refine aD (fun hb=> ?_) (fun hb=> ?_)<;>have h:=hb<;>(try simp only[wf_preprocess] at h)<;>simp -implicitDefEqProofs (disch:=omega) only[go_sem,hb,ak,ah]<;>(repeat(with_reducible refine And.intro ?_ ?_;focus first|omega|rfl|assumption|exact⟨_,rfl,rfl⟩|(simp;omega)|(simp;done)))
   ·subst h;simp only[instK,reduceIte,Int.reduceEq] at hq;refine bn rfl (iF hB 2 c7 (1+l) j _ (by rw[aG];exact g _) (by omega)) ?_;simp -implicitDefEqProofs (disch:=omega) only[go_sem,ak,ah];rw[hq]
    first|exact⟨aF rfl,rfl⟩|(refine⟨aF ?_,rfl⟩;simp only[aH.v,List.map_cons,List.map_nil,List.map_append,aM.aj,aN.aj,ay.aj,aC.aj,List.cons_append,List.nil_append];rfl)
   have e0:=h
   with_reducible refine aD (fun hb=> ?_) (fun hb=> ?_)<;>have h:=hb<;>(try simp only[wf_preprocess] at h)<;>simp -implicitDefEqProofs (disch:=omega) only[go_sem,hb,ak,ah]<;>(repeat(with_reducible refine And.intro ?_ ?_;focus first|omega|rfl|assumption|exact⟨_,rfl,rfl⟩|(simp;omega)|(simp;done)))
   ·subst h;simp only[instK,reduceIte,Int.reduceEq] at hq;refine cu [true] rfl (dS hB c7 (1+l) j _ Gm (by rw[aG];exact g _) (by decide) (by decide)) ?_;simp -implicitDefEqProofs (disch:=omega) only[go_sem,ak,ah]
    (repeat(with_reducible refine And.intro ?_ ?_;focus first|omega|rfl|assumption|exact⟨_,rfl,rfl⟩|(simp;omega)|(simp;done)))
    first
    |(refine⟨by cases l<;>rfl,?_⟩
      simp -implicitDefEqProofs (disch:=omega) only[go_sem,ak,ah])
    |skip
    rw[hq]
    first|exact⟨aF rfl,rfl⟩|(refine⟨aF ?_,rfl⟩;simp only[aH.v,List.map_cons,List.map_nil,List.map_append,aM.aj,aN.aj,ay.aj,aC.aj,List.cons_append,List.nil_append];rfl)
   have e1:=h
   with_reducible refine aD (fun hb=> ?_) (fun hb=> ?_)<;>have h:=hb<;>(try simp only[wf_preprocess] at h)<;>simp -implicitDefEqProofs (disch:=omega) only[go_sem,hb,ak,ah]<;>(repeat(with_reducible refine And.intro ?_ ?_;focus first|omega|rfl|assumption|exact⟨_,rfl,rfl⟩|(simp;omega)|(simp;done)))
   ·subst h;simp only[instK,reduceIte,Int.reduceEq] at hq;refine bn rfl (iF hB 1 c7 (1+l) j _ (by rw[aG];exact g _) (by omega)) ?_;simp -implicitDefEqProofs (disch:=omega) only[go_sem,ak,ah]
    (repeat(with_reducible refine And.intro ?_ ?_;focus first|omega|rfl|assumption|exact⟨_,rfl,rfl⟩|(simp;omega)|(simp;done)))
    first
    |(refine⟨by cases l<;>rfl,?_⟩
      simp -implicitDefEqProofs (disch:=omega) only[go_sem,ak,ah])
    |skip
    rw[hq]
    first|exact⟨aF rfl,rfl⟩|(refine⟨aF ?_,rfl⟩;simp only[aH.v,List.map_cons,List.map_nil,List.map_append,aM.aj,aN.aj,ay.aj,aC.aj,List.cons_append,List.nil_append];rfl)
   have e2:=h
   with_reducible refine aD (fun hb=> ?_) (fun hb=> ?_)<;>have h:=hb<;>(try simp only[wf_preprocess] at h)<;>simp -implicitDefEqProofs (disch:=omega) only[go_sem,hb,ak,ah]<;>(repeat(with_reducible refine And.intro ?_ ?_;focus first|omega|rfl|assumption|exact⟨_,rfl,rfl⟩|(simp;omega)|(simp;done)))
   ·exact absurd h hk3
   with_reducible refine aD (fun hb=> ?_) (fun hb=> ?_)<;>have h:=hb<;>(try simp only[wf_preprocess] at h)<;>simp -implicitDefEqProofs (disch:=omega) only[go_sem,hb,ak,ah]<;>(repeat(with_reducible refine And.intro ?_ ?_;focus first|omega|rfl|assumption|exact⟨_,rfl,rfl⟩|(simp;omega)|(simp;done)))
   ·subst h;simp only[instK,reduceIte,Int.reduceEq] at hq;refine aB jA ?_;simp -implicitDefEqProofs (disch:=omega) only[go_sem,ak,ah];rw[hq]
    first|exact⟨aF rfl,rfl⟩|(refine⟨aF ?_,rfl⟩;simp only[aH.v,List.map_cons,List.map_nil,List.map_append,aM.aj,aN.aj,ay.aj,aC.aj,List.cons_append,List.nil_append];rfl)
   have e4:=h
   with_reducible refine aD (fun hb=> ?_) (fun hb=> ?_)<;>have h:=hb<;>(try simp only[wf_preprocess] at h)<;>simp -implicitDefEqProofs (disch:=omega) only[go_sem,hb,ak,ah]<;>(repeat(with_reducible refine And.intro ?_ ?_;focus first|omega|rfl|assumption|exact⟨_,rfl,rfl⟩|(simp;omega)|(simp;done)))
   ·exact absurd h hk5
   simp only[instK,if_neg e0,if_neg e1,if_neg e2,if_neg hk3,if_neg e4,if_neg hk5] at hq;rw[hq]
   first|exact⟨aF rfl,rfl⟩|(refine⟨aF ?_,rfl⟩;simp only[aH.v,List.map_cons,List.map_nil,List.map_append,aM.aj,aN.aj,ay.aj,aC.aj,List.cons_append,List.nil_append];rfl)
  |false=>
   obtain⟨rfl,rfl⟩:zT=a/\c4=c5:=by
    have e5:(zT,c4)=(a,c5):=h5;cases e5;exact⟨rfl,rfl⟩
   simp -implicitDefEqProofs (disch:=omega) only[go_sem,ak,ah];refine bn rfl (q6 _) ?_;simp -implicitDefEqProofs (disch:=omega) only[go_sem,ak,ah];refine bn rfl (q7 _) ?_;simp -implicitDefEqProofs (disch:=omega) only[go_sem,ak,ah]
   with_reducible refine aD (fun hb=> ?_) (fun hb=> ?_)<;>have h:=hb<;>(try simp only[wf_preprocess] at h)<;>simp -implicitDefEqProofs (disch:=omega) only[go_sem,hb,ak,ah]<;>(repeat(with_reducible refine And.intro ?_ ?_;focus first|omega|rfl|assumption|exact⟨_,rfl,rfl⟩|(simp;omega)|(simp;done)))
   ·subst h;simp only[instK,reduceIte,Int.reduceEq] at hq;refine bn rfl (iF hB 2 c7 (1+l) j _ (by rw[aG];exact g _) (by omega)) ?_;simp -implicitDefEqProofs (disch:=omega) only[go_sem,ak,ah];rw[hq]
    first|exact⟨aF rfl,rfl⟩|(refine⟨aF ?_,rfl⟩;simp only[aH.v,List.map_cons,List.map_nil,List.map_append,aM.aj,aN.aj,ay.aj,aC.aj,List.cons_append,List.nil_append];rfl)
   have e0:=h
   with_reducible refine aD (fun hb=> ?_) (fun hb=> ?_)<;>have h:=hb<;>(try simp only[wf_preprocess] at h)<;>simp -implicitDefEqProofs (disch:=omega) only[go_sem,hb,ak,ah]<;>(repeat(with_reducible refine And.intro ?_ ?_;focus first|omega|rfl|assumption|exact⟨_,rfl,rfl⟩|(simp;omega)|(simp;done)))
   ·subst h;simp only[instK,reduceIte,Int.reduceEq] at hq;refine cu [true] rfl (dS hB c7 (1+l) j _ Gm (by rw[aG];exact g _) (by decide) (by decide)) ?_;simp -implicitDefEqProofs (disch:=omega) only[go_sem,ak,ah]
    (repeat(with_reducible refine And.intro ?_ ?_;focus first|omega|rfl|assumption|exact⟨_,rfl,rfl⟩|(simp;omega)|(simp;done)))
    first
    |(refine⟨by cases l<;>rfl,?_⟩
      simp -implicitDefEqProofs (disch:=omega) only[go_sem,ak,ah])
    |skip
    rw[hq]
    first|exact⟨aF rfl,rfl⟩|(refine⟨aF ?_,rfl⟩;simp only[aH.v,List.map_cons,List.map_nil,List.map_append,aM.aj,aN.aj,ay.aj,aC.aj,List.cons_append,List.nil_append];rfl)
   have e1:=h
   with_reducible refine aD (fun hb=> ?_) (fun hb=> ?_)<;>have h:=hb<;>(try simp only[wf_preprocess] at h)<;>simp -implicitDefEqProofs (disch:=omega) only[go_sem,hb,ak,ah]<;>(repeat(with_reducible refine And.intro ?_ ?_;focus first|omega|rfl|assumption|exact⟨_,rfl,rfl⟩|(simp;omega)|(simp;done)))
   ·subst h;simp only[instK,reduceIte,Int.reduceEq] at hq;refine bn rfl (iF hB 1 c7 (1+l) j _ (by rw[aG];exact g _) (by omega)) ?_;simp -implicitDefEqProofs (disch:=omega) only[go_sem,ak,ah]
    (repeat(with_reducible refine And.intro ?_ ?_;focus first|omega|rfl|assumption|exact⟨_,rfl,rfl⟩|(simp;omega)|(simp;done)))
    first
    |(refine⟨by cases l<;>rfl,?_⟩
      simp -implicitDefEqProofs (disch:=omega) only[go_sem,ak,ah])
    |skip
    rw[hq]
    first|exact⟨aF rfl,rfl⟩|(refine⟨aF ?_,rfl⟩;simp only[aH.v,List.map_cons,List.map_nil,List.map_append,aM.aj,aN.aj,ay.aj,aC.aj,List.cons_append,List.nil_append];rfl)
   have e2:=h
   with_reducible refine aD (fun hb=> ?_) (fun hb=> ?_)<;>have h:=hb<;>(try simp only[wf_preprocess] at h)<;>simp -implicitDefEqProofs (disch:=omega) only[go_sem,hb,ak,ah]<;>(repeat(with_reducible refine And.intro ?_ ?_;focus first|omega|rfl|assumption|exact⟨_,rfl,rfl⟩|(simp;omega)|(simp;done)))
   ·exact absurd h hk3
   with_reducible refine aD (fun hb=> ?_) (fun hb=> ?_)<;>have h:=hb<;>(try simp only[wf_preprocess] at h)<;>simp -implicitDefEqProofs (disch:=omega) only[go_sem,hb,ak,ah]<;>(repeat(with_reducible refine And.intro ?_ ?_;focus first|omega|rfl|assumption|exact⟨_,rfl,rfl⟩|(simp;omega)|(simp;done)))
   ·subst h;simp only[instK,reduceIte,Int.reduceEq] at hq;refine aB jA ?_;simp -implicitDefEqProofs (disch:=omega) only[go_sem,ak,ah];rw[hq]
    first|exact⟨aF rfl,rfl⟩|(refine⟨aF ?_,rfl⟩;simp only[aH.v,List.map_cons,List.map_nil,List.map_append,aM.aj,aN.aj,ay.aj,aC.aj,List.cons_append,List.nil_append];rfl)
   have e4:=h
   with_reducible refine aD (fun hb=> ?_) (fun hb=> ?_)<;>have h:=hb<;>(try simp only[wf_preprocess] at h)<;>simp -implicitDefEqProofs (disch:=omega) only[go_sem,hb,ak,ah]<;>(repeat(with_reducible refine And.intro ?_ ?_;focus first|omega|rfl|assumption|exact⟨_,rfl,rfl⟩|(simp;omega)|(simp;done)))
   ·exact absurd h hk5
   simp only[instK,if_neg e0,if_neg e1,if_neg e2,if_neg hk3,if_neg e4,if_neg hk5] at hq;rw[hq]
   first|exact⟨aF rfl,rfl⟩|(refine⟨aF ?_,rfl⟩;simp only[aH.v,List.map_cons,List.map_nil,List.map_append,aM.aj,aN.aj,ay.aj,aC.aj,List.cons_append,List.nil_append];rfl)
 ·simp -implicitDefEqProofs (disch:=omega) only[go_sem,ak,ah];refine aB (fQ _) ?_;simp -implicitDefEqProofs (disch:=omega) only[go_sem]
  (repeat(with_reducible refine And.intro ?_ ?_;focus first|omega|rfl|assumption|exact⟨_,rfl,rfl⟩|(simp;omega)|(simp;done)))
  refine aB (vk [108,105,115,116] [nJ [97]] rfl (by decide) (.inl rfl)) ?_;simp -implicitDefEqProofs (disch:=omega) only[go_sem,ak,ah];refine aB (fQ _) ?_;simp -implicitDefEqProofs (disch:=omega) only[go_sem,ak,ah]
  (repeat(with_reducible refine And.intro ?_ ?_;focus first|omega|rfl|assumption|exact⟨_,rfl,rfl⟩|(simp;omega)|(simp;done)))
  first
  |(refine⟨by rfl,?_⟩
    simp -implicitDefEqProofs (disch:=omega) only[go_sem,ak,ah])
  |skip
  refine bn rfl (q4 _) ?_
  cases o with
  |true=>
   have e5:kH (kU _) 1 c4=(a,c5):=h5;rw[e5] at q5;simp only[ak,ah] at q5;simp -implicitDefEqProofs (disch:=omega) only[go_sem,ak,ah];refine cu [true] rfl (q5 _) ?_;simp -implicitDefEqProofs (disch:=omega) only[go_sem,ak,ah];refine bn rfl (q6 _) ?_;simp -implicitDefEqProofs (disch:=omega) only[go_sem,ak,ah];refine bn rfl (q7 _) ?_;simp -implicitDefEqProofs (disch:=omega) only[go_sem,ak,ah]
   with_reducible refine aD (fun hb=> ?_) (fun hb=> ?_)<;>have h:=hb<;>(try simp only[wf_preprocess] at h)<;>simp -implicitDefEqProofs (disch:=omega) only[go_sem,hb,ak,ah]<;>(repeat(with_reducible refine And.intro ?_ ?_;focus first|omega|rfl|assumption|exact⟨_,rfl,rfl⟩|(simp;omega)|(simp;done)))
   ·subst h;simp only[instK,reduceIte,Int.reduceEq] at hq;refine bn rfl (iF hB 2 c7 (1+l) j _ (by rw[aG];exact g _) (by omega)) ?_;simp -implicitDefEqProofs (disch:=omega) only[go_sem,ak,ah];rw[hq]
    first|exact⟨aF rfl,rfl⟩|(refine⟨aF ?_,rfl⟩;simp only[aH.v,List.map_cons,List.map_nil,List.map_append,aM.aj,aN.aj,ay.aj,aC.aj,List.cons_append,List.nil_append];rfl)
   have e0:=h
   with_reducible refine aD (fun hb=> ?_) (fun hb=> ?_)<;>have h:=hb<;>(try simp only[wf_preprocess] at h)<;>simp -implicitDefEqProofs (disch:=omega) only[go_sem,hb,ak,ah]<;>(repeat(with_reducible refine And.intro ?_ ?_;focus first|omega|rfl|assumption|exact⟨_,rfl,rfl⟩|(simp;omega)|(simp;done)))
   ·subst h;simp only[instK,reduceIte,Int.reduceEq] at hq;refine cu [true] rfl (dS hB c7 (1+l) j _ Gm (by rw[aG];exact g _) (by decide) (by decide)) ?_;simp -implicitDefEqProofs (disch:=omega) only[go_sem,ak,ah]
    (repeat(with_reducible refine And.intro ?_ ?_;focus first|omega|rfl|assumption|exact⟨_,rfl,rfl⟩|(simp;omega)|(simp;done)))
    first
    |(refine⟨by cases l<;>rfl,?_⟩
      simp -implicitDefEqProofs (disch:=omega) only[go_sem,ak,ah])
    |skip
    rw[hq]
    first|exact⟨aF rfl,rfl⟩|(refine⟨aF ?_,rfl⟩;simp only[aH.v,List.map_cons,List.map_nil,List.map_append,aM.aj,aN.aj,ay.aj,aC.aj,List.cons_append,List.nil_append];rfl)
   have e1:=h
   with_reducible refine aD (fun hb=> ?_) (fun hb=> ?_)<;>have h:=hb<;>(try simp only[wf_preprocess] at h)<;>simp -implicitDefEqProofs (disch:=omega) only[go_sem,hb,ak,ah]<;>(repeat(with_reducible refine And.intro ?_ ?_;focus first|omega|rfl|assumption|exact⟨_,rfl,rfl⟩|(simp;omega)|(simp;done)))
   ·subst h;simp only[instK,reduceIte,Int.reduceEq] at hq;refine bn rfl (iF hB 1 c7 (1+l) j _ (by rw[aG];exact g _) (by omega)) ?_;simp -implicitDefEqProofs (disch:=omega) only[go_sem,ak,ah]
    (repeat(with_reducible refine And.intro ?_ ?_;focus first|omega|rfl|assumption|exact⟨_,rfl,rfl⟩|(simp;omega)|(simp;done)))
    first
    |(refine⟨by cases l<;>rfl,?_⟩
      simp -implicitDefEqProofs (disch:=omega) only[go_sem,ak,ah])
    |skip
    rw[hq]
    first|exact⟨aF rfl,rfl⟩|(refine⟨aF ?_,rfl⟩;simp only[aH.v,List.map_cons,List.map_nil,List.map_append,aM.aj,aN.aj,ay.aj,aC.aj,List.cons_append,List.nil_append];rfl)
   have e2:=h
   with_reducible refine aD (fun hb=> ?_) (fun hb=> ?_)<;>have h:=hb<;>(try simp only[wf_preprocess] at h)<;>simp -implicitDefEqProofs (disch:=omega) only[go_sem,hb,ak,ah]<;>(repeat(with_reducible refine And.intro ?_ ?_;focus first|omega|rfl|assumption|exact⟨_,rfl,rfl⟩|(simp;omega)|(simp;done)))
   ·exact absurd h hk3
   with_reducible refine aD (fun hb=> ?_) (fun hb=> ?_)<;>have h:=hb<;>(try simp only[wf_preprocess] at h)<;>simp -implicitDefEqProofs (disch:=omega) only[go_sem,hb,ak,ah]<;>(repeat(with_reducible refine And.intro ?_ ?_;focus first|omega|rfl|assumption|exact⟨_,rfl,rfl⟩|(simp;omega)|(simp;done)))
   ·subst h;simp only[instK,reduceIte,Int.reduceEq] at hq;refine aB jA ?_;simp -implicitDefEqProofs (disch:=omega) only[go_sem,ak,ah];rw[hq]
    first|exact⟨aF rfl,rfl⟩|(refine⟨aF ?_,rfl⟩;simp only[aH.v,List.map_cons,List.map_nil,List.map_append,aM.aj,aN.aj,ay.aj,aC.aj,List.cons_append,List.nil_append];rfl)
   have e4:=h
   with_reducible refine aD (fun hb=> ?_) (fun hb=> ?_)<;>have h:=hb<;>(try simp only[wf_preprocess] at h)<;>simp -implicitDefEqProofs (disch:=omega) only[go_sem,hb,ak,ah]<;>(repeat(with_reducible refine And.intro ?_ ?_;focus first|omega|rfl|assumption|exact⟨_,rfl,rfl⟩|(simp;omega)|(simp;done)))
   ·exact absurd h hk5
   simp only[instK,if_neg e0,if_neg e1,if_neg e2,if_neg hk3,if_neg e4,if_neg hk5] at hq;rw[hq]
   first|exact⟨aF rfl,rfl⟩|(refine⟨aF ?_,rfl⟩;simp only[aH.v,List.map_cons,List.map_nil,List.map_append,aM.aj,aN.aj,ay.aj,aC.aj,List.cons_append,List.nil_append];rfl)
  |false=>
   obtain⟨rfl,rfl⟩:zT=a/\c4=c5:=by
    have e5:(zT,c4)=(a,c5):=h5;cases e5;exact⟨rfl,rfl⟩
   simp -implicitDefEqProofs (disch:=omega) only[go_sem,ak,ah];refine bn rfl (q6 _) ?_;simp -implicitDefEqProofs (disch:=omega) only[go_sem,ak,ah];refine bn rfl (q7 _) ?_;simp -implicitDefEqProofs (disch:=omega) only[go_sem,ak,ah]
   with_reducible refine aD (fun hb=> ?_) (fun hb=> ?_)<;>have h:=hb<;>(try simp only[wf_preprocess] at h)<;>simp -implicitDefEqProofs (disch:=omega) only[go_sem,hb,ak,ah]<;>(repeat(with_reducible refine And.intro ?_ ?_;focus first|omega|rfl|assumption|exact⟨_,rfl,rfl⟩|(simp;omega)|(simp;done)))
   ·subst h;simp only[instK,reduceIte,Int.reduceEq] at hq;refine bn rfl (iF hB 2 c7 (1+l) j _ (by rw[aG];exact g _) (by omega)) ?_;simp -implicitDefEqProofs (disch:=omega) only[go_sem,ak,ah];rw[hq]
    first|exact⟨aF rfl,rfl⟩|(refine⟨aF ?_,rfl⟩;simp only[aH.v,List.map_cons,List.map_nil,List.map_append,aM.aj,aN.aj,ay.aj,aC.aj,List.cons_append,List.nil_append];rfl)
   have e0:=h
   with_reducible refine aD (fun hb=> ?_) (fun hb=> ?_)<;>have h:=hb<;>(try simp only[wf_preprocess] at h)<;>simp -implicitDefEqProofs (disch:=omega) only[go_sem,hb,ak,ah]<;>(repeat(with_reducible refine And.intro ?_ ?_;focus first|omega|rfl|assumption|exact⟨_,rfl,rfl⟩|(simp;omega)|(simp;done)))
   ·subst h;simp only[instK,reduceIte,Int.reduceEq] at hq;refine cu [true] rfl (dS hB c7 (1+l) j _ Gm (by rw[aG];exact g _) (by decide) (by decide)) ?_;simp -implicitDefEqProofs (disch:=omega) only[go_sem,ak,ah]
    (repeat(with_reducible refine And.intro ?_ ?_;focus first|omega|rfl|assumption|exact⟨_,rfl,rfl⟩|(simp;omega)|(simp;done)))
    first
    |(refine⟨by cases l<;>rfl,?_⟩
      simp -implicitDefEqProofs (disch:=omega) only[go_sem,ak,ah])
    |skip
    rw[hq]
    first|exact⟨aF rfl,rfl⟩|(refine⟨aF ?_,rfl⟩;simp only[aH.v,List.map_cons,List.map_nil,List.map_append,aM.aj,aN.aj,ay.aj,aC.aj,List.cons_append,List.nil_append];rfl)
   have e1:=h
   with_reducible refine aD (fun hb=> ?_) (fun hb=> ?_)<;>have h:=hb<;>(try simp only[wf_preprocess] at h)<;>simp -implicitDefEqProofs (disch:=omega) only[go_sem,hb,ak,ah]<;>(repeat(with_reducible refine And.intro ?_ ?_;focus first|omega|rfl|assumption|exact⟨_,rfl,rfl⟩|(simp;omega)|(simp;done)))
   ·subst h;simp only[instK,reduceIte,Int.reduceEq] at hq;refine bn rfl (iF hB 1 c7 (1+l) j _ (by rw[aG];exact g _) (by omega)) ?_;simp -implicitDefEqProofs (disch:=omega) only[go_sem,ak,ah]
    (repeat(with_reducible refine And.intro ?_ ?_;focus first|omega|rfl|assumption|exact⟨_,rfl,rfl⟩|(simp;omega)|(simp;done)))
    first
    |(refine⟨by cases l<;>rfl,?_⟩
      simp -implicitDefEqProofs (disch:=omega) only[go_sem,ak,ah])
    |skip
    rw[hq]
    first|exact⟨aF rfl,rfl⟩|(refine⟨aF ?_,rfl⟩;simp only[aH.v,List.map_cons,List.map_nil,List.map_append,aM.aj,aN.aj,ay.aj,aC.aj,List.cons_append,List.nil_append];rfl)
   have e2:=h
   with_reducible refine aD (fun hb=> ?_) (fun hb=> ?_)<;>have h:=hb<;>(try simp only[wf_preprocess] at h)<;>simp -implicitDefEqProofs (disch:=omega) only[go_sem,hb,ak,ah]<;>(repeat(with_reducible refine And.intro ?_ ?_;focus first|omega|rfl|assumption|exact⟨_,rfl,rfl⟩|(simp;omega)|(simp;done)))
   ·exact absurd h hk3
   with_reducible refine aD (fun hb=> ?_) (fun hb=> ?_)<;>have h:=hb<;>(try simp only[wf_preprocess] at h)<;>simp -implicitDefEqProofs (disch:=omega) only[go_sem,hb,ak,ah]<;>(repeat(with_reducible refine And.intro ?_ ?_;focus first|omega|rfl|assumption|exact⟨_,rfl,rfl⟩|(simp;omega)|(simp;done)))
   ·subst h;simp only[instK,reduceIte,Int.reduceEq] at hq;refine aB jA ?_;simp -implicitDefEqProofs (disch:=omega) only[go_sem,ak,ah];rw[hq]
    first|exact⟨aF rfl,rfl⟩|(refine⟨aF ?_,rfl⟩;simp only[aH.v,List.map_cons,List.map_nil,List.map_append,aM.aj,aN.aj,ay.aj,aC.aj,List.cons_append,List.nil_append];rfl)
   have e4:=h
   with_reducible refine aD (fun hb=> ?_) (fun hb=> ?_)<;>have h:=hb<;>(try simp only[wf_preprocess] at h)<;>simp -implicitDefEqProofs (disch:=omega) only[go_sem,hb,ak,ah]<;>(repeat(with_reducible refine And.intro ?_ ?_;focus first|omega|rfl|assumption|exact⟨_,rfl,rfl⟩|(simp;omega)|(simp;done)))
   ·exact absurd h hk5
   simp only[instK,if_neg e0,if_neg e1,if_neg e2,if_neg hk3,if_neg e4,if_neg hk5] at hq;rw[hq]
   first|exact⟨aF rfl,rfl⟩|(refine⟨aF ?_,rfl⟩;simp only[aH.v,List.map_cons,List.map_nil,List.map_append,aM.aj,aN.aj,ay.aj,aC.aj,List.cons_append,List.nil_append];rfl)
 ·simp -implicitDefEqProofs (disch:=omega) only[go_sem,ak,ah];refine aB (fQ _) ?_;simp -implicitDefEqProofs (disch:=omega) only[go_sem];refine aB (fQ _) ?_;simp -implicitDefEqProofs (disch:=omega) only[go_sem]
  (repeat(with_reducible refine And.intro ?_ ?_;focus first|omega|rfl|assumption|exact⟨_,rfl,rfl⟩|(simp;omega)|(simp;done)))
  refine aB (vk [112,97,105,114] [nJ [97],nJ [98]] rfl (by decide) (.inl rfl)) ?_;simp -implicitDefEqProofs (disch:=omega) only[go_sem,ak,ah];refine bn rfl (q4 _) ?_
  cases o with
  |true=>
   have e5:kH (kU _) 1 c4=(a,c5):=h5;rw[e5] at q5;simp only[ak,ah] at q5;simp -implicitDefEqProofs (disch:=omega) only[go_sem,ak,ah];refine cu [true] rfl (q5 _) ?_;simp -implicitDefEqProofs (disch:=omega) only[go_sem,ak,ah];refine bn rfl (q6 _) ?_;simp -implicitDefEqProofs (disch:=omega) only[go_sem,ak,ah];refine bn rfl (q7 _) ?_;simp -implicitDefEqProofs (disch:=omega) only[go_sem,ak,ah]
   with_reducible refine aD (fun hb=> ?_) (fun hb=> ?_)<;>have h:=hb<;>(try simp only[wf_preprocess] at h)<;>simp -implicitDefEqProofs (disch:=omega) only[go_sem,hb,ak,ah]<;>(repeat(with_reducible refine And.intro ?_ ?_;focus first|omega|rfl|assumption|exact⟨_,rfl,rfl⟩|(simp;omega)|(simp;done)))
   ·subst h;simp only[instK,reduceIte,Int.reduceEq] at hq;refine bn rfl (iF hB 2 c7 (1+l) j _ (by rw[aG];exact g _) (by omega)) ?_;simp -implicitDefEqProofs (disch:=omega) only[go_sem,ak,ah];rw[hq]
    first|exact⟨aF rfl,rfl⟩|(refine⟨aF ?_,rfl⟩;simp only[aH.v,List.map_cons,List.map_nil,List.map_append,aM.aj,aN.aj,ay.aj,aC.aj,List.cons_append,List.nil_append];rfl)
   have e0:=h
   with_reducible refine aD (fun hb=> ?_) (fun hb=> ?_)<;>have h:=hb<;>(try simp only[wf_preprocess] at h)<;>simp -implicitDefEqProofs (disch:=omega) only[go_sem,hb,ak,ah]<;>(repeat(with_reducible refine And.intro ?_ ?_;focus first|omega|rfl|assumption|exact⟨_,rfl,rfl⟩|(simp;omega)|(simp;done)))
   ·subst h;simp only[instK,reduceIte,Int.reduceEq] at hq;refine cu [true] rfl (dS hB c7 (1+l) j _ Gm (by rw[aG];exact g _) (by decide) (by decide)) ?_;simp -implicitDefEqProofs (disch:=omega) only[go_sem,ak,ah]
    (repeat(with_reducible refine And.intro ?_ ?_;focus first|omega|rfl|assumption|exact⟨_,rfl,rfl⟩|(simp;omega)|(simp;done)))
    first
    |(refine⟨by cases l<;>rfl,?_⟩
      simp -implicitDefEqProofs (disch:=omega) only[go_sem,ak,ah])
    |skip
    rw[hq]
    first|exact⟨aF rfl,rfl⟩|(refine⟨aF ?_,rfl⟩;simp only[aH.v,List.map_cons,List.map_nil,List.map_append,aM.aj,aN.aj,ay.aj,aC.aj,List.cons_append,List.nil_append];rfl)
   have e1:=h
   with_reducible refine aD (fun hb=> ?_) (fun hb=> ?_)<;>have h:=hb<;>(try simp only[wf_preprocess] at h)<;>simp -implicitDefEqProofs (disch:=omega) only[go_sem,hb,ak,ah]<;>(repeat(with_reducible refine And.intro ?_ ?_;focus first|omega|rfl|assumption|exact⟨_,rfl,rfl⟩|(simp;omega)|(simp;done)))
   ·subst h;simp only[instK,reduceIte,Int.reduceEq] at hq;refine bn rfl (iF hB 1 c7 (1+l) j _ (by rw[aG];exact g _) (by omega)) ?_;simp -implicitDefEqProofs (disch:=omega) only[go_sem,ak,ah]
    (repeat(with_reducible refine And.intro ?_ ?_;focus first|omega|rfl|assumption|exact⟨_,rfl,rfl⟩|(simp;omega)|(simp;done)))
    first
    |(refine⟨by cases l<;>rfl,?_⟩
      simp -implicitDefEqProofs (disch:=omega) only[go_sem,ak,ah])
    |skip
    rw[hq]
    first|exact⟨aF rfl,rfl⟩|(refine⟨aF ?_,rfl⟩;simp only[aH.v,List.map_cons,List.map_nil,List.map_append,aM.aj,aN.aj,ay.aj,aC.aj,List.cons_append,List.nil_append];rfl)
   have e2:=h
   with_reducible refine aD (fun hb=> ?_) (fun hb=> ?_)<;>have h:=hb<;>(try simp only[wf_preprocess] at h)<;>simp -implicitDefEqProofs (disch:=omega) only[go_sem,hb,ak,ah]<;>(repeat(with_reducible refine And.intro ?_ ?_;focus first|omega|rfl|assumption|exact⟨_,rfl,rfl⟩|(simp;omega)|(simp;done)))
   ·exact absurd h hk3
   with_reducible refine aD (fun hb=> ?_) (fun hb=> ?_)<;>have h:=hb<;>(try simp only[wf_preprocess] at h)<;>simp -implicitDefEqProofs (disch:=omega) only[go_sem,hb,ak,ah]<;>(repeat(with_reducible refine And.intro ?_ ?_;focus first|omega|rfl|assumption|exact⟨_,rfl,rfl⟩|(simp;omega)|(simp;done)))
   ·subst h;simp only[instK,reduceIte,Int.reduceEq] at hq;refine aB jA ?_;simp -implicitDefEqProofs (disch:=omega) only[go_sem,ak,ah];rw[hq]
    first|exact⟨aF rfl,rfl⟩|(refine⟨aF ?_,rfl⟩;simp only[aH.v,List.map_cons,List.map_nil,List.map_append,aM.aj,aN.aj,ay.aj,aC.aj,List.cons_append,List.nil_append];rfl)
   have e4:=h
   with_reducible refine aD (fun hb=> ?_) (fun hb=> ?_)<;>have h:=hb<;>(try simp only[wf_preprocess] at h)<;>simp -implicitDefEqProofs (disch:=omega) only[go_sem,hb,ak,ah]<;>(repeat(with_reducible refine And.intro ?_ ?_;focus first|omega|rfl|assumption|exact⟨_,rfl,rfl⟩|(simp;omega)|(simp;done)))
   ·exact absurd h hk5
   simp only[instK,if_neg e0,if_neg e1,if_neg e2,if_neg hk3,if_neg e4,if_neg hk5] at hq;rw[hq]
   first|exact⟨aF rfl,rfl⟩|(refine⟨aF ?_,rfl⟩;simp only[aH.v,List.map_cons,List.map_nil,List.map_append,aM.aj,aN.aj,ay.aj,aC.aj,List.cons_append,List.nil_append];rfl)
  |false=>
   obtain⟨rfl,rfl⟩:zT=a/\c4=c5:=by
    have e5:(zT,c4)=(a,c5):=h5;cases e5;exact⟨rfl,rfl⟩
   simp -implicitDefEqProofs (disch:=omega) only[go_sem,ak,ah];refine bn rfl (q6 _) ?_;simp -implicitDefEqProofs (disch:=omega) only[go_sem,ak,ah];refine bn rfl (q7 _) ?_;simp -implicitDefEqProofs (disch:=omega) only[go_sem,ak,ah]
   with_reducible refine aD (fun hb=> ?_) (fun hb=> ?_)<;>have h:=hb<;>(try simp only[wf_preprocess] at h)<;>simp -implicitDefEqProofs (disch:=omega) only[go_sem,hb,ak,ah]<;>(repeat(with_reducible refine And.intro ?_ ?_;focus first|omega|rfl|assumption|exact⟨_,rfl,rfl⟩|(simp;omega)|(simp;done)))
   ·subst h;simp only[instK,reduceIte,Int.reduceEq] at hq;refine bn rfl (iF hB 2 c7 (1+l) j _ (by rw[aG];exact g _) (by omega)) ?_;simp -implicitDefEqProofs (disch:=omega) only[go_sem,ak,ah];rw[hq]
    first|exact⟨aF rfl,rfl⟩|(refine⟨aF ?_,rfl⟩;simp only[aH.v,List.map_cons,List.map_nil,List.map_append,aM.aj,aN.aj,ay.aj,aC.aj,List.cons_append,List.nil_append];rfl)
   have e0:=h
   with_reducible refine aD (fun hb=> ?_) (fun hb=> ?_)<;>have h:=hb<;>(try simp only[wf_preprocess] at h)<;>simp -implicitDefEqProofs (disch:=omega) only[go_sem,hb,ak,ah]<;>(repeat(with_reducible refine And.intro ?_ ?_;focus first|omega|rfl|assumption|exact⟨_,rfl,rfl⟩|(simp;omega)|(simp;done)))
   ·subst h;simp only[instK,reduceIte,Int.reduceEq] at hq;refine cu [true] rfl (dS hB c7 (1+l) j _ Gm (by rw[aG];exact g _) (by decide) (by decide)) ?_;simp -implicitDefEqProofs (disch:=omega) only[go_sem,ak,ah]
    (repeat(with_reducible refine And.intro ?_ ?_;focus first|omega|rfl|assumption|exact⟨_,rfl,rfl⟩|(simp;omega)|(simp;done)))
    first
    |(refine⟨by cases l<;>rfl,?_⟩
      simp -implicitDefEqProofs (disch:=omega) only[go_sem,ak,ah])
    |skip
    rw[hq]
    first|exact⟨aF rfl,rfl⟩|(refine⟨aF ?_,rfl⟩;simp only[aH.v,List.map_cons,List.map_nil,List.map_append,aM.aj,aN.aj,ay.aj,aC.aj,List.cons_append,List.nil_append];rfl)
   have e1:=h
   with_reducible refine aD (fun hb=> ?_) (fun hb=> ?_)<;>have h:=hb<;>(try simp only[wf_preprocess] at h)<;>simp -implicitDefEqProofs (disch:=omega) only[go_sem,hb,ak,ah]<;>(repeat(with_reducible refine And.intro ?_ ?_;focus first|omega|rfl|assumption|exact⟨_,rfl,rfl⟩|(simp;omega)|(simp;done)))
   ·subst h;simp only[instK,reduceIte,Int.reduceEq] at hq;refine bn rfl (iF hB 1 c7 (1+l) j _ (by rw[aG];exact g _) (by omega)) ?_;simp -implicitDefEqProofs (disch:=omega) only[go_sem,ak,ah]
    (repeat(with_reducible refine And.intro ?_ ?_;focus first|omega|rfl|assumption|exact⟨_,rfl,rfl⟩|(simp;omega)|(simp;done)))
    first
    |(refine⟨by cases l<;>rfl,?_⟩
      simp -implicitDefEqProofs (disch:=omega) only[go_sem,ak,ah])
    |skip
    rw[hq]
    first|exact⟨aF rfl,rfl⟩|(refine⟨aF ?_,rfl⟩;simp only[aH.v,List.map_cons,List.map_nil,List.map_append,aM.aj,aN.aj,ay.aj,aC.aj,List.cons_append,List.nil_append];rfl)
   have e2:=h
   with_reducible refine aD (fun hb=> ?_) (fun hb=> ?_)<;>have h:=hb<;>(try simp only[wf_preprocess] at h)<;>simp -implicitDefEqProofs (disch:=omega) only[go_sem,hb,ak,ah]<;>(repeat(with_reducible refine And.intro ?_ ?_;focus first|omega|rfl|assumption|exact⟨_,rfl,rfl⟩|(simp;omega)|(simp;done)))
   ·exact absurd h hk3
   with_reducible refine aD (fun hb=> ?_) (fun hb=> ?_)<;>have h:=hb<;>(try simp only[wf_preprocess] at h)<;>simp -implicitDefEqProofs (disch:=omega) only[go_sem,hb,ak,ah]<;>(repeat(with_reducible refine And.intro ?_ ?_;focus first|omega|rfl|assumption|exact⟨_,rfl,rfl⟩|(simp;omega)|(simp;done)))
   ·subst h;simp only[instK,reduceIte,Int.reduceEq] at hq;refine aB jA ?_;simp -implicitDefEqProofs (disch:=omega) only[go_sem,ak,ah];rw[hq]
    first|exact⟨aF rfl,rfl⟩|(refine⟨aF ?_,rfl⟩;simp only[aH.v,List.map_cons,List.map_nil,List.map_append,aM.aj,aN.aj,ay.aj,aC.aj,List.cons_append,List.nil_append];rfl)
   have e4:=h
   with_reducible refine aD (fun hb=> ?_) (fun hb=> ?_)<;>have h:=hb<;>(try simp only[wf_preprocess] at h)<;>simp -implicitDefEqProofs (disch:=omega) only[go_sem,hb,ak,ah]<;>(repeat(with_reducible refine And.intro ?_ ?_;focus first|omega|rfl|assumption|exact⟨_,rfl,rfl⟩|(simp;omega)|(simp;done)))
   ·exact absurd h hk5
   simp only[instK,if_neg e0,if_neg e1,if_neg e2,if_neg hk3,if_neg e4,if_neg hk5] at hq;rw[hq]
   first|exact⟨aF rfl,rfl⟩|(refine⟨aF ?_,rfl⟩;simp only[aH.v,List.map_cons,List.map_nil,List.map_append,aM.aj,aN.aj,ay.aj,aC.aj,List.cons_append,List.nil_append];rfl)
 ·simp -implicitDefEqProofs (disch:=omega) only[go_sem,ak,ah];refine aB (fQ _) ?_;simp -implicitDefEqProofs (disch:=omega) only[go_sem];refine aB (fQ _) ?_;simp -implicitDefEqProofs (disch:=omega) only[go_sem]
  (repeat(with_reducible refine And.intro ?_ ?_;focus first|omega|rfl|assumption|exact⟨_,rfl,rfl⟩|(simp;omega)|(simp;done)))
  refine bn rfl (q4 _) ?_
  cases o with
  |true=>
   have e5:kH (kU _) 1 c4=(a,c5):=h5;rw[e5] at q5;simp only[ak,ah] at q5;simp -implicitDefEqProofs (disch:=omega) only[go_sem,ak,ah];refine cu [true] rfl (q5 _) ?_;simp -implicitDefEqProofs (disch:=omega) only[go_sem,ak,ah];refine bn rfl (q6 _) ?_;simp -implicitDefEqProofs (disch:=omega) only[go_sem,ak,ah];refine bn rfl (q7 _) ?_;simp -implicitDefEqProofs (disch:=omega) only[go_sem,ak,ah]
   with_reducible refine aD (fun hb=> ?_) (fun hb=> ?_)<;>have h:=hb<;>(try simp only[wf_preprocess] at h)<;>simp -implicitDefEqProofs (disch:=omega) only[go_sem,hb,ak,ah]<;>(repeat(with_reducible refine And.intro ?_ ?_;focus first|omega|rfl|assumption|exact⟨_,rfl,rfl⟩|(simp;omega)|(simp;done)))
   ·subst h;simp only[instK,reduceIte,Int.reduceEq] at hq;refine bn rfl (iF hB 2 c7 (1+l) j _ (by rw[aG];exact g _) (by omega)) ?_;simp -implicitDefEqProofs (disch:=omega) only[go_sem,ak,ah];rw[hq]
    first|exact⟨aF rfl,rfl⟩|(refine⟨aF ?_,rfl⟩;simp only[aH.v,List.map_cons,List.map_nil,List.map_append,aM.aj,aN.aj,ay.aj,aC.aj,List.cons_append,List.nil_append];rfl)
   have e0:=h
   with_reducible refine aD (fun hb=> ?_) (fun hb=> ?_)<;>have h:=hb<;>(try simp only[wf_preprocess] at h)<;>simp -implicitDefEqProofs (disch:=omega) only[go_sem,hb,ak,ah]<;>(repeat(with_reducible refine And.intro ?_ ?_;focus first|omega|rfl|assumption|exact⟨_,rfl,rfl⟩|(simp;omega)|(simp;done)))
   ·subst h;simp only[instK,reduceIte,Int.reduceEq] at hq;refine cu [true] rfl (dS hB c7 (1+l) j _ Gm (by rw[aG];exact g _) (by decide) (by decide)) ?_;simp -implicitDefEqProofs (disch:=omega) only[go_sem,ak,ah]
    (repeat(with_reducible refine And.intro ?_ ?_;focus first|omega|rfl|assumption|exact⟨_,rfl,rfl⟩|(simp;omega)|(simp;done)))
    first
    |(refine⟨by cases l<;>rfl,?_⟩
      simp -implicitDefEqProofs (disch:=omega) only[go_sem,ak,ah])
    |skip
    rw[hq]
    first|exact⟨aF rfl,rfl⟩|(refine⟨aF ?_,rfl⟩;simp only[aH.v,List.map_cons,List.map_nil,List.map_append,aM.aj,aN.aj,ay.aj,aC.aj,List.cons_append,List.nil_append];rfl)
   have e1:=h
   with_reducible refine aD (fun hb=> ?_) (fun hb=> ?_)<;>have h:=hb<;>(try simp only[wf_preprocess] at h)<;>simp -implicitDefEqProofs (disch:=omega) only[go_sem,hb,ak,ah]<;>(repeat(with_reducible refine And.intro ?_ ?_;focus first|omega|rfl|assumption|exact⟨_,rfl,rfl⟩|(simp;omega)|(simp;done)))
   ·subst h;simp only[instK,reduceIte,Int.reduceEq] at hq;refine bn rfl (iF hB 1 c7 (1+l) j _ (by rw[aG];exact g _) (by omega)) ?_;simp -implicitDefEqProofs (disch:=omega) only[go_sem,ak,ah]
    (repeat(with_reducible refine And.intro ?_ ?_;focus first|omega|rfl|assumption|exact⟨_,rfl,rfl⟩|(simp;omega)|(simp;done)))
    first
    |(refine⟨by cases l<;>rfl,?_⟩
      simp -implicitDefEqProofs (disch:=omega) only[go_sem,ak,ah])
    |skip
    rw[hq]
    first|exact⟨aF rfl,rfl⟩|(refine⟨aF ?_,rfl⟩;simp only[aH.v,List.map_cons,List.map_nil,List.map_append,aM.aj,aN.aj,ay.aj,aC.aj,List.cons_append,List.nil_append];rfl)
   have e2:=h
   with_reducible refine aD (fun hb=> ?_) (fun hb=> ?_)<;>have h:=hb<;>(try simp only[wf_preprocess] at h)<;>simp -implicitDefEqProofs (disch:=omega) only[go_sem,hb,ak,ah]<;>(repeat(with_reducible refine And.intro ?_ ?_;focus first|omega|rfl|assumption|exact⟨_,rfl,rfl⟩|(simp;omega)|(simp;done)))
   ·exact absurd h hk3
   with_reducible refine aD (fun hb=> ?_) (fun hb=> ?_)<;>have h:=hb<;>(try simp only[wf_preprocess] at h)<;>simp -implicitDefEqProofs (disch:=omega) only[go_sem,hb,ak,ah]<;>(repeat(with_reducible refine And.intro ?_ ?_;focus first|omega|rfl|assumption|exact⟨_,rfl,rfl⟩|(simp;omega)|(simp;done)))
   ·subst h;simp only[instK,reduceIte,Int.reduceEq] at hq;refine aB jA ?_;simp -implicitDefEqProofs (disch:=omega) only[go_sem,ak,ah];rw[hq]
    first|exact⟨aF rfl,rfl⟩|(refine⟨aF ?_,rfl⟩;simp only[aH.v,List.map_cons,List.map_nil,List.map_append,aM.aj,aN.aj,ay.aj,aC.aj,List.cons_append,List.nil_append];rfl)
   have e4:=h
   with_reducible refine aD (fun hb=> ?_) (fun hb=> ?_)<;>have h:=hb<;>(try simp only[wf_preprocess] at h)<;>simp -implicitDefEqProofs (disch:=omega) only[go_sem,hb,ak,ah]<;>(repeat(with_reducible refine And.intro ?_ ?_;focus first|omega|rfl|assumption|exact⟨_,rfl,rfl⟩|(simp;omega)|(simp;done)))
   ·exact absurd h hk5
   simp only[instK,if_neg e0,if_neg e1,if_neg e2,if_neg hk3,if_neg e4,if_neg hk5] at hq;rw[hq]
   first|exact⟨aF rfl,rfl⟩|(refine⟨aF ?_,rfl⟩;simp only[aH.v,List.map_cons,List.map_nil,List.map_append,aM.aj,aN.aj,ay.aj,aC.aj,List.cons_append,List.nil_append];rfl)
  |false=>
   obtain⟨rfl,rfl⟩:zT=a/\c4=c5:=by
    have e5:(zT,c4)=(a,c5):=h5;cases e5;exact⟨rfl,rfl⟩
   simp -implicitDefEqProofs (disch:=omega) only[go_sem,ak,ah];refine bn rfl (q6 _) ?_;simp -implicitDefEqProofs (disch:=omega) only[go_sem,ak,ah];refine bn rfl (q7 _) ?_;simp -implicitDefEqProofs (disch:=omega) only[go_sem,ak,ah]
   with_reducible refine aD (fun hb=> ?_) (fun hb=> ?_)<;>have h:=hb<;>(try simp only[wf_preprocess] at h)<;>simp -implicitDefEqProofs (disch:=omega) only[go_sem,hb,ak,ah]<;>(repeat(with_reducible refine And.intro ?_ ?_;focus first|omega|rfl|assumption|exact⟨_,rfl,rfl⟩|(simp;omega)|(simp;done)))
   ·subst h;simp only[instK,reduceIte,Int.reduceEq] at hq;refine bn rfl (iF hB 2 c7 (1+l) j _ (by rw[aG];exact g _) (by omega)) ?_;simp -implicitDefEqProofs (disch:=omega) only[go_sem,ak,ah];rw[hq]
    first|exact⟨aF rfl,rfl⟩|(refine⟨aF ?_,rfl⟩;simp only[aH.v,List.map_cons,List.map_nil,List.map_append,aM.aj,aN.aj,ay.aj,aC.aj,List.cons_append,List.nil_append];rfl)
   have e0:=h
   with_reducible refine aD (fun hb=> ?_) (fun hb=> ?_)<;>have h:=hb<;>(try simp only[wf_preprocess] at h)<;>simp -implicitDefEqProofs (disch:=omega) only[go_sem,hb,ak,ah]<;>(repeat(with_reducible refine And.intro ?_ ?_;focus first|omega|rfl|assumption|exact⟨_,rfl,rfl⟩|(simp;omega)|(simp;done)))
   ·subst h;simp only[instK,reduceIte,Int.reduceEq] at hq;refine cu [true] rfl (dS hB c7 (1+l) j _ Gm (by rw[aG];exact g _) (by decide) (by decide)) ?_;simp -implicitDefEqProofs (disch:=omega) only[go_sem,ak,ah]
    (repeat(with_reducible refine And.intro ?_ ?_;focus first|omega|rfl|assumption|exact⟨_,rfl,rfl⟩|(simp;omega)|(simp;done)))
    first
    |(refine⟨by cases l<;>rfl,?_⟩
      simp -implicitDefEqProofs (disch:=omega) only[go_sem,ak,ah])
    |skip
    rw[hq]
    first|exact⟨aF rfl,rfl⟩|(refine⟨aF ?_,rfl⟩;simp only[aH.v,List.map_cons,List.map_nil,List.map_append,aM.aj,aN.aj,ay.aj,aC.aj,List.cons_append,List.nil_append];rfl)
   have e1:=h
   with_reducible refine aD (fun hb=> ?_) (fun hb=> ?_)<;>have h:=hb<;>(try simp only[wf_preprocess] at h)<;>simp -implicitDefEqProofs (disch:=omega) only[go_sem,hb,ak,ah]<;>(repeat(with_reducible refine And.intro ?_ ?_;focus first|omega|rfl|assumption|exact⟨_,rfl,rfl⟩|(simp;omega)|(simp;done)))
   ·subst h;simp only[instK,reduceIte,Int.reduceEq] at hq;refine bn rfl (iF hB 1 c7 (1+l) j _ (by rw[aG];exact g _) (by omega)) ?_;simp -implicitDefEqProofs (disch:=omega) only[go_sem,ak,ah]
    (repeat(with_reducible refine And.intro ?_ ?_;focus first|omega|rfl|assumption|exact⟨_,rfl,rfl⟩|(simp;omega)|(simp;done)))
    first
    |(refine⟨by cases l<;>rfl,?_⟩
      simp -implicitDefEqProofs (disch:=omega) only[go_sem,ak,ah])
    |skip
    rw[hq]
    first|exact⟨aF rfl,rfl⟩|(refine⟨aF ?_,rfl⟩;simp only[aH.v,List.map_cons,List.map_nil,List.map_append,aM.aj,aN.aj,ay.aj,aC.aj,List.cons_append,List.nil_append];rfl)
   have e2:=h
   with_reducible refine aD (fun hb=> ?_) (fun hb=> ?_)<;>have h:=hb<;>(try simp only[wf_preprocess] at h)<;>simp -implicitDefEqProofs (disch:=omega) only[go_sem,hb,ak,ah]<;>(repeat(with_reducible refine And.intro ?_ ?_;focus first|omega|rfl|assumption|exact⟨_,rfl,rfl⟩|(simp;omega)|(simp;done)))
   ·exact absurd h hk3
   with_reducible refine aD (fun hb=> ?_) (fun hb=> ?_)<;>have h:=hb<;>(try simp only[wf_preprocess] at h)<;>simp -implicitDefEqProofs (disch:=omega) only[go_sem,hb,ak,ah]<;>(repeat(with_reducible refine And.intro ?_ ?_;focus first|omega|rfl|assumption|exact⟨_,rfl,rfl⟩|(simp;omega)|(simp;done)))
   ·subst h;simp only[instK,reduceIte,Int.reduceEq] at hq;refine aB jA ?_;simp -implicitDefEqProofs (disch:=omega) only[go_sem,ak,ah];rw[hq]
    first|exact⟨aF rfl,rfl⟩|(refine⟨aF ?_,rfl⟩;simp only[aH.v,List.map_cons,List.map_nil,List.map_append,aM.aj,aN.aj,ay.aj,aC.aj,List.cons_append,List.nil_append];rfl)
   have e4:=h
   with_reducible refine aD (fun hb=> ?_) (fun hb=> ?_)<;>have h:=hb<;>(try simp only[wf_preprocess] at h)<;>simp -implicitDefEqProofs (disch:=omega) only[go_sem,hb,ak,ah]<;>(repeat(with_reducible refine And.intro ?_ ?_;focus first|omega|rfl|assumption|exact⟨_,rfl,rfl⟩|(simp;omega)|(simp;done)))
   ·exact absurd h hk5
   simp only[instK,if_neg e0,if_neg e1,if_neg e2,if_neg hk3,if_neg e4,if_neg hk5] at hq;rw[hq]
   first|exact⟨aF rfl,rfl⟩|(refine⟨aF ?_,rfl⟩;simp only[aH.v,List.map_cons,List.map_nil,List.map_append,aM.aj,aN.aj,ay.aj,aC.aj,List.cons_append,List.nil_append];rfl)
theorem XI{bs:List Int}(hB:Bytes bs)(c:Cu bs)(l j:Nat)(S:Store)(hk:bg S (l,j)=some (.box (cur c))):
 cB prog 103 [.c (.ptr (l,j) 0)] S (fun r S1=>r=(instX c).1.v/\S1=aX S (l,j) (.box (cur (instX c).2))):=by
 have hh:=iC (n:=4) (aT 9 (bP lD c).2).2 (by omega);unfold instX;generalize hh0:(aT 4 (aT 9 (bP lD c).2).2).1=h at hh;generalize hc0:(aT 4 (aT 9 (bP lD c).2).2).2=c3;unfold instG;generalize hc1:(yV h (bW 3 c3).1 (bW 3 c3).2).2=c5;unfold instH;by_cases h35:(aT 12 (bW 4 c5).2).1=3\/(aT 12 (bW 4 c5).2).1=5
 ·exact aaE hB c _ _ c3 _ c5 _ _ _ _ h _ _ _ _ l j S hk rfl rfl (Prod.ext hh0 hc0) rfl (Prod.ext rfl hc1) rfl rfl (by omega) h35
 ·exact aaF hB c _ _ c3 _ c5 _ _ _ _ h _ _ _ _ l j S hk rfl rfl (Prod.ext hh0 hc0) rfl (Prod.ext rfl hc1) rfl rfl (by omega) (fun e=>h35 (.inl e)) (fun e=>h35 (.inr e))
end Go.Ab