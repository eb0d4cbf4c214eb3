/-
  SEVERAL TEXTS IN ONE (merged by program): contracts and models, each with its own heading.
-/
import Derived.Test.YtnceiannponbjaaGreatDoorPartDlbS
import Derived.Test.YtnceiannponbjaaGreatDoorPartDlbT
set_option maxHeartbeats 8000000
open Go.Proofs Go.Proofs.Tryz
set_option linter.unusedSimpArgs false
set_option linter.unusedVariables false
set_option maxRecDepth 8000
namespace Go.Ab
def FH:List (List UInt8):=[[97],[99]]
theorem ada:fD FH:=by unfold fD;decide
theorem KQ(s:List UInt8)(v:List (List UInt8))(b:aC):bL (aN.mk s v b).enc=s.length+(v.length+bB (v.map encS))+b.sz:=by
 simp only[aN.aB,bL,bZ,D.sz,List.length_map,aC.dz];omega
theorem inst_mk_sz(t:List UInt8)(v:List (List UInt8))(h:au)(w:List aM)(d e:Bool)(a:au)(m:List aN):(aH.mk t v h w d e a m).sz=t.length+(v.length+bB (v.map encS))+h.sz+(w.length+bB (w.map aM.enc))+a.sz+(m.length+bB (m.map aN.enc)):=by
 simp only[aH.sz,aH.aB,bL,bZ,D.sz,List.length_map,au.dz];omega
def kS(h:Int):List (List UInt8):=if h=0 then [] else if h=1 then [[97]] else if h=2 then [[97],[98]] else [[97]]
def xQ(h:Int):au:=if h=0 then Qf else if h=1 then rP [108,105,115,116] [tV [97]] else if h=2 then rP [112,97,105,114] [tV [97],tV [98]] else tV [97]
def headW(h:Int)(s:List UInt8):List aM:=if h=0 then [] else if h=1 then [⟨s,tV [97]⟩] else if h=2 then [] else [⟨[111,114,100],tV [97]⟩]
def DV(n:Int):aN:=⟨[109],[[120]],o9 n⟩
def instK{bs:List Int}(s:List UInt8)(n:Int)(v:List (List UInt8))(t:au)(w:List aM)(o:Bool)(a:au)(d:Bool)(k:Int)(c:Cu bs):aH×Cu bs:=
 if k=0 then(⟨s,v,(vX 2 c).1,w,d,o,a,[DV n]⟩,(vX 2 c).2) else
 if k=1 then(⟨s,v++[(cO FH c).1],t,w,d,o,a,[DV n]⟩,(cO FH c).2) else
 if k=2 then(⟨s,v,t,w++[⟨[101,113],(vX 1 c).1⟩],d,o,a,[DV n]⟩,(vX 1 c).2) else
 if k=3 then(⟨s,v,t,w,d,o,a,[⟨[109],[[120]],(gB 2 Ef c).1⟩]⟩,(gB 2 Ef c).2) else
 if k=4 then(⟨s,v,t,w,d,o,Qf,[DV n]⟩,c) else
 if k=5 then(⟨s,v,t,w,d,o,a,[⟨[109],[],o9 n⟩]⟩,c) else
 (⟨s,v,t,w,d,o,a,[DV n]⟩,c)
def yE{bs:List Int}(h:Int)(o:Bool)(c:Cu bs):au×Cu bs:=match o with
 |true=>kr (kS h) 1 c
 |false=>(zT,c)
def instH{bs:List Int}(s:List UInt8)(n h:Int)(o:Bool)(a:au)(c:Cu bs):aH×Cu bs:=
 instK s n (kS h) (xQ h) (headW h s) o a (dI 4 c).1 (bn 12 (dI 4 c).2).1 (bn 12 (dI 4 c).2).2
def instG{bs:List Int}(s:List UInt8)(n h:Int)(c:Cu bs):aH×Cu bs:=
 instH s n h (dI 3 c).1 (yE h (dI 3 c).1 (dI 3 c).2).1 (yE h (dI 3 c).1 (dI 3 c).2).2
def instX{bs:List Int}(c:Cu bs):aH×Cu bs:=
 instG (cO yZ c).1 (bn 9 (cO yZ c).2).1 (bn 4 (bn 9 (cO yZ c).2).2).1 (bn 4 (bn 9 (cO yZ c).2).2).2
theorem DW(h:Int):(kS h).length<=2/\bB ((kS h).map encS)<=2/\fD (kS h):=by
 unfold kS;split
 ·exact⟨by decide,by decide,by unfold fD;decide⟩
 split
 ·exact⟨by decide,by decide,by unfold fD;decide⟩
 split<;>exact⟨by decide,by decide,by unfold fD;decide⟩
theorem adb(h:Int):(xQ h).sz<=20:=by
 unfold xQ;split
 ·rw[Un];omega
 split
 ·simp only[LM,Ae,List.length_cons,List.length_nil];omega
 split
 ·simp only[TV,Ae,List.length_cons,List.length_nil];omega
 ·simp only[Ae,List.length_cons,List.length_nil];omega
theorem ade(h:Int)(s:List UInt8):(headW h s).length<=1/\bB ((headW h s).map aM.enc)<=s.length+4:=by
 unfold headW;split
 ·exact⟨by simp,by simp[bB]⟩
 split
 ·exact⟨by simp,by simp only[List.map_cons,List.map_nil,bB,FD,Ae,List.length_cons,List.length_nil];omega⟩
 split
 ·exact⟨by simp,by simp[bB]⟩
 ·exact⟨by simp,by simp only[List.map_cons,List.map_nil,bB,FD,Ae,List.length_cons,List.length_nil];omega⟩
theorem instX_sz{bs:List Int}(c:Cu bs):(instX c).1.sz<=2000:=by
 unfold instX;have h0:=jK c acU;generalize (cO yZ c).1=s at h0;generalize (bn 9 (cO yZ c).2).1=n;generalize (bn 4 (bn 9 (cO yZ c).2).2).1=h;generalize (bn 4 (bn 9 (cO yZ c).2).2).2=c1;unfold instG
 have ha:(yE h (dI 3 c1).1 (dI 3 c1).2).1.sz<=30:=by
  cases (dI 3 c1).1 with
  |true=>have:=ES (DW h).2.2 1 (dI 3 c1).2;show(kr (kS h) 1 (dI 3 c1).2).1.sz<=30;omega
  |false=>show zT.sz<=30;rw[qH];omega
 generalize (yE h (dI 3 c1).1 (dI 3 c1).2).1=a at ha;generalize (yE h (dI 3 c1).1 (dI 3 c1).2).2=c2;generalize (dI 3 c1).1=o;unfold instH;have h1:=DW h;have h2:=adb h;have h3:=ade h s;generalize kS h=v at h1;generalize xQ h=t at h2;generalize headW h s=w at h3;generalize (dI 4 c2).1=d;generalize (bn 12 (dI 4 c2).2).1=k;generalize (bn 12 (dI 4 c2).2).2=c3;have h4:=Qg 2 c3;have h5:=Qg 1 c3;have h6:=Qi 2 Ef c3 acT;have h7:=jK c3 ada;unfold instK
 iterate 6
  split
  ·simp only[inst_mk_sz,DV,KQ,Um,Un,List.map_cons,List.map_nil,List.map_append,bB,Nb,QY,FD,List.length_cons,List.length_nil,List.length_append];omega
 simp only[inst_mk_sz,DV,KQ,Um,List.map_cons,List.map_nil,bB,QY,List.length_cons,List.length_nil];omega
theorem ZU{bs:List Int}(hB:Bytes bs)(c c1 c2 c3 c4 c5 c6 c7:Cu bs)(s:List UInt8)(n h:Int)(o d:Bool)(a:au)(k:Int)(l j:Nat)(S:Store)(hk:aW S (l,j)=some (.box (cur c)))(h1:cO yZ c=(s,c1))(h2:bn 9 c1=(n,c2))(h3:bn 4 c2=(h,c3))(h4:dI 3 c3=(o,c4))(h5:yE h o c4=(a,c5))(h6:dI 4 c5=(d,c6))(h7:bn 12 c6=(k,c7))(hh:h=0\/h=1\/h=2\/h=3)(FI:k=3\/k=5):
 bJ prog 79 [.c (.ptr (l,j) 0)] S (fun r S1=>r=(instK s n (kS h) (xQ h) (headW h s) o a d k c7).1.v/\S1=aX S (l,j) (.box (cur (instK s n (kS h) (xQ h) (headW h s) o a d k c7).2))):=by
 have g:∀x:Ab.Obj,aW (aX S (l,j) x) (l,j)=some x:=fun x=>bW _ _ _ _ hk;have q1:=fun fr:List Ab.Obj=>fU hB c (1+l) j (fr::S) yZ (by rw[aV];exact hk) (by decide) (by decide);simp only[h1,ay] at q1;have q2:=fun fr:List Ab.Obj=>dZ hB c1 (1+l) j (fr::aX S (l,j) (.box (cur c1))) 9 (by rw[aV];exact g _) (by omega) (by omega);simp only[h2,ay,ak] at q2;have q3:=fun fr:List Ab.Obj=>dZ hB c2 (1+l) j (fr::aX S (l,j) (.box (cur c2))) 4 (by rw[aV];exact g _) (by omega) (by omega);simp only[h3,ay,ak] at q3;have q4:=fun fr:List Ab.Obj=>oI hB c3 (1+l) j (fr::aX S (l,j) (.box (cur c3))) 3 (by rw[aV];exact g _) (by omega) (by omega);simp only[h4,ay,ak] at q4;have q5:=fun(fr:List Ab.Obj)=>rC (Dr hB (vars:=kS h) (by have:=(DW h).1;omega) 1 c4 (1+l) j (fr::aX S (l,j) (.box (cur c4))) (by rw[aV];exact g _) (by omega));have q6:=fun fr:List Ab.Obj=>oI hB c5 (1+l) j (fr::aX S (l,j) (.box (cur c5))) 4 (by rw[aV];exact g _) (by omega) (by omega);simp only[h6,ay,ak] at q6;have q7:=fun fr:List Ab.Obj=>dZ hB c6 (1+l) j (fr::aX S (l,j) (.box (cur c6))) 12 (by rw[aV];exact g _) (by omega) (by omega);simp only[h7,ay,ak] at q7;obtain⟨q,hq⟩:∃q,q=instK s n (kS h) (xQ h) (headW h s) o a d k c7:=⟨_,rfl⟩;rw[<-hq];refine bJ.of_le ?_;refine Xb [63] (rs:=[.cell 2 56]) zmx func79 ntmps79 rfl rfl rfl rfl rfl ?_;simp -implicitDefEqProofs (disch:=omega) only[go_sem];refine cZ [true] rfl (q1 _) ?_;simp -implicitDefEqProofs (disch:=omega) only[go_sem,ay,ak];refine aT rfl (q2 _) ?_;simp -implicitDefEqProofs (disch:=omega) only[go_sem,ay,ak];refine aA (sD _) ?_;simp -implicitDefEqProofs (disch:=omega) only[go_sem]
 (repeat(with_reducible refine And.intro ?_ ?_;focus first|omega|rfl|assumption|exact⟨_,rfl,rfl⟩|(simp;omega)|(simp;done)))
 refine aT rfl (q3 _) ?_;rcases hh with rfl|rfl|rfl|rfl
 ·simp -implicitDefEqProofs (disch:=omega) only[go_sem,ay,ak];refine aA oZ ?_;simp -implicitDefEqProofs (disch:=omega) only[go_sem,ay,ak];refine aT rfl (q4 _) ?_
  cases o with
  |true=>
   have e5:kr (kS _) 1 c4=(a,c5):=h5;rw[e5] at q5;simp only[ay,ak] at q5;simp -implicitDefEqProofs (disch:=omega) only[go_sem,ay,ak];refine cZ [true] rfl (q5 _) ?_;simp -implicitDefEqProofs (disch:=omega) only[go_sem,ay,ak];refine aT rfl (q6 _) ?_;simp -implicitDefEqProofs (disch:=omega) only[go_sem,ay,ak];refine aT rfl (q7 _) ?_;rcases FI with rfl|rfl
   ·simp only[instK,reduceIte,Int.reduceEq] at hq;simp -implicitDefEqProofs (disch:=omega) only[go_sem,ay,ak];refine cZ [true] rfl (mE (nL hB 2 Ef c7 (1+l) j _ (by decide) (by rw[aV];exact g _))) ?_;simp -implicitDefEqProofs (disch:=omega) only[go_sem,ay,ak]
    (repeat(with_reducible refine And.intro ?_ ?_;focus first|omega|rfl|assumption|exact⟨_,rfl,rfl⟩|(simp;omega)|(simp;done)))
    first
    |(refine⟨by cases l<;>rfl,?_⟩
      simp -implicitDefEqProofs (disch:=omega) only[go_sem,ay,ak])
    |skip
    rw[hq]
    first|exact⟨aS rfl,rfl⟩|(refine⟨aS ?_,rfl⟩;simp only[aH.v,List.map_cons,List.map_nil,List.map_append,aM.aB,aN.aB,au.aB,aC.aB,List.cons_append,List.nil_append];rfl)
   ·simp only[instK,reduceIte,Int.reduceEq] at hq;simp -implicitDefEqProofs (disch:=omega) only[go_sem,ay,ak]
    (repeat(with_reducible refine And.intro ?_ ?_;focus first|omega|rfl|assumption|exact⟨_,rfl,rfl⟩|(simp;omega)|(simp;done)))
    first
    |(refine⟨by cases l<;>rfl,?_⟩
      simp -implicitDefEqProofs (disch:=omega) only[go_sem,ay,ak])
    |skip
    rw[hq]
    first|exact⟨aS rfl,rfl⟩|(refine⟨aS ?_,rfl⟩;simp only[aH.v,List.map_cons,List.map_nil,List.map_append,aM.aB,aN.aB,au.aB,aC.aB,List.cons_append,List.nil_append];rfl)
  |false=>
   obtain⟨rfl,rfl⟩:zT=a/\c4=c5:=by
    have e5:(zT,c4)=(a,c5):=h5;cases e5;exact⟨rfl,rfl⟩
   simp -implicitDefEqProofs (disch:=omega) only[go_sem,ay,ak];refine aT rfl (q6 _) ?_;simp -implicitDefEqProofs (disch:=omega) only[go_sem,ay,ak];refine aT rfl (q7 _) ?_;rcases FI with rfl|rfl
   ·simp only[instK,reduceIte,Int.reduceEq] at hq;simp -implicitDefEqProofs (disch:=omega) only[go_sem,ay,ak];refine cZ [true] rfl (mE (nL hB 2 Ef c7 (1+l) j _ (by decide) (by rw[aV];exact g _))) ?_;simp -implicitDefEqProofs (disch:=omega) only[go_sem,ay,ak]
    (repeat(with_reducible refine And.intro ?_ ?_;focus first|omega|rfl|assumption|exact⟨_,rfl,rfl⟩|(simp;omega)|(simp;done)))
    first
    |(refine⟨by cases l<;>rfl,?_⟩
      simp -implicitDefEqProofs (disch:=omega) only[go_sem,ay,ak])
    |skip
    rw[hq]
    first|exact⟨aS rfl,rfl⟩|(refine⟨aS ?_,rfl⟩;simp only[aH.v,List.map_cons,List.map_nil,List.map_append,aM.aB,aN.aB,au.aB,aC.aB,List.cons_append,List.nil_append];rfl)
   ·simp only[instK,reduceIte,Int.reduceEq] at hq;simp -implicitDefEqProofs (disch:=omega) only[go_sem,ay,ak]
    (repeat(with_reducible refine And.intro ?_ ?_;focus first|omega|rfl|assumption|exact⟨_,rfl,rfl⟩|(simp;omega)|(simp;done)))
    first
    |(refine⟨by cases l<;>rfl,?_⟩
      simp -implicitDefEqProofs (disch:=omega) only[go_sem,ay,ak])
    |skip
    rw[hq]
    first|exact⟨aS rfl,rfl⟩|(refine⟨aS ?_,rfl⟩;simp only[aH.v,List.map_cons,List.map_nil,List.map_append,aM.aB,aN.aB,au.aB,aC.aB,List.cons_append,List.nil_append];rfl)
 ·simp -implicitDefEqProofs (disch:=omega) only[go_sem,ay,ak];refine aA (kZ _) ?_;simp -implicitDefEqProofs (disch:=omega) only[go_sem]
  (repeat(with_reducible refine And.intro ?_ ?_;focus first|omega|rfl|assumption|exact⟨_,rfl,rfl⟩|(simp;omega)|(simp;done)))
  refine aA (Af [108,105,115,116] [tV [97]] rfl (by decide) (.inl rfl)) ?_;simp -implicitDefEqProofs (disch:=omega) only[go_sem,ay,ak];refine aA (kZ _) ?_;simp -implicitDefEqProofs (disch:=omega) only[go_sem,ay,ak]
  (repeat(with_reducible refine And.intro ?_ ?_;focus first|omega|rfl|assumption|exact⟨_,rfl,rfl⟩|(simp;omega)|(simp;done)))
  first
  |(refine⟨by rfl,?_⟩
    simp -implicitDefEqProofs (disch:=omega) only[go_sem,ay,ak])
  |skip
  refine aT rfl (q4 _) ?_
  cases o with
  |true=>
   have e5:kr (kS _) 1 c4=(a,c5):=h5;rw[e5] at q5;simp only[ay,ak] at q5;simp -implicitDefEqProofs (disch:=omega) only[go_sem,ay,ak];refine cZ [true] rfl (q5 _) ?_;simp -implicitDefEqProofs (disch:=omega) only[go_sem,ay,ak];refine aT rfl (q6 _) ?_;simp -implicitDefEqProofs (disch:=omega) only[go_sem,ay,ak];refine aT rfl (q7 _) ?_;rcases FI with rfl|rfl
   ·simp only[instK,reduceIte,Int.reduceEq] at hq;simp -implicitDefEqProofs (disch:=omega) only[go_sem,ay,ak];refine cZ [true] rfl (mE (nL hB 2 Ef c7 (1+l) j _ (by decide) (by rw[aV];exact g _))) ?_;simp -implicitDefEqProofs (disch:=omega) only[go_sem,ay,ak]
    (repeat(with_reducible refine And.intro ?_ ?_;focus first|omega|rfl|assumption|exact⟨_,rfl,rfl⟩|(simp;omega)|(simp;done)))
    first
    |(refine⟨by cases l<;>rfl,?_⟩
      simp -implicitDefEqProofs (disch:=omega) only[go_sem,ay,ak])
    |skip
    rw[hq]
    first|exact⟨aS rfl,rfl⟩|(refine⟨aS ?_,rfl⟩;simp only[aH.v,List.map_cons,List.map_nil,List.map_append,aM.aB,aN.aB,au.aB,aC.aB,List.cons_append,List.nil_append];rfl)
   ·simp only[instK,reduceIte,Int.reduceEq] at hq;simp -implicitDefEqProofs (disch:=omega) only[go_sem,ay,ak]
    (repeat(with_reducible refine And.intro ?_ ?_;focus first|omega|rfl|assumption|exact⟨_,rfl,rfl⟩|(simp;omega)|(simp;done)))
    first
    |(refine⟨by cases l<;>rfl,?_⟩
      simp -implicitDefEqProofs (disch:=omega) only[go_sem,ay,ak])
    |skip
    rw[hq]
    first|exact⟨aS rfl,rfl⟩|(refine⟨aS ?_,rfl⟩;simp only[aH.v,List.map_cons,List.map_nil,List.map_append,aM.aB,aN.aB,au.aB,aC.aB,List.cons_append,List.nil_append];rfl)
  |false=>
   obtain⟨rfl,rfl⟩:zT=a/\c4=c5:=by
    have e5:(zT,c4)=(a,c5):=h5;cases e5;exact⟨rfl,rfl⟩
   simp -implicitDefEqProofs (disch:=omega) only[go_sem,ay,ak];refine aT rfl (q6 _) ?_;simp -implicitDefEqProofs (disch:=omega) only[go_sem,ay,ak];refine aT rfl (q7 _) ?_;rcases FI with rfl|rfl
   ·simp only[instK,reduceIte,Int.reduceEq] at hq;simp -implicitDefEqProofs (disch:=omega) only[go_sem,ay,ak];refine cZ [true] rfl (mE (nL hB 2 Ef c7 (1+l) j _ (by decide) (by rw[aV];exact g _))) ?_;simp -implicitDefEqProofs (disch:=omega) only[go_sem,ay,ak]
    (repeat(with_reducible refine And.intro ?_ ?_;focus first|omega|rfl|assumption|exact⟨_,rfl,rfl⟩|(simp;omega)|(simp;done)))
    first
    |(refine⟨by cases l<;>rfl,?_⟩
      simp -implicitDefEqProofs (disch:=omega) only[go_sem,ay,ak])
    |skip
    rw[hq]
    first|exact⟨aS rfl,rfl⟩|(refine⟨aS ?_,rfl⟩;simp only[aH.v,List.map_cons,List.map_nil,List.map_append,aM.aB,aN.aB,au.aB,aC.aB,List.cons_append,List.nil_append];rfl)
   ·simp only[instK,reduceIte,Int.reduceEq] at hq;simp -implicitDefEqProofs (disch:=omega) only[go_sem,ay,ak]
    (repeat(with_reducible refine And.intro ?_ ?_;focus first|omega|rfl|assumption|exact⟨_,rfl,rfl⟩|(simp;omega)|(simp;done)))
    first
    |(refine⟨by cases l<;>rfl,?_⟩
      simp -implicitDefEqProofs (disch:=omega) only[go_sem,ay,ak])
    |skip
    rw[hq]
    first|exact⟨aS rfl,rfl⟩|(refine⟨aS ?_,rfl⟩;simp only[aH.v,List.map_cons,List.map_nil,List.map_append,aM.aB,aN.aB,au.aB,aC.aB,List.cons_append,List.nil_append];rfl)
 ·simp -implicitDefEqProofs (disch:=omega) only[go_sem,ay,ak];refine aA (kZ _) ?_;simp -implicitDefEqProofs (disch:=omega) only[go_sem];refine aA (kZ _) ?_;simp -implicitDefEqProofs (disch:=omega) only[go_sem]
  (repeat(with_reducible refine And.intro ?_ ?_;focus first|omega|rfl|assumption|exact⟨_,rfl,rfl⟩|(simp;omega)|(simp;done)))
  refine aA (Af [112,97,105,114] [tV [97],tV [98]] rfl (by decide) (.inl rfl)) ?_;simp -implicitDefEqProofs (disch:=omega) only[go_sem,ay,ak];refine aT rfl (q4 _) ?_
  cases o with
  |true=>
   have e5:kr (kS _) 1 c4=(a,c5):=h5;rw[e5] at q5;simp only[ay,ak] at q5;simp -implicitDefEqProofs (disch:=omega) only[go_sem,ay,ak];refine cZ [true] rfl (q5 _) ?_;simp -implicitDefEqProofs (disch:=omega) only[go_sem,ay,ak];refine aT rfl (q6 _) ?_;simp -implicitDefEqProofs (disch:=omega) only[go_sem,ay,ak];refine aT rfl (q7 _) ?_;rcases FI with rfl|rfl
   ·simp only[instK,reduceIte,Int.reduceEq] at hq;simp -implicitDefEqProofs (disch:=omega) only[go_sem,ay,ak];refine cZ [true] rfl (mE (nL hB 2 Ef c7 (1+l) j _ (by decide) (by rw[aV];exact g _))) ?_;simp -implicitDefEqProofs (disch:=omega) only[go_sem,ay,ak]
    (repeat(with_reducible refine And.intro ?_ ?_;focus first|omega|rfl|assumption|exact⟨_,rfl,rfl⟩|(simp;omega)|(simp;done)))
    first
    |(refine⟨by cases l<;>rfl,?_⟩
      simp -implicitDefEqProofs (disch:=omega) only[go_sem,ay,ak])
    |skip
    rw[hq]
    first|exact⟨aS rfl,rfl⟩|(refine⟨aS ?_,rfl⟩;simp only[aH.v,List.map_cons,List.map_nil,List.map_append,aM.aB,aN.aB,au.aB,aC.aB,List.cons_append,List.nil_append];rfl)
   ·simp only[instK,reduceIte,Int.reduceEq] at hq;simp -implicitDefEqProofs (disch:=omega) only[go_sem,ay,ak]
    (repeat(with_reducible refine And.intro ?_ ?_;focus first|omega|rfl|assumption|exact⟨_,rfl,rfl⟩|(simp;omega)|(simp;done)))
    first
    |(refine⟨by cases l<;>rfl,?_⟩
      simp -implicitDefEqProofs (disch:=omega) only[go_sem,ay,ak])
    |skip
    rw[hq]
    first|exact⟨aS rfl,rfl⟩|(refine⟨aS ?_,rfl⟩;simp only[aH.v,List.map_cons,List.map_nil,List.map_append,aM.aB,aN.aB,au.aB,aC.aB,List.cons_append,List.nil_append];rfl)
  |false=>
   obtain⟨rfl,rfl⟩:zT=a/\c4=c5:=by
    have e5:(zT,c4)=(a,c5):=h5;cases e5;exact⟨rfl,rfl⟩
   simp -implicitDefEqProofs (disch:=omega) only[go_sem,ay,ak];refine aT rfl (q6 _) ?_;simp -implicitDefEqProofs (disch:=omega) only[go_sem,ay,ak];refine aT rfl (q7 _) ?_;rcases FI with rfl|rfl
   ·simp only[instK,reduceIte,Int.reduceEq] at hq;simp -implicitDefEqProofs (disch:=omega) only[go_sem,ay,ak];refine cZ [true] rfl (mE (nL hB 2 Ef c7 (1+l) j _ (by decide) (by rw[aV];exact g _))) ?_;simp -implicitDefEqProofs (disch:=omega) only[go_sem,ay,ak]
    (repeat(with_reducible refine And.intro ?_ ?_;focus first|omega|rfl|assumption|exact⟨_,rfl,rfl⟩|(simp;omega)|(simp;done)))
    first
    |(refine⟨by cases l<;>rfl,?_⟩
      simp -implicitDefEqProofs (disch:=omega) only[go_sem,ay,ak])
    |skip
    rw[hq]
    first|exact⟨aS rfl,rfl⟩|(refine⟨aS ?_,rfl⟩;simp only[aH.v,List.map_cons,List.map_nil,List.map_append,aM.aB,aN.aB,au.aB,aC.aB,List.cons_append,List.nil_append];rfl)
   ·simp only[instK,reduceIte,Int.reduceEq] at hq;simp -implicitDefEqProofs (disch:=omega) only[go_sem,ay,ak]
    (repeat(with_reducible refine And.intro ?_ ?_;focus first|omega|rfl|assumption|exact⟨_,rfl,rfl⟩|(simp;omega)|(simp;done)))
    first
    |(refine⟨by cases l<;>rfl,?_⟩
      simp -implicitDefEqProofs (disch:=omega) only[go_sem,ay,ak])
    |skip
    rw[hq]
    first|exact⟨aS rfl,rfl⟩|(refine⟨aS ?_,rfl⟩;simp only[aH.v,List.map_cons,List.map_nil,List.map_append,aM.aB,aN.aB,au.aB,aC.aB,List.cons_append,List.nil_append];rfl)
 ·simp -implicitDefEqProofs (disch:=omega) only[go_sem,ay,ak];refine aA (kZ _) ?_;simp -implicitDefEqProofs (disch:=omega) only[go_sem];refine aA (kZ _) ?_;simp -implicitDefEqProofs (disch:=omega) only[go_sem]
  (repeat(with_reducible refine And.intro ?_ ?_;focus first|omega|rfl|assumption|exact⟨_,rfl,rfl⟩|(simp;omega)|(simp;done)))
  refine aT rfl (q4 _) ?_
  cases o with
  |true=>
   have e5:kr (kS _) 1 c4=(a,c5):=h5;rw[e5] at q5;simp only[ay,ak] at q5;simp -implicitDefEqProofs (disch:=omega) only[go_sem,ay,ak];refine cZ [true] rfl (q5 _) ?_;simp -implicitDefEqProofs (disch:=omega) only[go_sem,ay,ak];refine aT rfl (q6 _) ?_;simp -implicitDefEqProofs (disch:=omega) only[go_sem,ay,ak];refine aT rfl (q7 _) ?_;rcases FI with rfl|rfl
   ·simp only[instK,reduceIte,Int.reduceEq] at hq;simp -implicitDefEqProofs (disch:=omega) only[go_sem,ay,ak];refine cZ [true] rfl (mE (nL hB 2 Ef c7 (1+l) j _ (by decide) (by rw[aV];exact g _))) ?_;simp -implicitDefEqProofs (disch:=omega) only[go_sem,ay,ak]
    (repeat(with_reducible refine And.intro ?_ ?_;focus first|omega|rfl|assumption|exact⟨_,rfl,rfl⟩|(simp;omega)|(simp;done)))
    first
    |(refine⟨by cases l<;>rfl,?_⟩
      simp -implicitDefEqProofs (disch:=omega) only[go_sem,ay,ak])
    |skip
    rw[hq]
    first|exact⟨aS rfl,rfl⟩|(refine⟨aS ?_,rfl⟩;simp only[aH.v,List.map_cons,List.map_nil,List.map_append,aM.aB,aN.aB,au.aB,aC.aB,List.cons_append,List.nil_append];rfl)
   ·simp only[instK,reduceIte,Int.reduceEq] at hq;simp -implicitDefEqProofs (disch:=omega) only[go_sem,ay,ak]
    (repeat(with_reducible refine And.intro ?_ ?_;focus first|omega|rfl|assumption|exact⟨_,rfl,rfl⟩|(simp;omega)|(simp;done)))
    first
    |(refine⟨by cases l<;>rfl,?_⟩
      simp -implicitDefEqProofs (disch:=omega) only[go_sem,ay,ak])
    |skip
    rw[hq]
    first|exact⟨aS rfl,rfl⟩|(refine⟨aS ?_,rfl⟩;simp only[aH.v,List.map_cons,List.map_nil,List.map_append,aM.aB,aN.aB,au.aB,aC.aB,List.cons_append,List.nil_append];rfl)
  |false=>
   obtain⟨rfl,rfl⟩:zT=a/\c4=c5:=by
    have e5:(zT,c4)=(a,c5):=h5;cases e5;exact⟨rfl,rfl⟩
   simp -implicitDefEqProofs (disch:=omega) only[go_sem,ay,ak];refine aT rfl (q6 _) ?_;simp -implicitDefEqProofs (disch:=omega) only[go_sem,ay,ak];refine aT rfl (q7 _) ?_;rcases FI with rfl|rfl
   ·simp only[instK,reduceIte,Int.reduceEq] at hq;simp -implicitDefEqProofs (disch:=omega) only[go_sem,ay,ak];refine cZ [true] rfl (mE (nL hB 2 Ef c7 (1+l) j _ (by decide) (by rw[aV];exact g _))) ?_;simp -implicitDefEqProofs (disch:=omega) only[go_sem,ay,ak]
    (repeat(with_reducible refine And.intro ?_ ?_;focus first|omega|rfl|assumption|exact⟨_,rfl,rfl⟩|(simp;omega)|(simp;done)))
    first
    |(refine⟨by cases l<;>rfl,?_⟩
      simp -implicitDefEqProofs (disch:=omega) only[go_sem,ay,ak])
    |skip
    rw[hq]
    first|exact⟨aS rfl,rfl⟩|(refine⟨aS ?_,rfl⟩;simp only[aH.v,List.map_cons,List.map_nil,List.map_append,aM.aB,aN.aB,au.aB,aC.aB,List.cons_append,List.nil_append];rfl)
   ·simp only[instK,reduceIte,Int.reduceEq] at hq;simp -implicitDefEqProofs (disch:=omega) only[go_sem,ay,ak]
    (repeat(with_reducible refine And.intro ?_ ?_;focus first|omega|rfl|assumption|exact⟨_,rfl,rfl⟩|(simp;omega)|(simp;done)))
    first
    |(refine⟨by cases l<;>rfl,?_⟩
      simp -implicitDefEqProofs (disch:=omega) only[go_sem,ay,ak])
    |skip
    rw[hq]
    first|exact⟨aS rfl,rfl⟩|(refine⟨aS ?_,rfl⟩;simp only[aH.v,List.map_cons,List.map_nil,List.map_append,aM.aB,aN.aB,au.aB,aC.aB,List.cons_append,List.nil_append];rfl)
theorem ZV{bs:List Int}(hB:Bytes bs)(c c1 c2 c3 c4 c5 c6 c7:Cu bs)(s:List UInt8)(n h:Int)(o d:Bool)(a:au)(k:Int)(l j:Nat)(S:Store)(hk:aW S (l,j)=some (.box (cur c)))(h1:cO yZ c=(s,c1))(h2:bn 9 c1=(n,c2))(h3:bn 4 c2=(h,c3))(h4:dI 3 c3=(o,c4))(h5:yE h o c4=(a,c5))(h6:dI 4 c5=(d,c6))(h7:bn 12 c6=(k,c7))(hh:h=0\/h=1\/h=2\/h=3)(hk3:k≠3)(hk5:k≠5):
 bJ prog 79 [.c (.ptr (l,j) 0)] S (fun r S1=>r=(instK s n (kS h) (xQ h) (headW h s) o a d k c7).1.v/\S1=aX S (l,j) (.box (cur (instK s n (kS h) (xQ h) (headW h s) o a d k c7).2))):=by
 have g:∀x:Ab.Obj,aW (aX S (l,j) x) (l,j)=some x:=fun x=>bW _ _ _ _ hk;have q1:=fun fr:List Ab.Obj=>fU hB c (1+l) j (fr::S) yZ (by rw[aV];exact hk) (by decide) (by decide);simp only[h1,ay] at q1;have q2:=fun fr:List Ab.Obj=>dZ hB c1 (1+l) j (fr::aX S (l,j) (.box (cur c1))) 9 (by rw[aV];exact g _) (by omega) (by omega);simp only[h2,ay,ak] at q2;have q3:=fun fr:List Ab.Obj=>dZ hB c2 (1+l) j (fr::aX S (l,j) (.box (cur c2))) 4 (by rw[aV];exact g _) (by omega) (by omega);simp only[h3,ay,ak] at q3;have q4:=fun fr:List Ab.Obj=>oI hB c3 (1+l) j (fr::aX S (l,j) (.box (cur c3))) 3 (by rw[aV];exact g _) (by omega) (by omega);simp only[h4,ay,ak] at q4;have q5:=fun(fr:List Ab.Obj)=>rC (Dr hB (vars:=kS h) (by have:=(DW h).1;omega) 1 c4 (1+l) j (fr::aX S (l,j) (.box (cur c4))) (by rw[aV];exact g _) (by omega));have q6:=fun fr:List Ab.Obj=>oI hB c5 (1+l) j (fr::aX S (l,j) (.box (cur c5))) 4 (by rw[aV];exact g _) (by omega) (by omega);simp only[h6,ay,ak] at q6;have q7:=fun fr:List Ab.Obj=>dZ hB c6 (1+l) j (fr::aX S (l,j) (.box (cur c6))) 12 (by rw[aV];exact g _) (by omega) (by omega);simp only[h7,ay,ak] at q7;obtain⟨q,hq⟩:∃q,q=instK s n (kS h) (xQ h) (headW h s) o a d k c7:=⟨_,rfl⟩;rw[<-hq];refine bJ.of_le ?_;refine sw [63] (rs:=[.cell 2 56]) zmx func79 ntmps79 rfl rfl rfl rfl rfl ?_;simp -implicitDefEqProofs (disch:=omega) only[go_sem];refine cZ [true] rfl (q1 _) ?_;simp -implicitDefEqProofs (disch:=omega) only[go_sem,ay,ak];refine aT rfl (q2 _) ?_;simp -implicitDefEqProofs (disch:=omega) only[go_sem,ay,ak];refine aA (sD _) ?_;simp -implicitDefEqProofs (disch:=omega) only[go_sem]
 (repeat(with_reducible refine And.intro ?_ ?_;focus first|omega|rfl|assumption|exact⟨_,rfl,rfl⟩|(simp;omega)|(simp;done)))
 refine aT rfl (q3 _) ?_;rcases hh with rfl|rfl|rfl|rfl
 ·simp -implicitDefEqProofs (disch:=omega) only[go_sem,ay,ak];refine aA oZ ?_;simp -implicitDefEqProofs (disch:=omega) only[go_sem,ay,ak];refine aT rfl (q4 _) ?_
  cases o with
  |true=>
   have e5:kr (kS _) 1 c4=(a,c5):=h5;rw[e5] at q5;simp only[ay,ak] at q5;simp -implicitDefEqProofs (disch:=omega) only[go_sem,ay,ak];refine cZ [true] rfl (q5 _) ?_;simp -implicitDefEqProofs (disch:=omega) only[go_sem,ay,ak];refine aT rfl (q6 _) ?_;simp -implicitDefEqProofs (disch:=omega) only[go_sem,ay,ak];refine aT rfl (q7 _) ?_;simp -implicitDefEqProofs (disch:=omega) only[go_sem,ay,ak]
   with_reducible refine aD (fun hb=> ?_) (fun hb=> ?_)<;>have h:=hb<;>(try simp only[wf_preprocess] at h)<;>simp -implicitDefEqProofs (disch:=omega) only[go_sem,hb,ay,ak]<;>(repeat(with_reducible refine And.intro ?_ ?_;focus first|omega|rfl|assumption|exact⟨_,rfl,rfl⟩|(simp;omega)|(simp;done)))
   ·subst h;simp only[instK,reduceIte,Int.reduceEq] at hq;refine aT rfl (iX hB 2 c7 (1+l) j _ (by rw[aV];exact g _) (by omega)) ?_;simp -implicitDefEqProofs (disch:=omega) only[go_sem,ay,ak];rw[hq]
    first|exact⟨aS rfl,rfl⟩|(refine⟨aS ?_,rfl⟩;simp only[aH.v,List.map_cons,List.map_nil,List.map_append,aM.aB,aN.aB,au.aB,aC.aB,List.cons_append,List.nil_append];rfl)
   have e0:=h
   with_reducible refine aD (fun hb=> ?_) (fun hb=> ?_)<;>have h:=hb<;>(try simp only[wf_preprocess] at h)<;>simp -implicitDefEqProofs (disch:=omega) only[go_sem,hb,ay,ak]<;>(repeat(with_reducible refine And.intro ?_ ?_;focus first|omega|rfl|assumption|exact⟨_,rfl,rfl⟩|(simp;omega)|(simp;done)))
   ·subst h;simp only[instK,reduceIte,Int.reduceEq] at hq;refine cZ [true] rfl (fU hB c7 (1+l) j _ FH (by rw[aV];exact g _) (by decide) (by decide)) ?_;simp -implicitDefEqProofs (disch:=omega) only[go_sem,ay,ak]
    (repeat(with_reducible refine And.intro ?_ ?_;focus first|omega|rfl|assumption|exact⟨_,rfl,rfl⟩|(simp;omega)|(simp;done)))
    first
    |(refine⟨by cases l<;>rfl,?_⟩
      simp -implicitDefEqProofs (disch:=omega) only[go_sem,ay,ak])
    |skip
    rw[hq]
    first|exact⟨aS rfl,rfl⟩|(refine⟨aS ?_,rfl⟩;simp only[aH.v,List.map_cons,List.map_nil,List.map_append,aM.aB,aN.aB,au.aB,aC.aB,List.cons_append,List.nil_append];rfl)
   have e1:=h
   with_reducible refine aD (fun hb=> ?_) (fun hb=> ?_)<;>have h:=hb<;>(try simp only[wf_preprocess] at h)<;>simp -implicitDefEqProofs (disch:=omega) only[go_sem,hb,ay,ak]<;>(repeat(with_reducible refine And.intro ?_ ?_;focus first|omega|rfl|assumption|exact⟨_,rfl,rfl⟩|(simp;omega)|(simp;done)))
   ·subst h;simp only[instK,reduceIte,Int.reduceEq] at hq;refine aT rfl (iX hB 1 c7 (1+l) j _ (by rw[aV];exact g _) (by omega)) ?_;simp -implicitDefEqProofs (disch:=omega) only[go_sem,ay,ak]
    (repeat(with_reducible refine And.intro ?_ ?_;focus first|omega|rfl|assumption|exact⟨_,rfl,rfl⟩|(simp;omega)|(simp;done)))
    first
    |(refine⟨by cases l<;>rfl,?_⟩
      simp -implicitDefEqProofs (disch:=omega) only[go_sem,ay,ak])
    |skip
    rw[hq]
    first|exact⟨aS rfl,rfl⟩|(refine⟨aS ?_,rfl⟩;simp only[aH.v,List.map_cons,List.map_nil,List.map_append,aM.aB,aN.aB,au.aB,aC.aB,List.cons_append,List.nil_append];rfl)
   have e2:=h
   with_reducible refine aD (fun hb=> ?_) (fun hb=> ?_)<;>have h:=hb<;>(try simp only[wf_preprocess] at h)<;>simp -implicitDefEqProofs (disch:=omega) only[go_sem,hb,ay,ak]<;>(repeat(with_reducible refine And.intro ?_ ?_;focus first|omega|rfl|assumption|exact⟨_,rfl,rfl⟩|(simp;omega)|(simp;done)))
   ·exact absurd h hk3
   with_reducible refine aD (fun hb=> ?_) (fun hb=> ?_)<;>have h:=hb<;>(try simp only[wf_preprocess] at h)<;>simp -implicitDefEqProofs (disch:=omega) only[go_sem,hb,ay,ak]<;>(repeat(with_reducible refine And.intro ?_ ?_;focus first|omega|rfl|assumption|exact⟨_,rfl,rfl⟩|(simp;omega)|(simp;done)))
   ·subst h;simp only[instK,reduceIte,Int.reduceEq] at hq;refine aA oZ ?_;simp -implicitDefEqProofs (disch:=omega) only[go_sem,ay,ak];rw[hq]
    first|exact⟨aS rfl,rfl⟩|(refine⟨aS ?_,rfl⟩;simp only[aH.v,List.map_cons,List.map_nil,List.map_append,aM.aB,aN.aB,au.aB,aC.aB,List.cons_append,List.nil_append];rfl)
   have e4:=h
   with_reducible refine aD (fun hb=> ?_) (fun hb=> ?_)<;>have h:=hb<;>(try simp only[wf_preprocess] at h)<;>simp -implicitDefEqProofs (disch:=omega) only[go_sem,hb,ay,ak]<;>(repeat(with_reducible refine And.intro ?_ ?_;focus first|omega|rfl|assumption|exact⟨_,rfl,rfl⟩|(simp;omega)|(simp;done)))
   ·exact absurd h hk5
   simp only[instK,if_neg e0,if_neg e1,if_neg e2,if_neg hk3,if_neg e4,if_neg hk5] at hq;rw[hq]
   first|exact⟨aS rfl,rfl⟩|(refine⟨aS ?_,rfl⟩;simp only[aH.v,List.map_cons,List.map_nil,List.map_append,aM.aB,aN.aB,au.aB,aC.aB,List.cons_append,List.nil_append];rfl)
  |false=>
   obtain⟨rfl,rfl⟩:zT=a/\c4=c5:=by
    have e5:(zT,c4)=(a,c5):=h5;cases e5;exact⟨rfl,rfl⟩
   simp -implicitDefEqProofs (disch:=omega) only[go_sem,ay,ak];refine aT rfl (q6 _) ?_;simp -implicitDefEqProofs (disch:=omega) only[go_sem,ay,ak];refine aT rfl (q7 _) ?_;simp -implicitDefEqProofs (disch:=omega) only[go_sem,ay,ak]
   with_reducible refine aD (fun hb=> ?_) (fun hb=> ?_)<;>have h:=hb<;>(try simp only[wf_preprocess] at h)<;>simp -implicitDefEqProofs (disch:=omega) only[go_sem,hb,ay,ak]<;>(repeat(with_reducible refine And.intro ?_ ?_;focus first|omega|rfl|assumption|exact⟨_,rfl,rfl⟩|(simp;omega)|(simp;done)))
   ·subst h;simp only[instK,reduceIte,Int.reduceEq] at hq;refine aT rfl (iX hB 2 c7 (1+l) j _ (by rw[aV];exact g _) (by omega)) ?_;simp -implicitDefEqProofs (disch:=omega) only[go_sem,ay,ak];rw[hq]
    first|exact⟨aS rfl,rfl⟩|(refine⟨aS ?_,rfl⟩;simp only[aH.v,List.map_cons,List.map_nil,List.map_append,aM.aB,aN.aB,au.aB,aC.aB,List.cons_append,List.nil_append];rfl)
   have e0:=h
   with_reducible refine aD (fun hb=> ?_) (fun hb=> ?_)<;>have h:=hb<;>(try simp only[wf_preprocess] at h)<;>simp -implicitDefEqProofs (disch:=omega) only[go_sem,hb,ay,ak]<;>(repeat(with_reducible refine And.intro ?_ ?_;focus first|omega|rfl|assumption|exact⟨_,rfl,rfl⟩|(simp;omega)|(simp;done)))
   ·subst h;simp only[instK,reduceIte,Int.reduceEq] at hq;refine cZ [true] rfl (fU hB c7 (1+l) j _ FH (by rw[aV];exact g _) (by decide) (by decide)) ?_;simp -implicitDefEqProofs (disch:=omega) only[go_sem,ay,ak]
    (repeat(with_reducible refine And.intro ?_ ?_;focus first|omega|rfl|assumption|exact⟨_,rfl,rfl⟩|(simp;omega)|(simp;done)))
    first
    |(refine⟨by cases l<;>rfl,?_⟩
      simp -implicitDefEqProofs (disch:=omega) only[go_sem,ay,ak])
    |skip
    rw[hq]
    first|exact⟨aS rfl,rfl⟩|(refine⟨aS ?_,rfl⟩;simp only[aH.v,List.map_cons,List.map_nil,List.map_append,aM.aB,aN.aB,au.aB,aC.aB,List.cons_append,List.nil_append];rfl)
   have e1:=h
   with_reducible refine aD (fun hb=> ?_) (fun hb=> ?_)<;>have h:=hb<;>(try simp only[wf_preprocess] at h)<;>simp -implicitDefEqProofs (disch:=omega) only[go_sem,hb,ay,ak]<;>(repeat(with_reducible refine And.intro ?_ ?_;focus first|omega|rfl|assumption|exact⟨_,rfl,rfl⟩|(simp;omega)|(simp;done)))
   ·subst h;simp only[instK,reduceIte,Int.reduceEq] at hq;refine aT rfl (iX hB 1 c7 (1+l) j _ (by rw[aV];exact g _) (by omega)) ?_;simp -implicitDefEqProofs (disch:=omega) only[go_sem,ay,ak]
    (repeat(with_reducible refine And.intro ?_ ?_;focus first|omega|rfl|assumption|exact⟨_,rfl,rfl⟩|(simp;omega)|(simp;done)))
    first
    |(refine⟨by cases l<;>rfl,?_⟩
      simp -implicitDefEqProofs (disch:=omega) only[go_sem,ay,ak])
    |skip
    rw[hq]
    first|exact⟨aS rfl,rfl⟩|(refine⟨aS ?_,rfl⟩;simp only[aH.v,List.map_cons,List.map_nil,List.map_append,aM.aB,aN.aB,au.aB,aC.aB,List.cons_append,List.nil_append];rfl)
   have e2:=h
   with_reducible refine aD (fun hb=> ?_) (fun hb=> ?_)<;>have h:=hb<;>(try simp only[wf_preprocess] at h)<;>simp -implicitDefEqProofs (disch:=omega) only[go_sem,hb,ay,ak]<;>(repeat(with_reducible refine And.intro ?_ ?_;focus first|omega|rfl|assumption|exact⟨_,rfl,rfl⟩|(simp;omega)|(simp;done)))
   ·exact absurd h hk3
   with_reducible refine aD (fun hb=> ?_) (fun hb=> ?_)<;>have h:=hb<;>(try simp only[wf_preprocess] at h)<;>simp -implicitDefEqProofs (disch:=omega) only[go_sem,hb,ay,ak]<;>(repeat(with_reducible refine And.intro ?_ ?_;focus first|omega|rfl|assumption|exact⟨_,rfl,rfl⟩|(simp;omega)|(simp;done)))
   ·subst h;simp only[instK,reduceIte,Int.reduceEq] at hq;refine aA oZ ?_;simp -implicitDefEqProofs (disch:=omega) only[go_sem,ay,ak];rw[hq]
    first|exact⟨aS rfl,rfl⟩|(refine⟨aS ?_,rfl⟩;simp only[aH.v,List.map_cons,List.map_nil,List.map_append,aM.aB,aN.aB,au.aB,aC.aB,List.cons_append,List.nil_append];rfl)
   have e4:=h
   with_reducible refine aD (fun hb=> ?_) (fun hb=> ?_)<;>have h:=hb<;>(try simp only[wf_preprocess] at h)<;>simp -implicitDefEqProofs (disch:=omega) only[go_sem,hb,ay,ak]<;>(repeat(with_reducible refine And.intro ?_ ?_;focus first|omega|rfl|assumption|exact⟨_,rfl,rfl⟩|(simp;omega)|(simp;done)))
   ·exact absurd h hk5
   simp only[instK,if_neg e0,if_neg e1,if_neg e2,if_neg hk3,if_neg e4,if_neg hk5] at hq;rw[hq]
   first|exact⟨aS rfl,rfl⟩|(refine⟨aS ?_,rfl⟩;simp only[aH.v,List.map_cons,List.map_nil,List.map_append,aM.aB,aN.aB,au.aB,aC.aB,List.cons_append,List.nil_append];rfl)
 ·simp -implicitDefEqProofs (disch:=omega) only[go_sem,ay,ak];refine aA (kZ _) ?_;simp -implicitDefEqProofs (disch:=omega) only[go_sem]
  (repeat(with_reducible refine And.intro ?_ ?_;focus first|omega|rfl|assumption|exact⟨_,rfl,rfl⟩|(simp;omega)|(simp;done)))
  refine aA (Af [108,105,115,116] [tV [97]] rfl (by decide) (.inl rfl)) ?_;simp -implicitDefEqProofs (disch:=omega) only[go_sem,ay,ak];refine aA (kZ _) ?_;simp -implicitDefEqProofs (disch:=omega) only[go_sem,ay,ak]
  (repeat(with_reducible refine And.intro ?_ ?_;focus first|omega|rfl|assumption|exact⟨_,rfl,rfl⟩|(simp;omega)|(simp;done)))
  first
  |(refine⟨by rfl,?_⟩
    simp -implicitDefEqProofs (disch:=omega) only[go_sem,ay,ak])
  |skip
  refine aT rfl (q4 _) ?_
  cases o with
  |true=>
   have e5:kr (kS _) 1 c4=(a,c5):=h5;rw[e5] at q5;simp only[ay,ak] at q5;simp -implicitDefEqProofs (disch:=omega) only[go_sem,ay,ak];refine cZ [true] rfl (q5 _) ?_;simp -implicitDefEqProofs (disch:=omega) only[go_sem,ay,ak];refine aT rfl (q6 _) ?_;simp -implicitDefEqProofs (disch:=omega) only[go_sem,ay,ak];refine aT rfl (q7 _) ?_;simp -implicitDefEqProofs (disch:=omega) only[go_sem,ay,ak]
   with_reducible refine aD (fun hb=> ?_) (fun hb=> ?_)<;>have h:=hb<;>(try simp only[wf_preprocess] at h)<;>simp -implicitDefEqProofs (disch:=omega) only[go_sem,hb,ay,ak]<;>(repeat(with_reducible refine And.intro ?_ ?_;focus first|omega|rfl|assumption|exact⟨_,rfl,rfl⟩|(simp;omega)|(simp;done)))
   ·subst h;simp only[instK,reduceIte,Int.reduceEq] at hq;refine aT rfl (iX hB 2 c7 (1+l) j _ (by rw[aV];exact g _) (by omega)) ?_;simp -implicitDefEqProofs (disch:=omega) only[go_sem,ay,ak];rw[hq]
    first|exact⟨aS rfl,rfl⟩|(refine⟨aS ?_,rfl⟩;simp only[aH.v,List.map_cons,List.map_nil,List.map_append,aM.aB,aN.aB,au.aB,aC.aB,List.cons_append,List.nil_append];rfl)
   have e0:=h
   with_reducible refine aD (fun hb=> ?_) (fun hb=> ?_)<;>have h:=hb<;>(try simp only[wf_preprocess] at h)<;>simp -implicitDefEqProofs (disch:=omega) only[go_sem,hb,ay,ak]<;>(repeat(with_reducible refine And.intro ?_ ?_;focus first|omega|rfl|assumption|exact⟨_,rfl,rfl⟩|(simp;omega)|(simp;done)))
   ·subst h;simp only[instK,reduceIte,Int.reduceEq] at hq;refine cZ [true] rfl (fU hB c7 (1+l) j _ FH (by rw[aV];exact g _) (by decide) (by decide)) ?_;simp -implicitDefEqProofs (disch:=omega) only[go_sem,ay,ak]
    (repeat(with_reducible refine And.intro ?_ ?_;focus first|omega|rfl|assumption|exact⟨_,rfl,rfl⟩|(simp;omega)|(simp;done)))
    first
    |(refine⟨by cases l<;>rfl,?_⟩
      simp -implicitDefEqProofs (disch:=omega) only[go_sem,ay,ak])
    |skip
    rw[hq]
    first|exact⟨aS rfl,rfl⟩|(refine⟨aS ?_,rfl⟩;simp only[aH.v,List.map_cons,List.map_nil,List.map_append,aM.aB,aN.aB,au.aB,aC.aB,List.cons_append,List.nil_append];rfl)
   have e1:=h
   with_reducible refine aD (fun hb=> ?_) (fun hb=> ?_)<;>have h:=hb<;>(try simp only[wf_preprocess] at h)<;>simp -implicitDefEqProofs (disch:=omega) only[go_sem,hb,ay,ak]<;>(repeat(with_reducible refine And.intro ?_ ?_;focus first|omega|rfl|assumption|exact⟨_,rfl,rfl⟩|(simp;omega)|(simp;done)))
   ·subst h;simp only[instK,reduceIte,Int.reduceEq] at hq;refine aT rfl (iX hB 1 c7 (1+l) j _ (by rw[aV];exact g _) (by omega)) ?_;simp -implicitDefEqProofs (disch:=omega) only[go_sem,ay,ak]
    (repeat(with_reducible refine And.intro ?_ ?_;focus first|omega|rfl|assumption|exact⟨_,rfl,rfl⟩|(simp;omega)|(simp;done)))
    first
    |(refine⟨by cases l<;>rfl,?_⟩
      simp -implicitDefEqProofs (disch:=omega) only[go_sem,ay,ak])
    |skip
    rw[hq]
    first|exact⟨aS rfl,rfl⟩|(refine⟨aS ?_,rfl⟩;simp only[aH.v,List.map_cons,List.map_nil,List.map_append,aM.aB,aN.aB,au.aB,aC.aB,List.cons_append,List.nil_append];rfl)
   have e2:=h
   with_reducible refine aD (fun hb=> ?_) (fun hb=> ?_)<;>have h:=hb<;>(try simp only[wf_preprocess] at h)<;>simp -implicitDefEqProofs (disch:=omega) only[go_sem,hb,ay,ak]<;>(repeat(with_reducible refine And.intro ?_ ?_;focus first|omega|rfl|assumption|exact⟨_,rfl,rfl⟩|(simp;omega)|(simp;done)))
   ·exact absurd h hk3
   with_reducible refine aD (fun hb=> ?_) (fun hb=> ?_)<;>have h:=hb<;>(try simp only[wf_preprocess] at h)<;>simp -implicitDefEqProofs (disch:=omega) only[go_sem,hb,ay,ak]<;>(repeat(with_reducible refine And.intro ?_ ?_;focus first|omega|rfl|assumption|exact⟨_,rfl,rfl⟩|(simp;omega)|(simp;done)))
   ·subst h;simp only[instK,reduceIte,Int.reduceEq] at hq;refine aA oZ ?_;simp -implicitDefEqProofs (disch:=omega) only[go_sem,ay,ak];rw[hq]
    first|exact⟨aS rfl,rfl⟩|(refine⟨aS ?_,rfl⟩;simp only[aH.v,List.map_cons,List.map_nil,List.map_append,aM.aB,aN.aB,au.aB,aC.aB,List.cons_append,List.nil_append];rfl)
   have e4:=h
   with_reducible refine aD (fun hb=> ?_) (fun hb=> ?_)<;>have h:=hb<;>(try simp only[wf_preprocess] at h)<;>simp -implicitDefEqProofs (disch:=omega) only[go_sem,hb,ay,ak]<;>(repeat(with_reducible refine And.intro ?_ ?_;focus first|omega|rfl|assumption|exact⟨_,rfl,rfl⟩|(simp;omega)|(simp;done)))
   ·exact absurd h hk5
   simp only[instK,if_neg e0,if_neg e1,if_neg e2,if_neg hk3,if_neg e4,if_neg hk5] at hq;rw[hq]
   first|exact⟨aS rfl,rfl⟩|(refine⟨aS ?_,rfl⟩;simp only[aH.v,List.map_cons,List.map_nil,List.map_append,aM.aB,aN.aB,au.aB,aC.aB,List.cons_append,List.nil_append];rfl)
  |false=>
   obtain⟨rfl,rfl⟩:zT=a/\c4=c5:=by
    have e5:(zT,c4)=(a,c5):=h5;cases e5;exact⟨rfl,rfl⟩
   simp -implicitDefEqProofs (disch:=omega) only[go_sem,ay,ak];refine aT rfl (q6 _) ?_;simp -implicitDefEqProofs (disch:=omega) only[go_sem,ay,ak];refine aT rfl (q7 _) ?_;simp -implicitDefEqProofs (disch:=omega) only[go_sem,ay,ak]
   with_reducible refine aD (fun hb=> ?_) (fun hb=> ?_)<;>have h:=hb<;>(try simp only[wf_preprocess] at h)<;>simp -implicitDefEqProofs (disch:=omega) only[go_sem,hb,ay,ak]<;>(repeat(with_reducible refine And.intro ?_ ?_;focus first|omega|rfl|assumption|exact⟨_,rfl,rfl⟩|(simp;omega)|(simp;done)))
   ·subst h;simp only[instK,reduceIte,Int.reduceEq] at hq;refine aT rfl (iX hB 2 c7 (1+l) j _ (by rw[aV];exact g _) (by omega)) ?_;simp -implicitDefEqProofs (disch:=omega) only[go_sem,ay,ak];rw[hq]
    first|exact⟨aS rfl,rfl⟩|(refine⟨aS ?_,rfl⟩;simp only[aH.v,List.map_cons,List.map_nil,List.map_append,aM.aB,aN.aB,au.aB,aC.aB,List.cons_append,List.nil_append];rfl)
   have e0:=h
   with_reducible refine aD (fun hb=> ?_) (fun hb=> ?_)<;>have h:=hb<;>(try simp only[wf_preprocess] at h)<;>simp -implicitDefEqProofs (disch:=omega) only[go_sem,hb,ay,ak]<;>(repeat(with_reducible refine And.intro ?_ ?_;focus first|omega|rfl|assumption|exact⟨_,rfl,rfl⟩|(simp;omega)|(simp;done)))
   ·subst h;simp only[instK,reduceIte,Int.reduceEq] at hq;refine cZ [true] rfl (fU hB c7 (1+l) j _ FH (by rw[aV];exact g _) (by decide) (by decide)) ?_;simp -implicitDefEqProofs (disch:=omega) only[go_sem,ay,ak]
    (repeat(with_reducible refine And.intro ?_ ?_;focus first|omega|rfl|assumption|exact⟨_,rfl,rfl⟩|(simp;omega)|(simp;done)))
    first
    |(refine⟨by cases l<;>rfl,?_⟩
      simp -implicitDefEqProofs (disch:=omega) only[go_sem,ay,ak])
    |skip
    rw[hq]
    first|exact⟨aS rfl,rfl⟩|(refine⟨aS ?_,rfl⟩;simp only[aH.v,List.map_cons,List.map_nil,List.map_append,aM.aB,aN.aB,au.aB,aC.aB,List.cons_append,List.nil_append];rfl)
   have e1:=h
   with_reducible refine aD (fun hb=> ?_) (fun hb=> ?_)<;>have h:=hb<;>(try simp only[wf_preprocess] at h)<;>simp -implicitDefEqProofs (disch:=omega) only[go_sem,hb,ay,ak]<;>(repeat(with_reducible refine And.intro ?_ ?_;focus first|omega|rfl|assumption|exact⟨_,rfl,rfl⟩|(simp;omega)|(simp;done)))
   ·subst h;simp only[instK,reduceIte,Int.reduceEq] at hq;refine aT rfl (iX hB 1 c7 (1+l) j _ (by rw[aV];exact g _) (by omega)) ?_;simp -implicitDefEqProofs (disch:=omega) only[go_sem,ay,ak]
    (repeat(with_reducible refine And.intro ?_ ?_;focus first|omega|rfl|assumption|exact⟨_,rfl,rfl⟩|(simp;omega)|(simp;done)))
    first
    |(refine⟨by cases l<;>rfl,?_⟩
      simp -implicitDefEqProofs (disch:=omega) only[go_sem,ay,ak])
    |skip
    rw[hq]
    first|exact⟨aS rfl,rfl⟩|(refine⟨aS ?_,rfl⟩;simp only[aH.v,List.map_cons,List.map_nil,List.map_append,aM.aB,aN.aB,au.aB,aC.aB,List.cons_append,List.nil_append];rfl)
   have e2:=h
   with_reducible refine aD (fun hb=> ?_) (fun hb=> ?_)<;>have h:=hb<;>(try simp only[wf_preprocess] at h)<;>simp -implicitDefEqProofs (disch:=omega) only[go_sem,hb,ay,ak]<;>(repeat(with_reducible refine And.intro ?_ ?_;focus first|omega|rfl|assumption|exact⟨_,rfl,rfl⟩|(simp;omega)|(simp;done)))
   ·exact absurd h hk3
   with_reducible refine aD (fun hb=> ?_) (fun hb=> ?_)<;>have h:=hb<;>(try simp only[wf_preprocess] at h)<;>simp -implicitDefEqProofs (disch:=omega) only[go_sem,hb,ay,ak]<;>(repeat(with_reducible refine And.intro ?_ ?_;focus first|omega|rfl|assumption|exact⟨_,rfl,rfl⟩|(simp;omega)|(simp;done)))
   ·subst h;simp only[instK,reduceIte,Int.reduceEq] at hq;refine aA oZ ?_;simp -implicitDefEqProofs (disch:=omega) only[go_sem,ay,ak];rw[hq]
    first|exact⟨aS rfl,rfl⟩|(refine⟨aS ?_,rfl⟩;simp only[aH.v,List.map_cons,List.map_nil,List.map_append,aM.aB,aN.aB,au.aB,aC.aB,List.cons_append,List.nil_append];rfl)
   have e4:=h
   with_reducible refine aD (fun hb=> ?_) (fun hb=> ?_)<;>have h:=hb<;>(try simp only[wf_preprocess] at h)<;>simp -implicitDefEqProofs (disch:=omega) only[go_sem,hb,ay,ak]<;>(repeat(with_reducible refine And.intro ?_ ?_;focus first|omega|rfl|assumption|exact⟨_,rfl,rfl⟩|(simp;omega)|(simp;done)))
   ·exact absurd h hk5
   simp only[instK,if_neg e0,if_neg e1,if_neg e2,if_neg hk3,if_neg e4,if_neg hk5] at hq;rw[hq]
   first|exact⟨aS rfl,rfl⟩|(refine⟨aS ?_,rfl⟩;simp only[aH.v,List.map_cons,List.map_nil,List.map_append,aM.aB,aN.aB,au.aB,aC.aB,List.cons_append,List.nil_append];rfl)
 ·simp -implicitDefEqProofs (disch:=omega) only[go_sem,ay,ak];refine aA (kZ _) ?_;simp -implicitDefEqProofs (disch:=omega) only[go_sem];refine aA (kZ _) ?_;simp -implicitDefEqProofs (disch:=omega) only[go_sem]
  (repeat(with_reducible refine And.intro ?_ ?_;focus first|omega|rfl|assumption|exact⟨_,rfl,rfl⟩|(simp;omega)|(simp;done)))
  refine aA (Af [112,97,105,114] [tV [97],tV [98]] rfl (by decide) (.inl rfl)) ?_;simp -implicitDefEqProofs (disch:=omega) only[go_sem,ay,ak];refine aT rfl (q4 _) ?_
  cases o with
  |true=>
   have e5:kr (kS _) 1 c4=(a,c5):=h5;rw[e5] at q5;simp only[ay,ak] at q5;simp -implicitDefEqProofs (disch:=omega) only[go_sem,ay,ak];refine cZ [true] rfl (q5 _) ?_;simp -implicitDefEqProofs (disch:=omega) only[go_sem,ay,ak];refine aT rfl (q6 _) ?_;simp -implicitDefEqProofs (disch:=omega) only[go_sem,ay,ak];refine aT rfl (q7 _) ?_;simp -implicitDefEqProofs (disch:=omega) only[go_sem,ay,ak]
   with_reducible refine aD (fun hb=> ?_) (fun hb=> ?_)<;>have h:=hb<;>(try simp only[wf_preprocess] at h)<;>simp -implicitDefEqProofs (disch:=omega) only[go_sem,hb,ay,ak]<;>(repeat(with_reducible refine And.intro ?_ ?_;focus first|omega|rfl|assumption|exact⟨_,rfl,rfl⟩|(simp;omega)|(simp;done)))
   ·subst h;simp only[instK,reduceIte,Int.reduceEq] at hq;refine aT rfl (iX hB 2 c7 (1+l) j _ (by rw[aV];exact g _) (by omega)) ?_;simp -implicitDefEqProofs (disch:=omega) only[go_sem,ay,ak];rw[hq]
    first|exact⟨aS rfl,rfl⟩|(refine⟨aS ?_,rfl⟩;simp only[aH.v,List.map_cons,List.map_nil,List.map_append,aM.aB,aN.aB,au.aB,aC.aB,List.cons_append,List.nil_append];rfl)
   have e0:=h
   with_reducible refine aD (fun hb=> ?_) (fun hb=> ?_)<;>have h:=hb<;>(try simp only[wf_preprocess] at h)<;>simp -implicitDefEqProofs (disch:=omega) only[go_sem,hb,ay,ak]<;>(repeat(with_reducible refine And.intro ?_ ?_;focus first|omega|rfl|assumption|exact⟨_,rfl,rfl⟩|(simp;omega)|(simp;done)))
   ·subst h;simp only[instK,reduceIte,Int.reduceEq] at hq;refine cZ [true] rfl (fU hB c7 (1+l) j _ FH (by rw[aV];exact g _) (by decide) (by decide)) ?_;simp -implicitDefEqProofs (disch:=omega) only[go_sem,ay,ak]
    (repeat(with_reducible refine And.intro ?_ ?_;focus first|omega|rfl|assumption|exact⟨_,rfl,rfl⟩|(simp;omega)|(simp;done)))
    first
    |(refine⟨by cases l<;>rfl,?_⟩
      simp -implicitDefEqProofs (disch:=omega) only[go_sem,ay,ak])
    |skip
    rw[hq]
    first|exact⟨aS rfl,rfl⟩|(refine⟨aS ?_,rfl⟩;simp only[aH.v,List.map_cons,List.map_nil,List.map_append,aM.aB,aN.aB,au.aB,aC.aB,List.cons_append,List.nil_append];rfl)
   have e1:=h
   with_reducible refine aD (fun hb=> ?_) (fun hb=> ?_)<;>have h:=hb<;>(try simp only[wf_preprocess] at h)<;>simp -implicitDefEqProofs (disch:=omega) only[go_sem,hb,ay,ak]<;>(repeat(with_reducible refine And.intro ?_ ?_;focus first|omega|rfl|assumption|exact⟨_,rfl,rfl⟩|(simp;omega)|(simp;done)))
   ·subst h;simp only[instK,reduceIte,Int.reduceEq] at hq;refine aT rfl (iX hB 1 c7 (1+l) j _ (by rw[aV];exact g _) (by omega)) ?_;simp -implicitDefEqProofs (disch:=omega) only[go_sem,ay,ak]
    (repeat(with_reducible refine And.intro ?_ ?_;focus first|omega|rfl|assumption|exact⟨_,rfl,rfl⟩|(simp;omega)|(simp;done)))
    first
    |(refine⟨by cases l<;>rfl,?_⟩
      simp -implicitDefEqProofs (disch:=omega) only[go_sem,ay,ak])
    |skip
    rw[hq]
    first|exact⟨aS rfl,rfl⟩|(refine⟨aS ?_,rfl⟩;simp only[aH.v,List.map_cons,List.map_nil,List.map_append,aM.aB,aN.aB,au.aB,aC.aB,List.cons_append,List.nil_append];rfl)
   have e2:=h
   with_reducible refine aD (fun hb=> ?_) (fun hb=> ?_)<;>have h:=hb<;>(try simp only[wf_preprocess] at h)<;>simp -implicitDefEqProofs (disch:=omega) only[go_sem,hb,ay,ak]<;>(repeat(with_reducible refine And.intro ?_ ?_;focus first|omega|rfl|assumption|exact⟨_,rfl,rfl⟩|(simp;omega)|(simp;done)))
   ·exact absurd h hk3
   with_reducible refine aD (fun hb=> ?_) (fun hb=> ?_)<;>have h:=hb<;>(try simp only[wf_preprocess] at h)<;>simp -implicitDefEqProofs (disch:=omega) only[go_sem,hb,ay,ak]<;>(repeat(with_reducible refine And.intro ?_ ?_;focus first|omega|rfl|assumption|exact⟨_,rfl,rfl⟩|(simp;omega)|(simp;done)))
   ·subst h;simp only[instK,reduceIte,Int.reduceEq] at hq;refine aA oZ ?_;simp -implicitDefEqProofs (disch:=omega) only[go_sem,ay,ak];rw[hq]
    first|exact⟨aS rfl,rfl⟩|(refine⟨aS ?_,rfl⟩;simp only[aH.v,List.map_cons,List.map_nil,List.map_append,aM.aB,aN.aB,au.aB,aC.aB,List.cons_append,List.nil_append];rfl)
   have e4:=h
   with_reducible refine aD (fun hb=> ?_) (fun hb=> ?_)<;>have h:=hb<;>(try simp only[wf_preprocess] at h)<;>simp -implicitDefEqProofs (disch:=omega) only[go_sem,hb,ay,ak]<;>(repeat(with_reducible refine And.intro ?_ ?_;focus first|omega|rfl|assumption|exact⟨_,rfl,rfl⟩|(simp;omega)|(simp;done)))
   ·exact absurd h hk5
   simp only[instK,if_neg e0,if_neg e1,if_neg e2,if_neg hk3,if_neg e4,if_neg hk5] at hq;rw[hq]
   first|exact⟨aS rfl,rfl⟩|(refine⟨aS ?_,rfl⟩;simp only[aH.v,List.map_cons,List.map_nil,List.map_append,aM.aB,aN.aB,au.aB,aC.aB,List.cons_append,List.nil_append];rfl)
  |false=>
   obtain⟨rfl,rfl⟩:zT=a/\c4=c5:=by
    have e5:(zT,c4)=(a,c5):=h5;cases e5;exact⟨rfl,rfl⟩
   simp -implicitDefEqProofs (disch:=omega) only[go_sem,ay,ak];refine aT rfl (q6 _) ?_;simp -implicitDefEqProofs (disch:=omega) only[go_sem,ay,ak];refine aT rfl (q7 _) ?_;simp -implicitDefEqProofs (disch:=omega) only[go_sem,ay,ak]
   with_reducible refine aD (fun hb=> ?_) (fun hb=> ?_)<;>have h:=hb<;>(try simp only[wf_preprocess] at h)<;>simp -implicitDefEqProofs (disch:=omega) only[go_sem,hb,ay,ak]<;>(repeat(with_reducible refine And.intro ?_ ?_;focus first|omega|rfl|assumption|exact⟨_,rfl,rfl⟩|(simp;omega)|(simp;done)))
   ·subst h;simp only[instK,reduceIte,Int.reduceEq] at hq;refine aT rfl (iX hB 2 c7 (1+l) j _ (by rw[aV];exact g _) (by omega)) ?_;simp -implicitDefEqProofs (disch:=omega) only[go_sem,ay,ak];rw[hq]
    first|exact⟨aS rfl,rfl⟩|(refine⟨aS ?_,rfl⟩;simp only[aH.v,List.map_cons,List.map_nil,List.map_append,aM.aB,aN.aB,au.aB,aC.aB,List.cons_append,List.nil_append];rfl)
   have e0:=h
   with_reducible refine aD (fun hb=> ?_) (fun hb=> ?_)<;>have h:=hb<;>(try simp only[wf_preprocess] at h)<;>simp -implicitDefEqProofs (disch:=omega) only[go_sem,hb,ay,ak]<;>(repeat(with_reducible refine And.intro ?_ ?_;focus first|omega|rfl|assumption|exact⟨_,rfl,rfl⟩|(simp;omega)|(simp;done)))
   ·subst h;simp only[instK,reduceIte,Int.reduceEq] at hq;refine cZ [true] rfl (fU hB c7 (1+l) j _ FH (by rw[aV];exact g _) (by decide) (by decide)) ?_;simp -implicitDefEqProofs (disch:=omega) only[go_sem,ay,ak]
    (repeat(with_reducible refine And.intro ?_ ?_;focus first|omega|rfl|assumption|exact⟨_,rfl,rfl⟩|(simp;omega)|(simp;done)))
    first
    |(refine⟨by cases l<;>rfl,?_⟩
      simp -implicitDefEqProofs (disch:=omega) only[go_sem,ay,ak])
    |skip
    rw[hq]
    first|exact⟨aS rfl,rfl⟩|(refine⟨aS ?_,rfl⟩;simp only[aH.v,List.map_cons,List.map_nil,List.map_append,aM.aB,aN.aB,au.aB,aC.aB,List.cons_append,List.nil_append];rfl)
   have e1:=h
   with_reducible refine aD (fun hb=> ?_) (fun hb=> ?_)<;>have h:=hb<;>(try simp only[wf_preprocess] at h)<;>simp -implicitDefEqProofs (disch:=omega) only[go_sem,hb,ay,ak]<;>(repeat(with_reducible refine And.intro ?_ ?_;focus first|omega|rfl|assumption|exact⟨_,rfl,rfl⟩|(simp;omega)|(simp;done)))
   ·subst h;simp only[instK,reduceIte,Int.reduceEq] at hq;refine aT rfl (iX hB 1 c7 (1+l) j _ (by rw[aV];exact g _) (by omega)) ?_;simp -implicitDefEqProofs (disch:=omega) only[go_sem,ay,ak]
    (repeat(with_reducible refine And.intro ?_ ?_;focus first|omega|rfl|assumption|exact⟨_,rfl,rfl⟩|(simp;omega)|(simp;done)))
    first
    |(refine⟨by cases l<;>rfl,?_⟩
      simp -implicitDefEqProofs (disch:=omega) only[go_sem,ay,ak])
    |skip
    rw[hq]
    first|exact⟨aS rfl,rfl⟩|(refine⟨aS ?_,rfl⟩;simp only[aH.v,List.map_cons,List.map_nil,List.map_append,aM.aB,aN.aB,au.aB,aC.aB,List.cons_append,List.nil_append];rfl)
   have e2:=h
   with_reducible refine aD (fun hb=> ?_) (fun hb=> ?_)<;>have h:=hb<;>(try simp only[wf_preprocess] at h)<;>simp -implicitDefEqProofs (disch:=omega) only[go_sem,hb,ay,ak]<;>(repeat(with_reducible refine And.intro ?_ ?_;focus first|omega|rfl|assumption|exact⟨_,rfl,rfl⟩|(simp;omega)|(simp;done)))
   ·exact absurd h hk3
   with_reducible refine aD (fun hb=> ?_) (fun hb=> ?_)<;>have h:=hb<;>(try simp only[wf_preprocess] at h)<;>simp -implicitDefEqProofs (disch:=omega) only[go_sem,hb,ay,ak]<;>(repeat(with_reducible refine And.intro ?_ ?_;focus first|omega|rfl|assumption|exact⟨_,rfl,rfl⟩|(simp;omega)|(simp;done)))
   ·subst h;simp only[instK,reduceIte,Int.reduceEq] at hq;refine aA oZ ?_;simp -implicitDefEqProofs (disch:=omega) only[go_sem,ay,ak];rw[hq]
    first|exact⟨aS rfl,rfl⟩|(refine⟨aS ?_,rfl⟩;simp only[aH.v,List.map_cons,List.map_nil,List.map_append,aM.aB,aN.aB,au.aB,aC.aB,List.cons_append,List.nil_append];rfl)
   have e4:=h
   with_reducible refine aD (fun hb=> ?_) (fun hb=> ?_)<;>have h:=hb<;>(try simp only[wf_preprocess] at h)<;>simp -implicitDefEqProofs (disch:=omega) only[go_sem,hb,ay,ak]<;>(repeat(with_reducible refine And.intro ?_ ?_;focus first|omega|rfl|assumption|exact⟨_,rfl,rfl⟩|(simp;omega)|(simp;done)))
   ·exact absurd h hk5
   simp only[instK,if_neg e0,if_neg e1,if_neg e2,if_neg hk3,if_neg e4,if_neg hk5] at hq;rw[hq]
   first|exact⟨aS rfl,rfl⟩|(refine⟨aS ?_,rfl⟩;simp only[aH.v,List.map_cons,List.map_nil,List.map_append,aM.aB,aN.aB,au.aB,aC.aB,List.cons_append,List.nil_append];rfl)
 ·simp -implicitDefEqProofs (disch:=omega) only[go_sem,ay,ak];refine aA (kZ _) ?_;simp -implicitDefEqProofs (disch:=omega) only[go_sem];refine aA (kZ _) ?_;simp -implicitDefEqProofs (disch:=omega) only[go_sem]
  (repeat(with_reducible refine And.intro ?_ ?_;focus first|omega|rfl|assumption|exact⟨_,rfl,rfl⟩|(simp;omega)|(simp;done)))
  refine aT rfl (q4 _) ?_
  cases o with
  |true=>
   have e5:kr (kS _) 1 c4=(a,c5):=h5;rw[e5] at q5;simp only[ay,ak] at q5;simp -implicitDefEqProofs (disch:=omega) only[go_sem,ay,ak];refine cZ [true] rfl (q5 _) ?_;simp -implicitDefEqProofs (disch:=omega) only[go_sem,ay,ak];refine aT rfl (q6 _) ?_;simp -implicitDefEqProofs (disch:=omega) only[go_sem,ay,ak];refine aT rfl (q7 _) ?_;simp -implicitDefEqProofs (disch:=omega) only[go_sem,ay,ak]
   with_reducible refine aD (fun hb=> ?_) (fun hb=> ?_)<;>have h:=hb<;>(try simp only[wf_preprocess] at h)<;>simp -implicitDefEqProofs (disch:=omega) only[go_sem,hb,ay,ak]<;>(repeat(with_reducible refine And.intro ?_ ?_;focus first|omega|rfl|assumption|exact⟨_,rfl,rfl⟩|(simp;omega)|(simp;done)))
   ·subst h;simp only[instK,reduceIte,Int.reduceEq] at hq;refine aT rfl (iX hB 2 c7 (1+l) j _ (by rw[aV];exact g _) (by omega)) ?_;simp -implicitDefEqProofs (disch:=omega) only[go_sem,ay,ak];rw[hq]
    first|exact⟨aS rfl,rfl⟩|(refine⟨aS ?_,rfl⟩;simp only[aH.v,List.map_cons,List.map_nil,List.map_append,aM.aB,aN.aB,au.aB,aC.aB,List.cons_append,List.nil_append];rfl)
   have e0:=h
   with_reducible refine aD (fun hb=> ?_) (fun hb=> ?_)<;>have h:=hb<;>(try simp only[wf_preprocess] at h)<;>simp -implicitDefEqProofs (disch:=omega) only[go_sem,hb,ay,ak]<;>(repeat(with_reducible refine And.intro ?_ ?_;focus first|omega|rfl|assumption|exact⟨_,rfl,rfl⟩|(simp;omega)|(simp;done)))
   ·subst h;simp only[instK,reduceIte,Int.reduceEq] at hq;refine cZ [true] rfl (fU hB c7 (1+l) j _ FH (by rw[aV];exact g _) (by decide) (by decide)) ?_;simp -implicitDefEqProofs (disch:=omega) only[go_sem,ay,ak]
    (repeat(with_reducible refine And.intro ?_ ?_;focus first|omega|rfl|assumption|exact⟨_,rfl,rfl⟩|(simp;omega)|(simp;done)))
    first
    |(refine⟨by cases l<;>rfl,?_⟩
      simp -implicitDefEqProofs (disch:=omega) only[go_sem,ay,ak])
    |skip
    rw[hq]
    first|exact⟨aS rfl,rfl⟩|(refine⟨aS ?_,rfl⟩;simp only[aH.v,List.map_cons,List.map_nil,List.map_append,aM.aB,aN.aB,au.aB,aC.aB,List.cons_append,List.nil_append];rfl)
   have e1:=h
   with_reducible refine aD (fun hb=> ?_) (fun hb=> ?_)<;>have h:=hb<;>(try simp only[wf_preprocess] at h)<;>simp -implicitDefEqProofs (disch:=omega) only[go_sem,hb,ay,ak]<;>(repeat(with_reducible refine And.intro ?_ ?_;focus first|omega|rfl|assumption|exact⟨_,rfl,rfl⟩|(simp;omega)|(simp;done)))
   ·subst h;simp only[instK,reduceIte,Int.reduceEq] at hq;refine aT rfl (iX hB 1 c7 (1+l) j _ (by rw[aV];exact g _) (by omega)) ?_;simp -implicitDefEqProofs (disch:=omega) only[go_sem,ay,ak]
    (repeat(with_reducible refine And.intro ?_ ?_;focus first|omega|rfl|assumption|exact⟨_,rfl,rfl⟩|(simp;omega)|(simp;done)))
    first
    |(refine⟨by cases l<;>rfl,?_⟩
      simp -implicitDefEqProofs (disch:=omega) only[go_sem,ay,ak])
    |skip
    rw[hq]
    first|exact⟨aS rfl,rfl⟩|(refine⟨aS ?_,rfl⟩;simp only[aH.v,List.map_cons,List.map_nil,List.map_append,aM.aB,aN.aB,au.aB,aC.aB,List.cons_append,List.nil_append];rfl)
   have e2:=h
   with_reducible refine aD (fun hb=> ?_) (fun hb=> ?_)<;>have h:=hb<;>(try simp only[wf_preprocess] at h)<;>simp -implicitDefEqProofs (disch:=omega) only[go_sem,hb,ay,ak]<;>(repeat(with_reducible refine And.intro ?_ ?_;focus first|omega|rfl|assumption|exact⟨_,rfl,rfl⟩|(simp;omega)|(simp;done)))
   ·exact absurd h hk3
   with_reducible refine aD (fun hb=> ?_) (fun hb=> ?_)<;>have h:=hb<;>(try simp only[wf_preprocess] at h)<;>simp -implicitDefEqProofs (disch:=omega) only[go_sem,hb,ay,ak]<;>(repeat(with_reducible refine And.intro ?_ ?_;focus first|omega|rfl|assumption|exact⟨_,rfl,rfl⟩|(simp;omega)|(simp;done)))
   ·subst h;simp only[instK,reduceIte,Int.reduceEq] at hq;refine aA oZ ?_;simp -implicitDefEqProofs (disch:=omega) only[go_sem,ay,ak];rw[hq]
    first|exact⟨aS rfl,rfl⟩|(refine⟨aS ?_,rfl⟩;simp only[aH.v,List.map_cons,List.map_nil,List.map_append,aM.aB,aN.aB,au.aB,aC.aB,List.cons_append,List.nil_append];rfl)
   have e4:=h
   with_reducible refine aD (fun hb=> ?_) (fun hb=> ?_)<;>have h:=hb<;>(try simp only[wf_preprocess] at h)<;>simp -implicitDefEqProofs (disch:=omega) only[go_sem,hb,ay,ak]<;>(repeat(with_reducible refine And.intro ?_ ?_;focus first|omega|rfl|assumption|exact⟨_,rfl,rfl⟩|(simp;omega)|(simp;done)))
   ·exact absurd h hk5
   simp only[instK,if_neg e0,if_neg e1,if_neg e2,if_neg hk3,if_neg e4,if_neg hk5] at hq;rw[hq]
   first|exact⟨aS rfl,rfl⟩|(refine⟨aS ?_,rfl⟩;simp only[aH.v,List.map_cons,List.map_nil,List.map_append,aM.aB,aN.aB,au.aB,aC.aB,List.cons_append,List.nil_append];rfl)
  |false=>
   obtain⟨rfl,rfl⟩:zT=a/\c4=c5:=by
    have e5:(zT,c4)=(a,c5):=h5;cases e5;exact⟨rfl,rfl⟩
   simp -implicitDefEqProofs (disch:=omega) only[go_sem,ay,ak];refine aT rfl (q6 _) ?_;simp -implicitDefEqProofs (disch:=omega) only[go_sem,ay,ak];refine aT rfl (q7 _) ?_;simp -implicitDefEqProofs (disch:=omega) only[go_sem,ay,ak]
   with_reducible refine aD (fun hb=> ?_) (fun hb=> ?_)<;>have h:=hb<;>(try simp only[wf_preprocess] at h)<;>simp -implicitDefEqProofs (disch:=omega) only[go_sem,hb,ay,ak]<;>(repeat(with_reducible refine And.intro ?_ ?_;focus first|omega|rfl|assumption|exact⟨_,rfl,rfl⟩|(simp;omega)|(simp;done)))
   ·subst h;simp only[instK,reduceIte,Int.reduceEq] at hq;refine aT rfl (iX hB 2 c7 (1+l) j _ (by rw[aV];exact g _) (by omega)) ?_;simp -implicitDefEqProofs (disch:=omega) only[go_sem,ay,ak];rw[hq]
    first|exact⟨aS rfl,rfl⟩|(refine⟨aS ?_,rfl⟩;simp only[aH.v,List.map_cons,List.map_nil,List.map_append,aM.aB,aN.aB,au.aB,aC.aB,List.cons_append,List.nil_append];rfl)
   have e0:=h
   with_reducible refine aD (fun hb=> ?_) (fun hb=> ?_)<;>have h:=hb<;>(try simp only[wf_preprocess] at h)<;>simp -implicitDefEqProofs (disch:=omega) only[go_sem,hb,ay,ak]<;>(repeat(with_reducible refine And.intro ?_ ?_;focus first|omega|rfl|assumption|exact⟨_,rfl,rfl⟩|(simp;omega)|(simp;done)))
   ·subst h;simp only[instK,reduceIte,Int.reduceEq] at hq;refine cZ [true] rfl (fU hB c7 (1+l) j _ FH (by rw[aV];exact g _) (by decide) (by decide)) ?_;simp -implicitDefEqProofs (disch:=omega) only[go_sem,ay,ak]
    (repeat(with_reducible refine And.intro ?_ ?_;focus first|omega|rfl|assumption|exact⟨_,rfl,rfl⟩|(simp;omega)|(simp;done)))
    first
    |(refine⟨by cases l<;>rfl,?_⟩
      simp -implicitDefEqProofs (disch:=omega) only[go_sem,ay,ak])
    |skip
    rw[hq]
    first|exact⟨aS rfl,rfl⟩|(refine⟨aS ?_,rfl⟩;simp only[aH.v,List.map_cons,List.map_nil,List.map_append,aM.aB,aN.aB,au.aB,aC.aB,List.cons_append,List.nil_append];rfl)
   have e1:=h
   with_reducible refine aD (fun hb=> ?_) (fun hb=> ?_)<;>have h:=hb<;>(try simp only[wf_preprocess] at h)<;>simp -implicitDefEqProofs (disch:=omega) only[go_sem,hb,ay,ak]<;>(repeat(with_reducible refine And.intro ?_ ?_;focus first|omega|rfl|assumption|exact⟨_,rfl,rfl⟩|(simp;omega)|(simp;done)))
   ·subst h;simp only[instK,reduceIte,Int.reduceEq] at hq;refine aT rfl (iX hB 1 c7 (1+l) j _ (by rw[aV];exact g _) (by omega)) ?_;simp -implicitDefEqProofs (disch:=omega) only[go_sem,ay,ak]
    (repeat(with_reducible refine And.intro ?_ ?_;focus first|omega|rfl|assumption|exact⟨_,rfl,rfl⟩|(simp;omega)|(simp;done)))
    first
    |(refine⟨by cases l<;>rfl,?_⟩
      simp -implicitDefEqProofs (disch:=omega) only[go_sem,ay,ak])
    |skip
    rw[hq]
    first|exact⟨aS rfl,rfl⟩|(refine⟨aS ?_,rfl⟩;simp only[aH.v,List.map_cons,List.map_nil,List.map_append,aM.aB,aN.aB,au.aB,aC.aB,List.cons_append,List.nil_append];rfl)
   have e2:=h
   with_reducible refine aD (fun hb=> ?_) (fun hb=> ?_)<;>have h:=hb<;>(try simp only[wf_preprocess] at h)<;>simp -implicitDefEqProofs (disch:=omega) only[go_sem,hb,ay,ak]<;>(repeat(with_reducible refine And.intro ?_ ?_;focus first|omega|rfl|assumption|exact⟨_,rfl,rfl⟩|(simp;omega)|(simp;done)))
   ·exact absurd h hk3
   with_reducible refine aD (fun hb=> ?_) (fun hb=> ?_)<;>have h:=hb<;>(try simp only[wf_preprocess] at h)<;>simp -implicitDefEqProofs (disch:=omega) only[go_sem,hb,ay,ak]<;>(repeat(with_reducible refine And.intro ?_ ?_;focus first|omega|rfl|assumption|exact⟨_,rfl,rfl⟩|(simp;omega)|(simp;done)))
   ·subst h;simp only[instK,reduceIte,Int.reduceEq] at hq;refine aA oZ ?_;simp -implicitDefEqProofs (disch:=omega) only[go_sem,ay,ak];rw[hq]
    first|exact⟨aS rfl,rfl⟩|(refine⟨aS ?_,rfl⟩;simp only[aH.v,List.map_cons,List.map_nil,List.map_append,aM.aB,aN.aB,au.aB,aC.aB,List.cons_append,List.nil_append];rfl)
   have e4:=h
   with_reducible refine aD (fun hb=> ?_) (fun hb=> ?_)<;>have h:=hb<;>(try simp only[wf_preprocess] at h)<;>simp -implicitDefEqProofs (disch:=omega) only[go_sem,hb,ay,ak]<;>(repeat(with_reducible refine And.intro ?_ ?_;focus first|omega|rfl|assumption|exact⟨_,rfl,rfl⟩|(simp;omega)|(simp;done)))
   ·exact absurd h hk5
   simp only[instK,if_neg e0,if_neg e1,if_neg e2,if_neg hk3,if_neg e4,if_neg hk5] at hq;rw[hq]
   first|exact⟨aS rfl,rfl⟩|(refine⟨aS ?_,rfl⟩;simp only[aH.v,List.map_cons,List.map_nil,List.map_append,aM.aB,aN.aB,au.aB,aC.aB,List.cons_append,List.nil_append];rfl)
theorem KR{bs:List Int}(hB:Bytes bs)(c:Cu bs)(l j:Nat)(S:Store)(hk:aW S (l,j)=some (.box (cur c))):
 bJ prog 79 [.c (.ptr (l,j) 0)] S (fun r S1=>r=(instX c).1.v/\S1=aX S (l,j) (.box (cur (instX c).2))):=by
 have hh:=iA (n:=4) (bn 9 (cO yZ c).2).2 (by omega);unfold instX;generalize hh0:(bn 4 (bn 9 (cO yZ c).2).2).1=h at hh;generalize hc0:(bn 4 (bn 9 (cO yZ c).2).2).2=c3;unfold instG;generalize hc1:(yE h (dI 3 c3).1 (dI 3 c3).2).2=c5;unfold instH;by_cases h35:(bn 12 (dI 4 c5).2).1=3\/(bn 12 (dI 4 c5).2).1=5
 ·exact ZU hB c _ _ c3 _ c5 _ _ _ _ h _ _ _ _ l j S hk rfl rfl (Prod.ext hh0 hc0) rfl (Prod.ext rfl hc1) rfl rfl (by omega) h35
 ·exact ZV hB c _ _ c3 _ c5 _ _ _ _ h _ _ _ _ l j S hk rfl rfl (Prod.ext hh0 hc0) rfl (Prod.ext rfl hc1) rfl rfl (by omega) (fun e=>h35 (.inl e)) (fun e=>h35 (.inr e))
end Go.Ab