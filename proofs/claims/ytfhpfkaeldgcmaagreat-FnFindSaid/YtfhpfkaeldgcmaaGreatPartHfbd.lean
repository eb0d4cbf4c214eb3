/-
  SEVERAL TEXTS IN ONE (merged by program): contracts and models, each with its own heading.
-/
import Derived.Test.YtfhpfkaeldgcmaaGreatPartHfbV
import Derived.Test.YtfhpfkaeldgcmaaGreatPartHfbZ
set_option maxHeartbeats 8000000
open Go.Proofs Go.Proofs.Tryz
set_option linter.unusedSimpArgs false
set_option linter.unusedVariables false
set_option maxRecDepth 8000
namespace Go.Ab
def GV:List (List UInt8):=[[97],[99]]
theorem aeP:fq GV:=by unfold fq;decide
theorem LZ(s:List UInt8)(v:List (List UInt8))(b:aC):bD (aT.mk s v b).enc=s.length+(v.length+aN (v.map encS))+b.sz:=by
 simp only[aT.aj,bD,aY,D.sz,List.length_map,aC.bY];omega
theorem inst_mk_sz(t:List UInt8)(v:List (List UInt8))(h:ay)(w:List aU)(d e:Bool)(a:ay)(m:List aT):(aP.mk t v h w d e a m).sz=t.length+(v.length+aN (v.map encS))+h.sz+(w.length+aN (w.map aU.enc))+a.sz+(m.length+aN (m.map aT.enc)):=by
 simp only[aP.sz,aP.aj,bD,aY,D.sz,List.length_map,ay.bY];omega
def lq(h:Int):List (List UInt8):=if h=0 then [] else if h=1 then [[97]] else if h=2 then [[97],[98]] else [[97]]
def yQ(h:Int):ay:=if h=0 then rV else if h=1 then rU [108,105,115,116] [nO [97]] else if h=2 then rU [112,97,105,114] [nO [97],nO [98]] else nO [97]
def headW(h:Int)(s:List UInt8):List aU:=if h=0 then [] else if h=1 then [⟨s,nO [97]⟩] else if h=2 then [] else [⟨[111,114,100],nO [97]⟩]
def EO(n:Int):aT:=⟨[109],[[120]],kU n⟩
def instK{bs:List Int}(s:List UInt8)(n:Int)(v:List (List UInt8))(t:ay)(w:List aU)(o:Bool)(a:ay)(d:Bool)(k:Int)(c:Cu bs):aP×Cu bs:=
 if k=0 then(⟨s,v,(pW 2 c).1,w,d,o,a,[EO n]⟩,(pW 2 c).2) else
 if k=1 then(⟨s,v++[(bQ GV c).1],t,w,d,o,a,[EO n]⟩,(bQ GV c).2) else
 if k=2 then(⟨s,v,t,w++[⟨[101,113],(pW 1 c).1⟩],d,o,a,[EO n]⟩,(pW 1 c).2) else
 if k=3 then(⟨s,v,t,w,d,o,a,[⟨[109],[[120]],(gY 2 vo c).1⟩]⟩,(gY 2 vo c).2) else
 if k=4 then(⟨s,v,t,w,d,o,rV,[EO n]⟩,c) else
 if k=5 then(⟨s,v,t,w,d,o,a,[⟨[109],[],kU n⟩]⟩,c) else
 (⟨s,v,t,w,d,o,a,[EO n]⟩,c)
def zq{bs:List Int}(h:Int)(o:Bool)(c:Cu bs):ay×Cu bs:=match o with
 |true=>kQ (lq h) 1 c
 |false=>(zT,c)
def instH{bs:List Int}(s:List UInt8)(n h:Int)(o:Bool)(a:ay)(c:Cu bs):aP×Cu bs:=
 instK s n (lq h) (yQ h) (headW h s) o a (bV 4 c).1 (aX 12 (bV 4 c).2).1 (aX 12 (bV 4 c).2).2
def instG{bs:List Int}(s:List UInt8)(n h:Int)(c:Cu bs):aP×Cu bs:=
 instH s n h (bV 3 c).1 (zq h (bV 3 c).1 (bV 3 c).2).1 (zq h (bV 3 c).1 (bV 3 c).2).2
def instX{bs:List Int}(c:Cu bs):aP×Cu bs:=
 instG (bQ lK c).1 (aX 9 (bQ lK c).2).1 (aX 4 (aX 9 (bQ lK c).2).2).1 (aX 4 (aX 9 (bQ lK c).2).2).2
theorem EP(h:Int):(lq h).length<=2/\aN ((lq h).map encS)<=2/\fq (lq h):=by
 unfold lq;split
 ·exact⟨by decide,by decide,by unfold fq;decide⟩
 split
 ·exact⟨by decide,by decide,by unfold fq;decide⟩
 split<;>exact⟨by decide,by decide,by unfold fq;decide⟩
theorem aeQ(h:Int):(yQ h).sz<=20:=by
 unfold yQ;split
 ·rw[sU];omega
 split
 ·simp only[Im,nJ,List.length_cons,List.length_nil];omega
 split
 ·simp only[Vl,nJ,List.length_cons,List.length_nil];omega
 ·simp only[nJ,List.length_cons,List.length_nil];omega
theorem aeR(h:Int)(s:List UInt8):(headW h s).length<=1/\aN ((headW h s).map aU.enc)<=s.length+4:=by
 unfold headW;split
 ·exact⟨by simp,by simp[aN]⟩
 split
 ·exact⟨by simp,by simp only[List.map_cons,List.map_nil,aN,qb,nJ,List.length_cons,List.length_nil];omega⟩
 split
 ·exact⟨by simp,by simp[aN]⟩
 ·exact⟨by simp,by simp only[List.map_cons,List.map_nil,aN,qb,nJ,List.length_cons,List.length_nil];omega⟩
theorem instX_sz{bs:List Int}(c:Cu bs):(instX c).1.sz<=2000:=by
 unfold instX;have h0:=gW c R3;generalize (bQ lK c).1=s at h0;generalize (aX 9 (bQ lK c).2).1=n;generalize (aX 4 (aX 9 (bQ lK c).2).2).1=h;generalize (aX 4 (aX 9 (bQ lK c).2).2).2=c1;unfold instG
 have ha:(zq h (bV 3 c1).1 (bV 3 c1).2).1.sz<=30:=by
  cases (bV 3 c1).1 with
  |true=>have:=Gz (EP h).2.2 1 (bV 3 c1).2;show(kQ (lq h) 1 (bV 3 c1).2).1.sz<=30;omega
  |false=>show zT.sz<=30;rw[nP];omega
 generalize (zq h (bV 3 c1).1 (bV 3 c1).2).1=a at ha;generalize (zq h (bV 3 c1).1 (bV 3 c1).2).2=c2;generalize (bV 3 c1).1=o;unfold instH;have h1:=EP h;have h2:=aeQ h;have h3:=aeR h s;generalize lq h=v at h1;generalize yQ h=t at h2;generalize headW h s=w at h3;generalize (bV 4 c2).1=d;generalize (aX 12 (bV 4 c2).2).1=k;generalize (aX 12 (bV 4 c2).2).2=c3;have h4:=Br 2 c3;have h5:=Br 1 c3;have h6:=JN 2 vo c3 JQ;have h7:=gW c3 aeP;unfold instK
 iterate 6
  split
  ·simp only[inst_mk_sz,EO,LZ,Nh,sU,List.map_cons,List.map_nil,List.map_append,aN,pY,nE,qb,List.length_cons,List.length_nil,List.length_append];omega
 simp only[inst_mk_sz,EO,LZ,Nh,List.map_cons,List.map_nil,aN,nE,List.length_cons,List.length_nil];omega
theorem abm{bs:List Int}(hB:Bytes bs)(c c1 c2 c3 c4 c5 c6 c7:Cu bs)(s:List UInt8)(n h:Int)(o d:Bool)(a:ay)(k:Int)(l j:Nat)(S:Store)(hk:bA S (l,j)=some (.box (cur c)))(h1:bQ lK c=(s,c1))(h2:aX 9 c1=(n,c2))(h3:aX 4 c2=(h,c3))(h4:bV 3 c3=(o,c4))(h5:zq h o c4=(a,c5))(h6:bV 4 c5=(d,c6))(h7:aX 12 c6=(k,c7))(hh:h=0\/h=1\/h=2\/h=3)(GX:k=3\/k=5):
 cB prog 103 [.c (.ptr (l,j) 0)] S (fun r S1=>r=(instK s n (lq h) (yQ h) (headW h s) o a d k c7).1.v/\S1=bq S (l,j) (.box (cur (instK s n (lq h) (yQ h) (headW h s) o a d k c7).2))):=by
 have g:∀x:Ab.Obj,bA (bq S (l,j) x) (l,j)=some x:=fun x=>dw _ _ _ _ hk;have q1:=fun fr:List Ab.Obj=>dQ hB c (1+l) j (fr::S) lK (by rw[aJ];exact hk) (by decide) (by decide);simp only[h1,ak] at q1;have q2:=fun fr:List Ab.Obj=>d9 hB c1 (1+l) j (fr::bq S (l,j) (.box (cur c1))) 9 (by rw[aJ];exact g _) (by omega) (by omega);simp only[h2,ak,ah] at q2;have q3:=fun fr:List Ab.Obj=>d9 hB c2 (1+l) j (fr::bq S (l,j) (.box (cur c2))) 4 (by rw[aJ];exact g _) (by omega) (by omega);simp only[h3,ak,ah] at q3;have q4:=fun fr:List Ab.Obj=>iF hB c3 (1+l) j (fr::bq S (l,j) (.box (cur c3))) 3 (by rw[aJ];exact g _) (by omega) (by omega);simp only[h4,ak,ah] at q4;have q5:=fun(fr:List Ab.Obj)=>sS (EI hB (vars:=lq h) (by have:=(EP h).1;omega) 1 c4 (1+l) j (fr::bq S (l,j) (.box (cur c4))) (by rw[aJ];exact g _) (by omega));have q6:=fun fr:List Ab.Obj=>iF hB c5 (1+l) j (fr::bq S (l,j) (.box (cur c5))) 4 (by rw[aJ];exact g _) (by omega) (by omega);simp only[h6,ak,ah] at q6;have q7:=fun fr:List Ab.Obj=>d9 hB c6 (1+l) j (fr::bq S (l,j) (.box (cur c6))) 12 (by rw[aJ];exact g _) (by omega) (by omega);simp only[h7,ak,ah] at q7;obtain⟨q,hq⟩:∃q,q=instK s n (lq h) (yQ h) (headW h s) o a d k c7:=⟨_,rfl⟩;rw[<-hq];refine cB.of_le ?_;refine Ad [67] (rs:=[.cell 2 45]) zmx func103 ntmps103 rfl rfl rfl rfl rfl ?_;simp -implicitDefEqProofs (disch:=omega) only[go_sem];refine bZ [true] rfl (q1 _) ?_;simp -implicitDefEqProofs (disch:=omega) only[go_sem,ak,ah];refine bE rfl (q2 _) ?_;simp -implicitDefEqProofs (disch:=omega) only[go_sem,ak,ah];refine aB (pX _) ?_;simp -implicitDefEqProofs (disch:=omega) only[go_sem]
 (repeat(with_reducible refine And.intro ?_ ?_;focus first|omega|rfl|assumption|exact⟨_,rfl,rfl⟩|(simp;omega)|(simp;done)))
 refine bE rfl (q3 _) ?_;rcases hh with rfl|rfl|rfl|rfl
 ·simp -implicitDefEqProofs (disch:=omega) only[go_sem,ak,ah];refine aB jH ?_;simp -implicitDefEqProofs (disch:=omega) only[go_sem,ak,ah];refine bE rfl (q4 _) ?_
  cases o with
  |true=>
   have e5:kQ (lq _) 1 c4=(a,c5):=h5;rw[e5] at q5;simp only[ak,ah] at q5;simp -implicitDefEqProofs (disch:=omega) only[go_sem,ak,ah];refine bZ [true] rfl (q5 _) ?_;simp -implicitDefEqProofs (disch:=omega) only[go_sem,ak,ah];refine bE rfl (q6 _) ?_;simp -implicitDefEqProofs (disch:=omega) only[go_sem,ak,ah];refine bE rfl (q7 _) ?_;rcases GX with rfl|rfl
   ·simp only[instK,reduceIte,Int.reduceEq] at hq;simp -implicitDefEqProofs (disch:=omega) only[go_sem,ak,ah];refine bZ [true] rfl (jy (mO hB 2 vo c7 (1+l) j _ (by decide) (by rw[aJ];exact g _))) ?_;simp -implicitDefEqProofs (disch:=omega) only[go_sem,ak,ah]
    (repeat(with_reducible refine And.intro ?_ ?_;focus first|omega|rfl|assumption|exact⟨_,rfl,rfl⟩|(simp;omega)|(simp;done)))
    first
    |(refine⟨by cases l<;>rfl,?_⟩
      simp -implicitDefEqProofs (disch:=omega) only[go_sem,ak,ah])
    |skip
    rw[hq]
    first|exact⟨aG rfl,rfl⟩|(refine⟨aG ?_,rfl⟩;simp only[aP.v,List.map_cons,List.map_nil,List.map_append,aU.aj,aT.aj,ay.aj,aC.aj,List.cons_append,List.nil_append];rfl)
   ·simp only[instK,reduceIte,Int.reduceEq] at hq;simp -implicitDefEqProofs (disch:=omega) only[go_sem,ak,ah]
    (repeat(with_reducible refine And.intro ?_ ?_;focus first|omega|rfl|assumption|exact⟨_,rfl,rfl⟩|(simp;omega)|(simp;done)))
    first
    |(refine⟨by cases l<;>rfl,?_⟩
      simp -implicitDefEqProofs (disch:=omega) only[go_sem,ak,ah])
    |skip
    rw[hq]
    first|exact⟨aG rfl,rfl⟩|(refine⟨aG ?_,rfl⟩;simp only[aP.v,List.map_cons,List.map_nil,List.map_append,aU.aj,aT.aj,ay.aj,aC.aj,List.cons_append,List.nil_append];rfl)
  |false=>
   obtain⟨rfl,rfl⟩:zT=a/\c4=c5:=by
    have e5:(zT,c4)=(a,c5):=h5;cases e5;exact⟨rfl,rfl⟩
   simp -implicitDefEqProofs (disch:=omega) only[go_sem,ak,ah];refine bE rfl (q6 _) ?_;simp -implicitDefEqProofs (disch:=omega) only[go_sem,ak,ah];refine bE rfl (q7 _) ?_;rcases GX with rfl|rfl
   ·simp only[instK,reduceIte,Int.reduceEq] at hq;simp -implicitDefEqProofs (disch:=omega) only[go_sem,ak,ah];refine bZ [true] rfl (jy (mO hB 2 vo c7 (1+l) j _ (by decide) (by rw[aJ];exact g _))) ?_;simp -implicitDefEqProofs (disch:=omega) only[go_sem,ak,ah]
    (repeat(with_reducible refine And.intro ?_ ?_;focus first|omega|rfl|assumption|exact⟨_,rfl,rfl⟩|(simp;omega)|(simp;done)))
    first
    |(refine⟨by cases l<;>rfl,?_⟩
      simp -implicitDefEqProofs (disch:=omega) only[go_sem,ak,ah])
    |skip
    rw[hq]
    first|exact⟨aG rfl,rfl⟩|(refine⟨aG ?_,rfl⟩;simp only[aP.v,List.map_cons,List.map_nil,List.map_append,aU.aj,aT.aj,ay.aj,aC.aj,List.cons_append,List.nil_append];rfl)
   ·simp only[instK,reduceIte,Int.reduceEq] at hq;simp -implicitDefEqProofs (disch:=omega) only[go_sem,ak,ah]
    (repeat(with_reducible refine And.intro ?_ ?_;focus first|omega|rfl|assumption|exact⟨_,rfl,rfl⟩|(simp;omega)|(simp;done)))
    first
    |(refine⟨by cases l<;>rfl,?_⟩
      simp -implicitDefEqProofs (disch:=omega) only[go_sem,ak,ah])
    |skip
    rw[hq]
    first|exact⟨aG rfl,rfl⟩|(refine⟨aG ?_,rfl⟩;simp only[aP.v,List.map_cons,List.map_nil,List.map_append,aU.aj,aT.aj,ay.aj,aC.aj,List.cons_append,List.nil_append];rfl)
 ·simp -implicitDefEqProofs (disch:=omega) only[go_sem,ak,ah];refine aB (fU _) ?_;simp -implicitDefEqProofs (disch:=omega) only[go_sem]
  (repeat(with_reducible refine And.intro ?_ ?_;focus first|omega|rfl|assumption|exact⟨_,rfl,rfl⟩|(simp;omega)|(simp;done)))
  refine aB (vO [108,105,115,116] [nO [97]] rfl (by decide) (.inl rfl)) ?_;simp -implicitDefEqProofs (disch:=omega) only[go_sem,ak,ah];refine aB (fU _) ?_;simp -implicitDefEqProofs (disch:=omega) only[go_sem,ak,ah]
  (repeat(with_reducible refine And.intro ?_ ?_;focus first|omega|rfl|assumption|exact⟨_,rfl,rfl⟩|(simp;omega)|(simp;done)))
  first
  |(refine⟨by rfl,?_⟩
    simp -implicitDefEqProofs (disch:=omega) only[go_sem,ak,ah])
  |skip
  refine bE rfl (q4 _) ?_
  cases o with
  |true=>
   have e5:kQ (lq _) 1 c4=(a,c5):=h5;rw[e5] at q5;simp only[ak,ah] at q5;simp -implicitDefEqProofs (disch:=omega) only[go_sem,ak,ah];refine bZ [true] rfl (q5 _) ?_;simp -implicitDefEqProofs (disch:=omega) only[go_sem,ak,ah];refine bE rfl (q6 _) ?_;simp -implicitDefEqProofs (disch:=omega) only[go_sem,ak,ah];refine bE rfl (q7 _) ?_;rcases GX with rfl|rfl
   ·simp only[instK,reduceIte,Int.reduceEq] at hq;simp -implicitDefEqProofs (disch:=omega) only[go_sem,ak,ah];refine bZ [true] rfl (jy (mO hB 2 vo c7 (1+l) j _ (by decide) (by rw[aJ];exact g _))) ?_;simp -implicitDefEqProofs (disch:=omega) only[go_sem,ak,ah]
    (repeat(with_reducible refine And.intro ?_ ?_;focus first|omega|rfl|assumption|exact⟨_,rfl,rfl⟩|(simp;omega)|(simp;done)))
    first
    |(refine⟨by cases l<;>rfl,?_⟩
      simp -implicitDefEqProofs (disch:=omega) only[go_sem,ak,ah])
    |skip
    rw[hq]
    first|exact⟨aG rfl,rfl⟩|(refine⟨aG ?_,rfl⟩;simp only[aP.v,List.map_cons,List.map_nil,List.map_append,aU.aj,aT.aj,ay.aj,aC.aj,List.cons_append,List.nil_append];rfl)
   ·simp only[instK,reduceIte,Int.reduceEq] at hq;simp -implicitDefEqProofs (disch:=omega) only[go_sem,ak,ah]
    (repeat(with_reducible refine And.intro ?_ ?_;focus first|omega|rfl|assumption|exact⟨_,rfl,rfl⟩|(simp;omega)|(simp;done)))
    first
    |(refine⟨by cases l<;>rfl,?_⟩
      simp -implicitDefEqProofs (disch:=omega) only[go_sem,ak,ah])
    |skip
    rw[hq]
    first|exact⟨aG rfl,rfl⟩|(refine⟨aG ?_,rfl⟩;simp only[aP.v,List.map_cons,List.map_nil,List.map_append,aU.aj,aT.aj,ay.aj,aC.aj,List.cons_append,List.nil_append];rfl)
  |false=>
   obtain⟨rfl,rfl⟩:zT=a/\c4=c5:=by
    have e5:(zT,c4)=(a,c5):=h5;cases e5;exact⟨rfl,rfl⟩
   simp -implicitDefEqProofs (disch:=omega) only[go_sem,ak,ah];refine bE rfl (q6 _) ?_;simp -implicitDefEqProofs (disch:=omega) only[go_sem,ak,ah];refine bE rfl (q7 _) ?_;rcases GX with rfl|rfl
   ·simp only[instK,reduceIte,Int.reduceEq] at hq;simp -implicitDefEqProofs (disch:=omega) only[go_sem,ak,ah];refine bZ [true] rfl (jy (mO hB 2 vo c7 (1+l) j _ (by decide) (by rw[aJ];exact g _))) ?_;simp -implicitDefEqProofs (disch:=omega) only[go_sem,ak,ah]
    (repeat(with_reducible refine And.intro ?_ ?_;focus first|omega|rfl|assumption|exact⟨_,rfl,rfl⟩|(simp;omega)|(simp;done)))
    first
    |(refine⟨by cases l<;>rfl,?_⟩
      simp -implicitDefEqProofs (disch:=omega) only[go_sem,ak,ah])
    |skip
    rw[hq]
    first|exact⟨aG rfl,rfl⟩|(refine⟨aG ?_,rfl⟩;simp only[aP.v,List.map_cons,List.map_nil,List.map_append,aU.aj,aT.aj,ay.aj,aC.aj,List.cons_append,List.nil_append];rfl)
   ·simp only[instK,reduceIte,Int.reduceEq] at hq;simp -implicitDefEqProofs (disch:=omega) only[go_sem,ak,ah]
    (repeat(with_reducible refine And.intro ?_ ?_;focus first|omega|rfl|assumption|exact⟨_,rfl,rfl⟩|(simp;omega)|(simp;done)))
    first
    |(refine⟨by cases l<;>rfl,?_⟩
      simp -implicitDefEqProofs (disch:=omega) only[go_sem,ak,ah])
    |skip
    rw[hq]
    first|exact⟨aG rfl,rfl⟩|(refine⟨aG ?_,rfl⟩;simp only[aP.v,List.map_cons,List.map_nil,List.map_append,aU.aj,aT.aj,ay.aj,aC.aj,List.cons_append,List.nil_append];rfl)
 ·simp -implicitDefEqProofs (disch:=omega) only[go_sem,ak,ah];refine aB (fU _) ?_;simp -implicitDefEqProofs (disch:=omega) only[go_sem];refine aB (fU _) ?_;simp -implicitDefEqProofs (disch:=omega) only[go_sem]
  (repeat(with_reducible refine And.intro ?_ ?_;focus first|omega|rfl|assumption|exact⟨_,rfl,rfl⟩|(simp;omega)|(simp;done)))
  refine aB (vO [112,97,105,114] [nO [97],nO [98]] rfl (by decide) (.inl rfl)) ?_;simp -implicitDefEqProofs (disch:=omega) only[go_sem,ak,ah];refine bE rfl (q4 _) ?_
  cases o with
  |true=>
   have e5:kQ (lq _) 1 c4=(a,c5):=h5;rw[e5] at q5;simp only[ak,ah] at q5;simp -implicitDefEqProofs (disch:=omega) only[go_sem,ak,ah];refine bZ [true] rfl (q5 _) ?_;simp -implicitDefEqProofs (disch:=omega) only[go_sem,ak,ah];refine bE rfl (q6 _) ?_;simp -implicitDefEqProofs (disch:=omega) only[go_sem,ak,ah];refine bE rfl (q7 _) ?_;rcases GX with rfl|rfl
   ·simp only[instK,reduceIte,Int.reduceEq] at hq;simp -implicitDefEqProofs (disch:=omega) only[go_sem,ak,ah];refine bZ [true] rfl (jy (mO hB 2 vo c7 (1+l) j _ (by decide) (by rw[aJ];exact g _))) ?_;simp -implicitDefEqProofs (disch:=omega) only[go_sem,ak,ah]
    (repeat(with_reducible refine And.intro ?_ ?_;focus first|omega|rfl|assumption|exact⟨_,rfl,rfl⟩|(simp;omega)|(simp;done)))
    first
    |(refine⟨by cases l<;>rfl,?_⟩
      simp -implicitDefEqProofs (disch:=omega) only[go_sem,ak,ah])
    |skip
    rw[hq]
    first|exact⟨aG rfl,rfl⟩|(refine⟨aG ?_,rfl⟩;simp only[aP.v,List.map_cons,List.map_nil,List.map_append,aU.aj,aT.aj,ay.aj,aC.aj,List.cons_append,List.nil_append];rfl)
   ·simp only[instK,reduceIte,Int.reduceEq] at hq;simp -implicitDefEqProofs (disch:=omega) only[go_sem,ak,ah]
    (repeat(with_reducible refine And.intro ?_ ?_;focus first|omega|rfl|assumption|exact⟨_,rfl,rfl⟩|(simp;omega)|(simp;done)))
    first
    |(refine⟨by cases l<;>rfl,?_⟩
      simp -implicitDefEqProofs (disch:=omega) only[go_sem,ak,ah])
    |skip
    rw[hq]
    first|exact⟨aG rfl,rfl⟩|(refine⟨aG ?_,rfl⟩;simp only[aP.v,List.map_cons,List.map_nil,List.map_append,aU.aj,aT.aj,ay.aj,aC.aj,List.cons_append,List.nil_append];rfl)
  |false=>
   obtain⟨rfl,rfl⟩:zT=a/\c4=c5:=by
    have e5:(zT,c4)=(a,c5):=h5;cases e5;exact⟨rfl,rfl⟩
   simp -implicitDefEqProofs (disch:=omega) only[go_sem,ak,ah];refine bE rfl (q6 _) ?_;simp -implicitDefEqProofs (disch:=omega) only[go_sem,ak,ah];refine bE rfl (q7 _) ?_;rcases GX with rfl|rfl
   ·simp only[instK,reduceIte,Int.reduceEq] at hq;simp -implicitDefEqProofs (disch:=omega) only[go_sem,ak,ah];refine bZ [true] rfl (jy (mO hB 2 vo c7 (1+l) j _ (by decide) (by rw[aJ];exact g _))) ?_;simp -implicitDefEqProofs (disch:=omega) only[go_sem,ak,ah]
    (repeat(with_reducible refine And.intro ?_ ?_;focus first|omega|rfl|assumption|exact⟨_,rfl,rfl⟩|(simp;omega)|(simp;done)))
    first
    |(refine⟨by cases l<;>rfl,?_⟩
      simp -implicitDefEqProofs (disch:=omega) only[go_sem,ak,ah])
    |skip
    rw[hq]
    first|exact⟨aG rfl,rfl⟩|(refine⟨aG ?_,rfl⟩;simp only[aP.v,List.map_cons,List.map_nil,List.map_append,aU.aj,aT.aj,ay.aj,aC.aj,List.cons_append,List.nil_append];rfl)
   ·simp only[instK,reduceIte,Int.reduceEq] at hq;simp -implicitDefEqProofs (disch:=omega) only[go_sem,ak,ah]
    (repeat(with_reducible refine And.intro ?_ ?_;focus first|omega|rfl|assumption|exact⟨_,rfl,rfl⟩|(simp;omega)|(simp;done)))
    first
    |(refine⟨by cases l<;>rfl,?_⟩
      simp -implicitDefEqProofs (disch:=omega) only[go_sem,ak,ah])
    |skip
    rw[hq]
    first|exact⟨aG rfl,rfl⟩|(refine⟨aG ?_,rfl⟩;simp only[aP.v,List.map_cons,List.map_nil,List.map_append,aU.aj,aT.aj,ay.aj,aC.aj,List.cons_append,List.nil_append];rfl)
 ·simp -implicitDefEqProofs (disch:=omega) only[go_sem,ak,ah];refine aB (fU _) ?_;simp -implicitDefEqProofs (disch:=omega) only[go_sem];refine aB (fU _) ?_;simp -implicitDefEqProofs (disch:=omega) only[go_sem]
  (repeat(with_reducible refine And.intro ?_ ?_;focus first|omega|rfl|assumption|exact⟨_,rfl,rfl⟩|(simp;omega)|(simp;done)))
  refine bE rfl (q4 _) ?_
  cases o with
  |true=>
   have e5:kQ (lq _) 1 c4=(a,c5):=h5;rw[e5] at q5;simp only[ak,ah] at q5;simp -implicitDefEqProofs (disch:=omega) only[go_sem,ak,ah];refine bZ [true] rfl (q5 _) ?_;simp -implicitDefEqProofs (disch:=omega) only[go_sem,ak,ah];refine bE rfl (q6 _) ?_;simp -implicitDefEqProofs (disch:=omega) only[go_sem,ak,ah];refine bE rfl (q7 _) ?_;rcases GX with rfl|rfl
   ·simp only[instK,reduceIte,Int.reduceEq] at hq;simp -implicitDefEqProofs (disch:=omega) only[go_sem,ak,ah];refine bZ [true] rfl (jy (mO hB 2 vo c7 (1+l) j _ (by decide) (by rw[aJ];exact g _))) ?_;simp -implicitDefEqProofs (disch:=omega) only[go_sem,ak,ah]
    (repeat(with_reducible refine And.intro ?_ ?_;focus first|omega|rfl|assumption|exact⟨_,rfl,rfl⟩|(simp;omega)|(simp;done)))
    first
    |(refine⟨by cases l<;>rfl,?_⟩
      simp -implicitDefEqProofs (disch:=omega) only[go_sem,ak,ah])
    |skip
    rw[hq]
    first|exact⟨aG rfl,rfl⟩|(refine⟨aG ?_,rfl⟩;simp only[aP.v,List.map_cons,List.map_nil,List.map_append,aU.aj,aT.aj,ay.aj,aC.aj,List.cons_append,List.nil_append];rfl)
   ·simp only[instK,reduceIte,Int.reduceEq] at hq;simp -implicitDefEqProofs (disch:=omega) only[go_sem,ak,ah]
    (repeat(with_reducible refine And.intro ?_ ?_;focus first|omega|rfl|assumption|exact⟨_,rfl,rfl⟩|(simp;omega)|(simp;done)))
    first
    |(refine⟨by cases l<;>rfl,?_⟩
      simp -implicitDefEqProofs (disch:=omega) only[go_sem,ak,ah])
    |skip
    rw[hq]
    first|exact⟨aG rfl,rfl⟩|(refine⟨aG ?_,rfl⟩;simp only[aP.v,List.map_cons,List.map_nil,List.map_append,aU.aj,aT.aj,ay.aj,aC.aj,List.cons_append,List.nil_append];rfl)
  |false=>
   obtain⟨rfl,rfl⟩:zT=a/\c4=c5:=by
    have e5:(zT,c4)=(a,c5):=h5;cases e5;exact⟨rfl,rfl⟩
   simp -implicitDefEqProofs (disch:=omega) only[go_sem,ak,ah];refine bE rfl (q6 _) ?_;simp -implicitDefEqProofs (disch:=omega) only[go_sem,ak,ah];refine bE rfl (q7 _) ?_;rcases GX with rfl|rfl
   ·simp only[instK,reduceIte,Int.reduceEq] at hq;simp -implicitDefEqProofs (disch:=omega) only[go_sem,ak,ah];refine bZ [true] rfl (jy (mO hB 2 vo c7 (1+l) j _ (by decide) (by rw[aJ];exact g _))) ?_;simp -implicitDefEqProofs (disch:=omega) only[go_sem,ak,ah]
    (repeat(with_reducible refine And.intro ?_ ?_;focus first|omega|rfl|assumption|exact⟨_,rfl,rfl⟩|(simp;omega)|(simp;done)))
    first
    |(refine⟨by cases l<;>rfl,?_⟩
      simp -implicitDefEqProofs (disch:=omega) only[go_sem,ak,ah])
    |skip
    rw[hq]
    first|exact⟨aG rfl,rfl⟩|(refine⟨aG ?_,rfl⟩;simp only[aP.v,List.map_cons,List.map_nil,List.map_append,aU.aj,aT.aj,ay.aj,aC.aj,List.cons_append,List.nil_append];rfl)
   ·simp only[instK,reduceIte,Int.reduceEq] at hq;simp -implicitDefEqProofs (disch:=omega) only[go_sem,ak,ah]
    (repeat(with_reducible refine And.intro ?_ ?_;focus first|omega|rfl|assumption|exact⟨_,rfl,rfl⟩|(simp;omega)|(simp;done)))
    first
    |(refine⟨by cases l<;>rfl,?_⟩
      simp -implicitDefEqProofs (disch:=omega) only[go_sem,ak,ah])
    |skip
    rw[hq]
    first|exact⟨aG rfl,rfl⟩|(refine⟨aG ?_,rfl⟩;simp only[aP.v,List.map_cons,List.map_nil,List.map_append,aU.aj,aT.aj,ay.aj,aC.aj,List.cons_append,List.nil_append];rfl)
theorem abn{bs:List Int}(hB:Bytes bs)(c c1 c2 c3 c4 c5 c6 c7:Cu bs)(s:List UInt8)(n h:Int)(o d:Bool)(a:ay)(k:Int)(l j:Nat)(S:Store)(hk:bA S (l,j)=some (.box (cur c)))(h1:bQ lK c=(s,c1))(h2:aX 9 c1=(n,c2))(h3:aX 4 c2=(h,c3))(h4:bV 3 c3=(o,c4))(h5:zq h o c4=(a,c5))(h6:bV 4 c5=(d,c6))(h7:aX 12 c6=(k,c7))(hh:h=0\/h=1\/h=2\/h=3)(hk3:k≠3)(hk5:k≠5):
 cB prog 103 [.c (.ptr (l,j) 0)] S (fun r S1=>r=(instK s n (lq h) (yQ h) (headW h s) o a d k c7).1.v/\S1=bq S (l,j) (.box (cur (instK s n (lq h) (yQ h) (headW h s) o a d k c7).2))):=by
 have g:∀x:Ab.Obj,bA (bq S (l,j) x) (l,j)=some x:=fun x=>dw _ _ _ _ hk;have q1:=fun fr:List Ab.Obj=>dQ hB c (1+l) j (fr::S) lK (by rw[aJ];exact hk) (by decide) (by decide);simp only[h1,ak] at q1;have q2:=fun fr:List Ab.Obj=>d9 hB c1 (1+l) j (fr::bq S (l,j) (.box (cur c1))) 9 (by rw[aJ];exact g _) (by omega) (by omega);simp only[h2,ak,ah] at q2;have q3:=fun fr:List Ab.Obj=>d9 hB c2 (1+l) j (fr::bq S (l,j) (.box (cur c2))) 4 (by rw[aJ];exact g _) (by omega) (by omega);simp only[h3,ak,ah] at q3;have q4:=fun fr:List Ab.Obj=>iF hB c3 (1+l) j (fr::bq S (l,j) (.box (cur c3))) 3 (by rw[aJ];exact g _) (by omega) (by omega);simp only[h4,ak,ah] at q4;have q5:=fun(fr:List Ab.Obj)=>sS (EI hB (vars:=lq h) (by have:=(EP h).1;omega) 1 c4 (1+l) j (fr::bq S (l,j) (.box (cur c4))) (by rw[aJ];exact g _) (by omega));have q6:=fun fr:List Ab.Obj=>iF hB c5 (1+l) j (fr::bq S (l,j) (.box (cur c5))) 4 (by rw[aJ];exact g _) (by omega) (by omega);simp only[h6,ak,ah] at q6;have q7:=fun fr:List Ab.Obj=>d9 hB c6 (1+l) j (fr::bq S (l,j) (.box (cur c6))) 12 (by rw[aJ];exact g _) (by omega) (by omega);simp only[h7,ak,ah] at q7;obtain⟨q,hq⟩:∃q,q=instK s n (lq h) (yQ h) (headW h s) o a d k c7:=⟨_,rfl⟩;rw[<-hq];refine cB.of_le ?_;refine pI [67] (rs:=[.cell 2 45]) zmx func103 ntmps103 rfl rfl rfl rfl rfl ?_;simp -implicitDefEqProofs (disch:=omega) only[go_sem];refine bZ [true] rfl (q1 _) ?_;simp -implicitDefEqProofs (disch:=omega) only[go_sem,ak,ah];refine bE rfl (q2 _) ?_;simp -implicitDefEqProofs (disch:=omega) only[go_sem,ak,ah];refine aB (pX _) ?_;simp -implicitDefEqProofs (disch:=omega) only[go_sem]
 (repeat(with_reducible refine And.intro ?_ ?_;focus first|omega|rfl|assumption|exact⟨_,rfl,rfl⟩|(simp;omega)|(simp;done)))
 refine bE rfl (q3 _) ?_;rcases hh with rfl|rfl|rfl|rfl
 ·simp -implicitDefEqProofs (disch:=omega) only[go_sem,ak,ah];refine aB jH ?_;simp -implicitDefEqProofs (disch:=omega) only[go_sem,ak,ah];refine bE rfl (q4 _) ?_
  cases o with
  |true=>
   have e5:kQ (lq _) 1 c4=(a,c5):=h5;rw[e5] at q5;simp only[ak,ah] at q5;simp -implicitDefEqProofs (disch:=omega) only[go_sem,ak,ah];refine bZ [true] rfl (q5 _) ?_;simp -implicitDefEqProofs (disch:=omega) only[go_sem,ak,ah];refine bE rfl (q6 _) ?_;simp -implicitDefEqProofs (disch:=omega) only[go_sem,ak,ah];refine bE rfl (q7 _) ?_;simp -implicitDefEqProofs (disch:=omega) only[go_sem,ak,ah]
   with_reducible refine aD (fun hb=> ?_) (fun hb=> ?_)<;>have h:=hb<;>(try simp only[wf_preprocess] at h)<;>simp -implicitDefEqProofs (disch:=omega) only[go_sem,hb,ak,ah]<;>(repeat(with_reducible refine And.intro ?_ ?_;focus first|omega|rfl|assumption|exact⟨_,rfl,rfl⟩|(simp;omega)|(simp;done)))
   ·subst h;simp only[instK,reduceIte,Int.reduceEq] at hq;refine bE rfl (iH hB 2 c7 (1+l) j _ (by rw[aJ];exact g _) (by omega)) ?_;simp -implicitDefEqProofs (disch:=omega) only[go_sem,ak,ah];rw[hq]
    first|exact⟨aG rfl,rfl⟩|(refine⟨aG ?_,rfl⟩;simp only[aP.v,List.map_cons,List.map_nil,List.map_append,aU.aj,aT.aj,ay.aj,aC.aj,List.cons_append,List.nil_append];rfl)
   have e0:=h
   with_reducible refine aD (fun hb=> ?_) (fun hb=> ?_)<;>have h:=hb<;>(try simp only[wf_preprocess] at h)<;>simp -implicitDefEqProofs (disch:=omega) only[go_sem,hb,ak,ah]<;>(repeat(with_reducible refine And.intro ?_ ?_;focus first|omega|rfl|assumption|exact⟨_,rfl,rfl⟩|(simp;omega)|(simp;done)))
   ·subst h;simp only[instK,reduceIte,Int.reduceEq] at hq;refine bZ [true] rfl (dQ hB c7 (1+l) j _ GV (by rw[aJ];exact g _) (by decide) (by decide)) ?_;simp -implicitDefEqProofs (disch:=omega) only[go_sem,ak,ah]
    (repeat(with_reducible refine And.intro ?_ ?_;focus first|omega|rfl|assumption|exact⟨_,rfl,rfl⟩|(simp;omega)|(simp;done)))
    first
    |(refine⟨by cases l<;>rfl,?_⟩
      simp -implicitDefEqProofs (disch:=omega) only[go_sem,ak,ah])
    |skip
    rw[hq]
    first|exact⟨aG rfl,rfl⟩|(refine⟨aG ?_,rfl⟩;simp only[aP.v,List.map_cons,List.map_nil,List.map_append,aU.aj,aT.aj,ay.aj,aC.aj,List.cons_append,List.nil_append];rfl)
   have e1:=h
   with_reducible refine aD (fun hb=> ?_) (fun hb=> ?_)<;>have h:=hb<;>(try simp only[wf_preprocess] at h)<;>simp -implicitDefEqProofs (disch:=omega) only[go_sem,hb,ak,ah]<;>(repeat(with_reducible refine And.intro ?_ ?_;focus first|omega|rfl|assumption|exact⟨_,rfl,rfl⟩|(simp;omega)|(simp;done)))
   ·subst h;simp only[instK,reduceIte,Int.reduceEq] at hq;refine bE rfl (iH hB 1 c7 (1+l) j _ (by rw[aJ];exact g _) (by omega)) ?_;simp -implicitDefEqProofs (disch:=omega) only[go_sem,ak,ah]
    (repeat(with_reducible refine And.intro ?_ ?_;focus first|omega|rfl|assumption|exact⟨_,rfl,rfl⟩|(simp;omega)|(simp;done)))
    first
    |(refine⟨by cases l<;>rfl,?_⟩
      simp -implicitDefEqProofs (disch:=omega) only[go_sem,ak,ah])
    |skip
    rw[hq]
    first|exact⟨aG rfl,rfl⟩|(refine⟨aG ?_,rfl⟩;simp only[aP.v,List.map_cons,List.map_nil,List.map_append,aU.aj,aT.aj,ay.aj,aC.aj,List.cons_append,List.nil_append];rfl)
   have e2:=h
   with_reducible refine aD (fun hb=> ?_) (fun hb=> ?_)<;>have h:=hb<;>(try simp only[wf_preprocess] at h)<;>simp -implicitDefEqProofs (disch:=omega) only[go_sem,hb,ak,ah]<;>(repeat(with_reducible refine And.intro ?_ ?_;focus first|omega|rfl|assumption|exact⟨_,rfl,rfl⟩|(simp;omega)|(simp;done)))
   ·exact absurd h hk3
   with_reducible refine aD (fun hb=> ?_) (fun hb=> ?_)<;>have h:=hb<;>(try simp only[wf_preprocess] at h)<;>simp -implicitDefEqProofs (disch:=omega) only[go_sem,hb,ak,ah]<;>(repeat(with_reducible refine And.intro ?_ ?_;focus first|omega|rfl|assumption|exact⟨_,rfl,rfl⟩|(simp;omega)|(simp;done)))
   ·subst h;simp only[instK,reduceIte,Int.reduceEq] at hq;refine aB jH ?_;simp -implicitDefEqProofs (disch:=omega) only[go_sem,ak,ah];rw[hq]
    first|exact⟨aG rfl,rfl⟩|(refine⟨aG ?_,rfl⟩;simp only[aP.v,List.map_cons,List.map_nil,List.map_append,aU.aj,aT.aj,ay.aj,aC.aj,List.cons_append,List.nil_append];rfl)
   have e4:=h
   with_reducible refine aD (fun hb=> ?_) (fun hb=> ?_)<;>have h:=hb<;>(try simp only[wf_preprocess] at h)<;>simp -implicitDefEqProofs (disch:=omega) only[go_sem,hb,ak,ah]<;>(repeat(with_reducible refine And.intro ?_ ?_;focus first|omega|rfl|assumption|exact⟨_,rfl,rfl⟩|(simp;omega)|(simp;done)))
   ·exact absurd h hk5
   simp only[instK,if_neg e0,if_neg e1,if_neg e2,if_neg hk3,if_neg e4,if_neg hk5] at hq;rw[hq]
   first|exact⟨aG rfl,rfl⟩|(refine⟨aG ?_,rfl⟩;simp only[aP.v,List.map_cons,List.map_nil,List.map_append,aU.aj,aT.aj,ay.aj,aC.aj,List.cons_append,List.nil_append];rfl)
  |false=>
   obtain⟨rfl,rfl⟩:zT=a/\c4=c5:=by
    have e5:(zT,c4)=(a,c5):=h5;cases e5;exact⟨rfl,rfl⟩
   simp -implicitDefEqProofs (disch:=omega) only[go_sem,ak,ah];refine bE rfl (q6 _) ?_;simp -implicitDefEqProofs (disch:=omega) only[go_sem,ak,ah];refine bE rfl (q7 _) ?_;simp -implicitDefEqProofs (disch:=omega) only[go_sem,ak,ah]
   with_reducible refine aD (fun hb=> ?_) (fun hb=> ?_)<;>have h:=hb<;>(try simp only[wf_preprocess] at h)<;>simp -implicitDefEqProofs (disch:=omega) only[go_sem,hb,ak,ah]<;>(repeat(with_reducible refine And.intro ?_ ?_;focus first|omega|rfl|assumption|exact⟨_,rfl,rfl⟩|(simp;omega)|(simp;done)))
   ·subst h;simp only[instK,reduceIte,Int.reduceEq] at hq;refine bE rfl (iH hB 2 c7 (1+l) j _ (by rw[aJ];exact g _) (by omega)) ?_;simp -implicitDefEqProofs (disch:=omega) only[go_sem,ak,ah];rw[hq]
    first|exact⟨aG rfl,rfl⟩|(refine⟨aG ?_,rfl⟩;simp only[aP.v,List.map_cons,List.map_nil,List.map_append,aU.aj,aT.aj,ay.aj,aC.aj,List.cons_append,List.nil_append];rfl)
   have e0:=h
   with_reducible refine aD (fun hb=> ?_) (fun hb=> ?_)<;>have h:=hb<;>(try simp only[wf_preprocess] at h)<;>simp -implicitDefEqProofs (disch:=omega) only[go_sem,hb,ak,ah]<;>(repeat(with_reducible refine And.intro ?_ ?_;focus first|omega|rfl|assumption|exact⟨_,rfl,rfl⟩|(simp;omega)|(simp;done)))
   ·subst h;simp only[instK,reduceIte,Int.reduceEq] at hq;refine bZ [true] rfl (dQ hB c7 (1+l) j _ GV (by rw[aJ];exact g _) (by decide) (by decide)) ?_;simp -implicitDefEqProofs (disch:=omega) only[go_sem,ak,ah]
    (repeat(with_reducible refine And.intro ?_ ?_;focus first|omega|rfl|assumption|exact⟨_,rfl,rfl⟩|(simp;omega)|(simp;done)))
    first
    |(refine⟨by cases l<;>rfl,?_⟩
      simp -implicitDefEqProofs (disch:=omega) only[go_sem,ak,ah])
    |skip
    rw[hq]
    first|exact⟨aG rfl,rfl⟩|(refine⟨aG ?_,rfl⟩;simp only[aP.v,List.map_cons,List.map_nil,List.map_append,aU.aj,aT.aj,ay.aj,aC.aj,List.cons_append,List.nil_append];rfl)
   have e1:=h
   with_reducible refine aD (fun hb=> ?_) (fun hb=> ?_)<;>have h:=hb<;>(try simp only[wf_preprocess] at h)<;>simp -implicitDefEqProofs (disch:=omega) only[go_sem,hb,ak,ah]<;>(repeat(with_reducible refine And.intro ?_ ?_;focus first|omega|rfl|assumption|exact⟨_,rfl,rfl⟩|(simp;omega)|(simp;done)))
   ·subst h;simp only[instK,reduceIte,Int.reduceEq] at hq;refine bE rfl (iH hB 1 c7 (1+l) j _ (by rw[aJ];exact g _) (by omega)) ?_;simp -implicitDefEqProofs (disch:=omega) only[go_sem,ak,ah]
    (repeat(with_reducible refine And.intro ?_ ?_;focus first|omega|rfl|assumption|exact⟨_,rfl,rfl⟩|(simp;omega)|(simp;done)))
    first
    |(refine⟨by cases l<;>rfl,?_⟩
      simp -implicitDefEqProofs (disch:=omega) only[go_sem,ak,ah])
    |skip
    rw[hq]
    first|exact⟨aG rfl,rfl⟩|(refine⟨aG ?_,rfl⟩;simp only[aP.v,List.map_cons,List.map_nil,List.map_append,aU.aj,aT.aj,ay.aj,aC.aj,List.cons_append,List.nil_append];rfl)
   have e2:=h
   with_reducible refine aD (fun hb=> ?_) (fun hb=> ?_)<;>have h:=hb<;>(try simp only[wf_preprocess] at h)<;>simp -implicitDefEqProofs (disch:=omega) only[go_sem,hb,ak,ah]<;>(repeat(with_reducible refine And.intro ?_ ?_;focus first|omega|rfl|assumption|exact⟨_,rfl,rfl⟩|(simp;omega)|(simp;done)))
   ·exact absurd h hk3
   with_reducible refine aD (fun hb=> ?_) (fun hb=> ?_)<;>have h:=hb<;>(try simp only[wf_preprocess] at h)<;>simp -implicitDefEqProofs (disch:=omega) only[go_sem,hb,ak,ah]<;>(repeat(with_reducible refine And.intro ?_ ?_;focus first|omega|rfl|assumption|exact⟨_,rfl,rfl⟩|(simp;omega)|(simp;done)))
   ·subst h;simp only[instK,reduceIte,Int.reduceEq] at hq;refine aB jH ?_;simp -implicitDefEqProofs (disch:=omega) only[go_sem,ak,ah];rw[hq]
    first|exact⟨aG rfl,rfl⟩|(refine⟨aG ?_,rfl⟩;simp only[aP.v,List.map_cons,List.map_nil,List.map_append,aU.aj,aT.aj,ay.aj,aC.aj,List.cons_append,List.nil_append];rfl)
   have e4:=h
   with_reducible refine aD (fun hb=> ?_) (fun hb=> ?_)<;>have h:=hb<;>(try simp only[wf_preprocess] at h)<;>simp -implicitDefEqProofs (disch:=omega) only[go_sem,hb,ak,ah]<;>(repeat(with_reducible refine And.intro ?_ ?_;focus first|omega|rfl|assumption|exact⟨_,rfl,rfl⟩|(simp;omega)|(simp;done)))
   ·exact absurd h hk5
   simp only[instK,if_neg e0,if_neg e1,if_neg e2,if_neg hk3,if_neg e4,if_neg hk5] at hq;rw[hq]
   first|exact⟨aG rfl,rfl⟩|(refine⟨aG ?_,rfl⟩;simp only[aP.v,List.map_cons,List.map_nil,List.map_append,aU.aj,aT.aj,ay.aj,aC.aj,List.cons_append,List.nil_append];rfl)
 ·simp -implicitDefEqProofs (disch:=omega) only[go_sem,ak,ah];refine aB (fU _) ?_;simp -implicitDefEqProofs (disch:=omega) only[go_sem]
  (repeat(with_reducible refine And.intro ?_ ?_;focus first|omega|rfl|assumption|exact⟨_,rfl,rfl⟩|(simp;omega)|(simp;done)))
  refine aB (vO [108,105,115,116] [nO [97]] rfl (by decide) (.inl rfl)) ?_;simp -implicitDefEqProofs (disch:=omega) only[go_sem,ak,ah];refine aB (fU _) ?_;simp -implicitDefEqProofs (disch:=omega) only[go_sem,ak,ah]
  (repeat(with_reducible refine And.intro ?_ ?_;focus first|omega|rfl|assumption|exact⟨_,rfl,rfl⟩|(simp;omega)|(simp;done)))
  first
  |(refine⟨by rfl,?_⟩
    simp -implicitDefEqProofs (disch:=omega) only[go_sem,ak,ah])
  |skip
  refine bE rfl (q4 _) ?_
  cases o with
  |true=>
   have e5:kQ (lq _) 1 c4=(a,c5):=h5;rw[e5] at q5;simp only[ak,ah] at q5;simp -implicitDefEqProofs (disch:=omega) only[go_sem,ak,ah];refine bZ [true] rfl (q5 _) ?_;simp -implicitDefEqProofs (disch:=omega) only[go_sem,ak,ah];refine bE rfl (q6 _) ?_;simp -implicitDefEqProofs (disch:=omega) only[go_sem,ak,ah];refine bE rfl (q7 _) ?_;simp -implicitDefEqProofs (disch:=omega) only[go_sem,ak,ah]
   with_reducible refine aD (fun hb=> ?_) (fun hb=> ?_)<;>have h:=hb<;>(try simp only[wf_preprocess] at h)<;>simp -implicitDefEqProofs (disch:=omega) only[go_sem,hb,ak,ah]<;>(repeat(with_reducible refine And.intro ?_ ?_;focus first|omega|rfl|assumption|exact⟨_,rfl,rfl⟩|(simp;omega)|(simp;done)))
   ·subst h;simp only[instK,reduceIte,Int.reduceEq] at hq;refine bE rfl (iH hB 2 c7 (1+l) j _ (by rw[aJ];exact g _) (by omega)) ?_;simp -implicitDefEqProofs (disch:=omega) only[go_sem,ak,ah];rw[hq]
    first|exact⟨aG rfl,rfl⟩|(refine⟨aG ?_,rfl⟩;simp only[aP.v,List.map_cons,List.map_nil,List.map_append,aU.aj,aT.aj,ay.aj,aC.aj,List.cons_append,List.nil_append];rfl)
   have e0:=h
   with_reducible refine aD (fun hb=> ?_) (fun hb=> ?_)<;>have h:=hb<;>(try simp only[wf_preprocess] at h)<;>simp -implicitDefEqProofs (disch:=omega) only[go_sem,hb,ak,ah]<;>(repeat(with_reducible refine And.intro ?_ ?_;focus first|omega|rfl|assumption|exact⟨_,rfl,rfl⟩|(simp;omega)|(simp;done)))
   ·subst h;simp only[instK,reduceIte,Int.reduceEq] at hq;refine bZ [true] rfl (dQ hB c7 (1+l) j _ GV (by rw[aJ];exact g _) (by decide) (by decide)) ?_;simp -implicitDefEqProofs (disch:=omega) only[go_sem,ak,ah]
    (repeat(with_reducible refine And.intro ?_ ?_;focus first|omega|rfl|assumption|exact⟨_,rfl,rfl⟩|(simp;omega)|(simp;done)))
    first
    |(refine⟨by cases l<;>rfl,?_⟩
      simp -implicitDefEqProofs (disch:=omega) only[go_sem,ak,ah])
    |skip
    rw[hq]
    first|exact⟨aG rfl,rfl⟩|(refine⟨aG ?_,rfl⟩;simp only[aP.v,List.map_cons,List.map_nil,List.map_append,aU.aj,aT.aj,ay.aj,aC.aj,List.cons_append,List.nil_append];rfl)
   have e1:=h
   with_reducible refine aD (fun hb=> ?_) (fun hb=> ?_)<;>have h:=hb<;>(try simp only[wf_preprocess] at h)<;>simp -implicitDefEqProofs (disch:=omega) only[go_sem,hb,ak,ah]<;>(repeat(with_reducible refine And.intro ?_ ?_;focus first|omega|rfl|assumption|exact⟨_,rfl,rfl⟩|(simp;omega)|(simp;done)))
   ·subst h;simp only[instK,reduceIte,Int.reduceEq] at hq;refine bE rfl (iH hB 1 c7 (1+l) j _ (by rw[aJ];exact g _) (by omega)) ?_;simp -implicitDefEqProofs (disch:=omega) only[go_sem,ak,ah]
    (repeat(with_reducible refine And.intro ?_ ?_;focus first|omega|rfl|assumption|exact⟨_,rfl,rfl⟩|(simp;omega)|(simp;done)))
    first
    |(refine⟨by cases l<;>rfl,?_⟩
      simp -implicitDefEqProofs (disch:=omega) only[go_sem,ak,ah])
    |skip
    rw[hq]
    first|exact⟨aG rfl,rfl⟩|(refine⟨aG ?_,rfl⟩;simp only[aP.v,List.map_cons,List.map_nil,List.map_append,aU.aj,aT.aj,ay.aj,aC.aj,List.cons_append,List.nil_append];rfl)
   have e2:=h
   with_reducible refine aD (fun hb=> ?_) (fun hb=> ?_)<;>have h:=hb<;>(try simp only[wf_preprocess] at h)<;>simp -implicitDefEqProofs (disch:=omega) only[go_sem,hb,ak,ah]<;>(repeat(with_reducible refine And.intro ?_ ?_;focus first|omega|rfl|assumption|exact⟨_,rfl,rfl⟩|(simp;omega)|(simp;done)))
   ·exact absurd h hk3
   with_reducible refine aD (fun hb=> ?_) (fun hb=> ?_)<;>have h:=hb<;>(try simp only[wf_preprocess] at h)<;>simp -implicitDefEqProofs (disch:=omega) only[go_sem,hb,ak,ah]<;>(repeat(with_reducible refine And.intro ?_ ?_;focus first|omega|rfl|assumption|exact⟨_,rfl,rfl⟩|(simp;omega)|(simp;done)))
   ·subst h;simp only[instK,reduceIte,Int.reduceEq] at hq;refine aB jH ?_;simp -implicitDefEqProofs (disch:=omega) only[go_sem,ak,ah];rw[hq]
    first|exact⟨aG rfl,rfl⟩|(refine⟨aG ?_,rfl⟩;simp only[aP.v,List.map_cons,List.map_nil,List.map_append,aU.aj,aT.aj,ay.aj,aC.aj,List.cons_append,List.nil_append];rfl)
   have e4:=h
   with_reducible refine aD (fun hb=> ?_) (fun hb=> ?_)<;>have h:=hb<;>(try simp only[wf_preprocess] at h)<;>simp -implicitDefEqProofs (disch:=omega) only[go_sem,hb,ak,ah]<;>(repeat(with_reducible refine And.intro ?_ ?_;focus first|omega|rfl|assumption|exact⟨_,rfl,rfl⟩|(simp;omega)|(simp;done)))
   ·exact absurd h hk5
   simp only[instK,if_neg e0,if_neg e1,if_neg e2,if_neg hk3,if_neg e4,if_neg hk5] at hq;rw[hq]
   first|exact⟨aG rfl,rfl⟩|(refine⟨aG ?_,rfl⟩;simp only[aP.v,List.map_cons,List.map_nil,List.map_append,aU.aj,aT.aj,ay.aj,aC.aj,List.cons_append,List.nil_append];rfl)
  |false=>
   obtain⟨rfl,rfl⟩:zT=a/\c4=c5:=by
    have e5:(zT,c4)=(a,c5):=h5;cases e5;exact⟨rfl,rfl⟩
   simp -implicitDefEqProofs (disch:=omega) only[go_sem,ak,ah];refine bE rfl (q6 _) ?_;simp -implicitDefEqProofs (disch:=omega) only[go_sem,ak,ah];refine bE rfl (q7 _) ?_;simp -implicitDefEqProofs (disch:=omega) only[go_sem,ak,ah]
   with_reducible refine aD (fun hb=> ?_) (fun hb=> ?_)<;>have h:=hb<;>(try simp only[wf_preprocess] at h)<;>simp -implicitDefEqProofs (disch:=omega) only[go_sem,hb,ak,ah]<;>(repeat(with_reducible refine And.intro ?_ ?_;focus first|omega|rfl|assumption|exact⟨_,rfl,rfl⟩|(simp;omega)|(simp;done)))
   ·subst h;simp only[instK,reduceIte,Int.reduceEq] at hq;refine bE rfl (iH hB 2 c7 (1+l) j _ (by rw[aJ];exact g _) (by omega)) ?_;simp -implicitDefEqProofs (disch:=omega) only[go_sem,ak,ah];rw[hq]
    first|exact⟨aG rfl,rfl⟩|(refine⟨aG ?_,rfl⟩;simp only[aP.v,List.map_cons,List.map_nil,List.map_append,aU.aj,aT.aj,ay.aj,aC.aj,List.cons_append,List.nil_append];rfl)
   have e0:=h
   with_reducible refine aD (fun hb=> ?_) (fun hb=> ?_)<;>have h:=hb<;>(try simp only[wf_preprocess] at h)<;>simp -implicitDefEqProofs (disch:=omega) only[go_sem,hb,ak,ah]<;>(repeat(with_reducible refine And.intro ?_ ?_;focus first|omega|rfl|assumption|exact⟨_,rfl,rfl⟩|(simp;omega)|(simp;done)))
   ·subst h;simp only[instK,reduceIte,Int.reduceEq] at hq;refine bZ [true] rfl (dQ hB c7 (1+l) j _ GV (by rw[aJ];exact g _) (by decide) (by decide)) ?_;simp -implicitDefEqProofs (disch:=omega) only[go_sem,ak,ah]
    (repeat(with_reducible refine And.intro ?_ ?_;focus first|omega|rfl|assumption|exact⟨_,rfl,rfl⟩|(simp;omega)|(simp;done)))
    first
    |(refine⟨by cases l<;>rfl,?_⟩
      simp -implicitDefEqProofs (disch:=omega) only[go_sem,ak,ah])
    |skip
    rw[hq]
    first|exact⟨aG rfl,rfl⟩|(refine⟨aG ?_,rfl⟩;simp only[aP.v,List.map_cons,List.map_nil,List.map_append,aU.aj,aT.aj,ay.aj,aC.aj,List.cons_append,List.nil_append];rfl)
   have e1:=h
   with_reducible refine aD (fun hb=> ?_) (fun hb=> ?_)<;>have h:=hb<;>(try simp only[wf_preprocess] at h)<;>simp -implicitDefEqProofs (disch:=omega) only[go_sem,hb,ak,ah]<;>(repeat(with_reducible refine And.intro ?_ ?_;focus first|omega|rfl|assumption|exact⟨_,rfl,rfl⟩|(simp;omega)|(simp;done)))
   ·subst h;simp only[instK,reduceIte,Int.reduceEq] at hq;refine bE rfl (iH hB 1 c7 (1+l) j _ (by rw[aJ];exact g _) (by omega)) ?_;simp -implicitDefEqProofs (disch:=omega) only[go_sem,ak,ah]
    (repeat(with_reducible refine And.intro ?_ ?_;focus first|omega|rfl|assumption|exact⟨_,rfl,rfl⟩|(simp;omega)|(simp;done)))
    first
    |(refine⟨by cases l<;>rfl,?_⟩
      simp -implicitDefEqProofs (disch:=omega) only[go_sem,ak,ah])
    |skip
    rw[hq]
    first|exact⟨aG rfl,rfl⟩|(refine⟨aG ?_,rfl⟩;simp only[aP.v,List.map_cons,List.map_nil,List.map_append,aU.aj,aT.aj,ay.aj,aC.aj,List.cons_append,List.nil_append];rfl)
   have e2:=h
   with_reducible refine aD (fun hb=> ?_) (fun hb=> ?_)<;>have h:=hb<;>(try simp only[wf_preprocess] at h)<;>simp -implicitDefEqProofs (disch:=omega) only[go_sem,hb,ak,ah]<;>(repeat(with_reducible refine And.intro ?_ ?_;focus first|omega|rfl|assumption|exact⟨_,rfl,rfl⟩|(simp;omega)|(simp;done)))
   ·exact absurd h hk3
   with_reducible refine aD (fun hb=> ?_) (fun hb=> ?_)<;>have h:=hb<;>(try simp only[wf_preprocess] at h)<;>simp -implicitDefEqProofs (disch:=omega) only[go_sem,hb,ak,ah]<;>(repeat(with_reducible refine And.intro ?_ ?_;focus first|omega|rfl|assumption|exact⟨_,rfl,rfl⟩|(simp;omega)|(simp;done)))
   ·subst h;simp only[instK,reduceIte,Int.reduceEq] at hq;refine aB jH ?_;simp -implicitDefEqProofs (disch:=omega) only[go_sem,ak,ah];rw[hq]
    first|exact⟨aG rfl,rfl⟩|(refine⟨aG ?_,rfl⟩;simp only[aP.v,List.map_cons,List.map_nil,List.map_append,aU.aj,aT.aj,ay.aj,aC.aj,List.cons_append,List.nil_append];rfl)
   have e4:=h
   with_reducible refine aD (fun hb=> ?_) (fun hb=> ?_)<;>have h:=hb<;>(try simp only[wf_preprocess] at h)<;>simp -implicitDefEqProofs (disch:=omega) only[go_sem,hb,ak,ah]<;>(repeat(with_reducible refine And.intro ?_ ?_;focus first|omega|rfl|assumption|exact⟨_,rfl,rfl⟩|(simp;omega)|(simp;done)))
   ·exact absurd h hk5
   simp only[instK,if_neg e0,if_neg e1,if_neg e2,if_neg hk3,if_neg e4,if_neg hk5] at hq;rw[hq]
   first|exact⟨aG rfl,rfl⟩|(refine⟨aG ?_,rfl⟩;simp only[aP.v,List.map_cons,List.map_nil,List.map_append,aU.aj,aT.aj,ay.aj,aC.aj,List.cons_append,List.nil_append];rfl)
 ·simp -implicitDefEqProofs (disch:=omega) only[go_sem,ak,ah];refine aB (fU _) ?_;simp -implicitDefEqProofs (disch:=omega) only[go_sem];refine aB (fU _) ?_;simp -implicitDefEqProofs (disch:=omega) only[go_sem]
  (repeat(with_reducible refine And.intro ?_ ?_;focus first|omega|rfl|assumption|exact⟨_,rfl,rfl⟩|(simp;omega)|(simp;done)))
  refine aB (vO [112,97,105,114] [nO [97],nO [98]] rfl (by decide) (.inl rfl)) ?_;simp -implicitDefEqProofs (disch:=omega) only[go_sem,ak,ah];refine bE rfl (q4 _) ?_
  cases o with
  |true=>
   have e5:kQ (lq _) 1 c4=(a,c5):=h5;rw[e5] at q5;simp only[ak,ah] at q5;simp -implicitDefEqProofs (disch:=omega) only[go_sem,ak,ah];refine bZ [true] rfl (q5 _) ?_;simp -implicitDefEqProofs (disch:=omega) only[go_sem,ak,ah];refine bE rfl (q6 _) ?_;simp -implicitDefEqProofs (disch:=omega) only[go_sem,ak,ah];refine bE rfl (q7 _) ?_;simp -implicitDefEqProofs (disch:=omega) only[go_sem,ak,ah]
   with_reducible refine aD (fun hb=> ?_) (fun hb=> ?_)<;>have h:=hb<;>(try simp only[wf_preprocess] at h)<;>simp -implicitDefEqProofs (disch:=omega) only[go_sem,hb,ak,ah]<;>(repeat(with_reducible refine And.intro ?_ ?_;focus first|omega|rfl|assumption|exact⟨_,rfl,rfl⟩|(simp;omega)|(simp;done)))
   ·subst h;simp only[instK,reduceIte,Int.reduceEq] at hq;refine bE rfl (iH hB 2 c7 (1+l) j _ (by rw[aJ];exact g _) (by omega)) ?_;simp -implicitDefEqProofs (disch:=omega) only[go_sem,ak,ah];rw[hq]
    first|exact⟨aG rfl,rfl⟩|(refine⟨aG ?_,rfl⟩;simp only[aP.v,List.map_cons,List.map_nil,List.map_append,aU.aj,aT.aj,ay.aj,aC.aj,List.cons_append,List.nil_append];rfl)
   have e0:=h
   with_reducible refine aD (fun hb=> ?_) (fun hb=> ?_)<;>have h:=hb<;>(try simp only[wf_preprocess] at h)<;>simp -implicitDefEqProofs (disch:=omega) only[go_sem,hb,ak,ah]<;>(repeat(with_reducible refine And.intro ?_ ?_;focus first|omega|rfl|assumption|exact⟨_,rfl,rfl⟩|(simp;omega)|(simp;done)))
   ·subst h;simp only[instK,reduceIte,Int.reduceEq] at hq;refine bZ [true] rfl (dQ hB c7 (1+l) j _ GV (by rw[aJ];exact g _) (by decide) (by decide)) ?_;simp -implicitDefEqProofs (disch:=omega) only[go_sem,ak,ah]
    (repeat(with_reducible refine And.intro ?_ ?_;focus first|omega|rfl|assumption|exact⟨_,rfl,rfl⟩|(simp;omega)|(simp;done)))
    first
    |(refine⟨by cases l<;>rfl,?_⟩
      simp -implicitDefEqProofs (disch:=omega) only[go_sem,ak,ah])
    |skip
    rw[hq]
    first|exact⟨aG rfl,rfl⟩|(refine⟨aG ?_,rfl⟩;simp only[aP.v,List.map_cons,List.map_nil,List.map_append,aU.aj,aT.aj,ay.aj,aC.aj,List.cons_append,List.nil_append];rfl)
   have e1:=h
   with_reducible refine aD (fun hb=> ?_) (fun hb=> ?_)<;>have h:=hb<;>(try simp only[wf_preprocess] at h)<;>simp -implicitDefEqProofs (disch:=omega) only[go_sem,hb,ak,ah]<;>(repeat(with_reducible refine And.intro ?_ ?_;focus first|omega|rfl|assumption|exact⟨_,rfl,rfl⟩|(simp;omega)|(simp;done)))
   ·subst h;simp only[instK,reduceIte,Int.reduceEq] at hq;refine bE rfl (iH hB 1 c7 (1+l) j _ (by rw[aJ];exact g _) (by omega)) ?_;simp -implicitDefEqProofs (disch:=omega) only[go_sem,ak,ah]
    (repeat(with_reducible refine And.intro ?_ ?_;focus first|omega|rfl|assumption|exact⟨_,rfl,rfl⟩|(simp;omega)|(simp;done)))
    first
    |(refine⟨by cases l<;>rfl,?_⟩
      simp -implicitDefEqProofs (disch:=omega) only[go_sem,ak,ah])
    |skip
    rw[hq]
    first|exact⟨aG rfl,rfl⟩|(refine⟨aG ?_,rfl⟩;simp only[aP.v,List.map_cons,List.map_nil,List.map_append,aU.aj,aT.aj,ay.aj,aC.aj,List.cons_append,List.nil_append];rfl)
   have e2:=h
   with_reducible refine aD (fun hb=> ?_) (fun hb=> ?_)<;>have h:=hb<;>(try simp only[wf_preprocess] at h)<;>simp -implicitDefEqProofs (disch:=omega) only[go_sem,hb,ak,ah]<;>(repeat(with_reducible refine And.intro ?_ ?_;focus first|omega|rfl|assumption|exact⟨_,rfl,rfl⟩|(simp;omega)|(simp;done)))
   ·exact absurd h hk3
   with_reducible refine aD (fun hb=> ?_) (fun hb=> ?_)<;>have h:=hb<;>(try simp only[wf_preprocess] at h)<;>simp -implicitDefEqProofs (disch:=omega) only[go_sem,hb,ak,ah]<;>(repeat(with_reducible refine And.intro ?_ ?_;focus first|omega|rfl|assumption|exact⟨_,rfl,rfl⟩|(simp;omega)|(simp;done)))
   ·subst h;simp only[instK,reduceIte,Int.reduceEq] at hq;refine aB jH ?_;simp -implicitDefEqProofs (disch:=omega) only[go_sem,ak,ah];rw[hq]
    first|exact⟨aG rfl,rfl⟩|(refine⟨aG ?_,rfl⟩;simp only[aP.v,List.map_cons,List.map_nil,List.map_append,aU.aj,aT.aj,ay.aj,aC.aj,List.cons_append,List.nil_append];rfl)
   have e4:=h
   with_reducible refine aD (fun hb=> ?_) (fun hb=> ?_)<;>have h:=hb<;>(try simp only[wf_preprocess] at h)<;>simp -implicitDefEqProofs (disch:=omega) only[go_sem,hb,ak,ah]<;>(repeat(with_reducible refine And.intro ?_ ?_;focus first|omega|rfl|assumption|exact⟨_,rfl,rfl⟩|(simp;omega)|(simp;done)))
   ·exact absurd h hk5
   simp only[instK,if_neg e0,if_neg e1,if_neg e2,if_neg hk3,if_neg e4,if_neg hk5] at hq;rw[hq]
   first|exact⟨aG rfl,rfl⟩|(refine⟨aG ?_,rfl⟩;simp only[aP.v,List.map_cons,List.map_nil,List.map_append,aU.aj,aT.aj,ay.aj,aC.aj,List.cons_append,List.nil_append];rfl)
  |false=>
   obtain⟨rfl,rfl⟩:zT=a/\c4=c5:=by
    have e5:(zT,c4)=(a,c5):=h5;cases e5;exact⟨rfl,rfl⟩
   simp -implicitDefEqProofs (disch:=omega) only[go_sem,ak,ah];refine bE rfl (q6 _) ?_;simp -implicitDefEqProofs (disch:=omega) only[go_sem,ak,ah];refine bE rfl (q7 _) ?_;simp -implicitDefEqProofs (disch:=omega) only[go_sem,ak,ah]
   with_reducible refine aD (fun hb=> ?_) (fun hb=> ?_)<;>have h:=hb<;>(try simp only[wf_preprocess] at h)<;>simp -implicitDefEqProofs (disch:=omega) only[go_sem,hb,ak,ah]<;>(repeat(with_reducible refine And.intro ?_ ?_;focus first|omega|rfl|assumption|exact⟨_,rfl,rfl⟩|(simp;omega)|(simp;done)))
   ·subst h;simp only[instK,reduceIte,Int.reduceEq] at hq;refine bE rfl (iH hB 2 c7 (1+l) j _ (by rw[aJ];exact g _) (by omega)) ?_;simp -implicitDefEqProofs (disch:=omega) only[go_sem,ak,ah];rw[hq]
    first|exact⟨aG rfl,rfl⟩|(refine⟨aG ?_,rfl⟩;simp only[aP.v,List.map_cons,List.map_nil,List.map_append,aU.aj,aT.aj,ay.aj,aC.aj,List.cons_append,List.nil_append];rfl)
   have e0:=h
   with_reducible refine aD (fun hb=> ?_) (fun hb=> ?_)<;>have h:=hb<;>(try simp only[wf_preprocess] at h)<;>simp -implicitDefEqProofs (disch:=omega) only[go_sem,hb,ak,ah]<;>(repeat(with_reducible refine And.intro ?_ ?_;focus first|omega|rfl|assumption|exact⟨_,rfl,rfl⟩|(simp;omega)|(simp;done)))
   ·subst h;simp only[instK,reduceIte,Int.reduceEq] at hq;refine bZ [true] rfl (dQ hB c7 (1+l) j _ GV (by rw[aJ];exact g _) (by decide) (by decide)) ?_;simp -implicitDefEqProofs (disch:=omega) only[go_sem,ak,ah]
    (repeat(with_reducible refine And.intro ?_ ?_;focus first|omega|rfl|assumption|exact⟨_,rfl,rfl⟩|(simp;omega)|(simp;done)))
    first
    |(refine⟨by cases l<;>rfl,?_⟩
      simp -implicitDefEqProofs (disch:=omega) only[go_sem,ak,ah])
    |skip
    rw[hq]
    first|exact⟨aG rfl,rfl⟩|(refine⟨aG ?_,rfl⟩;simp only[aP.v,List.map_cons,List.map_nil,List.map_append,aU.aj,aT.aj,ay.aj,aC.aj,List.cons_append,List.nil_append];rfl)
   have e1:=h
   with_reducible refine aD (fun hb=> ?_) (fun hb=> ?_)<;>have h:=hb<;>(try simp only[wf_preprocess] at h)<;>simp -implicitDefEqProofs (disch:=omega) only[go_sem,hb,ak,ah]<;>(repeat(with_reducible refine And.intro ?_ ?_;focus first|omega|rfl|assumption|exact⟨_,rfl,rfl⟩|(simp;omega)|(simp;done)))
   ·subst h;simp only[instK,reduceIte,Int.reduceEq] at hq;refine bE rfl (iH hB 1 c7 (1+l) j _ (by rw[aJ];exact g _) (by omega)) ?_;simp -implicitDefEqProofs (disch:=omega) only[go_sem,ak,ah]
    (repeat(with_reducible refine And.intro ?_ ?_;focus first|omega|rfl|assumption|exact⟨_,rfl,rfl⟩|(simp;omega)|(simp;done)))
    first
    |(refine⟨by cases l<;>rfl,?_⟩
      simp -implicitDefEqProofs (disch:=omega) only[go_sem,ak,ah])
    |skip
    rw[hq]
    first|exact⟨aG rfl,rfl⟩|(refine⟨aG ?_,rfl⟩;simp only[aP.v,List.map_cons,List.map_nil,List.map_append,aU.aj,aT.aj,ay.aj,aC.aj,List.cons_append,List.nil_append];rfl)
   have e2:=h
   with_reducible refine aD (fun hb=> ?_) (fun hb=> ?_)<;>have h:=hb<;>(try simp only[wf_preprocess] at h)<;>simp -implicitDefEqProofs (disch:=omega) only[go_sem,hb,ak,ah]<;>(repeat(with_reducible refine And.intro ?_ ?_;focus first|omega|rfl|assumption|exact⟨_,rfl,rfl⟩|(simp;omega)|(simp;done)))
   ·exact absurd h hk3
   with_reducible refine aD (fun hb=> ?_) (fun hb=> ?_)<;>have h:=hb<;>(try simp only[wf_preprocess] at h)<;>simp -implicitDefEqProofs (disch:=omega) only[go_sem,hb,ak,ah]<;>(repeat(with_reducible refine And.intro ?_ ?_;focus first|omega|rfl|assumption|exact⟨_,rfl,rfl⟩|(simp;omega)|(simp;done)))
   ·subst h;simp only[instK,reduceIte,Int.reduceEq] at hq;refine aB jH ?_;simp -implicitDefEqProofs (disch:=omega) only[go_sem,ak,ah];rw[hq]
    first|exact⟨aG rfl,rfl⟩|(refine⟨aG ?_,rfl⟩;simp only[aP.v,List.map_cons,List.map_nil,List.map_append,aU.aj,aT.aj,ay.aj,aC.aj,List.cons_append,List.nil_append];rfl)
   have e4:=h
   with_reducible refine aD (fun hb=> ?_) (fun hb=> ?_)<;>have h:=hb<;>(try simp only[wf_preprocess] at h)<;>simp -implicitDefEqProofs (disch:=omega) only[go_sem,hb,ak,ah]<;>(repeat(with_reducible refine And.intro ?_ ?_;focus first|omega|rfl|assumption|exact⟨_,rfl,rfl⟩|(simp;omega)|(simp;done)))
   ·exact absurd h hk5
   simp only[instK,if_neg e0,if_neg e1,if_neg e2,if_neg hk3,if_neg e4,if_neg hk5] at hq;rw[hq]
   first|exact⟨aG rfl,rfl⟩|(refine⟨aG ?_,rfl⟩;simp only[aP.v,List.map_cons,List.map_nil,List.map_append,aU.aj,aT.aj,ay.aj,aC.aj,List.cons_append,List.nil_append];rfl)
 ·simp -implicitDefEqProofs (disch:=omega) only[go_sem,ak,ah];refine aB (fU _) ?_;simp -implicitDefEqProofs (disch:=omega) only[go_sem];refine aB (fU _) ?_;simp -implicitDefEqProofs (disch:=omega) only[go_sem]
  (repeat(with_reducible refine And.intro ?_ ?_;focus first|omega|rfl|assumption|exact⟨_,rfl,rfl⟩|(simp;omega)|(simp;done)))
  refine bE rfl (q4 _) ?_
  cases o with
  |true=>
   have e5:kQ (lq _) 1 c4=(a,c5):=h5;rw[e5] at q5;simp only[ak,ah] at q5;simp -implicitDefEqProofs (disch:=omega) only[go_sem,ak,ah];refine bZ [true] rfl (q5 _) ?_;simp -implicitDefEqProofs (disch:=omega) only[go_sem,ak,ah];refine bE rfl (q6 _) ?_;simp -implicitDefEqProofs (disch:=omega) only[go_sem,ak,ah];refine bE rfl (q7 _) ?_;simp -implicitDefEqProofs (disch:=omega) only[go_sem,ak,ah]
   with_reducible refine aD (fun hb=> ?_) (fun hb=> ?_)<;>have h:=hb<;>(try simp only[wf_preprocess] at h)<;>simp -implicitDefEqProofs (disch:=omega) only[go_sem,hb,ak,ah]<;>(repeat(with_reducible refine And.intro ?_ ?_;focus first|omega|rfl|assumption|exact⟨_,rfl,rfl⟩|(simp;omega)|(simp;done)))
   ·subst h;simp only[instK,reduceIte,Int.reduceEq] at hq;refine bE rfl (iH hB 2 c7 (1+l) j _ (by rw[aJ];exact g _) (by omega)) ?_;simp -implicitDefEqProofs (disch:=omega) only[go_sem,ak,ah];rw[hq]
    first|exact⟨aG rfl,rfl⟩|(refine⟨aG ?_,rfl⟩;simp only[aP.v,List.map_cons,List.map_nil,List.map_append,aU.aj,aT.aj,ay.aj,aC.aj,List.cons_append,List.nil_append];rfl)
   have e0:=h
   with_reducible refine aD (fun hb=> ?_) (fun hb=> ?_)<;>have h:=hb<;>(try simp only[wf_preprocess] at h)<;>simp -implicitDefEqProofs (disch:=omega) only[go_sem,hb,ak,ah]<;>(repeat(with_reducible refine And.intro ?_ ?_;focus first|omega|rfl|assumption|exact⟨_,rfl,rfl⟩|(simp;omega)|(simp;done)))
   ·subst h;simp only[instK,reduceIte,Int.reduceEq] at hq;refine bZ [true] rfl (dQ hB c7 (1+l) j _ GV (by rw[aJ];exact g _) (by decide) (by decide)) ?_;simp -implicitDefEqProofs (disch:=omega) only[go_sem,ak,ah]
    (repeat(with_reducible refine And.intro ?_ ?_;focus first|omega|rfl|assumption|exact⟨_,rfl,rfl⟩|(simp;omega)|(simp;done)))
    first
    |(refine⟨by cases l<;>rfl,?_⟩
      simp -implicitDefEqProofs (disch:=omega) only[go_sem,ak,ah])
    |skip
    rw[hq]
    first|exact⟨aG rfl,rfl⟩|(refine⟨aG ?_,rfl⟩;simp only[aP.v,List.map_cons,List.map_nil,List.map_append,aU.aj,aT.aj,ay.aj,aC.aj,List.cons_append,List.nil_append];rfl)
   have e1:=h
   with_reducible refine aD (fun hb=> ?_) (fun hb=> ?_)<;>have h:=hb<;>(try simp only[wf_preprocess] at h)<;>simp -implicitDefEqProofs (disch:=omega) only[go_sem,hb,ak,ah]<;>(repeat(with_reducible refine And.intro ?_ ?_;focus first|omega|rfl|assumption|exact⟨_,rfl,rfl⟩|(simp;omega)|(simp;done)))
   ·subst h;simp only[instK,reduceIte,Int.reduceEq] at hq;refine bE rfl (iH hB 1 c7 (1+l) j _ (by rw[aJ];exact g _) (by omega)) ?_;simp -implicitDefEqProofs (disch:=omega) only[go_sem,ak,ah]
    (repeat(with_reducible refine And.intro ?_ ?_;focus first|omega|rfl|assumption|exact⟨_,rfl,rfl⟩|(simp;omega)|(simp;done)))
    first
    |(refine⟨by cases l<;>rfl,?_⟩
      simp -implicitDefEqProofs (disch:=omega) only[go_sem,ak,ah])
    |skip
    rw[hq]
    first|exact⟨aG rfl,rfl⟩|(refine⟨aG ?_,rfl⟩;simp only[aP.v,List.map_cons,List.map_nil,List.map_append,aU.aj,aT.aj,ay.aj,aC.aj,List.cons_append,List.nil_append];rfl)
   have e2:=h
   with_reducible refine aD (fun hb=> ?_) (fun hb=> ?_)<;>have h:=hb<;>(try simp only[wf_preprocess] at h)<;>simp -implicitDefEqProofs (disch:=omega) only[go_sem,hb,ak,ah]<;>(repeat(with_reducible refine And.intro ?_ ?_;focus first|omega|rfl|assumption|exact⟨_,rfl,rfl⟩|(simp;omega)|(simp;done)))
   ·exact absurd h hk3
   with_reducible refine aD (fun hb=> ?_) (fun hb=> ?_)<;>have h:=hb<;>(try simp only[wf_preprocess] at h)<;>simp -implicitDefEqProofs (disch:=omega) only[go_sem,hb,ak,ah]<;>(repeat(with_reducible refine And.intro ?_ ?_;focus first|omega|rfl|assumption|exact⟨_,rfl,rfl⟩|(simp;omega)|(simp;done)))
   ·subst h;simp only[instK,reduceIte,Int.reduceEq] at hq;refine aB jH ?_;simp -implicitDefEqProofs (disch:=omega) only[go_sem,ak,ah];rw[hq]
    first|exact⟨aG rfl,rfl⟩|(refine⟨aG ?_,rfl⟩;simp only[aP.v,List.map_cons,List.map_nil,List.map_append,aU.aj,aT.aj,ay.aj,aC.aj,List.cons_append,List.nil_append];rfl)
   have e4:=h
   with_reducible refine aD (fun hb=> ?_) (fun hb=> ?_)<;>have h:=hb<;>(try simp only[wf_preprocess] at h)<;>simp -implicitDefEqProofs (disch:=omega) only[go_sem,hb,ak,ah]<;>(repeat(with_reducible refine And.intro ?_ ?_;focus first|omega|rfl|assumption|exact⟨_,rfl,rfl⟩|(simp;omega)|(simp;done)))
   ·exact absurd h hk5
   simp only[instK,if_neg e0,if_neg e1,if_neg e2,if_neg hk3,if_neg e4,if_neg hk5] at hq;rw[hq]
   first|exact⟨aG rfl,rfl⟩|(refine⟨aG ?_,rfl⟩;simp only[aP.v,List.map_cons,List.map_nil,List.map_append,aU.aj,aT.aj,ay.aj,aC.aj,List.cons_append,List.nil_append];rfl)
  |false=>
   obtain⟨rfl,rfl⟩:zT=a/\c4=c5:=by
    have e5:(zT,c4)=(a,c5):=h5;cases e5;exact⟨rfl,rfl⟩
   simp -implicitDefEqProofs (disch:=omega) only[go_sem,ak,ah];refine bE rfl (q6 _) ?_;simp -implicitDefEqProofs (disch:=omega) only[go_sem,ak,ah];refine bE rfl (q7 _) ?_;simp -implicitDefEqProofs (disch:=omega) only[go_sem,ak,ah]
   with_reducible refine aD (fun hb=> ?_) (fun hb=> ?_)<;>have h:=hb<;>(try simp only[wf_preprocess] at h)<;>simp -implicitDefEqProofs (disch:=omega) only[go_sem,hb,ak,ah]<;>(repeat(with_reducible refine And.intro ?_ ?_;focus first|omega|rfl|assumption|exact⟨_,rfl,rfl⟩|(simp;omega)|(simp;done)))
   ·subst h;simp only[instK,reduceIte,Int.reduceEq] at hq;refine bE rfl (iH hB 2 c7 (1+l) j _ (by rw[aJ];exact g _) (by omega)) ?_;simp -implicitDefEqProofs (disch:=omega) only[go_sem,ak,ah];rw[hq]
    first|exact⟨aG rfl,rfl⟩|(refine⟨aG ?_,rfl⟩;simp only[aP.v,List.map_cons,List.map_nil,List.map_append,aU.aj,aT.aj,ay.aj,aC.aj,List.cons_append,List.nil_append];rfl)
   have e0:=h
   with_reducible refine aD (fun hb=> ?_) (fun hb=> ?_)<;>have h:=hb<;>(try simp only[wf_preprocess] at h)<;>simp -implicitDefEqProofs (disch:=omega) only[go_sem,hb,ak,ah]<;>(repeat(with_reducible refine And.intro ?_ ?_;focus first|omega|rfl|assumption|exact⟨_,rfl,rfl⟩|(simp;omega)|(simp;done)))
   ·subst h;simp only[instK,reduceIte,Int.reduceEq] at hq;refine bZ [true] rfl (dQ hB c7 (1+l) j _ GV (by rw[aJ];exact g _) (by decide) (by decide)) ?_;simp -implicitDefEqProofs (disch:=omega) only[go_sem,ak,ah]
    (repeat(with_reducible refine And.intro ?_ ?_;focus first|omega|rfl|assumption|exact⟨_,rfl,rfl⟩|(simp;omega)|(simp;done)))
    first
    |(refine⟨by cases l<;>rfl,?_⟩
      simp -implicitDefEqProofs (disch:=omega) only[go_sem,ak,ah])
    |skip
    rw[hq]
    first|exact⟨aG rfl,rfl⟩|(refine⟨aG ?_,rfl⟩;simp only[aP.v,List.map_cons,List.map_nil,List.map_append,aU.aj,aT.aj,ay.aj,aC.aj,List.cons_append,List.nil_append];rfl)
   have e1:=h
   with_reducible refine aD (fun hb=> ?_) (fun hb=> ?_)<;>have h:=hb<;>(try simp only[wf_preprocess] at h)<;>simp -implicitDefEqProofs (disch:=omega) only[go_sem,hb,ak,ah]<;>(repeat(with_reducible refine And.intro ?_ ?_;focus first|omega|rfl|assumption|exact⟨_,rfl,rfl⟩|(simp;omega)|(simp;done)))
   ·subst h;simp only[instK,reduceIte,Int.reduceEq] at hq;refine bE rfl (iH hB 1 c7 (1+l) j _ (by rw[aJ];exact g _) (by omega)) ?_;simp -implicitDefEqProofs (disch:=omega) only[go_sem,ak,ah]
    (repeat(with_reducible refine And.intro ?_ ?_;focus first|omega|rfl|assumption|exact⟨_,rfl,rfl⟩|(simp;omega)|(simp;done)))
    first
    |(refine⟨by cases l<;>rfl,?_⟩
      simp -implicitDefEqProofs (disch:=omega) only[go_sem,ak,ah])
    |skip
    rw[hq]
    first|exact⟨aG rfl,rfl⟩|(refine⟨aG ?_,rfl⟩;simp only[aP.v,List.map_cons,List.map_nil,List.map_append,aU.aj,aT.aj,ay.aj,aC.aj,List.cons_append,List.nil_append];rfl)
   have e2:=h
   with_reducible refine aD (fun hb=> ?_) (fun hb=> ?_)<;>have h:=hb<;>(try simp only[wf_preprocess] at h)<;>simp -implicitDefEqProofs (disch:=omega) only[go_sem,hb,ak,ah]<;>(repeat(with_reducible refine And.intro ?_ ?_;focus first|omega|rfl|assumption|exact⟨_,rfl,rfl⟩|(simp;omega)|(simp;done)))
   ·exact absurd h hk3
   with_reducible refine aD (fun hb=> ?_) (fun hb=> ?_)<;>have h:=hb<;>(try simp only[wf_preprocess] at h)<;>simp -implicitDefEqProofs (disch:=omega) only[go_sem,hb,ak,ah]<;>(repeat(with_reducible refine And.intro ?_ ?_;focus first|omega|rfl|assumption|exact⟨_,rfl,rfl⟩|(simp;omega)|(simp;done)))
   ·subst h;simp only[instK,reduceIte,Int.reduceEq] at hq;refine aB jH ?_;simp -implicitDefEqProofs (disch:=omega) only[go_sem,ak,ah];rw[hq]
    first|exact⟨aG rfl,rfl⟩|(refine⟨aG ?_,rfl⟩;simp only[aP.v,List.map_cons,List.map_nil,List.map_append,aU.aj,aT.aj,ay.aj,aC.aj,List.cons_append,List.nil_append];rfl)
   have e4:=h
   with_reducible refine aD (fun hb=> ?_) (fun hb=> ?_)<;>have h:=hb<;>(try simp only[wf_preprocess] at h)<;>simp -implicitDefEqProofs (disch:=omega) only[go_sem,hb,ak,ah]<;>(repeat(with_reducible refine And.intro ?_ ?_;focus first|omega|rfl|assumption|exact⟨_,rfl,rfl⟩|(simp;omega)|(simp;done)))
   ·exact absurd h hk5
   simp only[instK,if_neg e0,if_neg e1,if_neg e2,if_neg hk3,if_neg e4,if_neg hk5] at hq;rw[hq]
   first|exact⟨aG rfl,rfl⟩|(refine⟨aG ?_,rfl⟩;simp only[aP.v,List.map_cons,List.map_nil,List.map_append,aU.aj,aT.aj,ay.aj,aC.aj,List.cons_append,List.nil_append];rfl)
theorem YA{bs:List Int}(hB:Bytes bs)(c:Cu bs)(l j:Nat)(S:Store)(hk:bA S (l,j)=some (.box (cur c))):
 cB prog 103 [.c (.ptr (l,j) 0)] S (fun r S1=>r=(instX c).1.v/\S1=bq S (l,j) (.box (cur (instX c).2))):=by
 have hh:=iE (n:=4) (aX 9 (bQ lK c).2).2 (by omega);unfold instX;generalize hh0:(aX 4 (aX 9 (bQ lK c).2).2).1=h at hh;generalize hc0:(aX 4 (aX 9 (bQ lK c).2).2).2=c3;unfold instG;generalize hc1:(zq h (bV 3 c3).1 (bV 3 c3).2).2=c5;unfold instH;by_cases h35:(aX 12 (bV 4 c5).2).1=3\/(aX 12 (bV 4 c5).2).1=5
 ·exact abm hB c _ _ c3 _ c5 _ _ _ _ h _ _ _ _ l j S hk rfl rfl (Prod.ext hh0 hc0) rfl (Prod.ext rfl hc1) rfl rfl (by omega) h35
 ·exact abn hB c _ _ c3 _ c5 _ _ _ _ h _ _ _ _ l j S hk rfl rfl (Prod.ext hh0 hc0) rfl (Prod.ext rfl hc1) rfl rfl (by omega) (fun e=>h35 (.inl e)) (fun e=>h35 (.inr e))
end Go.Ab