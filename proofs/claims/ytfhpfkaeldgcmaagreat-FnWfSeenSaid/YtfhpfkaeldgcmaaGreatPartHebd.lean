/-
  SEVERAL TEXTS IN ONE (merged by program): contracts and models, each with its own heading.
-/
import Derived.Test.YtfhpfkaeldgcmaaGreatPartHebV
import Derived.Test.YtfhpfkaeldgcmaaGreatPartHebZ
set_option maxHeartbeats 8000000
open Go.Proofs Go.Proofs.Tryz
set_option linter.unusedSimpArgs false
set_option linter.unusedVariables false
set_option maxRecDepth 8000
namespace Go.Ab
def Hr:List (List UInt8):=[[97],[99]]
theorem afe:eY Hr:=by unfold eY;decide
theorem Mq(s:List UInt8)(v:List (List UInt8))(b:aD):bG (aR.mk s v b).enc=s.length+(v.length+aQ (v.map encS))+b.sz:=by
 simp only[aR.aj,bG,bC,D.sz,List.length_map,aD.cK];omega
theorem inst_mk_sz(t:List UInt8)(v:List (List UInt8))(h:ay)(w:List aS)(d e:Bool)(a:ay)(m:List aR):(aJ.mk t v h w d e a m).sz=t.length+(v.length+aQ (v.map encS))+h.sz+(w.length+aQ (w.map aS.enc))+a.sz+(m.length+aQ (m.map aR.enc)):=by
 simp only[aJ.sz,aJ.aj,bG,bC,D.sz,List.length_map,ay.cK];omega
def kU(h:Int):List (List UInt8):=if h=0 then [] else if h=1 then [[97]] else if h=2 then [[97],[98]] else [[97]]
def yX(h:Int):ay:=if h=0 then nS else if h=1 then nR [108,105,115,116] [nQ [97]] else if h=2 then nR [112,97,105,114] [nQ [97],nQ [98]] else nQ [97]
def headW(h:Int)(s:List UInt8):List aS:=if h=0 then [] else if h=1 then [⟨s,nQ [97]⟩] else if h=2 then [] else [⟨[111,114,100],nQ [97]⟩]
def Fb(n:Int):aR:=⟨[109],[[120]],kL n⟩
def instK{bs:List Int}(s:List UInt8)(n:Int)(v:List (List UInt8))(t:ay)(w:List aS)(o:Bool)(a:ay)(d:Bool)(k:Int)(c:Cu bs):aJ×Cu bs:=
 if k=0 then(⟨s,v,(kT 2 c).1,w,d,o,a,[Fb n]⟩,(kT 2 c).2) else
 if k=1 then(⟨s,v++[(bR Hr c).1],t,w,d,o,a,[Fb n]⟩,(bR Hr c).2) else
 if k=2 then(⟨s,v,t,w++[⟨[101,113],(kT 1 c).1⟩],d,o,a,[Fb n]⟩,(kT 1 c).2) else
 if k=3 then(⟨s,v,t,w,d,o,a,[⟨[109],[[120]],(gP 2 vv c).1⟩]⟩,(gP 2 vv c).2) else
 if k=4 then(⟨s,v,t,w,d,o,nS,[Fb n]⟩,c) else
 if k=5 then(⟨s,v,t,w,d,o,a,[⟨[109],[],kL n⟩]⟩,c) else
 (⟨s,v,t,w,d,o,a,[Fb n]⟩,c)
def zH{bs:List Int}(h:Int)(o:Bool)(c:Cu bs):ay×Cu bs:=match o with
 |true=>kH (kU h) 1 c
 |false=>(zT,c)
def instH{bs:List Int}(s:List UInt8)(n h:Int)(o:Bool)(a:ay)(c:Cu bs):aJ×Cu bs:=
 instK s n (kU h) (yX h) (headW h s) o a (bU 4 c).1 (aT 12 (bU 4 c).2).1 (aT 12 (bU 4 c).2).2
def instG{bs:List Int}(s:List UInt8)(n h:Int)(c:Cu bs):aJ×Cu bs:=
 instH s n h (bU 3 c).1 (zH h (bU 3 c).1 (bU 3 c).2).1 (zH h (bU 3 c).1 (bU 3 c).2).2
def instX{bs:List Int}(c:Cu bs):aJ×Cu bs:=
 instG (bR lH c).1 (aT 9 (bR lH c).2).1 (aT 4 (aT 9 (bR lH c).2).2).1 (aT 4 (aT 9 (bR lH c).2).2).2
theorem Fe(h:Int):(kU h).length<=2/\aQ ((kU h).map encS)<=2/\eY (kU h):=by
 unfold kU;split
 ·exact⟨by decide,by decide,by unfold eY;decide⟩
 split
 ·exact⟨by decide,by decide,by unfold eY;decide⟩
 split<;>exact⟨by decide,by decide,by unfold eY;decide⟩
theorem aff(h:Int):(yX h).sz<=20:=by
 unfold yX;split
 ·rw[sU];omega
 split
 ·simp only[D6,nJ,List.length_cons,List.length_nil];omega
 split
 ·simp only[VB,nJ,List.length_cons,List.length_nil];omega
 ·simp only[nJ,List.length_cons,List.length_nil];omega
theorem afg(h:Int)(s:List UInt8):(headW h s).length<=1/\aQ ((headW h s).map aS.enc)<=s.length+4:=by
 unfold headW;split
 ·exact⟨by simp,by simp[aQ]⟩
 split
 ·exact⟨by simp,by simp only[List.map_cons,List.map_nil,aQ,qh,nJ,List.length_cons,List.length_nil];omega⟩
 split
 ·exact⟨by simp,by simp[aQ]⟩
 ·exact⟨by simp,by simp only[List.map_cons,List.map_nil,aQ,qh,nJ,List.length_cons,List.length_nil];omega⟩
theorem instX_sz{bs:List Int}(c:Cu bs):(instX c).1.sz<=2000:=by
 unfold instX;have h0:=gN c Sc;generalize (bR lH c).1=s at h0;generalize (aT 9 (bR lH c).2).1=n;generalize (aT 4 (aT 9 (bR lH c).2).2).1=h;generalize (aT 4 (aT 9 (bR lH c).2).2).2=c1;unfold instG
 have ha:(zH h (bU 3 c1).1 (bU 3 c1).2).1.sz<=30:=by
  cases (bU 3 c1).1 with
  |true=>have:=GZ (Fe h).2.2 1 (bU 3 c1).2;show(kH (kU h) 1 (bU 3 c1).2).1.sz<=30;omega
  |false=>show zT.sz<=30;rw[nT];omega
 generalize (zH h (bU 3 c1).1 (bU 3 c1).2).1=a at ha;generalize (zH h (bU 3 c1).1 (bU 3 c1).2).2=c2;generalize (bU 3 c1).1=o;unfold instH;have h1:=Fe h;have h2:=aff h;have h3:=afg h s;generalize kU h=v at h1;generalize yX h=t at h2;generalize headW h s=w at h3;generalize (bU 4 c2).1=d;generalize (aT 12 (bU 4 c2).2).1=k;generalize (aT 12 (bU 4 c2).2).2=c3;have h4:=vP 2 c3;have h5:=vP 1 c3;have h6:=J8 2 vv c3 Ka;have h7:=gN c3 afe;unfold instK
 iterate 6
  split
  ·simp only[inst_mk_sz,Fb,Mq,Np,sU,List.map_cons,List.map_nil,List.map_append,aQ,om,ny,qh,List.length_cons,List.length_nil,List.length_append];omega
 simp only[inst_mk_sz,Fb,Mq,Np,List.map_cons,List.map_nil,aQ,ny,List.length_cons,List.length_nil];omega
theorem abI{bs:List Int}(hB:Bytes bs)(c c1 c2 c3 c4 c5 c6 c7:Cu bs)(s:List UInt8)(n h:Int)(o d:Bool)(a:ay)(k:Int)(l j:Nat)(S:Store)(hk:bn S (l,j)=some (.box (cur c)))(h1:bR lH c=(s,c1))(h2:aT 9 c1=(n,c2))(h3:aT 4 c2=(h,c3))(h4:bU 3 c3=(o,c4))(h5:zH h o c4=(a,c5))(h6:bU 4 c5=(d,c6))(h7:aT 12 c6=(k,c7))(hh:h=0\/h=1\/h=2\/h=3)(Ht:k=3\/k=5):
 bY prog 103 [.c (.ptr (l,j) 0)] S (fun r S1=>r=(instK s n (kU h) (yX h) (headW h s) o a d k c7).1.v/\S1=aY S (l,j) (.box (cur (instK s n (kU h) (yX h) (headW h s) o a d k c7).2))):=by
 have g:∀x:Ab.Obj,bn (aY S (l,j) x) (l,j)=some x:=fun x=>cO _ _ _ _ hk;have q1:=fun fr:List Ab.Obj=>dS hB c (1+l) j (fr::S) lH (by rw[aH];exact hk) (by decide) (by decide);simp only[h1,ak] at q1;have q2:=fun fr:List Ab.Obj=>dR hB c1 (1+l) j (fr::aY S (l,j) (.box (cur c1))) 9 (by rw[aH];exact g _) (by omega) (by omega);simp only[h2,ak,ah] at q2;have q3:=fun fr:List Ab.Obj=>dR hB c2 (1+l) j (fr::aY S (l,j) (.box (cur c2))) 4 (by rw[aH];exact g _) (by omega) (by omega);simp only[h3,ak,ah] at q3;have q4:=fun fr:List Ab.Obj=>iE hB c3 (1+l) j (fr::aY S (l,j) (.box (cur c3))) 3 (by rw[aH];exact g _) (by omega) (by omega);simp only[h4,ak,ah] at q4;have q5:=fun(fr:List Ab.Obj)=>sS (EX hB (vars:=kU h) (by have:=(Fe h).1;omega) 1 c4 (1+l) j (fr::aY S (l,j) (.box (cur c4))) (by rw[aH];exact g _) (by omega));have q6:=fun fr:List Ab.Obj=>iE hB c5 (1+l) j (fr::aY S (l,j) (.box (cur c5))) 4 (by rw[aH];exact g _) (by omega) (by omega);simp only[h6,ak,ah] at q6;have q7:=fun fr:List Ab.Obj=>dR hB c6 (1+l) j (fr::aY S (l,j) (.box (cur c6))) 12 (by rw[aH];exact g _) (by omega) (by omega);simp only[h7,ak,ah] at q7;obtain⟨q,hq⟩:∃q,q=instK s n (kU h) (yX h) (headW h s) o a d k c7:=⟨_,rfl⟩;rw[<-hq];refine bY.of_le ?_;refine Ao [67] (rs:=[.cell 2 45]) zmx func103 ntmps103 rfl rfl rfl rfl rfl ?_;simp -implicitDefEqProofs (disch:=omega) only[go_sem];refine cu [true] rfl (q1 _) ?_;simp -implicitDefEqProofs (disch:=omega) only[go_sem,ak,ah];refine aW rfl (q2 _) ?_;simp -implicitDefEqProofs (disch:=omega) only[go_sem,ak,ah];refine aB (qd _) ?_;simp -implicitDefEqProofs (disch:=omega) only[go_sem]
 (repeat(with_reducible refine And.intro ?_ ?_;focus first|omega|rfl|assumption|exact⟨_,rfl,rfl⟩|(simp;omega)|(simp;done)))
 refine aW rfl (q3 _) ?_;rcases hh with rfl|rfl|rfl|rfl
 ·simp -implicitDefEqProofs (disch:=omega) only[go_sem,ak,ah];refine aB iT ?_;simp -implicitDefEqProofs (disch:=omega) only[go_sem,ak,ah];refine aW rfl (q4 _) ?_
  cases o with
  |true=>
   have e5:kH (kU _) 1 c4=(a,c5):=h5;rw[e5] at q5;simp only[ak,ah] at q5;simp -implicitDefEqProofs (disch:=omega) only[go_sem,ak,ah];refine cu [true] rfl (q5 _) ?_;simp -implicitDefEqProofs (disch:=omega) only[go_sem,ak,ah];refine aW rfl (q6 _) ?_;simp -implicitDefEqProofs (disch:=omega) only[go_sem,ak,ah];refine aW rfl (q7 _) ?_;rcases Ht with rfl|rfl
   ·simp only[instK,reduceIte,Int.reduceEq] at hq;simp -implicitDefEqProofs (disch:=omega) only[go_sem,ak,ah];refine cu [true] rfl (jm (mI hB 2 vv c7 (1+l) j _ (by decide) (by rw[aH];exact g _))) ?_;simp -implicitDefEqProofs (disch:=omega) only[go_sem,ak,ah]
    (repeat(with_reducible refine And.intro ?_ ?_;focus first|omega|rfl|assumption|exact⟨_,rfl,rfl⟩|(simp;omega)|(simp;done)))
    first
    |(refine⟨by cases l<;>rfl,?_⟩
      simp -implicitDefEqProofs (disch:=omega) only[go_sem,ak,ah])
    |skip
    rw[hq]
    first|exact⟨aF rfl,rfl⟩|(refine⟨aF ?_,rfl⟩;simp only[aJ.v,List.map_cons,List.map_nil,List.map_append,aS.aj,aR.aj,ay.aj,aD.aj,List.cons_append,List.nil_append];rfl)
   ·simp only[instK,reduceIte,Int.reduceEq] at hq;simp -implicitDefEqProofs (disch:=omega) only[go_sem,ak,ah]
    (repeat(with_reducible refine And.intro ?_ ?_;focus first|omega|rfl|assumption|exact⟨_,rfl,rfl⟩|(simp;omega)|(simp;done)))
    first
    |(refine⟨by cases l<;>rfl,?_⟩
      simp -implicitDefEqProofs (disch:=omega) only[go_sem,ak,ah])
    |skip
    rw[hq]
    first|exact⟨aF rfl,rfl⟩|(refine⟨aF ?_,rfl⟩;simp only[aJ.v,List.map_cons,List.map_nil,List.map_append,aS.aj,aR.aj,ay.aj,aD.aj,List.cons_append,List.nil_append];rfl)
  |false=>
   obtain⟨rfl,rfl⟩:zT=a/\c4=c5:=by
    have e5:(zT,c4)=(a,c5):=h5;cases e5;exact⟨rfl,rfl⟩
   simp -implicitDefEqProofs (disch:=omega) only[go_sem,ak,ah];refine aW rfl (q6 _) ?_;simp -implicitDefEqProofs (disch:=omega) only[go_sem,ak,ah];refine aW rfl (q7 _) ?_;rcases Ht with rfl|rfl
   ·simp only[instK,reduceIte,Int.reduceEq] at hq;simp -implicitDefEqProofs (disch:=omega) only[go_sem,ak,ah];refine cu [true] rfl (jm (mI hB 2 vv c7 (1+l) j _ (by decide) (by rw[aH];exact g _))) ?_;simp -implicitDefEqProofs (disch:=omega) only[go_sem,ak,ah]
    (repeat(with_reducible refine And.intro ?_ ?_;focus first|omega|rfl|assumption|exact⟨_,rfl,rfl⟩|(simp;omega)|(simp;done)))
    first
    |(refine⟨by cases l<;>rfl,?_⟩
      simp -implicitDefEqProofs (disch:=omega) only[go_sem,ak,ah])
    |skip
    rw[hq]
    first|exact⟨aF rfl,rfl⟩|(refine⟨aF ?_,rfl⟩;simp only[aJ.v,List.map_cons,List.map_nil,List.map_append,aS.aj,aR.aj,ay.aj,aD.aj,List.cons_append,List.nil_append];rfl)
   ·simp only[instK,reduceIte,Int.reduceEq] at hq;simp -implicitDefEqProofs (disch:=omega) only[go_sem,ak,ah]
    (repeat(with_reducible refine And.intro ?_ ?_;focus first|omega|rfl|assumption|exact⟨_,rfl,rfl⟩|(simp;omega)|(simp;done)))
    first
    |(refine⟨by cases l<;>rfl,?_⟩
      simp -implicitDefEqProofs (disch:=omega) only[go_sem,ak,ah])
    |skip
    rw[hq]
    first|exact⟨aF rfl,rfl⟩|(refine⟨aF ?_,rfl⟩;simp only[aJ.v,List.map_cons,List.map_nil,List.map_append,aS.aj,aR.aj,ay.aj,aD.aj,List.cons_append,List.nil_append];rfl)
 ·simp -implicitDefEqProofs (disch:=omega) only[go_sem,ak,ah];refine aB (fT _) ?_;simp -implicitDefEqProofs (disch:=omega) only[go_sem]
  (repeat(with_reducible refine And.intro ?_ ?_;focus first|omega|rfl|assumption|exact⟨_,rfl,rfl⟩|(simp;omega)|(simp;done)))
  refine aB (rU [108,105,115,116] [nQ [97]] rfl (by decide) (.inl rfl)) ?_;simp -implicitDefEqProofs (disch:=omega) only[go_sem,ak,ah];refine aB (fT _) ?_;simp -implicitDefEqProofs (disch:=omega) only[go_sem,ak,ah]
  (repeat(with_reducible refine And.intro ?_ ?_;focus first|omega|rfl|assumption|exact⟨_,rfl,rfl⟩|(simp;omega)|(simp;done)))
  first
  |(refine⟨by rfl,?_⟩
    simp -implicitDefEqProofs (disch:=omega) only[go_sem,ak,ah])
  |skip
  refine aW rfl (q4 _) ?_
  cases o with
  |true=>
   have e5:kH (kU _) 1 c4=(a,c5):=h5;rw[e5] at q5;simp only[ak,ah] at q5;simp -implicitDefEqProofs (disch:=omega) only[go_sem,ak,ah];refine cu [true] rfl (q5 _) ?_;simp -implicitDefEqProofs (disch:=omega) only[go_sem,ak,ah];refine aW rfl (q6 _) ?_;simp -implicitDefEqProofs (disch:=omega) only[go_sem,ak,ah];refine aW rfl (q7 _) ?_;rcases Ht with rfl|rfl
   ·simp only[instK,reduceIte,Int.reduceEq] at hq;simp -implicitDefEqProofs (disch:=omega) only[go_sem,ak,ah];refine cu [true] rfl (jm (mI hB 2 vv c7 (1+l) j _ (by decide) (by rw[aH];exact g _))) ?_;simp -implicitDefEqProofs (disch:=omega) only[go_sem,ak,ah]
    (repeat(with_reducible refine And.intro ?_ ?_;focus first|omega|rfl|assumption|exact⟨_,rfl,rfl⟩|(simp;omega)|(simp;done)))
    first
    |(refine⟨by cases l<;>rfl,?_⟩
      simp -implicitDefEqProofs (disch:=omega) only[go_sem,ak,ah])
    |skip
    rw[hq]
    first|exact⟨aF rfl,rfl⟩|(refine⟨aF ?_,rfl⟩;simp only[aJ.v,List.map_cons,List.map_nil,List.map_append,aS.aj,aR.aj,ay.aj,aD.aj,List.cons_append,List.nil_append];rfl)
   ·simp only[instK,reduceIte,Int.reduceEq] at hq;simp -implicitDefEqProofs (disch:=omega) only[go_sem,ak,ah]
    (repeat(with_reducible refine And.intro ?_ ?_;focus first|omega|rfl|assumption|exact⟨_,rfl,rfl⟩|(simp;omega)|(simp;done)))
    first
    |(refine⟨by cases l<;>rfl,?_⟩
      simp -implicitDefEqProofs (disch:=omega) only[go_sem,ak,ah])
    |skip
    rw[hq]
    first|exact⟨aF rfl,rfl⟩|(refine⟨aF ?_,rfl⟩;simp only[aJ.v,List.map_cons,List.map_nil,List.map_append,aS.aj,aR.aj,ay.aj,aD.aj,List.cons_append,List.nil_append];rfl)
  |false=>
   obtain⟨rfl,rfl⟩:zT=a/\c4=c5:=by
    have e5:(zT,c4)=(a,c5):=h5;cases e5;exact⟨rfl,rfl⟩
   simp -implicitDefEqProofs (disch:=omega) only[go_sem,ak,ah];refine aW rfl (q6 _) ?_;simp -implicitDefEqProofs (disch:=omega) only[go_sem,ak,ah];refine aW rfl (q7 _) ?_;rcases Ht with rfl|rfl
   ·simp only[instK,reduceIte,Int.reduceEq] at hq;simp -implicitDefEqProofs (disch:=omega) only[go_sem,ak,ah];refine cu [true] rfl (jm (mI hB 2 vv c7 (1+l) j _ (by decide) (by rw[aH];exact g _))) ?_;simp -implicitDefEqProofs (disch:=omega) only[go_sem,ak,ah]
    (repeat(with_reducible refine And.intro ?_ ?_;focus first|omega|rfl|assumption|exact⟨_,rfl,rfl⟩|(simp;omega)|(simp;done)))
    first
    |(refine⟨by cases l<;>rfl,?_⟩
      simp -implicitDefEqProofs (disch:=omega) only[go_sem,ak,ah])
    |skip
    rw[hq]
    first|exact⟨aF rfl,rfl⟩|(refine⟨aF ?_,rfl⟩;simp only[aJ.v,List.map_cons,List.map_nil,List.map_append,aS.aj,aR.aj,ay.aj,aD.aj,List.cons_append,List.nil_append];rfl)
   ·simp only[instK,reduceIte,Int.reduceEq] at hq;simp -implicitDefEqProofs (disch:=omega) only[go_sem,ak,ah]
    (repeat(with_reducible refine And.intro ?_ ?_;focus first|omega|rfl|assumption|exact⟨_,rfl,rfl⟩|(simp;omega)|(simp;done)))
    first
    |(refine⟨by cases l<;>rfl,?_⟩
      simp -implicitDefEqProofs (disch:=omega) only[go_sem,ak,ah])
    |skip
    rw[hq]
    first|exact⟨aF rfl,rfl⟩|(refine⟨aF ?_,rfl⟩;simp only[aJ.v,List.map_cons,List.map_nil,List.map_append,aS.aj,aR.aj,ay.aj,aD.aj,List.cons_append,List.nil_append];rfl)
 ·simp -implicitDefEqProofs (disch:=omega) only[go_sem,ak,ah];refine aB (fT _) ?_;simp -implicitDefEqProofs (disch:=omega) only[go_sem];refine aB (fT _) ?_;simp -implicitDefEqProofs (disch:=omega) only[go_sem]
  (repeat(with_reducible refine And.intro ?_ ?_;focus first|omega|rfl|assumption|exact⟨_,rfl,rfl⟩|(simp;omega)|(simp;done)))
  refine aB (rU [112,97,105,114] [nQ [97],nQ [98]] rfl (by decide) (.inl rfl)) ?_;simp -implicitDefEqProofs (disch:=omega) only[go_sem,ak,ah];refine aW rfl (q4 _) ?_
  cases o with
  |true=>
   have e5:kH (kU _) 1 c4=(a,c5):=h5;rw[e5] at q5;simp only[ak,ah] at q5;simp -implicitDefEqProofs (disch:=omega) only[go_sem,ak,ah];refine cu [true] rfl (q5 _) ?_;simp -implicitDefEqProofs (disch:=omega) only[go_sem,ak,ah];refine aW rfl (q6 _) ?_;simp -implicitDefEqProofs (disch:=omega) only[go_sem,ak,ah];refine aW rfl (q7 _) ?_;rcases Ht with rfl|rfl
   ·simp only[instK,reduceIte,Int.reduceEq] at hq;simp -implicitDefEqProofs (disch:=omega) only[go_sem,ak,ah];refine cu [true] rfl (jm (mI hB 2 vv c7 (1+l) j _ (by decide) (by rw[aH];exact g _))) ?_;simp -implicitDefEqProofs (disch:=omega) only[go_sem,ak,ah]
    (repeat(with_reducible refine And.intro ?_ ?_;focus first|omega|rfl|assumption|exact⟨_,rfl,rfl⟩|(simp;omega)|(simp;done)))
    first
    |(refine⟨by cases l<;>rfl,?_⟩
      simp -implicitDefEqProofs (disch:=omega) only[go_sem,ak,ah])
    |skip
    rw[hq]
    first|exact⟨aF rfl,rfl⟩|(refine⟨aF ?_,rfl⟩;simp only[aJ.v,List.map_cons,List.map_nil,List.map_append,aS.aj,aR.aj,ay.aj,aD.aj,List.cons_append,List.nil_append];rfl)
   ·simp only[instK,reduceIte,Int.reduceEq] at hq;simp -implicitDefEqProofs (disch:=omega) only[go_sem,ak,ah]
    (repeat(with_reducible refine And.intro ?_ ?_;focus first|omega|rfl|assumption|exact⟨_,rfl,rfl⟩|(simp;omega)|(simp;done)))
    first
    |(refine⟨by cases l<;>rfl,?_⟩
      simp -implicitDefEqProofs (disch:=omega) only[go_sem,ak,ah])
    |skip
    rw[hq]
    first|exact⟨aF rfl,rfl⟩|(refine⟨aF ?_,rfl⟩;simp only[aJ.v,List.map_cons,List.map_nil,List.map_append,aS.aj,aR.aj,ay.aj,aD.aj,List.cons_append,List.nil_append];rfl)
  |false=>
   obtain⟨rfl,rfl⟩:zT=a/\c4=c5:=by
    have e5:(zT,c4)=(a,c5):=h5;cases e5;exact⟨rfl,rfl⟩
   simp -implicitDefEqProofs (disch:=omega) only[go_sem,ak,ah];refine aW rfl (q6 _) ?_;simp -implicitDefEqProofs (disch:=omega) only[go_sem,ak,ah];refine aW rfl (q7 _) ?_;rcases Ht with rfl|rfl
   ·simp only[instK,reduceIte,Int.reduceEq] at hq;simp -implicitDefEqProofs (disch:=omega) only[go_sem,ak,ah];refine cu [true] rfl (jm (mI hB 2 vv c7 (1+l) j _ (by decide) (by rw[aH];exact g _))) ?_;simp -implicitDefEqProofs (disch:=omega) only[go_sem,ak,ah]
    (repeat(with_reducible refine And.intro ?_ ?_;focus first|omega|rfl|assumption|exact⟨_,rfl,rfl⟩|(simp;omega)|(simp;done)))
    first
    |(refine⟨by cases l<;>rfl,?_⟩
      simp -implicitDefEqProofs (disch:=omega) only[go_sem,ak,ah])
    |skip
    rw[hq]
    first|exact⟨aF rfl,rfl⟩|(refine⟨aF ?_,rfl⟩;simp only[aJ.v,List.map_cons,List.map_nil,List.map_append,aS.aj,aR.aj,ay.aj,aD.aj,List.cons_append,List.nil_append];rfl)
   ·simp only[instK,reduceIte,Int.reduceEq] at hq;simp -implicitDefEqProofs (disch:=omega) only[go_sem,ak,ah]
    (repeat(with_reducible refine And.intro ?_ ?_;focus first|omega|rfl|assumption|exact⟨_,rfl,rfl⟩|(simp;omega)|(simp;done)))
    first
    |(refine⟨by cases l<;>rfl,?_⟩
      simp -implicitDefEqProofs (disch:=omega) only[go_sem,ak,ah])
    |skip
    rw[hq]
    first|exact⟨aF rfl,rfl⟩|(refine⟨aF ?_,rfl⟩;simp only[aJ.v,List.map_cons,List.map_nil,List.map_append,aS.aj,aR.aj,ay.aj,aD.aj,List.cons_append,List.nil_append];rfl)
 ·simp -implicitDefEqProofs (disch:=omega) only[go_sem,ak,ah];refine aB (fT _) ?_;simp -implicitDefEqProofs (disch:=omega) only[go_sem];refine aB (fT _) ?_;simp -implicitDefEqProofs (disch:=omega) only[go_sem]
  (repeat(with_reducible refine And.intro ?_ ?_;focus first|omega|rfl|assumption|exact⟨_,rfl,rfl⟩|(simp;omega)|(simp;done)))
  refine aW rfl (q4 _) ?_
  cases o with
  |true=>
   have e5:kH (kU _) 1 c4=(a,c5):=h5;rw[e5] at q5;simp only[ak,ah] at q5;simp -implicitDefEqProofs (disch:=omega) only[go_sem,ak,ah];refine cu [true] rfl (q5 _) ?_;simp -implicitDefEqProofs (disch:=omega) only[go_sem,ak,ah];refine aW rfl (q6 _) ?_;simp -implicitDefEqProofs (disch:=omega) only[go_sem,ak,ah];refine aW rfl (q7 _) ?_;rcases Ht with rfl|rfl
   ·simp only[instK,reduceIte,Int.reduceEq] at hq;simp -implicitDefEqProofs (disch:=omega) only[go_sem,ak,ah];refine cu [true] rfl (jm (mI hB 2 vv c7 (1+l) j _ (by decide) (by rw[aH];exact g _))) ?_;simp -implicitDefEqProofs (disch:=omega) only[go_sem,ak,ah]
    (repeat(with_reducible refine And.intro ?_ ?_;focus first|omega|rfl|assumption|exact⟨_,rfl,rfl⟩|(simp;omega)|(simp;done)))
    first
    |(refine⟨by cases l<;>rfl,?_⟩
      simp -implicitDefEqProofs (disch:=omega) only[go_sem,ak,ah])
    |skip
    rw[hq]
    first|exact⟨aF rfl,rfl⟩|(refine⟨aF ?_,rfl⟩;simp only[aJ.v,List.map_cons,List.map_nil,List.map_append,aS.aj,aR.aj,ay.aj,aD.aj,List.cons_append,List.nil_append];rfl)
   ·simp only[instK,reduceIte,Int.reduceEq] at hq;simp -implicitDefEqProofs (disch:=omega) only[go_sem,ak,ah]
    (repeat(with_reducible refine And.intro ?_ ?_;focus first|omega|rfl|assumption|exact⟨_,rfl,rfl⟩|(simp;omega)|(simp;done)))
    first
    |(refine⟨by cases l<;>rfl,?_⟩
      simp -implicitDefEqProofs (disch:=omega) only[go_sem,ak,ah])
    |skip
    rw[hq]
    first|exact⟨aF rfl,rfl⟩|(refine⟨aF ?_,rfl⟩;simp only[aJ.v,List.map_cons,List.map_nil,List.map_append,aS.aj,aR.aj,ay.aj,aD.aj,List.cons_append,List.nil_append];rfl)
  |false=>
   obtain⟨rfl,rfl⟩:zT=a/\c4=c5:=by
    have e5:(zT,c4)=(a,c5):=h5;cases e5;exact⟨rfl,rfl⟩
   simp -implicitDefEqProofs (disch:=omega) only[go_sem,ak,ah];refine aW rfl (q6 _) ?_;simp -implicitDefEqProofs (disch:=omega) only[go_sem,ak,ah];refine aW rfl (q7 _) ?_;rcases Ht with rfl|rfl
   ·simp only[instK,reduceIte,Int.reduceEq] at hq;simp -implicitDefEqProofs (disch:=omega) only[go_sem,ak,ah];refine cu [true] rfl (jm (mI hB 2 vv c7 (1+l) j _ (by decide) (by rw[aH];exact g _))) ?_;simp -implicitDefEqProofs (disch:=omega) only[go_sem,ak,ah]
    (repeat(with_reducible refine And.intro ?_ ?_;focus first|omega|rfl|assumption|exact⟨_,rfl,rfl⟩|(simp;omega)|(simp;done)))
    first
    |(refine⟨by cases l<;>rfl,?_⟩
      simp -implicitDefEqProofs (disch:=omega) only[go_sem,ak,ah])
    |skip
    rw[hq]
    first|exact⟨aF rfl,rfl⟩|(refine⟨aF ?_,rfl⟩;simp only[aJ.v,List.map_cons,List.map_nil,List.map_append,aS.aj,aR.aj,ay.aj,aD.aj,List.cons_append,List.nil_append];rfl)
   ·simp only[instK,reduceIte,Int.reduceEq] at hq;simp -implicitDefEqProofs (disch:=omega) only[go_sem,ak,ah]
    (repeat(with_reducible refine And.intro ?_ ?_;focus first|omega|rfl|assumption|exact⟨_,rfl,rfl⟩|(simp;omega)|(simp;done)))
    first
    |(refine⟨by cases l<;>rfl,?_⟩
      simp -implicitDefEqProofs (disch:=omega) only[go_sem,ak,ah])
    |skip
    rw[hq]
    first|exact⟨aF rfl,rfl⟩|(refine⟨aF ?_,rfl⟩;simp only[aJ.v,List.map_cons,List.map_nil,List.map_append,aS.aj,aR.aj,ay.aj,aD.aj,List.cons_append,List.nil_append];rfl)
theorem abJ{bs:List Int}(hB:Bytes bs)(c c1 c2 c3 c4 c5 c6 c7:Cu bs)(s:List UInt8)(n h:Int)(o d:Bool)(a:ay)(k:Int)(l j:Nat)(S:Store)(hk:bn S (l,j)=some (.box (cur c)))(h1:bR lH c=(s,c1))(h2:aT 9 c1=(n,c2))(h3:aT 4 c2=(h,c3))(h4:bU 3 c3=(o,c4))(h5:zH h o c4=(a,c5))(h6:bU 4 c5=(d,c6))(h7:aT 12 c6=(k,c7))(hh:h=0\/h=1\/h=2\/h=3)(hk3:k≠3)(hk5:k≠5):
 bY prog 103 [.c (.ptr (l,j) 0)] S (fun r S1=>r=(instK s n (kU h) (yX h) (headW h s) o a d k c7).1.v/\S1=aY S (l,j) (.box (cur (instK s n (kU h) (yX h) (headW h s) o a d k c7).2))):=by
 have g:∀x:Ab.Obj,bn (aY S (l,j) x) (l,j)=some x:=fun x=>cO _ _ _ _ hk;have q1:=fun fr:List Ab.Obj=>dS hB c (1+l) j (fr::S) lH (by rw[aH];exact hk) (by decide) (by decide);simp only[h1,ak] at q1;have q2:=fun fr:List Ab.Obj=>dR hB c1 (1+l) j (fr::aY S (l,j) (.box (cur c1))) 9 (by rw[aH];exact g _) (by omega) (by omega);simp only[h2,ak,ah] at q2;have q3:=fun fr:List Ab.Obj=>dR hB c2 (1+l) j (fr::aY S (l,j) (.box (cur c2))) 4 (by rw[aH];exact g _) (by omega) (by omega);simp only[h3,ak,ah] at q3;have q4:=fun fr:List Ab.Obj=>iE hB c3 (1+l) j (fr::aY S (l,j) (.box (cur c3))) 3 (by rw[aH];exact g _) (by omega) (by omega);simp only[h4,ak,ah] at q4;have q5:=fun(fr:List Ab.Obj)=>sS (EX hB (vars:=kU h) (by have:=(Fe h).1;omega) 1 c4 (1+l) j (fr::aY S (l,j) (.box (cur c4))) (by rw[aH];exact g _) (by omega));have q6:=fun fr:List Ab.Obj=>iE hB c5 (1+l) j (fr::aY S (l,j) (.box (cur c5))) 4 (by rw[aH];exact g _) (by omega) (by omega);simp only[h6,ak,ah] at q6;have q7:=fun fr:List Ab.Obj=>dR hB c6 (1+l) j (fr::aY S (l,j) (.box (cur c6))) 12 (by rw[aH];exact g _) (by omega) (by omega);simp only[h7,ak,ah] at q7;obtain⟨q,hq⟩:∃q,q=instK s n (kU h) (yX h) (headW h s) o a d k c7:=⟨_,rfl⟩;rw[<-hq];refine bY.of_le ?_;refine nY [67] (rs:=[.cell 2 45]) zmx func103 ntmps103 rfl rfl rfl rfl rfl ?_;simp -implicitDefEqProofs (disch:=omega) only[go_sem];refine cu [true] rfl (q1 _) ?_;simp -implicitDefEqProofs (disch:=omega) only[go_sem,ak,ah];refine aW rfl (q2 _) ?_;simp -implicitDefEqProofs (disch:=omega) only[go_sem,ak,ah];refine aB (qd _) ?_;simp -implicitDefEqProofs (disch:=omega) only[go_sem]
 (repeat(with_reducible refine And.intro ?_ ?_;focus first|omega|rfl|assumption|exact⟨_,rfl,rfl⟩|(simp;omega)|(simp;done)))
 refine aW rfl (q3 _) ?_;rcases hh with rfl|rfl|rfl|rfl
 ·simp -implicitDefEqProofs (disch:=omega) only[go_sem,ak,ah];refine aB iT ?_;simp -implicitDefEqProofs (disch:=omega) only[go_sem,ak,ah];refine aW rfl (q4 _) ?_
  cases o with
  |true=>
   have e5:kH (kU _) 1 c4=(a,c5):=h5;rw[e5] at q5;simp only[ak,ah] at q5;simp -implicitDefEqProofs (disch:=omega) only[go_sem,ak,ah];refine cu [true] rfl (q5 _) ?_;simp -implicitDefEqProofs (disch:=omega) only[go_sem,ak,ah];refine aW rfl (q6 _) ?_;simp -implicitDefEqProofs (disch:=omega) only[go_sem,ak,ah];refine aW rfl (q7 _) ?_;simp -implicitDefEqProofs (disch:=omega) only[go_sem,ak,ah]
   with_reducible refine aC (fun hb=> ?_) (fun hb=> ?_)<;>have h:=hb<;>(try simp only[wf_preprocess] at h)<;>simp -implicitDefEqProofs (disch:=omega) only[go_sem,hb,ak,ah]<;>(repeat(with_reducible refine And.intro ?_ ?_;focus first|omega|rfl|assumption|exact⟨_,rfl,rfl⟩|(simp;omega)|(simp;done)))
   ·subst h;simp only[instK,reduceIte,Int.reduceEq] at hq;refine aW rfl (iF hB 2 c7 (1+l) j _ (by rw[aH];exact g _) (by omega)) ?_;simp -implicitDefEqProofs (disch:=omega) only[go_sem,ak,ah];rw[hq]
    first|exact⟨aF rfl,rfl⟩|(refine⟨aF ?_,rfl⟩;simp only[aJ.v,List.map_cons,List.map_nil,List.map_append,aS.aj,aR.aj,ay.aj,aD.aj,List.cons_append,List.nil_append];rfl)
   have e0:=h
   with_reducible refine aC (fun hb=> ?_) (fun hb=> ?_)<;>have h:=hb<;>(try simp only[wf_preprocess] at h)<;>simp -implicitDefEqProofs (disch:=omega) only[go_sem,hb,ak,ah]<;>(repeat(with_reducible refine And.intro ?_ ?_;focus first|omega|rfl|assumption|exact⟨_,rfl,rfl⟩|(simp;omega)|(simp;done)))
   ·subst h;simp only[instK,reduceIte,Int.reduceEq] at hq;refine cu [true] rfl (dS hB c7 (1+l) j _ Hr (by rw[aH];exact g _) (by decide) (by decide)) ?_;simp -implicitDefEqProofs (disch:=omega) only[go_sem,ak,ah]
    (repeat(with_reducible refine And.intro ?_ ?_;focus first|omega|rfl|assumption|exact⟨_,rfl,rfl⟩|(simp;omega)|(simp;done)))
    first
    |(refine⟨by cases l<;>rfl,?_⟩
      simp -implicitDefEqProofs (disch:=omega) only[go_sem,ak,ah])
    |skip
    rw[hq]
    first|exact⟨aF rfl,rfl⟩|(refine⟨aF ?_,rfl⟩;simp only[aJ.v,List.map_cons,List.map_nil,List.map_append,aS.aj,aR.aj,ay.aj,aD.aj,List.cons_append,List.nil_append];rfl)
   have e1:=h
   with_reducible refine aC (fun hb=> ?_) (fun hb=> ?_)<;>have h:=hb<;>(try simp only[wf_preprocess] at h)<;>simp -implicitDefEqProofs (disch:=omega) only[go_sem,hb,ak,ah]<;>(repeat(with_reducible refine And.intro ?_ ?_;focus first|omega|rfl|assumption|exact⟨_,rfl,rfl⟩|(simp;omega)|(simp;done)))
   ·subst h;simp only[instK,reduceIte,Int.reduceEq] at hq;refine aW rfl (iF hB 1 c7 (1+l) j _ (by rw[aH];exact g _) (by omega)) ?_;simp -implicitDefEqProofs (disch:=omega) only[go_sem,ak,ah]
    (repeat(with_reducible refine And.intro ?_ ?_;focus first|omega|rfl|assumption|exact⟨_,rfl,rfl⟩|(simp;omega)|(simp;done)))
    first
    |(refine⟨by cases l<;>rfl,?_⟩
      simp -implicitDefEqProofs (disch:=omega) only[go_sem,ak,ah])
    |skip
    rw[hq]
    first|exact⟨aF rfl,rfl⟩|(refine⟨aF ?_,rfl⟩;simp only[aJ.v,List.map_cons,List.map_nil,List.map_append,aS.aj,aR.aj,ay.aj,aD.aj,List.cons_append,List.nil_append];rfl)
   have e2:=h
   with_reducible refine aC (fun hb=> ?_) (fun hb=> ?_)<;>have h:=hb<;>(try simp only[wf_preprocess] at h)<;>simp -implicitDefEqProofs (disch:=omega) only[go_sem,hb,ak,ah]<;>(repeat(with_reducible refine And.intro ?_ ?_;focus first|omega|rfl|assumption|exact⟨_,rfl,rfl⟩|(simp;omega)|(simp;done)))
   ·exact absurd h hk3
   with_reducible refine aC (fun hb=> ?_) (fun hb=> ?_)<;>have h:=hb<;>(try simp only[wf_preprocess] at h)<;>simp -implicitDefEqProofs (disch:=omega) only[go_sem,hb,ak,ah]<;>(repeat(with_reducible refine And.intro ?_ ?_;focus first|omega|rfl|assumption|exact⟨_,rfl,rfl⟩|(simp;omega)|(simp;done)))
   ·subst h;simp only[instK,reduceIte,Int.reduceEq] at hq;refine aB iT ?_;simp -implicitDefEqProofs (disch:=omega) only[go_sem,ak,ah];rw[hq]
    first|exact⟨aF rfl,rfl⟩|(refine⟨aF ?_,rfl⟩;simp only[aJ.v,List.map_cons,List.map_nil,List.map_append,aS.aj,aR.aj,ay.aj,aD.aj,List.cons_append,List.nil_append];rfl)
   have e4:=h
   with_reducible refine aC (fun hb=> ?_) (fun hb=> ?_)<;>have h:=hb<;>(try simp only[wf_preprocess] at h)<;>simp -implicitDefEqProofs (disch:=omega) only[go_sem,hb,ak,ah]<;>(repeat(with_reducible refine And.intro ?_ ?_;focus first|omega|rfl|assumption|exact⟨_,rfl,rfl⟩|(simp;omega)|(simp;done)))
   ·exact absurd h hk5
   simp only[instK,if_neg e0,if_neg e1,if_neg e2,if_neg hk3,if_neg e4,if_neg hk5] at hq;rw[hq]
   first|exact⟨aF rfl,rfl⟩|(refine⟨aF ?_,rfl⟩;simp only[aJ.v,List.map_cons,List.map_nil,List.map_append,aS.aj,aR.aj,ay.aj,aD.aj,List.cons_append,List.nil_append];rfl)
  |false=>
   obtain⟨rfl,rfl⟩:zT=a/\c4=c5:=by
    have e5:(zT,c4)=(a,c5):=h5;cases e5;exact⟨rfl,rfl⟩
   simp -implicitDefEqProofs (disch:=omega) only[go_sem,ak,ah];refine aW rfl (q6 _) ?_;simp -implicitDefEqProofs (disch:=omega) only[go_sem,ak,ah];refine aW rfl (q7 _) ?_;simp -implicitDefEqProofs (disch:=omega) only[go_sem,ak,ah]
   with_reducible refine aC (fun hb=> ?_) (fun hb=> ?_)<;>have h:=hb<;>(try simp only[wf_preprocess] at h)<;>simp -implicitDefEqProofs (disch:=omega) only[go_sem,hb,ak,ah]<;>(repeat(with_reducible refine And.intro ?_ ?_;focus first|omega|rfl|assumption|exact⟨_,rfl,rfl⟩|(simp;omega)|(simp;done)))
   ·subst h;simp only[instK,reduceIte,Int.reduceEq] at hq;refine aW rfl (iF hB 2 c7 (1+l) j _ (by rw[aH];exact g _) (by omega)) ?_;simp -implicitDefEqProofs (disch:=omega) only[go_sem,ak,ah];rw[hq]
    first|exact⟨aF rfl,rfl⟩|(refine⟨aF ?_,rfl⟩;simp only[aJ.v,List.map_cons,List.map_nil,List.map_append,aS.aj,aR.aj,ay.aj,aD.aj,List.cons_append,List.nil_append];rfl)
   have e0:=h
   with_reducible refine aC (fun hb=> ?_) (fun hb=> ?_)<;>have h:=hb<;>(try simp only[wf_preprocess] at h)<;>simp -implicitDefEqProofs (disch:=omega) only[go_sem,hb,ak,ah]<;>(repeat(with_reducible refine And.intro ?_ ?_;focus first|omega|rfl|assumption|exact⟨_,rfl,rfl⟩|(simp;omega)|(simp;done)))
   ·subst h;simp only[instK,reduceIte,Int.reduceEq] at hq;refine cu [true] rfl (dS hB c7 (1+l) j _ Hr (by rw[aH];exact g _) (by decide) (by decide)) ?_;simp -implicitDefEqProofs (disch:=omega) only[go_sem,ak,ah]
    (repeat(with_reducible refine And.intro ?_ ?_;focus first|omega|rfl|assumption|exact⟨_,rfl,rfl⟩|(simp;omega)|(simp;done)))
    first
    |(refine⟨by cases l<;>rfl,?_⟩
      simp -implicitDefEqProofs (disch:=omega) only[go_sem,ak,ah])
    |skip
    rw[hq]
    first|exact⟨aF rfl,rfl⟩|(refine⟨aF ?_,rfl⟩;simp only[aJ.v,List.map_cons,List.map_nil,List.map_append,aS.aj,aR.aj,ay.aj,aD.aj,List.cons_append,List.nil_append];rfl)
   have e1:=h
   with_reducible refine aC (fun hb=> ?_) (fun hb=> ?_)<;>have h:=hb<;>(try simp only[wf_preprocess] at h)<;>simp -implicitDefEqProofs (disch:=omega) only[go_sem,hb,ak,ah]<;>(repeat(with_reducible refine And.intro ?_ ?_;focus first|omega|rfl|assumption|exact⟨_,rfl,rfl⟩|(simp;omega)|(simp;done)))
   ·subst h;simp only[instK,reduceIte,Int.reduceEq] at hq;refine aW rfl (iF hB 1 c7 (1+l) j _ (by rw[aH];exact g _) (by omega)) ?_;simp -implicitDefEqProofs (disch:=omega) only[go_sem,ak,ah]
    (repeat(with_reducible refine And.intro ?_ ?_;focus first|omega|rfl|assumption|exact⟨_,rfl,rfl⟩|(simp;omega)|(simp;done)))
    first
    |(refine⟨by cases l<;>rfl,?_⟩
      simp -implicitDefEqProofs (disch:=omega) only[go_sem,ak,ah])
    |skip
    rw[hq]
    first|exact⟨aF rfl,rfl⟩|(refine⟨aF ?_,rfl⟩;simp only[aJ.v,List.map_cons,List.map_nil,List.map_append,aS.aj,aR.aj,ay.aj,aD.aj,List.cons_append,List.nil_append];rfl)
   have e2:=h
   with_reducible refine aC (fun hb=> ?_) (fun hb=> ?_)<;>have h:=hb<;>(try simp only[wf_preprocess] at h)<;>simp -implicitDefEqProofs (disch:=omega) only[go_sem,hb,ak,ah]<;>(repeat(with_reducible refine And.intro ?_ ?_;focus first|omega|rfl|assumption|exact⟨_,rfl,rfl⟩|(simp;omega)|(simp;done)))
   ·exact absurd h hk3
   with_reducible refine aC (fun hb=> ?_) (fun hb=> ?_)<;>have h:=hb<;>(try simp only[wf_preprocess] at h)<;>simp -implicitDefEqProofs (disch:=omega) only[go_sem,hb,ak,ah]<;>(repeat(with_reducible refine And.intro ?_ ?_;focus first|omega|rfl|assumption|exact⟨_,rfl,rfl⟩|(simp;omega)|(simp;done)))
   ·subst h;simp only[instK,reduceIte,Int.reduceEq] at hq;refine aB iT ?_;simp -implicitDefEqProofs (disch:=omega) only[go_sem,ak,ah];rw[hq]
    first|exact⟨aF rfl,rfl⟩|(refine⟨aF ?_,rfl⟩;simp only[aJ.v,List.map_cons,List.map_nil,List.map_append,aS.aj,aR.aj,ay.aj,aD.aj,List.cons_append,List.nil_append];rfl)
   have e4:=h
   with_reducible refine aC (fun hb=> ?_) (fun hb=> ?_)<;>have h:=hb<;>(try simp only[wf_preprocess] at h)<;>simp -implicitDefEqProofs (disch:=omega) only[go_sem,hb,ak,ah]<;>(repeat(with_reducible refine And.intro ?_ ?_;focus first|omega|rfl|assumption|exact⟨_,rfl,rfl⟩|(simp;omega)|(simp;done)))
   ·exact absurd h hk5
   simp only[instK,if_neg e0,if_neg e1,if_neg e2,if_neg hk3,if_neg e4,if_neg hk5] at hq;rw[hq]
   first|exact⟨aF rfl,rfl⟩|(refine⟨aF ?_,rfl⟩;simp only[aJ.v,List.map_cons,List.map_nil,List.map_append,aS.aj,aR.aj,ay.aj,aD.aj,List.cons_append,List.nil_append];rfl)
 ·simp -implicitDefEqProofs (disch:=omega) only[go_sem,ak,ah];refine aB (fT _) ?_;simp -implicitDefEqProofs (disch:=omega) only[go_sem]
  (repeat(with_reducible refine And.intro ?_ ?_;focus first|omega|rfl|assumption|exact⟨_,rfl,rfl⟩|(simp;omega)|(simp;done)))
  refine aB (rU [108,105,115,116] [nQ [97]] rfl (by decide) (.inl rfl)) ?_;simp -implicitDefEqProofs (disch:=omega) only[go_sem,ak,ah];refine aB (fT _) ?_;simp -implicitDefEqProofs (disch:=omega) only[go_sem,ak,ah]
  (repeat(with_reducible refine And.intro ?_ ?_;focus first|omega|rfl|assumption|exact⟨_,rfl,rfl⟩|(simp;omega)|(simp;done)))
  first
  |(refine⟨by rfl,?_⟩
    simp -implicitDefEqProofs (disch:=omega) only[go_sem,ak,ah])
  |skip
  refine aW rfl (q4 _) ?_
  cases o with
  |true=>
   have e5:kH (kU _) 1 c4=(a,c5):=h5;rw[e5] at q5;simp only[ak,ah] at q5;simp -implicitDefEqProofs (disch:=omega) only[go_sem,ak,ah];refine cu [true] rfl (q5 _) ?_;simp -implicitDefEqProofs (disch:=omega) only[go_sem,ak,ah];refine aW rfl (q6 _) ?_;simp -implicitDefEqProofs (disch:=omega) only[go_sem,ak,ah];refine aW rfl (q7 _) ?_;simp -implicitDefEqProofs (disch:=omega) only[go_sem,ak,ah]
   with_reducible refine aC (fun hb=> ?_) (fun hb=> ?_)<;>have h:=hb<;>(try simp only[wf_preprocess] at h)<;>simp -implicitDefEqProofs (disch:=omega) only[go_sem,hb,ak,ah]<;>(repeat(with_reducible refine And.intro ?_ ?_;focus first|omega|rfl|assumption|exact⟨_,rfl,rfl⟩|(simp;omega)|(simp;done)))
   ·subst h;simp only[instK,reduceIte,Int.reduceEq] at hq;refine aW rfl (iF hB 2 c7 (1+l) j _ (by rw[aH];exact g _) (by omega)) ?_;simp -implicitDefEqProofs (disch:=omega) only[go_sem,ak,ah];rw[hq]
    first|exact⟨aF rfl,rfl⟩|(refine⟨aF ?_,rfl⟩;simp only[aJ.v,List.map_cons,List.map_nil,List.map_append,aS.aj,aR.aj,ay.aj,aD.aj,List.cons_append,List.nil_append];rfl)
   have e0:=h
   with_reducible refine aC (fun hb=> ?_) (fun hb=> ?_)<;>have h:=hb<;>(try simp only[wf_preprocess] at h)<;>simp -implicitDefEqProofs (disch:=omega) only[go_sem,hb,ak,ah]<;>(repeat(with_reducible refine And.intro ?_ ?_;focus first|omega|rfl|assumption|exact⟨_,rfl,rfl⟩|(simp;omega)|(simp;done)))
   ·subst h;simp only[instK,reduceIte,Int.reduceEq] at hq;refine cu [true] rfl (dS hB c7 (1+l) j _ Hr (by rw[aH];exact g _) (by decide) (by decide)) ?_;simp -implicitDefEqProofs (disch:=omega) only[go_sem,ak,ah]
    (repeat(with_reducible refine And.intro ?_ ?_;focus first|omega|rfl|assumption|exact⟨_,rfl,rfl⟩|(simp;omega)|(simp;done)))
    first
    |(refine⟨by cases l<;>rfl,?_⟩
      simp -implicitDefEqProofs (disch:=omega) only[go_sem,ak,ah])
    |skip
    rw[hq]
    first|exact⟨aF rfl,rfl⟩|(refine⟨aF ?_,rfl⟩;simp only[aJ.v,List.map_cons,List.map_nil,List.map_append,aS.aj,aR.aj,ay.aj,aD.aj,List.cons_append,List.nil_append];rfl)
   have e1:=h
   with_reducible refine aC (fun hb=> ?_) (fun hb=> ?_)<;>have h:=hb<;>(try simp only[wf_preprocess] at h)<;>simp -implicitDefEqProofs (disch:=omega) only[go_sem,hb,ak,ah]<;>(repeat(with_reducible refine And.intro ?_ ?_;focus first|omega|rfl|assumption|exact⟨_,rfl,rfl⟩|(simp;omega)|(simp;done)))
   ·subst h;simp only[instK,reduceIte,Int.reduceEq] at hq;refine aW rfl (iF hB 1 c7 (1+l) j _ (by rw[aH];exact g _) (by omega)) ?_;simp -implicitDefEqProofs (disch:=omega) only[go_sem,ak,ah]
    (repeat(with_reducible refine And.intro ?_ ?_;focus first|omega|rfl|assumption|exact⟨_,rfl,rfl⟩|(simp;omega)|(simp;done)))
    first
    |(refine⟨by cases l<;>rfl,?_⟩
      simp -implicitDefEqProofs (disch:=omega) only[go_sem,ak,ah])
    |skip
    rw[hq]
    first|exact⟨aF rfl,rfl⟩|(refine⟨aF ?_,rfl⟩;simp only[aJ.v,List.map_cons,List.map_nil,List.map_append,aS.aj,aR.aj,ay.aj,aD.aj,List.cons_append,List.nil_append];rfl)
   have e2:=h
   with_reducible refine aC (fun hb=> ?_) (fun hb=> ?_)<;>have h:=hb<;>(try simp only[wf_preprocess] at h)<;>simp -implicitDefEqProofs (disch:=omega) only[go_sem,hb,ak,ah]<;>(repeat(with_reducible refine And.intro ?_ ?_;focus first|omega|rfl|assumption|exact⟨_,rfl,rfl⟩|(simp;omega)|(simp;done)))
   ·exact absurd h hk3
   with_reducible refine aC (fun hb=> ?_) (fun hb=> ?_)<;>have h:=hb<;>(try simp only[wf_preprocess] at h)<;>simp -implicitDefEqProofs (disch:=omega) only[go_sem,hb,ak,ah]<;>(repeat(with_reducible refine And.intro ?_ ?_;focus first|omega|rfl|assumption|exact⟨_,rfl,rfl⟩|(simp;omega)|(simp;done)))
   ·subst h;simp only[instK,reduceIte,Int.reduceEq] at hq;refine aB iT ?_;simp -implicitDefEqProofs (disch:=omega) only[go_sem,ak,ah];rw[hq]
    first|exact⟨aF rfl,rfl⟩|(refine⟨aF ?_,rfl⟩;simp only[aJ.v,List.map_cons,List.map_nil,List.map_append,aS.aj,aR.aj,ay.aj,aD.aj,List.cons_append,List.nil_append];rfl)
   have e4:=h
   with_reducible refine aC (fun hb=> ?_) (fun hb=> ?_)<;>have h:=hb<;>(try simp only[wf_preprocess] at h)<;>simp -implicitDefEqProofs (disch:=omega) only[go_sem,hb,ak,ah]<;>(repeat(with_reducible refine And.intro ?_ ?_;focus first|omega|rfl|assumption|exact⟨_,rfl,rfl⟩|(simp;omega)|(simp;done)))
   ·exact absurd h hk5
   simp only[instK,if_neg e0,if_neg e1,if_neg e2,if_neg hk3,if_neg e4,if_neg hk5] at hq;rw[hq]
   first|exact⟨aF rfl,rfl⟩|(refine⟨aF ?_,rfl⟩;simp only[aJ.v,List.map_cons,List.map_nil,List.map_append,aS.aj,aR.aj,ay.aj,aD.aj,List.cons_append,List.nil_append];rfl)
  |false=>
   obtain⟨rfl,rfl⟩:zT=a/\c4=c5:=by
    have e5:(zT,c4)=(a,c5):=h5;cases e5;exact⟨rfl,rfl⟩
   simp -implicitDefEqProofs (disch:=omega) only[go_sem,ak,ah];refine aW rfl (q6 _) ?_;simp -implicitDefEqProofs (disch:=omega) only[go_sem,ak,ah];refine aW rfl (q7 _) ?_;simp -implicitDefEqProofs (disch:=omega) only[go_sem,ak,ah]
   with_reducible refine aC (fun hb=> ?_) (fun hb=> ?_)<;>have h:=hb<;>(try simp only[wf_preprocess] at h)<;>simp -implicitDefEqProofs (disch:=omega) only[go_sem,hb,ak,ah]<;>(repeat(with_reducible refine And.intro ?_ ?_;focus first|omega|rfl|assumption|exact⟨_,rfl,rfl⟩|(simp;omega)|(simp;done)))
   ·subst h;simp only[instK,reduceIte,Int.reduceEq] at hq;refine aW rfl (iF hB 2 c7 (1+l) j _ (by rw[aH];exact g _) (by omega)) ?_;simp -implicitDefEqProofs (disch:=omega) only[go_sem,ak,ah];rw[hq]
    first|exact⟨aF rfl,rfl⟩|(refine⟨aF ?_,rfl⟩;simp only[aJ.v,List.map_cons,List.map_nil,List.map_append,aS.aj,aR.aj,ay.aj,aD.aj,List.cons_append,List.nil_append];rfl)
   have e0:=h
   with_reducible refine aC (fun hb=> ?_) (fun hb=> ?_)<;>have h:=hb<;>(try simp only[wf_preprocess] at h)<;>simp -implicitDefEqProofs (disch:=omega) only[go_sem,hb,ak,ah]<;>(repeat(with_reducible refine And.intro ?_ ?_;focus first|omega|rfl|assumption|exact⟨_,rfl,rfl⟩|(simp;omega)|(simp;done)))
   ·subst h;simp only[instK,reduceIte,Int.reduceEq] at hq;refine cu [true] rfl (dS hB c7 (1+l) j _ Hr (by rw[aH];exact g _) (by decide) (by decide)) ?_;simp -implicitDefEqProofs (disch:=omega) only[go_sem,ak,ah]
    (repeat(with_reducible refine And.intro ?_ ?_;focus first|omega|rfl|assumption|exact⟨_,rfl,rfl⟩|(simp;omega)|(simp;done)))
    first
    |(refine⟨by cases l<;>rfl,?_⟩
      simp -implicitDefEqProofs (disch:=omega) only[go_sem,ak,ah])
    |skip
    rw[hq]
    first|exact⟨aF rfl,rfl⟩|(refine⟨aF ?_,rfl⟩;simp only[aJ.v,List.map_cons,List.map_nil,List.map_append,aS.aj,aR.aj,ay.aj,aD.aj,List.cons_append,List.nil_append];rfl)
   have e1:=h
   with_reducible refine aC (fun hb=> ?_) (fun hb=> ?_)<;>have h:=hb<;>(try simp only[wf_preprocess] at h)<;>simp -implicitDefEqProofs (disch:=omega) only[go_sem,hb,ak,ah]<;>(repeat(with_reducible refine And.intro ?_ ?_;focus first|omega|rfl|assumption|exact⟨_,rfl,rfl⟩|(simp;omega)|(simp;done)))
   ·subst h;simp only[instK,reduceIte,Int.reduceEq] at hq;refine aW rfl (iF hB 1 c7 (1+l) j _ (by rw[aH];exact g _) (by omega)) ?_;simp -implicitDefEqProofs (disch:=omega) only[go_sem,ak,ah]
    (repeat(with_reducible refine And.intro ?_ ?_;focus first|omega|rfl|assumption|exact⟨_,rfl,rfl⟩|(simp;omega)|(simp;done)))
    first
    |(refine⟨by cases l<;>rfl,?_⟩
      simp -implicitDefEqProofs (disch:=omega) only[go_sem,ak,ah])
    |skip
    rw[hq]
    first|exact⟨aF rfl,rfl⟩|(refine⟨aF ?_,rfl⟩;simp only[aJ.v,List.map_cons,List.map_nil,List.map_append,aS.aj,aR.aj,ay.aj,aD.aj,List.cons_append,List.nil_append];rfl)
   have e2:=h
   with_reducible refine aC (fun hb=> ?_) (fun hb=> ?_)<;>have h:=hb<;>(try simp only[wf_preprocess] at h)<;>simp -implicitDefEqProofs (disch:=omega) only[go_sem,hb,ak,ah]<;>(repeat(with_reducible refine And.intro ?_ ?_;focus first|omega|rfl|assumption|exact⟨_,rfl,rfl⟩|(simp;omega)|(simp;done)))
   ·exact absurd h hk3
   with_reducible refine aC (fun hb=> ?_) (fun hb=> ?_)<;>have h:=hb<;>(try simp only[wf_preprocess] at h)<;>simp -implicitDefEqProofs (disch:=omega) only[go_sem,hb,ak,ah]<;>(repeat(with_reducible refine And.intro ?_ ?_;focus first|omega|rfl|assumption|exact⟨_,rfl,rfl⟩|(simp;omega)|(simp;done)))
   ·subst h;simp only[instK,reduceIte,Int.reduceEq] at hq;refine aB iT ?_;simp -implicitDefEqProofs (disch:=omega) only[go_sem,ak,ah];rw[hq]
    first|exact⟨aF rfl,rfl⟩|(refine⟨aF ?_,rfl⟩;simp only[aJ.v,List.map_cons,List.map_nil,List.map_append,aS.aj,aR.aj,ay.aj,aD.aj,List.cons_append,List.nil_append];rfl)
   have e4:=h
   with_reducible refine aC (fun hb=> ?_) (fun hb=> ?_)<;>have h:=hb<;>(try simp only[wf_preprocess] at h)<;>simp -implicitDefEqProofs (disch:=omega) only[go_sem,hb,ak,ah]<;>(repeat(with_reducible refine And.intro ?_ ?_;focus first|omega|rfl|assumption|exact⟨_,rfl,rfl⟩|(simp;omega)|(simp;done)))
   ·exact absurd h hk5
   simp only[instK,if_neg e0,if_neg e1,if_neg e2,if_neg hk3,if_neg e4,if_neg hk5] at hq;rw[hq]
   first|exact⟨aF rfl,rfl⟩|(refine⟨aF ?_,rfl⟩;simp only[aJ.v,List.map_cons,List.map_nil,List.map_append,aS.aj,aR.aj,ay.aj,aD.aj,List.cons_append,List.nil_append];rfl)
 ·simp -implicitDefEqProofs (disch:=omega) only[go_sem,ak,ah];refine aB (fT _) ?_;simp -implicitDefEqProofs (disch:=omega) only[go_sem];refine aB (fT _) ?_;simp -implicitDefEqProofs (disch:=omega) only[go_sem]
  (repeat(with_reducible refine And.intro ?_ ?_;focus first|omega|rfl|assumption|exact⟨_,rfl,rfl⟩|(simp;omega)|(simp;done)))
  refine aB (rU [112,97,105,114] [nQ [97],nQ [98]] rfl (by decide) (.inl rfl)) ?_;simp -implicitDefEqProofs (disch:=omega) only[go_sem,ak,ah];refine aW rfl (q4 _) ?_
  cases o with
  |true=>
   have e5:kH (kU _) 1 c4=(a,c5):=h5;rw[e5] at q5;simp only[ak,ah] at q5;simp -implicitDefEqProofs (disch:=omega) only[go_sem,ak,ah];refine cu [true] rfl (q5 _) ?_;simp -implicitDefEqProofs (disch:=omega) only[go_sem,ak,ah];refine aW rfl (q6 _) ?_;simp -implicitDefEqProofs (disch:=omega) only[go_sem,ak,ah];refine aW rfl (q7 _) ?_;simp -implicitDefEqProofs (disch:=omega) only[go_sem,ak,ah]
   with_reducible refine aC (fun hb=> ?_) (fun hb=> ?_)<;>have h:=hb<;>(try simp only[wf_preprocess] at h)<;>simp -implicitDefEqProofs (disch:=omega) only[go_sem,hb,ak,ah]<;>(repeat(with_reducible refine And.intro ?_ ?_;focus first|omega|rfl|assumption|exact⟨_,rfl,rfl⟩|(simp;omega)|(simp;done)))
   ·subst h;simp only[instK,reduceIte,Int.reduceEq] at hq;refine aW rfl (iF hB 2 c7 (1+l) j _ (by rw[aH];exact g _) (by omega)) ?_;simp -implicitDefEqProofs (disch:=omega) only[go_sem,ak,ah];rw[hq]
    first|exact⟨aF rfl,rfl⟩|(refine⟨aF ?_,rfl⟩;simp only[aJ.v,List.map_cons,List.map_nil,List.map_append,aS.aj,aR.aj,ay.aj,aD.aj,List.cons_append,List.nil_append];rfl)
   have e0:=h
   with_reducible refine aC (fun hb=> ?_) (fun hb=> ?_)<;>have h:=hb<;>(try simp only[wf_preprocess] at h)<;>simp -implicitDefEqProofs (disch:=omega) only[go_sem,hb,ak,ah]<;>(repeat(with_reducible refine And.intro ?_ ?_;focus first|omega|rfl|assumption|exact⟨_,rfl,rfl⟩|(simp;omega)|(simp;done)))
   ·subst h;simp only[instK,reduceIte,Int.reduceEq] at hq;refine cu [true] rfl (dS hB c7 (1+l) j _ Hr (by rw[aH];exact g _) (by decide) (by decide)) ?_;simp -implicitDefEqProofs (disch:=omega) only[go_sem,ak,ah]
    (repeat(with_reducible refine And.intro ?_ ?_;focus first|omega|rfl|assumption|exact⟨_,rfl,rfl⟩|(simp;omega)|(simp;done)))
    first
    |(refine⟨by cases l<;>rfl,?_⟩
      simp -implicitDefEqProofs (disch:=omega) only[go_sem,ak,ah])
    |skip
    rw[hq]
    first|exact⟨aF rfl,rfl⟩|(refine⟨aF ?_,rfl⟩;simp only[aJ.v,List.map_cons,List.map_nil,List.map_append,aS.aj,aR.aj,ay.aj,aD.aj,List.cons_append,List.nil_append];rfl)
   have e1:=h
   with_reducible refine aC (fun hb=> ?_) (fun hb=> ?_)<;>have h:=hb<;>(try simp only[wf_preprocess] at h)<;>simp -implicitDefEqProofs (disch:=omega) only[go_sem,hb,ak,ah]<;>(repeat(with_reducible refine And.intro ?_ ?_;focus first|omega|rfl|assumption|exact⟨_,rfl,rfl⟩|(simp;omega)|(simp;done)))
   ·subst h;simp only[instK,reduceIte,Int.reduceEq] at hq;refine aW rfl (iF hB 1 c7 (1+l) j _ (by rw[aH];exact g _) (by omega)) ?_;simp -implicitDefEqProofs (disch:=omega) only[go_sem,ak,ah]
    (repeat(with_reducible refine And.intro ?_ ?_;focus first|omega|rfl|assumption|exact⟨_,rfl,rfl⟩|(simp;omega)|(simp;done)))
    first
    |(refine⟨by cases l<;>rfl,?_⟩
      simp -implicitDefEqProofs (disch:=omega) only[go_sem,ak,ah])
    |skip
    rw[hq]
    first|exact⟨aF rfl,rfl⟩|(refine⟨aF ?_,rfl⟩;simp only[aJ.v,List.map_cons,List.map_nil,List.map_append,aS.aj,aR.aj,ay.aj,aD.aj,List.cons_append,List.nil_append];rfl)
   have e2:=h
   with_reducible refine aC (fun hb=> ?_) (fun hb=> ?_)<;>have h:=hb<;>(try simp only[wf_preprocess] at h)<;>simp -implicitDefEqProofs (disch:=omega) only[go_sem,hb,ak,ah]<;>(repeat(with_reducible refine And.intro ?_ ?_;focus first|omega|rfl|assumption|exact⟨_,rfl,rfl⟩|(simp;omega)|(simp;done)))
   ·exact absurd h hk3
   with_reducible refine aC (fun hb=> ?_) (fun hb=> ?_)<;>have h:=hb<;>(try simp only[wf_preprocess] at h)<;>simp -implicitDefEqProofs (disch:=omega) only[go_sem,hb,ak,ah]<;>(repeat(with_reducible refine And.intro ?_ ?_;focus first|omega|rfl|assumption|exact⟨_,rfl,rfl⟩|(simp;omega)|(simp;done)))
   ·subst h;simp only[instK,reduceIte,Int.reduceEq] at hq;refine aB iT ?_;simp -implicitDefEqProofs (disch:=omega) only[go_sem,ak,ah];rw[hq]
    first|exact⟨aF rfl,rfl⟩|(refine⟨aF ?_,rfl⟩;simp only[aJ.v,List.map_cons,List.map_nil,List.map_append,aS.aj,aR.aj,ay.aj,aD.aj,List.cons_append,List.nil_append];rfl)
   have e4:=h
   with_reducible refine aC (fun hb=> ?_) (fun hb=> ?_)<;>have h:=hb<;>(try simp only[wf_preprocess] at h)<;>simp -implicitDefEqProofs (disch:=omega) only[go_sem,hb,ak,ah]<;>(repeat(with_reducible refine And.intro ?_ ?_;focus first|omega|rfl|assumption|exact⟨_,rfl,rfl⟩|(simp;omega)|(simp;done)))
   ·exact absurd h hk5
   simp only[instK,if_neg e0,if_neg e1,if_neg e2,if_neg hk3,if_neg e4,if_neg hk5] at hq;rw[hq]
   first|exact⟨aF rfl,rfl⟩|(refine⟨aF ?_,rfl⟩;simp only[aJ.v,List.map_cons,List.map_nil,List.map_append,aS.aj,aR.aj,ay.aj,aD.aj,List.cons_append,List.nil_append];rfl)
  |false=>
   obtain⟨rfl,rfl⟩:zT=a/\c4=c5:=by
    have e5:(zT,c4)=(a,c5):=h5;cases e5;exact⟨rfl,rfl⟩
   simp -implicitDefEqProofs (disch:=omega) only[go_sem,ak,ah];refine aW rfl (q6 _) ?_;simp -implicitDefEqProofs (disch:=omega) only[go_sem,ak,ah];refine aW rfl (q7 _) ?_;simp -implicitDefEqProofs (disch:=omega) only[go_sem,ak,ah]
   with_reducible refine aC (fun hb=> ?_) (fun hb=> ?_)<;>have h:=hb<;>(try simp only[wf_preprocess] at h)<;>simp -implicitDefEqProofs (disch:=omega) only[go_sem,hb,ak,ah]<;>(repeat(with_reducible refine And.intro ?_ ?_;focus first|omega|rfl|assumption|exact⟨_,rfl,rfl⟩|(simp;omega)|(simp;done)))
   ·subst h;simp only[instK,reduceIte,Int.reduceEq] at hq;refine aW rfl (iF hB 2 c7 (1+l) j _ (by rw[aH];exact g _) (by omega)) ?_;simp -implicitDefEqProofs (disch:=omega) only[go_sem,ak,ah];rw[hq]
    first|exact⟨aF rfl,rfl⟩|(refine⟨aF ?_,rfl⟩;simp only[aJ.v,List.map_cons,List.map_nil,List.map_append,aS.aj,aR.aj,ay.aj,aD.aj,List.cons_append,List.nil_append];rfl)
   have e0:=h
   with_reducible refine aC (fun hb=> ?_) (fun hb=> ?_)<;>have h:=hb<;>(try simp only[wf_preprocess] at h)<;>simp -implicitDefEqProofs (disch:=omega) only[go_sem,hb,ak,ah]<;>(repeat(with_reducible refine And.intro ?_ ?_;focus first|omega|rfl|assumption|exact⟨_,rfl,rfl⟩|(simp;omega)|(simp;done)))
   ·subst h;simp only[instK,reduceIte,Int.reduceEq] at hq;refine cu [true] rfl (dS hB c7 (1+l) j _ Hr (by rw[aH];exact g _) (by decide) (by decide)) ?_;simp -implicitDefEqProofs (disch:=omega) only[go_sem,ak,ah]
    (repeat(with_reducible refine And.intro ?_ ?_;focus first|omega|rfl|assumption|exact⟨_,rfl,rfl⟩|(simp;omega)|(simp;done)))
    first
    |(refine⟨by cases l<;>rfl,?_⟩
      simp -implicitDefEqProofs (disch:=omega) only[go_sem,ak,ah])
    |skip
    rw[hq]
    first|exact⟨aF rfl,rfl⟩|(refine⟨aF ?_,rfl⟩;simp only[aJ.v,List.map_cons,List.map_nil,List.map_append,aS.aj,aR.aj,ay.aj,aD.aj,List.cons_append,List.nil_append];rfl)
   have e1:=h
   with_reducible refine aC (fun hb=> ?_) (fun hb=> ?_)<;>have h:=hb<;>(try simp only[wf_preprocess] at h)<;>simp -implicitDefEqProofs (disch:=omega) only[go_sem,hb,ak,ah]<;>(repeat(with_reducible refine And.intro ?_ ?_;focus first|omega|rfl|assumption|exact⟨_,rfl,rfl⟩|(simp;omega)|(simp;done)))
   ·subst h;simp only[instK,reduceIte,Int.reduceEq] at hq;refine aW rfl (iF hB 1 c7 (1+l) j _ (by rw[aH];exact g _) (by omega)) ?_;simp -implicitDefEqProofs (disch:=omega) only[go_sem,ak,ah]
    (repeat(with_reducible refine And.intro ?_ ?_;focus first|omega|rfl|assumption|exact⟨_,rfl,rfl⟩|(simp;omega)|(simp;done)))
    first
    |(refine⟨by cases l<;>rfl,?_⟩
      simp -implicitDefEqProofs (disch:=omega) only[go_sem,ak,ah])
    |skip
    rw[hq]
    first|exact⟨aF rfl,rfl⟩|(refine⟨aF ?_,rfl⟩;simp only[aJ.v,List.map_cons,List.map_nil,List.map_append,aS.aj,aR.aj,ay.aj,aD.aj,List.cons_append,List.nil_append];rfl)
   have e2:=h
   with_reducible refine aC (fun hb=> ?_) (fun hb=> ?_)<;>have h:=hb<;>(try simp only[wf_preprocess] at h)<;>simp -implicitDefEqProofs (disch:=omega) only[go_sem,hb,ak,ah]<;>(repeat(with_reducible refine And.intro ?_ ?_;focus first|omega|rfl|assumption|exact⟨_,rfl,rfl⟩|(simp;omega)|(simp;done)))
   ·exact absurd h hk3
   with_reducible refine aC (fun hb=> ?_) (fun hb=> ?_)<;>have h:=hb<;>(try simp only[wf_preprocess] at h)<;>simp -implicitDefEqProofs (disch:=omega) only[go_sem,hb,ak,ah]<;>(repeat(with_reducible refine And.intro ?_ ?_;focus first|omega|rfl|assumption|exact⟨_,rfl,rfl⟩|(simp;omega)|(simp;done)))
   ·subst h;simp only[instK,reduceIte,Int.reduceEq] at hq;refine aB iT ?_;simp -implicitDefEqProofs (disch:=omega) only[go_sem,ak,ah];rw[hq]
    first|exact⟨aF rfl,rfl⟩|(refine⟨aF ?_,rfl⟩;simp only[aJ.v,List.map_cons,List.map_nil,List.map_append,aS.aj,aR.aj,ay.aj,aD.aj,List.cons_append,List.nil_append];rfl)
   have e4:=h
   with_reducible refine aC (fun hb=> ?_) (fun hb=> ?_)<;>have h:=hb<;>(try simp only[wf_preprocess] at h)<;>simp -implicitDefEqProofs (disch:=omega) only[go_sem,hb,ak,ah]<;>(repeat(with_reducible refine And.intro ?_ ?_;focus first|omega|rfl|assumption|exact⟨_,rfl,rfl⟩|(simp;omega)|(simp;done)))
   ·exact absurd h hk5
   simp only[instK,if_neg e0,if_neg e1,if_neg e2,if_neg hk3,if_neg e4,if_neg hk5] at hq;rw[hq]
   first|exact⟨aF rfl,rfl⟩|(refine⟨aF ?_,rfl⟩;simp only[aJ.v,List.map_cons,List.map_nil,List.map_append,aS.aj,aR.aj,ay.aj,aD.aj,List.cons_append,List.nil_append];rfl)
 ·simp -implicitDefEqProofs (disch:=omega) only[go_sem,ak,ah];refine aB (fT _) ?_;simp -implicitDefEqProofs (disch:=omega) only[go_sem];refine aB (fT _) ?_;simp -implicitDefEqProofs (disch:=omega) only[go_sem]
  (repeat(with_reducible refine And.intro ?_ ?_;focus first|omega|rfl|assumption|exact⟨_,rfl,rfl⟩|(simp;omega)|(simp;done)))
  refine aW rfl (q4 _) ?_
  cases o with
  |true=>
   have e5:kH (kU _) 1 c4=(a,c5):=h5;rw[e5] at q5;simp only[ak,ah] at q5;simp -implicitDefEqProofs (disch:=omega) only[go_sem,ak,ah];refine cu [true] rfl (q5 _) ?_;simp -implicitDefEqProofs (disch:=omega) only[go_sem,ak,ah];refine aW rfl (q6 _) ?_;simp -implicitDefEqProofs (disch:=omega) only[go_sem,ak,ah];refine aW rfl (q7 _) ?_;simp -implicitDefEqProofs (disch:=omega) only[go_sem,ak,ah]
   with_reducible refine aC (fun hb=> ?_) (fun hb=> ?_)<;>have h:=hb<;>(try simp only[wf_preprocess] at h)<;>simp -implicitDefEqProofs (disch:=omega) only[go_sem,hb,ak,ah]<;>(repeat(with_reducible refine And.intro ?_ ?_;focus first|omega|rfl|assumption|exact⟨_,rfl,rfl⟩|(simp;omega)|(simp;done)))
   ·subst h;simp only[instK,reduceIte,Int.reduceEq] at hq;refine aW rfl (iF hB 2 c7 (1+l) j _ (by rw[aH];exact g _) (by omega)) ?_;simp -implicitDefEqProofs (disch:=omega) only[go_sem,ak,ah];rw[hq]
    first|exact⟨aF rfl,rfl⟩|(refine⟨aF ?_,rfl⟩;simp only[aJ.v,List.map_cons,List.map_nil,List.map_append,aS.aj,aR.aj,ay.aj,aD.aj,List.cons_append,List.nil_append];rfl)
   have e0:=h
   with_reducible refine aC (fun hb=> ?_) (fun hb=> ?_)<;>have h:=hb<;>(try simp only[wf_preprocess] at h)<;>simp -implicitDefEqProofs (disch:=omega) only[go_sem,hb,ak,ah]<;>(repeat(with_reducible refine And.intro ?_ ?_;focus first|omega|rfl|assumption|exact⟨_,rfl,rfl⟩|(simp;omega)|(simp;done)))
   ·subst h;simp only[instK,reduceIte,Int.reduceEq] at hq;refine cu [true] rfl (dS hB c7 (1+l) j _ Hr (by rw[aH];exact g _) (by decide) (by decide)) ?_;simp -implicitDefEqProofs (disch:=omega) only[go_sem,ak,ah]
    (repeat(with_reducible refine And.intro ?_ ?_;focus first|omega|rfl|assumption|exact⟨_,rfl,rfl⟩|(simp;omega)|(simp;done)))
    first
    |(refine⟨by cases l<;>rfl,?_⟩
      simp -implicitDefEqProofs (disch:=omega) only[go_sem,ak,ah])
    |skip
    rw[hq]
    first|exact⟨aF rfl,rfl⟩|(refine⟨aF ?_,rfl⟩;simp only[aJ.v,List.map_cons,List.map_nil,List.map_append,aS.aj,aR.aj,ay.aj,aD.aj,List.cons_append,List.nil_append];rfl)
   have e1:=h
   with_reducible refine aC (fun hb=> ?_) (fun hb=> ?_)<;>have h:=hb<;>(try simp only[wf_preprocess] at h)<;>simp -implicitDefEqProofs (disch:=omega) only[go_sem,hb,ak,ah]<;>(repeat(with_reducible refine And.intro ?_ ?_;focus first|omega|rfl|assumption|exact⟨_,rfl,rfl⟩|(simp;omega)|(simp;done)))
   ·subst h;simp only[instK,reduceIte,Int.reduceEq] at hq;refine aW rfl (iF hB 1 c7 (1+l) j _ (by rw[aH];exact g _) (by omega)) ?_;simp -implicitDefEqProofs (disch:=omega) only[go_sem,ak,ah]
    (repeat(with_reducible refine And.intro ?_ ?_;focus first|omega|rfl|assumption|exact⟨_,rfl,rfl⟩|(simp;omega)|(simp;done)))
    first
    |(refine⟨by cases l<;>rfl,?_⟩
      simp -implicitDefEqProofs (disch:=omega) only[go_sem,ak,ah])
    |skip
    rw[hq]
    first|exact⟨aF rfl,rfl⟩|(refine⟨aF ?_,rfl⟩;simp only[aJ.v,List.map_cons,List.map_nil,List.map_append,aS.aj,aR.aj,ay.aj,aD.aj,List.cons_append,List.nil_append];rfl)
   have e2:=h
   with_reducible refine aC (fun hb=> ?_) (fun hb=> ?_)<;>have h:=hb<;>(try simp only[wf_preprocess] at h)<;>simp -implicitDefEqProofs (disch:=omega) only[go_sem,hb,ak,ah]<;>(repeat(with_reducible refine And.intro ?_ ?_;focus first|omega|rfl|assumption|exact⟨_,rfl,rfl⟩|(simp;omega)|(simp;done)))
   ·exact absurd h hk3
   with_reducible refine aC (fun hb=> ?_) (fun hb=> ?_)<;>have h:=hb<;>(try simp only[wf_preprocess] at h)<;>simp -implicitDefEqProofs (disch:=omega) only[go_sem,hb,ak,ah]<;>(repeat(with_reducible refine And.intro ?_ ?_;focus first|omega|rfl|assumption|exact⟨_,rfl,rfl⟩|(simp;omega)|(simp;done)))
   ·subst h;simp only[instK,reduceIte,Int.reduceEq] at hq;refine aB iT ?_;simp -implicitDefEqProofs (disch:=omega) only[go_sem,ak,ah];rw[hq]
    first|exact⟨aF rfl,rfl⟩|(refine⟨aF ?_,rfl⟩;simp only[aJ.v,List.map_cons,List.map_nil,List.map_append,aS.aj,aR.aj,ay.aj,aD.aj,List.cons_append,List.nil_append];rfl)
   have e4:=h
   with_reducible refine aC (fun hb=> ?_) (fun hb=> ?_)<;>have h:=hb<;>(try simp only[wf_preprocess] at h)<;>simp -implicitDefEqProofs (disch:=omega) only[go_sem,hb,ak,ah]<;>(repeat(with_reducible refine And.intro ?_ ?_;focus first|omega|rfl|assumption|exact⟨_,rfl,rfl⟩|(simp;omega)|(simp;done)))
   ·exact absurd h hk5
   simp only[instK,if_neg e0,if_neg e1,if_neg e2,if_neg hk3,if_neg e4,if_neg hk5] at hq;rw[hq]
   first|exact⟨aF rfl,rfl⟩|(refine⟨aF ?_,rfl⟩;simp only[aJ.v,List.map_cons,List.map_nil,List.map_append,aS.aj,aR.aj,ay.aj,aD.aj,List.cons_append,List.nil_append];rfl)
  |false=>
   obtain⟨rfl,rfl⟩:zT=a/\c4=c5:=by
    have e5:(zT,c4)=(a,c5):=h5;cases e5;exact⟨rfl,rfl⟩
   simp -implicitDefEqProofs (disch:=omega) only[go_sem,ak,ah];refine aW rfl (q6 _) ?_;simp -implicitDefEqProofs (disch:=omega) only[go_sem,ak,ah];refine aW rfl (q7 _) ?_;simp -implicitDefEqProofs (disch:=omega) only[go_sem,ak,ah]
   with_reducible refine aC (fun hb=> ?_) (fun hb=> ?_)<;>have h:=hb<;>(try simp only[wf_preprocess] at h)<;>simp -implicitDefEqProofs (disch:=omega) only[go_sem,hb,ak,ah]<;>(repeat(with_reducible refine And.intro ?_ ?_;focus first|omega|rfl|assumption|exact⟨_,rfl,rfl⟩|(simp;omega)|(simp;done)))
   ·subst h;simp only[instK,reduceIte,Int.reduceEq] at hq;refine aW rfl (iF hB 2 c7 (1+l) j _ (by rw[aH];exact g _) (by omega)) ?_;simp -implicitDefEqProofs (disch:=omega) only[go_sem,ak,ah];rw[hq]
    first|exact⟨aF rfl,rfl⟩|(refine⟨aF ?_,rfl⟩;simp only[aJ.v,List.map_cons,List.map_nil,List.map_append,aS.aj,aR.aj,ay.aj,aD.aj,List.cons_append,List.nil_append];rfl)
   have e0:=h
   with_reducible refine aC (fun hb=> ?_) (fun hb=> ?_)<;>have h:=hb<;>(try simp only[wf_preprocess] at h)<;>simp -implicitDefEqProofs (disch:=omega) only[go_sem,hb,ak,ah]<;>(repeat(with_reducible refine And.intro ?_ ?_;focus first|omega|rfl|assumption|exact⟨_,rfl,rfl⟩|(simp;omega)|(simp;done)))
   ·subst h;simp only[instK,reduceIte,Int.reduceEq] at hq;refine cu [true] rfl (dS hB c7 (1+l) j _ Hr (by rw[aH];exact g _) (by decide) (by decide)) ?_;simp -implicitDefEqProofs (disch:=omega) only[go_sem,ak,ah]
    (repeat(with_reducible refine And.intro ?_ ?_;focus first|omega|rfl|assumption|exact⟨_,rfl,rfl⟩|(simp;omega)|(simp;done)))
    first
    |(refine⟨by cases l<;>rfl,?_⟩
      simp -implicitDefEqProofs (disch:=omega) only[go_sem,ak,ah])
    |skip
    rw[hq]
    first|exact⟨aF rfl,rfl⟩|(refine⟨aF ?_,rfl⟩;simp only[aJ.v,List.map_cons,List.map_nil,List.map_append,aS.aj,aR.aj,ay.aj,aD.aj,List.cons_append,List.nil_append];rfl)
   have e1:=h
   with_reducible refine aC (fun hb=> ?_) (fun hb=> ?_)<;>have h:=hb<;>(try simp only[wf_preprocess] at h)<;>simp -implicitDefEqProofs (disch:=omega) only[go_sem,hb,ak,ah]<;>(repeat(with_reducible refine And.intro ?_ ?_;focus first|omega|rfl|assumption|exact⟨_,rfl,rfl⟩|(simp;omega)|(simp;done)))
   ·subst h;simp only[instK,reduceIte,Int.reduceEq] at hq;refine aW rfl (iF hB 1 c7 (1+l) j _ (by rw[aH];exact g _) (by omega)) ?_;simp -implicitDefEqProofs (disch:=omega) only[go_sem,ak,ah]
    (repeat(with_reducible refine And.intro ?_ ?_;focus first|omega|rfl|assumption|exact⟨_,rfl,rfl⟩|(simp;omega)|(simp;done)))
    first
    |(refine⟨by cases l<;>rfl,?_⟩
      simp -implicitDefEqProofs (disch:=omega) only[go_sem,ak,ah])
    |skip
    rw[hq]
    first|exact⟨aF rfl,rfl⟩|(refine⟨aF ?_,rfl⟩;simp only[aJ.v,List.map_cons,List.map_nil,List.map_append,aS.aj,aR.aj,ay.aj,aD.aj,List.cons_append,List.nil_append];rfl)
   have e2:=h
   with_reducible refine aC (fun hb=> ?_) (fun hb=> ?_)<;>have h:=hb<;>(try simp only[wf_preprocess] at h)<;>simp -implicitDefEqProofs (disch:=omega) only[go_sem,hb,ak,ah]<;>(repeat(with_reducible refine And.intro ?_ ?_;focus first|omega|rfl|assumption|exact⟨_,rfl,rfl⟩|(simp;omega)|(simp;done)))
   ·exact absurd h hk3
   with_reducible refine aC (fun hb=> ?_) (fun hb=> ?_)<;>have h:=hb<;>(try simp only[wf_preprocess] at h)<;>simp -implicitDefEqProofs (disch:=omega) only[go_sem,hb,ak,ah]<;>(repeat(with_reducible refine And.intro ?_ ?_;focus first|omega|rfl|assumption|exact⟨_,rfl,rfl⟩|(simp;omega)|(simp;done)))
   ·subst h;simp only[instK,reduceIte,Int.reduceEq] at hq;refine aB iT ?_;simp -implicitDefEqProofs (disch:=omega) only[go_sem,ak,ah];rw[hq]
    first|exact⟨aF rfl,rfl⟩|(refine⟨aF ?_,rfl⟩;simp only[aJ.v,List.map_cons,List.map_nil,List.map_append,aS.aj,aR.aj,ay.aj,aD.aj,List.cons_append,List.nil_append];rfl)
   have e4:=h
   with_reducible refine aC (fun hb=> ?_) (fun hb=> ?_)<;>have h:=hb<;>(try simp only[wf_preprocess] at h)<;>simp -implicitDefEqProofs (disch:=omega) only[go_sem,hb,ak,ah]<;>(repeat(with_reducible refine And.intro ?_ ?_;focus first|omega|rfl|assumption|exact⟨_,rfl,rfl⟩|(simp;omega)|(simp;done)))
   ·exact absurd h hk5
   simp only[instK,if_neg e0,if_neg e1,if_neg e2,if_neg hk3,if_neg e4,if_neg hk5] at hq;rw[hq]
   first|exact⟨aF rfl,rfl⟩|(refine⟨aF ?_,rfl⟩;simp only[aJ.v,List.map_cons,List.map_nil,List.map_append,aS.aj,aR.aj,ay.aj,aD.aj,List.cons_append,List.nil_append];rfl)
theorem YO{bs:List Int}(hB:Bytes bs)(c:Cu bs)(l j:Nat)(S:Store)(hk:bn S (l,j)=some (.box (cur c))):
 bY prog 103 [.c (.ptr (l,j) 0)] S (fun r S1=>r=(instX c).1.v/\S1=aY S (l,j) (.box (cur (instX c).2))):=by
 have hh:=gK (n:=4) (aT 9 (bR lH c).2).2 (by omega);unfold instX;generalize hh0:(aT 4 (aT 9 (bR lH c).2).2).1=h at hh;generalize hc0:(aT 4 (aT 9 (bR lH c).2).2).2=c3;unfold instG;generalize hc1:(zH h (bU 3 c3).1 (bU 3 c3).2).2=c5;unfold instH;by_cases h35:(aT 12 (bU 4 c5).2).1=3\/(aT 12 (bU 4 c5).2).1=5
 ·exact abI hB c _ _ c3 _ c5 _ _ _ _ h _ _ _ _ l j S hk rfl rfl (Prod.ext hh0 hc0) rfl (Prod.ext rfl hc1) rfl rfl (by omega) h35
 ·exact abJ hB c _ _ c3 _ c5 _ _ _ _ h _ _ _ _ l j S hk rfl rfl (Prod.ext hh0 hc0) rfl (Prod.ext rfl hc1) rfl rfl (by omega) (fun e=>h35 (.inl e)) (fun e=>h35 (.inr e))
end Go.Ab