/-
  SEVERAL TEXTS IN ONE (merged by program): contracts and models, each with its own heading.
-/
import Derived.Test.YtnmjbebcebbmfaaGreatDoorPartDnbL
set_option maxHeartbeats 8000000
open Go.Proofs Go.Proofs.Tryz
set_option linter.unusedSimpArgs false
set_option linter.unusedVariables false
set_option maxRecDepth 4000
namespace Go.Ab
theorem au.bounds{x:au}(h:x.sz<=4194304):x.bO.length<=4194304/\x.fName.length<=4194304/\x.fArgs.length<=4194304/\x.aX.length<=4194304/\x.fType.sz<=4194304:=by
 simp only[au.sz,au.aC,bX,bT,D.sz,ab,ak.dY] at h;omega
theorem au.arg_b{x:au}{i:Nat}(hi:i<x.fArgs.length)(h:x.sz<=4194304):x.fArgs[i].sz<=4194304:=by
 have hx:x.fArgs[i].sz<=aS (x.fArgs.map au.enc):=dM (be (ac hi));simp only[au.sz,au.aC,bX,bT,D.sz,ab] at h;omega
theorem au.Xy{x:au}{i:Nat}(hi:i<x.aX.length)(h:x.sz<=4194304):x.aX[i].sz<=4194304:=by
 have hx:x.aX[i].sz<=aS (x.aX.map bq.enc):=dM (be (ac hi));simp only[au.sz,au.aC,bX,bT,D.sz,ab] at h;omega
theorem bq.bounds{x:bq}(h:x.sz<=4194304):x.dV.length<=4194304/\x.aG.length<=4194304/\(∀s∈x.aG,s.length<=4194304)/\x.fBody.sz<=4194304:=by
 have hb:=bq.Ul x;simp only[bq.sz,bq.aC,bX,bT,D.sz,ab] at h hb;refine⟨gA,gA,fun s hs=> ?_,gA⟩;have:=uO hs;omega
theorem Si(k:Int):(k<1\/12<k)\/k=1\/k=2\/k=3\/k=4\/k=5\/k=6\/k=7\/k=8\/k=9\/k=10\/k=11\/k=12:=gA
theorem Zq(x:au)(hsz:x.sz<=4194304)(hc:x.fArgs.length<=300):aD prog 230 [x.v] (.c (.d (.b (dec (xJ x))))):=fun S=>by
 have hb0:=au.bounds hsz;have hz:zS x.fType->pq x.fType=false:=R4;rcases Si x.aN with hk|hk|hk|hk|hk|hk|hk|hk|hk|hk|hk|hk|hk
 ·have h1:¬xJ x:=fun h=>by have:=h.1;omega
  refine zcx [.tmp 2] func230 ntmps230 ?_;refine W1 ?_;refine C2 (O7 x.aN) ?_;refine S0 (fun hb h=>?_) fun hb h=>?_
  ·exact aK (aO h1).symm
  refine S0 (fun hb h=>?_) fun hb h=>?_
  ·exact aK (aO h1).symm
  ·omega
 all_goals
  refine zcx [.tmp 2] func230 ntmps230 ?_;refine zA ?_;refine bn (O7 _) ?_;simp -implicitDefEqProofs (disch:=omega) only[go_sem,hk,ae6,ae7]
  repeat' (first
   |refine S0k (fun hb h=>?_) fun hb h=>?_
   |((with_reducible show fH _ _ 30 _ _ _ _);refine bn (iU x.fName gA) ?_;refine zA ?_)
   |((with_reducible show fH _ _ 30 _ _ _ _);refine bn (iU x.bO gA) ?_;refine zA ?_)
   |((with_reducible show fH _ _ 251 _ _ _ _);refine bn (WY x.fName) ?_;refine zA ?_)
   |((with_reducible show fH _ _ 101 _ _ _ _);refine bn (Lp x.fType) ?_;refine zA ?_)
   |((with_reducible show fH _ _ 159 _ _ _ _);refine bn (Aa x.fType gA) ?_;refine zA ?_)
   |(refine aK (fw.2 ?_);simp only[Dk,xJ,hk];grind [gD,jw,bK,aO]))
end Go.Ab