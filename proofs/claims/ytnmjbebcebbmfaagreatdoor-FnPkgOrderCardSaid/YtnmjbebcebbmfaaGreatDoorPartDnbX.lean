/-
  SEVERAL TEXTS IN ONE (merged by program): contracts and models, each with its own heading.
-/
import Derived.Test.YtnmjbebcebbmfaaGreatDoorPartDnbH
import Derived.Test.YtnmjbebcebbmfaaGreatDoorPartDnbK
set_option maxHeartbeats 8000000
open Go.Proofs Go.Proofs.Tryz
set_option linter.unusedSimpArgs false
set_option linter.unusedVariables false
set_option maxRecDepth 100000
namespace Go.Ab
def oA:List UInt8:=[40,112,97,99,107,97,103,101,32,97,112,112,32,40,99,111,114,101,41,32,40,100,97,116,97,32,116,97,103,32,40,41,32,40,116,97,103,32,105,110,116,41,32,40,110,111,110,101,41,41]
def oH0:List UInt8:=[32,40,105,110,115,116,32,115,104,111,119,32,40,41,32,105,110,116,32,40,41,32,40,41,32,40,41,32,40,109,32,40,120,41,32,57,41,41]
def oH1:List UInt8:=[32,40,105,110,115,116,32,115,104,111,119,32,40,41,32,116,97,103,32,40,41,32,40,41,32,40,41,32,40,109,32,40,120,41,32,40,99,97,115,101,32,120,32,40,110,111,110,101,32,48,41,32,40,116,97,103,32,110,32,110,41,41,41,41]
def oH2:List UInt8:=[32,40,105,110,115,116,32,115,104,111,119,32,40,41,32,40,108,105,115,116,32,116,97,103,41,32,40,41,32,40,41,32,40,41,32,40,109,32,40,120,41,32,52,41,41,32,40,105,110,115,116,32,115,104,111,119,32,40,41,32,116,97,103,32,40,41,32,40,41,32,40,41,32,40,109,32,40,120,41,32,53,41,41]
def oH3:List UInt8:=[32,40,105,110,115,116,32,111,114,100,32,40,41,32,116,97,103,32,40,41,32,40,41,32,40,41,32,40,108,101,115,115,32,40,120,32,121,41,32,116,114,117,101,41,41]
def oH4:List UInt8:=[32,40,105,110,115,116,32,101,113,32,40,41,32,116,97,103,32,40,41,32,40,41,32,40,41,32,40,115,97,109,101,32,40,120,32,121,41,32,116,114,117,101,41,41,32,40,105,110,115,116,32,111,114,100,32,40,41,32,116,97,103,32,40,41,32,40,41,32,40,41,32,40,108,101,115,115,32,40,120,32,121,41,32,102,97,108,115,101,41,41]
def oH5:List UInt8:=[32,40,105,110,115,116,32,115,104,111,119,32,40,97,41,32,39,97,32,40,40,101,113,32,39,97,41,41,32,40,41,32,40,41,32,40,109,32,40,120,41,32,49,41,41]
def oH6:List UInt8:=[32,40,105,110,115,116,32,115,104,111,119,32,40,41,32,116,97,103,32,40,41,32,40,41,32,40,41,32,40,109,32,40,120,41,32,40,99,97,115,101,32,120,32,40,116,97,103,32,110,32,110,41,32,40,110,111,110,101,32,48,41,41,41,41]
def SI(k:Int):List UInt8:=oA++(if k=0 then oH0 else if k=1 then oH1 else if k=2 then oH2 else if k=3 then oH3 else if k=4 then oH4 else if k=5 then oH5 else oH6)
def oM:List UInt8:=[32,40,102,110,32,109,97,105,110,32,40,41,32,40,41,32,40,41,32,105,110,116,32]
def FJ:List (List UInt8):=[[40,99,97,108,108,32,98,111,116,104,32,53,41],[40,109,101,116,104,111,100,32,115,104,111,119,32,109,32,40,110,101,119,32,99,111,110,115,32,49,32,40,110,101,119,32,99,111,110,115,32,50,32,40,116,104,101,32,40,108,105,115,116,32,105,110,116,41,32,40,110,101,119,32,110,105,108,41,41,41,41,41],[40,99,97,108,108,32,98,111,116,104,32,40,110,101,119,32,112,97,105,114,32,51,32,116,114,117,101,41,41],[40,43,32,40,99,97,108,108,32,105,100,32,52,41,32,40,109,101,116,104,111,100,32,115,104,111,119,32,109,32,40,110,101,119,32,116,97,103,32,55,41,41,41],[40,108,101,116,32,122,32,40,109,101,116,104,111,100,32,97,100,100,32,112,108,117,115,32,40,110,101,119,32,98,111,120,32,49,41,32,40,110,101,119,32,98,111,120,32,50,41,41,32,40,99,97,115,101,32,122,32,40,98,111,120,32,110,32,110,41,41,41],[40,109,101,116,104,111,100,32,115,104,111,119,32,109,32,40,110,101,119,32,110,105,108,41,41],[40,109,101,116,104,111,100,32,115,104,111,119,32,109,32,40,112,97,99,107,32,115,104,111,119,32,51,41,41],[40,105,102,32,40,109,101,116,104,111,100,32,111,114,100,32,108,101,115,115,32,49,32,50,41,32,40,99,97,108,108,32,98,111,116,104,32,116,114,117,101,41,32,48,41],[40,109,101,116,104,111,100,32,115,104,111,119,32,109,32,40,110,101,119,32,99,111,110,115,32,40,110,101,119,32,116,97,103,32,49,41,32,40,116,104,101,32,40,108,105,115,116,32,116,97,103,41,32,40,110,101,119,32,110,105,108,41,41,41,41],[40,99,97,108,108,32,98,111,116,104,32,40,99,97,108,108,32,105,100,32,40,99,97,108,108,32,105,100,32,40,110,101,119,32,116,97,103,32,50,41,41,41,41]]
def oT0:List UInt8:=[32,40,102,110,32,108,101,110,32,40,97,41,32,40,41,32,40,40,120,32,40,108,105,115,116,32,39,97,41,41,41,32,105,110,116,32,40,99,97,115,101,32,120,32,40,110,105,108,32,48,41,32,40,99,111,110,115,32,104,32,116,32,40,43,32,49,32,40,99,97,108,108,32,108,101,110,32,116,41,41,41,41,41]
def oT1:List UInt8:=[32,40,102,110,32,115,117,109,32,40,97,41,32,40,40,97,100,100,32,39,97,41,41,32,40,40,120,32,39,97,41,32,40,121,32,39,97,41,41,32,40,97,115,115,111,99,32,97,100,100,32,39,97,41,32,40,109,101,116,104,111,100,32,97,100,100,32,112,108,117,115,32,120,32,121,41,41]
def oT2:List UInt8:=[32,40,102,110,32,103,114,111,119,32,40,97,41,32,40,40,115,104,111,119,32,39,97,41,41,32,40,40,110,32,105,110,116,41,32,40,120,32,39,97,41,41,32,105,110,116,32,40,105,102,32,40,60,32,110,32,49,41,32,40,109,101,116,104,111,100,32,115,104,111,119,32,109,32,120,41,32,40,99,97,108,108,32,103,114,111,119,32,40,45,32,110,32,49,41,32,40,110,101,119,32,112,97,105,114,32,120,32,120,41,41,41,41]
def ZN(k:Int)(m:List UInt8)(x y z:Bool):List UInt8:=
 (((((SI k++(oM++m++[41]))++if x=true then oT0 else [])++if y=true then oT1 else [])++if z=true then oT2 else [])++[41])
def Nc{bs:List Int}(c:Cu bs):List UInt8×Cu bs:=
 (ZN (aY 8 c).1 (cK FJ (aY 8 c).2).1 (bZ 2 (cK FJ (aY 8 c).2).2).1 (bZ 3 (bZ 2 (cK FJ (aY 8 c).2).2).2).1 (bZ 4 (bZ 3 (bZ 2 (cK FJ (aY 8 c).2).2).2).2).1,
   (bZ 4 (bZ 3 (bZ 2 (cK FJ (aY 8 c).2).2).2).2).2)
theorem VZ(k:Int):(SI k).length<=400:=by
 unfold SI;rw[ae]
 have h:oA.length<=200:=gE
 repeat' split
 all_goals (refine co (Nat.add_le_add_left (m:=200) gE _) gA)
theorem ZO:∀s∈FJ,s.length<=200:=gE
theorem amu(k:Int)(m:List UInt8)(hm:m.length<=200)(x y z:Bool):(ZN k m x y z).length<=2000:=by
 have h:=VZ k
 have h0:oM.length<=100:=gE
 have h1:(if x=true then oT0 else []).length<=200:=by cases x<;>decide
 have h2:(if y=true then oT1 else []).length<=200:=by cases y<;>decide
 have h3:(if z=true then oT2 else []).length<=200:=by cases z<;>decide
 unfold ZN;simp only[ae,aa,al];omega
theorem aiP{bs:List Int}(hB:Bytes bs)(c:Cu bs)(l j:Nat)(S:Store)(hk:bC S (l,j)=some (.box (cur c))):
 bS prog 16 [.c (.ptr (l,j) 0)] S (fun r S'=>r=.c (.d (.s (Nc c).1))/\S'=bA S (l,j) (.box (cur (Nc c).2))):=by
 have g:∀x:Ab.Obj,bC (bA S (l,j) x) (l,j)=some x:=fun x=>dA _ _ _ _ hk;unfold Nc;have q1:=eB hB c (1+l) j ([]::S) 8 (by rw[aW];exact hk) gA gA;have r1:=iF (n:=8) c gA;rw[dn] at q1
 generalize hkd:(aY 8 c).1=k at *
 generalize hc1:(aY 8 c).2=c1 at *
 have q2:=gB hB c1 (1+l) j ([]::bA S (l,j) (.box (cur c1))) FJ gO gE gE;rw[dn,cu] at q2;obtain⟨T,hT⟩:∃T,T=SI k:=⟨_,rfl⟩;have fZ:T.length<=400:=hT▸VZ k;obtain⟨m,hm⟩:∃m,m=(cK FJ c1).1:=⟨_,rfl⟩;have hml:m.length<=200:=hm▸ZO _ (Ms c1 gE)
 generalize hc2:(cK FJ c1).2=c2 at *
 rw[<-hm] at q2 ⊢;have q3:=iW hB c2 (1+l) j ([]::bA S (l,j) (.box (cur c2))) 2 gO gA gA;rw[dn,cu] at q3
 generalize hx:(bZ 2 c2).1=x at *
 generalize hc3:(bZ 2 c2).2=c3 at *
 have q4:=iW hB c3 (1+l) j ([]::bA S (l,j) (.box (cur c3))) 3 gO gA gA;rw[dn,cu] at q4
 generalize hy:(bZ 3 c3).1=y at *
 generalize hc4:(bZ 3 c3).2=c4 at *
 have q5:=iW hB c4 (1+l) j ([]::bA S (l,j) (.box (cur c4))) 4 gO gA gA;rw[dn,cu] at q5
 generalize hz:(bZ 4 c4).1=z at *
 generalize hc5:(bZ 4 c4).2=c5 at *
 obtain⟨R,hR⟩:∃R,R=ZN k m x y z:=⟨_,rfl⟩;rw[<-hR];unfold ZN at hR;rw[<-hT] at hR;refine nT [40] (rs:=[.tmp 2]) zmx func16 ntmps16 rfl rfl rfl rfl rfl ?_;refine W1 ?_;refine bD rfl q1 ?_;refine W1 ?_
 repeat' (first|refine S0 (fun hb h=>?_) fun hb h=>?_)
 all_goals
  unfold SI at hT
  repeat(first|rw[if_pos (by assumption)] at hT|rw[if_neg (by assumption)] at hT)
  repeat(refine⟨by first|decide +kernel|omega|(simp only[fX,ae,aa,al];omega)|(cases l<;>rfl),?_⟩)
  refine dX [true] rfl q2 ?_;refine W1 ?_
  repeat(refine⟨by first|decide +kernel|omega|(simp only[fX,ae,aa,al];omega)|(cases l<;>rfl),?_⟩)
  try(simp -implicitDefEqProofs (disch:=omega) only[go_sem])
  refine bD rfl q3 ?_;cases x
  all_goals
   refine W1 ?_
   repeat(refine⟨by first|decide +kernel|omega|(simp only[fX,ae,aa,al];omega)|(cases l<;>rfl),?_⟩)
   refine bD rfl q4 ?_;cases y
   all_goals
    refine W1 ?_
    repeat(refine⟨by first|decide +kernel|omega|(simp only[fX,ae,aa,al];omega)|(cases l<;>rfl),?_⟩)
    refine bD rfl q5 ?_;cases z
    all_goals
     refine W1 ?_
     repeat(refine⟨by first|decide +kernel|omega|(simp only[fX,ae,aa,al];omega)|(cases l<;>rfl),?_⟩)
     subst hR;subst hT;simp only[reduceIte,cP,fX,cf,bc,bm,ba];rfl
end Go.Ab