/-
  SEVERAL TEXTS IN ONE (merged by program): contracts and models, each with its own heading.
-/
import Derived.Test.YtfhpfkaeldgcmaaGreatPartHfbG
import Derived.Test.YtfhpfkaeldgcmaaGreatPartHfbH
set_option maxHeartbeats 8000000
open Go.Proofs Go.Proofs.Tryz
set_option linter.unusedSimpArgs false
set_option linter.unusedVariables false
set_option maxRecDepth 100000
namespace Go.Ab
def oC0:List UInt8:=[40,112,97,99,107,97,103,101,32,99,111,114,101,32,40,41,32,40,116,114,97,105,116,32,115,104,111,119,32,40,41,32,40,41,32,40,109,32,40,41,32,105,110,116,41,32,40,116,119,111,32,40,39,115,101,108,102,41,32,105,110,116,32,40,120,32,121,41,32,40,43,32,40,109,101,116,104,111,100,32,115,104,111,119,32,109,32,120,41,32,40,109,101,116,104,111,100,32,115,104,111,119,32,109,32,121,41,41,41,41]
def oC1:List UInt8:=[32,40,116,114,97,105,116,32,101,113,32,40,41,32,40,41,32,40,115,97,109,101,32,40,39,115,101,108,102,41,32,98,111,111,108,41,41,32,40,116,114,97,105,116,32,111,114,100,32,40,101,113,41,32,40,41,32,40,108,101,115,115,32,40,39,115,101,108,102,41,32,98,111,111,108,41,41,32,40,116,114,97,105,116,32,97,100,100,32,40,41,32,40,97,115,115,111,99,41,32,40,112,108,117,115,32,40,39,115,101,108,102,41,32,40,97,115,115,111,99,32,97,100,100,32,39,115,101,108,102,41,41,41,32,40,116,114,97,105,116,32,115,101,110,100,32,40,41,32,40,97,117,116,111,41,41]
def oC2:List UInt8:=[32,40,100,97,116,97,32,108,105,115,116,32,40,97,41,32,40,110,105,108,41,32,40,99,111,110,115,32,39,97,32,40,108,105,115,116,32,39,97,41,41,41,32,40,100,97,116,97,32,112,97,105,114,32,40,97,32,98,41,32,40,112,97,105,114,32,39,97,32,39,98,41,41,32,40,100,97,116,97,32,98,111,120,32,40,97,41,32,40,98,111,120,32,39,97,41,41,32,40,100,97,116,97,32,117,110,105,116,32,40,41,32,40,117,110,105,116,41,41]
def oC3:List UInt8:=[32,40,105,110,115,116,32,115,104,111,119,32,40,41,32,105,110,116,32,40,41,32,40,41,32,40,41,32,40,109,32,40,120,41,32,120,41,41,32,40,105,110,115,116,32,115,104,111,119,32,40,41,32,98,111,111,108,32,40,41,32,40,41,32,40,41,32,40,109,32,40,120,41,32,40,105,102,32,120,32,49,32,48,41,41,41]
def oC4:List UInt8:=[32,40,105,110,115,116,32,115,104,111,119,32,40,97,41,32,40,108,105,115,116,32,39,97,41,32,40,40,115,104,111,119,32,39,97,41,41,32,40,41,32,40,41,32,40,109,32,40,120,41,32,40,99,97,115,101,32,120,32,40,110,105,108,32,48,41,32,40,99,111,110,115,32,104,32,116,32,40,43,32,40,109,101,116,104,111,100,32,115,104,111,119,32,109,32,104,41,32,40,109,101,116,104,111,100,32,115,104,111,119,32,109,32,116,41,41,41,41,41,41]
def oC5:List UInt8:=[32,40,105,110,115,116,32,115,104,111,119,32,40,97,41,32,40,108,105,115,116,32,39,97,41,32,40,41,32,40,100,101,102,97,117,108,116,41,32,40,41,32,40,109,32,40,120,41,32,55,41,41,32,40,105,110,115,116,32,115,104,111,119,32,40,41,32,40,108,105,115,116,32,105,110,116,41,32,40,41,32,40,41,32,40,41,32,40,109,32,40,120,41,32,40,99,97,115,101,32,120,32,40,110,105,108,32,48,41,32,40,99,111,110,115,32,104,32,116,32,40,43,32,104,32,40,109,101,116,104,111,100,32,115,104,111,119,32,109,32,116,41,41,41,41,41,41]
def oC6:List UInt8:=[32,40,105,110,115,116,32,115,104,111,119,32,40,97,32,98,41,32,40,112,97,105,114,32,39,97,32,39,98,41,32,40,40,115,104,111,119,32,39,97,41,32,40,115,104,111,119,32,39,98,41,41,32,40,41,32,40,41,32,40,109,32,40,120,41,32,40,99,97,115,101,32,120,32,40,112,97,105,114,32,121,32,122,32,40,45,32,40,109,101,116,104,111,100,32,115,104,111,119,32,109,32,121,41,32,40,109,101,116,104,111,100,32,115,104,111,119,32,109,32,122,41,41,41,41,41,41]
def oC7:List UInt8:=[32,40,105,110,115,116,32,101,113,32,40,41,32,105,110,116,32,40,41,32,40,41,32,40,41,32,40,115,97,109,101,32,40,120,32,121,41,32,40,61,32,120,32,121,41,41,41,32,40,105,110,115,116,32,111,114,100,32,40,41,32,105,110,116,32,40,41,32,40,41,32,40,41,32,40,108,101,115,115,32,40,120,32,121,41,32,40,60,32,120,32,121,41,41,41]
def oC8:List UInt8:=[32,40,105,110,115,116,32,101,113,32,40,97,41,32,40,98,111,120,32,39,97,41,32,40,40,101,113,32,39,97,41,41,32,40,41,32,40,41,32,40,115,97,109,101,32,40,120,32,121,41,32,40,99,97,115,101,32,120,32,40,98,111,120,32,112,32,40,99,97,115,101,32,121,32,40,98,111,120,32,113,32,40,109,101,116,104,111,100,32,101,113,32,115,97,109,101,32,112,32,113,41,41,41,41,41,41,41]
def oC9:List UInt8:=[32,40,105,110,115,116,32,97,100,100,32,40,41,32,105,110,116,32,40,41,32,40,41,32,40,105,110,116,41,32,40,112,108,117,115,32,40,120,32,121,41,32,40,43,32,120,32,121,41,41,41]
def amP:List UInt8:=[32,40,105,110,115,116,32,97,100,100,32,40,97,41,32,40,98,111,120,32,39,97,41,32,40,40,97,100,100,32,39,97,41,41,32,40,41,32,40,40,98,111,120,32,40,97,115,115,111,99,32,97,100,100,32,39,97,41,41,41,32,40,112,108,117,115,32,40,120,32,121,41,32,40,99,97,115,101,32,120,32,40,98,111,120,32,112,32,40,99,97,115,101,32,121,32,40,98,111,120,32,113,32,40,110,101,119,32,98,111,120,32,40,109,101,116,104,111,100,32,97,100,100,32,112,108,117,115,32,112,32,113,41,41,41,41,41,41,41,41]
def amQ:List UInt8:=[32,40,102,110,32,105,100,32,40,97,41,32,40,41,32,40,40,120,32,39,97,41,41,32,39,97,32,120,41,32,40,102,110,32,98,111,116,104,32,40,97,41,32,40,40,115,104,111,119,32,39,97,41,41,32,40,40,120,32,39,97,41,41,32,105,110,116,32,40,109,101,116,104,111,100,32,115,104,111,119,32,116,119,111,32,120,32,120,41,41]
def amR:List UInt8:=[41]
def Ip(b:Bool):List UInt8:=(((((((((((oC0++oC1)++oC2)++oC3)++if b=true then oC4 else oC5)++oC6)++oC7)++oC8)++oC9)++amP)++amQ)++amR)
def oA:List UInt8:=[40,112,97,99,107,97,103,101,32,97,112,112,32,40,99,111,114,101,41,32,40,100,97,116,97,32,116,97,103,32,40,41,32,40,116,97,103,32,105,110,116,41,32,40,110,111,110,101,41,41]
def oH0:List UInt8:=[32,40,105,110,115,116,32,115,104,111,119,32,40,41,32,105,110,116,32,40,41,32,40,41,32,40,41,32,40,109,32,40,120,41,32,57,41,41]
def oH1:List UInt8:=[32,40,105,110,115,116,32,115,104,111,119,32,40,41,32,116,97,103,32,40,41,32,40,41,32,40,41,32,40,109,32,40,120,41,32,40,99,97,115,101,32,120,32,40,110,111,110,101,32,48,41,32,40,116,97,103,32,110,32,110,41,41,41,41]
def oH2:List UInt8:=[32,40,105,110,115,116,32,115,104,111,119,32,40,41,32,40,108,105,115,116,32,116,97,103,41,32,40,41,32,40,41,32,40,41,32,40,109,32,40,120,41,32,52,41,41,32,40,105,110,115,116,32,115,104,111,119,32,40,41,32,116,97,103,32,40,41,32,40,41,32,40,41,32,40,109,32,40,120,41,32,53,41,41]
def oH3:List UInt8:=[32,40,105,110,115,116,32,111,114,100,32,40,41,32,116,97,103,32,40,41,32,40,41,32,40,41,32,40,108,101,115,115,32,40,120,32,121,41,32,116,114,117,101,41,41]
def oH4:List UInt8:=[32,40,105,110,115,116,32,101,113,32,40,41,32,116,97,103,32,40,41,32,40,41,32,40,41,32,40,115,97,109,101,32,40,120,32,121,41,32,116,114,117,101,41,41,32,40,105,110,115,116,32,111,114,100,32,40,41,32,116,97,103,32,40,41,32,40,41,32,40,41,32,40,108,101,115,115,32,40,120,32,121,41,32,102,97,108,115,101,41,41]
def oH5:List UInt8:=[32,40,105,110,115,116,32,115,104,111,119,32,40,97,41,32,39,97,32,40,40,101,113,32,39,97,41,41,32,40,41,32,40,41,32,40,109,32,40,120,41,32,49,41,41]
def oH6:List UInt8:=[32,40,105,110,115,116,32,115,104,111,119,32,40,41,32,116,97,103,32,40,41,32,40,41,32,40,41,32,40,109,32,40,120,41,32,40,99,97,115,101,32,120,32,40,116,97,103,32,110,32,110,41,32,40,110,111,110,101,32,48,41,41,41,41]
def LY(k:Int):List UInt8:=oA++(if k=0 then oH0 else if k=1 then oH1 else if k=2 then oH2 else if k=3 then oH3 else if k=4 then oH4 else if k=5 then oH5 else oH6)
def oM:List UInt8:=[32,40,102,110,32,109,97,105,110,32,40,41,32,40,41,32,40,41,32,105,110,116,32]
def Ah:List (List UInt8):=[[40,99,97,108,108,32,98,111,116,104,32,53,41],[40,109,101,116,104,111,100,32,115,104,111,119,32,109,32,40,110,101,119,32,99,111,110,115,32,49,32,40,110,101,119,32,99,111,110,115,32,50,32,40,116,104,101,32,40,108,105,115,116,32,105,110,116,41,32,40,110,101,119,32,110,105,108,41,41,41,41,41],[40,99,97,108,108,32,98,111,116,104,32,40,110,101,119,32,112,97,105,114,32,51,32,116,114,117,101,41,41],[40,43,32,40,99,97,108,108,32,105,100,32,52,41,32,40,109,101,116,104,111,100,32,115,104,111,119,32,109,32,40,110,101,119,32,116,97,103,32,55,41,41,41],[40,108,101,116,32,122,32,40,109,101,116,104,111,100,32,97,100,100,32,112,108,117,115,32,40,110,101,119,32,98,111,120,32,49,41,32,40,110,101,119,32,98,111,120,32,50,41,41,32,40,99,97,115,101,32,122,32,40,98,111,120,32,110,32,110,41,41,41],[40,109,101,116,104,111,100,32,115,104,111,119,32,109,32,40,110,101,119,32,110,105,108,41,41],[40,109,101,116,104,111,100,32,115,104,111,119,32,109,32,40,112,97,99,107,32,115,104,111,119,32,51,41,41],[40,105,102,32,40,109,101,116,104,111,100,32,111,114,100,32,108,101,115,115,32,49,32,50,41,32,40,99,97,108,108,32,98,111,116,104,32,116,114,117,101,41,32,48,41],[40,109,101,116,104,111,100,32,115,104,111,119,32,109,32,40,110,101,119,32,99,111,110,115,32,40,110,101,119,32,116,97,103,32,49,41,32,40,116,104,101,32,40,108,105,115,116,32,116,97,103,41,32,40,110,101,119,32,110,105,108,41,41,41,41],[40,99,97,108,108,32,98,111,116,104,32,40,99,97,108,108,32,105,100,32,40,99,97,108,108,32,105,100,32,40,110,101,119,32,116,97,103,32,50,41,41,41,41]]
def oT0:List UInt8:=[32,40,102,110,32,108,101,110,32,40,97,41,32,40,41,32,40,40,120,32,40,108,105,115,116,32,39,97,41,41,41,32,105,110,116,32,40,99,97,115,101,32,120,32,40,110,105,108,32,48,41,32,40,99,111,110,115,32,104,32,116,32,40,43,32,49,32,40,99,97,108,108,32,108,101,110,32,116,41,41,41,41,41]
def oT1:List UInt8:=[32,40,102,110,32,115,117,109,32,40,97,41,32,40,40,97,100,100,32,39,97,41,41,32,40,40,120,32,39,97,41,32,40,121,32,39,97,41,41,32,40,97,115,115,111,99,32,97,100,100,32,39,97,41,32,40,109,101,116,104,111,100,32,97,100,100,32,112,108,117,115,32,120,32,121,41,41]
def oT2:List UInt8:=[32,40,102,110,32,103,114,111,119,32,40,97,41,32,40,40,115,104,111,119,32,39,97,41,41,32,40,40,110,32,105,110,116,41,32,40,120,32,39,97,41,41,32,105,110,116,32,40,105,102,32,40,60,32,110,32,49,41,32,40,109,101,116,104,111,100,32,115,104,111,119,32,109,32,120,41,32,40,99,97,108,108,32,103,114,111,119,32,40,45,32,110,32,49,41,32,40,110,101,119,32,112,97,105,114,32,120,32,120,41,41,41,41]
def SC(k:Int)(m:List UInt8)(x y z:Bool):List UInt8:=
 (((((LY k++(oM++m++[41]))++if x=true then oT0 else [])++if y=true then oT1 else [])++if z=true then oT2 else [])++[41])
def EN{bs:List Int}(c:Cu bs):List UInt8×Cu bs:=
 (SC (aX 8 c).1 (bQ Ah (aX 8 c).2).1 (bV 2 (bQ Ah (aX 8 c).2).2).1 (bV 3 (bV 2 (bQ Ah (aX 8 c).2).2).2).1 (bV 4 (bV 3 (bV 2 (bQ Ah (aX 8 c).2).2).2).2).1,
   (bV 4 (bV 3 (bV 2 (bQ Ah (aX 8 c).2).2).2).2).2)
def jL{bs:List Int}(c:Cu bs):List UInt8×Cu bs:=
 if(bV 5 (bV 2 c).2).1=true then(Ip (bV 2 c).1,(bV 5 (bV 2 c).2).2)
 else(Ip (bV 2 c).1++[10]++(EN (bV 5 (bV 2 c).2).2).1,(EN (bV 5 (bV 2 c).2).2).2)
theorem OH(b:Bool):(Ip b).length<=4000:=by cases b<;>decide
theorem OI(k:Int):(LY k).length<=400:=by
 unfold LY;rw[List.length_append]
 have h:oA.length<=200:=by decide
 repeat' split
 all_goals (refine Nat.le_trans (Nat.add_le_add_left (m:=200) (by decide) _) (by omega))
theorem JY:∀s∈Ah,s.length<=200:=by decide
theorem SE(k:Int)(m:List UInt8)(hm:m.length<=200)(x y z:Bool):(SC k m x y z).length<=2000:=by
 have h:=OI k
 have h0:oM.length<=100:=by decide
 have h1:(if x=true then oT0 else []).length<=200:=by cases x<;>decide
 have h2:(if y=true then oT1 else []).length<=200:=by cases y<;>decide
 have h3:(if z=true then oT2 else []).length<=200:=by cases z<;>decide
 unfold SC;simp only[List.length_append,List.length_cons,List.length_nil];omega
theorem Yy{bs:List Int}(c:Cu bs):(jL c).1.length<=6100:=by
 have h1:=OH (bV 2 c).1;unfold jL;split
 ·simp only;omega
 ·have h2:(EN (bV 5 (bV 2 c).2).2).1.length<=2000:=SE _ _ (JY _ (BS _ (by decide))) _ _ _;simp only[List.length_append,List.length_cons,List.length_nil];omega
theorem Yz{bs:List Int}(hB:Bytes bs)(c:Cu bs)(l j:Nat)(S:Store)(hk:bA S (l,j)=some (.box (cur c))):
 cB prog 169 [.c (.ptr (l,j) 0)] S (fun r S'=>r=.c (.d (.s (Ip (bV 2 c).1)))/\S'=bq S (l,j) (.box (cur (bV 2 c).2))):=by
 have q:=iF hB c (1+l) j ([]::S) 2 (by rw[aJ];exact hk) (by omega) (by omega);rw[ak] at q
 generalize hx:(bV 2 c).1=x at *
 generalize hc1:(bV 2 c).2=c1 at *
 obtain⟨T,hT⟩:∃T,T=Ip x:=⟨_,rfl⟩;rw[<-hT];refine zcx [.tmp 2] func169 ntmps169 ?_;simp -implicitDefEqProofs (disch:=omega) only[go_sem]
 repeat(refine⟨by decide +kernel,?_⟩)
 refine bE rfl q ?_;cases x
 ·simp -implicitDefEqProofs (disch:=omega) only[go_sem]
  repeat(refine⟨by decide +kernel,?_⟩)
  subst hT;rfl
 ·simp -implicitDefEqProofs (disch:=omega) only[go_sem]
  repeat(refine⟨by decide +kernel,?_⟩)
  subst hT;rfl
theorem abl{bs:List Int}(hB:Bytes bs)(c:Cu bs)(l j:Nat)(S:Store)(hk:bA S (l,j)=some (.box (cur c))):
 cB prog 170 [.c (.ptr (l,j) 0)] S (fun r S'=>r=.c (.d (.s (EN c).1))/\S'=bq S (l,j) (.box (cur (EN c).2))):=by
 have g:∀x:Ab.Obj,bA (bq S (l,j) x) (l,j)=some x:=fun x=>dw _ _ _ _ hk;unfold EN;have q1:=d9 hB c (1+l) j ([]::S) 8 (by rw[aJ];exact hk) (by omega) (by omega);have r1:=iE (n:=8) c (by omega);rw[ak] at q1
 generalize hkd:(aX 8 c).1=k at *
 generalize hc1:(aX 8 c).2=c1 at *
 have q2:=dQ hB c1 (1+l) j ([]::bq S (l,j) (.box (cur c1))) Ah (by rw[aJ];exact g _) (by decide) (by decide);rw[ak,ah] at q2;obtain⟨T,hT⟩:∃T,T=LY k:=⟨_,rfl⟩;have iG:T.length<=400:=hT▸OI k;obtain⟨m,hm⟩:∃m,m=(bQ Ah c1).1:=⟨_,rfl⟩;have hml:m.length<=200:=hm▸JY _ (BS c1 (by decide))
 generalize hc2:(bQ Ah c1).2=c2 at *
 rw[<-hm] at q2 ⊢;have q3:=iF hB c2 (1+l) j ([]::bq S (l,j) (.box (cur c2))) 2 (by rw[aJ];exact g _) (by omega) (by omega);rw[ak,ah] at q3
 generalize hx:(bV 2 c2).1=x at *
 generalize hc3:(bV 2 c2).2=c3 at *
 have q4:=iF hB c3 (1+l) j ([]::bq S (l,j) (.box (cur c3))) 3 (by rw[aJ];exact g _) (by omega) (by omega);rw[ak,ah] at q4
 generalize hy:(bV 3 c3).1=y at *
 generalize hc4:(bV 3 c3).2=c4 at *
 have q5:=iF hB c4 (1+l) j ([]::bq S (l,j) (.box (cur c4))) 4 (by rw[aJ];exact g _) (by omega) (by omega);rw[ak,ah] at q5
 generalize hz:(bV 4 c4).1=z at *
 generalize hc5:(bV 4 c4).2=c5 at *
 obtain⟨R,hR⟩:∃R,R=SC k m x y z:=⟨_,rfl⟩;rw[<-hR];unfold SC at hR;rw[<-hT] at hR;refine pI [67] (rs:=[.tmp 2]) zmx func170 ntmps170 rfl rfl rfl rfl rfl ?_;simp -implicitDefEqProofs (disch:=omega) only[go_sem];refine bE rfl q1 ?_;simp -implicitDefEqProofs (disch:=omega) only[go_sem]
 repeat' (first|with_reducible refine aD (fun hb=> ?_) (fun hb=> ?_)<;>have h:=hb<;>(try simp only[wf_preprocess] at h)<;>simp -implicitDefEqProofs (disch:=omega) only[go_sem,hb]<;>(repeat(with_reducible refine And.intro ?_ ?_;focus first|omega|rfl|assumption|exact⟨_,rfl,rfl⟩|(simp;omega)|(simp;done))))
 all_goals
  unfold LY at hT
  repeat(first|rw[if_pos (by assumption)] at hT|rw[if_neg (by assumption)] at hT)
  repeat(refine⟨by first|decide +kernel|omega|(simp only[List.append_eq,List.length_append,List.length_cons,List.length_nil];omega)|(cases l<;>rfl),?_⟩)
  refine bZ [true] rfl q2 ?_;simp -implicitDefEqProofs (disch:=omega) only[go_sem]
  repeat(refine⟨by first|decide +kernel|omega|(simp only[List.append_eq,List.length_append,List.length_cons,List.length_nil];omega)|(cases l<;>rfl),?_⟩)
  try(simp -implicitDefEqProofs (disch:=omega) only[go_sem])
  refine bE rfl q3 ?_;cases x
  all_goals
   simp -implicitDefEqProofs (disch:=omega) only[go_sem]
   repeat(refine⟨by first|decide +kernel|omega|(simp only[List.append_eq,List.length_append,List.length_cons,List.length_nil];omega)|(cases l<;>rfl),?_⟩)
   refine bE rfl q4 ?_;cases y
   all_goals
    simp -implicitDefEqProofs (disch:=omega) only[go_sem]
    repeat(refine⟨by first|decide +kernel|omega|(simp only[List.append_eq,List.length_append,List.length_cons,List.length_nil];omega)|(cases l<;>rfl),?_⟩)
    refine bE rfl q5 ?_;cases z
    all_goals
     simp -implicitDefEqProofs (disch:=omega) only[go_sem]
     repeat(refine⟨by first|decide +kernel|omega|(simp only[List.append_eq,List.length_append,List.length_cons,List.length_nil];omega)|(cases l<;>rfl),?_⟩)
     subst hR;subst hT;simp only[reduceIte,Bool.false_eq_true,List.append_eq,List.append_assoc,List.nil_append,List.append_nil,List.cons_append];rfl
theorem UA{bs:List Int}(hB:Bytes bs)(c:Cu bs)(l j:Nat)(S:Store)(hk:bA S (l,j)=some (.box (cur c))):
 cB prog 128 [.c (.ptr (l,j) 0)] S (fun r S'=>r=.c (.d (.s (jL c).1))/\S'=bq S (l,j) (.box (cur (jL c).2))):=by
 have g:∀x:Ab.Obj,bA (bq S (l,j) x) (l,j)=some x:=fun x=>dw _ _ _ _ hk;unfold jL;have q1:=Yz hB c (1+l) j ([]::S) (by rw[aJ];exact hk);rw[ak] at q1;have r1:=OH (bV 2 c).1
 generalize hs:Ip (bV 2 c).1=s at *
 generalize hc1:(bV 2 c).2=c1 at *
 have q2:=iF hB c1 (1+l) j ([]::bq S (l,j) (.box (cur c1))) 5 (by rw[aJ];exact g _) (by omega) (by omega);rw[ak,ah] at q2
 generalize hx:(bV 5 c1).1=x at *
 generalize hc2:(bV 5 c1).2=c2 at *
 have q3:=abl hB c2 (1+l) j ([]::bq S (l,j) (.box (cur c2))) (by rw[aJ];exact g _);rw[ak,ah] at q3;have r3:(EN c2).1.length<=2000:=SE _ _ (JY _ (BS _ (by decide))) _ _ _
 generalize ht:(EN c2).1=t at *
 generalize hc3:(EN c2).2=c3 at *
 obtain⟨Q,hQ⟩:∃Q,Q=(if x=true then(s,c2) else(s++[10]++t,c3)):=⟨_,rfl⟩;rw[<-hQ];refine pI [67] (rs:=[.tmp 2]) zmx func128 ntmps128 rfl rfl rfl rfl rfl ?_;simp -implicitDefEqProofs (disch:=omega) only[go_sem];refine bE rfl q1 ?_;simp -implicitDefEqProofs (disch:=omega) only[go_sem];refine bE rfl q2 ?_;cases x
 ·simp only[reduceIte,Bool.false_eq_true] at hQ;subst hQ;simp -implicitDefEqProofs (disch:=omega) only[go_sem];refine⟨by omega,?_⟩;refine bE rfl q3 ?_;simp -implicitDefEqProofs (disch:=omega) only[go_sem,List.length_append,List.length_cons,List.length_nil]
  repeat(refine⟨by first|omega|(cases l<;>rfl),?_⟩)
  try(simp -implicitDefEqProofs (disch:=omega) only[go_sem])
  first|done|omega|rfl
 ·simp only[reduceIte] at hQ;subst hQ;simp -implicitDefEqProofs (disch:=omega) only[go_sem]
  first|done|rfl
end Go.Ab