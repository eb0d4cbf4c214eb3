/-
  SEVERAL TEXTS IN ONE (merged by program): contracts and models, each with its own heading.
-/
import Derived.Test.YtfhpfkaeldgcmaaGreatPartHdbP
set_option maxHeartbeats 8000000
open Go.Proofs Go.Proofs.Tryz
set_option linter.unusedSimpArgs false
set_option linter.unusedVariables false
set_option maxRecDepth 4000
namespace Go.Ab
def WV(k:Int):Bool:=if k=5\/k=11 then true else false
def WW(k:Int):Bool:=if k=3\/k=4\/k=6\/k=5\/k=8\/k=10 then true else false
def WX(k:Int):Bool:=if k=1\/k=2 then true else false
def WY(k:Int):Bool:=if k=1\/k=2\/k=3\/k=4\/k=6\/k=5\/k=7\/k=8\/k=10\/k=9\/k=11 then false else true
def WZ(k:Int):Int:=if k=1\/k=2\/k=3 then 0 else if k=4\/k=6\/k=5 then -1 else if k=8\/k=10 then 2 else if k=9 then 3 else 1
def W9(k:Int):Bool:=if k=7 then true else false
theorem Nw(k:Int):bq prog 234 [.c (.d (.i .i64 k))] (.eH [(false,[.d (.b (WV k))]),(false,[.d (.b (WW k))]),(false,[.d (.b (WX k))]),(false,[.d (.b (WY k))]),(false,[.d (.i .i64 (WZ k))]),(false,[.d (.b (W9 k))])]):=fun S=>by
 refine zcx [.tmp 2,.tmp 3,.tmp 4,.tmp 5,.tmp 6,.tmp 7] func234 ntmps234 ?_;simp -implicitDefEqProofs (disch:=omega) only[go_sem]
 repeat' (first
  |with_reducible refine aD (fun hb=> ?_) (fun hb=> ?_)<;>have h:=hb<;>(try simp only[wf_preprocess] at h)<;>simp -implicitDefEqProofs (disch:=omega) only[go_sem,hb]<;>(repeat(with_reducible refine And.intro ?_ ?_;focus first|omega|rfl|assumption|exact⟨_,rfl,rfl⟩|(simp;omega)|(simp;done)))
  |(unfold WV WW WX WY WZ W9;grind))
theorem KN(t:ay):bq prog 164 [t.v] (.c (.d (.b (dec (Bz t))))):=fun S=>by
 refine zcx [.tmp 2] func164 ntmps164 ?_;simp -implicitDefEqProofs (disch:=omega) only[go_sem]
 repeat' (first
  |with_reducible refine aD (fun hb=> ?_) (fun hb=> ?_)<;>have h:=hb<;>(try simp only[wf_preprocess] at h)<;>simp -implicitDefEqProofs (disch:=omega) only[go_sem,hb]<;>(repeat(with_reducible refine And.intro ?_ ?_;focus first|omega|rfl|assumption|exact⟨_,rfl,rfl⟩|(simp;omega)|(simp;done)))
  |(refine bO ?_;unfold Bz;grind [dQ,bK,gL,j5]))
theorem Xa(s:List UInt8):bq prog 235 [.c (.d (.s s))] (.c (.d (.b (dec (s∈ops))))):=fun S=>by
 refine zcx [.tmp 2] func235 ntmps235 ?_;simp -implicitDefEqProofs (disch:=omega) only[go_sem]
 (repeat(with_reducible refine And.intro ?_ ?_;focus first|omega|rfl|assumption|exact⟨_,rfl,rfl⟩|(simp;omega)|(simp;done)))
 refine aB (nZ ops s (by decide)) ?_;simp -implicitDefEqProofs (disch:=omega) only[go_sem]<;>(repeat(with_reducible refine And.intro ?_ ?_;focus first|omega|rfl|assumption|exact⟨_,rfl,rfl⟩|(simp;omega)|(simp;done)))
theorem Ii:∀n:Nat,∀x:aC,SizeOf.sizeOf x<n->x.sz<=4194304->∀l:Int,0<=l->l<=1048576->bq prog 214 [x.v,.c (.d (.i .i64 l))] (.c (.d (.i .i64 (mK l x.cnt))))
 |0=>fun x h=>by omega
 |n+1=>by
  have ih:=Ii n;intro x hn hsz l hl hl2 S;have hb0:=aC.bounds hsz;have oF:=aC.kQ x;have KO:=aC.zP x;have he:=aC.Ar x;refine zcx [.tmp 4] func214 ntmps214 ?_;simp -implicitDefEqProofs (disch:=omega) only[go_sem]
  refine bT (ι:=Nat×Int) zmx rfl [1,2,5] (fun y=>[.c (.d (.i .i64 y.2)),.c (.ptr (0,0) 0),.c (.d (.i .i64 y.1))]) (fun y=>[.box (x.enc.map .d)]::S)
   (fun y=>y.1<=x.fArgs.length/\(-1<=y.2/\y.2<=1048576)/\mK y.2 (aC.fU (x.fArgs.drop y.1))=mK (l-1) (aC.fU x.fArgs)) (fun y=>x.fArgs.length-y.1) (0,l-1) rfl ?_ ⟨Nat.zero_le _,by simp only;omega,rfl⟩ ?_
  ·simp -implicitDefEqProofs (disch:=omega) only[go_sem]
  rintro⟨i,c⟩ ⟨p1,p2,p3⟩;simp only at p1 p2 p3
  have out:(i=x.fArgs.length\/c<0)->c=mK (l-1) (aC.fU x.fArgs):=fun h=>by
   rcases h with h|h
   ·rw[h,List.drop_length,aC.fU,FN p2.1] at p3;exact p3
   ·rw[<-p3,I4 h];omega
  have second:(i=x.fArgs.length\/c<0)->mK c (aZ.fU x.bE)=mK l x.cnt:=fun h=>by
   rw[out h,DY,he];unfold mK;split<;>split<;>(try split)<;>omega
  simp -implicitDefEqProofs (disch:=omega) only[go_sem]
  with_reducible refine aD (fun hb=> ?_) (fun hb=> ?_)<;>have h:=hb<;>(try simp only[wf_preprocess] at h)<;>simp -implicitDefEqProofs (disch:=omega) only[go_sem,hb]<;>(repeat(with_reducible refine And.intro ?_ ?_;focus first|omega|rfl|assumption|exact⟨_,rfl,rfl⟩|(simp;omega)|(simp;done)))
  ·have hi:i<x.fArgs.length:=by omega
   with_reducible refine aD (fun hb=> ?_) (fun hb=> ?_)<;>have h:=hb<;>(try simp only[wf_preprocess] at h)<;>simp -implicitDefEqProofs (disch:=omega) only[go_sem,hb]<;>(repeat(with_reducible refine And.intro ?_ ?_;focus first|omega|rfl|assumption|exact⟨_,rfl,rfl⟩|(simp;omega)|(simp;done)))
   ·have hs:=List.sizeOf_lt_of_mem (List.getElem_mem hi);have hr:=Mg (l:=c) (c:=x.fArgs[i].cnt) (by omega);rw[aC.qK hi,<-DY] at p3
    (repeat(with_reducible refine And.intro ?_ ?_;focus first|omega|rfl|assumption|exact⟨_,rfl,rfl⟩|(simp;omega)|(simp;done)))
    refine aB (ih x.fArgs[i] (by omega) (aC.arg_b hi hsz) c (by omega) (by omega)) ?_;simp -implicitDefEqProofs (disch:=omega) only[go_sem]<;>(repeat(with_reducible refine And.intro ?_ ?_;focus first|omega|rfl|assumption|exact⟨_,rfl,rfl⟩|(simp;omega)|(simp;done)));exact dG (i+1,mK c x.fArgs[i].cnt) (by simp only;omega) rfl rfl ⟨by simp only;omega,by simp only;omega,p3⟩
   ·have p4:=second (.inr (by omega));clear second out p3
    refine bT (ι:=Nat×Int) zmx rfl [1,2,6] (fun y=>[.c (.d (.i .i64 y.2)),.c (.ptr (0,0) 0),.c (.d (.i .i64 y.1))]) (fun y=>[.box (x.enc.map .d)]::S)
     (fun y=>y.1<=x.bE.length/\(-1<=y.2/\y.2<=1048576)/\mK y.2 (aZ.fU (x.bE.drop y.1))=mK l x.cnt) (fun y=>x.bE.length-y.1) (0,c) rfl ?_ ⟨Nat.zero_le _,by simp only;omega,p4⟩ ?_
    ·simp -implicitDefEqProofs (disch:=omega) only[go_sem]
    clear p1 p2 p4;rintro⟨i,d⟩ ⟨p1,p2,p3⟩;simp only at p1 p2 p3;simp -implicitDefEqProofs (disch:=omega) only[go_sem]
    with_reducible refine aD (fun hb=> ?_) (fun hb=> ?_)<;>have h:=hb<;>(try simp only[wf_preprocess] at h)<;>simp -implicitDefEqProofs (disch:=omega) only[go_sem,hb]<;>(repeat(with_reducible refine And.intro ?_ ?_;focus first|omega|rfl|assumption|exact⟨_,rfl,rfl⟩|(simp;omega)|(simp;done)))
    ·have hi:i<x.bE.length:=by omega
     with_reducible refine aD (fun hb=> ?_) (fun hb=> ?_)<;>have h:=hb<;>(try simp only[wf_preprocess] at h)<;>simp -implicitDefEqProofs (disch:=omega) only[go_sem,hb]<;>(repeat(with_reducible refine And.intro ?_ ?_;focus first|omega|rfl|assumption|exact⟨_,rfl,rfl⟩|(simp;omega)|(simp;done)))
     ·have hs:=List.sizeOf_lt_of_mem (List.getElem_mem hi);have hs':=aZ.xB x.bE[i];have hr:=Mg (l:=d) (c:=x.bE[i].fBody.cnt) (by omega);rw[aZ.qK hi,<-DY] at p3
      (repeat(with_reducible refine And.intro ?_ ?_;focus first|omega|rfl|assumption|exact⟨_,rfl,rfl⟩|(simp;omega)|(simp;done)))
      refine aB (ih x.bE[i].fBody (by omega) (aZ.bounds (aC.WS hi hsz)).2.2.2 d (by omega) (by omega)) ?_;simp -implicitDefEqProofs (disch:=omega) only[go_sem]<;>(repeat(with_reducible refine And.intro ?_ ?_;focus first|omega|rfl|assumption|exact⟨_,rfl,rfl⟩|(simp;omega)|(simp;done)));exact dG (i+1,mK d x.bE[i].fBody.cnt) (by simp only;omega) rfl rfl ⟨by simp only;omega,by simp only;omega,p3⟩
     ·rw[I4 (by omega)] at p3;exact int_eq (by omega)
    ·have hi:i=x.bE.length:=by omega
     rw[hi,List.drop_length,aZ.fU,FN p2.1] at p3;exact int_eq (by omega)
  ·have p4:=second (.inl (by omega));clear second out p3
   refine bT (ι:=Nat×Int) zmx rfl [1,2,6] (fun y=>[.c (.d (.i .i64 y.2)),.c (.ptr (0,0) 0),.c (.d (.i .i64 y.1))]) (fun y=>[.box (x.enc.map .d)]::S)
    (fun y=>y.1<=x.bE.length/\(-1<=y.2/\y.2<=1048576)/\mK y.2 (aZ.fU (x.bE.drop y.1))=mK l x.cnt) (fun y=>x.bE.length-y.1) (0,c) rfl ?_ ⟨Nat.zero_le _,by simp only;omega,p4⟩ ?_
   ·simp -implicitDefEqProofs (disch:=omega) only[go_sem]
   clear p1 p2 p4;rintro⟨i,d⟩ ⟨p1,p2,p3⟩;simp only at p1 p2 p3;simp -implicitDefEqProofs (disch:=omega) only[go_sem]
   with_reducible refine aD (fun hb=> ?_) (fun hb=> ?_)<;>have h:=hb<;>(try simp only[wf_preprocess] at h)<;>simp -implicitDefEqProofs (disch:=omega) only[go_sem,hb]<;>(repeat(with_reducible refine And.intro ?_ ?_;focus first|omega|rfl|assumption|exact⟨_,rfl,rfl⟩|(simp;omega)|(simp;done)))
   ·have hi:i<x.bE.length:=by omega
    with_reducible refine aD (fun hb=> ?_) (fun hb=> ?_)<;>have h:=hb<;>(try simp only[wf_preprocess] at h)<;>simp -implicitDefEqProofs (disch:=omega) only[go_sem,hb]<;>(repeat(with_reducible refine And.intro ?_ ?_;focus first|omega|rfl|assumption|exact⟨_,rfl,rfl⟩|(simp;omega)|(simp;done)))
    ·have hs:=List.sizeOf_lt_of_mem (List.getElem_mem hi);have hs':=aZ.xB x.bE[i];have hr:=Mg (l:=d) (c:=x.bE[i].fBody.cnt) (by omega);rw[aZ.qK hi,<-DY] at p3
     (repeat(with_reducible refine And.intro ?_ ?_;focus first|omega|rfl|assumption|exact⟨_,rfl,rfl⟩|(simp;omega)|(simp;done)))
     refine aB (ih x.bE[i].fBody (by omega) (aZ.bounds (aC.WS hi hsz)).2.2.2 d (by omega) (by omega)) ?_;simp -implicitDefEqProofs (disch:=omega) only[go_sem]<;>(repeat(with_reducible refine And.intro ?_ ?_;focus first|omega|rfl|assumption|exact⟨_,rfl,rfl⟩|(simp;omega)|(simp;done)));exact dG (i+1,mK d x.bE[i].fBody.cnt) (by simp only;omega) rfl rfl ⟨by simp only;omega,by simp only;omega,p3⟩
    ·rw[I4 (by omega)] at p3;exact int_eq (by omega)
   ·have hi:i=x.bE.length:=by omega
    rw[hi,List.drop_length,aZ.fU,FN p2.1] at p3;exact int_eq (by omega)
theorem Tk:∀n:Nat,∀x:aC,SizeOf.sizeOf x<n->x.sz<=4194304->bq prog 215 [x.v] (.c (.d (.b (iW x)))):=by
 intro n
 induction n with
 |zero=>intro x h;omega
 |succ n ih=>
  intro x hn hsz S;have hb0:=aC.bounds hsz;have oF:=aC.kQ x;have KO:=aC.zP x;have he:=Nl x;have hv0:=Ot;have hop:x.fName∈ops->validName x.fName=false:=QG;refine(show(xC x-> ?T)->_ from fun tail=> ?main) ?tp
  case' main=>
   rcases WU x.aR with hk|hk|hk|hk|hk|hk|hk|hk|hk|hk|hk|hk|hk
   ·have h1:iW x=false:=by rw[he,bK (fun h=>by have:=h.1;omega)];rfl
    refine zcx [.tmp 2] func215 ntmps215 ?_;simp -implicitDefEqProofs (disch:=omega) only[go_sem];refine aB (Nw _) ?_;simp -implicitDefEqProofs (disch:=omega) only[go_sem];refine aB (CX _ _ _) ?_;simp -implicitDefEqProofs (disch:=omega) only[go_sem]
    with_reducible refine aD (fun hb=> ?_) (fun hb=> ?_)<;>have h:=hb<;>(try simp only[wf_preprocess] at h)<;>simp -implicitDefEqProofs (disch:=omega) only[go_sem,hb]<;>(repeat(with_reducible refine And.intro ?_ ?_;focus first|omega|rfl|assumption|exact⟨_,rfl,rfl⟩|(simp;omega)|(simp;done)))
    ·rw[h1]
    ·omega
   all_goals
    have hf0:¬xC x->V.c (.d (.b false))=V.c (.d (.b (iW x))):=fun h=>bO (by rw[he,bK h];rfl);refine zcx [.tmp 2] func215 ntmps215 ?_;simp -implicitDefEqProofs (disch:=omega) only[go_sem,hk];refine aB (Nw _) ?_;simp -implicitDefEqProofs (disch:=omega) only[go_sem,hk,WV,WW,WX,WY,WZ,W9,or_false,or_true,true_or,false_or];refine aB (CX _ _ _) ?_;simp -implicitDefEqProofs (disch:=omega) only[go_sem,hk]
    repeat' (first
     |with_reducible refine aD (fun hb=> ?_) (fun hb=> ?_)<;>have h:=hb<;>(try simp only[wf_preprocess] at h)<;>simp -implicitDefEqProofs (disch:=omega) only[go_sem,hb,hk]<;>(repeat(with_reducible refine And.intro ?_ ?_;focus first|omega|rfl|assumption|exact⟨_,rfl,rfl⟩|(simp;omega)|(simp;done)))
     |((with_reducible show iJ _ _ 77 _ _ _ _);refine aB (gM x.fName (by omega)) ?_;simp -implicitDefEqProofs (disch:=omega) only[go_sem,hk])
     |((with_reducible show iJ _ _ 77 _ _ _ _);refine aB (gM x.bU (by omega)) ?_;simp -implicitDefEqProofs (disch:=omega) only[go_sem,hk])
     |((with_reducible show iJ _ _ 235 _ _ _ _);refine aB (Xa x.fName) ?_;simp -implicitDefEqProofs (disch:=omega) only[go_sem,hk])
     |((with_reducible show iJ _ _ 164 _ _ _ _);refine aB (KN x.fType) ?_;simp -implicitDefEqProofs (disch:=omega) only[go_sem,hk])
     |((with_reducible show iJ _ _ 186 _ _ _ _);refine aB (uY x.fType (by omega)) ?_;simp -implicitDefEqProofs (disch:=omega) only[go_sem,hk])
     |((with_reducible show iJ _ _ 35 _ _ _ _);refine aB (CX x.fN _ _) ?_;simp -implicitDefEqProofs (disch:=omega) only[go_sem,hk])
     |(refine hf0 fun hF=> ?_;simp only[xC,hk,or_false,or_true,true_or,false_or,and_true,true_and,if_true,if_false,↓reduceIte,Int.reduceEq,Int.reduceLT,Int.reduceLE] at hF;grind [gL,j5,dQ,bK]))
   all_goals
    have hF:xC x:=by simp only[xC,hk,or_false,or_true,true_or,false_or,and_true,true_and,if_true,if_false,↓reduceIte,Int.reduceEq,Int.reduceLT,Int.reduceLE];grind [gL,j5,dQ,bK]
    refine Ay (st':=[.box (x.enc.map .d)]::S) [1,9] [.c (.ptr (0,0) 0),.c (.d (.i .i64 0))] rfl (by simp -implicitDefEqProofs (disch:=omega) only[go_sem,hk]) ?_;exact tail hF
  intro hF;rw[dQ hF,Bool.true_and] at he;clear hF hop hv0
  refine bT (ι:=Nat) zmx rfl [1,9] (fun i=>[.c (.ptr (0,0) 0),.c (.d (.i .i64 i))]) (fun _=>[.box (x.enc.map .d)]::S)
   (fun i=>i<=x.fArgs.length/\lG (x.fArgs.drop i)=lG x.fArgs) (fun i=>x.fArgs.length-i) 0 rfl ?_ ⟨Nat.zero_le _,rfl⟩ ?_
  ·simp -implicitDefEqProofs (disch:=omega) only[go_sem]
  rintro i ⟨p1,p2⟩;simp -implicitDefEqProofs (disch:=omega) only[go_sem]
  with_reducible refine aD (fun hb=> ?_) (fun hb=> ?_)<;>have h:=hb<;>(try simp only[wf_preprocess] at h)<;>simp -implicitDefEqProofs (disch:=omega) only[go_sem,hb]<;>(repeat(with_reducible refine And.intro ?_ ?_;focus first|omega|rfl|assumption|exact⟨_,rfl,rfl⟩|(simp;omega)|(simp;done)))
  ·have hi:i<x.fArgs.length:=by omega
   have hs:=List.sizeOf_lt_of_mem (List.getElem_mem hi);rw[QF hi] at p2
   (repeat(with_reducible refine And.intro ?_ ?_;focus first|omega|rfl|assumption|exact⟨_,rfl,rfl⟩|(simp;omega)|(simp;done)))
   refine aB (ih x.fArgs[i] (by omega) (aC.arg_b hi hsz)) ?_;simp -implicitDefEqProofs (disch:=omega) only[go_sem]<;>(repeat(with_reducible refine And.intro ?_ ?_;focus first|omega|rfl|assumption|exact⟨_,rfl,rfl⟩|(simp;omega)|(simp;done)))
   with_reducible refine aD (fun hb=> ?_) (fun hb=> ?_)<;>have h:=hb<;>(try simp only[wf_preprocess] at h)<;>simp -implicitDefEqProofs (disch:=omega) only[go_sem,hb]<;>(repeat(with_reducible refine And.intro ?_ ?_;focus first|omega|rfl|assumption|exact⟨_,rfl,rfl⟩|(simp;omega)|(simp;done)))
   ·exact bO (by rw[he,<-p2,h];rfl)
   ·exact dG (i+1) (by omega) rfl rfl ⟨by omega,by rw[<-p2,h];rfl⟩
  rw[List.drop_of_length_le (by omega)] at p2;have q:lG x.fArgs=true:=p2.symm;clear p2 p1
  refine bT (ι:=Nat) zmx rfl [1,10] (fun i=>[.c (.ptr (0,0) 0),.c (.d (.i .i64 i))]) (fun _=>[.box (x.enc.map .d)]::S)
   (fun i=>i<=x.bE.length/\og (x.bE.drop i)=og x.bE) (fun i=>x.bE.length-i) 0 rfl ?_ ⟨Nat.zero_le _,rfl⟩ ?_
  ·simp -implicitDefEqProofs (disch:=omega) only[go_sem]
  rintro i ⟨p1,p2⟩;simp -implicitDefEqProofs (disch:=omega) only[go_sem]
  with_reducible refine aD (fun hb=> ?_) (fun hb=> ?_)<;>have h:=hb<;>(try simp only[wf_preprocess] at h)<;>simp -implicitDefEqProofs (disch:=omega) only[go_sem,hb]<;>(repeat(with_reducible refine And.intro ?_ ?_;focus first|omega|rfl|assumption|exact⟨_,rfl,rfl⟩|(simp;omega)|(simp;done)))
  ·have hi:i<x.bE.length:=by omega
   have hs:=List.sizeOf_lt_of_mem (List.getElem_mem hi);have hs':=aZ.xB x.bE[i];have hab:=aZ.bounds (aC.WS hi hsz);rw[S9 hi] at p2;have no:yc x.bE[i]=false->V.c (.d (.b false))=V.c (.d (.b (iW x))):=fun h=>bO (by rw[he,<-p2,h];simp)
   (repeat(with_reducible refine And.intro ?_ ?_;focus first|omega|rfl|assumption|exact⟨_,rfl,rfl⟩|(simp;omega)|(simp;done)))
   refine aB (gM x.bE[i].fK (by omega)) ?_;simp -implicitDefEqProofs (disch:=omega) only[go_sem]<;>(repeat(with_reducible refine And.intro ?_ ?_;focus first|omega|rfl|assumption|exact⟨_,rfl,rfl⟩|(simp;omega)|(simp;done)))
   with_reducible refine aD (fun hb=> ?_) (fun hb=> ?_)<;>have h:=hb<;>(try simp only[wf_preprocess] at h)<;>simp -implicitDefEqProofs (disch:=omega) only[go_sem,hb]<;>(repeat(with_reducible refine And.intro ?_ ?_;focus first|omega|rfl|assumption|exact⟨_,rfl,rfl⟩|(simp;omega)|(simp;done)))
   ·exact no (by rw[xD,h];rfl)
   have k1:=h
   (repeat(with_reducible refine And.intro ?_ ?_;focus first|omega|rfl|assumption|exact⟨_,rfl,rfl⟩|(simp;omega)|(simp;done)))
   refine aB (Kw x.bE[i].aO (by omega) hab.2.2.1) ?_;simp -implicitDefEqProofs (disch:=omega) only[go_sem]<;>(repeat(with_reducible refine And.intro ?_ ?_;focus first|omega|rfl|assumption|exact⟨_,rfl,rfl⟩|(simp;omega)|(simp;done)))
   with_reducible refine aD (fun hb=> ?_) (fun hb=> ?_)<;>have h:=hb<;>(try simp only[wf_preprocess] at h)<;>simp -implicitDefEqProofs (disch:=omega) only[go_sem,hb]<;>(repeat(with_reducible refine And.intro ?_ ?_;focus first|omega|rfl|assumption|exact⟨_,rfl,rfl⟩|(simp;omega)|(simp;done)))
   ·exact no (by rw[xD];unfold iP;rw[h];simp)
   have k2:=h
   (repeat(with_reducible refine And.intro ?_ ?_;focus first|omega|rfl|assumption|exact⟨_,rfl,rfl⟩|(simp;omega)|(simp;done)))
   refine aB (mW x.bE[i].aO (by omega)) ?_;simp -implicitDefEqProofs (disch:=omega) only[go_sem]<;>(repeat(with_reducible refine And.intro ?_ ?_;focus first|omega|rfl|assumption|exact⟨_,rfl,rfl⟩|(simp;omega)|(simp;done)))
   with_reducible refine aD (fun hb=> ?_) (fun hb=> ?_)<;>have h:=hb<;>(try simp only[wf_preprocess] at h)<;>simp -implicitDefEqProofs (disch:=omega) only[go_sem,hb]<;>(repeat(with_reducible refine And.intro ?_ ?_;focus first|omega|rfl|assumption|exact⟨_,rfl,rfl⟩|(simp;omega)|(simp;done)))
   ·exact no (by rw[xD];unfold iP;rw[bK h];simp)
   have k3:=h
   (repeat(with_reducible refine And.intro ?_ ?_;focus first|omega|rfl|assumption|exact⟨_,rfl,rfl⟩|(simp;omega)|(simp;done)))
   refine aB (ih x.bE[i].fBody (by omega) hab.2.2.2) ?_;simp -implicitDefEqProofs (disch:=omega) only[go_sem]<;>(repeat(with_reducible refine And.intro ?_ ?_;focus first|omega|rfl|assumption|exact⟨_,rfl,rfl⟩|(simp;omega)|(simp;done)))
   with_reducible refine aD (fun hb=> ?_) (fun hb=> ?_)<;>have h:=hb<;>(try simp only[wf_preprocess] at h)<;>simp -implicitDefEqProofs (disch:=omega) only[go_sem,hb]<;>(repeat(with_reducible refine And.intro ?_ ?_;focus first|omega|rfl|assumption|exact⟨_,rfl,rfl⟩|(simp;omega)|(simp;done)))
   ·exact no (by rw[xD,h];simp)
   ·exact fu 1 (by decide) (i+1) (by omega) rfl rfl rfl rfl ⟨by omega,by rw[<-p2,xD,k1,h];unfold iP;rw[k2,dQ k3];rfl⟩
  ·rw[List.drop_of_length_le (by omega)] at p2;exact bO (by rw[he,q,<-p2];rfl)
theorem Jb(x:aC)(hsz:x.sz<=4194304):bq prog 190 [x.v] (.c (.d (.b (vG x)))):=fun S=>by
 have hs:=acV (l:=300) (c:=x.cnt) (by omega);refine zcx [.tmp 2] func190 ntmps190 ?_;simp -implicitDefEqProofs (disch:=omega) only[go_sem];refine aB (Ii _ x (Nat.lt_succ_self _) hsz 300 (by omega) (by omega)) ?_;simp -implicitDefEqProofs (disch:=omega) only[go_sem]<;>(repeat(with_reducible refine And.intro ?_ ?_;focus first|omega|rfl|assumption|exact⟨_,rfl,rfl⟩|(simp;omega)|(simp;done)));rw[hs]
 with_reducible refine aD (fun hb=> ?_) (fun hb=> ?_)<;>have h:=hb<;>(try simp only[wf_preprocess] at h)<;>simp -implicitDefEqProofs (disch:=omega) only[go_sem,hb]<;>(repeat(with_reducible refine And.intro ?_ ?_;focus first|omega|rfl|assumption|exact⟨_,rfl,rfl⟩|(simp;omega)|(simp;done)))
 ·refine aB (Tk _ x (Nat.lt_succ_self _) hsz) ?_;simp -implicitDefEqProofs (disch:=omega) only[go_sem]<;>(repeat(with_reducible refine And.intro ?_ ?_;focus first|omega|rfl|assumption|exact⟨_,rfl,rfl⟩|(simp;omega)|(simp;done)));exact bO (by unfold vG;rw[dQ (by omega)];rfl)
 ·exact bO (by unfold vG;rw[bK (by omega)];rfl)
end Go.Ab