/-
  SEVERAL TEXTS IN ONE (merged by program): contracts and models, each with its own heading.
-/
import Derived.Test.YtnceiannponbjaaGreatDoorPartDlbM
set_option maxHeartbeats 8000000
open Go.Proofs Go.Proofs.Tryz
set_option linter.unusedSimpArgs false
set_option linter.unusedVariables false
set_option maxRecDepth 4000
namespace Go.Ab
theorem aC.ae5{x:aC}{y:aC}(h:y∈x.fArgs):y.cnt+1<=x.cnt:=by
 rw[aC.nu x]
 have:∀xs:List aC,y∈xs->y.cnt<=aC.dD xs:=by
  intro xs
  induction xs with
  |nil=>intro h;cases h
  |cons z zs ih=>
   intro h;rw[aC.dD];rcases List.mem_cons.1 h with e|e
   ·subst e;omega
   ·have:=ih e;omega
 have:=this _ h;omega
theorem aC.ae6{x:aC}{y:aP}(h:y∈x.aO):y.fBody.cnt+1<=x.cnt:=by
 rw[aC.nu x]
 have:∀xs:List aP,y∈xs->y.fBody.cnt<=aP.dD xs:=by
  intro xs
  induction xs with
  |nil=>intro h;cases h
  |cons z zs ih=>
   intro h;rw[aP.dD];rcases List.mem_cons.1 h with e|e
   ·subst e;rw[aP.nu];omega
   ·have:=ih e;omega
 have:=this _ h;omega
theorem aC.ae7(x:aC):x.fArgs.length+1<=x.cnt:=by
 rw[aC.nu x]
 have:∀xs:List aC,xs.length<=aC.dD xs:=by
  intro xs
  induction xs with
  |nil=>simp
  |cons z zs ih=>rw[aC.dD,List.length_cons];have:=aC.nu z;omega
 have:=this x.fArgs;omega
def WQ(k:Int):Bool:=if k=5\/k=11 then true else false
def WR(k:Int):Bool:=if k=3\/k=4\/k=6\/k=5\/k=8\/k=10 then true else false
def WS(k:Int):Bool:=if k=1\/k=2 then true else false
def WU(k:Int):Bool:=if k=1\/k=2\/k=3\/k=4\/k=6\/k=5\/k=7\/k=8\/k=10\/k=9\/k=11 then false else true
def WV(k:Int):Int:=if k=1\/k=2\/k=3 then 0 else if k=4\/k=6\/k=5 then -1 else if k=8\/k=10 then 2 else if k=9 then 3 else 1
def WW(k:Int):Bool:=if k=7 then true else false
theorem KE:∀n:Nat,∀x:aC,SizeOf.sizeOf x<n->x.sz<=4194304->x.cnt<=300->aJ prog 176 [x.v] (.c (.d (.b (gU x))))
 |0=>fun x h=>by omega
 |n+1=>by
  have ih:=KE n;intro x hn hsz hc S;have hb0:=aC.bounds hsz;have jA:=aC.iI x;have Dm:=aC.uU x;have hl:=aC.ae7 x
  have h1:∀y∈x.fArgs,aJ prog 204 [y.v] (.c (.d (.b (!gU y)))):=fun y hy S=>by
   have hys:=List.sizeOf_lt_of_mem hy;have hyc:=aC.ae5 hy
   have hyz:y.sz<=4194304:=by obtain⟨i,hi,e⟩:=List.getElem_of_mem hy;rw[<-e];exact aC.arg_b hi hsz
   refine zcx [.tmp 2] func204 ntmps204 ?_;simp -implicitDefEqProofs (disch:=omega) only[go_sem];refine aA (ih y (by omega) hyz (by omega)) ?_;simp -implicitDefEqProofs (disch:=omega) only[go_sem]<;>(repeat(with_reducible refine And.intro ?_ ?_;focus first|omega|rfl|assumption|exact⟨_,rfl,rfl⟩|(simp;omega)|(simp;done)))
  have h2:∀y∈x.aO,aJ prog 206 [y.v] (.c (.d (.b (!tC y)))):=fun y hy S=>by
   have hys:=List.sizeOf_lt_of_mem hy;have hyb:=aP.sU y;have hyc:=aC.ae6 hy
   have hyz:y.sz<=4194304:=by obtain⟨i,hi,e⟩:=List.getElem_of_mem hy;rw[<-e];exact aC.Oq hi hsz
   have hyy:=aP.bounds hyz;refine zcx [.tmp 2] func206 ntmps206 ?_;simp -implicitDefEqProofs (disch:=omega) only[go_sem];refine aA (kE y.bU (by omega)) ?_;simp -implicitDefEqProofs (disch:=omega) only[go_sem]<;>(repeat(with_reducible refine And.intro ?_ ?_;focus first|omega|rfl|assumption|exact⟨_,rfl,rfl⟩|(simp;omega)|(simp;done)))
   with_reducible refine aD (fun hb=> ?_) (fun hb=> ?_)<;>have h:=hb<;>(try simp only[wf_preprocess] at h)<;>simp -implicitDefEqProofs (disch:=omega) only[go_sem,hb]<;>(repeat(with_reducible refine And.intro ?_ ?_;focus first|omega|rfl|assumption|exact⟨_,rfl,rfl⟩|(simp;omega)|(simp;done)))
   ·exact aY (by rw[pq,h];rfl)
   have k1:=h;refine aA (xK y.aK (by omega) hyy.2.2.1) ?_;simp -implicitDefEqProofs (disch:=omega) only[go_sem]<;>(repeat(with_reducible refine And.intro ?_ ?_;focus first|omega|rfl|assumption|exact⟨_,rfl,rfl⟩|(simp;omega)|(simp;done)))
   with_reducible refine aD (fun hb=> ?_) (fun hb=> ?_)<;>have h:=hb<;>(try simp only[wf_preprocess] at h)<;>simp -implicitDefEqProofs (disch:=omega) only[go_sem,hb]<;>(repeat(with_reducible refine And.intro ?_ ?_;focus first|omega|rfl|assumption|exact⟨_,rfl,rfl⟩|(simp;omega)|(simp;done)))
   ·exact aY (by rw[pq,h];simp)
   have k2:=h;refine aA (ih y.fBody (by omega) hyy.2.2.2 (by omega)) ?_;simp -implicitDefEqProofs (disch:=omega) only[go_sem]<;>(repeat(with_reducible refine And.intro ?_ ?_;focus first|omega|rfl|assumption|exact⟨_,rfl,rfl⟩|(simp;omega)|(simp;done)));exact aY (by rw[pq,k1,k2];simp)
  refine zcx [.tmp 2] func176 ntmps176 ?_;simp -implicitDefEqProofs (disch:=omega) only[go_sem];refine aA (QI x hsz (by omega)) ?_;simp -implicitDefEqProofs (disch:=omega) only[go_sem]<;>(repeat(with_reducible refine And.intro ?_ ?_;focus first|omega|rfl|assumption|exact⟨_,rfl,rfl⟩|(simp;omega)|(simp;done)))
  with_reducible refine aD (fun hb=> ?_) (fun hb=> ?_)<;>have h:=hb<;>(try simp only[wf_preprocess] at h)<;>simp -implicitDefEqProofs (disch:=omega) only[go_sem,hb]<;>(repeat(with_reducible refine And.intro ?_ ?_;focus first|omega|rfl|assumption|exact⟨_,rfl,rfl⟩|(simp;omega)|(simp;done)))
  ·exact aY (by rw[vk,bI h];rfl)
  have k1:=h
  (repeat(with_reducible refine And.intro ?_ ?_;focus first|omega|rfl|assumption|exact⟨_,rfl,rfl⟩|(simp;omega)|(simp;done)))
  refine aT rfl (En 204 [] _ x.fArgs (fun y=> !gU y) (by omega) fun y hy=>og.LB (h1 y hy)) ?_;simp -implicitDefEqProofs (disch:=omega) only[go_sem];rw[Hr]
  with_reducible refine aD (fun hb=> ?_) (fun hb=> ?_)<;>have h:=hb<;>(try simp only[wf_preprocess] at h)<;>simp -implicitDefEqProofs (disch:=omega) only[go_sem,hb]<;>(repeat(with_reducible refine And.intro ?_ ?_;focus first|omega|rfl|assumption|exact⟨_,rfl,rfl⟩|(simp;omega)|(simp;done)))
  ·exact aY (by rw[vk,h];simp)
  have k2:=h
  (repeat(with_reducible refine And.intro ?_ ?_;focus first|omega|rfl|assumption|exact⟨_,rfl,rfl⟩|(simp;omega)|(simp;done)))
  refine aT rfl (E9 206 [] _ x.aO (fun y=> !tC y) (by omega) fun y hy=>og.LB (h2 y hy)) ?_;simp -implicitDefEqProofs (disch:=omega) only[go_sem];rw[Kh];exact aY (by rw[vk,bT k1,k2];simp)
theorem IL(x:aC)(hsz:x.sz<=4194304):aJ prog 116 [x.v] (.c (.d (.b (oM x)))):=fun S=>by
 refine zcx [.tmp 2] func116 ntmps116 ?_;simp -implicitDefEqProofs (disch:=omega) only[go_sem];refine aA (JK x hsz) ?_;simp -implicitDefEqProofs (disch:=omega) only[go_sem]<;>(repeat(with_reducible refine And.intro ?_ ?_;focus first|omega|rfl|assumption|exact⟨_,rfl,rfl⟩|(simp;omega)|(simp;done)))
 with_reducible refine aD (fun hb=> ?_) (fun hb=> ?_)<;>have h:=hb<;>(try simp only[wf_preprocess] at h)<;>simp -implicitDefEqProofs (disch:=omega) only[go_sem,hb]<;>(repeat(with_reducible refine And.intro ?_ ?_;focus first|omega|rfl|assumption|exact⟨_,rfl,rfl⟩|(simp;omega)|(simp;done)))
 ·refine aA (KE _ x (Nat.lt_succ_self _) hsz (by omega)) ?_;simp -implicitDefEqProofs (disch:=omega) only[go_sem]<;>(repeat(with_reducible refine And.intro ?_ ?_;focus first|omega|rfl|assumption|exact⟨_,rfl,rfl⟩|(simp;omega)|(simp;done)));exact aY (by unfold oM;rw[bT (by omega)];rfl)
 ·exact aY (by unfold oM;rw[bI (by omega)];rfl)
theorem M5(k:Int):aJ prog 210 [.c (.d (.i .i64 k))] (.eU [(false,[.d (.b (WQ k))]),(false,[.d (.b (WR k))]),(false,[.d (.b (WS k))]),(false,[.d (.b (WU k))]),(false,[.d (.i .i64 (WV k))]),(false,[.d (.b (WW k))])]):=fun S=>by
 refine zcx [.tmp 2,.tmp 3,.tmp 4,.tmp 5,.tmp 6,.tmp 7] func210 ntmps210 ?_;simp -implicitDefEqProofs (disch:=omega) only[go_sem]
 repeat' (first
  |with_reducible refine aD (fun hb=> ?_) (fun hb=> ?_)<;>have h:=hb<;>(try simp only[wf_preprocess] at h)<;>simp -implicitDefEqProofs (disch:=omega) only[go_sem,hb]<;>(repeat(with_reducible refine And.intro ?_ ?_;focus first|omega|rfl|assumption|exact⟨_,rfl,rfl⟩|(simp;omega)|(simp;done)))
  |(unfold WQ WR WS WU WV WW;grind))
theorem KF(t:au):aJ prog 87 [t.v] (.c (.d (.b (dec (uq t))))):=fun S=>by
 refine zcx [.tmp 2] func87 ntmps87 ?_;simp -implicitDefEqProofs (disch:=omega) only[go_sem]
 repeat' (first
  |with_reducible refine aD (fun hb=> ?_) (fun hb=> ?_)<;>have h:=hb<;>(try simp only[wf_preprocess] at h)<;>simp -implicitDefEqProofs (disch:=omega) only[go_sem,hb]<;>(repeat(with_reducible refine And.intro ?_ ?_;focus first|omega|rfl|assumption|exact⟨_,rfl,rfl⟩|(simp;omega)|(simp;done)))
  |(refine aY ?_;unfold uq;grind [bT,bI,gF,jR]))
theorem WX(s:List UInt8):aJ prog 211 [.c (.d (.s s))] (.c (.d (.b (dec (s∈ops))))):=fun S=>by
 refine zcx [.tmp 2] func211 ntmps211 ?_;simp -implicitDefEqProofs (disch:=omega) only[go_sem]
 (repeat(with_reducible refine And.intro ?_ ?_;focus first|omega|rfl|assumption|exact⟨_,rfl,rfl⟩|(simp;omega)|(simp;done)))
 refine aA (sF ops s (by decide)) ?_;simp -implicitDefEqProofs (disch:=omega) only[go_sem]<;>(repeat(with_reducible refine And.intro ?_ ?_;focus first|omega|rfl|assumption|exact⟨_,rfl,rfl⟩|(simp;omega)|(simp;done)))
theorem Hz:∀n:Nat,∀x:aC,SizeOf.sizeOf x<n->x.sz<=4194304->∀l:Int,0<=l->l<=1048576->aJ prog 183 [x.v,.c (.d (.i .i64 l))] (.c (.d (.i .i64 (mM l x.cnt))))
 |0=>fun x h=>by omega
 |n+1=>by
  have ih:=Hz n;intro x hn hsz l hl hl2 S;have hb0:=aC.bounds hsz;have jA:=aC.iI x;have Dm:=aC.uU x;have he:=aC.nu x;refine zcx [.tmp 4] func183 ntmps183 ?_;simp -implicitDefEqProofs (disch:=omega) only[go_sem]
  refine bF (ι:=Nat×Int) zmx rfl [1,2,5] (fun y=>[.c (.d (.i .i64 y.2)),.c (.ptr (0,0) 0),.c (.d (.i .i64 y.1))]) (fun y=>[.box (x.enc.map .d)]::S)
   (fun y=>y.1<=x.fArgs.length/\(-1<=y.2/\y.2<=1048576)/\mM y.2 (aC.dD (x.fArgs.drop y.1))=mM (l-1) (aC.dD x.fArgs)) (fun y=>x.fArgs.length-y.1) (0,l-1) rfl ?_ ⟨Nat.zero_le _,by simp only;omega,rfl⟩ ?_
  ·simp -implicitDefEqProofs (disch:=omega) only[go_sem]
  rintro⟨i,c⟩ ⟨p1,p2,p3⟩;simp only at p1 p2 p3
  have out:(i=x.fArgs.length\/c<0)->c=mM (l-1) (aC.dD x.fArgs):=fun h=>by
   rcases h with h|h
   ·rw[h,List.drop_length,aC.dD,Fe p2.1] at p3;exact p3
   ·rw[<-p3,Iw h];omega
  have second:(i=x.fArgs.length\/c<0)->mM c (aP.dD x.aO)=mM l x.cnt:=fun h=>by
   rw[out h,Dx,he];unfold mM;split<;>split<;>(try split)<;>omega
  simp -implicitDefEqProofs (disch:=omega) only[go_sem]
  with_reducible refine aD (fun hb=> ?_) (fun hb=> ?_)<;>have h:=hb<;>(try simp only[wf_preprocess] at h)<;>simp -implicitDefEqProofs (disch:=omega) only[go_sem,hb]<;>(repeat(with_reducible refine And.intro ?_ ?_;focus first|omega|rfl|assumption|exact⟨_,rfl,rfl⟩|(simp;omega)|(simp;done)))
  ·have hi:i<x.fArgs.length:=by omega
   with_reducible refine aD (fun hb=> ?_) (fun hb=> ?_)<;>have h:=hb<;>(try simp only[wf_preprocess] at h)<;>simp -implicitDefEqProofs (disch:=omega) only[go_sem,hb]<;>(repeat(with_reducible refine And.intro ?_ ?_;focus first|omega|rfl|assumption|exact⟨_,rfl,rfl⟩|(simp;omega)|(simp;done)))
   ·have hs:=List.sizeOf_lt_of_mem (List.getElem_mem hi);have hr:=LQ (l:=c) (c:=x.fArgs[i].cnt) (by omega);rw[aC.kK hi,<-Dx] at p3
    (repeat(with_reducible refine And.intro ?_ ?_;focus first|omega|rfl|assumption|exact⟨_,rfl,rfl⟩|(simp;omega)|(simp;done)))
    refine aA (ih x.fArgs[i] (by omega) (aC.arg_b hi hsz) c (by omega) (by omega)) ?_;simp -implicitDefEqProofs (disch:=omega) only[go_sem]<;>(repeat(with_reducible refine And.intro ?_ ?_;focus first|omega|rfl|assumption|exact⟨_,rfl,rfl⟩|(simp;omega)|(simp;done)));exact dG (i+1,mM c x.fArgs[i].cnt) (by simp only;omega) rfl rfl ⟨by simp only;omega,by simp only;omega,p3⟩
   ·have p4:=second (.inr (by omega));clear second out p3
    refine bF (ι:=Nat×Int) zmx rfl [1,2,6] (fun y=>[.c (.d (.i .i64 y.2)),.c (.ptr (0,0) 0),.c (.d (.i .i64 y.1))]) (fun y=>[.box (x.enc.map .d)]::S)
     (fun y=>y.1<=x.aO.length/\(-1<=y.2/\y.2<=1048576)/\mM y.2 (aP.dD (x.aO.drop y.1))=mM l x.cnt) (fun y=>x.aO.length-y.1) (0,c) rfl ?_ ⟨Nat.zero_le _,by simp only;omega,p4⟩ ?_
    ·simp -implicitDefEqProofs (disch:=omega) only[go_sem]
    clear p1 p2 p4;rintro⟨i,d⟩ ⟨p1,p2,p3⟩;simp only at p1 p2 p3;simp -implicitDefEqProofs (disch:=omega) only[go_sem]
    with_reducible refine aD (fun hb=> ?_) (fun hb=> ?_)<;>have h:=hb<;>(try simp only[wf_preprocess] at h)<;>simp -implicitDefEqProofs (disch:=omega) only[go_sem,hb]<;>(repeat(with_reducible refine And.intro ?_ ?_;focus first|omega|rfl|assumption|exact⟨_,rfl,rfl⟩|(simp;omega)|(simp;done)))
    ·have hi:i<x.aO.length:=by omega
     with_reducible refine aD (fun hb=> ?_) (fun hb=> ?_)<;>have h:=hb<;>(try simp only[wf_preprocess] at h)<;>simp -implicitDefEqProofs (disch:=omega) only[go_sem,hb]<;>(repeat(with_reducible refine And.intro ?_ ?_;focus first|omega|rfl|assumption|exact⟨_,rfl,rfl⟩|(simp;omega)|(simp;done)))
     ·have hs:=List.sizeOf_lt_of_mem (List.getElem_mem hi);have hs':=aP.sU x.aO[i];have hr:=LQ (l:=d) (c:=x.aO[i].fBody.cnt) (by omega);rw[aP.kK hi,<-Dx] at p3
      (repeat(with_reducible refine And.intro ?_ ?_;focus first|omega|rfl|assumption|exact⟨_,rfl,rfl⟩|(simp;omega)|(simp;done)))
      refine aA (ih x.aO[i].fBody (by omega) (aP.bounds (aC.Oq hi hsz)).2.2.2 d (by omega) (by omega)) ?_;simp -implicitDefEqProofs (disch:=omega) only[go_sem]<;>(repeat(with_reducible refine And.intro ?_ ?_;focus first|omega|rfl|assumption|exact⟨_,rfl,rfl⟩|(simp;omega)|(simp;done)));exact dG (i+1,mM d x.aO[i].fBody.cnt) (by simp only;omega) rfl rfl ⟨by simp only;omega,by simp only;omega,p3⟩
     ·rw[Iw (by omega)] at p3;exact int_eq (by omega)
    ·have hi:i=x.aO.length:=by omega
     rw[hi,List.drop_length,aP.dD,Fe p2.1] at p3;exact int_eq (by omega)
  ·have p4:=second (.inl (by omega));clear second out p3
   refine bF (ι:=Nat×Int) zmx rfl [1,2,6] (fun y=>[.c (.d (.i .i64 y.2)),.c (.ptr (0,0) 0),.c (.d (.i .i64 y.1))]) (fun y=>[.box (x.enc.map .d)]::S)
    (fun y=>y.1<=x.aO.length/\(-1<=y.2/\y.2<=1048576)/\mM y.2 (aP.dD (x.aO.drop y.1))=mM l x.cnt) (fun y=>x.aO.length-y.1) (0,c) rfl ?_ ⟨Nat.zero_le _,by simp only;omega,p4⟩ ?_
   ·simp -implicitDefEqProofs (disch:=omega) only[go_sem]
   clear p1 p2 p4;rintro⟨i,d⟩ ⟨p1,p2,p3⟩;simp only at p1 p2 p3;simp -implicitDefEqProofs (disch:=omega) only[go_sem]
   with_reducible refine aD (fun hb=> ?_) (fun hb=> ?_)<;>have h:=hb<;>(try simp only[wf_preprocess] at h)<;>simp -implicitDefEqProofs (disch:=omega) only[go_sem,hb]<;>(repeat(with_reducible refine And.intro ?_ ?_;focus first|omega|rfl|assumption|exact⟨_,rfl,rfl⟩|(simp;omega)|(simp;done)))
   ·have hi:i<x.aO.length:=by omega
    with_reducible refine aD (fun hb=> ?_) (fun hb=> ?_)<;>have h:=hb<;>(try simp only[wf_preprocess] at h)<;>simp -implicitDefEqProofs (disch:=omega) only[go_sem,hb]<;>(repeat(with_reducible refine And.intro ?_ ?_;focus first|omega|rfl|assumption|exact⟨_,rfl,rfl⟩|(simp;omega)|(simp;done)))
    ·have hs:=List.sizeOf_lt_of_mem (List.getElem_mem hi);have hs':=aP.sU x.aO[i];have hr:=LQ (l:=d) (c:=x.aO[i].fBody.cnt) (by omega);rw[aP.kK hi,<-Dx] at p3
     (repeat(with_reducible refine And.intro ?_ ?_;focus first|omega|rfl|assumption|exact⟨_,rfl,rfl⟩|(simp;omega)|(simp;done)))
     refine aA (ih x.aO[i].fBody (by omega) (aP.bounds (aC.Oq hi hsz)).2.2.2 d (by omega) (by omega)) ?_;simp -implicitDefEqProofs (disch:=omega) only[go_sem]<;>(repeat(with_reducible refine And.intro ?_ ?_;focus first|omega|rfl|assumption|exact⟨_,rfl,rfl⟩|(simp;omega)|(simp;done)));exact dG (i+1,mM d x.aO[i].fBody.cnt) (by simp only;omega) rfl rfl ⟨by simp only;omega,by simp only;omega,p3⟩
    ·rw[Iw (by omega)] at p3;exact int_eq (by omega)
   ·have hi:i=x.aO.length:=by omega
    rw[hi,List.drop_length,aP.dD,Fe p2.1] at p3;exact int_eq (by omega)
theorem Ta:∀n:Nat,∀x:aC,SizeOf.sizeOf x<n->x.sz<=4194304->aJ prog 184 [x.v] (.c (.d (.b (gU x)))):=by
 intro n
 induction n with
 |zero=>intro x h;omega
 |succ n ih=>
  intro x hn hsz S;have hb0:=aC.bounds hsz;have jA:=aC.iI x;have Dm:=aC.uU x;have he:=vk x;have hv0:=NQ;have hop:x.fName∈ops->validName x.fName=false:=Qs;refine(show(rE x-> ?T)->_ from fun tail=> ?main) ?tp
  case' main=>
   rcases KD x.aI with hk|hk|hk|hk|hk|hk|hk|hk|hk|hk|hk|hk|hk
   ·have h1:gU x=false:=by rw[he,bI (fun h=>by have:=h.1;omega)];rfl
    refine zcx [.tmp 2] func184 ntmps184 ?_;simp -implicitDefEqProofs (disch:=omega) only[go_sem];refine aA (M5 _) ?_;simp -implicitDefEqProofs (disch:=omega) only[go_sem];refine aA (Ck _ _ _) ?_;simp -implicitDefEqProofs (disch:=omega) only[go_sem]
    with_reducible refine aD (fun hb=> ?_) (fun hb=> ?_)<;>have h:=hb<;>(try simp only[wf_preprocess] at h)<;>simp -implicitDefEqProofs (disch:=omega) only[go_sem,hb]<;>(repeat(with_reducible refine And.intro ?_ ?_;focus first|omega|rfl|assumption|exact⟨_,rfl,rfl⟩|(simp;omega)|(simp;done)))
    ·rw[h1]
    ·omega
   all_goals
    have hf0:¬rE x->V.c (.d (.b false))=V.c (.d (.b (gU x))):=fun h=>aY (by rw[he,bI h];rfl);refine zcx [.tmp 2] func184 ntmps184 ?_;simp -implicitDefEqProofs (disch:=omega) only[go_sem,hk];refine aA (M5 _) ?_;simp -implicitDefEqProofs (disch:=omega) only[go_sem,hk,WQ,WR,WS,WU,WV,WW,or_false,or_true,true_or,false_or];refine aA (Ck _ _ _) ?_;simp -implicitDefEqProofs (disch:=omega) only[go_sem,hk]
    repeat' (first
     |with_reducible refine aD (fun hb=> ?_) (fun hb=> ?_)<;>have h:=hb<;>(try simp only[wf_preprocess] at h)<;>simp -implicitDefEqProofs (disch:=omega) only[go_sem,hb,hk]<;>(repeat(with_reducible refine And.intro ?_ ?_;focus first|omega|rfl|assumption|exact⟨_,rfl,rfl⟩|(simp;omega)|(simp;done)))
     |((with_reducible show gH _ _ 52 _ _ _ _);refine aA (kF x.fName (by omega)) ?_;simp -implicitDefEqProofs (disch:=omega) only[go_sem,hk])
     |((with_reducible show gH _ _ 52 _ _ _ _);refine aA (kF x.bg (by omega)) ?_;simp -implicitDefEqProofs (disch:=omega) only[go_sem,hk])
     |((with_reducible show gH _ _ 211 _ _ _ _);refine aA (WX x.fName) ?_;simp -implicitDefEqProofs (disch:=omega) only[go_sem,hk])
     |((with_reducible show gH _ _ 87 _ _ _ _);refine aA (KF x.fType) ?_;simp -implicitDefEqProofs (disch:=omega) only[go_sem,hk])
     |((with_reducible show gH _ _ 119 _ _ _ _);refine aA (uJ x.fType (by omega)) ?_;simp -implicitDefEqProofs (disch:=omega) only[go_sem,hk])
     |((with_reducible show gH _ _ 120 _ _ _ _);refine aA (Ck x.fN _ _) ?_;simp -implicitDefEqProofs (disch:=omega) only[go_sem,hk])
     |(refine hf0 fun hF=> ?_;simp only[rE,hk,or_false,or_true,true_or,false_or,and_true,true_and,if_true,if_false,↓reduceIte,Int.reduceEq,Int.reduceLT,Int.reduceLE] at hF;grind [gF,jR,bT,bI]))
   all_goals
    have hF:rE x:=by simp only[rE,hk,or_false,or_true,true_or,false_or,and_true,true_and,if_true,if_false,↓reduceIte,Int.reduceEq,Int.reduceLT,Int.reduceLE];grind [gF,jR,bT,bI]
    refine l8 (st':=[.box (x.enc.map .d)]::S) [1,9] [.c (.ptr (0,0) 0),.c (.d (.i .i64 0))] rfl (by simp -implicitDefEqProofs (disch:=omega) only[go_sem,hk]) ?_;exact tail hF
  intro hF;rw[bT hF,Bool.true_and] at he;clear hF hop hv0
  refine bF (ι:=Nat) zmx rfl [1,9] (fun i=>[.c (.ptr (0,0) 0),.c (.d (.i .i64 i))]) (fun _=>[.box (x.enc.map .d)]::S)
   (fun i=>i<=x.fArgs.length/\jO (x.fArgs.drop i)=jO x.fArgs) (fun i=>x.fArgs.length-i) 0 rfl ?_ ⟨Nat.zero_le _,rfl⟩ ?_
  ·simp -implicitDefEqProofs (disch:=omega) only[go_sem]
  rintro i ⟨p1,p2⟩;simp -implicitDefEqProofs (disch:=omega) only[go_sem]
  with_reducible refine aD (fun hb=> ?_) (fun hb=> ?_)<;>have h:=hb<;>(try simp only[wf_preprocess] at h)<;>simp -implicitDefEqProofs (disch:=omega) only[go_sem,hb]<;>(repeat(with_reducible refine And.intro ?_ ?_;focus first|omega|rfl|assumption|exact⟨_,rfl,rfl⟩|(simp;omega)|(simp;done)))
  ·have hi:i<x.fArgs.length:=by omega
   have hs:=List.sizeOf_lt_of_mem (List.getElem_mem hi);rw[Qr hi] at p2
   (repeat(with_reducible refine And.intro ?_ ?_;focus first|omega|rfl|assumption|exact⟨_,rfl,rfl⟩|(simp;omega)|(simp;done)))
   refine aA (ih x.fArgs[i] (by omega) (aC.arg_b hi hsz)) ?_;simp -implicitDefEqProofs (disch:=omega) only[go_sem]<;>(repeat(with_reducible refine And.intro ?_ ?_;focus first|omega|rfl|assumption|exact⟨_,rfl,rfl⟩|(simp;omega)|(simp;done)))
   with_reducible refine aD (fun hb=> ?_) (fun hb=> ?_)<;>have h:=hb<;>(try simp only[wf_preprocess] at h)<;>simp -implicitDefEqProofs (disch:=omega) only[go_sem,hb]<;>(repeat(with_reducible refine And.intro ?_ ?_;focus first|omega|rfl|assumption|exact⟨_,rfl,rfl⟩|(simp;omega)|(simp;done)))
   ·exact aY (by rw[he,<-p2,h];rfl)
   ·exact dG (i+1) (by omega) rfl rfl ⟨by omega,by rw[<-p2,h];rfl⟩
  rw[List.drop_of_length_le (by omega)] at p2;have q:jO x.fArgs=true:=p2.symm;clear p2 p1
  refine bF (ι:=Nat) zmx rfl [1,10] (fun i=>[.c (.ptr (0,0) 0),.c (.d (.i .i64 i))]) (fun _=>[.box (x.enc.map .d)]::S)
   (fun i=>i<=x.aO.length/\mK (x.aO.drop i)=mK x.aO) (fun i=>x.aO.length-i) 0 rfl ?_ ⟨Nat.zero_le _,rfl⟩ ?_
  ·simp -implicitDefEqProofs (disch:=omega) only[go_sem]
  rintro i ⟨p1,p2⟩;simp -implicitDefEqProofs (disch:=omega) only[go_sem]
  with_reducible refine aD (fun hb=> ?_) (fun hb=> ?_)<;>have h:=hb<;>(try simp only[wf_preprocess] at h)<;>simp -implicitDefEqProofs (disch:=omega) only[go_sem,hb]<;>(repeat(with_reducible refine And.intro ?_ ?_;focus first|omega|rfl|assumption|exact⟨_,rfl,rfl⟩|(simp;omega)|(simp;done)))
  ·have hi:i<x.aO.length:=by omega
   have hs:=List.sizeOf_lt_of_mem (List.getElem_mem hi);have hs':=aP.sU x.aO[i];have hab:=aP.bounds (aC.Oq hi hsz);rw[SK hi] at p2;have no:tC x.aO[i]=false->V.c (.d (.b false))=V.c (.d (.b (gU x))):=fun h=>aY (by rw[he,<-p2,h];simp)
   (repeat(with_reducible refine And.intro ?_ ?_;focus first|omega|rfl|assumption|exact⟨_,rfl,rfl⟩|(simp;omega)|(simp;done)))
   refine aA (kF x.aO[i].bU (by omega)) ?_;simp -implicitDefEqProofs (disch:=omega) only[go_sem]<;>(repeat(with_reducible refine And.intro ?_ ?_;focus first|omega|rfl|assumption|exact⟨_,rfl,rfl⟩|(simp;omega)|(simp;done)))
   with_reducible refine aD (fun hb=> ?_) (fun hb=> ?_)<;>have h:=hb<;>(try simp only[wf_preprocess] at h)<;>simp -implicitDefEqProofs (disch:=omega) only[go_sem,hb]<;>(repeat(with_reducible refine And.intro ?_ ?_;focus first|omega|rfl|assumption|exact⟨_,rfl,rfl⟩|(simp;omega)|(simp;done)))
   ·exact no (by rw[pq,h];rfl)
   have k1:=h
   (repeat(with_reducible refine And.intro ?_ ?_;focus first|omega|rfl|assumption|exact⟨_,rfl,rfl⟩|(simp;omega)|(simp;done)))
   refine aA (Kg x.aO[i].aK (by omega) hab.2.2.1) ?_;simp -implicitDefEqProofs (disch:=omega) only[go_sem]<;>(repeat(with_reducible refine And.intro ?_ ?_;focus first|omega|rfl|assumption|exact⟨_,rfl,rfl⟩|(simp;omega)|(simp;done)))
   with_reducible refine aD (fun hb=> ?_) (fun hb=> ?_)<;>have h:=hb<;>(try simp only[wf_preprocess] at h)<;>simp -implicitDefEqProofs (disch:=omega) only[go_sem,hb]<;>(repeat(with_reducible refine And.intro ?_ ?_;focus first|omega|rfl|assumption|exact⟨_,rfl,rfl⟩|(simp;omega)|(simp;done)))
   ·exact no (by rw[pq];unfold jN;rw[h];simp)
   have k2:=h
   (repeat(with_reducible refine And.intro ?_ ?_;focus first|omega|rfl|assumption|exact⟨_,rfl,rfl⟩|(simp;omega)|(simp;done)))
   refine aA (Ba x.aO[i].aK (by omega)) ?_;simp -implicitDefEqProofs (disch:=omega) only[go_sem]<;>(repeat(with_reducible refine And.intro ?_ ?_;focus first|omega|rfl|assumption|exact⟨_,rfl,rfl⟩|(simp;omega)|(simp;done)))
   with_reducible refine aD (fun hb=> ?_) (fun hb=> ?_)<;>have h:=hb<;>(try simp only[wf_preprocess] at h)<;>simp -implicitDefEqProofs (disch:=omega) only[go_sem,hb]<;>(repeat(with_reducible refine And.intro ?_ ?_;focus first|omega|rfl|assumption|exact⟨_,rfl,rfl⟩|(simp;omega)|(simp;done)))
   ·exact no (by rw[pq];unfold jN;rw[bI h];simp)
   have k3:=h
   (repeat(with_reducible refine And.intro ?_ ?_;focus first|omega|rfl|assumption|exact⟨_,rfl,rfl⟩|(simp;omega)|(simp;done)))
   refine aA (ih x.aO[i].fBody (by omega) hab.2.2.2) ?_;simp -implicitDefEqProofs (disch:=omega) only[go_sem]<;>(repeat(with_reducible refine And.intro ?_ ?_;focus first|omega|rfl|assumption|exact⟨_,rfl,rfl⟩|(simp;omega)|(simp;done)))
   with_reducible refine aD (fun hb=> ?_) (fun hb=> ?_)<;>have h:=hb<;>(try simp only[wf_preprocess] at h)<;>simp -implicitDefEqProofs (disch:=omega) only[go_sem,hb]<;>(repeat(with_reducible refine And.intro ?_ ?_;focus first|omega|rfl|assumption|exact⟨_,rfl,rfl⟩|(simp;omega)|(simp;done)))
   ·exact no (by rw[pq,h];simp)
   ·exact dO 1 (by decide) (i+1) (by omega) rfl rfl rfl rfl ⟨by omega,by rw[<-p2,pq,k1,h];unfold jN;rw[k2,bT k3];rfl⟩
  ·rw[List.drop_of_length_le (by omega)] at p2;exact aY (by rw[he,q,<-p2];rfl)
theorem IQ(x:aC)(hsz:x.sz<=4194304):aJ prog 126 [x.v] (.c (.d (.b (oM x)))):=fun S=>by
 have hs:=acv (l:=300) (c:=x.cnt) (by omega);refine zcx [.tmp 2] func126 ntmps126 ?_;simp -implicitDefEqProofs (disch:=omega) only[go_sem];refine aA (Hz _ x (Nat.lt_succ_self _) hsz 300 (by omega) (by omega)) ?_;simp -implicitDefEqProofs (disch:=omega) only[go_sem]<;>(repeat(with_reducible refine And.intro ?_ ?_;focus first|omega|rfl|assumption|exact⟨_,rfl,rfl⟩|(simp;omega)|(simp;done)));rw[hs]
 with_reducible refine aD (fun hb=> ?_) (fun hb=> ?_)<;>have h:=hb<;>(try simp only[wf_preprocess] at h)<;>simp -implicitDefEqProofs (disch:=omega) only[go_sem,hb]<;>(repeat(with_reducible refine And.intro ?_ ?_;focus first|omega|rfl|assumption|exact⟨_,rfl,rfl⟩|(simp;omega)|(simp;done)))
 ·refine aA (Ta _ x (Nat.lt_succ_self _) hsz) ?_;simp -implicitDefEqProofs (disch:=omega) only[go_sem]<;>(repeat(with_reducible refine And.intro ?_ ?_;focus first|omega|rfl|assumption|exact⟨_,rfl,rfl⟩|(simp;omega)|(simp;done)));exact aY (by unfold oM;rw[bT (by omega)];rfl)
 ·exact aY (by unfold oM;rw[bI (by omega)];rfl)
end Go.Ab