/-
  SEVERAL TEXTS IN ONE (merged by program): contracts and models, each with its own heading.
-/
import Derived.Test.YtlaaknnkeidlbaaGreatDoorPartDedbT
set_option maxHeartbeats 8000000
open Go.Proofs Go.Proofs.Tryz
set_option linter.unusedSimpArgs false
set_option linter.unusedVariables false
set_option maxRecDepth 4000
namespace Go.Ab
theorem aj.afk{x:aj}{y:aj}(h:y∈x.fArgs):y.cnt+1<=x.cnt:=by
 rw[aj.pQ x]
 have:∀xs:List aj,y∈xs->y.cnt<=aj.dW xs:=by
  intro xs
  induction xs with
  |nil=>intro h;cases h
  |cons z zs ih=>
   intro h;rw[aj.dW];rcases cA.1 h with e|e
   ·subst e;omega
   ·have:=ih e;omega
 have:=this _ h;omega
theorem aj.afl{x:aj}{y:aK}(h:y∈x.aG):y.fBody.cnt+1<=x.cnt:=by
 rw[aj.pQ x]
 have:∀xs:List aK,y∈xs->y.fBody.cnt<=aK.dW xs:=by
  intro xs
  induction xs with
  |nil=>intro h;cases h
  |cons z zs ih=>
   intro h;rw[aK.dW];rcases cA.1 h with e|e
   ·subst e;rw[aK.pQ];omega
   ·have:=ih e;omega
 have:=this _ h;omega
theorem aj.afm(x:aj):x.fArgs.length+1<=x.cnt:=by
 rw[aj.pQ x]
 have:∀xs:List aj,xs.length<=aj.dW xs:=by
  intro xs
  induction xs with
  |nil=>simp
  |cons z zs ih=>rw[aj.dW,aa];have:=aj.pQ z;omega
 have:=this x.fArgs;omega
def Wl(k:Int):Bool:=if k=5\/k=11 then true else false
def Wm(k:Int):Bool:=if k=3\/k=4\/k=6\/k=5\/k=8\/k=10 then true else false
def Wn(k:Int):Bool:=if k=1\/k=2 then true else false
def Wo(k:Int):Bool:=if k=1\/k=2\/k=3\/k=4\/k=6\/k=5\/k=7\/k=8\/k=10\/k=9\/k=11 then false else true
def Wp(k:Int):Int:=if k=1\/k=2\/k=3 then 0 else if k=4\/k=6\/k=5 then -1 else if k=8\/k=10 then 2 else if k=9 then 3 else 1
def Wq(k:Int):Bool:=if k=7 then true else false
theorem JN:∀n:Nat,∀x:aj,SizeOf.sizeOf x<n->x.sz<=4194304->x.cnt<=300->aF prog 97 [x.v] (.c (.d (.b (gT x))))
 |0=>fun x h=>by omega
 |n+1=>by
  have ih:=JN n;intro x hn hsz hc S;have hb0:=aj.bounds hsz;have j4:=aj.jo x;have BU:=aj.tu x;have hl:=aj.afm x
  have h1:∀y∈x.fArgs,aF prog 187 [y.v] (.c (.d (.b (!gT y)))):=fun y hy S=>by
   have hys:=bc hy;have hyc:=aj.afk hy
   have hyz:y.sz<=4194304:=by obtain⟨i,hi,e⟩:=cJ hy;rw[<-e];exact aj.arg_b hi hsz
   refine zcx [.tmp 2] func187 ntmps187 ?_;simp -implicitDefEqProofs (disch:=omega) only[go_sem];refine aA (ih y (by omega) hyz (by omega)) ?_;simp -implicitDefEqProofs (disch:=omega) only[go_sem]<;>(repeat(with_reducible refine And.intro ?_ ?_;focus first|omega|rfl|assumption|exact⟨_,rfl,rfl⟩|(simp;omega)|(simp;done)))
  have h2:∀y∈x.aG,aF prog 189 [y.v] (.c (.d (.b (!rE y)))):=fun y hy S=>by
   have hys:=bc hy;have hyb:=aK.rD y;have hyc:=aj.afl hy
   have hyz:y.sz<=4194304:=by obtain⟨i,hi,e⟩:=cJ hy;rw[<-e];exact aj.Nv hi hsz
   have hyy:=aK.bounds hyz;refine zcx [.tmp 2] func189 ntmps189 ?_;simp -implicitDefEqProofs (disch:=omega) only[go_sem];refine aA (mO y.bK (by omega)) ?_;simp -implicitDefEqProofs (disch:=omega) only[go_sem]<;>(repeat(with_reducible refine And.intro ?_ ?_;focus first|omega|rfl|assumption|exact⟨_,rfl,rfl⟩|(simp;omega)|(simp;done)))
   with_reducible refine ay (fun hb=> ?_) (fun hb=> ?_)<;>have h:=hb<;>(try simp only[wf_preprocess] at h)<;>simp -implicitDefEqProofs (disch:=omega) only[go_sem,hb]<;>(repeat(with_reducible refine And.intro ?_ ?_;focus first|omega|rfl|assumption|exact⟨_,rfl,rfl⟩|(simp;omega)|(simp;done)))
   ·exact aO (by rw[mQ,h];rfl)
   have k1:=h;refine aA (RY y.bH (by omega) hyy.2.2.1) ?_;simp -implicitDefEqProofs (disch:=omega) only[go_sem]<;>(repeat(with_reducible refine And.intro ?_ ?_;focus first|omega|rfl|assumption|exact⟨_,rfl,rfl⟩|(simp;omega)|(simp;done)))
   with_reducible refine ay (fun hb=> ?_) (fun hb=> ?_)<;>have h:=hb<;>(try simp only[wf_preprocess] at h)<;>simp -implicitDefEqProofs (disch:=omega) only[go_sem,hb]<;>(repeat(with_reducible refine And.intro ?_ ?_;focus first|omega|rfl|assumption|exact⟨_,rfl,rfl⟩|(simp;omega)|(simp;done)))
   ·exact aO (by rw[mQ,h];simp)
   have k2:=h;refine aA (ih y.fBody (by omega) hyy.2.2.2 (by omega)) ?_;simp -implicitDefEqProofs (disch:=omega) only[go_sem]<;>(repeat(with_reducible refine And.intro ?_ ?_;focus first|omega|rfl|assumption|exact⟨_,rfl,rfl⟩|(simp;omega)|(simp;done)));exact aO (by rw[mQ,k1,k2];simp)
  refine zcx [.tmp 2] func97 ntmps97 ?_;simp -implicitDefEqProofs (disch:=omega) only[go_sem];refine aA (Qc x hsz (by omega)) ?_;simp -implicitDefEqProofs (disch:=omega) only[go_sem]<;>(repeat(with_reducible refine And.intro ?_ ?_;focus first|omega|rfl|assumption|exact⟨_,rfl,rfl⟩|(simp;omega)|(simp;done)))
  with_reducible refine ay (fun hb=> ?_) (fun hb=> ?_)<;>have h:=hb<;>(try simp only[wf_preprocess] at h)<;>simp -implicitDefEqProofs (disch:=omega) only[go_sem,hb]<;>(repeat(with_reducible refine And.intro ?_ ?_;focus first|omega|rfl|assumption|exact⟨_,rfl,rfl⟩|(simp;omega)|(simp;done)))
  ·exact aO (by rw[qR,aT h];rfl)
  have k1:=h
  (repeat(with_reducible refine And.intro ?_ ?_;focus first|omega|rfl|assumption|exact⟨_,rfl,rfl⟩|(simp;omega)|(simp;done)))
  refine aQ rfl (C9 187 [] _ x.fArgs (fun y=> !gT y) (by omega) fun y hy=>qE.KL (h1 y hy)) ?_;simp -implicitDefEqProofs (disch:=omega) only[go_sem];rw[F5]
  with_reducible refine ay (fun hb=> ?_) (fun hb=> ?_)<;>have h:=hb<;>(try simp only[wf_preprocess] at h)<;>simp -implicitDefEqProofs (disch:=omega) only[go_sem,hb]<;>(repeat(with_reducible refine And.intro ?_ ?_;focus first|omega|rfl|assumption|exact⟨_,rfl,rfl⟩|(simp;omega)|(simp;done)))
  ·exact aO (by rw[qR,h];simp)
  have k2:=h
  (repeat(with_reducible refine And.intro ?_ ?_;focus first|omega|rfl|assumption|exact⟨_,rfl,rfl⟩|(simp;omega)|(simp;done)))
  refine aQ rfl (DR 189 [] _ x.aG (fun y=> !rE y) (by omega) fun y hy=>qE.KL (h2 y hy)) ?_;simp -implicitDefEqProofs (disch:=omega) only[go_sem];rw[Je];exact aO (by rw[qR,cK k1,k2];simp)
theorem sN(x:aj)(hsz:x.sz<=4194304):aF prog 40 [x.v] (.c (.d (.b (d9 x)))):=fun S=>by
 refine zcx [.tmp 2] func40 ntmps40 ?_;simp -implicitDefEqProofs (disch:=omega) only[go_sem];refine aA (IY x hsz) ?_;simp -implicitDefEqProofs (disch:=omega) only[go_sem]<;>(repeat(with_reducible refine And.intro ?_ ?_;focus first|omega|rfl|assumption|exact⟨_,rfl,rfl⟩|(simp;omega)|(simp;done)))
 with_reducible refine ay (fun hb=> ?_) (fun hb=> ?_)<;>have h:=hb<;>(try simp only[wf_preprocess] at h)<;>simp -implicitDefEqProofs (disch:=omega) only[go_sem,hb]<;>(repeat(with_reducible refine And.intro ?_ ?_;focus first|omega|rfl|assumption|exact⟨_,rfl,rfl⟩|(simp;omega)|(simp;done)))
 ·refine aA (JN _ x (br _) hsz (by omega)) ?_;simp -implicitDefEqProofs (disch:=omega) only[go_sem]<;>(repeat(with_reducible refine And.intro ?_ ?_;focus first|omega|rfl|assumption|exact⟨_,rfl,rfl⟩|(simp;omega)|(simp;done)));exact aO (by unfold d9;rw[cK (by omega)];rfl)
 ·exact aO (by unfold d9;rw[aT (by omega)];rfl)
theorem Mr(k:Int):aF prog 196 [.c (.d (.i .i64 k))] (.dI [(false,[.d (.b (Wl k))]),(false,[.d (.b (Wm k))]),(false,[.d (.b (Wn k))]),(false,[.d (.b (Wo k))]),(false,[.d (.i .i64 (Wp k))]),(false,[.d (.b (Wq k))])]):=fun S=>by
 refine zcx [.tmp 2,.tmp 3,.tmp 4,.tmp 5,.tmp 6,.tmp 7] func196 ntmps196 ?_;simp -implicitDefEqProofs (disch:=omega) only[go_sem]
 repeat' (first
  |with_reducible refine ay (fun hb=> ?_) (fun hb=> ?_)<;>have h:=hb<;>(try simp only[wf_preprocess] at h)<;>simp -implicitDefEqProofs (disch:=omega) only[go_sem,hb]<;>(repeat(with_reducible refine And.intro ?_ ?_;focus first|omega|rfl|assumption|exact⟨_,rfl,rfl⟩|(simp;omega)|(simp;done)))
  |(unfold Wl Wm Wn Wo Wp Wq;grind))
theorem Ws(t:au):aF prog 199 [t.v] (.c (.d (.b (dec (zQ t))))):=fun S=>by
 refine zcx [.tmp 2] func199 ntmps199 ?_;simp -implicitDefEqProofs (disch:=omega) only[go_sem]
 repeat' (first
  |with_reducible refine ay (fun hb=> ?_) (fun hb=> ?_)<;>have h:=hb<;>(try simp only[wf_preprocess] at h)<;>simp -implicitDefEqProofs (disch:=omega) only[go_sem,hb]<;>(repeat(with_reducible refine And.intro ?_ ?_;focus first|omega|rfl|assumption|exact⟨_,rfl,rfl⟩|(simp;omega)|(simp;done)))
  |(refine aO ?_;unfold zQ;grind [cK,aT,iJ,oD]))
theorem Wt(s:List UInt8):aF prog 197 [.c (.d (.s s))] (.c (.d (.b (dec (s∈ops))))):=fun S=>by
 refine zcx [.tmp 2] func197 ntmps197 ?_;simp -implicitDefEqProofs (disch:=omega) only[go_sem]
 (repeat(with_reducible refine And.intro ?_ ?_;focus first|omega|rfl|assumption|exact⟨_,rfl,rfl⟩|(simp;omega)|(simp;done)))
 refine aA (Gz ops s (by decide)) ?_;simp -implicitDefEqProofs (disch:=omega) only[go_sem]<;>(repeat(with_reducible refine And.intro ?_ ?_;focus first|omega|rfl|assumption|exact⟨_,rfl,rfl⟩|(simp;omega)|(simp;done)))
theorem Gh:∀n:Nat,∀x:aj,SizeOf.sizeOf x<n->x.sz<=4194304->∀l:Int,0<=l->l<=1048576->aF prog 112 [x.v,.c (.d (.i .i64 l))] (.c (.d (.i .i64 (lg l x.cnt))))
 |0=>fun x h=>by omega
 |n+1=>by
  have ih:=Gh n;intro x hn hsz l hl hl2 S;have hb0:=aj.bounds hsz;have j4:=aj.jo x;have BU:=aj.tu x;have he:=aj.pQ x;refine zcx [.tmp 4] func112 ntmps112 ?_;simp -implicitDefEqProofs (disch:=omega) only[go_sem]
  refine bI (ι:=Nat×Int) zmx rfl [1,2,5] (fun y=>[.c (.d (.i .i64 y.2)),.c (.ptr (0,0) 0),.c (.d (.i .i64 y.1))]) (fun y=>[.box (x.enc.map .d)]::S)
   (fun y=>y.1<=x.fArgs.length/\(-1<=y.2/\y.2<=1048576)/\lg y.2 (aj.dW (x.fArgs.drop y.1))=lg (l-1) (aj.dW x.fArgs)) (fun y=>x.fArgs.length-y.1) (0,l-1) rfl ?_ ⟨ba _,by simp only;omega,rfl⟩ ?_
  ·simp -implicitDefEqProofs (disch:=omega) only[go_sem]
  rintro⟨i,c⟩ ⟨p1,p2,p3⟩;simp only at p1 p2 p3
  have out:(i=x.fArgs.length\/c<0)->c=lg (l-1) (aj.dW x.fArgs):=fun h=>by
   rcases h with h|h
   ·rw[h,cH,aj.dW,DU p2.1] at p3;exact p3
   ·rw[<-p3,GI h];omega
  have second:(i=x.fArgs.length\/c<0)->lg c (aK.dW x.aG)=lg l x.cnt:=fun h=>by
   rw[out h,BZ,he];unfold lg;split<;>split<;>(try split)<;>omega
  simp -implicitDefEqProofs (disch:=omega) only[go_sem]
  with_reducible refine ay (fun hb=> ?_) (fun hb=> ?_)<;>have h:=hb<;>(try simp only[wf_preprocess] at h)<;>simp -implicitDefEqProofs (disch:=omega) only[go_sem,hb]<;>(repeat(with_reducible refine And.intro ?_ ?_;focus first|omega|rfl|assumption|exact⟨_,rfl,rfl⟩|(simp;omega)|(simp;done)))
  ·have hi:i<x.fArgs.length:=by omega
   with_reducible refine ay (fun hb=> ?_) (fun hb=> ?_)<;>have h:=hb<;>(try simp only[wf_preprocess] at h)<;>simp -implicitDefEqProofs (disch:=omega) only[go_sem,hb]<;>(repeat(with_reducible refine And.intro ?_ ?_;focus first|omega|rfl|assumption|exact⟨_,rfl,rfl⟩|(simp;omega)|(simp;done)))
   ·have hs:=bc (ap hi);have hr:=KO (l:=c) (c:=x.fArgs[i].cnt) (by omega);rw[aj.nU hi,<-BZ] at p3
    (repeat(with_reducible refine And.intro ?_ ?_;focus first|omega|rfl|assumption|exact⟨_,rfl,rfl⟩|(simp;omega)|(simp;done)))
    refine aA (ih x.fArgs[i] (by omega) (aj.arg_b hi hsz) c (by omega) (by omega)) ?_;simp -implicitDefEqProofs (disch:=omega) only[go_sem]<;>(repeat(with_reducible refine And.intro ?_ ?_;focus first|omega|rfl|assumption|exact⟨_,rfl,rfl⟩|(simp;omega)|(simp;done)));exact bZ (i+1,lg c x.fArgs[i].cnt) (by simp only;omega) rfl rfl ⟨by simp only;omega,by simp only;omega,p3⟩
   ·have p4:=second (.inr (by omega));clear second out p3
    refine bI (ι:=Nat×Int) zmx rfl [1,2,6] (fun y=>[.c (.d (.i .i64 y.2)),.c (.ptr (0,0) 0),.c (.d (.i .i64 y.1))]) (fun y=>[.box (x.enc.map .d)]::S)
     (fun y=>y.1<=x.aG.length/\(-1<=y.2/\y.2<=1048576)/\lg y.2 (aK.dW (x.aG.drop y.1))=lg l x.cnt) (fun y=>x.aG.length-y.1) (0,c) rfl ?_ ⟨ba _,by simp only;omega,p4⟩ ?_
    ·simp -implicitDefEqProofs (disch:=omega) only[go_sem]
    clear p1 p2 p4;rintro⟨i,d⟩ ⟨p1,p2,p3⟩;simp only at p1 p2 p3;simp -implicitDefEqProofs (disch:=omega) only[go_sem]
    with_reducible refine ay (fun hb=> ?_) (fun hb=> ?_)<;>have h:=hb<;>(try simp only[wf_preprocess] at h)<;>simp -implicitDefEqProofs (disch:=omega) only[go_sem,hb]<;>(repeat(with_reducible refine And.intro ?_ ?_;focus first|omega|rfl|assumption|exact⟨_,rfl,rfl⟩|(simp;omega)|(simp;done)))
    ·have hi:i<x.aG.length:=by omega
     with_reducible refine ay (fun hb=> ?_) (fun hb=> ?_)<;>have h:=hb<;>(try simp only[wf_preprocess] at h)<;>simp -implicitDefEqProofs (disch:=omega) only[go_sem,hb]<;>(repeat(with_reducible refine And.intro ?_ ?_;focus first|omega|rfl|assumption|exact⟨_,rfl,rfl⟩|(simp;omega)|(simp;done)))
     ·have hs:=bc (ap hi);have hs':=aK.rD x.aG[i];have hr:=KO (l:=d) (c:=x.aG[i].fBody.cnt) (by omega);rw[aK.nU hi,<-BZ] at p3
      (repeat(with_reducible refine And.intro ?_ ?_;focus first|omega|rfl|assumption|exact⟨_,rfl,rfl⟩|(simp;omega)|(simp;done)))
      refine aA (ih x.aG[i].fBody (by omega) (aK.bounds (aj.Nv hi hsz)).2.2.2 d (by omega) (by omega)) ?_;simp -implicitDefEqProofs (disch:=omega) only[go_sem]<;>(repeat(with_reducible refine And.intro ?_ ?_;focus first|omega|rfl|assumption|exact⟨_,rfl,rfl⟩|(simp;omega)|(simp;done)));exact bZ (i+1,lg d x.aG[i].fBody.cnt) (by simp only;omega) rfl rfl ⟨by simp only;omega,by simp only;omega,p3⟩
     ·rw[GI (by omega)] at p3;exact int_eq (by omega)
    ·have hi:i=x.aG.length:=by omega
     rw[hi,cH,aK.dW,DU p2.1] at p3;exact int_eq (by omega)
  ·have p4:=second (.inl (by omega));clear second out p3
   refine bI (ι:=Nat×Int) zmx rfl [1,2,6] (fun y=>[.c (.d (.i .i64 y.2)),.c (.ptr (0,0) 0),.c (.d (.i .i64 y.1))]) (fun y=>[.box (x.enc.map .d)]::S)
    (fun y=>y.1<=x.aG.length/\(-1<=y.2/\y.2<=1048576)/\lg y.2 (aK.dW (x.aG.drop y.1))=lg l x.cnt) (fun y=>x.aG.length-y.1) (0,c) rfl ?_ ⟨ba _,by simp only;omega,p4⟩ ?_
   ·simp -implicitDefEqProofs (disch:=omega) only[go_sem]
   clear p1 p2 p4;rintro⟨i,d⟩ ⟨p1,p2,p3⟩;simp only at p1 p2 p3;simp -implicitDefEqProofs (disch:=omega) only[go_sem]
   with_reducible refine ay (fun hb=> ?_) (fun hb=> ?_)<;>have h:=hb<;>(try simp only[wf_preprocess] at h)<;>simp -implicitDefEqProofs (disch:=omega) only[go_sem,hb]<;>(repeat(with_reducible refine And.intro ?_ ?_;focus first|omega|rfl|assumption|exact⟨_,rfl,rfl⟩|(simp;omega)|(simp;done)))
   ·have hi:i<x.aG.length:=by omega
    with_reducible refine ay (fun hb=> ?_) (fun hb=> ?_)<;>have h:=hb<;>(try simp only[wf_preprocess] at h)<;>simp -implicitDefEqProofs (disch:=omega) only[go_sem,hb]<;>(repeat(with_reducible refine And.intro ?_ ?_;focus first|omega|rfl|assumption|exact⟨_,rfl,rfl⟩|(simp;omega)|(simp;done)))
    ·have hs:=bc (ap hi);have hs':=aK.rD x.aG[i];have hr:=KO (l:=d) (c:=x.aG[i].fBody.cnt) (by omega);rw[aK.nU hi,<-BZ] at p3
     (repeat(with_reducible refine And.intro ?_ ?_;focus first|omega|rfl|assumption|exact⟨_,rfl,rfl⟩|(simp;omega)|(simp;done)))
     refine aA (ih x.aG[i].fBody (by omega) (aK.bounds (aj.Nv hi hsz)).2.2.2 d (by omega) (by omega)) ?_;simp -implicitDefEqProofs (disch:=omega) only[go_sem]<;>(repeat(with_reducible refine And.intro ?_ ?_;focus first|omega|rfl|assumption|exact⟨_,rfl,rfl⟩|(simp;omega)|(simp;done)));exact bZ (i+1,lg d x.aG[i].fBody.cnt) (by simp only;omega) rfl rfl ⟨by simp only;omega,by simp only;omega,p3⟩
    ·rw[GI (by omega)] at p3;exact int_eq (by omega)
   ·have hi:i=x.aG.length:=by omega
    rw[hi,cH,aK.dW,DU p2.1] at p3;exact int_eq (by omega)
theorem Sm:∀n:Nat,∀x:aj,SizeOf.sizeOf x<n->x.sz<=4194304->aF prog 113 [x.v] (.c (.d (.b (gT x)))):=by
 intro n
 induction n with
 |zero=>intro x h;omega
 |succ n ih=>
  intro x hn hsz S;have hb0:=aj.bounds hsz;have j4:=aj.jo x;have BU:=aj.tu x;have he:=qR x;have hv0:=MZ;have hop:x.fName∈ops->validName x.fName=false:=Pq;refine(show(qo x-> ?T)->_ from fun tail=> ?main) ?tp
  case' main=>
   rcases JM x.aH with hk|hk|hk|hk|hk|hk|hk|hk|hk|hk|hk|hk|hk
   ·have h1:gT x=false:=by rw[he,aT (fun h=>by have:=h.1;omega)];rfl
    refine zcx [.tmp 2] func113 ntmps113 ?_;simp -implicitDefEqProofs (disch:=omega) only[go_sem];refine aA (Mr _) ?_;simp -implicitDefEqProofs (disch:=omega) only[go_sem];refine aA (AZ _ _ _) ?_;simp -implicitDefEqProofs (disch:=omega) only[go_sem]
    with_reducible refine ay (fun hb=> ?_) (fun hb=> ?_)<;>have h:=hb<;>(try simp only[wf_preprocess] at h)<;>simp -implicitDefEqProofs (disch:=omega) only[go_sem,hb]<;>(repeat(with_reducible refine And.intro ?_ ?_;focus first|omega|rfl|assumption|exact⟨_,rfl,rfl⟩|(simp;omega)|(simp;done)))
    ·rw[h1]
    ·omega
   all_goals
    have hf0:¬qo x->V.c (.d (.b false))=V.c (.d (.b (gT x))):=fun h=>aO (by rw[he,aT h];rfl);refine zcx [.tmp 2] func113 ntmps113 ?_;simp -implicitDefEqProofs (disch:=omega) only[go_sem,hk];refine aA (Mr _) ?_;simp -implicitDefEqProofs (disch:=omega) only[go_sem,hk,Wl,Wm,Wn,Wo,Wp,Wq,or_false,or_true,true_or,false_or];refine aA (AZ _ _ _) ?_;simp -implicitDefEqProofs (disch:=omega) only[go_sem,hk]
    repeat' (first
     |with_reducible refine ay (fun hb=> ?_) (fun hb=> ?_)<;>have h:=hb<;>(try simp only[wf_preprocess] at h)<;>simp -implicitDefEqProofs (disch:=omega) only[go_sem,hb,hk]<;>(repeat(with_reducible refine And.intro ?_ ?_;focus first|omega|rfl|assumption|exact⟨_,rfl,rfl⟩|(simp;omega)|(simp;done)))
     |((with_reducible show lI _ _ 62 _ _ _ _);refine aA (mP x.fName (by omega)) ?_;simp -implicitDefEqProofs (disch:=omega) only[go_sem,hk])
     |((with_reducible show lI _ _ 62 _ _ _ _);refine aA (mP x.aW (by omega)) ?_;simp -implicitDefEqProofs (disch:=omega) only[go_sem,hk])
     |((with_reducible show lI _ _ 197 _ _ _ _);refine aA (Wt x.fName) ?_;simp -implicitDefEqProofs (disch:=omega) only[go_sem,hk])
     |((with_reducible show lI _ _ 199 _ _ _ _);refine aA (Ws x.fType) ?_;simp -implicitDefEqProofs (disch:=omega) only[go_sem,hk])
     |((with_reducible show lI _ _ 198 _ _ _ _);refine aA (GD x.fType (by omega)) ?_;simp -implicitDefEqProofs (disch:=omega) only[go_sem,hk])
     |((with_reducible show lI _ _ 154 _ _ _ _);refine aA (AZ x.fN _ _) ?_;simp -implicitDefEqProofs (disch:=omega) only[go_sem,hk])
     |(refine hf0 fun hF=> ?_;simp only[qo,hk,or_false,or_true,true_or,false_or,and_true,true_and,if_true,if_false,↓reduceIte,Int.reduceEq,Int.reduceLT,Int.reduceLE] at hF;grind [iJ,oD,cK,aT]))
   all_goals
    have hF:qo x:=by simp only[qo,hk,or_false,or_true,true_or,false_or,and_true,true_and,if_true,if_false,↓reduceIte,Int.reduceEq,Int.reduceLT,Int.reduceLE];grind [iJ,oD,cK,aT]
    refine abV (st':=[.box (x.enc.map .d)]::S) [1,9] [.c (.ptr (0,0) 0),.c (.d (.i .i64 0))] rfl (by simp -implicitDefEqProofs (disch:=omega) only[go_sem,hk]) ?_;exact tail hF
  intro hF;rw[cK hF,cg] at he;clear hF hop hv0
  refine bI (ι:=Nat) zmx rfl [1,9] (fun i=>[.c (.ptr (0,0) 0),.c (.d (.i .i64 i))]) (fun _=>[.box (x.enc.map .d)]::S)
   (fun i=>i<=x.fArgs.length/\jq (x.fArgs.drop i)=jq x.fArgs) (fun i=>x.fArgs.length-i) 0 rfl ?_ ⟨ba _,rfl⟩ ?_
  ·simp -implicitDefEqProofs (disch:=omega) only[go_sem]
  rintro i ⟨p1,p2⟩;simp -implicitDefEqProofs (disch:=omega) only[go_sem]
  with_reducible refine ay (fun hb=> ?_) (fun hb=> ?_)<;>have h:=hb<;>(try simp only[wf_preprocess] at h)<;>simp -implicitDefEqProofs (disch:=omega) only[go_sem,hb]<;>(repeat(with_reducible refine And.intro ?_ ?_;focus first|omega|rfl|assumption|exact⟨_,rfl,rfl⟩|(simp;omega)|(simp;done)))
  ·have hi:i<x.fArgs.length:=by omega
   have hs:=bc (ap hi);rw[Pp hi] at p2
   (repeat(with_reducible refine And.intro ?_ ?_;focus first|omega|rfl|assumption|exact⟨_,rfl,rfl⟩|(simp;omega)|(simp;done)))
   refine aA (ih x.fArgs[i] (by omega) (aj.arg_b hi hsz)) ?_;simp -implicitDefEqProofs (disch:=omega) only[go_sem]<;>(repeat(with_reducible refine And.intro ?_ ?_;focus first|omega|rfl|assumption|exact⟨_,rfl,rfl⟩|(simp;omega)|(simp;done)))
   with_reducible refine ay (fun hb=> ?_) (fun hb=> ?_)<;>have h:=hb<;>(try simp only[wf_preprocess] at h)<;>simp -implicitDefEqProofs (disch:=omega) only[go_sem,hb]<;>(repeat(with_reducible refine And.intro ?_ ?_;focus first|omega|rfl|assumption|exact⟨_,rfl,rfl⟩|(simp;omega)|(simp;done)))
   ·exact aO (by rw[he,<-p2,h];rfl)
   ·exact bZ (i+1) (by omega) rfl rfl ⟨by omega,by rw[<-p2,h];rfl⟩
  rw[eR (by omega)] at p2;have q:jq x.fArgs=true:=p2.symm;clear p2 p1
  refine bI (ι:=Nat) zmx rfl [1,10] (fun i=>[.c (.ptr (0,0) 0),.c (.d (.i .i64 i))]) (fun _=>[.box (x.enc.map .d)]::S)
   (fun i=>i<=x.aG.length/\kZ (x.aG.drop i)=kZ x.aG) (fun i=>x.aG.length-i) 0 rfl ?_ ⟨ba _,rfl⟩ ?_
  ·simp -implicitDefEqProofs (disch:=omega) only[go_sem]
  rintro i ⟨p1,p2⟩;simp -implicitDefEqProofs (disch:=omega) only[go_sem]
  with_reducible refine ay (fun hb=> ?_) (fun hb=> ?_)<;>have h:=hb<;>(try simp only[wf_preprocess] at h)<;>simp -implicitDefEqProofs (disch:=omega) only[go_sem,hb]<;>(repeat(with_reducible refine And.intro ?_ ?_;focus first|omega|rfl|assumption|exact⟨_,rfl,rfl⟩|(simp;omega)|(simp;done)))
  ·have hi:i<x.aG.length:=by omega
   have hs:=bc (ap hi);have hs':=aK.rD x.aG[i];have hab:=aK.bounds (aj.Nv hi hsz);rw[RZ hi] at p2;have no:rE x.aG[i]=false->V.c (.d (.b false))=V.c (.d (.b (gT x))):=fun h=>aO (by rw[he,<-p2,h];simp)
   (repeat(with_reducible refine And.intro ?_ ?_;focus first|omega|rfl|assumption|exact⟨_,rfl,rfl⟩|(simp;omega)|(simp;done)))
   refine aA (mP x.aG[i].bK (by omega)) ?_;simp -implicitDefEqProofs (disch:=omega) only[go_sem]<;>(repeat(with_reducible refine And.intro ?_ ?_;focus first|omega|rfl|assumption|exact⟨_,rfl,rfl⟩|(simp;omega)|(simp;done)))
   with_reducible refine ay (fun hb=> ?_) (fun hb=> ?_)<;>have h:=hb<;>(try simp only[wf_preprocess] at h)<;>simp -implicitDefEqProofs (disch:=omega) only[go_sem,hb]<;>(repeat(with_reducible refine And.intro ?_ ?_;focus first|omega|rfl|assumption|exact⟨_,rfl,rfl⟩|(simp;omega)|(simp;done)))
   ·exact no (by rw[mQ,h];rfl)
   have k1:=h
   (repeat(with_reducible refine And.intro ?_ ?_;focus first|omega|rfl|assumption|exact⟨_,rfl,rfl⟩|(simp;omega)|(simp;done)))
   refine aA (Vt x.aG[i].bH (by omega) hab.2.2.1) ?_;simp -implicitDefEqProofs (disch:=omega) only[go_sem]<;>(repeat(with_reducible refine And.intro ?_ ?_;focus first|omega|rfl|assumption|exact⟨_,rfl,rfl⟩|(simp;omega)|(simp;done)))
   with_reducible refine ay (fun hb=> ?_) (fun hb=> ?_)<;>have h:=hb<;>(try simp only[wf_preprocess] at h)<;>simp -implicitDefEqProofs (disch:=omega) only[go_sem,hb]<;>(repeat(with_reducible refine And.intro ?_ ?_;focus first|omega|rfl|assumption|exact⟨_,rfl,rfl⟩|(simp;omega)|(simp;done)))
   ·exact no (by rw[mQ];unfold qm;rw[h];simp)
   have k2:=h
   (repeat(with_reducible refine And.intro ?_ ?_;focus first|omega|rfl|assumption|exact⟨_,rfl,rfl⟩|(simp;omega)|(simp;done)))
   refine aA (Jd x.aG[i].bH (by omega)) ?_;simp -implicitDefEqProofs (disch:=omega) only[go_sem]<;>(repeat(with_reducible refine And.intro ?_ ?_;focus first|omega|rfl|assumption|exact⟨_,rfl,rfl⟩|(simp;omega)|(simp;done)))
   with_reducible refine ay (fun hb=> ?_) (fun hb=> ?_)<;>have h:=hb<;>(try simp only[wf_preprocess] at h)<;>simp -implicitDefEqProofs (disch:=omega) only[go_sem,hb]<;>(repeat(with_reducible refine And.intro ?_ ?_;focus first|omega|rfl|assumption|exact⟨_,rfl,rfl⟩|(simp;omega)|(simp;done)))
   ·exact no (by rw[mQ];unfold qm;rw[aT h];simp)
   have k3:=h
   (repeat(with_reducible refine And.intro ?_ ?_;focus first|omega|rfl|assumption|exact⟨_,rfl,rfl⟩|(simp;omega)|(simp;done)))
   refine aA (ih x.aG[i].fBody (by omega) hab.2.2.2) ?_;simp -implicitDefEqProofs (disch:=omega) only[go_sem]<;>(repeat(with_reducible refine And.intro ?_ ?_;focus first|omega|rfl|assumption|exact⟨_,rfl,rfl⟩|(simp;omega)|(simp;done)))
   with_reducible refine ay (fun hb=> ?_) (fun hb=> ?_)<;>have h:=hb<;>(try simp only[wf_preprocess] at h)<;>simp -implicitDefEqProofs (disch:=omega) only[go_sem,hb]<;>(repeat(with_reducible refine And.intro ?_ ?_;focus first|omega|rfl|assumption|exact⟨_,rfl,rfl⟩|(simp;omega)|(simp;done)))
   ·exact no (by rw[mQ,h];simp)
   ·exact iD 1 (by decide) (i+1) (by omega) rfl rfl rfl rfl ⟨by omega,by rw[<-p2,mQ,k1,h];unfold qm;rw[k2,cK k3];rfl⟩
  ·rw[eR (by omega)] at p2;exact aO (by rw[he,q,<-p2];rfl)
theorem mX(x:aj)(hsz:x.sz<=4194304):aF prog 44 [x.v] (.c (.d (.b (d9 x)))):=fun S=>by
 have hs:=abU (l:=300) (c:=x.cnt) (by omega);refine zcx [.tmp 2] func44 ntmps44 ?_;simp -implicitDefEqProofs (disch:=omega) only[go_sem];refine aA (Gh _ x (br _) hsz 300 (by omega) (by omega)) ?_;simp -implicitDefEqProofs (disch:=omega) only[go_sem]<;>(repeat(with_reducible refine And.intro ?_ ?_;focus first|omega|rfl|assumption|exact⟨_,rfl,rfl⟩|(simp;omega)|(simp;done)));rw[hs]
 with_reducible refine ay (fun hb=> ?_) (fun hb=> ?_)<;>have h:=hb<;>(try simp only[wf_preprocess] at h)<;>simp -implicitDefEqProofs (disch:=omega) only[go_sem,hb]<;>(repeat(with_reducible refine And.intro ?_ ?_;focus first|omega|rfl|assumption|exact⟨_,rfl,rfl⟩|(simp;omega)|(simp;done)))
 ·refine aA (Sm _ x (br _) hsz) ?_;simp -implicitDefEqProofs (disch:=omega) only[go_sem]<;>(repeat(with_reducible refine And.intro ?_ ?_;focus first|omega|rfl|assumption|exact⟨_,rfl,rfl⟩|(simp;omega)|(simp;done)));exact aO (by unfold d9;rw[cK (by omega)];rfl)
 ·exact aO (by unfold d9;rw[aT (by omega)];rfl)
end Go.Ab