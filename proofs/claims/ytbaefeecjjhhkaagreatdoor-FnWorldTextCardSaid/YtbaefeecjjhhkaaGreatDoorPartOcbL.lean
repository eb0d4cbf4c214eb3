/-
  SEVERAL TEXTS IN ONE (merged by program): contracts and models, each with its own heading.
-/
import Derived.Test.YtbaefeecjjhhkaaGreatDoorPartOcbK
set_option maxHeartbeats 8000000
open Go.Proofs Go.Proofs.Tryz
set_option linter.unusedSimpArgs false
set_option linter.unusedVariables false
set_option maxRecDepth 4000
namespace Go.Ab
theorem ay.alu{x:ay}{y:ay}(h:y∈x.fArgs):y.cnt+1<=x.cnt:=by
 rw[ay.qG x]
 have:∀xs:List ay,y∈xs->y.cnt<=ay.eF xs:=by
  intro xs
  induction xs with
  |nil=>intro h;cases h
  |cons z zs ih=>
   intro h;rw[ay.eF];rcases List.mem_cons.1 h with e|e
   ·subst e;omega
   ·have:=ih e;omega
 have:=this _ h;omega
theorem ay.alv{x:ay}{y:aZ}(h:y∈x.aS):y.fBody.cnt+1<=x.cnt:=by
 rw[ay.qG x]
 have:∀xs:List aZ,y∈xs->y.fBody.cnt<=aZ.eF xs:=by
  intro xs
  induction xs with
  |nil=>intro h;cases h
  |cons z zs ih=>
   intro h;rw[aZ.eF];rcases List.mem_cons.1 h with e|e
   ·subst e;rw[aZ.qG];omega
   ·have:=ih e;omega
 have:=this _ h;omega
theorem ay.alx(x:ay):x.fArgs.length+1<=x.cnt:=by
 rw[ay.qG x]
 have:∀xs:List ay,xs.length<=ay.eF xs:=by
  intro xs
  induction xs with
  |nil=>simp
  |cons z zs ih=>rw[ay.eF,List.length_cons];have:=ay.qG z;omega
 have:=this x.fArgs;omega
def acG(k:Int):Bool:=if k=5\/k=11 then true else false
def acH(k:Int):Bool:=if k=3\/k=4\/k=6\/k=5\/k=8\/k=10 then true else false
def acI(k:Int):Bool:=if k=1\/k=2 then true else false
def acJ(k:Int):Bool:=if k=1\/k=2\/k=3\/k=4\/k=6\/k=5\/k=7\/k=8\/k=10\/k=9\/k=11 then false else true
def acK(k:Int):Int:=if k=1\/k=2\/k=3 then 0 else if k=4\/k=6\/k=5 then -1 else if k=8\/k=10 then 2 else if k=9 then 3 else 1
def acL(k:Int):Bool:=if k=7 then true else false
theorem Pz:∀n:Nat,∀x:ay,SizeOf.sizeOf x<n->x.sz<=4194304->x.cnt<=300->aC prog 253 [x.v] (.c (.d (.b (iV x))))
 |0=>fun x h=>by omega
 |n+1=>by
  have ih:=Pz n;intro x hn hsz hc S;have hb0:=ay.bounds hsz;have kG:=ay.jv x;have Di:=ay.vH x;have hl:=ay.alx x
  have h1:∀y∈x.fArgs,aC prog 276 [y.v] (.c (.d (.b (!iV y)))):=fun y hy S=>by
   have hys:=List.sizeOf_lt_of_mem hy;have hyc:=ay.alu hy
   have hyz:y.sz<=4194304:=by obtain⟨i,hi,e⟩:=List.getElem_of_mem hy;rw[<-e];exact ay.arg_b hi hsz
   refine zcx [.tmp 2] func276 ntmps276 ?_;refine W1 ?_;exact C4 (ih y (by omega) hyz (by omega))
  have h2:∀y∈x.aS,aC prog 278 [y.v] (.c (.d (.b (!xu y)))):=fun y hy S=>by
   have hys:=List.sizeOf_lt_of_mem hy;have hyb:=aZ.tV y;have hyc:=ay.alv hy
   have hyz:y.sz<=4194304:=by obtain⟨i,hi,e⟩:=List.getElem_of_mem hy;rw[<-e];exact ay.UM hi hsz
   have hyy:=aZ.bounds hyz;refine zcx [.tmp 2] func278 ntmps278 ?_;refine W1 ?_;refine C2 (iI y.dO (by omega)) ?_;refine S0 (fun hb h=>?_) fun hb h=>?_
   ·exact aH (by rw[sS,h];rfl)
   have k1:=h;refine C2 (pG y.aF (by omega) hyy.2.2.1) ?_;refine S0 (fun hb h=>?_) fun hb h=>?_
   ·exact aH (by rw[sS,h];simp)
   have k2:=h;refine C2 (ih y.fBody (by omega) hyy.2.2.2 (by omega)) ?_;exact aH (by rw[sS,k1,k2];simp)
  refine zcx [.tmp 2] func253 ntmps253 ?_;refine W1 ?_;refine C2 (WW x hsz (by omega)) ?_;refine S0 (fun hb h=>?_) fun hb h=>?_
  ·exact aH (by rw[yQ,aK h];rfl)
  have k1:=h;refine W3 ?_;refine cK rfl (JC 276 [] _ x.fArgs (fun y=> !iV y) (by omega) fun y hy=>pE.Q0 (h1 y hy)) ?_;refine W1 ?_;rw[MB];refine S0 (fun hb h=>?_) fun hb h=>?_
  ·exact aH (by rw[yQ,h];simp)
  have k2:=h;refine W3 ?_;refine cK rfl (J6 278 [] _ x.aS (fun y=> !xu y) (by omega) fun y hy=>pE.Q0 (h2 y hy)) ?_;refine W1 ?_;rw[OY];exact aH (by rw[yQ,bD k1,k2];simp)
theorem Nk(x:ay)(hsz:x.sz<=4194304):aC prog 223 [x.v] (.c (.d (.b (sF x)))):=fun S=>by
 refine zcx [.tmp 2] func223 ntmps223 ?_;refine W1 ?_;refine C2 (OD x hsz) ?_;refine S0 (fun hb h=>?_) fun hb h=>?_
 ·refine C2 (Pz _ x (Nat.lt_succ_self _) hsz (by omega)) ?_;exact aH (by unfold sF;rw[bD (by omega)];rfl)
 ·exact aH (by unfold sF;rw[aK (by omega)];rfl)
theorem SS(k:Int):aC prog 285 [.c (.d (.i .i64 k))] (.dN [(false,[.d (.b (acG k))]),(false,[.d (.b (acH k))]),(false,[.d (.b (acI k))]),(false,[.d (.b (acJ k))]),(false,[.d (.i .i64 (acK k))]),(false,[.d (.b (acL k))])]):=fun S=>by
 refine zcx [.tmp 2,.tmp 3,.tmp 4,.tmp 5,.tmp 6,.tmp 7] func285 ntmps285 ?_;refine W1 ?_
 repeat' (first
  |refine S0 (fun hb h=>?_) fun hb h=>?_
  |(unfold acG acH acI acJ acK acL;grind))
theorem PD(t:ak):aC prog 199 [t.v] (.c (.d (.b (dec (xY t))))):=fun S=>by
 refine zcx [.tmp 2] func199 ntmps199 ?_;refine W1 ?_
 repeat' (first
  |refine S0 (fun hb h=>?_) fun hb h=>?_
  |(refine aH ?_;unfold xY;grind [bD,aK,gq,jc]))
theorem acM(s:List UInt8):aC prog 286 [.c (.d (.s s))] (.c (.d (.b (dec (s∈ops))))):=fun S=>by
 refine zcx [.tmp 2] func286 ntmps286 ?_;refine W1 ?_;refine W3 ?_;exact C4 (rJ ops s (by decide))
theorem MG:∀n:Nat,∀x:ay,SizeOf.sizeOf x<n->x.sz<=4194304->∀l:Int,0<=l->l<=1048576->aC prog 263 [x.v,.c (.d (.i .i64 l))] (.c (.d (.i .i64 (pV l x.cnt))))
 |0=>fun x h=>by omega
 |n+1=>by
  have ih:=MG n;intro x hn hsz l hl hl2 S;have hb0:=ay.bounds hsz;have kG:=ay.jv x;have Di:=ay.vH x;have he:=ay.qG x;refine zcx [.tmp 4] func263 ntmps263 ?_;refine W1 ?_
  refine aR (ι:=Nat×Int) zmx rfl [1,2,5] (fun y=>[.c (.d (.i .i64 y.2)),.c (.ptr (0,0) 0),.c (.d (.i .i64 y.1))]) (fun y=>[.box (x.enc.map .d)]::S)
   (fun y=>y.1<=x.fArgs.length/\(-1<=y.2/\y.2<=1048576)/\pV y.2 (ay.eF (x.fArgs.drop y.1))=pV (l-1) (ay.eF x.fArgs)) (fun y=>x.fArgs.length-y.1) (0,l-1) rfl ?_ ⟨Nat.zero_le _,by simp only;omega,rfl⟩ ?_
  ·exact Z1
  rintro⟨i,c⟩ ⟨p1,p2,p3⟩;simp only at p1 p2 p3
  have out:(i=x.fArgs.length\/c<0)->c=pV (l-1) (ay.eF x.fArgs):=fun h=>by
   rcases h with h|h
   ·rw[h,List.drop_length,ay.eF,J8 p2.1] at p3;exact p3
   ·rw[<-p3,Nb h];omega
  have second:(i=x.fArgs.length\/c<0)->pV c (aZ.eF x.aS)=pV l x.cnt:=fun h=>by
   rw[out h,Iz,he];unfold pV;split<;>split<;>(try split)<;>omega
  refine W1 ?_;refine S0 (fun hb h=>?_) fun hb h=>?_
  ·have hi:i<x.fArgs.length:=by omega
   refine S0 (fun hb h=>?_) fun hb h=>?_
   ·have hs:=List.sizeOf_lt_of_mem (List.getElem_mem hi);have hr:=Q8 (l:=c) (c:=x.fArgs[i].cnt) (by omega);rw[ay.nu hi,<-Iz] at p3;refine W3 ?_;refine C2 (ih x.fArgs[i] (by omega) (ay.arg_b hi hsz) c (by omega) (by omega)) ?_;exact bV (i+1,pV c x.fArgs[i].cnt) (by simp only;omega) rfl rfl ⟨by simp only;omega,by simp only;omega,p3⟩
   ·have p4:=second (.inr (by omega));clear second out p3
    refine aR (ι:=Nat×Int) zmx rfl [1,2,6] (fun y=>[.c (.d (.i .i64 y.2)),.c (.ptr (0,0) 0),.c (.d (.i .i64 y.1))]) (fun y=>[.box (x.enc.map .d)]::S)
     (fun y=>y.1<=x.aS.length/\(-1<=y.2/\y.2<=1048576)/\pV y.2 (aZ.eF (x.aS.drop y.1))=pV l x.cnt) (fun y=>x.aS.length-y.1) (0,c) rfl ?_ ⟨Nat.zero_le _,by simp only;omega,p4⟩ ?_
    ·exact Z1
    clear p1 p2 p4;rintro⟨i,d⟩ ⟨p1,p2,p3⟩;simp only at p1 p2 p3;refine W1 ?_;refine S0 (fun hb h=>?_) fun hb h=>?_
    ·have hi:i<x.aS.length:=by omega
     refine S0 (fun hb h=>?_) fun hb h=>?_
     ·have hs:=List.sizeOf_lt_of_mem (List.getElem_mem hi);have hs':=aZ.tV x.aS[i];have hr:=Q8 (l:=d) (c:=x.aS[i].fBody.cnt) (by omega);rw[aZ.nu hi,<-Iz] at p3;refine W3 ?_;refine C2 (ih x.aS[i].fBody (by omega) (aZ.bounds (ay.UM hi hsz)).2.2.2 d (by omega) (by omega)) ?_;exact bV (i+1,pV d x.aS[i].fBody.cnt) (by simp only;omega) rfl rfl ⟨by simp only;omega,by simp only;omega,p3⟩
     ·rw[Nb (by omega)] at p3;exact int_eq (by omega)
    ·have hi:i=x.aS.length:=by omega
     rw[hi,List.drop_length,aZ.eF,J8 p2.1] at p3;exact int_eq (by omega)
  ·have p4:=second (.inl (by omega));clear second out p3
   refine aR (ι:=Nat×Int) zmx rfl [1,2,6] (fun y=>[.c (.d (.i .i64 y.2)),.c (.ptr (0,0) 0),.c (.d (.i .i64 y.1))]) (fun y=>[.box (x.enc.map .d)]::S)
    (fun y=>y.1<=x.aS.length/\(-1<=y.2/\y.2<=1048576)/\pV y.2 (aZ.eF (x.aS.drop y.1))=pV l x.cnt) (fun y=>x.aS.length-y.1) (0,c) rfl ?_ ⟨Nat.zero_le _,by simp only;omega,p4⟩ ?_
   ·exact Z1
   clear p1 p2 p4;rintro⟨i,d⟩ ⟨p1,p2,p3⟩;simp only at p1 p2 p3;refine W1 ?_;refine S0 (fun hb h=>?_) fun hb h=>?_
   ·have hi:i<x.aS.length:=by omega
    refine S0 (fun hb h=>?_) fun hb h=>?_
    ·have hs:=List.sizeOf_lt_of_mem (List.getElem_mem hi);have hs':=aZ.tV x.aS[i];have hr:=Q8 (l:=d) (c:=x.aS[i].fBody.cnt) (by omega);rw[aZ.nu hi,<-Iz] at p3;refine W3 ?_;refine C2 (ih x.aS[i].fBody (by omega) (aZ.bounds (ay.UM hi hsz)).2.2.2 d (by omega) (by omega)) ?_;exact bV (i+1,pV d x.aS[i].fBody.cnt) (by simp only;omega) rfl rfl ⟨by simp only;omega,by simp only;omega,p3⟩
    ·rw[Nb (by omega)] at p3;exact int_eq (by omega)
   ·have hi:i=x.aS.length:=by omega
    rw[hi,List.drop_length,aZ.eF,J8 p2.1] at p3;exact int_eq (by omega)
theorem Zg:∀n:Nat,∀x:ay,SizeOf.sizeOf x<n->x.sz<=4194304->aC prog 264 [x.v] (.c (.d (.b (iV x)))):=by
 intro n
 induction n with
 |zero=>intro x h;omega
 |succ n ih=>
  intro x hn hsz S;have hb0:=ay.bounds hsz;have kG:=ay.jv x;have Di:=ay.vH x;have he:=yQ x;have hv0:=Uj;have hop:x.fName∈ops->validName x.fName=false:=Wn;refine(show(vJ x-> ?T)->_ from fun tail=> ?main) ?tp
  case' main=>
   rcases Py x.aM with hk|hk|hk|hk|hk|hk|hk|hk|hk|hk|hk|hk|hk
   ·have h1:iV x=false:=by rw[he,aK (fun h=>by have:=h.1;omega)];rfl
    refine zcx [.tmp 2] func264 ntmps264 ?_;refine W1 ?_;refine C1 (SS _) ?_;refine C1 (Gw _ _ _) ?_;refine S0 (fun hb h=>?_) fun hb h=>?_
    ·rw[h1]
    ·omega
   all_goals
    have hf0:¬vJ x->V.c (.d (.b false))=V.c (.d (.b (iV x))):=fun h=>aH (by rw[he,aK h];rfl);refine zcx [.tmp 2] func264 ntmps264 ?_;simp -implicitDefEqProofs (disch:=omega) only[go_sem,hk];refine aX (SS _) ?_;simp -implicitDefEqProofs (disch:=omega) only[go_sem,hk,acG,acH,acI,acJ,acK,acL,or_false,or_true,true_or,false_or];refine aX (Gw _ _ _) ?_;simp -implicitDefEqProofs (disch:=omega) only[go_sem,hk]
    repeat' (first
     |with_reducible refine dZ (fun hb=> ?_) (fun hb=> ?_)<;>have h:=hb<;>(try simp only[wf_preprocess] at h)<;>simp -implicitDefEqProofs (disch:=omega) only[go_sem,hb,hk]<;>refine W3 ?_
     |((with_reducible show fA _ _ 120 _ _ _ _);refine aX (iJ x.fName (by omega)) ?_;simp -implicitDefEqProofs (disch:=omega) only[go_sem,hk])
     |((with_reducible show fA _ _ 120 _ _ _ _);refine aX (iJ x.bG (by omega)) ?_;simp -implicitDefEqProofs (disch:=omega) only[go_sem,hk])
     |((with_reducible show fA _ _ 286 _ _ _ _);refine aX (acM x.fName) ?_;simp -implicitDefEqProofs (disch:=omega) only[go_sem,hk])
     |((with_reducible show fA _ _ 199 _ _ _ _);refine aX (PD x.fType) ?_;simp -implicitDefEqProofs (disch:=omega) only[go_sem,hk])
     |((with_reducible show fA _ _ 237 _ _ _ _);refine aX (yA x.fType (by omega)) ?_;simp -implicitDefEqProofs (disch:=omega) only[go_sem,hk])
     |((with_reducible show fA _ _ 184 _ _ _ _);refine aX (Gw x.fN _ _) ?_;simp -implicitDefEqProofs (disch:=omega) only[go_sem,hk])
     |(refine hf0 fun hF=> ?_;simp only[vJ,hk,or_false,or_true,true_or,false_or,and_true,true_and,if_true,if_false,↓reduceIte,Int.reduceEq,Int.reduceLT,Int.reduceLE] at hF;grind [gq,jc,bD,aK]))
   all_goals
    have hF:vJ x:=by simp only[vJ,hk,or_false,or_true,true_or,false_or,and_true,true_and,if_true,if_false,↓reduceIte,Int.reduceEq,Int.reduceLT,Int.reduceLE];grind [gq,jc,bD,aK]
    refine nP (st':=[.box (x.enc.map .d)]::S) [1,9] [.c (.ptr (0,0) 0),.c (.d (.i .i64 0))] rfl (by simp -implicitDefEqProofs (disch:=omega) only[go_sem,hk]) ?_;exact tail hF
  intro hF;rw[bD hF,Bool.true_and] at he;clear hF hop hv0
  refine aR (ι:=Nat) zmx rfl [1,9] (fun i=>[.c (.ptr (0,0) 0),.c (.d (.i .i64 i))]) (fun _=>[.box (x.enc.map .d)]::S)
   (fun i=>i<=x.fArgs.length/\mK (x.fArgs.drop i)=mK x.fArgs) (fun i=>x.fArgs.length-i) 0 rfl ?_ ⟨Nat.zero_le _,rfl⟩ ?_
  ·exact Z1
  rintro i ⟨p1,p2⟩;refine W1 ?_;refine S0 (fun hb h=>?_) fun hb h=>?_
  ·have hi:i<x.fArgs.length:=by omega
   have hs:=List.sizeOf_lt_of_mem (List.getElem_mem hi);rw[Wm hi] at p2;refine W3 ?_;refine C2 (ih x.fArgs[i] (by omega) (ay.arg_b hi hsz)) ?_;refine S0 (fun hb h=>?_) fun hb h=>?_
   ·exact aH (by rw[he,<-p2,h];rfl)
   ·exact bV (i+1) (by omega) rfl rfl ⟨by omega,by rw[<-p2,h];rfl⟩
  rw[List.drop_of_length_le (by omega)] at p2;have q:mK x.fArgs=true:=p2.symm;clear p2 p1
  refine aR (ι:=Nat) zmx rfl [1,10] (fun i=>[.c (.ptr (0,0) 0),.c (.d (.i .i64 i))]) (fun _=>[.box (x.enc.map .d)]::S)
   (fun i=>i<=x.aS.length/\pU (x.aS.drop i)=pU x.aS) (fun i=>x.aS.length-i) 0 rfl ?_ ⟨Nat.zero_le _,rfl⟩ ?_
  ·exact Z1
  rintro i ⟨p1,p2⟩;refine W1 ?_;refine S0 (fun hb h=>?_) fun hb h=>?_
  ·have hi:i<x.aS.length:=by omega
   have hs:=List.sizeOf_lt_of_mem (List.getElem_mem hi);have hs':=aZ.tV x.aS[i];have hab:=aZ.bounds (ay.UM hi hsz);rw[Y1 hi] at p2;have no:xu x.aS[i]=false->V.c (.d (.b false))=V.c (.d (.b (iV x))):=fun h=>aH (by rw[he,<-p2,h];simp);refine W3 ?_;refine C2 (iJ x.aS[i].dO (by omega)) ?_;refine S0 (fun hb h=>?_) fun hb h=>?_
   ·exact no (by rw[sS,h];rfl)
   have k1:=h;refine W3 ?_;refine C2 (OX x.aS[i].aF (by omega) hab.2.2.1) ?_;refine S0 (fun hb h=>?_) fun hb h=>?_
   ·exact no (by rw[sS];unfold iN;rw[h];simp)
   have k2:=h;refine W3 ?_;refine C2 (qo x.aS[i].aF (by omega)) ?_;refine S0 (fun hb h=>?_) fun hb h=>?_
   ·exact no (by rw[sS];unfold iN;rw[aK h];simp)
   have k3:=h;refine W3 ?_;refine C2 (ih x.aS[i].fBody (by omega) hab.2.2.2) ?_;refine S0 (fun hb h=>?_) fun hb h=>?_
   ·exact no (by rw[sS,h];simp)
   ·exact bL 1 (by decide) (i+1) (by omega) rfl rfl rfl rfl ⟨by omega,by rw[<-p2,sS,k1,h];unfold iN;rw[k2,bD k3];rfl⟩
  ·rw[List.drop_of_length_le (by omega)] at p2;exact aH (by rw[he,q,<-p2];rfl)
theorem Nl(x:ay)(hsz:x.sz<=4194304):aC prog 241 [x.v] (.c (.d (.b (sF x)))):=fun S=>by
 have hs:=aia (l:=300) (c:=x.cnt) (by omega);refine zcx [.tmp 2] func241 ntmps241 ?_;refine W1 ?_;refine C2 (MG _ x (Nat.lt_succ_self _) hsz 300 (by omega) (by omega)) ?_;rw[hs];refine S0 (fun hb h=>?_) fun hb h=>?_
 ·refine C2 (Zg _ x (Nat.lt_succ_self _) hsz) ?_;exact aH (by unfold sF;rw[bD (by omega)];rfl)
 ·exact aH (by unfold sF;rw[aK (by omega)];rfl)
end Go.Ab