/-
  SEVERAL TEXTS IN ONE (merged by program): contracts and models, each with its own heading.
-/
import Derived.Test.YtlaaknnkeidlbaaGreatDoorPartDmbL
set_option maxHeartbeats 8000000
open Go.Proofs Go.Proofs.Tryz
set_option linter.unusedSimpArgs false
set_option linter.unusedVariables false
set_option maxRecDepth 4000
namespace Go.Ab
theorem ay.alH{x:ay}{y:ay}(h:y∈x.fArgs):y.cnt+1<=x.cnt:=by
 rw[ay.qH x]
 have:∀xs:List ay,y∈xs->y.cnt<=ay.eT xs:=by
  intro xs
  induction xs with
  |nil=>intro h;cases h
  |cons z zs ih=>
   intro h;rw[ay.eT];rcases List.mem_cons.1 h with e|e
   ·subst e;omega
   ·have:=ih e;omega
 have:=this _ h;omega
theorem ay.alI{x:ay}{y:bq}(h:y∈x.aT):y.fBody.cnt+1<=x.cnt:=by
 rw[ay.qH x]
 have:∀xs:List bq,y∈xs->y.fBody.cnt<=bq.eT xs:=by
  intro xs
  induction xs with
  |nil=>intro h;cases h
  |cons z zs ih=>
   intro h;rw[bq.eT];rcases List.mem_cons.1 h with e|e
   ·subst e;rw[bq.qH];omega
   ·have:=ih e;omega
 have:=this _ h;omega
theorem ay.alJ(x:ay):x.fArgs.length+1<=x.cnt:=by
 rw[ay.qH x]
 have:∀xs:List ay,xs.length<=ay.eT xs:=by
  intro xs
  induction xs with
  |nil=>simp
  |cons z zs ih=>rw[ay.eT,List.length_cons];have:=ay.qH z;omega
 have:=this x.fArgs;omega
def ab0(k:Int):Bool:=if k=5\/k=11 then true else false
def ab1(k:Int):Bool:=if k=3\/k=4\/k=6\/k=5\/k=8\/k=10 then true else false
def ab2(k:Int):Bool:=if k=1\/k=2 then true else false
def ab3(k:Int):Bool:=if k=1\/k=2\/k=3\/k=4\/k=6\/k=5\/k=7\/k=8\/k=10\/k=9\/k=11 then false else true
def ab4(k:Int):Int:=if k=1\/k=2\/k=3 then 0 else if k=4\/k=6\/k=5 then -1 else if k=8\/k=10 then 2 else if k=9 then 3 else 1
def ab5(k:Int):Bool:=if k=7 then true else false
theorem PW:∀n:Nat,∀x:ay,SizeOf.sizeOf x<n->x.sz<=4194304->x.cnt<=300->aF prog 97 [x.v] (.c (.d (.b (iR x))))
 |0=>fun x h=>by omega
 |n+1=>by
  have ih:=PW n;intro x hn hsz hc S;have hb0:=ay.bounds hsz;have kV:=ay.iY x;have Dv:=ay.vT x;have hl:=ay.alJ x
  have h1:∀y∈x.fArgs,aF prog 187 [y.v] (.c (.d (.b (!iR y)))):=fun y hy S=>by
   have hys:=List.sizeOf_lt_of_mem hy;have hyc:=ay.alH hy
   have hyz:y.sz<=4194304:=by obtain⟨i,hi,e⟩:=List.getElem_of_mem hy;rw[<-e];exact ay.arg_b hi hsz
   refine zcx [.tmp 2] func187 ntmps187 ?_;refine W1 ?_;exact C4 (ih y (by omega) hyz (by omega))
  have h2:∀y∈x.aT,aF prog 189 [y.v] (.c (.d (.b (!xM y)))):=fun y hy S=>by
   have hys:=List.sizeOf_lt_of_mem hy;have hyb:=bq.uz y;have hyc:=ay.alI hy
   have hyz:y.sz<=4194304:=by obtain⟨i,hi,e⟩:=List.getElem_of_mem hy;rw[<-e];exact ay.UN hi hsz
   have hyy:=bq.bounds hyz;refine zcx [.tmp 2] func189 ntmps189 ?_;refine W1 ?_;refine C2 (iy y.dN (by omega)) ?_;refine S0 (fun hb h=>?_) fun hb h=>?_
   ·exact aI (by rw[tN,h];rfl)
   have k1:=h;refine C2 (oQ y.aH (by omega) hyy.2.2.1) ?_;refine S0 (fun hb h=>?_) fun hb h=>?_
   ·exact aI (by rw[tN,h];simp)
   have k2:=h;refine C2 (ih y.fBody (by omega) hyy.2.2.2 (by omega)) ?_;exact aI (by rw[tN,k1,k2];simp)
  refine zcx [.tmp 2] func97 ntmps97 ?_;refine W1 ?_;refine C2 (WO x hsz (by omega)) ?_;refine S0 (fun hb h=>?_) fun hb h=>?_
  ·exact aI (by rw[zl,aR h];rfl)
  have k1:=h;refine W3 ?_;refine aW rfl (JD 187 [] _ x.fArgs (fun y=> !iR y) (by omega) fun y hy=>oO.Rj (h1 y hy)) ?_;refine W1 ?_;rw[MF];refine S0 (fun hb h=>?_) fun hb h=>?_
  ·exact aI (by rw[zl,h];simp)
  have k2:=h;refine W3 ?_;refine aW rfl (Kj 189 [] _ x.aT (fun y=> !xM y) (by omega) fun y hy=>oO.Rj (h2 y hy)) ?_;refine W1 ?_;rw[PD];exact aI (by rw[zl,bM k1,k2];simp)
theorem Ns(x:ay)(hsz:x.sz<=4194304):aF prog 40 [x.v] (.c (.d (.b (sQ x)))):=fun S=>by
 refine zcx [.tmp 2] func40 ntmps40 ?_;refine W1 ?_;refine C2 (O1 x hsz) ?_;refine S0 (fun hb h=>?_) fun hb h=>?_
 ·refine C2 (PW _ x (Nat.lt_succ_self _) hsz (by omega)) ?_;exact aI (by unfold sQ;rw[bM (by omega)];rfl)
 ·exact aI (by unfold sQ;rw[aR (by omega)];rfl)
theorem Ta(k:Int):aF prog 196 [.c (.d (.i .i64 k))] (.fF [(false,[.d (.b (ab0 k))]),(false,[.d (.b (ab1 k))]),(false,[.d (.b (ab2 k))]),(false,[.d (.b (ab3 k))]),(false,[.d (.i .i64 (ab4 k))]),(false,[.d (.b (ab5 k))])]):=fun S=>by
 refine zcx [.tmp 2,.tmp 3,.tmp 4,.tmp 5,.tmp 6,.tmp 7] func196 ntmps196 ?_;refine W1 ?_
 repeat' (first
  |refine S0 (fun hb h=>?_) fun hb h=>?_
  |(unfold ab0 ab1 ab2 ab3 ab4 ab5;grind))
theorem PX(t:ak):aF prog 199 [t.v] (.c (.d (.b (dec (yG t))))):=fun S=>by
 refine zcx [.tmp 2] func199 ntmps199 ?_;refine W1 ?_
 repeat' (first
  |refine S0 (fun hb h=>?_) fun hb h=>?_
  |(refine aI ?_;unfold yG;grind [bM,aR,gJ,jo]))
theorem ab6(s:List UInt8):aF prog 197 [.c (.d (.s s))] (.c (.d (.b (dec (s∈ops))))):=fun S=>by
 refine zcx [.tmp 2] func197 ntmps197 ?_;refine W1 ?_;refine W3 ?_;exact C4 (vk ops s (by decide))
theorem ML:∀n:Nat,∀x:ay,SizeOf.sizeOf x<n->x.sz<=4194304->∀l:Int,0<=l->l<=1048576->aF prog 112 [x.v,.c (.d (.i .i64 l))] (.c (.d (.i .i64 (pG l x.cnt))))
 |0=>fun x h=>by omega
 |n+1=>by
  have ih:=ML n;intro x hn hsz l hl hl2 S;have hb0:=ay.bounds hsz;have kV:=ay.iY x;have Dv:=ay.vT x;have he:=ay.qH x;refine zcx [.tmp 4] func112 ntmps112 ?_;refine W1 ?_
  refine aZ (ι:=Nat×Int) zmx rfl [1,2,5] (fun y=>[.c (.d (.i .i64 y.2)),.c (.ptr (0,0) 0),.c (.d (.i .i64 y.1))]) (fun y=>[.box (x.enc.map .d)]::S)
   (fun y=>y.1<=x.fArgs.length/\(-1<=y.2/\y.2<=1048576)/\pG y.2 (ay.eT (x.fArgs.drop y.1))=pG (l-1) (ay.eT x.fArgs)) (fun y=>x.fArgs.length-y.1) (0,l-1) rfl ?_ ⟨Nat.zero_le _,by simp only;omega,rfl⟩ ?_
  ·exact Z1
  rintro⟨i,c⟩ ⟨p1,p2,p3⟩;simp only at p1 p2 p3
  have out:(i=x.fArgs.length\/c<0)->c=pG (l-1) (ay.eT x.fArgs):=fun h=>by
   rcases h with h|h
   ·rw[h,List.drop_length,ay.eT,Kl p2.1] at p3;exact p3
   ·rw[<-p3,Nq h];omega
  have second:(i=x.fArgs.length\/c<0)->pG c (bq.eT x.aT)=pG l x.cnt:=fun h=>by
   rw[out h,IG,he];unfold pG;split<;>split<;>(try split)<;>omega
  refine W1 ?_;refine S0 (fun hb h=>?_) fun hb h=>?_
  ·have hi:i<x.fArgs.length:=by omega
   refine S0 (fun hb h=>?_) fun hb h=>?_
   ·have hs:=List.sizeOf_lt_of_mem (List.getElem_mem hi);have hr:=Rs (l:=c) (c:=x.fArgs[i].cnt) (by omega);rw[ay.ng hi,<-IG] at p3;refine W3 ?_;refine C2 (ih x.fArgs[i] (by omega) (ay.arg_b hi hsz) c (by omega) (by omega)) ?_;exact dB (i+1,pG c x.fArgs[i].cnt) (by simp only;omega) rfl rfl ⟨by simp only;omega,by simp only;omega,p3⟩
   ·have p4:=second (.inr (by omega));clear second out p3
    refine aZ (ι:=Nat×Int) zmx rfl [1,2,6] (fun y=>[.c (.d (.i .i64 y.2)),.c (.ptr (0,0) 0),.c (.d (.i .i64 y.1))]) (fun y=>[.box (x.enc.map .d)]::S)
     (fun y=>y.1<=x.aT.length/\(-1<=y.2/\y.2<=1048576)/\pG y.2 (bq.eT (x.aT.drop y.1))=pG l x.cnt) (fun y=>x.aT.length-y.1) (0,c) rfl ?_ ⟨Nat.zero_le _,by simp only;omega,p4⟩ ?_
    ·exact Z1
    clear p1 p2 p4;rintro⟨i,d⟩ ⟨p1,p2,p3⟩;simp only at p1 p2 p3;refine W1 ?_;refine S0 (fun hb h=>?_) fun hb h=>?_
    ·have hi:i<x.aT.length:=by omega
     refine S0 (fun hb h=>?_) fun hb h=>?_
     ·have hs:=List.sizeOf_lt_of_mem (List.getElem_mem hi);have hs':=bq.uz x.aT[i];have hr:=Rs (l:=d) (c:=x.aT[i].fBody.cnt) (by omega);rw[bq.ng hi,<-IG] at p3;refine W3 ?_;refine C2 (ih x.aT[i].fBody (by omega) (bq.bounds (ay.UN hi hsz)).2.2.2 d (by omega) (by omega)) ?_;exact dB (i+1,pG d x.aT[i].fBody.cnt) (by simp only;omega) rfl rfl ⟨by simp only;omega,by simp only;omega,p3⟩
     ·rw[Nq (by omega)] at p3;exact int_eq (by omega)
    ·have hi:i=x.aT.length:=by omega
     rw[hi,List.drop_length,bq.eT,Kl p2.1] at p3;exact int_eq (by omega)
  ·have p4:=second (.inl (by omega));clear second out p3
   refine aZ (ι:=Nat×Int) zmx rfl [1,2,6] (fun y=>[.c (.d (.i .i64 y.2)),.c (.ptr (0,0) 0),.c (.d (.i .i64 y.1))]) (fun y=>[.box (x.enc.map .d)]::S)
    (fun y=>y.1<=x.aT.length/\(-1<=y.2/\y.2<=1048576)/\pG y.2 (bq.eT (x.aT.drop y.1))=pG l x.cnt) (fun y=>x.aT.length-y.1) (0,c) rfl ?_ ⟨Nat.zero_le _,by simp only;omega,p4⟩ ?_
   ·exact Z1
   clear p1 p2 p4;rintro⟨i,d⟩ ⟨p1,p2,p3⟩;simp only at p1 p2 p3;refine W1 ?_;refine S0 (fun hb h=>?_) fun hb h=>?_
   ·have hi:i<x.aT.length:=by omega
    refine S0 (fun hb h=>?_) fun hb h=>?_
    ·have hs:=List.sizeOf_lt_of_mem (List.getElem_mem hi);have hs':=bq.uz x.aT[i];have hr:=Rs (l:=d) (c:=x.aT[i].fBody.cnt) (by omega);rw[bq.ng hi,<-IG] at p3;refine W3 ?_;refine C2 (ih x.aT[i].fBody (by omega) (bq.bounds (ay.UN hi hsz)).2.2.2 d (by omega) (by omega)) ?_;exact dB (i+1,pG d x.aT[i].fBody.cnt) (by simp only;omega) rfl rfl ⟨by simp only;omega,by simp only;omega,p3⟩
    ·rw[Nq (by omega)] at p3;exact int_eq (by omega)
   ·have hi:i=x.aT.length:=by omega
    rw[hi,List.drop_length,bq.eT,Kl p2.1] at p3;exact int_eq (by omega)
theorem YZ:∀n:Nat,∀x:ay,SizeOf.sizeOf x<n->x.sz<=4194304->aF prog 113 [x.v] (.c (.d (.b (iR x)))):=by
 intro n
 induction n with
 |zero=>intro x h;omega
 |succ n ih=>
  intro x hn hsz S;have hb0:=ay.bounds hsz;have kV:=ay.iY x;have Dv:=ay.vT x;have he:=zl x;have hv0:=Uk;have hop:x.fName∈ops->validName x.fName=false:=WG;refine(show(vV x-> ?T)->_ from fun tail=> ?main) ?tp
  case' main=>
   rcases PV x.aM with hk|hk|hk|hk|hk|hk|hk|hk|hk|hk|hk|hk|hk
   ·have h1:iR x=false:=by rw[he,aR (fun h=>by have:=h.1;omega)];rfl
    refine zcx [.tmp 2] func113 ntmps113 ?_;refine W1 ?_;refine C1 (Ta _) ?_;refine C1 (GN _ _ _) ?_;refine S0 (fun hb h=>?_) fun hb h=>?_
    ·rw[h1]
    ·omega
   all_goals
    have hf0:¬vV x->V.c (.d (.b false))=V.c (.d (.b (iR x))):=fun h=>aI (by rw[he,aR h];rfl);refine zcx [.tmp 2] func113 ntmps113 ?_;simp -implicitDefEqProofs (disch:=omega) only[go_sem,hk];refine bD (Ta _) ?_;simp -implicitDefEqProofs (disch:=omega) only[go_sem,hk,ab0,ab1,ab2,ab3,ab4,ab5,or_false,or_true,true_or,false_or];refine bD (GN _ _ _) ?_;simp -implicitDefEqProofs (disch:=omega) only[go_sem,hk]
    repeat' (first
     |with_reducible refine dS (fun hb=> ?_) (fun hb=> ?_)<;>have h:=hb<;>(try simp only[wf_preprocess] at h)<;>simp -implicitDefEqProofs (disch:=omega) only[go_sem,hb,hk]<;>refine W3 ?_
     |((with_reducible show fB _ _ 62 _ _ _ _);refine bD (iA x.fName (by omega)) ?_;simp -implicitDefEqProofs (disch:=omega) only[go_sem,hk])
     |((with_reducible show fB _ _ 62 _ _ _ _);refine bD (iA x.bO (by omega)) ?_;simp -implicitDefEqProofs (disch:=omega) only[go_sem,hk])
     |((with_reducible show fB _ _ 197 _ _ _ _);refine bD (ab6 x.fName) ?_;simp -implicitDefEqProofs (disch:=omega) only[go_sem,hk])
     |((with_reducible show fB _ _ 199 _ _ _ _);refine bD (PX x.fType) ?_;simp -implicitDefEqProofs (disch:=omega) only[go_sem,hk])
     |((with_reducible show fB _ _ 198 _ _ _ _);refine bD (yQ x.fType (by omega)) ?_;simp -implicitDefEqProofs (disch:=omega) only[go_sem,hk])
     |((with_reducible show fB _ _ 154 _ _ _ _);refine bD (GN x.fN _ _) ?_;simp -implicitDefEqProofs (disch:=omega) only[go_sem,hk])
     |(refine hf0 fun hF=> ?_;simp only[vV,hk,or_false,or_true,true_or,false_or,and_true,true_and,if_true,if_false,↓reduceIte,Int.reduceEq,Int.reduceLT,Int.reduceLE] at hF;grind [gJ,jo,bM,aR]))
   all_goals
    have hF:vV x:=by simp only[vV,hk,or_false,or_true,true_or,false_or,and_true,true_and,if_true,if_false,↓reduceIte,Int.reduceEq,Int.reduceLT,Int.reduceLE];grind [gJ,jo,bM,aR]
    refine qx (st':=[.box (x.enc.map .d)]::S) [1,9] [.c (.ptr (0,0) 0),.c (.d (.i .i64 0))] rfl (by simp -implicitDefEqProofs (disch:=omega) only[go_sem,hk]) ?_;exact tail hF
  intro hF;rw[bM hF,Bool.true_and] at he;clear hF hop hv0
  refine aZ (ι:=Nat) zmx rfl [1,9] (fun i=>[.c (.ptr (0,0) 0),.c (.d (.i .i64 i))]) (fun _=>[.box (x.enc.map .d)]::S)
   (fun i=>i<=x.fArgs.length/\mD (x.fArgs.drop i)=mD x.fArgs) (fun i=>x.fArgs.length-i) 0 rfl ?_ ⟨Nat.zero_le _,rfl⟩ ?_
  ·exact Z1
  rintro i ⟨p1,p2⟩;refine W1 ?_;refine S0 (fun hb h=>?_) fun hb h=>?_
  ·have hi:i<x.fArgs.length:=by omega
   have hs:=List.sizeOf_lt_of_mem (List.getElem_mem hi);rw[WE hi] at p2;refine W3 ?_;refine C2 (ih x.fArgs[i] (by omega) (ay.arg_b hi hsz)) ?_;refine S0 (fun hb h=>?_) fun hb h=>?_
   ·exact aI (by rw[he,<-p2,h];rfl)
   ·exact dB (i+1) (by omega) rfl rfl ⟨by omega,by rw[<-p2,h];rfl⟩
  rw[List.drop_of_length_le (by omega)] at p2;have q:mD x.fArgs=true:=p2.symm;clear p2 p1
  refine aZ (ι:=Nat) zmx rfl [1,10] (fun i=>[.c (.ptr (0,0) 0),.c (.d (.i .i64 i))]) (fun _=>[.box (x.enc.map .d)]::S)
   (fun i=>i<=x.aT.length/\pE (x.aT.drop i)=pE x.aT) (fun i=>x.aT.length-i) 0 rfl ?_ ⟨Nat.zero_le _,rfl⟩ ?_
  ·exact Z1
  rintro i ⟨p1,p2⟩;refine W1 ?_;refine S0 (fun hb h=>?_) fun hb h=>?_
  ·have hi:i<x.aT.length:=by omega
   have hs:=List.sizeOf_lt_of_mem (List.getElem_mem hi);have hs':=bq.uz x.aT[i];have hab:=bq.bounds (ay.UN hi hsz);rw[YT hi] at p2;have no:xM x.aT[i]=false->V.c (.d (.b false))=V.c (.d (.b (iR x))):=fun h=>aI (by rw[he,<-p2,h];simp);refine W3 ?_;refine C2 (iA x.aT[i].dN (by omega)) ?_;refine S0 (fun hb h=>?_) fun hb h=>?_
   ·exact no (by rw[tN,h];rfl)
   have k1:=h;refine W3 ?_;refine C2 (Pz x.aT[i].aH (by omega) hab.2.2.1) ?_;refine S0 (fun hb h=>?_) fun hb h=>?_
   ·exact no (by rw[tN];unfold iI;rw[h];simp)
   have k2:=h;refine W3 ?_;refine C2 (qb x.aT[i].aH (by omega)) ?_;refine S0 (fun hb h=>?_) fun hb h=>?_
   ·exact no (by rw[tN];unfold iI;rw[aR h];simp)
   have k3:=h;refine W3 ?_;refine C2 (ih x.aT[i].fBody (by omega) hab.2.2.2) ?_;refine S0 (fun hb h=>?_) fun hb h=>?_
   ·exact no (by rw[tN,h];simp)
   ·exact bT 1 (by decide) (i+1) (by omega) rfl rfl rfl rfl ⟨by omega,by rw[<-p2,tN,k1,h];unfold iI;rw[k2,bM k3];rfl⟩
  ·rw[List.drop_of_length_le (by omega)] at p2;exact aI (by rw[he,q,<-p2];rfl)
theorem Nt(x:ay)(hsz:x.sz<=4194304):aF prog 44 [x.v] (.c (.d (.b (sQ x)))):=fun S=>by
 have hs:=ait (l:=300) (c:=x.cnt) (by omega);refine zcx [.tmp 2] func44 ntmps44 ?_;refine W1 ?_;refine C2 (ML _ x (Nat.lt_succ_self _) hsz 300 (by omega) (by omega)) ?_;rw[hs];refine S0 (fun hb h=>?_) fun hb h=>?_
 ·refine C2 (YZ _ x (Nat.lt_succ_self _) hsz) ?_;exact aI (by unfold sQ;rw[bM (by omega)];rfl)
 ·exact aI (by unfold sQ;rw[aR (by omega)];rfl)
end Go.Ab