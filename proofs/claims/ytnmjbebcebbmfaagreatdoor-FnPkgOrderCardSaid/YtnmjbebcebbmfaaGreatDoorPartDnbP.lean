/-
  SEVERAL TEXTS IN ONE (merged by program): contracts and models, each with its own heading.
-/
import Derived.Test.YtnmjbebcebbmfaaGreatDoorPartDnbO
set_option maxHeartbeats 8000000
open Go.Proofs Go.Proofs.Tryz
set_option linter.unusedSimpArgs false
set_option linter.unusedVariables false
set_option maxRecDepth 4000
namespace Go.Ab
theorem au.ao3{x:au}{y:au}(h:y∈x.fArgs):y.cnt+1<=x.cnt:=by
 rw[au.rW x]
 have:∀xs:List au,y∈xs->y.cnt<=au.fq xs:=by
  intro xs
  induction xs with
  |nil=>intro h;cases h
  |cons z zs ih=>
   intro h;rw[au.fq];rcases cT.1 h with e|e
   ·subst e;omega
   ·have:=ih e;omega
 have:=this _ h;omega
theorem au.ao4{x:au}{y:bq}(h:y∈x.aX):y.fBody.cnt+1<=x.cnt:=by
 rw[au.rW x]
 have:∀xs:List bq,y∈xs->y.fBody.cnt<=bq.fq xs:=by
  intro xs
  induction xs with
  |nil=>intro h;cases h
  |cons z zs ih=>
   intro h;rw[bq.fq];rcases cT.1 h with e|e
   ·subst e;rw[bq.rW];omega
   ·have:=ih e;omega
 have:=this _ h;omega
theorem au.ao5(x:au):x.fArgs.length+1<=x.cnt:=by
 rw[au.rW x]
 have:∀xs:List au,xs.length<=au.fq xs:=by
  intro xs
  induction xs with
  |nil=>simp
  |cons z zs ih=>rw[au.fq,aa];have:=au.rW z;omega
 have:=this x.fArgs;omega
def afe(k:Int):Bool:=if k=5\/k=11 then true else false
def aff(k:Int):Bool:=if k=3\/k=4\/k=6\/k=5\/k=8\/k=10 then true else false
def afg(k:Int):Bool:=if k=1\/k=2 then true else false
def afh(k:Int):Bool:=if k=1\/k=2\/k=3\/k=4\/k=6\/k=5\/k=7\/k=8\/k=10\/k=9\/k=11 then false else true
def afi(k:Int):Int:=if k=1\/k=2\/k=3 then 0 else if k=4\/k=6\/k=5 then -1 else if k=8\/k=10 then 2 else if k=9 then 3 else 1
def afj(k:Int):Bool:=if k=7 then true else false
theorem Sj:∀n:Nat,∀x:au,SizeOf.sizeOf x<n->x.sz<=4194304->x.cnt<=300->aD prog 205 [x.v] (.c (.d (.b (jl x))))
 |0=>fun x h=>by omega
 |n+1=>by
  have ih:=Sj n;intro x hn hsz hc S;have hb0:=au.bounds hsz;have kL:=au.jF x;have Fv:=au.xG x;have hl:=au.ao5 x
  have h1:∀y∈x.fArgs,aD prog 232 [y.v] (.c (.d (.b (!jl y)))):=fun y hy S=>by
   have hys:=bh hy;have hyc:=au.ao3 hy
   have hyz:y.sz<=4194304:=by obtain⟨i,hi,e⟩:=ci hy;rw[<-e];exact au.arg_b hi hsz
   refine zcx [.tmp 2] func232 ntmps232 ?_;refine W1 ?_;exact C4 (ih y gA hyz gA)
  have h2:∀y∈x.aX,aD prog 234 [y.v] (.c (.d (.b (!zl y)))):=fun y hy S=>by
   have hys:=bh hy;have hyb:=bq.vN y;have hyc:=au.ao4 hy
   have hyz:y.sz<=4194304:=by obtain⟨i,hi,e⟩:=ci hy;rw[<-e];exact au.Xy hi hsz
   have hyy:=bq.bounds hyz;refine zcx [.tmp 2] func234 ntmps234 ?_;refine W1 ?_;refine C2 (iU y.dV gA) ?_;refine S0 (fun hb h=>?_) fun hb h=>?_
   ·exact aK (by rw[u6,h];rfl)
   have k1:=h;refine C2 (qB y.aG gA hyy.2.2.1) ?_;refine S0 (fun hb h=>?_) fun hb h=>?_
   ·exact aK (by rw[u6,h];simp)
   have k2:=h;refine C2 (ih y.fBody gA hyy.2.2.2 gA) ?_;exact aK (by rw[u6,k1,k2];simp)
  refine zcx [.tmp 2] func205 ntmps205 ?_;refine W1 ?_;refine C2 (Zq x hsz gA) ?_;refine S0 (fun hb h=>?_) fun hb h=>?_
  ·exact aK (by rw[AB,aO h];rfl)
  have k1:=h;refine W3 ?_;refine bD rfl (LH 232 [] _ x.fArgs (fun y=> !jl y) gA fun y hy=>qA.Uj (h1 y hy)) ?_;refine W1 ?_;rw[O6];refine S0 (fun hb h=>?_) fun hb h=>?_
  ·exact aK (by rw[AB,h];simp)
  have k2:=h;refine W3 ?_;refine bD rfl (MI 234 [] _ x.aX (fun y=> !zl y) gA fun y hy=>qA.Uj (h2 y hy)) ?_;refine W1 ?_;rw[R3];exact aK (by rw[AB,bK k1,k2];simp)
theorem Qc(x:au)(hsz:x.sz<=4194304):aD prog 167 [x.v] (.c (.d (.b (uP x)))):=fun S=>by
 refine zcx [.tmp 2] func167 ntmps167 ?_;refine W1 ?_;refine C2 (Ru x hsz) ?_;refine S0 (fun hb h=>?_) fun hb h=>?_
 ·refine C2 (Sj _ x (cg _) hsz gA) ?_;exact aK (by unfold uP;rw[bK gA];rfl)
 ·exact aK (by unfold uP;rw[aO gA];rfl)
theorem VG(k:Int):aD prog 258 [.c (.d (.i .i64 k))] (.eu [(false,[.d (.b (afe k))]),(false,[.d (.b (aff k))]),(false,[.d (.b (afg k))]),(false,[.d (.b (afh k))]),(false,[.d (.i .i64 (afi k))]),(false,[.d (.b (afj k))])]):=fun S=>by
 refine zcx [.tmp 2,.tmp 3,.tmp 4,.tmp 5,.tmp 6,.tmp 7] func258 ntmps258 ?_;refine W1 ?_
 repeat' (first
  |refine S0 (fun hb h=>?_) fun hb h=>?_
  |(unfold afe aff afg afh afi afj;grind))
theorem Sk(t:ak):aD prog 177 [t.v] (.c (.d (.b (dec (zS t))))):=fun S=>by
 refine zcx [.tmp 2] func177 ntmps177 ?_;refine W1 ?_
 repeat' (first
  |refine S0 (fun hb h=>?_) fun hb h=>?_
  |(refine aK ?_;unfold zS;grind [bK,aO,gD,jw]))
theorem afk(s:List UInt8):aD prog 259 [.c (.d (.s s))] (.c (.d (.b (dec (s∈ops))))):=fun S=>by
 refine zcx [.tmp 2] func259 ntmps259 ?_;refine W1 ?_;refine W3 ?_;exact C4 (tL ops s gE)
theorem Pg:∀n:Nat,∀x:au,SizeOf.sizeOf x<n->x.sz<=4194304->∀l:Int,0<=l->l<=1048576->aD prog 243 [x.v,.c (.d (.i .i64 l))] (.c (.d (.i .i64 (qM l x.cnt))))
 |0=>fun x h=>by omega
 |n+1=>by
  have ih:=Pg n;intro x hn hsz l hl hl2 S;have hb0:=au.bounds hsz;have kL:=au.jF x;have Fv:=au.xG x;have he:=au.rW x;refine zcx [.tmp 4] func243 ntmps243 ?_;refine W1 ?_
  refine aZ (ι:=Nat×Int) zmx rfl [1,2,5] (fun y=>[.c (.d (.i .i64 y.2)),.c (.ptr (0,0) 0),.c (.d (.i .i64 y.1))]) (fun y=>[.box (x.enc.map .d)]::S)
   (fun y=>y.1<=x.fArgs.length/\(-1<=y.2/\y.2<=1048576)/\qM y.2 (au.fq (x.fArgs.drop y.1))=qM (l-1) (au.fq x.fArgs)) (fun y=>x.fArgs.length-y.1) (0,l-1) rfl ?_ ⟨an _,gC,rfl⟩ ?_
  ·exact Z1
  rintro⟨i,c⟩ ⟨p1,p2,p3⟩;simp only at p1 p2 p3
  have out:(i=x.fArgs.length\/c<0)->c=qM (l-1) (au.fq x.fArgs):=fun h=>by
   rcases h with h|h
   ·rw[h,cy,au.fq,MK p2.1] at p3;exact p3
   ·rw[<-p3,Qa h];omega
  have second:(i=x.fArgs.length\/c<0)->qM c (bq.fq x.aX)=qM l x.cnt:=fun h=>by
   rw[out h,KJ,he];unfold qM;split<;>split<;>(try split)<;>omega
  refine W1 ?_;refine S0 (fun hb h=>?_) fun hb h=>?_
  ·have hi:i<x.fArgs.length:=gA
   refine S0 (fun hb h=>?_) fun hb h=>?_
   ·have hs:=bh (ac hi);have hr:=Us (l:=c) (c:=x.fArgs[i].cnt) gA;rw[au.nS hi,<-KJ] at p3;refine W3 ?_;refine C2 (ih x.fArgs[i] gA (au.arg_b hi hsz) c gA gA) ?_;exact dH (i+1,qM c x.fArgs[i].cnt) gC rfl rfl ⟨gC,gC,p3⟩
   ·have p4:=second (.inr gA);clear second out p3
    refine aZ (ι:=Nat×Int) zmx rfl [1,2,6] (fun y=>[.c (.d (.i .i64 y.2)),.c (.ptr (0,0) 0),.c (.d (.i .i64 y.1))]) (fun y=>[.box (x.enc.map .d)]::S)
     (fun y=>y.1<=x.aX.length/\(-1<=y.2/\y.2<=1048576)/\qM y.2 (bq.fq (x.aX.drop y.1))=qM l x.cnt) (fun y=>x.aX.length-y.1) (0,c) rfl ?_ ⟨an _,gC,p4⟩ ?_
    ·exact Z1
    clear p1 p2 p4;rintro⟨i,d⟩ ⟨p1,p2,p3⟩;simp only at p1 p2 p3;refine W1 ?_;refine S0 (fun hb h=>?_) fun hb h=>?_
    ·have hi:i<x.aX.length:=gA
     refine S0 (fun hb h=>?_) fun hb h=>?_
     ·have hs:=bh (ac hi);have hs':=bq.vN x.aX[i];have hr:=Us (l:=d) (c:=x.aX[i].fBody.cnt) gA;rw[bq.nS hi,<-KJ] at p3;refine W3 ?_;refine C2 (ih x.aX[i].fBody gA (bq.bounds (au.Xy hi hsz)).2.2.2 d gA gA) ?_;exact dH (i+1,qM d x.aX[i].fBody.cnt) gC rfl rfl ⟨gC,gC,p3⟩
     ·rw[Qa gA] at p3;exact int_eq gA
    ·have hi:i=x.aX.length:=gA
     rw[hi,cy,bq.fq,MK p2.1] at p3;exact int_eq gA
  ·have p4:=second (.inl gA);clear second out p3
   refine aZ (ι:=Nat×Int) zmx rfl [1,2,6] (fun y=>[.c (.d (.i .i64 y.2)),.c (.ptr (0,0) 0),.c (.d (.i .i64 y.1))]) (fun y=>[.box (x.enc.map .d)]::S)
    (fun y=>y.1<=x.aX.length/\(-1<=y.2/\y.2<=1048576)/\qM y.2 (bq.fq (x.aX.drop y.1))=qM l x.cnt) (fun y=>x.aX.length-y.1) (0,c) rfl ?_ ⟨an _,gC,p4⟩ ?_
   ·exact Z1
   clear p1 p2 p4;rintro⟨i,d⟩ ⟨p1,p2,p3⟩;simp only at p1 p2 p3;refine W1 ?_;refine S0 (fun hb h=>?_) fun hb h=>?_
   ·have hi:i<x.aX.length:=gA
    refine S0 (fun hb h=>?_) fun hb h=>?_
    ·have hs:=bh (ac hi);have hs':=bq.vN x.aX[i];have hr:=Us (l:=d) (c:=x.aX[i].fBody.cnt) gA;rw[bq.nS hi,<-KJ] at p3;refine W3 ?_;refine C2 (ih x.aX[i].fBody gA (bq.bounds (au.Xy hi hsz)).2.2.2 d gA gA) ?_;exact dH (i+1,qM d x.aX[i].fBody.cnt) gC rfl rfl ⟨gC,gC,p3⟩
    ·rw[Qa gA] at p3;exact int_eq gA
   ·have hi:i=x.aX.length:=gA
    rw[hi,cy,bq.fq,MK p2.1] at p3;exact int_eq gA
theorem abN:∀n:Nat,∀x:au,SizeOf.sizeOf x<n->x.sz<=4194304->aD prog 244 [x.v] (.c (.d (.b (jl x)))):=by
 intro n
 induction n with
 |zero=>intro x h;omega
 |succ n ih=>
  intro x hn hsz S;have hb0:=au.bounds hsz;have kL:=au.jF x;have Fv:=au.xG x;have he:=AB x;have hv0:=WX;have hop:x.fName∈ops->validName x.fName=false:=Zg;refine(show(xJ x-> ?T)->_ from fun tail=> ?main) ?tp
  case' main=>
   rcases Si x.aN with hk|hk|hk|hk|hk|hk|hk|hk|hk|hk|hk|hk|hk
   ·have h1:jl x=false:=by rw[he,aO (fun h=>by have:=h.1;omega)];rfl
    refine zcx [.tmp 2] func244 ntmps244 ?_;refine W1 ?_;refine C1 (VG _) ?_;refine C1 (JG _ _ _) ?_;refine S0 (fun hb h=>?_) fun hb h=>?_
    ·rw[h1]
    ·omega
   all_goals
    have hf0:¬xJ x->V.c (.d (.b false))=V.c (.d (.b (jl x))):=fun h=>aK (by rw[he,aO h];rfl);refine zcx [.tmp 2] func244 ntmps244 ?_;refine zA ?_;refine bn (VG _) ?_;simp -implicitDefEqProofs (disch:=omega) only[go_sem,hk,afe,aff,afg,afh,afi,afj,or_false,or_true,true_or,false_or];refine bn (JG _ _ _) ?_;refine zA ?_
    repeat' (first
     |refine S0k (fun hb h=>?_) fun hb h=>?_
     |((with_reducible show fH _ _ 69 _ _ _ _);refine bn (iV x.fName gA) ?_;refine zA ?_)
     |((with_reducible show fH _ _ 69 _ _ _ _);refine bn (iV x.bO gA) ?_;refine zA ?_)
     |((with_reducible show fH _ _ 259 _ _ _ _);refine bn (afk x.fName) ?_;refine zA ?_)
     |((with_reducible show fH _ _ 177 _ _ _ _);refine bn (Sk x.fType) ?_;refine zA ?_)
     |((with_reducible show fH _ _ 209 _ _ _ _);refine bn (Ac x.fType gA) ?_;refine zA ?_)
     |((with_reducible show fH _ _ 143 _ _ _ _);refine bn (JG x.fN _ _) ?_;refine zA ?_)
     |(refine hf0 fun hF=> ?_;simp only[xJ,hk,or_false,or_true,true_or,false_or,and_true,true_and,if_true,if_false,↓reduceIte,Int.reduceEq,Int.reduceLT,Int.reduceLE] at hF;grind [gD,jw,bK,aO]))
   all_goals
    have hF:xJ x:=by simp only[xJ,hk,or_false,or_true,true_or,false_or,and_true,true_and,if_true,if_false,↓reduceIte,Int.reduceEq,Int.reduceLT,Int.reduceLE];grind [gD,jw,bK,aO]
    refine oD (st':=[.box (x.enc.map .d)]::S) [1,9] [.c (.ptr (0,0) 0),.c (.d (.i .i64 0))] rfl (by exact Z1k) ?_;exact tail hF
  intro hF;rw[bK hF,cd] at he;clear hF hop hv0
  refine aZ (ι:=Nat) zmx rfl [1,9] (fun i=>[.c (.ptr (0,0) 0),.c (.d (.i .i64 i))]) (fun _=>[.box (x.enc.map .d)]::S)
   (fun i=>i<=x.fArgs.length/\ni (x.fArgs.drop i)=ni x.fArgs) (fun i=>x.fArgs.length-i) 0 rfl ?_ ⟨an _,rfl⟩ ?_
  ·exact Z1
  rintro i ⟨p1,p2⟩;refine W1 ?_;refine S0 (fun hb h=>?_) fun hb h=>?_
  ·have hi:i<x.fArgs.length:=gA
   have hs:=bh (ac hi);rw[Zf hi] at p2;refine W3 ?_;refine C2 (ih x.fArgs[i] gA (au.arg_b hi hsz)) ?_;refine S0 (fun hb h=>?_) fun hb h=>?_
   ·exact aK (by rw[he,<-p2,h];rfl)
   ·exact dH (i+1) gA rfl rfl ⟨gA,by rw[<-p2,h];rfl⟩
  rw[cA gA] at p2;have q:ni x.fArgs=true:=p2.symm;clear p2 p1
  refine aZ (ι:=Nat) zmx rfl [1,10] (fun i=>[.c (.ptr (0,0) 0),.c (.d (.i .i64 i))]) (fun _=>[.box (x.enc.map .d)]::S)
   (fun i=>i<=x.aX.length/\qL (x.aX.drop i)=qL x.aX) (fun i=>x.aX.length-i) 0 rfl ?_ ⟨an _,rfl⟩ ?_
  ·exact Z1
  rintro i ⟨p1,p2⟩;refine W1 ?_;refine S0 (fun hb h=>?_) fun hb h=>?_
  ·have hi:i<x.aX.length:=gA
   have hs:=bh (ac hi);have hs':=bq.vN x.aX[i];have hab:=bq.bounds (au.Xy hi hsz);rw[abH hi] at p2;have no:zl x.aX[i]=false->V.c (.d (.b false))=V.c (.d (.b (jl x))):=fun h=>aK (by rw[he,<-p2,h];simp);refine W3 ?_;refine C2 (iV x.aX[i].dV gA) ?_;refine S0 (fun hb h=>?_) fun hb h=>?_
   ·exact no (by rw[u6,h];rfl)
   have k1:=h;refine W3 ?_;refine C2 (RZ x.aX[i].aG gA hab.2.2.1) ?_;refine S0 (fun hb h=>?_) fun hb h=>?_
   ·exact no (by rw[u6];unfold je;rw[h];simp)
   have k2:=h;refine W3 ?_;refine C2 (ru x.aX[i].aG gA) ?_;refine S0 (fun hb h=>?_) fun hb h=>?_
   ·exact no (by rw[u6];unfold je;rw[aO h];simp)
   have k3:=h;refine W3 ?_;refine C2 (ih x.aX[i].fBody gA hab.2.2.2) ?_;refine S0 (fun hb h=>?_) fun hb h=>?_
   ·exact no (by rw[u6,h];simp)
   ·exact bR 1 gE (i+1) gA rfl rfl rfl rfl ⟨gA,by rw[<-p2,u6,k1,h];unfold je;rw[k2,bK k3];rfl⟩
  ·rw[cA gA] at p2;exact aK (by rw[he,q,<-p2];rfl)
theorem Qd(x:au)(hsz:x.sz<=4194304):aD prog 213 [x.v] (.c (.d (.b (uP x)))):=fun S=>by
 have hs:=alF (l:=300) (c:=x.cnt) gA;refine zcx [.tmp 2] func213 ntmps213 ?_;refine W1 ?_;refine C2 (Pg _ x (cg _) hsz 300 gA gA) ?_;rw[hs];refine S0 (fun hb h=>?_) fun hb h=>?_
 ·refine C2 (abN _ x (cg _) hsz) ?_;exact aK (by unfold uP;rw[bK gA];rfl)
 ·exact aK (by unfold uP;rw[aO gA];rfl)
end Go.Ab