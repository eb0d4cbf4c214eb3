/-
  SEVERAL TEXTS IN ONE (merged by program): contracts and models, each with its own heading.
-/
import Derived.Test.YtnmjbebcebbmfaaGreatPartHibN
set_option maxHeartbeats 8000000
open Go.Proofs Go.Proofs.Tryz
set_option linter.unusedSimpArgs false
set_option linter.unusedVariables false
set_option maxRecDepth 4000
namespace Go.Ab
def Mi(w:aS)(p:Nat):List (List UInt8):=match w.aF[p]? with
 |some q=>q.bX
 |none=>[]
theorem I7{w:aS}{p:Nat}(h:p<w.aF.length):Mi w p=w.aF[p].bX:=by
 unfold Mi;rw[ag h]
def Edge(w:aS)(p j:Nat):Prop:=j<p/\∃d∈Mi w p,eO w d=(j:Int)
inductive jo(w:aS):Nat->Nat->Prop
 |refl (p:Nat):jo w p p
 |step {p j k:Nat} (h:Edge w p j) (hk:jo w j k):jo w p k
theorem jo.le{w:aS}{p k:Nat}(h:jo w p k):k<=p:=by
 induction h with
 |refl p=>exact aw _
 |step h _ ih=>have:=h.1;omega
theorem jo.trans{w:aS}{p j k:Nat}(h:jo w p j)(h':jo w j k):jo w p k:=by
 induction h with
 |refl p=>exact h'
 |step e _ ih=>exact .step e (ih h')
theorem jo.snoc{w:aS}{p j k:Nat}(h:jo w p j)(e:Edge w j k):jo w p k:=h.trans (.step e (.refl k))
theorem jo.last{w:aS}{i k:Nat}(h:jo w i k):k=i\/∃p,jo w i p/\Edge w p k:=by
 induction h with
 |refl p=>exact .inl rfl
 | @step p j k e hk ih=>
   right;rcases ih with rfl|⟨q,h1,h2⟩
   ·exact⟨p,.refl p,e⟩
   ·exact⟨q,.step e h1,h2⟩
theorem jo.first{w:aS}{p k:Nat}(h:k<p):jo w p k<->∃j,Edge w p j/\jo w j k:=by
 constructor
 ·intro hv
  cases hv with
  |refl=>omega
  |step e hk=>exact⟨_,e,hk⟩
 ·rintro⟨j,e,hk⟩;exact .step e hk
noncomputable def oO(w:aS)(p n:Nat):List Int:=((List.range n).filter fun k=>dec (jo w p k)).map fun k:Nat=>(k:Int)
noncomputable def kV(w:aS)(p:Nat):List Int:=oO w p (p+1)
theorem uq{w:aS}{p n:Nat}(h:jo w p n):oO w p (n+1)=oO w p n++[(n:Int)]:=by
 unfold oO;rw[List.range_succ,List.filter_append,bc];simp[bg h]
theorem Cq{w:aS}{p n:Nat}(h:¬jo w p n):oO w p (n+1)=oO w p n:=by
 unfold oO;rw[List.range_succ,List.filter_append,bc];simp[aI h]
theorem zQ(w:aS)(p n:Nat):(oO w p n).length<=n:=by
 unfold oO;rw[al];exact cx (List.length_filter_le _ _) (by simp)
theorem Yc{w:aS}{p n:Nat}{k:Int}:k∈oO w p n<->∃m:Nat,m<n/\k=m/\jo w p m:=by
 unfold oO;rw[cp];constructor
 ·rintro⟨m,hm,e⟩;rw[List.mem_filter,cd,oD] at hm;exact⟨m,hm.1,e.symm,hm.2⟩
 ·rintro⟨m,h1,h2,h3⟩;exact⟨m,by rw[List.mem_filter,cd,oD];exact⟨h1,h3⟩,h2.symm⟩
theorem xG{w:aS}{p:Nat}{k:Int}:k∈kV w p<->∃m:Nat,k=m/\jo w p m:=by
 unfold kV;rw[Yc];constructor
 ·rintro⟨m,_,h2,h3⟩;exact⟨m,h2,h3⟩
 ·rintro⟨m,h2,h3⟩;exact⟨m,by have:=h3.le;omega,h2,h3⟩
theorem Mj{w:aS}{p k:Nat}:(k:Int)∈kV w p<->jo w p k:=by
 rw[xG];constructor
 ·rintro⟨m,h2,h3⟩
  have:k=m:=by omega
  rw[this];exact h3
 ·intro h;exact⟨k,rfl,h⟩
def xY(w:aS)(i k:Int):Prop:=0<=i/\i<w.aF.length/\k∈kV w i.toNat
def Met(w:aS)(i n m:Nat):Prop:=m=i\/∃p,n<=p/\jo w i p/\Edge w p m
theorem Yd{w:aS}{i m:Nat}(h:m<=i):Met w i (m+1) m<->jo w i m:=by
 constructor
 ·rintro(rfl|⟨p,_,h1,h2⟩)
  ·exact .refl _
  ·exact h1.snoc h2
 ·intro h;rcases h.last with h1|⟨p,h1,h2⟩
  ·exact .inl h1
  ·exact .inr ⟨p,by have:=h2.1;omega,h1,h2⟩
theorem aaj{w:aS}{i n m:Nat}(h:n<=m)(hm:m<=i):Met w i n m<->jo w i m:=by
 constructor
 ·rintro(rfl|⟨p,_,h1,h2⟩)
  ·exact .refl _
  ·exact h1.snoc h2
 ·intro h';rcases h'.last with h1|⟨p,h1,h2⟩
  ·exact .inl h1
  ·exact .inr ⟨p,by have:=h2.1;omega,h1,h2⟩
theorem Ye{w:aS}{i n m:Nat}(h:¬jo w i n):Met w i n m<->Met w i (n+1) m:=by
 constructor
 ·rintro(h1|⟨p,h0,h1,h2⟩)
  ·exact .inl h1
  ·by_cases e:p=n
   ·subst e;exact absurd h1 h
   ·exact .inr ⟨p,by omega,h1,h2⟩
 ·rintro(h1|⟨p,h0,h1,h2⟩)
  ·exact .inl h1
  ·exact .inr ⟨p,by omega,h1,h2⟩
theorem Yf{w:aS}{i n m:Nat}(h:jo w i n):Met w i n m<->Met w i (n+1) m\/Edge w n m:=by
 constructor
 ·rintro(h1|⟨p,h0,h1,h2⟩)
  ·exact .inl (.inl h1)
  ·by_cases e:p=n
   ·subst e;exact .inr h2
   ·exact .inl (.inr ⟨p,by omega,h1,h2⟩)
 ·rintro((h1|⟨p,h0,h1,h2⟩)|h1)
  ·exact .inl h1
  ·exact .inr ⟨p,by omega,h1,h2⟩
  ·exact .inr ⟨n,aw _,h,h1⟩
noncomputable def gD(P:Nat->Prop)(n:Nat):List (List D):=(List.range n).map fun m=>[D.b (dec (P m))]
theorem mU(P:Nat->Prop)(n:Nat):(gD P n).length=n:=by simp[gD]
theorem uL{P:Nat->Prop}{n i:Nat}(h:i<n):(gD P n)[i]? =some [D.b (dec (P i))]:=by
 simp[gD,h]
theorem NM{P Q:Nat->Prop}{n j:Nat}(h:∀m,m<n->(Q m<->P m\/m=j))(hj:j<n):(gD P n).set j [D.b true]=gD Q n:=by
 apply cy;intro m;rw[cM];by_cases hm:m<n
 ·by_cases e:j=m
  ·subst e;rw[if_pos rfl,if_pos (by rw[mU];exact hj),uL hj,bg ((h j hj).2 (.inr rfl))]
  ·rw[if_neg e,uL hm,uL hm];rw[dY ((h m hm).trans ⟨fun x=>x.elim id (fun y=>absurd y.symm e),.inl⟩)]
 ·have h1:(gD P n)[m]? =none:=bp (by rw[mU];omega);have h2:(gD Q n)[m]? =none:=bp (by rw[mU];omega);rw[h1,h2];split
  ·omega
  ·rfl
theorem ow{P Q:Nat->Prop}{n:Nat}(h:∀m,m<n->(P m<->Q m)):gD P n=gD Q n:=by
 unfold gD
 exact cG fun m hm=>by rw[dY (h m (cd.1 hm))]
theorem aS.U0{w:aS}{i:Nat}(hi:i<w.aF.length)(h:w.sz<=4194304):w.aF[i].sz<=4194304:=by
 have hx:w.aF[i].sz<=aH (w.aF.map aA.enc):=dK (bd (ac hi));simp only[aS.sz,aS.aB,aY,bG,D.sz,al] at h;omega
theorem aA.Mk{p:aA}(h:p.sz<=4194304):p.bX.length<=4194304:=by
 simp only[aA.sz,aA.aB,aY,bG,D.sz,al] at h;omega
theorem RD(xs:List Int)(n:Int):xs.map encI++[[D.i .i64 n]]=(xs++[n]).map encI:=by simp[encI]
theorem Ml{P Q:Nat->Prop}{n j:Nat}(h:∀m,m<n->(Q m<->P m\/m=j))(hj:j<n):(gD P n).set j (ng ((gD P n).getD j []) 0 [D.b true])=gD Q n:=by
 have:(gD P n).getD j []=[D.b (dec (P j))]:=by simp[gD,List.getD,hj]
 rw[this];exact NM h hj
theorem RF(n:Nat):List.replicate n [D.b false]=gD (fun _=>False) n:=by
 apply cy;intro m;by_cases h:m<n
 ·rw[uL h,List.getElem?_replicate,if_pos h,Im]
 ·rw[List.getElem?_replicate,if_neg h,bp (by rw[mU];omega)]
theorem NN(xs:List Int)(x:Int)(hl:xs.length<=1073741824):aT prog 18 [.c (.d (.sl (xs.map encI))),.c (.d (.i .i64 x))] (.c (.d (.b (dec (x∈xs))))):=fun S=>by
 refine zcx [.tmp 4] func18 ntmps18 ?_;simp -implicitDefEqProofs (disch:=omega) only[go_sem]
 refine bn (ι:=Nat) zmx rfl [0,1,5] (fun i=>[.c (.d (.sl (xs.map encI))),.c (.d (.i .i64 x)),.c (.d (.i .i64 i))]) (fun _=>[]::S)
  (fun i=>i<=xs.length/\∀j,j<i->∀h:j<xs.length,xs[j]≠x) (fun i=>xs.length-i) 0 rfl rfl ⟨ao _,fun j h=>by omega⟩ ?_
 rintro i ⟨p1,p2⟩;simp -implicitDefEqProofs (disch:=omega) only[go_sem]
 with_reducible refine aj (fun hb=> ?_) (fun hb=> ?_)<;>have h:=hb<;>(try simp only[wf_preprocess] at h)<;>simp -implicitDefEqProofs (disch:=omega) only[go_sem,hb]<;>(repeat(with_reducible refine And.intro ?_ ?_;focus first|omega|rfl|assumption|exact⟨_,rfl,rfl⟩|(simp;omega)|(simp;done)))
 ·have hi:i<xs.length:=by omega
  with_reducible refine aj (fun hb=> ?_) (fun hb=> ?_)<;>have h:=hb<;>(try simp only[wf_preprocess] at h)<;>simp -implicitDefEqProofs (disch:=omega) only[go_sem,hb]<;>(repeat(with_reducible refine And.intro ?_ ?_;focus first|omega|rfl|assumption|exact⟨_,rfl,rfl⟩|(simp;omega)|(simp;done)))
  ·exact ay (bg (by rw[<-h];exact ac hi)).symm
  ·refine bU (i+1) (by omega) rfl rfl ⟨by omega,fun j hj hl=> ?_⟩;by_cases e:j=i
   ·subst e;exact h
   ·exact p2 j (by omega) hl
 ·refine ay (aI fun hm=> ?_).symm;obtain⟨j,h1,h2⟩:=bm hm;exact p2 j (by omega) h1 h2
theorem U1(xs:List Int)(x:Int)(hl:xs.length<=1073741824):aT prog 47 [.c (.d (.sl (xs.map encI))),.c (.d (.i .i64 x))] (.c (.d (.i .i64 (jM (fun y=>decide (y=x)) xs)))):=fun S=>by
 refine zcx [.tmp 4] func47 ntmps47 ?_;simp -implicitDefEqProofs (disch:=omega) only[go_sem]
 refine bn (ι:=Nat) zmx rfl [0,1,7,8] (fun i=>[.c (.d (.sl (xs.map encI))),.c (.d (.i .i64 x)),.c (.d (.i .i64 xs.length)),.c (.d (.i .i64 i))]) (fun _=>[]::S)
  (fun i=>i<=xs.length/\∀j,∀hj:j<xs.length,j<i->(fun y=>decide (y=x)) xs[j]=false) (fun i=>xs.length-i) 0 rfl rfl ⟨ao _,fun j _ h=>by omega⟩ ?_
 rintro i ⟨p1,p2⟩;simp -implicitDefEqProofs (disch:=omega) only[go_sem]
 with_reducible refine aj (fun hb=> ?_) (fun hb=> ?_)<;>have h:=hb<;>(try simp only[wf_preprocess] at h)<;>simp -implicitDefEqProofs (disch:=omega) only[go_sem,hb]<;>(repeat(with_reducible refine And.intro ?_ ?_;focus first|omega|rfl|assumption|exact⟨_,rfl,rfl⟩|(simp;omega)|(simp;done)))
 ·have hi:i<xs.length:=by omega
  with_reducible refine aj (fun hb=> ?_) (fun hb=> ?_)<;>have h:=hb<;>(try simp only[wf_preprocess] at h)<;>simp -implicitDefEqProofs (disch:=omega) only[go_sem,hb]<;>(repeat(with_reducible refine And.intro ?_ ?_;focus first|omega|rfl|assumption|exact⟨_,rfl,rfl⟩|(simp;omega)|(simp;done)))
  ·rw[jr (p:=fun y=>decide (y=x)) hi p2 (by first|simpa using h|simpa using h.symm)]
  ·refine bU (i+1) (by omega) rfl rfl ⟨by omega,fun j hj hji=> ?_⟩;by_cases e:j=i
   ·subst e;simp only[decide_eq_false_iff_not];exact fun y=>h y.symm
   ·exact p2 j hj (by omega)
 ·rw[kZ (p:=fun y=>decide (y=x)) (fun j hj=>p2 j hj (by omega))]
theorem Mq(xs:List Int)(x:Int)(hl:xs.length<=1073741824):aT prog 23 [.c (.d (.sl (xs.map encI))),.c (.d (.i .i64 x))] (.c (.d (.b (dec (x∈xs))))):=fun S=>by
 refine zcx [.tmp 4] func23 ntmps23 ?_;simp -implicitDefEqProofs (disch:=omega) only[go_sem];refine au (U1 xs x hl) ?_;simp -implicitDefEqProofs (disch:=omega) only[go_sem]<;>(repeat(with_reducible refine And.intro ?_ ?_;focus first|omega|rfl|assumption|exact⟨_,rfl,rfl⟩|(simp;omega)|(simp;done)));refine ay (nN.trans ?_);by_cases h:x∈xs
 ·rw[bg h];exact List.any_eq_true.2 ⟨x,h,by simp⟩
 ·rw[aI h];exact cY.2 fun hx=>by
   obtain⟨y,hy,e⟩:=List.any_eq_true.1 hx;simp at e;exact h (e▸hy)
theorem RG(w:aS)(i:Nat)(hsz:w.sz<=4194304)(hi:i<w.aF.length):aT prog 8 [w.v,.c (.d (.i .i64 i))] (.c (.d (.sl ((kV w i).map encI)))):=fun S=>by
 have hb0:=aS.bounds hsz;have hl:∀p,(kV w p).length<=p+1:=fun p=>zQ w p (p+1)
 have rg:∀n j:Nat,j<n->((List.range n).map fun q=>[D.sl ((kV w q).map encI)]).getD j []=[D.sl ((kV w j).map encI)]:=fun n j h=>by simp[List.getD,h]
 refine zcx [.tmp 4] func8 ntmps8 ?_;simp -implicitDefEqProofs (disch:=omega) only[go_sem];refine au (ug i 0 (w.aF.length-1)) ?_;simp -implicitDefEqProofs (disch:=omega) only[go_sem]<;>(repeat(with_reducible refine And.intro ?_ ?_;focus first|omega|rfl|assumption|exact⟨_,rfl,rfl⟩|(simp;omega)|(simp;done)))
 with_reducible refine aj (fun hb=> ?_) (fun hb=> ?_)<;>have h:=hb<;>(try simp only[wf_preprocess] at h)<;>simp -implicitDefEqProofs (disch:=omega) only[go_sem,hb]<;>(repeat(with_reducible refine And.intro ?_ ?_;focus first|omega|rfl|assumption|exact⟨_,rfl,rfl⟩|(simp;omega)|(simp;done)))
 ·omega
 (repeat(with_reducible refine And.intro ?_ ?_;focus first|omega|rfl|assumption|exact⟨_,rfl,rfl⟩|(simp;omega)|(simp;done)))
 refine jL 5 1 [] rfl (by simp) ?_
 refine bn (ι:=Nat) zmx rfl [1,2,5,6] (fun p=>[.c (.d (.i .i64 i)),.c (.ptr (0,0) 0),.c (.bM (0,1) ((List.range p).map fun q=>[.sl ((kV w q).map encI)])),.c (.d (.i .i64 p))]) (fun p=>[.box (w.enc.map .d),.tok 1 ((List.range p).map fun q=>[.sl ((kV w q).map encI)])]::S)
  (fun p=>p<=i+1) (fun p=>i+1-p) 0 rfl ?_ (ao _) ?_
 ·simp -implicitDefEqProofs (disch:=omega) only[go_sem];rfl
 intro p hp;simp -implicitDefEqProofs (disch:=omega) only[go_sem]
 with_reducible refine aj (fun hb=> ?_) (fun hb=> ?_)<;>have h:=hb<;>(try simp only[wf_preprocess] at h)<;>simp -implicitDefEqProofs (disch:=omega) only[go_sem,hb]<;>(repeat(with_reducible refine And.intro ?_ ?_;focus first|omega|rfl|assumption|exact⟨_,rfl,rfl⟩|(simp;omega)|(simp;done)))
 ·have hpi:p<=i:=by omega
  (repeat(with_reducible refine And.intro ?_ ?_;focus first|omega|rfl|assumption|exact⟨_,rfl,rfl⟩|(simp;omega)|(simp;done)))
  refine jL 7 1 [] rfl (by simp) ?_
  refine bn (ι:=Nat) zmx rfl [1,2,5,6,7,8] (fun k=>[.c (.d (.i .i64 i)),.c (.ptr (0,0) 0),.c (.bM (0,1) ((List.range p).map fun q=>[.sl ((kV w q).map encI)])),.c (.d (.i .i64 p)),.c (.bM (0,2) ((oO w p k).map encI)),.c (.d (.i .i64 k))])
   (fun k=>[.box (w.enc.map .d),.tok 1 ((List.range p).map fun q=>[.sl ((kV w q).map encI)]),.tok 1 ((oO w p k).map encI)]::S)
   (fun k=>k<=p) (fun k=>p-k) 0 rfl ?_ (ao _) ?_
  ·simp -implicitDefEqProofs (disch:=omega) only[go_sem];rfl
  intro k hk;have hkl:=zQ w p k;simp -implicitDefEqProofs (disch:=omega) only[go_sem]
  with_reducible refine aj (fun hb=> ?_) (fun hb=> ?_)<;>have h:=hb<;>(try simp only[wf_preprocess] at h)<;>simp -implicitDefEqProofs (disch:=omega) only[go_sem,hb]<;>(repeat(with_reducible refine And.intro ?_ ?_;focus first|omega|rfl|assumption|exact⟨_,rfl,rfl⟩|(simp;omega)|(simp;done)))
  ·have hkp:k<p:=by omega
   have hf:=jo.first (w:=w) hkp
   have hpl:p<w.aF.length:=by omega
   have hdl:=aA.Mk (aS.U0 hpl hsz);have hdo:=I7 hpl
   refine bn (ι:=Nat) zmx rfl [1,2,5,6,7,8,9] (fun d=>[.c (.d (.i .i64 i)),.c (.ptr (0,0) 0),.c (.bM (0,1) ((List.range p).map fun q=>[.sl ((kV w q).map encI)])),.c (.d (.i .i64 p)),.c (.bM (0,2) ((oO w p k).map encI)),.c (.d (.i .i64 k)),.c (.d (.i .i64 d))])
    (fun _=>[.box (w.enc.map .d),.tok 1 ((List.range p).map fun q=>[.sl ((kV w q).map encI)]),.tok 1 ((oO w p k).map encI)]::S)
    (fun d=>d<=w.aF[p].bX.length/\∀e,∀he:e<w.aF[p].bX.length,e<d->∀j:Nat,j<p->eO w w.aF[p].bX[e]=(j:Int)->¬jo w j k) (fun d=>w.aF[p].bX.length-d) 0 rfl ?_ ⟨ao _,fun e he h=>by omega⟩ ?_
   ·simp -implicitDefEqProofs (disch:=omega) only[go_sem]
   rintro d ⟨q1,q2⟩;simp -implicitDefEqProofs (disch:=omega) only[go_sem]
   (repeat(with_reducible refine And.intro ?_ ?_;focus first|omega|rfl|assumption|exact⟨_,rfl,rfl⟩|(simp;omega)|(simp;done)))
   with_reducible refine aj (fun hb=> ?_) (fun hb=> ?_)<;>have h:=hb<;>(try simp only[wf_preprocess] at h)<;>simp -implicitDefEqProofs (disch:=omega) only[go_sem,hb]<;>(repeat(with_reducible refine And.intro ?_ ?_;focus first|omega|rfl|assumption|exact⟨_,rfl,rfl⟩|(simp;omega)|(simp;done)))
   ·have hd:d<w.aF[p].bX.length:=by omega
    (repeat(with_reducible refine And.intro ?_ ?_;focus first|omega|rfl|assumption|exact⟨_,rfl,rfl⟩|(simp;omega)|(simp;done)))
    refine au (sW w w.aF[p].bX[d] hsz) ?_;simp -implicitDefEqProofs (disch:=omega) only[go_sem]<;>(repeat(with_reducible refine And.intro ?_ ?_;focus first|omega|rfl|assumption|exact⟨_,rfl,rfl⟩|(simp;omega)|(simp;done)))
    have miss:(∀j:Nat,j<p->eO w w.aF[p].bX[d]=(j:Int)->¬jo w j k)->∀e,∀he:e<w.aF[p].bX.length,e<d+1->∀j:Nat,j<p->eO w w.aF[p].bX[e]=(j:Int)->¬jo w j k:=fun h e he hed=>by
     by_cases e':e=d
     ·subst e';exact h
     ·exact q2 e he (by omega)
    with_reducible refine aj (fun hb=> ?_) (fun hb=> ?_)<;>have h:=hb<;>(try simp only[wf_preprocess] at h)<;>simp -implicitDefEqProofs (disch:=omega) only[go_sem,hb]<;>(repeat(with_reducible refine And.intro ?_ ?_;focus first|omega|rfl|assumption|exact⟨_,rfl,rfl⟩|(simp;omega)|(simp;done)))
    ·have h0:=h
     with_reducible refine aj (fun hb=> ?_) (fun hb=> ?_)<;>have h:=hb<;>(try simp only[wf_preprocess] at h)<;>simp -implicitDefEqProofs (disch:=omega) only[go_sem,hb]<;>(repeat(with_reducible refine And.intro ?_ ?_;focus first|omega|rfl|assumption|exact⟨_,rfl,rfl⟩|(simp;omega)|(simp;done)))
     ·obtain⟨j,hj⟩:∃j:Nat,eO w w.aF[p].bX[d]=(j:Int):=⟨_,(Int.toNat_of_nonneg h0).symm⟩
      have hjp:j<p:=by omega
      have hlj:=hl j;have hr:=rg p j hjp;rw[hj];simp -implicitDefEqProofs (disch:=omega) only[go_sem,List.length_range,hr]
      (repeat(with_reducible refine And.intro ?_ ?_;focus first|omega|rfl|assumption|exact⟨_,rfl,rfl⟩|(simp;omega)|(simp;done)))
      refine au (NN (kV w j) k (by omega)) ?_;simp -implicitDefEqProofs (disch:=omega) only[go_sem]<;>(repeat(with_reducible refine And.intro ?_ ?_;focus first|omega|rfl|assumption|exact⟨_,rfl,rfl⟩|(simp;omega)|(simp;done)));rw[dY Mj]
      with_reducible refine aj (fun hb=> ?_) (fun hb=> ?_)<;>have h:=hb<;>(try simp only[wf_preprocess] at h)<;>simp -implicitDefEqProofs (disch:=omega) only[go_sem,hb]<;>(repeat(with_reducible refine And.intro ?_ ?_;focus first|omega|rfl|assumption|exact⟨_,rfl,rfl⟩|(simp;omega)|(simp;done)))
      ·have hv:jo w p k:=hf.2 ⟨j,⟨hjp,_,by rw[hdo];exact ac hd,hj⟩,h⟩
       (repeat(with_reducible refine And.intro ?_ ?_;focus first|omega|rfl|assumption|exact⟨_,rfl,rfl⟩|(simp;omega)|(simp;done)))
       rw[RD];exact bU (k+1) (by omega) (by rw[uq hv];rfl) (by rw[uq hv]) (by omega)
      ·have Ar:=h
       (repeat(with_reducible refine And.intro ?_ ?_;focus first|omega|rfl|assumption|exact⟨_,rfl,rfl⟩|(simp;omega)|(simp;done)))
       exact bU (d+1) (by omega) rfl rfl ⟨by omega,miss fun j' h1 h2=>by
        have:j'=j:=by omega
        rw[this];exact Ar⟩
     ·exact bU (d+1) (by omega) rfl rfl ⟨by omega,miss fun j' h1 h2=>by omega⟩
    ·exact bU (d+1) (by omega) rfl rfl ⟨by omega,miss fun j' h1 h2=>by omega⟩
   ·have hd:d=w.aF[p].bX.length:=by omega
    have hv:¬jo w p k:=fun hv=>by
     obtain⟨j,⟨h1,x,h2,h3⟩,h4⟩:=hf.1 hv;rw[hdo] at h2;obtain⟨e,he,ee⟩:=bm h2;exact q2 e he (by omega) j h1 (by rw[ee];exact h3) h4
    exact bU (k+1) (by omega) (by rw[Cq hv];rfl) (by rw[Cq hv]) (by omega)
  ·have hkp:k=p:=by omega
   subst hkp;have e1:=uq (jo.refl (w:=w) k)
   have e2:(List.range (k+1)).map (fun q=>[D.sl ((kV w q).map encI)])=(List.range k).map (fun q=>[D.sl ((kV w q).map encI)])++[[D.sl ((kV w k).map encI)]]:=by rw[List.range_succ,bc];rfl
   first|refine⟨by simp only[List.length_range];omega,?_⟩|skip
   (repeat(with_reducible refine And.intro ?_ ?_;focus first|omega|rfl|assumption|exact⟨_,rfl,rfl⟩|(simp;omega)|(simp;done)))
   rw[RD,<-e1];exact dL 2 (by decide) (k+1) (by omega) (by rw[e2];rfl) (by rw[e2];rfl) rfl rfl (by omega)
 ·have hp:p=i+1:=by omega
  subst hp;have hr:=rg (i+1) i (by omega)
  have hrl:((List.range (i+1)).map fun q=>[D.sl ((kV w q).map encI)]).length=i+1:=by simp
  generalize ((List.range (i+1)).map fun q=>[D.sl ((kV w q).map encI)])=R at hr hrl ⊢;simp -implicitDefEqProofs (disch:=omega) only[go_sem,hr,hrl]
  first|exact⟨by omega,by simp⟩|trace_state
theorem RH(w:aS)(i:Nat)(hsz:w.sz<=4194304)(hi:i<w.aF.length):aT prog 6 [w.v,.c (.d (.i .i64 i))] (.c (.d (.sl ((kV w i).map encI)))):=fun S=>by
 have hb0:=aS.bounds hsz
 have hge:∀P:Nat->Prop,∀j,j<i+1->(gD P (i+1)).getD j []=[D.b (dec (P j))]:=fun P j h=>by simp[gD,List.getD,h]
 refine zcx [.tmp 4] func6 ntmps6 ?_;simp -implicitDefEqProofs (disch:=omega) only[go_sem]
 with_reducible refine aj (fun hb=> ?_) (fun hb=> ?_)<;>have h:=hb<;>(try simp only[wf_preprocess] at h)<;>simp -implicitDefEqProofs (disch:=omega) only[go_sem,hb]<;>(repeat(with_reducible refine And.intro ?_ ?_;focus first|omega|rfl|assumption|exact⟨_,rfl,rfl⟩|(simp;omega)|(simp;done)))
 ·omega
 with_reducible refine aj (fun hb=> ?_) (fun hb=> ?_)<;>have h:=hb<;>(try simp only[wf_preprocess] at h)<;>simp -implicitDefEqProofs (disch:=omega) only[go_sem,hb]<;>(repeat(with_reducible refine And.intro ?_ ?_;focus first|omega|rfl|assumption|exact⟨_,rfl,rfl⟩|(simp;omega)|(simp;done)))
 ·omega
 (repeat(with_reducible refine And.intro ?_ ?_;focus first|omega|rfl|assumption|exact⟨_,rfl,rfl⟩|(simp;omega)|(simp;done)))
 rw[show((i:Int)+1).toNat=i+1 by omega,RF,Ml (Q:=Met w i (i+1)) (fun m hm=>⟨fun h=>.inr (h.elim id fun⟨p,h1,h2,_⟩=>by have:=h2.le;omega),fun h=>h.elim False.elim .inl⟩) (by omega)]
 refine bn (ι:=Nat) zmx rfl [2,5,6] (fun n=>[.c (.ptr (0,0) 0),.c (.eP (0,1)),.c (.d (.i .i64 ((n:Int)-1)))]) (fun n=>[.box (w.enc.map .d),.cZ 1 (gD (Met w i n) (i+1))]::S)
  (fun n=>n<=i+1) (fun n=>n) (i+1) ?_ ?_ (aw _) ?_
 ·simp only[af,ap];simp -implicitDefEqProofs (disch:=omega) only[go_sem]
  simp
 ·simp -implicitDefEqProofs (disch:=omega) only[go_sem]
 intro n hn;simp -implicitDefEqProofs (disch:=omega) only[go_sem]
 with_reducible refine aj (fun hb=> ?_) (fun hb=> ?_)<;>have h:=hb<;>(try simp only[wf_preprocess] at h)<;>simp -implicitDefEqProofs (disch:=omega) only[go_sem,hb]<;>(repeat(with_reducible refine And.intro ?_ ?_;focus first|omega|rfl|assumption|exact⟨_,rfl,rfl⟩|(simp;omega)|(simp;done)))
 ·obtain⟨k,rfl⟩:∃k,n=k+1:=⟨n-1,by omega⟩
  have ek:((k+1:Nat):Int)-1=(k:Int):=by omega
  have hk:=hge (Met w i (k+1)) k (by omega)
  have hkl:k<w.aF.length:=by omega
  rw[ek];simp -implicitDefEqProofs (disch:=omega) only[go_sem,hk,mU]
  (repeat(with_reducible refine And.intro ?_ ?_;focus first|omega|rfl|assumption|exact⟨_,rfl,rfl⟩|(simp;omega)|(simp;done)))
  rw[dY (Yd (w:=w) (i:=i) (m:=k) (by omega))]
  with_reducible refine aj (fun hb=> ?_) (fun hb=> ?_)<;>have h:=hb<;>(try simp only[wf_preprocess] at h)<;>simp -implicitDefEqProofs (disch:=omega) only[go_sem,hb]<;>(repeat(with_reducible refine And.intro ?_ ?_;focus first|omega|rfl|assumption|exact⟨_,rfl,rfl⟩|(simp;omega)|(simp;done)))
  ·have hv:=h;have e:=ow (n:=i+1) (P:=Met w i (k+1)) (Q:=Met w i k) fun m _=>(Ye hv).symm
   (repeat(with_reducible refine And.intro ?_ ?_;focus first|omega|rfl|assumption|exact⟨_,rfl,rfl⟩|(simp;omega)|(simp;done)))
   exact bU k (by omega) rfl (by rw[<-e]) (by omega)
  ·have hv:=h;have hdl:=aA.Mk (aS.U0 hkl hsz);have hdo:=I7 hkl
   (repeat(with_reducible refine And.intro ?_ ?_;focus first|omega|rfl|assumption|exact⟨_,rfl,rfl⟩|(simp;omega)|(simp;done)))
   refine bn (ι:=Nat) zmx rfl [2,5,6,43,44,45] (fun d=>[.c (.ptr (0,0) 0),.c (.eP (0,1)),.c (.d (.i .i64 k)),.c (.d (.sl (w.aF[k].bX.map encS))),.c (.d (.i .i64 w.aF[k].bX.length)),.c (.d (.i .i64 d))])
    (fun d=>[.box (w.enc.map .d),.cZ 1 (gD (fun m=>Met w i (k+1) m\/∃e,∃he:e<w.aF[k].bX.length,e<d/\eO w w.aF[k].bX[e]=(m:Int)/\m<k) (i+1))]::S)
    (fun d=>d<=w.aF[k].bX.length) (fun d=>w.aF[k].bX.length-d) 0 rfl ?_ (ao _) ?_
   ·simp -implicitDefEqProofs (disch:=omega) only[go_sem];rw[ow (P:=Met w i (k+1)) (Q:=fun m=>Met w i (k+1) m\/∃e,∃he:e<w.aF[k].bX.length,e<0/\eO w w.aF[k].bX[e]=(m:Int)/\m<k) fun m _=>⟨.inl,fun h=>h.elim id fun⟨e,_,h,_⟩=>by omega⟩]
   intro d hd;simp -implicitDefEqProofs (disch:=omega) only[go_sem]
   with_reducible refine aj (fun hb=> ?_) (fun hb=> ?_)<;>have h:=hb<;>(try simp only[wf_preprocess] at h)<;>simp -implicitDefEqProofs (disch:=omega) only[go_sem,hb]<;>(repeat(with_reducible refine And.intro ?_ ?_;focus first|omega|rfl|assumption|exact⟨_,rfl,rfl⟩|(simp;omega)|(simp;done)))
   ·have hdd:d<w.aF[k].bX.length:=by omega
    have stay:(∀m:Nat,eO w w.aF[k].bX[d]=(m:Int)->¬m<k)->gD (fun m=>Met w i (k+1) m\/∃e,∃he:e<w.aF[k].bX.length,e<d/\eO w w.aF[k].bX[e]=(m:Int)/\m<k) (i+1)=gD (fun m=>Met w i (k+1) m\/∃e,∃he:e<w.aF[k].bX.length,e<d+1/\eO w w.aF[k].bX[e]=(m:Int)/\m<k) (i+1):=fun hno=>
     ow fun m _=>⟨fun h=>h.imp id fun⟨e,h1,h2,h3⟩=>⟨e,h1,by omega,h3⟩,fun h=>h.imp id fun⟨e,h1,h2,h3,h4⟩=>by
      by_cases e':e=d
      ·subst e';exact absurd h4 (hno m h3)
      ·exact⟨e,h1,by omega,h3,h4⟩⟩
    (repeat(with_reducible refine And.intro ?_ ?_;focus first|omega|rfl|assumption|exact⟨_,rfl,rfl⟩|(simp;omega)|(simp;done)))
    refine au (Gc w w.aF[k].bX[d] hsz) ?_;simp -implicitDefEqProofs (disch:=omega) only[go_sem]<;>(repeat(with_reducible refine And.intro ?_ ?_;focus first|omega|rfl|assumption|exact⟨_,rfl,rfl⟩|(simp;omega)|(simp;done)))
    with_reducible refine aj (fun hb=> ?_) (fun hb=> ?_)<;>have h:=hb<;>(try simp only[wf_preprocess] at h)<;>simp -implicitDefEqProofs (disch:=omega) only[go_sem,hb]<;>(repeat(with_reducible refine And.intro ?_ ?_;focus first|omega|rfl|assumption|exact⟨_,rfl,rfl⟩|(simp;omega)|(simp;done)))
    ·have h0:=h
     with_reducible refine aj (fun hb=> ?_) (fun hb=> ?_)<;>have h:=hb<;>(try simp only[wf_preprocess] at h)<;>simp -implicitDefEqProofs (disch:=omega) only[go_sem,hb]<;>(repeat(with_reducible refine And.intro ?_ ?_;focus first|omega|rfl|assumption|exact⟨_,rfl,rfl⟩|(simp;omega)|(simp;done)))
     ·obtain⟨j,hj⟩:∃j:Nat,eO w w.aF[k].bX[d]=(j:Int):=⟨_,(Int.toNat_of_nonneg h0).symm⟩
      have hjk:j<k:=by omega
      rw[hj];simp -implicitDefEqProofs (disch:=omega) only[go_sem,mU]
      (repeat(with_reducible refine And.intro ?_ ?_;focus first|omega|rfl|assumption|exact⟨_,rfl,rfl⟩|(simp;omega)|(simp;done)))
      rw[Ml (Q:=fun m=>Met w i (k+1) m\/∃e,∃he:e<w.aF[k].bX.length,e<d+1/\eO w w.aF[k].bX[e]=(m:Int)/\m<k) (fun m _=>⟨fun h=>by
         rcases h with h|⟨e,h1,h2,h3,h4⟩
         ·exact .inl (.inl h)
         ·by_cases e':e=d
          ·subst e';right;omega
          ·exact .inl (.inr ⟨e,h1,by omega,h3,h4⟩),fun h=>by
         rcases h with(h|⟨e,h1,h2,h3⟩)|h
         ·exact .inl h
         ·exact .inr ⟨e,h1,by omega,h3⟩
         ·exact .inr ⟨d,hdd,by omega,by rw[h];exact hj,by omega⟩⟩) (by omega)]
      exact bU (d+1) (by omega) rfl rfl (by omega)
     ·exact bU (d+1) (by omega) rfl (by rw[<-stay fun m h1 h2=>by omega]) (by omega)
    ·exact bU (d+1) (by omega) rfl (by rw[<-stay fun m h1 h2=>by omega]) (by omega)
   ·have hd':d=w.aF[k].bX.length:=by omega
    have e:=ow (n:=i+1) (P:=fun m=>Met w i (k+1) m\/∃e,∃he:e<w.aF[k].bX.length,e<d/\eO w w.aF[k].bX[e]=(m:Int)/\m<k) (Q:=Met w i k) fun m _=>by
     rw[Yf hv];constructor
     ·rintro(h|⟨e,h1,h2,h3,h4⟩)
      ·exact .inl h
      ·exact .inr ⟨h4,_,by rw[hdo];exact ac h1,h3⟩
     ·rintro(h|⟨h4,x,h1,h3⟩)
      ·exact .inl h
      ·rw[hdo] at h1;obtain⟨e,he,ee⟩:=bm h1;exact .inr ⟨e,he,by omega,by rw[ee];exact h3,h4⟩
    exact bU k (by omega) rfl (by rw[<-e]) (by omega)
 have hn0:n=0:=by omega
 subst hn0;rw[ow (P:=Met w i 0) (Q:=jo w i) fun m hm=>aaj (by omega) (by omega)];have hgv:=hge (jo w i);have hbl:=mU (jo w i) (i+1);generalize hR:gD (jo w i) (i+1)=R at hgv hbl ⊢;simp -implicitDefEqProofs (disch:=omega) only[go_sem,hbl]
 (repeat(with_reducible refine And.intro ?_ ?_;focus first|omega|rfl|assumption|exact⟨_,rfl,rfl⟩|(simp;omega)|(simp;done)))
 refine jL 10 1 [] rfl (by simp) ?_
 refine bn (ι:=Nat) zmx rfl [10,64,65,66] (fun m=>[.c (.bM (0,2) ((oO w i m).map encI)),.c (.eP (0,1)),.c (.d (.i .i64 ((i+1:Nat):Int))),.c (.d (.i .i64 m))]) (fun m=>[.box (w.enc.map .d),.cZ 1 R,.tok 1 ((oO w i m).map encI)]::S)
  (fun m=>m<=i+1) (fun m=>i+1-m) 0 ?_ ?_ (ao _) ?_
 ·rfl
 ·simp -implicitDefEqProofs (disch:=omega) only[go_sem];rfl
 intro m hm;have hml:=zQ w i m;simp -implicitDefEqProofs (disch:=omega) only[go_sem]
 with_reducible refine aj (fun hb=> ?_) (fun hb=> ?_)<;>have h:=hb<;>(try simp only[wf_preprocess] at h)<;>simp -implicitDefEqProofs (disch:=omega) only[go_sem,hb]<;>(repeat(with_reducible refine And.intro ?_ ?_;focus first|omega|rfl|assumption|exact⟨_,rfl,rfl⟩|(simp;omega)|(simp;done)))
 ·have hmi:m<i+1:=by omega
  have hg:=hgv m hmi;simp -implicitDefEqProofs (disch:=omega) only[go_sem,hg,hbl]
  (repeat(with_reducible refine And.intro ?_ ?_;focus first|omega|rfl|assumption|exact⟨_,rfl,rfl⟩|(simp;omega)|(simp;done)))
  with_reducible refine aj (fun hb=> ?_) (fun hb=> ?_)<;>have h:=hb<;>(try simp only[wf_preprocess] at h)<;>simp -implicitDefEqProofs (disch:=omega) only[go_sem,hb]<;>(repeat(with_reducible refine And.intro ?_ ?_;focus first|omega|rfl|assumption|exact⟨_,rfl,rfl⟩|(simp;omega)|(simp;done)))
  ·have hv:=h
   (repeat(with_reducible refine And.intro ?_ ?_;focus first|omega|rfl|assumption|exact⟨_,rfl,rfl⟩|(simp;omega)|(simp;done)))
   rw[RD];exact bU (m+1) (by omega) (by rw[uq hv];rfl) (by rw[uq hv]) (by omega)
  ·have hv:=h;exact bU (m+1) (by omega) (by rw[Cq hv];rfl) (by rw[Cq hv]) (by omega)
 ·have hmi:m=i+1:=by omega
  rw[hmi];rfl
noncomputable def nG(w:aS)(i:Int):List Int:=if 0<=i/\i<w.aF.length then kV w i.toNat else []
theorem NP(w:aS)(i:Int)(hsz:w.sz<=4194304)(hi: -9223372036854775808<=i/\i<=9223372036854775807):aT prog 8 [w.v,.c (.d (.i .i64 i))] (.c (.d (.sl ((nG w i).map encI)))):=by
 have hb0:=aS.bounds hsz;by_cases h:0<=i/\i<w.aF.length
 ·obtain⟨n,rfl⟩:=Int.eq_ofNat_of_zero_le h.1;have h1:=RG w n hsz (by omega);unfold nG;rw[if_pos h];exact h1
 ·unfold nG;rw[if_neg h];refine aT.less (fun S=> ?_) K6;refine zcx [.tmp 4] func8 ntmps8 ?_;simp -implicitDefEqProofs (disch:=omega) only[go_sem];refine au (ug i 0 (w.aF.length-1)) ?_;simp -implicitDefEqProofs (disch:=omega) only[go_sem]<;>(repeat(with_reducible refine And.intro ?_ ?_;focus first|omega|rfl|assumption|exact⟨_,rfl,rfl⟩|(simp;omega)|(simp;done)))
  with_reducible refine aj (fun hb=> ?_) (fun hb=> ?_)<;>have h:=hb<;>(try simp only[wf_preprocess] at h)<;>simp -implicitDefEqProofs (disch:=omega) only[go_sem,hb]<;>(repeat(with_reducible refine And.intro ?_ ?_;focus first|omega|rfl|assumption|exact⟨_,rfl,rfl⟩|(simp;omega)|(simp;done)))
  ·omega
theorem Dk(w:aS)(i:Int)(hsz:w.sz<=4194304)(hi: -9223372036854775808<=i/\i<=9223372036854775807):aT prog 6 [w.v,.c (.d (.i .i64 i))] (.c (.d (.sl ((nG w i).map encI)))):=by
 have hb0:=aS.bounds hsz;by_cases h0:0<=i/\i<w.aF.length
 ·obtain⟨n,rfl⟩:=Int.eq_ofNat_of_zero_le h0.1;have h1:=RH w n hsz (by omega);unfold nG;rw[if_pos h0];exact h1
 ·unfold nG;rw[if_neg h0];refine aT.less (fun S=> ?_) K6;refine zcx [.tmp 4] func6 ntmps6 ?_;simp -implicitDefEqProofs (disch:=omega) only[go_sem]
  repeat' (first|with_reducible refine aj (fun hb=> ?_) (fun hb=> ?_)<;>have h:=hb<;>(try simp only[wf_preprocess] at h)<;>simp -implicitDefEqProofs (disch:=omega) only[go_sem,hb]<;>(repeat(with_reducible refine And.intro ?_ ?_;focus first|omega|rfl|assumption|exact⟨_,rfl,rfl⟩|(simp;omega)|(simp;done))))
  all_goals first|omega|rfl
end Go.Ab