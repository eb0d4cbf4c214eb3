/-
  SEVERAL TEXTS IN ONE (merged by program): contracts and models, each with its own heading.
-/
import Derived.Test.YtlaaknnkeidlbaaGreatDoorPartDedbC
set_option maxHeartbeats 8000000
open Go.Proofs Go.Proofs.Tryz
set_option linter.unusedSimpArgs false
set_option linter.unusedVariables false
set_option maxRecDepth 4000
namespace Go.Ab
def lowerB(b:UInt8):Prop:=97<=b.toNat/\b.toNat<=122
def nV(b:UInt8):Prop:=48<=b.toNat/\b.toNat<=57
def Pf(s:List UInt8):Prop:=∀i,i<s.length->lowerB (s.getD i 0)\/(i≠0/\nV (s.getD i 0))
def reserved:List (List UInt8):=[[105,110,116],[98,111,111,108],[97,115,115,111,99],[100,121,110],[105,102],[108,101,116],[99,97,115,101],[110,101,119],[109,101,116,104,111,100],[112,97,99,107],[116,114,117,101],[102,97,108,115,101]]
noncomputable def validName(s:List UInt8):Bool:=dec ((1<=s.length/\s.length<=8)/\s∉reserved/\Pf s)
noncomputable def sH(s:List UInt8):Bool:=dec (s=[105,110,116]\/s=[98,111,111,108])
noncomputable def y9(xs:List (List UInt8))(s:List UInt8):Int:=if s∈xs then((xs.findIdx fun x=>dec (x=s):Nat):Int) else -1
theorem RQ{xs:List (List UInt8)}{s:List UInt8}{i:Nat}(hi:i<xs.length)(hj:∀j,j<i->xs.getD j []≠s)(h:xs.getD i []=s):y9 xs s=i:=by
 have e:∀j,∀hj:j<xs.length,xs.getD j []=xs[j]:=fun j hj=>by simp[List.getD,hj]
 have hm:s∈xs:=by rw[<-h,e i hi];exact ap hi
 unfold y9;rw[if_pos hm];congr 1;rw[List.findIdx_eq hi];exact⟨cK (by rw[<-e i hi];exact h),fun j hji=>aT (by rw[<-e j (by omega)];exact hj j hji)⟩
theorem YN{xs:List (List UInt8)}{s:List UInt8}(hj:∀j,j<xs.length->xs.getD j []≠s):y9 xs s= -1:=by
 unfold y9;refine if_neg fun hm=> ?_;obtain⟨j,h1,h2⟩:=cJ hm;exact hj j h1 (by simp[List.getD,h1,h2])
theorem Vs{xs:List (List UInt8)}{s:List UInt8}:decide (y9 xs s>=0)=dec (s∈xs):=by
 rw[nQ];refine mo ?_;unfold y9;split
 ·rename_i h;exact⟨fun _=>h,fun _=>by omega⟩
 ·rename_i h;exact⟨fun x=>by omega,fun x=>absurd x h⟩
def qQ{α:Type}(p:α->Bool)(xs:List α):Int:=if xs.any p then((xs.findIdx p:Nat):Int) else -1
theorem r9{α:Type}{p:α->Bool}{xs:List α}{i:Nat}(hi:i<xs.length)(hj:∀j,∀hj:j<xs.length,j<i->p xs[j]=false)(h:p xs[i]=true):qQ p xs=i:=by
 unfold qQ;rw[if_pos (List.any_eq_true.2 ⟨xs[i],ap hi,h⟩)];congr 1;rw[List.findIdx_eq hi];exact⟨h,fun j hji=>hj j (by omega) hji⟩
theorem wJ{α:Type}{p:α->Bool}{xs:List α}(hj:∀j,∀hj:j<xs.length,p xs[j]=false):qQ p xs= -1:=by
 unfold qQ;refine if_neg fun h=> ?_;obtain⟨x,hx,hp⟩:=List.any_eq_true.1 h;obtain⟨j,h1,h2⟩:=cJ hx;rw[<-h2,hj j h1] at hp;cases hp
theorem uK{α:Type}{p:α->Bool}{xs:List α}:decide (qQ p xs>=0)=xs.any p:=by
 unfold qQ
 cases h:xs.any p with
 |true=>simp
 |false=>simp
noncomputable def xZ(k:Int)(n:List UInt8)(len:Nat):Bool:=
 dec ((k=1\/k=4)/\validName n=true/\len=0\/k=3/\validName n=true/\len=1\/k=2/\(validName n=true/\len<=3\/sH n=true/\len=0))
mutual
noncomputable def formed:au->Bool
 | .mk k n a=>xZ k n a.length&&iP a
noncomputable def iP:List au->Bool
 |[]=>true
 |t::ts=>formed t&&iP ts
end
theorem wK(t:au):formed t=(xZ t.aH t.fName t.fArgs.length&&iP t.fArgs):=by cases t;rw[formed];rfl
theorem Ao:∀{ts:List au},iP ts=true<->∀t∈ts,formed t=true
 |[]=>by simp[iP]
 |t::ts=>by simp[iP,Ao (ts:=ts)]
theorem F3:∀{ts:List au},(ts.any fun t=> !formed t)= !iP ts
 |[]=>rfl
 |t::ts=>by rw[List.any_cons,F3 (ts:=ts),iP];simp
mutual
def j5:au->Nat
 | .mk _ _ a=>depths a
def depths:List au->Nat
 |[]=>0
 |t::ts=>max (j5 t+1) (depths ts)
end
theorem LJ(t:au):j5 t=depths t.fArgs:=by cases t;rw[j5];rfl
mutual
theorem wL:∀t:au,j5 t+1<=t.cnt
 | .mk k n a=>by
   have:=LK a;rw[j5,au.cnt];omega
theorem LK:∀ts:List au,depths ts<=au.dW ts
 |[]=>by simp[depths]
 |t::ts=>by
  have h1:=wL t;have h2:=LK ts;rw[depths,au.dW];omega
end
noncomputable def tJ(t:au):Bool:=dec (formed t=true/\j5 t<=6/\t.cnt<=60)
mutual
def Pg:au->List au
 | .mk k n a=>.mk k n a::IZ a
def IZ:List au->List au
 |[]=>[]
 |t::ts=>Pg t++IZ ts
end
mutual
theorem YO:∀t:au,(Pg t).length=t.cnt
 | .mk k n a=>by rw[Pg,aa,au.cnt,I4 a];omega
theorem I4:∀ts:List au,(IZ ts).length=au.dW ts
 |[]=>rfl
 |t::ts=>by rw[IZ,ab,au.dW,YO t,I4 ts]
end
theorem AZ(n a b:Int):aF prog 154 [.c (.d (.i .i64 n)),.c (.d (.i .i64 a)),.c (.d (.i .i64 b))] (.c (.d (.b (dec (a<=n/\n<=b))))):=fun S=>by
 refine zcx [.tmp 6] func154 ntmps154 ?_;simp -implicitDefEqProofs (disch:=omega) only[go_sem]
 with_reducible refine ay (fun hb=> ?_) (fun hb=> ?_)<;>have h:=hb<;>(try simp only[wf_preprocess] at h)<;>simp -implicitDefEqProofs (disch:=omega) only[go_sem,hb]<;>(repeat(with_reducible refine And.intro ?_ ?_;focus first|omega|rfl|assumption|exact⟨_,rfl,rfl⟩|(simp;omega)|(simp;done)))
 ·exact aO (by rw[nQ];exact mo ⟨fun x=>⟨by omega,x⟩,fun x=>x.2⟩)
 ·exact aO (aT (by omega)).symm
theorem Gz(xs:List (List UInt8))(s:List UInt8)(hl:xs.length<=1073741824):aF prog 64 [.c (.d (.sl (xs.map encS))),.c (.d (.s s))] (.c (.d (.b (dec (s∈xs))))):=fun S=>by
 refine zcx [.tmp 4] func64 ntmps64 ?_;simp -implicitDefEqProofs (disch:=omega) only[go_sem,encS]
 refine bI (ι:=Nat) zmx rfl [0,1,5] (fun i=>[.c (.d (.sl (xs.map encS))),.c (.d (.s s)),.c (.d (.i .i64 i))]) (fun _=>[]::S)
  (fun i=>i<=xs.length/\∀j,j<i->∀h:j<xs.length,xs[j]≠s) (fun i=>xs.length-i) 0 rfl rfl ⟨ba _,fun j h=>by omega⟩ ?_
 rintro i ⟨p1,p2⟩;simp -implicitDefEqProofs (disch:=omega) only[go_sem,encS]
 with_reducible refine ay (fun hb=> ?_) (fun hb=> ?_)<;>have h:=hb<;>(try simp only[wf_preprocess] at h)<;>simp -implicitDefEqProofs (disch:=omega) only[go_sem,hb,encS]<;>(repeat(with_reducible refine And.intro ?_ ?_;focus first|omega|rfl|assumption|exact⟨_,rfl,rfl⟩|(simp;omega)|(simp;done)))
 ·have hi:i<xs.length:=by omega
  with_reducible refine ay (fun hb=> ?_) (fun hb=> ?_)<;>have h:=hb<;>(try simp only[wf_preprocess] at h)<;>simp -implicitDefEqProofs (disch:=omega) only[go_sem,hb,encS]<;>(repeat(with_reducible refine And.intro ?_ ?_;focus first|omega|rfl|assumption|exact⟨_,rfl,rfl⟩|(simp;omega)|(simp;done)))
  ·exact aO (cK (by rw[<-h];exact ap hi)).symm
  ·refine bZ (i+1) (by omega) rfl rfl ⟨by omega,fun j hj hl=> ?_⟩;by_cases e:j=i
   ·subst e;exact h
   ·exact p2 j (by omega) hl
 ·refine aO (aT fun hm=> ?_).symm;obtain⟨j,h1,h2⟩:=cJ hm;exact p2 j (by omega) h1 h2
theorem YP(xs:List (List UInt8))(s:List UInt8)(hl:xs.length<=1073741824):aF prog 141 [.c (.d (.sl (xs.map encS))),.c (.d (.s s))] (.c (.d (.i .i64 (y9 xs s)))):=fun S=>by
 refine zcx [.tmp 4] func141 ntmps141 ?_;simp -implicitDefEqProofs (disch:=omega) only[go_sem,encS]
 refine bI (ι:=Nat) zmx rfl [0,1,7,8] (fun i=>[.c (.d (.sl (xs.map encS))),.c (.d (.s s)),.c (.d (.i .i64 xs.length)),.c (.d (.i .i64 i))]) (fun _=>[]::S)
  (fun i=>i<=xs.length/\∀j,j<i->xs.getD j []≠s) (fun i=>xs.length-i) 0 rfl rfl ⟨ba _,fun j h=>by omega⟩ ?_
 rintro i ⟨p1,p2⟩;simp -implicitDefEqProofs (disch:=omega) only[go_sem,encS]
 with_reducible refine ay (fun hb=> ?_) (fun hb=> ?_)<;>have h:=hb<;>(try simp only[wf_preprocess] at h)<;>simp -implicitDefEqProofs (disch:=omega) only[go_sem,hb,encS]<;>(repeat(with_reducible refine And.intro ?_ ?_;focus first|omega|rfl|assumption|exact⟨_,rfl,rfl⟩|(simp;omega)|(simp;done)))
 ·have hi:i<xs.length:=by omega
  have e:xs.getD i []=xs[i]:=by simp[List.getD,hi]
  with_reducible refine ay (fun hb=> ?_) (fun hb=> ?_)<;>have h:=hb<;>(try simp only[wf_preprocess] at h)<;>simp -implicitDefEqProofs (disch:=omega) only[go_sem,hb,encS]<;>(repeat(with_reducible refine And.intro ?_ ?_;focus first|omega|rfl|assumption|exact⟨_,rfl,rfl⟩|(simp;omega)|(simp;done)))
  ·rw[RQ hi p2 (by rw[e];exact h.symm)]
  ·refine bZ (i+1) (by omega) rfl rfl ⟨by omega,fun j hj=> ?_⟩;by_cases e':j=i
   ·subst e';rw[e];exact fun x=>h x.symm
   ·exact p2 j (by omega)
 ·rw[YN (fun j hj=>p2 j (by omega))]
theorem Ph(xs:List (List UInt8))(s:List UInt8)(hl:xs.length<=1073741824):aF prog 206 [.c (.d (.sl (xs.map encS))),.c (.d (.s s))] (.c (.d (.b (dec (s∈xs))))):=fun S=>by
 refine zcx [.tmp 4] func206 ntmps206 ?_;simp -implicitDefEqProofs (disch:=omega) only[go_sem];refine aA (YP xs s hl) ?_;simp -implicitDefEqProofs (disch:=omega) only[go_sem]<;>(repeat(with_reducible refine And.intro ?_ ?_;focus first|omega|rfl|assumption|exact⟨_,rfl,rfl⟩|(simp;omega)|(simp;done)));exact aO Vs
theorem I5(s:List UInt8):aF prog 155 [.c (.d (.s s))] (.c (.d (.b (dec (s∈reserved))))):=fun S=>by
 refine zcx [.tmp 2] func155 ntmps155 ?_;simp -implicitDefEqProofs (disch:=omega) only[go_sem]
 (repeat(with_reducible refine And.intro ?_ ?_;focus first|omega|rfl|assumption|exact⟨_,rfl,rfl⟩|(simp;omega)|(simp;done)))
 refine aA (Gz reserved s (by decide)) ?_;simp -implicitDefEqProofs (disch:=omega) only[go_sem]<;>(repeat(with_reducible refine And.intro ?_ ?_;focus first|omega|rfl|assumption|exact⟨_,rfl,rfl⟩|(simp;omega)|(simp;done)))
theorem I6(s:List UInt8):aF prog 137 [.c (.d (.s s))] (.c (.d (.b (dec (s∈reserved))))):=fun S=>by
 refine zcx [.tmp 2] func137 ntmps137 ?_;simp -implicitDefEqProofs (disch:=omega) only[go_sem]
 (repeat(with_reducible refine And.intro ?_ ?_;focus first|omega|rfl|assumption|exact⟨_,rfl,rfl⟩|(simp;omega)|(simp;done)))
 refine aA (Ph reserved s (by decide)) ?_;simp -implicitDefEqProofs (disch:=omega) only[go_sem]<;>(repeat(with_reducible refine And.intro ?_ ?_;focus first|omega|rfl|assumption|exact⟨_,rfl,rfl⟩|(simp;omega)|(simp;done)))
theorem I7(b:UInt8):aF prog 135 [.c (.d (.i .u8 b.toNat))] (.c (.d (.b (dec (lowerB b))))):=fun S=>by
 refine zcx [.tmp 2] func135 ntmps135 ?_;simp -implicitDefEqProofs (disch:=omega) only[go_sem]
 with_reducible refine ay (fun hb=> ?_) (fun hb=> ?_)<;>have h:=hb<;>(try simp only[wf_preprocess] at h)<;>simp -implicitDefEqProofs (disch:=omega) only[go_sem,hb]<;>(repeat(with_reducible refine And.intro ?_ ?_;focus first|omega|rfl|assumption|exact⟨_,rfl,rfl⟩|(simp;omega)|(simp;done)))
 ·exact aO (by rw[nQ];exact mo ⟨fun x=>⟨by omega,by omega⟩,fun x=>by have:=x.2;omega⟩)
 ·exact aO (aT fun x=>by have:=x.1;omega).symm
theorem I8(b:UInt8):aF prog 136 [.c (.d (.i .u8 b.toNat))] (.c (.d (.b (dec (nV b))))):=fun S=>by
 refine zcx [.tmp 2] func136 ntmps136 ?_;simp -implicitDefEqProofs (disch:=omega) only[go_sem]
 with_reducible refine ay (fun hb=> ?_) (fun hb=> ?_)<;>have h:=hb<;>(try simp only[wf_preprocess] at h)<;>simp -implicitDefEqProofs (disch:=omega) only[go_sem,hb]<;>(repeat(with_reducible refine And.intro ?_ ?_;focus first|omega|rfl|assumption|exact⟨_,rfl,rfl⟩|(simp;omega)|(simp;done)))
 ·exact aO (by rw[nQ];exact mo ⟨fun x=>⟨by omega,by omega⟩,fun x=>by have:=x.2;omega⟩)
 ·exact aO (aT fun x=>by have:=x.1;omega).symm
theorem mO(s:List UInt8)(hl:s.length<=1073741824):aF prog 53 [.c (.d (.s s))] (.c (.d (.b (validName s)))):=fun S=>by
 refine zcx [.tmp 2] func53 ntmps53 ?_;simp -implicitDefEqProofs (disch:=omega) only[go_sem]
 refine bI (ι:=Nat) zmx rfl [0,5,6] (fun i=>[.c (.d (.s s)),.c (.d (.i .i64 s.length)),.c (.d (.i .i64 i))]) (fun _=>[]::S)
  (fun i=>i<=s.length/\∀j,j<i->lowerB (s.getD j 0)\/(j≠0/\nV (s.getD j 0))) (fun i=>s.length-i) 0 rfl rfl ⟨ba _,fun j h=>by omega⟩ ?_
 rintro i ⟨p1,p2⟩
 have next:i<s.length->(lowerB (s.getD i 0)\/(i≠0/\nV (s.getD i 0)))->∀j,j<i+1->lowerB (s.getD j 0)\/(j≠0/\nV (s.getD j 0)):=fun hi h j hj=>by
  by_cases e:j=i
  ·subst e;exact h
  ·exact p2 j (by omega)
 have bad:i<s.length->¬(lowerB (s.getD i 0)\/(i≠0/\nV (s.getD i 0)))->validName s=false:=fun hi h=>aT fun x=>h (x.2.2 i hi);simp -implicitDefEqProofs (disch:=omega) only[go_sem]
 with_reducible refine ay (fun hb=> ?_) (fun hb=> ?_)<;>have h:=hb<;>(try simp only[wf_preprocess] at h)<;>simp -implicitDefEqProofs (disch:=omega) only[go_sem,hb]<;>(repeat(with_reducible refine And.intro ?_ ?_;focus first|omega|rfl|assumption|exact⟨_,rfl,rfl⟩|(simp;omega)|(simp;done)))
 ·have hi:i<s.length:=by omega
  (repeat(with_reducible refine And.intro ?_ ?_;focus first|omega|rfl|assumption|exact⟨_,rfl,rfl⟩|(simp;omega)|(simp;done)))
  refine aA (I7 (s.getD i 0)) ?_;simp -implicitDefEqProofs (disch:=omega) only[go_sem]<;>(repeat(with_reducible refine And.intro ?_ ?_;focus first|omega|rfl|assumption|exact⟨_,rfl,rfl⟩|(simp;omega)|(simp;done)))
  with_reducible refine ay (fun hb=> ?_) (fun hb=> ?_)<;>have h:=hb<;>(try simp only[wf_preprocess] at h)<;>simp -implicitDefEqProofs (disch:=omega) only[go_sem,hb]<;>(repeat(with_reducible refine And.intro ?_ ?_;focus first|omega|rfl|assumption|exact⟨_,rfl,rfl⟩|(simp;omega)|(simp;done)))
  ·have nl:=h
   with_reducible refine ay (fun hb=> ?_) (fun hb=> ?_)<;>have h:=hb<;>(try simp only[wf_preprocess] at h)<;>simp -implicitDefEqProofs (disch:=omega) only[go_sem,hb]<;>(repeat(with_reducible refine And.intro ?_ ?_;focus first|omega|rfl|assumption|exact⟨_,rfl,rfl⟩|(simp;omega)|(simp;done)))
   ·have i0:i=0:=by omega
    rw[bad hi (fun x=>x.elim nl fun y=>y.1 i0)]
   ·have ne:=h
    (repeat(with_reducible refine And.intro ?_ ?_;focus first|omega|rfl|assumption|exact⟨_,rfl,rfl⟩|(simp;omega)|(simp;done)))
    refine aA (I8 (s.getD i 0)) ?_;simp -implicitDefEqProofs (disch:=omega) only[go_sem]<;>(repeat(with_reducible refine And.intro ?_ ?_;focus first|omega|rfl|assumption|exact⟨_,rfl,rfl⟩|(simp;omega)|(simp;done)))
    with_reducible refine ay (fun hb=> ?_) (fun hb=> ?_)<;>have h:=hb<;>(try simp only[wf_preprocess] at h)<;>simp -implicitDefEqProofs (disch:=omega) only[go_sem,hb]<;>(repeat(with_reducible refine And.intro ?_ ?_;focus first|omega|rfl|assumption|exact⟨_,rfl,rfl⟩|(simp;omega)|(simp;done)))
    ·rw[bad hi (fun x=>x.elim nl fun y=>h y.2)]
    ·exact bZ (i+1) (by omega) rfl rfl ⟨by omega,next hi (.inr ⟨by omega,h⟩)⟩
  ·exact bZ (i+1) (by omega) rfl rfl ⟨by omega,next hi (.inl h)⟩
 ·have hn:Pf s:=fun j hj=>p2 j (by omega)
  have h0:∀b,dec (s∈reserved)=b->∀c,decide ((s.length:Int)>=1)=c->∀d,decide ((s.length:Int)<=8)=d->validName s=(c&&d&& !b):=by
   rintro b rfl c rfl d rfl;unfold validName;rw[fc];simp only[vQ,af,decide_eq_true_eq,eS,DI];exact⟨fun x=>⟨⟨by omega,by omega⟩,x.2.1⟩,fun x=>⟨⟨by omega,by omega⟩,x.2,hn⟩⟩
  with_reducible refine ay (fun hb=> ?_) (fun hb=> ?_)<;>have h:=hb<;>(try simp only[wf_preprocess] at h)<;>simp -implicitDefEqProofs (disch:=omega) only[go_sem,hb]<;>(repeat(with_reducible refine And.intro ?_ ?_;focus first|omega|rfl|assumption|exact⟨_,rfl,rfl⟩|(simp;omega)|(simp;done)))
  ·have c1:=hb
   with_reducible refine ay (fun hb=> ?_) (fun hb=> ?_)<;>have h:=hb<;>(try simp only[wf_preprocess] at h)<;>simp -implicitDefEqProofs (disch:=omega) only[go_sem,hb]<;>(repeat(with_reducible refine And.intro ?_ ?_;focus first|omega|rfl|assumption|exact⟨_,rfl,rfl⟩|(simp;omega)|(simp;done)))
   ·refine aA (I6 s) ?_;simp -implicitDefEqProofs (disch:=omega) only[go_sem]<;>(repeat(with_reducible refine And.intro ?_ ?_;focus first|omega|rfl|assumption|exact⟨_,rfl,rfl⟩|(simp;omega)|(simp;done)));exact aO (by rw[h0 _ rfl _ c1 _ hb];simp)
   ·exact aO (by rw[h0 _ rfl _ c1 _ hb];simp)
  ·exact aO (by rw[h0 _ rfl _ hb _ rfl];simp)
theorem mP(s:List UInt8)(hl:s.length<=1073741824):aF prog 62 [.c (.d (.s s))] (.c (.d (.b (validName s)))):=fun S=>by
 have bad:¬Pf s->validName s=false:=fun h=>aT fun x=>h x.2.2;refine zcx [.tmp 2] func62 ntmps62 ?_;simp -implicitDefEqProofs (disch:=omega) only[go_sem];refine aA (AZ s.length 1 8) ?_;simp -implicitDefEqProofs (disch:=omega) only[go_sem]<;>(repeat(with_reducible refine And.intro ?_ ?_;focus first|omega|rfl|assumption|exact⟨_,rfl,rfl⟩|(simp;omega)|(simp;done)))
 with_reducible refine ay (fun hb=> ?_) (fun hb=> ?_)<;>have h:=hb<;>(try simp only[wf_preprocess] at h)<;>simp -implicitDefEqProofs (disch:=omega) only[go_sem,hb]<;>(repeat(with_reducible refine And.intro ?_ ?_;focus first|omega|rfl|assumption|exact⟨_,rfl,rfl⟩|(simp;omega)|(simp;done)))
 ·rw[show validName s=false from aT fun x=>h (by omega)]
 have hlen:=h;refine aA (I5 s) ?_;simp -implicitDefEqProofs (disch:=omega) only[go_sem]<;>(repeat(with_reducible refine And.intro ?_ ?_;focus first|omega|rfl|assumption|exact⟨_,rfl,rfl⟩|(simp;omega)|(simp;done)))
 with_reducible refine ay (fun hb=> ?_) (fun hb=> ?_)<;>have h:=hb<;>(try simp only[wf_preprocess] at h)<;>simp -implicitDefEqProofs (disch:=omega) only[go_sem,hb]<;>(repeat(with_reducible refine And.intro ?_ ?_;focus first|omega|rfl|assumption|exact⟨_,rfl,rfl⟩|(simp;omega)|(simp;done)))
 ·rw[show validName s=false from aT fun x=>x.2.1 h]
 have hres:=h
 refine bI (ι:=Nat) zmx rfl [0,3] (fun i=>[.c (.d (.s s)),.c (.d (.i .i64 i))]) (fun _=>[]::S)
  (fun i=>i<=s.length/\∀j,j<i->lowerB (s.getD j 0)\/(j≠0/\nV (s.getD j 0))) (fun i=>s.length-i) 0 rfl rfl ⟨ba _,fun j h=>by omega⟩ ?_
 rintro i ⟨p1,p2⟩
 have next:i<s.length->(lowerB (s.getD i 0)\/(i≠0/\nV (s.getD i 0)))->∀j,j<i+1->lowerB (s.getD j 0)\/(j≠0/\nV (s.getD j 0)):=fun hi h j hj=>by
  by_cases e:j=i
  ·subst e;exact h
  ·exact p2 j (by omega)
 simp -implicitDefEqProofs (disch:=omega) only[go_sem]
 with_reducible refine ay (fun hb=> ?_) (fun hb=> ?_)<;>have h:=hb<;>(try simp only[wf_preprocess] at h)<;>simp -implicitDefEqProofs (disch:=omega) only[go_sem,hb]<;>(repeat(with_reducible refine And.intro ?_ ?_;focus first|omega|rfl|assumption|exact⟨_,rfl,rfl⟩|(simp;omega)|(simp;done)))
 ·have hi:i<s.length:=by omega
  have bad':¬(lowerB (s.getD i 0)\/(i≠0/\nV (s.getD i 0)))->validName s=false:=fun h=>bad fun x=>h (x i hi)
  have next:=next hi
  unfold lowerB nV at bad' next
  all_goals try(with_reducible refine ay (fun hb=> ?_) (fun hb=> ?_)<;>have h:=hb<;>(try simp only[wf_preprocess] at h)<;>simp -implicitDefEqProofs (disch:=omega) only[go_sem,hb]<;>(repeat(with_reducible refine And.intro ?_ ?_;focus first|omega|rfl|assumption|exact⟨_,rfl,rfl⟩|(simp;omega)|(simp;done))))
  all_goals try(with_reducible refine ay (fun hb=> ?_) (fun hb=> ?_)<;>have h:=hb<;>(try simp only[wf_preprocess] at h)<;>simp -implicitDefEqProofs (disch:=omega) only[go_sem,hb]<;>(repeat(with_reducible refine And.intro ?_ ?_;focus first|omega|rfl|assumption|exact⟨_,rfl,rfl⟩|(simp;omega)|(simp;done))))
  all_goals try(with_reducible refine ay (fun hb=> ?_) (fun hb=> ?_)<;>have h:=hb<;>(try simp only[wf_preprocess] at h)<;>simp -implicitDefEqProofs (disch:=omega) only[go_sem,hb]<;>(repeat(with_reducible refine And.intro ?_ ?_;focus first|omega|rfl|assumption|exact⟨_,rfl,rfl⟩|(simp;omega)|(simp;done))))
  all_goals try(with_reducible refine ay (fun hb=> ?_) (fun hb=> ?_)<;>have h:=hb<;>(try simp only[wf_preprocess] at h)<;>simp -implicitDefEqProofs (disch:=omega) only[go_sem,hb]<;>(repeat(with_reducible refine And.intro ?_ ?_;focus first|omega|rfl|assumption|exact⟨_,rfl,rfl⟩|(simp;omega)|(simp;done))))
  all_goals try(with_reducible refine ay (fun hb=> ?_) (fun hb=> ?_)<;>have h:=hb<;>(try simp only[wf_preprocess] at h)<;>simp -implicitDefEqProofs (disch:=omega) only[go_sem,hb]<;>(repeat(with_reducible refine And.intro ?_ ?_;focus first|omega|rfl|assumption|exact⟨_,rfl,rfl⟩|(simp;omega)|(simp;done))))
  all_goals try(with_reducible refine ay (fun hb=> ?_) (fun hb=> ?_)<;>have h:=hb<;>(try simp only[wf_preprocess] at h)<;>simp -implicitDefEqProofs (disch:=omega) only[go_sem,hb]<;>(repeat(with_reducible refine And.intro ?_ ?_;focus first|omega|rfl|assumption|exact⟨_,rfl,rfl⟩|(simp;omega)|(simp;done))))
  all_goals first
   |exact bZ (i+1) (by omega) rfl rfl ⟨by omega,next (by omega)⟩
   |exact aO (bad' (by omega)).symm
 ·rw[show validName s=true from cK ⟨by omega,hres,fun j hj=>p2 j (by omega)⟩]
theorem YQ(s:List UInt8):aF prog 269 [.c (.d (.s s))] (.c (.d (.b (sH s)))):=fun S=>by
 refine zcx [.tmp 2] func269 ntmps269 ?_;simp -implicitDefEqProofs (disch:=omega) only[go_sem]
 with_reducible refine ay (fun hb=> ?_) (fun hb=> ?_)<;>have h:=hb<;>(try simp only[wf_preprocess] at h)<;>simp -implicitDefEqProofs (disch:=omega) only[go_sem,hb]<;>(repeat(with_reducible refine And.intro ?_ ?_;focus first|omega|rfl|assumption|exact⟨_,rfl,rfl⟩|(simp;omega)|(simp;done)))
 ·exact aO (cK (.inl h)).symm
 ·exact aO (by rw[nQ];exact mo ⟨fun x=>.inr x,fun x=>x.resolve_left h⟩)
theorem Pj(s:List UInt8):aF prog 276 [.c (.d (.s s))] (.c (.d (.b (sH s)))):=fun S=>by
 refine zcx [.tmp 2] func276 ntmps276 ?_;simp -implicitDefEqProofs (disch:=omega) only[go_sem]
 with_reducible refine ay (fun hb=> ?_) (fun hb=> ?_)<;>have h:=hb<;>(try simp only[wf_preprocess] at h)<;>simp -implicitDefEqProofs (disch:=omega) only[go_sem,hb]<;>(repeat(with_reducible refine And.intro ?_ ?_;focus first|omega|rfl|assumption|exact⟨_,rfl,rfl⟩|(simp;omega)|(simp;done)))
 ·exact aO (cK (.inl h)).symm
 ·exact aO (by rw[nQ];exact mo ⟨fun x=>.inr x,fun x=>x.resolve_left h⟩)
theorem wM{x:au}{i:Nat}(hi:i<x.fArgs.length)(h:x.sz<=4194304):x.fArgs[i].sz<=4194304/\x.fArgs.length<=4194304/\x.fName.length<=4194304:=by
 have hx:x.fArgs[i].sz<=bC (x.fArgs.map au.enc):=iK (cE (ap hi));simp only[au.sz,au.aB,bG,D.sz,ai] at h;omega
theorem zO{x:au}(h:x.sz<=4194304):x.fArgs.length<=4194304/\x.fName.length<=4194304:=by
 simp only[au.sz,au.aB,bG,D.sz,ai] at h;omega
theorem nU:∀{ts:List au}{i:Nat}(hi:i<ts.length),au.dW (ts.drop i)=ts[i].cnt+au.dW (ts.drop (i+1)):=fun {ts} {i} hi=>by
 rw[bO hi,au.dW]
theorem F4:∀{ts:List au}{i:Nat}(hi:i<ts.length),depths (ts.drop i)=max (j5 ts[i]+1) (depths (ts.drop (i+1))):=fun {ts} {i} hi=>by
 rw[bO hi,depths]
theorem Pk:∀{ts:List au}{i:Nat}(hi:i<ts.length),iP (ts.drop i)=(formed ts[i]&&iP (ts.drop (i+1))):=fun {ts} {i} hi=>by
 rw[bO hi,iP]
theorem I9:∀n:Nat,∀x:au,SizeOf.sizeOf x<n->∀l:Int,0<=l->l<=1073741824->x.sz<=4194304->aF prog 245 [x.v,.c (.d (.i .i64 l))] (.c (.d (.i .i64 (kQ l x.cnt))))
 |0=>fun x h=>by omega
 |n+1=>by
  have ih:=I9 n;intro x hn l h0 h1 hsz S;have j4:=au.jo x;have hts:=zO hsz;have hcn:=au.pQ x;refine zcx [.tmp 4] func245 ntmps245 ?_;simp -implicitDefEqProofs (disch:=omega) only[go_sem]
  refine bI (ι:=Nat×Int) zmx rfl [1,2,5] (fun y=>[.c (.d (.i .i64 y.2)),.c (.ptr (0,0) 0),.c (.d (.i .i64 y.1))]) (fun y=>[.box [.d (.i .i64 x.aH),.d (.s x.fName),.d (.sl (x.fArgs.map au.enc))]]::S)
   (fun y=>y.1<=x.fArgs.length/\ -1<=y.2/\y.2<=1073741824/\(0<=y.2->kQ l x.cnt=kQ y.2 (au.dW (x.fArgs.drop y.1)))/\(y.2<0->kQ l x.cnt= -1)) (fun y=>x.fArgs.length-y.1) (0,l-1) rfl rfl ⟨ba _,by simp only;omega,by simp only;omega,fun h=> ?_,fun h=> ?_⟩ ?_
  ·simp only[db] at h ⊢;unfold kQ;rw[hcn];split<;>split<;>omega
  ·simp only at h;exact Fj (by omega)
  rintro⟨i,c⟩ ⟨p1,p2,p3,p4,p5⟩;simp only at p1 p2 p3 p4 p5;simp -implicitDefEqProofs (disch:=omega) only[go_sem]
  with_reducible refine ay (fun hb=> ?_) (fun hb=> ?_)<;>have h:=hb<;>(try simp only[wf_preprocess] at h)<;>simp -implicitDefEqProofs (disch:=omega) only[go_sem,hb]<;>(repeat(with_reducible refine And.intro ?_ ?_;focus first|omega|rfl|assumption|exact⟨_,rfl,rfl⟩|(simp;omega)|(simp;done)))
  ·have hi:i<x.fArgs.length:=by omega
   with_reducible refine ay (fun hb=> ?_) (fun hb=> ?_)<;>have h:=hb<;>(try simp only[wf_preprocess] at h)<;>simp -implicitDefEqProofs (disch:=omega) only[go_sem,hb]<;>(repeat(with_reducible refine And.intro ?_ ?_;focus first|omega|rfl|assumption|exact⟨_,rfl,rfl⟩|(simp;omega)|(simp;done)))
   ·have hsz':=wM hi hsz;have p6:=p4 h;rw[nU hi] at p6
    (repeat(with_reducible refine And.intro ?_ ?_;focus first|omega|rfl|assumption|exact⟨_,rfl,rfl⟩|(simp;omega)|(simp;done)))
    refine aA (ih x.fArgs[i] (by have:=bc (ap hi);omega) c (by omega) (by omega) (by omega)) ?_;simp -implicitDefEqProofs (disch:=omega) only[go_sem]<;>(repeat(with_reducible refine And.intro ?_ ?_;focus first|omega|rfl|assumption|exact⟨_,rfl,rfl⟩|(simp;omega)|(simp;done)));refine bZ (i+1,kQ c _) (by simp only;omega) rfl rfl ⟨by simp only;omega,?_,?_,fun h=> ?_,fun h=> ?_⟩
    ·simp only;unfold kQ;split<;>omega
    ·simp only;unfold kQ;split<;>omega
    ·simp only at h ⊢;rw[p6];have:=Fh (l:=c) (a:=x.fArgs[i].cnt) (by omega);rw[this.1];unfold kQ;split<;>split<;>omega
    ·simp only at h ⊢;rw[p6];have:=BS h;exact Fj (by omega)
   ·have hc:c= -1:=by omega
    rw[p5 (by omega),hc]
  ·have hi:i=x.fArgs.length:=by omega
   by_cases hc:0<=c
   ·rw[p4 hc,hi,cH,au.dW,O8 (by omega)];exact int_eq (by simp)
   ·rw[p5 (by omega)];exact int_eq (by omega)
theorem YR(x:au)(l:Int)(h0:0<=l)(h1:l<=1073741824)(hsz:x.sz<=4194304):aF prog 245 [x.v,.c (.d (.i .i64 l))] (.c (.d (.i .i64 (kQ l x.cnt)))):=I9 _ x (br _) l h0 h1 hsz
theorem Pm(a b:Int):aF prog 194 [.c (.d (.i .i64 a)),.c (.d (.i .i64 b))] (.c (.d (.i .i64 (max a b)))):=fun S=>by
 refine zcx [.tmp 4] func194 ntmps194 ?_;simp -implicitDefEqProofs (disch:=omega) only[go_sem]
 with_reducible refine ay (fun hb=> ?_) (fun hb=> ?_)<;>have h:=hb<;>(try simp only[wf_preprocess] at h)<;>simp -implicitDefEqProofs (disch:=omega) only[go_sem,hb]<;>(repeat(with_reducible refine And.intro ?_ ?_;focus first|omega|rfl|assumption|exact⟨_,rfl,rfl⟩|(simp;omega)|(simp;done)))
 ·exact int_eq (by omega)
 ·exact int_eq (by omega)
theorem CK:∀n:Nat,∀x:au,SizeOf.sizeOf x<n->x.sz<=4194304->aF prog 246 [x.v] (.c (.d (.i .i64 (j5 x))))
 |0=>fun x h=>by omega
 |n+1=>by
  have ih:=CK n;intro x hn hsz S;have j4:=au.jo x;have hts:=zO hsz;have hd1:=wL x;have hd2:=pR x;refine zcx [.tmp 2] func246 ntmps246 ?_;simp -implicitDefEqProofs (disch:=omega) only[go_sem]
  refine bI (ι:=Nat×Nat) zmx rfl [1,3,4] (fun y=>[.c (.ptr (0,0) 0),.c (.d (.i .i64 y.2)),.c (.d (.i .i64 y.1))]) (fun y=>[.box [.d (.i .i64 x.aH),.d (.s x.fName),.d (.sl (x.fArgs.map au.enc))]]::S)
   (fun y=>y.1<=x.fArgs.length/\j5 x=max y.2 (depths (x.fArgs.drop y.1))) (fun y=>x.fArgs.length-y.1) (0,0) rfl rfl ⟨ba _,by simp[LJ]⟩ ?_
  rintro⟨i,c⟩ ⟨p1,p2⟩;simp only at p1 p2;simp -implicitDefEqProofs (disch:=omega) only[go_sem]
  with_reducible refine ay (fun hb=> ?_) (fun hb=> ?_)<;>have h:=hb<;>(try simp only[wf_preprocess] at h)<;>simp -implicitDefEqProofs (disch:=omega) only[go_sem,hb]<;>(repeat(with_reducible refine And.intro ?_ ?_;focus first|omega|rfl|assumption|exact⟨_,rfl,rfl⟩|(simp;omega)|(simp;done)))
  ·have hi:i<x.fArgs.length:=by omega
   have hsz':=wM hi hsz;rw[F4 hi] at p2;have hd3:=wL x.fArgs[i];have hd4:=pR x.fArgs[i]
   (repeat(with_reducible refine And.intro ?_ ?_;focus first|omega|rfl|assumption|exact⟨_,rfl,rfl⟩|(simp;omega)|(simp;done)))
   refine aA (ih x.fArgs[i] (by have:=bc (ap hi);omega) (by omega)) ?_;simp -implicitDefEqProofs (disch:=omega) only[go_sem]<;>(repeat(with_reducible refine And.intro ?_ ?_;focus first|omega|rfl|assumption|exact⟨_,rfl,rfl⟩|(simp;omega)|(simp;done)));refine aA (Pm _ _) ?_;simp -implicitDefEqProofs (disch:=omega) only[go_sem]<;>(repeat(with_reducible refine And.intro ?_ ?_;focus first|omega|rfl|assumption|exact⟨_,rfl,rfl⟩|(simp;omega)|(simp;done)));rw[show max (c:Int) (1+(j5 x.fArgs[i]:Int))=((max c (1+j5 x.fArgs[i]):Nat):Int) by omega];exact bZ (i+1,max c (1+j5 x.fArgs[i])) (by simp only;omega) rfl rfl ⟨by simp only;omega,by simp only;omega⟩
  ·have hi:i=x.fArgs.length:=by omega
   rw[hi,cH,depths] at p2;exact int_eq (by omega)
theorem Pn(x:au)(hsz:x.sz<=4194304):aF prog 246 [x.v] (.c (.d (.i .i64 (j5 x)))):=CK _ x (br _) hsz
theorem CO:∀n:Nat,∀x:au,SizeOf.sizeOf x<n->x.sz<=4194304->aF prog 252 [x.v] (.c (.d (.i .i64 (j5 x))))
 |0=>fun x h=>by omega
 |n+1=>by
  have ih:=CO n;intro x hn hsz S;have j4:=au.jo x;have hts:=zO hsz;have hd1:=wL x;have hd2:=pR x;refine zcx [.tmp 2] func252 ntmps252 ?_;simp -implicitDefEqProofs (disch:=omega) only[go_sem]
  refine bI (ι:=Nat×Nat) zmx rfl [3,7,8,9] (fun y=>[.c (.d (.i .i64 y.2)),.c (.d (.sl (x.fArgs.map au.enc))),.c (.d (.i .i64 x.fArgs.length)),.c (.d (.i .i64 y.1))]) (fun y=>[.box [.d (.i .i64 x.aH),.d (.s x.fName),.d (.sl (x.fArgs.map au.enc))]]::S)
   (fun y=>y.1<=x.fArgs.length/\j5 x=max y.2 (depths (x.fArgs.drop y.1))) (fun y=>x.fArgs.length-y.1) (0,0) rfl rfl ⟨ba _,by simp[LJ]⟩ ?_
  rintro⟨i,c⟩ ⟨p1,p2⟩;simp only at p1 p2;simp -implicitDefEqProofs (disch:=omega) only[go_sem]
  with_reducible refine ay (fun hb=> ?_) (fun hb=> ?_)<;>have h:=hb<;>(try simp only[wf_preprocess] at h)<;>simp -implicitDefEqProofs (disch:=omega) only[go_sem,hb]<;>(repeat(with_reducible refine And.intro ?_ ?_;focus first|omega|rfl|assumption|exact⟨_,rfl,rfl⟩|(simp;omega)|(simp;done)))
  ·have hi:i<x.fArgs.length:=by omega
   have hsz':=wM hi hsz;rw[F4 hi] at p2;have hd3:=wL x.fArgs[i];have hd4:=pR x.fArgs[i]
   (repeat(with_reducible refine And.intro ?_ ?_;focus first|omega|rfl|assumption|exact⟨_,rfl,rfl⟩|(simp;omega)|(simp;done)))
   refine aA (ih x.fArgs[i] (by have:=bc (ap hi);omega) (by omega)) ?_;simp -implicitDefEqProofs (disch:=omega) only[go_sem]<;>(repeat(with_reducible refine And.intro ?_ ?_;focus first|omega|rfl|assumption|exact⟨_,rfl,rfl⟩|(simp;omega)|(simp;done)));rw[show max (c:Int) ((j5 x.fArgs[i]:Int)+1)=((max c (j5 x.fArgs[i]+1):Nat):Int) by omega];exact iD 1 (by decide) (i+1,max c (j5 x.fArgs[i]+1)) (by simp only;omega) rfl rfl rfl rfl ⟨by simp only;omega,by simp only;omega⟩
  ·have hi:i=x.fArgs.length:=by omega
   rw[hi,cH,depths] at p2;exact int_eq (by omega)
theorem Po(x:au)(hsz:x.sz<=4194304):aF prog 252 [x.v] (.c (.d (.i .i64 (j5 x)))):=CO _ x (br _) hsz
theorem DL:∀n:Nat,∀x:au,SizeOf.sizeOf x<n->x.sz<=4194304->aF prog 253 [x.v] (.c (.d (.i .i64 x.cnt)))
 |0=>fun x h=>by omega
 |n+1=>by
  have ih:=DL n;intro x hn hsz S;have j4:=au.jo x;have hts:=zO hsz;have hd2:=pR x;refine zcx [.tmp 2] func253 ntmps253 ?_;simp -implicitDefEqProofs (disch:=omega) only[go_sem]
  refine bI (ι:=Nat×Nat) zmx rfl [3,7,8,9] (fun y=>[.c (.d (.i .i64 y.2)),.c (.d (.sl (x.fArgs.map au.enc))),.c (.d (.i .i64 x.fArgs.length)),.c (.d (.i .i64 y.1))]) (fun y=>[.box [.d (.i .i64 x.aH),.d (.s x.fName),.d (.sl (x.fArgs.map au.enc))]]::S)
   (fun y=>y.1<=x.fArgs.length/\x.cnt=y.2+au.dW (x.fArgs.drop y.1)) (fun y=>x.fArgs.length-y.1) (0,1) rfl rfl ⟨ba _,by simp[au.pQ]⟩ ?_
  rintro⟨i,c⟩ ⟨p1,p2⟩;simp only at p1 p2;simp -implicitDefEqProofs (disch:=omega) only[go_sem]
  with_reducible refine ay (fun hb=> ?_) (fun hb=> ?_)<;>have h:=hb<;>(try simp only[wf_preprocess] at h)<;>simp -implicitDefEqProofs (disch:=omega) only[go_sem,hb]<;>(repeat(with_reducible refine And.intro ?_ ?_;focus first|omega|rfl|assumption|exact⟨_,rfl,rfl⟩|(simp;omega)|(simp;done)))
  ·have hi:i<x.fArgs.length:=by omega
   have hsz':=wM hi hsz;rw[nU hi] at p2
   (repeat(with_reducible refine And.intro ?_ ?_;focus first|omega|rfl|assumption|exact⟨_,rfl,rfl⟩|(simp;omega)|(simp;done)))
   refine aA (ih x.fArgs[i] (by have:=bc (ap hi);omega) (by omega)) ?_;simp -implicitDefEqProofs (disch:=omega) only[go_sem]<;>(repeat(with_reducible refine And.intro ?_ ?_;focus first|omega|rfl|assumption|exact⟨_,rfl,rfl⟩|(simp;omega)|(simp;done)));rw[show(c:Int)+(x.fArgs[i].cnt:Int)=((c+x.fArgs[i].cnt:Nat):Int) by omega];exact iD 1 (by decide) (i+1,c+x.fArgs[i].cnt) (by simp only;omega) rfl rfl rfl rfl ⟨by simp only;omega,by simp only;omega⟩
  ·have hi:i=x.fArgs.length:=by omega
   rw[hi,cH,au.dW] at p2;exact int_eq (by omega)
theorem RU(x:au)(hsz:x.sz<=4194304):aF prog 253 [x.v] (.c (.d (.i .i64 x.cnt))):=DL _ x (br _) hsz
theorem DN:∀n:Nat,(∀x:au,SizeOf.sizeOf x<n->x.sz<=4194304->aF prog 251 [x.v] (.c (.d (.b (formed x)))))/\
 (∀xs:List au,SizeOf.sizeOf xs<n->xs.length<=4194304->(∀t∈xs,t.sz<=4194304)->aF prog 209 [.c (.d (.sl (xs.map au.enc))),.c (.fn 277 [])] (.c (.d (.b (!iP xs)))))
 |0=>⟨fun x h=>by omega,fun x h=>by omega⟩
 |n+1=>by
  obtain⟨ih,mD⟩:=DN n;refine⟨fun x hn hsz S=> ?_,fun xs hn hlen hsz S=> ?_⟩
  ·have j4:=au.jo x;have hts:=zO hsz
   have fin:∀b,xZ x.aH x.fName x.fArgs.length=b->formed x=(b&&iP x.fArgs):=fun b hb=>by rw[<-hb];exact wK x
   have hall:∀t∈x.fArgs,t.sz<=4194304:=fun t ht=>by
    obtain⟨i,hi,e⟩:=cJ ht;rw[<-e];exact(wM hi hsz).1
   have tail:=mD x.fArgs (by omega) hts.1 hall
   have yes:xZ x.aH x.fName x.fArgs.length=true->formed x= !(!iP x.fArgs):=fun h=>by rw[fin _ h];simp
   have no:xZ x.aH x.fName x.fArgs.length=false->formed x=false:=fun h=>by rw[fin _ h];simp
   have shut:¬((x.aH=1\/x.aH=4)/\validName x.fName=true/\x.fArgs.length=0\/x.aH=3/\validName x.fName=true/\x.fArgs.length=1\/x.aH=2/\(validName x.fName=true/\x.fArgs.length<=3\/sH x.fName=true/\x.fArgs.length=0))->V.c (.d (.b false))=V.c (.d (.b (formed x))):=fun h=>aO (no (aT h)).symm;have open_:((x.aH=1\/x.aH=4)/\validName x.fName=true/\x.fArgs.length=0\/x.aH=3/\validName x.fName=true/\x.fArgs.length=1\/x.aH=2/\(validName x.fName=true/\x.fArgs.length<=3\/sH x.fName=true/\x.fArgs.length=0))->V.c (.d (.b (!(!iP x.fArgs))))=V.c (.d (.b (formed x))):=fun h=>aO (yes (cK h)).symm;clear yes no fin;refine zcx [.tmp 2] func251 ntmps251 ?_;simp -implicitDefEqProofs (disch:=omega) only[go_sem]
   repeat' (first
    |(with_reducible refine ay (fun hb=> ?_) (fun hb=> ?_)<;>have h:=hb<;>(try simp only[wf_preprocess] at h)<;>simp -implicitDefEqProofs (disch:=omega) only[go_sem,hb]<;>(repeat(with_reducible refine And.intro ?_ ?_;focus first|omega|rfl|assumption|exact⟨_,rfl,rfl⟩|(simp;omega)|(simp;done))))
    |(refine aA (mO x.fName (by omega)) ?_;simp -implicitDefEqProofs (disch:=omega) only[go_sem])
    |(refine aA (Pj x.fName) ?_;simp -implicitDefEqProofs (disch:=omega) only[go_sem])
    |(refine aA tail ?_;simp -implicitDefEqProofs (disch:=omega) only[go_sem]))
   all_goals first
    |(refine shut (fun y=> ?_);rcases y with⟨_,_,_⟩|⟨_,_,_⟩|⟨_,⟨_,_⟩|⟨_,_⟩⟩<;>first|omega|(simp_all;done))
    |(refine open_ ?_;first
       |exact .inl ⟨by omega,by assumption,by omega⟩
       |exact .inr (.inl ⟨by omega,by assumption,by omega⟩)
       |exact .inr (.inr ⟨by omega,.inl ⟨by assumption,by omega⟩⟩)
       |exact .inr (.inr ⟨by omega,.inr ⟨by assumption,by omega⟩⟩))
  ·have hcl:∀y∈xs,aF prog 277 [y.v] (.c (.d (.b (!formed y)))):=fun y hy S=>by
    have hys:=bc hy;refine zcx [.tmp 2] func277 ntmps277 ?_;simp -implicitDefEqProofs (disch:=omega) only[go_sem];refine aA (ih y (by omega) (hsz y hy)) ?_;simp -implicitDefEqProofs (disch:=omega) only[go_sem]<;>(repeat(with_reducible refine And.intro ?_ ?_;focus first|omega|rfl|assumption|exact⟨_,rfl,rfl⟩|(simp;omega)|(simp;done)))
   have hidx:aF prog 250 [.c (.d (.sl (xs.map au.enc))),.c (.fn 277 [])] (.c (.d (.i .i64 (qQ (fun y=> !formed y) xs)))):=fun S=>by
    refine zcx [.tmp 4] func250 ntmps250 ?_;simp -implicitDefEqProofs (disch:=omega) only[go_sem]
    refine bI (ι:=Nat) zmx rfl [0,1,7,8] (fun i=>[.c (.d (.sl (xs.map au.enc))),.c (.fn 277 []),.c (.d (.i .i64 xs.length)),.c (.d (.i .i64 i))]) (fun _=>[]::S)
     (fun i=>i<=xs.length/\∀j,∀hj:j<xs.length,j<i->formed xs[j]=true) (fun i=>xs.length-i) 0 rfl rfl ⟨ba _,fun j _ h=>by omega⟩ ?_
    rintro i ⟨p1,p2⟩;simp -implicitDefEqProofs (disch:=omega) only[go_sem]
    with_reducible refine ay (fun hb=> ?_) (fun hb=> ?_)<;>have h:=hb<;>(try simp only[wf_preprocess] at h)<;>simp -implicitDefEqProofs (disch:=omega) only[go_sem,hb]<;>(repeat(with_reducible refine And.intro ?_ ?_;focus first|omega|rfl|assumption|exact⟨_,rfl,rfl⟩|(simp;omega)|(simp;done)))
    ·have hi:i<xs.length:=by omega
     (repeat(with_reducible refine And.intro ?_ ?_;focus first|omega|rfl|assumption|exact⟨_,rfl,rfl⟩|(simp;omega)|(simp;done)))
     refine aA (hcl xs[i] (ap hi)) ?_;simp -implicitDefEqProofs (disch:=omega) only[go_sem]<;>(repeat(with_reducible refine And.intro ?_ ?_;focus first|omega|rfl|assumption|exact⟨_,rfl,rfl⟩|(simp;omega)|(simp;done)))
     with_reducible refine ay (fun hb=> ?_) (fun hb=> ?_)<;>have h:=hb<;>(try simp only[wf_preprocess] at h)<;>simp -implicitDefEqProofs (disch:=omega) only[go_sem,hb]<;>(repeat(with_reducible refine And.intro ?_ ?_;focus first|omega|rfl|assumption|exact⟨_,rfl,rfl⟩|(simp;omega)|(simp;done)))
     ·rw[r9 hi (fun j hj hji=>by rw[p2 j hj hji];rfl) (by rw[h];rfl)]
     ·refine bZ (i+1) (by omega) rfl rfl ⟨by omega,fun j hj hji=> ?_⟩;by_cases e:j=i
      ·subst e;exact h
      ·exact p2 j hj (by omega)
    ·rw[wJ (fun j hj=>by rw[p2 j hj (by omega)];rfl)]
   refine zcx [.tmp 4] func209 ntmps209 ?_;simp -implicitDefEqProofs (disch:=omega) only[go_sem];refine aA (hidx) ?_;simp -implicitDefEqProofs (disch:=omega) only[go_sem]<;>(repeat(with_reducible refine And.intro ?_ ?_;focus first|omega|rfl|assumption|exact⟨_,rfl,rfl⟩|(simp;omega)|(simp;done)));rw[<-F3];exact aO uK
theorem RV(x:au)(hsz:x.sz<=4194304):aF prog 251 [x.v] (.c (.d (.b (formed x)))):=(DN _).1 x (br _) hsz
theorem GA(x:au)(hsz:x.sz<=4194304):aF prog 211 [x.v] (.c (.d (.b (tJ x)))):=fun S=>by
 refine zcx [.tmp 2] func211 ntmps211 ?_;simp -implicitDefEqProofs (disch:=omega) only[go_sem];refine aA (RV x hsz) ?_;simp -implicitDefEqProofs (disch:=omega) only[go_sem]<;>(repeat(with_reducible refine And.intro ?_ ?_;focus first|omega|rfl|assumption|exact⟨_,rfl,rfl⟩|(simp;omega)|(simp;done)))
 with_reducible refine ay (fun hb=> ?_) (fun hb=> ?_)<;>have h:=hb<;>(try simp only[wf_preprocess] at h)<;>simp -implicitDefEqProofs (disch:=omega) only[go_sem,hb]<;>(repeat(with_reducible refine And.intro ?_ ?_;focus first|omega|rfl|assumption|exact⟨_,rfl,rfl⟩|(simp;omega)|(simp;done)))
 ·have h1:=h;refine aA (Po x hsz) ?_;simp -implicitDefEqProofs (disch:=omega) only[go_sem]<;>(repeat(with_reducible refine And.intro ?_ ?_;focus first|omega|rfl|assumption|exact⟨_,rfl,rfl⟩|(simp;omega)|(simp;done)))
  with_reducible refine ay (fun hb=> ?_) (fun hb=> ?_)<;>have h:=hb<;>(try simp only[wf_preprocess] at h)<;>simp -implicitDefEqProofs (disch:=omega) only[go_sem,hb]<;>(repeat(with_reducible refine And.intro ?_ ?_;focus first|omega|rfl|assumption|exact⟨_,rfl,rfl⟩|(simp;omega)|(simp;done)))
  ·refine aA (RU x hsz) ?_;simp -implicitDefEqProofs (disch:=omega) only[go_sem]<;>(repeat(with_reducible refine And.intro ?_ ?_;focus first|omega|rfl|assumption|exact⟨_,rfl,rfl⟩|(simp;omega)|(simp;done)));exact aO (by rw[nQ];exact mo ⟨fun y=>⟨h1,by omega,by omega⟩,fun y=>by have:=y.2.2;omega⟩)
  ·exact aO (aT fun y=>by have:=y.2.1;omega).symm
 ·exact aO (aT fun y=>by rw[y.1] at h;cases h).symm
theorem Ja:∀n:Nat,∀x:au,SizeOf.sizeOf x<n->x.sz<=4194304->aF prog 247 [x.v] (.c (.d (.b (formed x))))
 |0=>fun x h=>by omega
 |n+1=>by
  have ih:=Ja n;intro x hn hsz S;have j4:=au.jo x;have hts:=zO hsz;have shut:¬((x.aH=1\/x.aH=4)/\validName x.fName=true/\x.fArgs.length=0\/x.aH=3/\validName x.fName=true/\x.fArgs.length=1\/x.aH=2/\(validName x.fName=true/\x.fArgs.length<=3\/sH x.fName=true/\x.fArgs.length=0))->V.c (.d (.b false))=V.c (.d (.b (formed x))):=fun h=>aO (by rw[wK,show xZ x.aH x.fName x.fArgs.length=false from aT h];rfl)
  have aiw:∀b:Bool,(b=true<->((x.aH=1\/x.aH=4)/\validName x.fName=true/\x.fArgs.length=0\/x.aH=3/\validName x.fName=true/\x.fArgs.length=1\/x.aH=2/\(validName x.fName=true/\x.fArgs.length<=3\/sH x.fName=true/\x.fArgs.length=0)))->b=xZ x.aH x.fName x.fArgs.length:=fun b h=>by
   rw[fc,h];unfold xZ;rw[vQ]
  refine zcx [.tmp 2] func247 ntmps247 ?_;simp -implicitDefEqProofs (disch:=omega) only[go_sem];refine aA (mP x.fName (by omega)) ?_;simp -implicitDefEqProofs (disch:=omega) only[go_sem]<;>(repeat(with_reducible refine And.intro ?_ ?_;focus first|omega|rfl|assumption|exact⟨_,rfl,rfl⟩|(simp;omega)|(simp;done)))
  repeat' (first
   |(with_reducible refine ay (fun hb=> ?_) (fun hb=> ?_)<;>have h:=hb<;>(try simp only[wf_preprocess] at h)<;>simp -implicitDefEqProofs (disch:=omega) only[go_sem,hb]<;>(repeat(with_reducible refine And.intro ?_ ?_;focus first|omega|rfl|assumption|exact⟨_,rfl,rfl⟩|(simp;omega)|(simp;done))))
   |(refine aA (YQ x.fName) ?_;simp -implicitDefEqProofs (disch:=omega) only[go_sem]))
  all_goals first
   |(refine shut (fun y=> ?_);rcases y with⟨_,_,_⟩|⟨_,_,_⟩|⟨_,⟨_,_⟩|⟨_,_⟩⟩<;>first|omega|(simp_all;done))
   |skip
  all_goals
   refine bI (ι:=Nat×Bool) zmx rfl [1,3,4] (fun y=>[.c (.ptr (0,0) 0),.c (.d (.b y.2)),.c (.d (.i .i64 y.1))]) (fun y=>[.box [.d (.i .i64 x.aH),.d (.s x.fName),.d (.sl (x.fArgs.map au.enc))]]::S)
    (fun y=>y.1<=x.fArgs.length/\(y.2&&iP (x.fArgs.drop y.1))=formed x) (fun y=>x.fArgs.length-y.1) (0,xZ x.aH x.fName x.fArgs.length) ?_ rfl ⟨ba _,by rw[wK];rfl⟩ ?_
   ·simp only[ag,az];simp -implicitDefEqProofs (disch:=omega) only[go_sem,ed,V.c.injEq,C.d.injEq,D.b.injEq,Int.natCast_zero];refine aiw _ ⟨fun y=> ?_,fun y=> ?_⟩
    ·(try simp only[decide_eq_true_eq,eq] at y)<;>first
       |exact .inl ⟨by omega,by assumption,by omega⟩
       |exact .inr (.inl ⟨by omega,by assumption,by omega⟩)
       |exact .inr (.inr ⟨by omega,.inl ⟨by assumption,by omega⟩⟩)
       |exact .inr (.inr ⟨by omega,.inr ⟨by assumption,by omega⟩⟩)
    ·rcases y with⟨_,_,_⟩|⟨_,_,_⟩|⟨_,⟨_,_⟩|⟨_,_⟩⟩<;>first|omega|(simp only[decide_eq_true_eq];omega)|(simp_all;done)
   rintro⟨i,c⟩ ⟨p1,p2⟩;simp only at p1 p2;simp -implicitDefEqProofs (disch:=omega) only[go_sem]
   with_reducible refine ay (fun hb=> ?_) (fun hb=> ?_)<;>have h:=hb<;>(try simp only[wf_preprocess] at h)<;>simp -implicitDefEqProofs (disch:=omega) only[go_sem,hb]<;>(repeat(with_reducible refine And.intro ?_ ?_;focus first|omega|rfl|assumption|exact⟨_,rfl,rfl⟩|(simp;omega)|(simp;done)))
   ·have hi:i<x.fArgs.length:=by omega
    have hsz':=wM hi hsz;rw[Pk hi] at p2
    with_reducible refine ay (fun hb=> ?_) (fun hb=> ?_)<;>have h:=hb<;>(try simp only[wf_preprocess] at h)<;>simp -implicitDefEqProofs (disch:=omega) only[go_sem,hb]<;>(repeat(with_reducible refine And.intro ?_ ?_;focus first|omega|rfl|assumption|exact⟨_,rfl,rfl⟩|(simp;omega)|(simp;done)))
    ·refine aA (ih x.fArgs[i] (by have:=bc (ap hi);omega) (by omega)) ?_;simp -implicitDefEqProofs (disch:=omega) only[go_sem];exact bZ (i+1,formed x.fArgs[i]) (by simp only;omega) rfl rfl ⟨by simp only;omega,by rw[<-p2,h];rfl⟩
    ·exact bZ (i+1,false) (by simp only;omega) rfl rfl ⟨by simp only;omega,by rw[<-p2,h];rfl⟩
   ·have hi:i=x.fArgs.length:=by omega
    rw[hi,cH,iP,cF] at p2;rw[p2]
theorem YS(x:au)(hsz:x.sz<=4194304):aF prog 247 [x.v] (.c (.d (.b (formed x)))):=Ja _ x (br _) hsz
theorem GD(x:au)(hsz:x.sz<=4194304):aF prog 198 [x.v] (.c (.d (.b (tJ x)))):=fun S=>by
 refine zcx [.tmp 2] func198 ntmps198 ?_;simp -implicitDefEqProofs (disch:=omega) only[go_sem];refine aA (YR x 60 (by omega) (by omega) hsz) ?_;simp -implicitDefEqProofs (disch:=omega) only[go_sem]<;>(repeat(with_reducible refine And.intro ?_ ?_;focus first|omega|rfl|assumption|exact⟨_,rfl,rfl⟩|(simp;omega)|(simp;done)))
 with_reducible refine ay (fun hb=> ?_) (fun hb=> ?_)<;>have h:=hb<;>(try simp only[wf_preprocess] at h)<;>simp -implicitDefEqProofs (disch:=omega) only[go_sem,hb]<;>(repeat(with_reducible refine And.intro ?_ ?_;focus first|omega|rfl|assumption|exact⟨_,rfl,rfl⟩|(simp;omega)|(simp;done)))
 ·have h1:=(Fh (l:=60) (a:=x.cnt) (by omega)).2;refine aA (Pn x hsz) ?_;simp -implicitDefEqProofs (disch:=omega) only[go_sem]<;>(repeat(with_reducible refine And.intro ?_ ?_;focus first|omega|rfl|assumption|exact⟨_,rfl,rfl⟩|(simp;omega)|(simp;done)))
  with_reducible refine ay (fun hb=> ?_) (fun hb=> ?_)<;>have h:=hb<;>(try simp only[wf_preprocess] at h)<;>simp -implicitDefEqProofs (disch:=omega) only[go_sem,hb]<;>(repeat(with_reducible refine And.intro ?_ ?_;focus first|omega|rfl|assumption|exact⟨_,rfl,rfl⟩|(simp;omega)|(simp;done)))
  ·refine aA (YS x hsz) ?_;simp -implicitDefEqProofs (disch:=omega) only[go_sem]<;>(repeat(with_reducible refine And.intro ?_ ?_;focus first|omega|rfl|assumption|exact⟨_,rfl,rfl⟩|(simp;omega)|(simp;done)));refine aO ?_
   cases hf:formed x with
   |false=>exact(aT fun y=>by rw[hf] at y;cases y.1).symm
   |true=>exact(cK ⟨hf,by omega,by omega⟩).symm
  ·exact aO (aT fun y=>by have:=y.2.1;omega).symm
 ·have h1:=BS (l:=60) (a:=x.cnt) (by omega);exact aO (aT fun y=>by have:=y.2.2;omega).symm
theorem GH(g:Nat)(caps:List (Key×Nat))(S:Store)(xs:List aj)(p:aj->Bool)(hl:xs.length<=1073741824)(hp:∀x∈xs,qE prog g caps S [x.v] (.c (.d (.b (p x))))):
 bL prog 242 [.c (.d (.sl (xs.map aj.enc))),.c (.fn g caps)] S (fun r S'=>r=.c (.d (.i .i64 (qQ p xs)))/\S'=S):=by
 refine zcx [.tmp 4] func242 ntmps242 ?_;simp -implicitDefEqProofs (disch:=omega) only[go_sem]
 refine bI (ι:=Nat) zmx rfl [0,1,7,8] (fun i=>[.c (.d (.sl (xs.map aj.enc))),.c (.fn g (kK 1 caps)),.c (.d (.i .i64 xs.length)),.c (.d (.i .i64 i))]) (fun _=>[]::S)
  (fun i=>i<=xs.length/\∀j,∀hj:j<xs.length,j<i->p xs[j]=false) (fun i=>xs.length-i) 0 rfl rfl ⟨ba _,fun j _ h=>by omega⟩ ?_
 rintro i ⟨p1,p2⟩;simp -implicitDefEqProofs (disch:=omega) only[go_sem]
 with_reducible refine ay (fun hb=> ?_) (fun hb=> ?_)<;>have h:=hb<;>(try simp only[wf_preprocess] at h)<;>simp -implicitDefEqProofs (disch:=omega) only[go_sem,hb]<;>(repeat(with_reducible refine And.intro ?_ ?_;focus first|omega|rfl|assumption|exact⟨_,rfl,rfl⟩|(simp;omega)|(simp;done)))
 ·have hi:i<xs.length:=by omega
  (repeat(with_reducible refine And.intro ?_ ?_;focus first|omega|rfl|assumption|exact⟨_,rfl,rfl⟩|(simp;omega)|(simp;done)))
  refine aQ rfl (hp xs[i] (ap hi) [_]) ?_;simp -implicitDefEqProofs (disch:=omega) only[go_sem]
  with_reducible refine ay (fun hb=> ?_) (fun hb=> ?_)<;>have h:=hb<;>(try simp only[wf_preprocess] at h)<;>simp -implicitDefEqProofs (disch:=omega) only[go_sem,hb]<;>(repeat(with_reducible refine And.intro ?_ ?_;focus first|omega|rfl|assumption|exact⟨_,rfl,rfl⟩|(simp;omega)|(simp;done)))
  ·rw[r9 hi p2 h]
  ·refine bZ (i+1) (by omega) rfl rfl ⟨by omega,fun j hj hji=> ?_⟩;by_cases e:j=i
   ·subst e;exact h
   ·exact p2 j hj (by omega)
 ·rw[wJ (fun j hj=>p2 j hj (by omega))]
theorem C9(g:Nat)(caps:List (Key×Nat))(S:Store)(xs:List aj)(p:aj->Bool)(hl:xs.length<=1073741824)(hp:∀x∈xs,qE prog g caps S [x.v] (.c (.d (.b (p x))))):
 bL prog 186 [.c (.d (.sl (xs.map aj.enc))),.c (.fn g caps)] S (fun r S'=>r=.c (.d (.b (xs.any p)))/\S'=S):=by
 refine zcx [.tmp 4] func186 ntmps186 ?_;simp -implicitDefEqProofs (disch:=omega) only[go_sem];refine aQ rfl (GH g (kK 1 caps) _ xs p hl fun x hx=>(hp x hx).push _) ?_;simp -implicitDefEqProofs (disch:=omega) only[go_sem];exact aO uK
theorem Jb(g:Nat)(caps:List (Key×Nat))(S:Store)(xs:List aK)(p:aK->Bool)(hl:xs.length<=1073741824)(hp:∀x∈xs,qE prog g caps S [x.v] (.c (.d (.b (p x))))):
 bL prog 243 [.c (.d (.sl (xs.map aK.enc))),.c (.fn g caps)] S (fun r S'=>r=.c (.d (.i .i64 (qQ p xs)))/\S'=S):=by
 refine zcx [.tmp 4] func243 ntmps243 ?_;simp -implicitDefEqProofs (disch:=omega) only[go_sem]
 refine bI (ι:=Nat) zmx rfl [0,1,7,8] (fun i=>[.c (.d (.sl (xs.map aK.enc))),.c (.fn g (kK 1 caps)),.c (.d (.i .i64 xs.length)),.c (.d (.i .i64 i))]) (fun _=>[]::S)
  (fun i=>i<=xs.length/\∀j,∀hj:j<xs.length,j<i->p xs[j]=false) (fun i=>xs.length-i) 0 rfl rfl ⟨ba _,fun j _ h=>by omega⟩ ?_
 rintro i ⟨p1,p2⟩;simp -implicitDefEqProofs (disch:=omega) only[go_sem]
 with_reducible refine ay (fun hb=> ?_) (fun hb=> ?_)<;>have h:=hb<;>(try simp only[wf_preprocess] at h)<;>simp -implicitDefEqProofs (disch:=omega) only[go_sem,hb]<;>(repeat(with_reducible refine And.intro ?_ ?_;focus first|omega|rfl|assumption|exact⟨_,rfl,rfl⟩|(simp;omega)|(simp;done)))
 ·have hi:i<xs.length:=by omega
  (repeat(with_reducible refine And.intro ?_ ?_;focus first|omega|rfl|assumption|exact⟨_,rfl,rfl⟩|(simp;omega)|(simp;done)))
  refine aQ rfl (hp xs[i] (ap hi) [_]) ?_;simp -implicitDefEqProofs (disch:=omega) only[go_sem]
  with_reducible refine ay (fun hb=> ?_) (fun hb=> ?_)<;>have h:=hb<;>(try simp only[wf_preprocess] at h)<;>simp -implicitDefEqProofs (disch:=omega) only[go_sem,hb]<;>(repeat(with_reducible refine And.intro ?_ ?_;focus first|omega|rfl|assumption|exact⟨_,rfl,rfl⟩|(simp;omega)|(simp;done)))
  ·rw[r9 hi p2 h]
  ·refine bZ (i+1) (by omega) rfl rfl ⟨by omega,fun j hj hji=> ?_⟩;by_cases e:j=i
   ·subst e;exact h
   ·exact p2 j hj (by omega)
 ·rw[wJ (fun j hj=>p2 j hj (by omega))]
theorem DR(g:Nat)(caps:List (Key×Nat))(S:Store)(xs:List aK)(p:aK->Bool)(hl:xs.length<=1073741824)(hp:∀x∈xs,qE prog g caps S [x.v] (.c (.d (.b (p x))))):
 bL prog 188 [.c (.d (.sl (xs.map aK.enc))),.c (.fn g caps)] S (fun r S'=>r=.c (.d (.b (xs.any p)))/\S'=S):=by
 refine zcx [.tmp 4] func188 ntmps188 ?_;simp -implicitDefEqProofs (disch:=omega) only[go_sem];refine aQ rfl (Jb g (kK 1 caps) _ xs p hl fun x hx=>(hp x hx).push _) ?_;simp -implicitDefEqProofs (disch:=omega) only[go_sem];exact aO uK
theorem DT(g:Nat)(caps:List (Key×Nat))(S:Store)(xs:List (List UInt8))(p:(List UInt8)->Bool)(hl:xs.length<=1073741824)(hp:∀x∈xs,qE prog g caps S [.c (.d (.s x))] (.c (.d (.b (p x))))):
 bL prog 207 [.c (.d (.sl (xs.map encS))),.c (.fn g caps)] S (fun r S'=>r=.c (.d (.i .i64 (qQ p xs)))/\S'=S):=by
 refine zcx [.tmp 4] func207 ntmps207 ?_;simp -implicitDefEqProofs (disch:=omega) only[go_sem,encS]
 refine bI (ι:=Nat) zmx rfl [0,1,7,8] (fun i=>[.c (.d (.sl (xs.map encS))),.c (.fn g (kK 1 caps)),.c (.d (.i .i64 xs.length)),.c (.d (.i .i64 i))]) (fun _=>[]::S)
  (fun i=>i<=xs.length/\∀j,∀hj:j<xs.length,j<i->p xs[j]=false) (fun i=>xs.length-i) 0 rfl rfl ⟨ba _,fun j _ h=>by omega⟩ ?_
 rintro i ⟨p1,p2⟩;simp -implicitDefEqProofs (disch:=omega) only[go_sem,encS]
 with_reducible refine ay (fun hb=> ?_) (fun hb=> ?_)<;>have h:=hb<;>(try simp only[wf_preprocess] at h)<;>simp -implicitDefEqProofs (disch:=omega) only[go_sem,hb,encS]<;>(repeat(with_reducible refine And.intro ?_ ?_;focus first|omega|rfl|assumption|exact⟨_,rfl,rfl⟩|(simp;omega)|(simp;done)))
 ·have hi:i<xs.length:=by omega
  (repeat(with_reducible refine And.intro ?_ ?_;focus first|omega|rfl|assumption|exact⟨_,rfl,rfl⟩|(simp;omega)|(simp;done)))
  refine aQ rfl (hp xs[i] (ap hi) [_]) ?_;simp -implicitDefEqProofs (disch:=omega) only[go_sem,encS]
  with_reducible refine ay (fun hb=> ?_) (fun hb=> ?_)<;>have h:=hb<;>(try simp only[wf_preprocess] at h)<;>simp -implicitDefEqProofs (disch:=omega) only[go_sem,hb,encS]<;>(repeat(with_reducible refine And.intro ?_ ?_;focus first|omega|rfl|assumption|exact⟨_,rfl,rfl⟩|(simp;omega)|(simp;done)))
  ·rw[r9 hi p2 h]
  ·refine bZ (i+1) (by omega) rfl rfl ⟨by omega,fun j hj hji=> ?_⟩;by_cases e:j=i
   ·subst e;exact h
   ·exact p2 j hj (by omega)
 ·rw[wJ (fun j hj=>p2 j hj (by omega))]
theorem A8(g:Nat)(caps:List (Key×Nat))(S:Store)(xs:List (List UInt8))(p:(List UInt8)->Bool)(hl:xs.length<=1073741824)(hp:∀x∈xs,qE prog g caps S [.c (.d (.s x))] (.c (.d (.b (p x))))):
 bL prog 139 [.c (.d (.sl (xs.map encS))),.c (.fn g caps)] S (fun r S'=>r=.c (.d (.b (xs.any p)))/\S'=S):=by
 refine zcx [.tmp 4] func139 ntmps139 ?_;simp -implicitDefEqProofs (disch:=omega) only[go_sem,encS];refine aQ rfl (DT g (kK 1 caps) _ xs p hl fun x hx=>(hp x hx).push _) ?_;simp -implicitDefEqProofs (disch:=omega) only[go_sem,encS];exact aO uK
theorem RX(xs ys:List (List UInt8))(hl:xs.length<=1073741824):aF prog 48 [.c (.d (.sl (xs.map encS))),.c (.d (.sl (ys.map encS)))] (.c (.d (.b (dec (xs=ys))))):=fun S=>by
 refine zcx [.tmp 4] func48 ntmps48 ?_;simp -implicitDefEqProofs (disch:=omega) only[go_sem,encS]
 with_reducible refine ay (fun hb=> ?_) (fun hb=> ?_)<;>have h:=hb<;>(try simp only[wf_preprocess] at h)<;>simp -implicitDefEqProofs (disch:=omega) only[go_sem,hb,encS]<;>(repeat(with_reducible refine And.intro ?_ ?_;focus first|omega|rfl|assumption|exact⟨_,rfl,rfl⟩|(simp;omega)|(simp;done)))
 ·exact aO (aT (fun e=>h (by rw[e]))).symm
 have hl':xs.length=ys.length:=by omega
 refine bI (ι:=Nat) zmx rfl [0,1,5] (fun i=>[.c (.d (.sl (xs.map encS))),.c (.d (.sl (ys.map encS))),.c (.d (.i .i64 i))]) (fun _=>[]::S)
  (fun i=>i<=xs.length/\∀j,j<i->xs[j]? =ys[j]?) (fun y=>xs.length-y) 0 rfl rfl ⟨ba _,fun j h=>by omega⟩ ?_
 rintro i ⟨p1,p2⟩;simp -implicitDefEqProofs (disch:=omega) only[go_sem,encS]
 with_reducible refine ay (fun hb=> ?_) (fun hb=> ?_)<;>have h:=hb<;>(try simp only[wf_preprocess] at h)<;>simp -implicitDefEqProofs (disch:=omega) only[go_sem,hb,encS]<;>(repeat(with_reducible refine And.intro ?_ ?_;focus first|omega|rfl|assumption|exact⟨_,rfl,rfl⟩|(simp;omega)|(simp;done)))
 ·have hi:i<xs.length:=by omega
  have hi':i<ys.length:=by omega
  (repeat(with_reducible refine And.intro ?_ ?_;focus first|omega|rfl|assumption|exact⟨_,rfl,rfl⟩|(simp;omega)|(simp;done)))
  with_reducible refine ay (fun hb=> ?_) (fun hb=> ?_)<;>have h:=hb<;>(try simp only[wf_preprocess] at h)<;>simp -implicitDefEqProofs (disch:=omega) only[go_sem,hb,encS]<;>(repeat(with_reducible refine And.intro ?_ ?_;focus first|omega|rfl|assumption|exact⟨_,rfl,rfl⟩|(simp;omega)|(simp;done)))
  ·exact aO (aT (fun e=>h (by simp only[e]))).symm
  refine bZ (i+1) (by omega) rfl rfl ⟨by omega,fun j hj=> ?_⟩;by_cases e:j=i
  ·subst e;rw[al hi,al hi',h]
  ·exact p2 j (by omega)
 ·have hi:i=xs.length:=by omega
  refine aO (cK (dy fun j=> ?_)).symm;by_cases hj:j<i
  ·exact p2 j hj
  ·rw[ck (by omega),ck (by omega)]
theorem YT{s:List UInt8}{xs:List (List UInt8)}(h:s∈xs):s.length<=bC (xs.map encS):=by
 have:=iK (cE (f:=encS) h);simpa [encS,bG,D.sz] using this
noncomputable def qm(xs:List (List UInt8)):Bool:=dec xs.Nodup&&xs.all validName
noncomputable def among(xs ys:List (List UInt8)):Bool:=xs.all fun s=>dec (s∈ys)
theorem abT{s l:List UInt8}{m:List (List UInt8)}:s∈Dl l m<->s=l\/s∈m:=by
 unfold Dl;split
 ·rename_i h;exact⟨.inr,fun x=>x.elim (fun e=>e▸h) id⟩
 ·rw[ec,eQ];exact Or.comm
theorem zP{α:Type}{xs:List α}{i:Nat}(hi:i<xs.length):xs.take (i+1)=xs.take i++[xs[i]]:=bp hi
theorem BX{α:Type}{xs:List α}{x:α}:(xs++[x]).Nodup<->xs.Nodup/\x∉xs:=by
 rw[List.nodup_append];constructor
 ·rintro⟨h1,_,h3⟩;exact⟨h1,fun hx=>h3 x hx x (by simp) rfl⟩
 ·rintro⟨h1,h2⟩;exact⟨h1,by simp,fun a ha b hb e=>by simp at hb;subst hb;exact h2 (e▸ha)⟩
theorem LM{α:Type}{xs:List α}{i:Nat}(hi:i<xs.length)(h:xs[i]∈xs.take i):¬xs.Nodup:=fun hn=>by
 have h1:(xs.take (i+1)).Nodup:=hn.sublist (List.take_sublist _ _);rw[zP hi] at h1;exact(BX.1 h1).2 h
theorem Jc(xs:List (List UInt8))(hl:xs.length<=1073741824):aF prog 138 [.c (.d (.sl (xs.map encS)))] (.c (.d (.b (dec xs.Nodup)))):=fun S=>by
 refine zcx [.tmp 2] func138 ntmps138 ?_;simp -implicitDefEqProofs (disch:=omega) only[go_sem,encS]
 (repeat(with_reducible refine And.intro ?_ ?_;focus first|omega|rfl|assumption|exact⟨_,rfl,rfl⟩|(simp;omega)|(simp;done)))
 refine bI (ι:=Nat×List (List UInt8)) zmx rfl [3,7,8,9] (fun y=>[.c (.mp (0,0)),.c (.d (.sl (xs.map encS))),.c (.d (.i .i64 xs.length)),.c (.d (.i .i64 y.1))]) (fun y=>[.mp y.2]::S)
  (fun y=>y.1<=xs.length/\(∀s,s∈y.2<->s∈xs.take y.1)/\(xs.take y.1).Nodup) (fun y=>xs.length-y.1) (0,[]) rfl rfl ⟨ba _,fun s=>by simp,by simp⟩ ?_
 rintro⟨i,m⟩ ⟨p1,p2,p3⟩;simp only at p1 p2 p3;simp -implicitDefEqProofs (disch:=omega) only[go_sem,encS]
 with_reducible refine ay (fun hb=> ?_) (fun hb=> ?_)<;>have h:=hb<;>(try simp only[wf_preprocess] at h)<;>simp -implicitDefEqProofs (disch:=omega) only[go_sem,hb,encS]<;>(repeat(with_reducible refine And.intro ?_ ?_;focus first|omega|rfl|assumption|exact⟨_,rfl,rfl⟩|(simp;omega)|(simp;done)))
 ·have hi:i<xs.length:=by omega
  (repeat(with_reducible refine And.intro ?_ ?_;focus first|omega|rfl|assumption|exact⟨_,rfl,rfl⟩|(simp;omega)|(simp;done)))
  with_reducible refine ay (fun hb=> ?_) (fun hb=> ?_)<;>have h:=hb<;>(try simp only[wf_preprocess] at h)<;>simp -implicitDefEqProofs (disch:=omega) only[go_sem,hb,encS]<;>(repeat(with_reducible refine And.intro ?_ ?_;focus first|omega|rfl|assumption|exact⟨_,rfl,rfl⟩|(simp;omega)|(simp;done)))
  ·exact aO (aT (LM hi ((p2 _).1 h))).symm
  ·refine bZ (i+1,Dl xs[i] m) (by simp only;omega) rfl rfl ⟨by simp only;omega,fun s=> ?_,?_⟩
   ·simp only
    rw[abT,zP hi,ec,eQ,p2];exact Or.comm
   ·simp only
    rw[zP hi,BX];exact⟨p3,fun hx=>h ((p2 _).2 hx)⟩
 ·rw[cm (by omega)] at p3;exact aO (cK p3).symm
theorem Jd(xs:List (List UInt8))(hl:xs.length<=1073741824):aF prog 65 [.c (.d (.sl (xs.map encS)))] (.c (.d (.b (dec xs.Nodup)))):=fun S=>by
 refine zcx [.tmp 2] func65 ntmps65 ?_;simp -implicitDefEqProofs (disch:=omega) only[go_sem,encS]
 refine bI (ι:=Nat) zmx rfl [0,3] (fun i=>[.c (.d (.sl (xs.map encS))),.c (.d (.i .i64 i))]) (fun _=>[]::S)
  (fun i=>i<=xs.length/\(xs.take i).Nodup) (fun i=>xs.length-i) 0 rfl rfl ⟨ba _,by simp⟩ ?_
 rintro i ⟨p1,p3⟩;simp -implicitDefEqProofs (disch:=omega) only[go_sem,encS]
 with_reducible refine ay (fun hb=> ?_) (fun hb=> ?_)<;>have h:=hb<;>(try simp only[wf_preprocess] at h)<;>simp -implicitDefEqProofs (disch:=omega) only[go_sem,hb,encS]<;>(repeat(with_reducible refine And.intro ?_ ?_;focus first|omega|rfl|assumption|exact⟨_,rfl,rfl⟩|(simp;omega)|(simp;done)))
 ·have hi:i<xs.length:=by omega
  have hc:∀y∈xs.map encS,y.length=1:=fun y hy=>by
   obtain⟨s,_,rfl⟩:=da.1 hy;rfl
  have e:(xs.map encS).take i=(xs.take i).map encS:=du.symm;refine And.intro ⟨by omega,by omega,hc⟩ ?_
  (repeat(with_reducible refine And.intro ?_ ?_;focus first|omega|rfl|assumption|exact⟨_,rfl,rfl⟩|(simp;omega)|(simp;done)))
  simp -implicitDefEqProofs (disch:=omega) only[go_sem,Int.toNat_zero,e];refine aA (Gz (xs.take i) xs[i] (by simp;omega)) ?_;simp -implicitDefEqProofs (disch:=omega) only[go_sem]<;>(repeat(with_reducible refine And.intro ?_ ?_;focus first|omega|rfl|assumption|exact⟨_,rfl,rfl⟩|(simp;omega)|(simp;done)))
  with_reducible refine ay (fun hb=> ?_) (fun hb=> ?_)<;>have h:=hb<;>(try simp only[wf_preprocess] at h)<;>simp -implicitDefEqProofs (disch:=omega) only[go_sem,hb]<;>(repeat(with_reducible refine And.intro ?_ ?_;focus first|omega|rfl|assumption|exact⟨_,rfl,rfl⟩|(simp;omega)|(simp;done)))
  ·exact aO (aT (LM hi h)).symm
  ·refine bZ (i+1) (by omega) rfl rfl ⟨by omega,?_⟩;rw[zP hi,BX];exact⟨p3,h⟩
 ·rw[cm (by omega)] at p3;exact aO (cK p3).symm
theorem Vt(xs:List (List UInt8))(hl:xs.length<=1073741824)(hs:∀s∈xs,s.length<=4194304):aF prog 156 [.c (.d (.sl (xs.map encS)))] (.c (.d (.b (xs.all validName)))):=fun S=>by
 refine zcx [.tmp 2] func156 ntmps156 ?_;simp -implicitDefEqProofs (disch:=omega) only[go_sem,encS]
 refine bI (ι:=Nat) zmx rfl [0,3] (fun i=>[.c (.d (.sl (xs.map encS))),.c (.d (.i .i64 i))]) (fun _=>[]::S)
  (fun i=>i<=xs.length/\(xs.drop i).all validName=xs.all validName) (fun i=>xs.length-i) 0 rfl rfl ⟨ba _,rfl⟩ ?_
 rintro i ⟨p1,p2⟩;simp -implicitDefEqProofs (disch:=omega) only[go_sem,encS]
 with_reducible refine ay (fun hb=> ?_) (fun hb=> ?_)<;>have h:=hb<;>(try simp only[wf_preprocess] at h)<;>simp -implicitDefEqProofs (disch:=omega) only[go_sem,hb,encS]<;>(repeat(with_reducible refine And.intro ?_ ?_;focus first|omega|rfl|assumption|exact⟨_,rfl,rfl⟩|(simp;omega)|(simp;done)))
 ·have hi:i<xs.length:=by omega
  have hz:=hs _ (ap hi);rw[bO hi,dT] at p2
  (repeat(with_reducible refine And.intro ?_ ?_;focus first|omega|rfl|assumption|exact⟨_,rfl,rfl⟩|(simp;omega)|(simp;done)))
  refine aA (mP xs[i] (by omega)) ?_;simp -implicitDefEqProofs (disch:=omega) only[go_sem]<;>(repeat(with_reducible refine And.intro ?_ ?_;focus first|omega|rfl|assumption|exact⟨_,rfl,rfl⟩|(simp;omega)|(simp;done)))
  with_reducible refine ay (fun hb=> ?_) (fun hb=> ?_)<;>have h:=hb<;>(try simp only[wf_preprocess] at h)<;>simp -implicitDefEqProofs (disch:=omega) only[go_sem,hb]<;>(repeat(with_reducible refine And.intro ?_ ?_;focus first|omega|rfl|assumption|exact⟨_,rfl,rfl⟩|(simp;omega)|(simp;done)))
  ·rw[<-p2,h];rfl
  ·exact bZ (i+1) (by omega) rfl rfl ⟨by omega,by rw[<-p2,h];rfl⟩
 ·rw[eR (by omega)] at p2;rw[<-p2];rfl
theorem RY(xs:List (List UInt8))(hl:xs.length<=1073741824)(hs:∀s∈xs,s.length<=4194304):aF prog 54 [.c (.d (.sl (xs.map encS)))] (.c (.d (.b (qm xs)))):=fun S=>by
 have hcl:∀s∈xs,aF prog 140 [.c (.d (.s s))] (.c (.d (.b (!validName s)))):=fun s hx S=>by
  have:=hs s hx;refine zcx [.tmp 2] func140 ntmps140 ?_;simp -implicitDefEqProofs (disch:=omega) only[go_sem];refine aA (mO s (by omega)) ?_;simp -implicitDefEqProofs (disch:=omega) only[go_sem]<;>(repeat(with_reducible refine And.intro ?_ ?_;focus first|omega|rfl|assumption|exact⟨_,rfl,rfl⟩|(simp;omega)|(simp;done)))
 have ha:(xs.any fun s=> !validName s)= !xs.all validName:=by rw[List.not_all_eq_any_not]
 refine zcx [.tmp 2] func54 ntmps54 ?_;simp -implicitDefEqProofs (disch:=omega) only[go_sem];refine aA (Jc xs hl) ?_;simp -implicitDefEqProofs (disch:=omega) only[go_sem]<;>(repeat(with_reducible refine And.intro ?_ ?_;focus first|omega|rfl|assumption|exact⟨_,rfl,rfl⟩|(simp;omega)|(simp;done)))
 with_reducible refine ay (fun hb=> ?_) (fun hb=> ?_)<;>have h:=hb<;>(try simp only[wf_preprocess] at h)<;>simp -implicitDefEqProofs (disch:=omega) only[go_sem,hb]<;>(repeat(with_reducible refine And.intro ?_ ?_;focus first|omega|rfl|assumption|exact⟨_,rfl,rfl⟩|(simp;omega)|(simp;done)))
 ·refine aQ rfl (A8 140 [] _ xs (fun s=> !validName s) hl fun s hx=>qE.KL (hcl s hx)) ?_;simp -implicitDefEqProofs (disch:=omega) only[go_sem];rw[ha];exact aO (by unfold qm;rw[hb];simp)
 ·exact aO (by unfold qm;rw[hb];rfl)
def ops:List (List UInt8):=[[43],[45],[42],[60],[61]]
def zQ(t:au):Prop:=t.aH=0/\t.fName=[]/\t.fArgs.length=0
def qo(e:aj):Prop:=
 (1<=e.aH/\e.aH<=12)/\
 (if e.aH=5\/e.aH=11 then validName e.aW=true else e.aW=[])/\
 (if e.aH=3\/e.aH=4\/e.aH=5\/e.aH=6\/e.aH=8 then validName e.fName=true else if e.aH=10 then e.fName∈ops else e.fName=[])/\
 (if e.aH=1 then -999999<=e.fN/\e.fN<=999999 else if e.aH=2 then e.fN=0\/e.fN=1 else e.fN=0)/\
 (if e.aH=12 then tJ e.fType=true else zQ e.fType)/\
 (if e.aH=4\/e.aH=6 then True else if e.aH=5 then 1<=e.fArgs.length else if e.aH=7\/e.aH=11\/e.aH=12 then e.fArgs.length=1 else if e.aH=8\/e.aH=10 then e.fArgs.length=2 else if e.aH=9 then e.fArgs.length=3 else e.fArgs.length=0)/\
 (e.aH=7<->0<e.aG.length)
mutual
noncomputable def gT:aj->Bool
 | .mk k t n m ty a b=>dec (qo (.mk k t n m ty a b))&&(jq a&&kZ b)
noncomputable def jq:List aj->Bool
 |[]=>true
 |x::xs=>gT x&&jq xs
noncomputable def rE:aK->Bool
 | .mk c v b=>validName c&&(qm v&&gT b)
noncomputable def kZ:List aK->Bool
 |[]=>true
 |x::xs=>rE x&&kZ xs
end
theorem qR(x:aj):gT x=(dec (qo x)&&(jq x.fArgs&&kZ x.aG)):=by cases x;rw[gT];rfl
theorem mQ(x:aK):rE x=(validName x.bK&&(qm x.bH&&gT x.fBody)):=by cases x;rw[rE];rfl
theorem Pp{xs:List aj}{i:Nat}(hi:i<xs.length):jq (xs.drop i)=(gT xs[i]&&jq (xs.drop (i+1))):=by rw[bO hi,jq]
theorem RZ{xs:List aK}{i:Nat}(hi:i<xs.length):kZ (xs.drop i)=(rE xs[i]&&kZ (xs.drop (i+1))):=by rw[bO hi,kZ]
theorem F5:∀{xs:List aj},(xs.any fun t=> !gT t)= !jq xs
 |[]=>rfl
 |t::ts=>by rw[List.any_cons,F5 (xs:=ts),jq];simp
theorem Je:∀{xs:List aK},(xs.any fun t=> !rE t)= !kZ xs
 |[]=>rfl
 |t::ts=>by rw[List.any_cons,Je (xs:=ts),kZ];simp
noncomputable def d9(e:aj):Bool:=dec (e.cnt<=300)&&gT e
def lg(l:Int)(c:Nat):Int:=if l<0 then -1 else if c<=l then l-c else -1
theorem BZ{l:Int}{a b:Nat}:lg (lg l a) b=lg l (a+b):=by unfold lg;split<;>split<;>(try split)<;>(try split)<;>omega
theorem GI{l:Int}{a:Nat}(h:l<0):lg l a= -1:=if_pos h
theorem DU{l:Int}(h: -1<=l):lg l 0=l:=by unfold lg;split<;>(try split)<;>omega
theorem KO{l:Int}{c:Nat}(h:0<=l): -1<=lg l c/\lg l c<=l:=by unfold lg;split<;>(try split)<;>omega
theorem abU{l:Int}{c:Nat}(h:0<=l):decide (lg l c>=0)=decide ((c:Int)<=l):=by unfold lg;rw[if_neg (by omega)];split<;>simp<;>omega
theorem MZ:validName []=false:=aT fun h=>by have:=h.1.1;simp at this
theorem YU{s:List UInt8}(h:s∈ops):s.length=1:=by simp[ops] at h;rcases h with h|h|h|h|h<;>rw[h]<;>rfl
theorem Pq{s:List UInt8}(h:s∈ops):validName s=false:=aT fun x=>by
 have h1:=x.2.2 0 (by have:=x.1.1;omega);simp[ops] at h;rcases h with h|h|h|h|h<;>rw[h] at h1<;>simp[lowerB,nV] at h1
theorem Jf{t:au}(h:zQ t):tJ t=false:=aT fun x=>by
 have h1:=x.1;rw[wK,af] at h1;have h2:=iJ h1.1;rw[h.1] at h2;omega
structure Hold(p:Prop):Prop where
 out:p
theorem abV{P:Program}{N:Nat}{c:Code}{Q:Exit->St->Prop}{tm:List (Nat×V)}{st st':Store}(ts:List Nat)(vs:List V)(hv:ts.map (look tm)=vs)(hs:st=st')
 (h:AW P N c Q ⟨qD ts vs,st'⟩):AW P N c Q ⟨tm,st⟩:=by
 subst hs;refine kN h ?_;rw[<-hv];exact OC fun t=>yY _ ts t
theorem aeV(b:UInt8):decide (firstIdx ⟨[43,45,42,60,61].toArray⟩ b>=0)=dec ([b]∈ops):=by
 have h:∀n:Nat,n<256->decide (firstIdx ⟨[43,45,42,60,61].toArray⟩ (UInt8.ofNat n)>=0)=decide ([UInt8.ofNat n]∈ops):=by decide +kernel
 have h1:=h b.toNat (UInt8.toNat_lt b);rw[UInt8.ofNat_toNat] at h1;rw[h1];by_cases h2:[b]∈ops
 ·rw[cK h2];simp[h2]
 ·rw[aT h2];simp[h2]
def Vu(k:Int):Int:=if k=5\/k=7\/k=11\/k=12 then 1 else if k=8\/k=10 then 2 else if k=9 then 3 else 0
def Vv(k:Int):Int:=if k=4\/k=6\/k=5 then 300 else if k=7\/k=11\/k=12 then 1 else if k=8\/k=10 then 2 else if k=9 then 3 else 0
theorem FL(l:List UInt8)(b:UInt8):Uo prog 263 [.c (.d (.s l)),.c (.d (.i .u8 b.toNat))] (.c (.d (.i .i64 (firstIdx ⟨l.toArray⟩ b)))):=by
 refine⟨_,Extern.BytealgIndexByte.indexByte,func263,by kernel_rfl,by kernel_rfl,by kernel_rfl,by kernel_rfl,fun w σ S β vs hS hv=> ?_⟩;obtain⟨hl,h⟩:=hv;obtain⟨v0,e0,h0,_⟩:=h 0 _ rfl;obtain⟨v1,e1,h1,_⟩:=h 1 _ rfl;cases h0;cases h1
 have hvs:vs=[.string ⟨l.toArray⟩,.int .u8 b.toNat]:=by
  match vs,hl,e0,e1 with
  |[x,y],_,e0,e1=>simp at e0 e1;rw[e0,e1]
 subst hvs;refine⟨_,run_indexByte_string _ _ w,?_,rfl⟩
 have hb:(b.toNat:Int).toNat.toUInt8=b:=by simp
 rw[hb];exact .i _ _
theorem DV(l:List UInt8)(b:UInt8):aF prog 236 [.c (.d (.s l)),.c (.d (.i .u8 b.toNat))] (.c (.d (.i .i64 (firstIdx ⟨l.toArray⟩ b)))):=fun S=>by
 refine zcx [.tmp 4] func236 ntmps236 ?_;simp -implicitDefEqProofs (disch:=omega) only[go_sem];refine agl (FL l b) ?_;simp -implicitDefEqProofs (disch:=omega) only[go_sem]
theorem R3(l:List UInt8)(b:UInt8)(hl:[b]≠l):aF prog 298 [.c (.d (.s l)),.c (.d (.s [b]))] (.c (.d (.i .i64 (firstIdx ⟨l.toArray⟩ b)))):=fun S=>by
 have c1:decide (((1:Nat):Int)=0)=false:=rfl;have c2:decide (((1:Nat):Int)=1)=true:=rfl;refine zcx [.tmp 4] func298 ntmps298 ?_;simp -implicitDefEqProofs (disch:=omega) only[go_sem,c1,c2]
 with_reducible refine ay (fun hb=> ?_) (fun hb=> ?_)<;>have h:=hb<;>(try simp only[wf_preprocess] at h)<;>simp -implicitDefEqProofs (disch:=omega) only[go_sem,hb,c1,c2]<;>(repeat(with_reducible refine And.intro ?_ ?_;focus first|omega|rfl|assumption|exact⟨_,rfl,rfl⟩|(simp;omega)|(simp;done)))
 ·exact absurd h hl
 refine aA (DV l b) ?_;simp -implicitDefEqProofs (disch:=omega) only[go_sem]<;>(repeat(with_reducible refine And.intro ?_ ?_;focus first|omega|rfl|assumption|exact⟨_,rfl,rfl⟩|(simp;omega)|(simp;done)))
theorem YV(l:List UInt8)(b:UInt8)(hl:[b]≠l):aF prog 287 [.c (.d (.s l)),.c (.d (.s [b]))] (.c (.d (.i .i64 (firstIdx ⟨l.toArray⟩ b)))):=fun S=>by
 refine zcx [.tmp 4] func287 ntmps287 ?_;simp -implicitDefEqProofs (disch:=omega) only[go_sem];refine aA (R3 l b hl) ?_;simp -implicitDefEqProofs (disch:=omega) only[go_sem]<;>(repeat(with_reducible refine And.intro ?_ ?_;focus first|omega|rfl|assumption|exact⟨_,rfl,rfl⟩|(simp;omega)|(simp;done)))
theorem Pt(l:List UInt8)(b:UInt8)(hl:[b]≠l):aF prog 267 [.c (.d (.s l)),.c (.d (.s [b]))] (.c (.d (.b (decide (firstIdx ⟨l.toArray⟩ b>=0))))):=fun S=>by
 refine zcx [.tmp 4] func267 ntmps267 ?_;simp -implicitDefEqProofs (disch:=omega) only[go_sem];refine aA (YV l b hl) ?_;simp -implicitDefEqProofs (disch:=omega) only[go_sem]<;>(repeat(with_reducible refine And.intro ?_ ?_;focus first|omega|rfl|assumption|exact⟨_,rfl,rfl⟩|(simp;omega)|(simp;done)))
theorem M0(s:List UInt8):aF prog 241 [.c (.d (.s s))] (.c (.d (.b (dec (s∈ops))))):=fun S=>by
 refine zcx [.tmp 2] func241 ntmps241 ?_;simp -implicitDefEqProofs (disch:=omega) only[go_sem]
 with_reducible refine ay (fun hb=> ?_) (fun hb=> ?_)<;>have h:=hb<;>(try simp only[wf_preprocess] at h)<;>simp -implicitDefEqProofs (disch:=omega) only[go_sem,hb]<;>(repeat(with_reducible refine And.intro ?_ ?_;focus first|omega|rfl|assumption|exact⟨_,rfl,rfl⟩|(simp;omega)|(simp;done)))
 ·obtain⟨b,rfl⟩:=List.length_eq_one_iff.1 (show s.length=1 by omega);refine aA (Pt [43,45,42,60,61] b (by intro x;cases x)) ?_;simp -implicitDefEqProofs (disch:=omega) only[go_sem]<;>(repeat(with_reducible refine And.intro ?_ ?_;focus first|omega|rfl|assumption|exact⟨_,rfl,rfl⟩|(simp;omega)|(simp;done)));exact aO (aeV b)
 ·exact aO (aT fun x=>h (by rw[YU x];rfl)).symm
theorem M4(t:au):aF prog 150 [t.v] (.c (.d (.b (dec (zQ t))))):=fun S=>by
 refine zcx [.tmp 2] func150 ntmps150 ?_;simp -implicitDefEqProofs (disch:=omega) only[go_sem]
 repeat' (first
  |with_reducible refine ay (fun hb=> ?_) (fun hb=> ?_)<;>have h:=hb<;>(try simp only[wf_preprocess] at h)<;>simp -implicitDefEqProofs (disch:=omega) only[go_sem,hb]<;>(repeat(with_reducible refine And.intro ?_ ?_;focus first|omega|rfl|assumption|exact⟨_,rfl,rfl⟩|(simp;omega)|(simp;done)))
  |(refine aO ?_;unfold zQ;grind [cK,aT,iJ,oD]))
theorem F6(k:Int):aF prog 240 [.c (.d (.i .i64 k))] (.dI [(false,[.d (.i .i64 (Vu k))]),(false,[.d (.i .i64 (Vv k))])]):=fun S=>by
 refine zcx [.tmp 2,.tmp 3] func240 ntmps240 ?_;simp -implicitDefEqProofs (disch:=omega) only[go_sem]
 repeat' (first
  |with_reducible refine ay (fun hb=> ?_) (fun hb=> ?_)<;>have h:=hb<;>(try simp only[wf_preprocess] at h)<;>simp -implicitDefEqProofs (disch:=omega) only[go_sem,hb]<;>(repeat(with_reducible refine And.intro ?_ ?_;focus first|omega|rfl|assumption|exact⟨_,rfl,rfl⟩|(simp;omega)|(simp;done)))
  |(unfold Vu Vv;grind))
end Go.Ab