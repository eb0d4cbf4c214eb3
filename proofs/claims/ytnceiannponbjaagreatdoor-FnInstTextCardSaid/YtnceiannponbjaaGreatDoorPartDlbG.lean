/-
  SEVERAL TEXTS IN ONE (merged by program): contracts and models, each with its own heading.
-/
import Derived.Test.YtnceiannponbjaaGreatDoorPartDlbC
set_option maxHeartbeats 8000000
open Go.Proofs Go.Proofs.Tryz
set_option linter.unusedSimpArgs false
set_option linter.unusedVariables false
set_option maxRecDepth 4000
namespace Go.Ab
def lowerB(b:UInt8):Prop:=97<=b.toNat/\b.toNat<=122
def oL(b:UInt8):Prop:=48<=b.toNat/\b.toNat<=57
def Qj(s:List UInt8):Prop:=∀i,i<s.length->lowerB (s.getD i 0)\/(i≠0/\oL (s.getD i 0))
def reserved:List (List UInt8):=[[105,110,116],[98,111,111,108],[97,115,115,111,99],[100,121,110],[105,102],[108,101,116],[99,97,115,101],[110,101,119],[109,101,116,104,111,100],[112,97,99,107],[116,114,117,101],[102,97,108,115,101]]
noncomputable def validName(s:List UInt8):Bool:=dec ((1<=s.length/\s.length<=8)/\s∉reserved/\Qj s)
noncomputable def uH(s:List UInt8):Bool:=dec (s=[105,110,116]\/s=[98,111,111,108])
noncomputable def Ah(xs:List (List UInt8))(s:List UInt8):Int:=if s∈xs then((xs.findIdx fun x=>dec (x=s):Nat):Int) else -1
theorem SG{xs:List (List UInt8)}{s:List UInt8}{i:Nat}(hi:i<xs.length)(hj:∀j,j<i->xs.getD j []≠s)(h:xs.getD i []=s):Ah xs s=i:=by
 have e:∀j,∀hj:j<xs.length,xs.getD j []=xs[j]:=fun j hj=>by simp[List.getD,hj]
 have hm:s∈xs:=by rw[<-h,e i hi];exact List.getElem_mem hi
 unfold Ah;rw[if_pos hm];congr 1;rw[List.findIdx_eq hi];exact⟨bT (by rw[<-e i hi];exact h),fun j hji=>bI (by rw[<-e j (by omega)];exact hj j hji)⟩
theorem Zb{xs:List (List UInt8)}{s:List UInt8}(hj:∀j,j<xs.length->xs.getD j []≠s):Ah xs s= -1:=by
 unfold Ah;refine if_neg fun hm=> ?_;obtain⟨j,h1,h2⟩:=List.getElem_of_mem hm;exact hj j h1 (by simp[List.getD,h1,h2])
theorem Wq{xs:List (List UInt8)}{s:List UInt8}:decide (Ah xs s>=0)=dec (s∈xs):=by
 rw[kY];refine jJ ?_;unfold Ah;split
 ·rename_i h;exact⟨fun _=>h,fun _=>by omega⟩
 ·rename_i h;exact⟨fun x=>by omega,fun x=>absurd x h⟩
def qQ{α:Type}(p:α->Bool)(xs:List α):Int:=if xs.any p then((xs.findIdx p:Nat):Int) else -1
theorem rD{α:Type}{p:α->Bool}{xs:List α}{i:Nat}(hi:i<xs.length)(hj:∀j,∀hj:j<xs.length,j<i->p xs[j]=false)(h:p xs[i]=true):qQ p xs=i:=by
 unfold qQ;rw[if_pos (List.any_eq_true.2 ⟨xs[i],List.getElem_mem hi,h⟩)];congr 1;rw[List.findIdx_eq hi];exact⟨h,fun j hji=>hj j (by omega) hji⟩
theorem uZ{α:Type}{p:α->Bool}{xs:List α}(hj:∀j,∀hj:j<xs.length,p xs[j]=false):qQ p xs= -1:=by
 unfold qQ;refine if_neg fun h=> ?_;obtain⟨x,hx,hp⟩:=List.any_eq_true.1 h;obtain⟨j,h1,h2⟩:=List.getElem_of_mem hx;rw[<-h2,hj j h1] at hp;cases hp
theorem tq{α:Type}{p:α->Bool}{xs:List α}:decide (qQ p xs>=0)=xs.any p:=by
 unfold qQ
 cases h:xs.any p with
 |true=>simp
 |false=>simp
noncomputable def zi(k:Int)(n:List UInt8)(len:Nat):Bool:=
 dec ((k=1\/k=4)/\validName n=true/\len=0\/k=3/\validName n=true/\len=1\/k=2/\(validName n=true/\len<=3\/uH n=true/\len=0))
mutual
noncomputable def formed:au->Bool
 | .mk k n a=>zi k n a.length&&ji a
noncomputable def ji:List au->Bool
 |[]=>true
 |t::ts=>formed t&&ji ts
end
theorem u6(t:au):formed t=(zi t.aI t.fName t.fArgs.length&&ji t.fArgs):=by cases t;rw[formed];rfl
theorem BF:∀{ts:List au},ji ts=true<->∀t∈ts,formed t=true
 |[]=>by simp[ji]
 |t::ts=>by simp[ji,BF (ts:=ts)]
theorem Hg:∀{ts:List au},(ts.any fun t=> !formed t)= !ji ts
 |[]=>rfl
 |t::ts=>by rw[List.any_cons,Hg (ts:=ts),ji];simp
mutual
def lg:au->Nat
 | .mk _ _ a=>depths a
def depths:List au->Nat
 |[]=>0
 |t::ts=>max (lg t+1) (depths ts)
end
theorem MK(t:au):lg t=depths t.fArgs:=by cases t;rw[lg];rfl
mutual
theorem yu:∀t:au,lg t+1<=t.cnt
 | .mk k n a=>by
   have:=ML a;rw[lg,au.cnt];omega
theorem ML:∀ts:List au,depths ts<=au.dD ts
 |[]=>by simp[depths]
 |t::ts=>by
  have h1:=yu t;have h2:=ML ts;rw[depths,au.dD];omega
end
noncomputable def lK(t:au):Bool:=dec (formed t=true/\lg t<=6/\t.cnt<=60)
theorem Ck(n a b:Int):aJ prog 120 [.c (.d (.i .i64 n)),.c (.d (.i .i64 a)),.c (.d (.i .i64 b))] (.c (.d (.b (dec (a<=n/\n<=b))))):=fun S=>by
 refine zcx [.tmp 6] func120 ntmps120 ?_;simp -implicitDefEqProofs (disch:=omega) only[go_sem]
 with_reducible refine aD (fun hb=> ?_) (fun hb=> ?_)<;>have h:=hb<;>(try simp only[wf_preprocess] at h)<;>simp -implicitDefEqProofs (disch:=omega) only[go_sem,hb]<;>(repeat(with_reducible refine And.intro ?_ ?_;focus first|omega|rfl|assumption|exact⟨_,rfl,rfl⟩|(simp;omega)|(simp;done)))
 ·exact aY (by rw[kY];exact jJ ⟨fun x=>⟨by omega,x⟩,fun x=>x.2⟩)
 ·exact aY (bI (by omega)).symm
theorem sF(xs:List (List UInt8))(s:List UInt8)(hl:xs.length<=1073741824):aJ prog 76 [.c (.d (.sl (xs.map encS))),.c (.d (.s s))] (.c (.d (.b (dec (s∈xs))))):=fun S=>by
 refine zcx [.tmp 4] func76 ntmps76 ?_;simp -implicitDefEqProofs (disch:=omega) only[go_sem,encS]
 refine bF (ι:=Nat) zmx rfl [0,1,5] (fun i=>[.c (.d (.sl (xs.map encS))),.c (.d (.s s)),.c (.d (.i .i64 i))]) (fun _=>[]::S)
  (fun i=>i<=xs.length/\∀j,j<i->∀h:j<xs.length,xs[j]≠s) (fun i=>xs.length-i) 0 rfl rfl ⟨Nat.zero_le _,fun j h=>by omega⟩ ?_
 rintro i ⟨p1,p2⟩;simp -implicitDefEqProofs (disch:=omega) only[go_sem,encS]
 with_reducible refine aD (fun hb=> ?_) (fun hb=> ?_)<;>have h:=hb<;>(try simp only[wf_preprocess] at h)<;>simp -implicitDefEqProofs (disch:=omega) only[go_sem,hb,encS]<;>(repeat(with_reducible refine And.intro ?_ ?_;focus first|omega|rfl|assumption|exact⟨_,rfl,rfl⟩|(simp;omega)|(simp;done)))
 ·have hi:i<xs.length:=by omega
  with_reducible refine aD (fun hb=> ?_) (fun hb=> ?_)<;>have h:=hb<;>(try simp only[wf_preprocess] at h)<;>simp -implicitDefEqProofs (disch:=omega) only[go_sem,hb,encS]<;>(repeat(with_reducible refine And.intro ?_ ?_;focus first|omega|rfl|assumption|exact⟨_,rfl,rfl⟩|(simp;omega)|(simp;done)))
  ·exact aY (bT (by rw[<-h];exact List.getElem_mem hi)).symm
  ·refine dG (i+1) (by omega) rfl rfl ⟨by omega,fun j hj hl=> ?_⟩;by_cases e:j=i
   ·subst e;exact h
   ·exact p2 j (by omega) hl
 ·refine aY (bI fun hm=> ?_).symm;obtain⟨j,h1,h2⟩:=List.getElem_of_mem hm;exact p2 j (by omega) h1 h2
theorem Zc(xs:List (List UInt8))(s:List UInt8)(hl:xs.length<=1073741824):aJ prog 192 [.c (.d (.sl (xs.map encS))),.c (.d (.s s))] (.c (.d (.i .i64 (Ah xs s)))):=fun S=>by
 refine zcx [.tmp 4] func192 ntmps192 ?_;simp -implicitDefEqProofs (disch:=omega) only[go_sem,encS]
 refine bF (ι:=Nat) zmx rfl [0,1,7,8] (fun i=>[.c (.d (.sl (xs.map encS))),.c (.d (.s s)),.c (.d (.i .i64 xs.length)),.c (.d (.i .i64 i))]) (fun _=>[]::S)
  (fun i=>i<=xs.length/\∀j,j<i->xs.getD j []≠s) (fun i=>xs.length-i) 0 rfl rfl ⟨Nat.zero_le _,fun j h=>by omega⟩ ?_
 rintro i ⟨p1,p2⟩;simp -implicitDefEqProofs (disch:=omega) only[go_sem,encS]
 with_reducible refine aD (fun hb=> ?_) (fun hb=> ?_)<;>have h:=hb<;>(try simp only[wf_preprocess] at h)<;>simp -implicitDefEqProofs (disch:=omega) only[go_sem,hb,encS]<;>(repeat(with_reducible refine And.intro ?_ ?_;focus first|omega|rfl|assumption|exact⟨_,rfl,rfl⟩|(simp;omega)|(simp;done)))
 ·have hi:i<xs.length:=by omega
  have e:xs.getD i []=xs[i]:=by simp[List.getD,hi]
  with_reducible refine aD (fun hb=> ?_) (fun hb=> ?_)<;>have h:=hb<;>(try simp only[wf_preprocess] at h)<;>simp -implicitDefEqProofs (disch:=omega) only[go_sem,hb,encS]<;>(repeat(with_reducible refine And.intro ?_ ?_;focus first|omega|rfl|assumption|exact⟨_,rfl,rfl⟩|(simp;omega)|(simp;done)))
  ·rw[SG hi p2 (by rw[e];exact h.symm)]
  ·refine dG (i+1) (by omega) rfl rfl ⟨by omega,fun j hj=> ?_⟩;by_cases e':j=i
   ·subst e';rw[e];exact fun x=>h x.symm
   ·exact p2 j (by omega)
 ·rw[Zb (fun j hj=>p2 j (by omega))]
theorem sG(xs:List (List UInt8))(s:List UInt8)(hl:xs.length<=1073741824):aJ prog 154 [.c (.d (.sl (xs.map encS))),.c (.d (.s s))] (.c (.d (.b (dec (s∈xs))))):=fun S=>by
 refine zcx [.tmp 4] func154 ntmps154 ?_;simp -implicitDefEqProofs (disch:=omega) only[go_sem];refine aA (Zc xs s hl) ?_;simp -implicitDefEqProofs (disch:=omega) only[go_sem]<;>(repeat(with_reducible refine And.intro ?_ ?_;focus first|omega|rfl|assumption|exact⟨_,rfl,rfl⟩|(simp;omega)|(simp;done)));exact aY Wq
theorem JY(s:List UInt8):aJ prog 121 [.c (.d (.s s))] (.c (.d (.b (dec (s∈reserved))))):=fun S=>by
 refine zcx [.tmp 2] func121 ntmps121 ?_;simp -implicitDefEqProofs (disch:=omega) only[go_sem]
 (repeat(with_reducible refine And.intro ?_ ?_;focus first|omega|rfl|assumption|exact⟨_,rfl,rfl⟩|(simp;omega)|(simp;done)))
 refine aA (sF reserved s (by decide)) ?_;simp -implicitDefEqProofs (disch:=omega) only[go_sem]<;>(repeat(with_reducible refine And.intro ?_ ?_;focus first|omega|rfl|assumption|exact⟨_,rfl,rfl⟩|(simp;omega)|(simp;done)))
theorem JZ(s:List UInt8):aJ prog 107 [.c (.d (.s s))] (.c (.d (.b (dec (s∈reserved))))):=fun S=>by
 refine zcx [.tmp 2] func107 ntmps107 ?_;simp -implicitDefEqProofs (disch:=omega) only[go_sem]
 (repeat(with_reducible refine And.intro ?_ ?_;focus first|omega|rfl|assumption|exact⟨_,rfl,rfl⟩|(simp;omega)|(simp;done)))
 refine aA (sG reserved s (by decide)) ?_;simp -implicitDefEqProofs (disch:=omega) only[go_sem]<;>(repeat(with_reducible refine And.intro ?_ ?_;focus first|omega|rfl|assumption|exact⟨_,rfl,rfl⟩|(simp;omega)|(simp;done)))
theorem J2(b:UInt8):aJ prog 105 [.c (.d (.i .u8 b.toNat))] (.c (.d (.b (dec (lowerB b))))):=fun S=>by
 refine zcx [.tmp 2] func105 ntmps105 ?_;simp -implicitDefEqProofs (disch:=omega) only[go_sem]
 with_reducible refine aD (fun hb=> ?_) (fun hb=> ?_)<;>have h:=hb<;>(try simp only[wf_preprocess] at h)<;>simp -implicitDefEqProofs (disch:=omega) only[go_sem,hb]<;>(repeat(with_reducible refine And.intro ?_ ?_;focus first|omega|rfl|assumption|exact⟨_,rfl,rfl⟩|(simp;omega)|(simp;done)))
 ·exact aY (by rw[kY];exact jJ ⟨fun x=>⟨by omega,by omega⟩,fun x=>by have:=x.2;omega⟩)
 ·exact aY (bI fun x=>by have:=x.1;omega).symm
theorem J3(b:UInt8):aJ prog 106 [.c (.d (.i .u8 b.toNat))] (.c (.d (.b (dec (oL b))))):=fun S=>by
 refine zcx [.tmp 2] func106 ntmps106 ?_;simp -implicitDefEqProofs (disch:=omega) only[go_sem]
 with_reducible refine aD (fun hb=> ?_) (fun hb=> ?_)<;>have h:=hb<;>(try simp only[wf_preprocess] at h)<;>simp -implicitDefEqProofs (disch:=omega) only[go_sem,hb]<;>(repeat(with_reducible refine And.intro ?_ ?_;focus first|omega|rfl|assumption|exact⟨_,rfl,rfl⟩|(simp;omega)|(simp;done)))
 ·exact aY (by rw[kY];exact jJ ⟨fun x=>⟨by omega,by omega⟩,fun x=>by have:=x.2;omega⟩)
 ·exact aY (bI fun x=>by have:=x.1;omega).symm
theorem kE(s:List UInt8)(hl:s.length<=1073741824):aJ prog 43 [.c (.d (.s s))] (.c (.d (.b (validName s)))):=fun S=>by
 refine zcx [.tmp 2] func43 ntmps43 ?_;simp -implicitDefEqProofs (disch:=omega) only[go_sem]
 refine bF (ι:=Nat) zmx rfl [0,5,6] (fun i=>[.c (.d (.s s)),.c (.d (.i .i64 s.length)),.c (.d (.i .i64 i))]) (fun _=>[]::S)
  (fun i=>i<=s.length/\∀j,j<i->lowerB (s.getD j 0)\/(j≠0/\oL (s.getD j 0))) (fun i=>s.length-i) 0 rfl rfl ⟨Nat.zero_le _,fun j h=>by omega⟩ ?_
 rintro i ⟨p1,p2⟩
 have next:i<s.length->(lowerB (s.getD i 0)\/(i≠0/\oL (s.getD i 0)))->∀j,j<i+1->lowerB (s.getD j 0)\/(j≠0/\oL (s.getD j 0)):=fun hi h j hj=>by
  by_cases e:j=i
  ·subst e;exact h
  ·exact p2 j (by omega)
 have bad:i<s.length->¬(lowerB (s.getD i 0)\/(i≠0/\oL (s.getD i 0)))->validName s=false:=fun hi h=>bI fun x=>h (x.2.2 i hi);simp -implicitDefEqProofs (disch:=omega) only[go_sem]
 with_reducible refine aD (fun hb=> ?_) (fun hb=> ?_)<;>have h:=hb<;>(try simp only[wf_preprocess] at h)<;>simp -implicitDefEqProofs (disch:=omega) only[go_sem,hb]<;>(repeat(with_reducible refine And.intro ?_ ?_;focus first|omega|rfl|assumption|exact⟨_,rfl,rfl⟩|(simp;omega)|(simp;done)))
 ·have hi:i<s.length:=by omega
  (repeat(with_reducible refine And.intro ?_ ?_;focus first|omega|rfl|assumption|exact⟨_,rfl,rfl⟩|(simp;omega)|(simp;done)))
  refine aA (J2 (s.getD i 0)) ?_;simp -implicitDefEqProofs (disch:=omega) only[go_sem]<;>(repeat(with_reducible refine And.intro ?_ ?_;focus first|omega|rfl|assumption|exact⟨_,rfl,rfl⟩|(simp;omega)|(simp;done)))
  with_reducible refine aD (fun hb=> ?_) (fun hb=> ?_)<;>have h:=hb<;>(try simp only[wf_preprocess] at h)<;>simp -implicitDefEqProofs (disch:=omega) only[go_sem,hb]<;>(repeat(with_reducible refine And.intro ?_ ?_;focus first|omega|rfl|assumption|exact⟨_,rfl,rfl⟩|(simp;omega)|(simp;done)))
  ·have nl:=h
   with_reducible refine aD (fun hb=> ?_) (fun hb=> ?_)<;>have h:=hb<;>(try simp only[wf_preprocess] at h)<;>simp -implicitDefEqProofs (disch:=omega) only[go_sem,hb]<;>(repeat(with_reducible refine And.intro ?_ ?_;focus first|omega|rfl|assumption|exact⟨_,rfl,rfl⟩|(simp;omega)|(simp;done)))
   ·have i0:i=0:=by omega
    rw[bad hi (fun x=>x.elim nl fun y=>y.1 i0)]
   ·have ne:=h
    (repeat(with_reducible refine And.intro ?_ ?_;focus first|omega|rfl|assumption|exact⟨_,rfl,rfl⟩|(simp;omega)|(simp;done)))
    refine aA (J3 (s.getD i 0)) ?_;simp -implicitDefEqProofs (disch:=omega) only[go_sem]<;>(repeat(with_reducible refine And.intro ?_ ?_;focus first|omega|rfl|assumption|exact⟨_,rfl,rfl⟩|(simp;omega)|(simp;done)))
    with_reducible refine aD (fun hb=> ?_) (fun hb=> ?_)<;>have h:=hb<;>(try simp only[wf_preprocess] at h)<;>simp -implicitDefEqProofs (disch:=omega) only[go_sem,hb]<;>(repeat(with_reducible refine And.intro ?_ ?_;focus first|omega|rfl|assumption|exact⟨_,rfl,rfl⟩|(simp;omega)|(simp;done)))
    ·rw[bad hi (fun x=>x.elim nl fun y=>h y.2)]
    ·exact dG (i+1) (by omega) rfl rfl ⟨by omega,next hi (.inr ⟨by omega,h⟩)⟩
  ·exact dG (i+1) (by omega) rfl rfl ⟨by omega,next hi (.inl h)⟩
 ·have hn:Qj s:=fun j hj=>p2 j (by omega)
  have h0:∀b,dec (s∈reserved)=b->∀c,decide ((s.length:Int)>=1)=c->∀d,decide ((s.length:Int)<=8)=d->validName s=(c&&d&& !b):=by
   rintro b rfl c rfl d rfl;unfold validName;rw[Bool.eq_iff_iff];simp only[xG,Bool.and_eq_true,decide_eq_true_eq,Bool.not_eq_true',EL];exact⟨fun x=>⟨⟨by omega,by omega⟩,x.2.1⟩,fun x=>⟨⟨by omega,by omega⟩,x.2,hn⟩⟩
  with_reducible refine aD (fun hb=> ?_) (fun hb=> ?_)<;>have h:=hb<;>(try simp only[wf_preprocess] at h)<;>simp -implicitDefEqProofs (disch:=omega) only[go_sem,hb]<;>(repeat(with_reducible refine And.intro ?_ ?_;focus first|omega|rfl|assumption|exact⟨_,rfl,rfl⟩|(simp;omega)|(simp;done)))
  ·have c1:=hb
   with_reducible refine aD (fun hb=> ?_) (fun hb=> ?_)<;>have h:=hb<;>(try simp only[wf_preprocess] at h)<;>simp -implicitDefEqProofs (disch:=omega) only[go_sem,hb]<;>(repeat(with_reducible refine And.intro ?_ ?_;focus first|omega|rfl|assumption|exact⟨_,rfl,rfl⟩|(simp;omega)|(simp;done)))
   ·refine aA (JZ s) ?_;simp -implicitDefEqProofs (disch:=omega) only[go_sem]<;>(repeat(with_reducible refine And.intro ?_ ?_;focus first|omega|rfl|assumption|exact⟨_,rfl,rfl⟩|(simp;omega)|(simp;done)));exact aY (by rw[h0 _ rfl _ c1 _ hb];simp)
   ·exact aY (by rw[h0 _ rfl _ c1 _ hb];simp)
  ·exact aY (by rw[h0 _ rfl _ hb _ rfl];simp)
theorem kF(s:List UInt8)(hl:s.length<=1073741824):aJ prog 52 [.c (.d (.s s))] (.c (.d (.b (validName s)))):=fun S=>by
 have bad:¬Qj s->validName s=false:=fun h=>bI fun x=>h x.2.2;refine zcx [.tmp 2] func52 ntmps52 ?_;simp -implicitDefEqProofs (disch:=omega) only[go_sem];refine aA (Ck s.length 1 8) ?_;simp -implicitDefEqProofs (disch:=omega) only[go_sem]<;>(repeat(with_reducible refine And.intro ?_ ?_;focus first|omega|rfl|assumption|exact⟨_,rfl,rfl⟩|(simp;omega)|(simp;done)))
 with_reducible refine aD (fun hb=> ?_) (fun hb=> ?_)<;>have h:=hb<;>(try simp only[wf_preprocess] at h)<;>simp -implicitDefEqProofs (disch:=omega) only[go_sem,hb]<;>(repeat(with_reducible refine And.intro ?_ ?_;focus first|omega|rfl|assumption|exact⟨_,rfl,rfl⟩|(simp;omega)|(simp;done)))
 ·rw[show validName s=false from bI fun x=>h (by omega)]
 have hlen:=h;refine aA (JY s) ?_;simp -implicitDefEqProofs (disch:=omega) only[go_sem]<;>(repeat(with_reducible refine And.intro ?_ ?_;focus first|omega|rfl|assumption|exact⟨_,rfl,rfl⟩|(simp;omega)|(simp;done)))
 with_reducible refine aD (fun hb=> ?_) (fun hb=> ?_)<;>have h:=hb<;>(try simp only[wf_preprocess] at h)<;>simp -implicitDefEqProofs (disch:=omega) only[go_sem,hb]<;>(repeat(with_reducible refine And.intro ?_ ?_;focus first|omega|rfl|assumption|exact⟨_,rfl,rfl⟩|(simp;omega)|(simp;done)))
 ·rw[show validName s=false from bI fun x=>x.2.1 h]
 have hres:=h
 refine bF (ι:=Nat) zmx rfl [0,3] (fun i=>[.c (.d (.s s)),.c (.d (.i .i64 i))]) (fun _=>[]::S)
  (fun i=>i<=s.length/\∀j,j<i->lowerB (s.getD j 0)\/(j≠0/\oL (s.getD j 0))) (fun i=>s.length-i) 0 rfl rfl ⟨Nat.zero_le _,fun j h=>by omega⟩ ?_
 rintro i ⟨p1,p2⟩
 have next:i<s.length->(lowerB (s.getD i 0)\/(i≠0/\oL (s.getD i 0)))->∀j,j<i+1->lowerB (s.getD j 0)\/(j≠0/\oL (s.getD j 0)):=fun hi h j hj=>by
  by_cases e:j=i
  ·subst e;exact h
  ·exact p2 j (by omega)
 simp -implicitDefEqProofs (disch:=omega) only[go_sem]
 with_reducible refine aD (fun hb=> ?_) (fun hb=> ?_)<;>have h:=hb<;>(try simp only[wf_preprocess] at h)<;>simp -implicitDefEqProofs (disch:=omega) only[go_sem,hb]<;>(repeat(with_reducible refine And.intro ?_ ?_;focus first|omega|rfl|assumption|exact⟨_,rfl,rfl⟩|(simp;omega)|(simp;done)))
 ·have hi:i<s.length:=by omega
  have bad':¬(lowerB (s.getD i 0)\/(i≠0/\oL (s.getD i 0)))->validName s=false:=fun h=>bad fun x=>h (x i hi)
  have next:=next hi
  unfold lowerB oL at bad' next
  all_goals try(with_reducible refine aD (fun hb=> ?_) (fun hb=> ?_)<;>have h:=hb<;>(try simp only[wf_preprocess] at h)<;>simp -implicitDefEqProofs (disch:=omega) only[go_sem,hb]<;>(repeat(with_reducible refine And.intro ?_ ?_;focus first|omega|rfl|assumption|exact⟨_,rfl,rfl⟩|(simp;omega)|(simp;done))))
  all_goals try(with_reducible refine aD (fun hb=> ?_) (fun hb=> ?_)<;>have h:=hb<;>(try simp only[wf_preprocess] at h)<;>simp -implicitDefEqProofs (disch:=omega) only[go_sem,hb]<;>(repeat(with_reducible refine And.intro ?_ ?_;focus first|omega|rfl|assumption|exact⟨_,rfl,rfl⟩|(simp;omega)|(simp;done))))
  all_goals try(with_reducible refine aD (fun hb=> ?_) (fun hb=> ?_)<;>have h:=hb<;>(try simp only[wf_preprocess] at h)<;>simp -implicitDefEqProofs (disch:=omega) only[go_sem,hb]<;>(repeat(with_reducible refine And.intro ?_ ?_;focus first|omega|rfl|assumption|exact⟨_,rfl,rfl⟩|(simp;omega)|(simp;done))))
  all_goals try(with_reducible refine aD (fun hb=> ?_) (fun hb=> ?_)<;>have h:=hb<;>(try simp only[wf_preprocess] at h)<;>simp -implicitDefEqProofs (disch:=omega) only[go_sem,hb]<;>(repeat(with_reducible refine And.intro ?_ ?_;focus first|omega|rfl|assumption|exact⟨_,rfl,rfl⟩|(simp;omega)|(simp;done))))
  all_goals try(with_reducible refine aD (fun hb=> ?_) (fun hb=> ?_)<;>have h:=hb<;>(try simp only[wf_preprocess] at h)<;>simp -implicitDefEqProofs (disch:=omega) only[go_sem,hb]<;>(repeat(with_reducible refine And.intro ?_ ?_;focus first|omega|rfl|assumption|exact⟨_,rfl,rfl⟩|(simp;omega)|(simp;done))))
  all_goals try(with_reducible refine aD (fun hb=> ?_) (fun hb=> ?_)<;>have h:=hb<;>(try simp only[wf_preprocess] at h)<;>simp -implicitDefEqProofs (disch:=omega) only[go_sem,hb]<;>(repeat(with_reducible refine And.intro ?_ ?_;focus first|omega|rfl|assumption|exact⟨_,rfl,rfl⟩|(simp;omega)|(simp;done))))
  all_goals first
   |exact dG (i+1) (by omega) rfl rfl ⟨by omega,next (by omega)⟩
   |exact aY (bad' (by omega)).symm
 ·rw[show validName s=true from bT ⟨by omega,hres,fun j hj=>p2 j (by omega)⟩]
theorem Zd(s:List UInt8):aJ prog 209 [.c (.d (.s s))] (.c (.d (.b (uH s)))):=fun S=>by
 refine zcx [.tmp 2] func209 ntmps209 ?_;simp -implicitDefEqProofs (disch:=omega) only[go_sem]
 with_reducible refine aD (fun hb=> ?_) (fun hb=> ?_)<;>have h:=hb<;>(try simp only[wf_preprocess] at h)<;>simp -implicitDefEqProofs (disch:=omega) only[go_sem,hb]<;>(repeat(with_reducible refine And.intro ?_ ?_;focus first|omega|rfl|assumption|exact⟨_,rfl,rfl⟩|(simp;omega)|(simp;done)))
 ·exact aY (bT (.inl h)).symm
 ·exact aY (by rw[kY];exact jJ ⟨fun x=>.inr x,fun x=>x.resolve_left h⟩)
theorem Qk(s:List UInt8):aJ prog 200 [.c (.d (.s s))] (.c (.d (.b (uH s)))):=fun S=>by
 refine zcx [.tmp 2] func200 ntmps200 ?_;simp -implicitDefEqProofs (disch:=omega) only[go_sem]
 with_reducible refine aD (fun hb=> ?_) (fun hb=> ?_)<;>have h:=hb<;>(try simp only[wf_preprocess] at h)<;>simp -implicitDefEqProofs (disch:=omega) only[go_sem,hb]<;>(repeat(with_reducible refine And.intro ?_ ?_;focus first|omega|rfl|assumption|exact⟨_,rfl,rfl⟩|(simp;omega)|(simp;done)))
 ·exact aY (bT (.inl h)).symm
 ·exact aY (by rw[kY];exact jJ ⟨fun x=>.inr x,fun x=>x.resolve_left h⟩)
theorem sH{x:au}{i:Nat}(hi:i<x.fArgs.length)(h:x.sz<=4194304):x.fArgs[i].sz<=4194304/\x.fArgs.length<=4194304/\x.fName.length<=4194304:=by
 have hx:x.fArgs[i].sz<=bB (x.fArgs.map au.enc):=gT (List.mem_map_of_mem (List.getElem_mem hi));simp only[au.sz,au.aB,bL,D.sz,List.length_map] at h;omega
theorem A8{x:au}(h:x.sz<=4194304):x.fArgs.length<=4194304/\x.fName.length<=4194304:=by
 simp only[au.sz,au.aB,bL,D.sz,List.length_map] at h;omega
theorem kK:∀{ts:List au}{i:Nat}(hi:i<ts.length),au.dD (ts.drop i)=ts[i].cnt+au.dD (ts.drop (i+1)):=fun {ts} {i} hi=>by
 rw[List.drop_eq_getElem_cons hi,au.dD]
theorem Hl:∀{ts:List au}{i:Nat}(hi:i<ts.length),depths (ts.drop i)=max (lg ts[i]+1) (depths (ts.drop (i+1))):=fun {ts} {i} hi=>by
 rw[List.drop_eq_getElem_cons hi,depths]
theorem Ql:∀{ts:List au}{i:Nat}(hi:i<ts.length),ji (ts.drop i)=(formed ts[i]&&ji (ts.drop (i+1))):=fun {ts} {i} hi=>by
 rw[List.drop_eq_getElem_cons hi,ji]
theorem J4:∀n:Nat,∀x:au,SizeOf.sizeOf x<n->∀l:Int,0<=l->l<=1073741824->x.sz<=4194304->aJ prog 179 [x.v,.c (.d (.i .i64 l))] (.c (.d (.i .i64 (l7 l x.cnt))))
 |0=>fun x h=>by omega
 |n+1=>by
  have ih:=J4 n;intro x hn l h0 h1 hsz S;have jA:=au.iI x;have hts:=A8 hsz;have hcn:=au.nu x;refine zcx [.tmp 4] func179 ntmps179 ?_;simp -implicitDefEqProofs (disch:=omega) only[go_sem]
  refine bF (ι:=Nat×Int) zmx rfl [1,2,5] (fun y=>[.c (.d (.i .i64 y.2)),.c (.ptr (0,0) 0),.c (.d (.i .i64 y.1))]) (fun y=>[.box [.d (.i .i64 x.aI),.d (.s x.fName),.d (.sl (x.fArgs.map au.enc))]]::S)
   (fun y=>y.1<=x.fArgs.length/\ -1<=y.2/\y.2<=1073741824/\(0<=y.2->l7 l x.cnt=l7 y.2 (au.dD (x.fArgs.drop y.1)))/\(y.2<0->l7 l x.cnt= -1)) (fun y=>x.fArgs.length-y.1) (0,l-1) rfl rfl ⟨Nat.zero_le _,by simp only;omega,by simp only;omega,fun h=> ?_,fun h=> ?_⟩ ?_
  ·simp only[List.drop_zero] at h ⊢;unfold l7;rw[hcn];split<;>split<;>omega
  ·simp only at h;exact Gj (by omega)
  rintro⟨i,c⟩ ⟨p1,p2,p3,p4,p5⟩;simp only at p1 p2 p3 p4 p5;simp -implicitDefEqProofs (disch:=omega) only[go_sem]
  with_reducible refine aD (fun hb=> ?_) (fun hb=> ?_)<;>have h:=hb<;>(try simp only[wf_preprocess] at h)<;>simp -implicitDefEqProofs (disch:=omega) only[go_sem,hb]<;>(repeat(with_reducible refine And.intro ?_ ?_;focus first|omega|rfl|assumption|exact⟨_,rfl,rfl⟩|(simp;omega)|(simp;done)))
  ·have hi:i<x.fArgs.length:=by omega
   with_reducible refine aD (fun hb=> ?_) (fun hb=> ?_)<;>have h:=hb<;>(try simp only[wf_preprocess] at h)<;>simp -implicitDefEqProofs (disch:=omega) only[go_sem,hb]<;>(repeat(with_reducible refine And.intro ?_ ?_;focus first|omega|rfl|assumption|exact⟨_,rfl,rfl⟩|(simp;omega)|(simp;done)))
   ·have hsz':=sH hi hsz;have p6:=p4 h;rw[kK hi] at p6
    (repeat(with_reducible refine And.intro ?_ ?_;focus first|omega|rfl|assumption|exact⟨_,rfl,rfl⟩|(simp;omega)|(simp;done)))
    refine aA (ih x.fArgs[i] (by have:=List.sizeOf_lt_of_mem (List.getElem_mem hi);omega) c (by omega) (by omega) (by omega)) ?_;simp -implicitDefEqProofs (disch:=omega) only[go_sem]<;>(repeat(with_reducible refine And.intro ?_ ?_;focus first|omega|rfl|assumption|exact⟨_,rfl,rfl⟩|(simp;omega)|(simp;done)));refine dG (i+1,l7 c _) (by simp only;omega) rfl rfl ⟨by simp only;omega,?_,?_,fun h=> ?_,fun h=> ?_⟩
    ·simp only;unfold l7;split<;>omega
    ·simp only;unfold l7;split<;>omega
    ·simp only at h ⊢;rw[p6];have:=Gi (l:=c) (a:=x.fArgs[i].cnt) (by omega);rw[this.1];unfold l7;split<;>split<;>omega
    ·simp only at h ⊢;rw[p6];have:=Dl h;exact Gj (by omega)
   ·have hc:c= -1:=by omega
    rw[p5 (by omega),hc]
  ·have hi:i=x.fArgs.length:=by omega
   by_cases hc:0<=c
   ·rw[p4 hc,hi,List.drop_length,au.dD,P5 (by omega)];exact int_eq (by simp)
   ·rw[p5 (by omega)];exact int_eq (by omega)
theorem Ze(x:au)(l:Int)(h0:0<=l)(h1:l<=1073741824)(hsz:x.sz<=4194304):aJ prog 179 [x.v,.c (.d (.i .i64 l))] (.c (.d (.i .i64 (l7 l x.cnt)))):=J4 _ x (Nat.lt_succ_self _) l h0 h1 hsz
theorem Qm(a b:Int):aJ prog 189 [.c (.d (.i .i64 a)),.c (.d (.i .i64 b))] (.c (.d (.i .i64 (max a b)))):=fun S=>by
 refine zcx [.tmp 4] func189 ntmps189 ?_;simp -implicitDefEqProofs (disch:=omega) only[go_sem]
 with_reducible refine aD (fun hb=> ?_) (fun hb=> ?_)<;>have h:=hb<;>(try simp only[wf_preprocess] at h)<;>simp -implicitDefEqProofs (disch:=omega) only[go_sem,hb]<;>(repeat(with_reducible refine And.intro ?_ ?_;focus first|omega|rfl|assumption|exact⟨_,rfl,rfl⟩|(simp;omega)|(simp;done)))
 ·exact int_eq (by omega)
 ·exact int_eq (by omega)
theorem Ea:∀n:Nat,∀x:au,SizeOf.sizeOf x<n->x.sz<=4194304->aJ prog 180 [x.v] (.c (.d (.i .i64 (lg x))))
 |0=>fun x h=>by omega
 |n+1=>by
  have ih:=Ea n;intro x hn hsz S;have jA:=au.iI x;have hts:=A8 hsz;have hd1:=yu x;have hd2:=jT x;refine zcx [.tmp 2] func180 ntmps180 ?_;simp -implicitDefEqProofs (disch:=omega) only[go_sem]
  refine bF (ι:=Nat×Nat) zmx rfl [1,3,4] (fun y=>[.c (.ptr (0,0) 0),.c (.d (.i .i64 y.2)),.c (.d (.i .i64 y.1))]) (fun y=>[.box [.d (.i .i64 x.aI),.d (.s x.fName),.d (.sl (x.fArgs.map au.enc))]]::S)
   (fun y=>y.1<=x.fArgs.length/\lg x=max y.2 (depths (x.fArgs.drop y.1))) (fun y=>x.fArgs.length-y.1) (0,0) rfl rfl ⟨Nat.zero_le _,by simp[MK]⟩ ?_
  rintro⟨i,c⟩ ⟨p1,p2⟩;simp only at p1 p2;simp -implicitDefEqProofs (disch:=omega) only[go_sem]
  with_reducible refine aD (fun hb=> ?_) (fun hb=> ?_)<;>have h:=hb<;>(try simp only[wf_preprocess] at h)<;>simp -implicitDefEqProofs (disch:=omega) only[go_sem,hb]<;>(repeat(with_reducible refine And.intro ?_ ?_;focus first|omega|rfl|assumption|exact⟨_,rfl,rfl⟩|(simp;omega)|(simp;done)))
  ·have hi:i<x.fArgs.length:=by omega
   have hsz':=sH hi hsz;rw[Hl hi] at p2;have hd3:=yu x.fArgs[i];have hd4:=jT x.fArgs[i]
   (repeat(with_reducible refine And.intro ?_ ?_;focus first|omega|rfl|assumption|exact⟨_,rfl,rfl⟩|(simp;omega)|(simp;done)))
   refine aA (ih x.fArgs[i] (by have:=List.sizeOf_lt_of_mem (List.getElem_mem hi);omega) (by omega)) ?_;simp -implicitDefEqProofs (disch:=omega) only[go_sem]<;>(repeat(with_reducible refine And.intro ?_ ?_;focus first|omega|rfl|assumption|exact⟨_,rfl,rfl⟩|(simp;omega)|(simp;done)));refine aA (Qm _ _) ?_;simp -implicitDefEqProofs (disch:=omega) only[go_sem]<;>(repeat(with_reducible refine And.intro ?_ ?_;focus first|omega|rfl|assumption|exact⟨_,rfl,rfl⟩|(simp;omega)|(simp;done)));rw[show max (c:Int) (1+(lg x.fArgs[i]:Int))=((max c (1+lg x.fArgs[i]):Nat):Int) by omega];exact dG (i+1,max c (1+lg x.fArgs[i])) (by simp only;omega) rfl rfl ⟨by simp only;omega,by simp only;omega⟩
  ·have hi:i=x.fArgs.length:=by omega
   rw[hi,List.drop_length,depths] at p2;exact int_eq (by omega)
theorem Qn(x:au)(hsz:x.sz<=4194304):aJ prog 180 [x.v] (.c (.d (.i .i64 (lg x)))):=Ea _ x (Nat.lt_succ_self _) hsz
theorem Eb:∀n:Nat,∀x:au,SizeOf.sizeOf x<n->x.sz<=4194304->aJ prog 173 [x.v] (.c (.d (.i .i64 (lg x))))
 |0=>fun x h=>by omega
 |n+1=>by
  have ih:=Eb n;intro x hn hsz S;have jA:=au.iI x;have hts:=A8 hsz;have hd1:=yu x;have hd2:=jT x;refine zcx [.tmp 2] func173 ntmps173 ?_;simp -implicitDefEqProofs (disch:=omega) only[go_sem]
  refine bF (ι:=Nat×Nat) zmx rfl [3,7,8,9] (fun y=>[.c (.d (.i .i64 y.2)),.c (.d (.sl (x.fArgs.map au.enc))),.c (.d (.i .i64 x.fArgs.length)),.c (.d (.i .i64 y.1))]) (fun y=>[.box [.d (.i .i64 x.aI),.d (.s x.fName),.d (.sl (x.fArgs.map au.enc))]]::S)
   (fun y=>y.1<=x.fArgs.length/\lg x=max y.2 (depths (x.fArgs.drop y.1))) (fun y=>x.fArgs.length-y.1) (0,0) rfl rfl ⟨Nat.zero_le _,by simp[MK]⟩ ?_
  rintro⟨i,c⟩ ⟨p1,p2⟩;simp only at p1 p2;simp -implicitDefEqProofs (disch:=omega) only[go_sem]
  with_reducible refine aD (fun hb=> ?_) (fun hb=> ?_)<;>have h:=hb<;>(try simp only[wf_preprocess] at h)<;>simp -implicitDefEqProofs (disch:=omega) only[go_sem,hb]<;>(repeat(with_reducible refine And.intro ?_ ?_;focus first|omega|rfl|assumption|exact⟨_,rfl,rfl⟩|(simp;omega)|(simp;done)))
  ·have hi:i<x.fArgs.length:=by omega
   have hsz':=sH hi hsz;rw[Hl hi] at p2;have hd3:=yu x.fArgs[i];have hd4:=jT x.fArgs[i]
   (repeat(with_reducible refine And.intro ?_ ?_;focus first|omega|rfl|assumption|exact⟨_,rfl,rfl⟩|(simp;omega)|(simp;done)))
   refine aA (ih x.fArgs[i] (by have:=List.sizeOf_lt_of_mem (List.getElem_mem hi);omega) (by omega)) ?_;simp -implicitDefEqProofs (disch:=omega) only[go_sem]<;>(repeat(with_reducible refine And.intro ?_ ?_;focus first|omega|rfl|assumption|exact⟨_,rfl,rfl⟩|(simp;omega)|(simp;done)));rw[show max (c:Int) ((lg x.fArgs[i]:Int)+1)=((max c (lg x.fArgs[i]+1):Nat):Int) by omega];exact dO 1 (by decide) (i+1,max c (lg x.fArgs[i]+1)) (by simp only;omega) rfl rfl rfl rfl ⟨by simp only;omega,by simp only;omega⟩
  ·have hi:i=x.fArgs.length:=by omega
   rw[hi,List.drop_length,depths] at p2;exact int_eq (by omega)
theorem Qo(x:au)(hsz:x.sz<=4194304):aJ prog 173 [x.v] (.c (.d (.i .i64 (lg x)))):=Eb _ x (Nat.lt_succ_self _) hsz
theorem EX:∀n:Nat,∀x:au,SizeOf.sizeOf x<n->x.sz<=4194304->aJ prog 174 [x.v] (.c (.d (.i .i64 x.cnt)))
 |0=>fun x h=>by omega
 |n+1=>by
  have ih:=EX n;intro x hn hsz S;have jA:=au.iI x;have hts:=A8 hsz;have hd2:=jT x;refine zcx [.tmp 2] func174 ntmps174 ?_;simp -implicitDefEqProofs (disch:=omega) only[go_sem]
  refine bF (ι:=Nat×Nat) zmx rfl [3,7,8,9] (fun y=>[.c (.d (.i .i64 y.2)),.c (.d (.sl (x.fArgs.map au.enc))),.c (.d (.i .i64 x.fArgs.length)),.c (.d (.i .i64 y.1))]) (fun y=>[.box [.d (.i .i64 x.aI),.d (.s x.fName),.d (.sl (x.fArgs.map au.enc))]]::S)
   (fun y=>y.1<=x.fArgs.length/\x.cnt=y.2+au.dD (x.fArgs.drop y.1)) (fun y=>x.fArgs.length-y.1) (0,1) rfl rfl ⟨Nat.zero_le _,by simp[au.nu]⟩ ?_
  rintro⟨i,c⟩ ⟨p1,p2⟩;simp only at p1 p2;simp -implicitDefEqProofs (disch:=omega) only[go_sem]
  with_reducible refine aD (fun hb=> ?_) (fun hb=> ?_)<;>have h:=hb<;>(try simp only[wf_preprocess] at h)<;>simp -implicitDefEqProofs (disch:=omega) only[go_sem,hb]<;>(repeat(with_reducible refine And.intro ?_ ?_;focus first|omega|rfl|assumption|exact⟨_,rfl,rfl⟩|(simp;omega)|(simp;done)))
  ·have hi:i<x.fArgs.length:=by omega
   have hsz':=sH hi hsz;rw[kK hi] at p2
   (repeat(with_reducible refine And.intro ?_ ?_;focus first|omega|rfl|assumption|exact⟨_,rfl,rfl⟩|(simp;omega)|(simp;done)))
   refine aA (ih x.fArgs[i] (by have:=List.sizeOf_lt_of_mem (List.getElem_mem hi);omega) (by omega)) ?_;simp -implicitDefEqProofs (disch:=omega) only[go_sem]<;>(repeat(with_reducible refine And.intro ?_ ?_;focus first|omega|rfl|assumption|exact⟨_,rfl,rfl⟩|(simp;omega)|(simp;done)));rw[show(c:Int)+(x.fArgs[i].cnt:Int)=((c+x.fArgs[i].cnt:Nat):Int) by omega];exact dO 1 (by decide) (i+1,c+x.fArgs[i].cnt) (by simp only;omega) rfl rfl rfl rfl ⟨by simp only;omega,by simp only;omega⟩
  ·have hi:i=x.fArgs.length:=by omega
   rw[hi,List.drop_length,au.dD] at p2;exact int_eq (by omega)
theorem SH(x:au)(hsz:x.sz<=4194304):aJ prog 174 [x.v] (.c (.d (.i .i64 x.cnt))):=EX _ x (Nat.lt_succ_self _) hsz
theorem EY:∀n:Nat,(∀x:au,SizeOf.sizeOf x<n->x.sz<=4194304->aJ prog 172 [x.v] (.c (.d (.b (formed x)))))/\
 (∀xs:List au,SizeOf.sizeOf xs<n->xs.length<=4194304->(∀t∈xs,t.sz<=4194304)->aJ prog 113 [.c (.d (.sl (xs.map au.enc))),.c (.fn 201 [])] (.c (.d (.b (!ji xs)))))
 |0=>⟨fun x h=>by omega,fun x h=>by omega⟩
 |n+1=>by
  obtain⟨ih,nJ⟩:=EY n;refine⟨fun x hn hsz S=> ?_,fun xs hn hlen hsz S=> ?_⟩
  ·have jA:=au.iI x;have hts:=A8 hsz
   have fin:∀b,zi x.aI x.fName x.fArgs.length=b->formed x=(b&&ji x.fArgs):=fun b hb=>by rw[<-hb];exact u6 x
   have hall:∀t∈x.fArgs,t.sz<=4194304:=fun t ht=>by
    obtain⟨i,hi,e⟩:=List.getElem_of_mem ht;rw[<-e];exact(sH hi hsz).1
   have tail:=nJ x.fArgs (by omega) hts.1 hall
   have yes:zi x.aI x.fName x.fArgs.length=true->formed x= !(!ji x.fArgs):=fun h=>by rw[fin _ h];simp
   have no:zi x.aI x.fName x.fArgs.length=false->formed x=false:=fun h=>by rw[fin _ h];simp
   have shut:¬((x.aI=1\/x.aI=4)/\validName x.fName=true/\x.fArgs.length=0\/x.aI=3/\validName x.fName=true/\x.fArgs.length=1\/x.aI=2/\(validName x.fName=true/\x.fArgs.length<=3\/uH x.fName=true/\x.fArgs.length=0))->V.c (.d (.b false))=V.c (.d (.b (formed x))):=fun h=>aY (no (bI h)).symm;have open_:((x.aI=1\/x.aI=4)/\validName x.fName=true/\x.fArgs.length=0\/x.aI=3/\validName x.fName=true/\x.fArgs.length=1\/x.aI=2/\(validName x.fName=true/\x.fArgs.length<=3\/uH x.fName=true/\x.fArgs.length=0))->V.c (.d (.b (!(!ji x.fArgs))))=V.c (.d (.b (formed x))):=fun h=>aY (yes (bT h)).symm;clear yes no fin;refine zcx [.tmp 2] func172 ntmps172 ?_;simp -implicitDefEqProofs (disch:=omega) only[go_sem]
   repeat' (first
    |(with_reducible refine aD (fun hb=> ?_) (fun hb=> ?_)<;>have h:=hb<;>(try simp only[wf_preprocess] at h)<;>simp -implicitDefEqProofs (disch:=omega) only[go_sem,hb]<;>(repeat(with_reducible refine And.intro ?_ ?_;focus first|omega|rfl|assumption|exact⟨_,rfl,rfl⟩|(simp;omega)|(simp;done))))
    |(refine aA (kE x.fName (by omega)) ?_;simp -implicitDefEqProofs (disch:=omega) only[go_sem])
    |(refine aA (Qk x.fName) ?_;simp -implicitDefEqProofs (disch:=omega) only[go_sem])
    |(refine aA tail ?_;simp -implicitDefEqProofs (disch:=omega) only[go_sem]))
   all_goals first
    |(refine shut (fun y=> ?_);rcases y with⟨_,_,_⟩|⟨_,_,_⟩|⟨_,⟨_,_⟩|⟨_,_⟩⟩<;>first|omega|(simp_all;done))
    |(refine open_ ?_;first
       |exact .inl ⟨by omega,by assumption,by omega⟩
       |exact .inr (.inl ⟨by omega,by assumption,by omega⟩)
       |exact .inr (.inr ⟨by omega,.inl ⟨by assumption,by omega⟩⟩)
       |exact .inr (.inr ⟨by omega,.inr ⟨by assumption,by omega⟩⟩))
  ·have hcl:∀y∈xs,aJ prog 201 [y.v] (.c (.d (.b (!formed y)))):=fun y hy S=>by
    have hys:=List.sizeOf_lt_of_mem hy;refine zcx [.tmp 2] func201 ntmps201 ?_;simp -implicitDefEqProofs (disch:=omega) only[go_sem];refine aA (ih y (by omega) (hsz y hy)) ?_;simp -implicitDefEqProofs (disch:=omega) only[go_sem]<;>(repeat(with_reducible refine And.intro ?_ ?_;focus first|omega|rfl|assumption|exact⟨_,rfl,rfl⟩|(simp;omega)|(simp;done)))
   have hidx:aJ prog 171 [.c (.d (.sl (xs.map au.enc))),.c (.fn 201 [])] (.c (.d (.i .i64 (qQ (fun y=> !formed y) xs)))):=fun S=>by
    refine zcx [.tmp 4] func171 ntmps171 ?_;simp -implicitDefEqProofs (disch:=omega) only[go_sem]
    refine bF (ι:=Nat) zmx rfl [0,1,7,8] (fun i=>[.c (.d (.sl (xs.map au.enc))),.c (.fn 201 []),.c (.d (.i .i64 xs.length)),.c (.d (.i .i64 i))]) (fun _=>[]::S)
     (fun i=>i<=xs.length/\∀j,∀hj:j<xs.length,j<i->formed xs[j]=true) (fun i=>xs.length-i) 0 rfl rfl ⟨Nat.zero_le _,fun j _ h=>by omega⟩ ?_
    rintro i ⟨p1,p2⟩;simp -implicitDefEqProofs (disch:=omega) only[go_sem]
    with_reducible refine aD (fun hb=> ?_) (fun hb=> ?_)<;>have h:=hb<;>(try simp only[wf_preprocess] at h)<;>simp -implicitDefEqProofs (disch:=omega) only[go_sem,hb]<;>(repeat(with_reducible refine And.intro ?_ ?_;focus first|omega|rfl|assumption|exact⟨_,rfl,rfl⟩|(simp;omega)|(simp;done)))
    ·have hi:i<xs.length:=by omega
     (repeat(with_reducible refine And.intro ?_ ?_;focus first|omega|rfl|assumption|exact⟨_,rfl,rfl⟩|(simp;omega)|(simp;done)))
     refine aA (hcl xs[i] (List.getElem_mem hi)) ?_;simp -implicitDefEqProofs (disch:=omega) only[go_sem]<;>(repeat(with_reducible refine And.intro ?_ ?_;focus first|omega|rfl|assumption|exact⟨_,rfl,rfl⟩|(simp;omega)|(simp;done)))
     with_reducible refine aD (fun hb=> ?_) (fun hb=> ?_)<;>have h:=hb<;>(try simp only[wf_preprocess] at h)<;>simp -implicitDefEqProofs (disch:=omega) only[go_sem,hb]<;>(repeat(with_reducible refine And.intro ?_ ?_;focus first|omega|rfl|assumption|exact⟨_,rfl,rfl⟩|(simp;omega)|(simp;done)))
     ·rw[rD hi (fun j hj hji=>by rw[p2 j hj hji];rfl) (by rw[h];rfl)]
     ·refine dG (i+1) (by omega) rfl rfl ⟨by omega,fun j hj hji=> ?_⟩;by_cases e:j=i
      ·subst e;exact h
      ·exact p2 j hj (by omega)
    ·rw[uZ (fun j hj=>by rw[p2 j hj (by omega)];rfl)]
   refine zcx [.tmp 4] func113 ntmps113 ?_;simp -implicitDefEqProofs (disch:=omega) only[go_sem];refine aA (hidx) ?_;simp -implicitDefEqProofs (disch:=omega) only[go_sem]<;>(repeat(with_reducible refine And.intro ?_ ?_;focus first|omega|rfl|assumption|exact⟨_,rfl,rfl⟩|(simp;omega)|(simp;done)));rw[<-Hg];exact aY tq
theorem SI(x:au)(hsz:x.sz<=4194304):aJ prog 172 [x.v] (.c (.d (.b (formed x)))):=(EY _).1 x (Nat.lt_succ_self _) hsz
theorem uI(x:au)(hsz:x.sz<=4194304):aJ prog 115 [x.v] (.c (.d (.b (lK x)))):=fun S=>by
 refine zcx [.tmp 2] func115 ntmps115 ?_;simp -implicitDefEqProofs (disch:=omega) only[go_sem];refine aA (SI x hsz) ?_;simp -implicitDefEqProofs (disch:=omega) only[go_sem]<;>(repeat(with_reducible refine And.intro ?_ ?_;focus first|omega|rfl|assumption|exact⟨_,rfl,rfl⟩|(simp;omega)|(simp;done)))
 with_reducible refine aD (fun hb=> ?_) (fun hb=> ?_)<;>have h:=hb<;>(try simp only[wf_preprocess] at h)<;>simp -implicitDefEqProofs (disch:=omega) only[go_sem,hb]<;>(repeat(with_reducible refine And.intro ?_ ?_;focus first|omega|rfl|assumption|exact⟨_,rfl,rfl⟩|(simp;omega)|(simp;done)))
 ·have h1:=h;refine aA (Qo x hsz) ?_;simp -implicitDefEqProofs (disch:=omega) only[go_sem]<;>(repeat(with_reducible refine And.intro ?_ ?_;focus first|omega|rfl|assumption|exact⟨_,rfl,rfl⟩|(simp;omega)|(simp;done)))
  with_reducible refine aD (fun hb=> ?_) (fun hb=> ?_)<;>have h:=hb<;>(try simp only[wf_preprocess] at h)<;>simp -implicitDefEqProofs (disch:=omega) only[go_sem,hb]<;>(repeat(with_reducible refine And.intro ?_ ?_;focus first|omega|rfl|assumption|exact⟨_,rfl,rfl⟩|(simp;omega)|(simp;done)))
  ·refine aA (SH x hsz) ?_;simp -implicitDefEqProofs (disch:=omega) only[go_sem]<;>(repeat(with_reducible refine And.intro ?_ ?_;focus first|omega|rfl|assumption|exact⟨_,rfl,rfl⟩|(simp;omega)|(simp;done)));exact aY (by rw[kY];exact jJ ⟨fun y=>⟨h1,by omega,by omega⟩,fun y=>by have:=y.2.2;omega⟩)
  ·exact aY (bI fun y=>by have:=y.2.1;omega).symm
 ·exact aY (bI fun y=>by rw[y.1] at h;cases h).symm
theorem J5:∀n:Nat,∀x:au,SizeOf.sizeOf x<n->x.sz<=4194304->aJ prog 181 [x.v] (.c (.d (.b (formed x))))
 |0=>fun x h=>by omega
 |n+1=>by
  have ih:=J5 n;intro x hn hsz S;have jA:=au.iI x;have hts:=A8 hsz;have shut:¬((x.aI=1\/x.aI=4)/\validName x.fName=true/\x.fArgs.length=0\/x.aI=3/\validName x.fName=true/\x.fArgs.length=1\/x.aI=2/\(validName x.fName=true/\x.fArgs.length<=3\/uH x.fName=true/\x.fArgs.length=0))->V.c (.d (.b false))=V.c (.d (.b (formed x))):=fun h=>aY (by rw[u6,show zi x.aI x.fName x.fArgs.length=false from bI h];rfl)
  have aie:∀b:Bool,(b=true<->((x.aI=1\/x.aI=4)/\validName x.fName=true/\x.fArgs.length=0\/x.aI=3/\validName x.fName=true/\x.fArgs.length=1\/x.aI=2/\(validName x.fName=true/\x.fArgs.length<=3\/uH x.fName=true/\x.fArgs.length=0)))->b=zi x.aI x.fName x.fArgs.length:=fun b h=>by
   rw[Bool.eq_iff_iff,h];unfold zi;rw[xG]
  refine zcx [.tmp 2] func181 ntmps181 ?_;simp -implicitDefEqProofs (disch:=omega) only[go_sem];refine aA (kF x.fName (by omega)) ?_;simp -implicitDefEqProofs (disch:=omega) only[go_sem]<;>(repeat(with_reducible refine And.intro ?_ ?_;focus first|omega|rfl|assumption|exact⟨_,rfl,rfl⟩|(simp;omega)|(simp;done)))
  repeat' (first
   |(with_reducible refine aD (fun hb=> ?_) (fun hb=> ?_)<;>have h:=hb<;>(try simp only[wf_preprocess] at h)<;>simp -implicitDefEqProofs (disch:=omega) only[go_sem,hb]<;>(repeat(with_reducible refine And.intro ?_ ?_;focus first|omega|rfl|assumption|exact⟨_,rfl,rfl⟩|(simp;omega)|(simp;done))))
   |(refine aA (Zd x.fName) ?_;simp -implicitDefEqProofs (disch:=omega) only[go_sem]))
  all_goals first
   |(refine shut (fun y=> ?_);rcases y with⟨_,_,_⟩|⟨_,_,_⟩|⟨_,⟨_,_⟩|⟨_,_⟩⟩<;>first|omega|(simp_all;done))
   |skip
  all_goals
   refine bF (ι:=Nat×Bool) zmx rfl [1,3,4] (fun y=>[.c (.ptr (0,0) 0),.c (.d (.b y.2)),.c (.d (.i .i64 y.1))]) (fun y=>[.box [.d (.i .i64 x.aI),.d (.s x.fName),.d (.sl (x.fArgs.map au.enc))]]::S)
    (fun y=>y.1<=x.fArgs.length/\(y.2&&ji (x.fArgs.drop y.1))=formed x) (fun y=>x.fArgs.length-y.1) (0,zi x.aI x.fName x.fArgs.length) ?_ rfl ⟨Nat.zero_le _,by rw[u6];rfl⟩ ?_
   ·simp only[List.map_cons,List.map_nil];simp -implicitDefEqProofs (disch:=omega) only[go_sem,List.cons.injEq,V.c.injEq,C.d.injEq,D.b.injEq,Int.natCast_zero];refine aie _ ⟨fun y=> ?_,fun y=> ?_⟩
    ·(try simp only[decide_eq_true_eq,Bool.false_eq_true] at y)<;>first
       |exact .inl ⟨by omega,by assumption,by omega⟩
       |exact .inr (.inl ⟨by omega,by assumption,by omega⟩)
       |exact .inr (.inr ⟨by omega,.inl ⟨by assumption,by omega⟩⟩)
       |exact .inr (.inr ⟨by omega,.inr ⟨by assumption,by omega⟩⟩)
    ·rcases y with⟨_,_,_⟩|⟨_,_,_⟩|⟨_,⟨_,_⟩|⟨_,_⟩⟩<;>first|omega|(simp only[decide_eq_true_eq];omega)|(simp_all;done)
   rintro⟨i,c⟩ ⟨p1,p2⟩;simp only at p1 p2;simp -implicitDefEqProofs (disch:=omega) only[go_sem]
   with_reducible refine aD (fun hb=> ?_) (fun hb=> ?_)<;>have h:=hb<;>(try simp only[wf_preprocess] at h)<;>simp -implicitDefEqProofs (disch:=omega) only[go_sem,hb]<;>(repeat(with_reducible refine And.intro ?_ ?_;focus first|omega|rfl|assumption|exact⟨_,rfl,rfl⟩|(simp;omega)|(simp;done)))
   ·have hi:i<x.fArgs.length:=by omega
    have hsz':=sH hi hsz;rw[Ql hi] at p2
    with_reducible refine aD (fun hb=> ?_) (fun hb=> ?_)<;>have h:=hb<;>(try simp only[wf_preprocess] at h)<;>simp -implicitDefEqProofs (disch:=omega) only[go_sem,hb]<;>(repeat(with_reducible refine And.intro ?_ ?_;focus first|omega|rfl|assumption|exact⟨_,rfl,rfl⟩|(simp;omega)|(simp;done)))
    ·refine aA (ih x.fArgs[i] (by have:=List.sizeOf_lt_of_mem (List.getElem_mem hi);omega) (by omega)) ?_;simp -implicitDefEqProofs (disch:=omega) only[go_sem];exact dG (i+1,formed x.fArgs[i]) (by simp only;omega) rfl rfl ⟨by simp only;omega,by rw[<-p2,h];rfl⟩
    ·exact dG (i+1,false) (by simp only;omega) rfl rfl ⟨by simp only;omega,by rw[<-p2,h];rfl⟩
   ·have hi:i=x.fArgs.length:=by omega
    rw[hi,List.drop_length,ji,Bool.and_true] at p2;rw[p2]
theorem Zf(x:au)(hsz:x.sz<=4194304):aJ prog 181 [x.v] (.c (.d (.b (formed x)))):=J5 _ x (Nat.lt_succ_self _) hsz
theorem uJ(x:au)(hsz:x.sz<=4194304):aJ prog 119 [x.v] (.c (.d (.b (lK x)))):=fun S=>by
 refine zcx [.tmp 2] func119 ntmps119 ?_;simp -implicitDefEqProofs (disch:=omega) only[go_sem];refine aA (Ze x 60 (by omega) (by omega) hsz) ?_;simp -implicitDefEqProofs (disch:=omega) only[go_sem]<;>(repeat(with_reducible refine And.intro ?_ ?_;focus first|omega|rfl|assumption|exact⟨_,rfl,rfl⟩|(simp;omega)|(simp;done)))
 with_reducible refine aD (fun hb=> ?_) (fun hb=> ?_)<;>have h:=hb<;>(try simp only[wf_preprocess] at h)<;>simp -implicitDefEqProofs (disch:=omega) only[go_sem,hb]<;>(repeat(with_reducible refine And.intro ?_ ?_;focus first|omega|rfl|assumption|exact⟨_,rfl,rfl⟩|(simp;omega)|(simp;done)))
 ·have h1:=(Gi (l:=60) (a:=x.cnt) (by omega)).2;refine aA (Qn x hsz) ?_;simp -implicitDefEqProofs (disch:=omega) only[go_sem]<;>(repeat(with_reducible refine And.intro ?_ ?_;focus first|omega|rfl|assumption|exact⟨_,rfl,rfl⟩|(simp;omega)|(simp;done)))
  with_reducible refine aD (fun hb=> ?_) (fun hb=> ?_)<;>have h:=hb<;>(try simp only[wf_preprocess] at h)<;>simp -implicitDefEqProofs (disch:=omega) only[go_sem,hb]<;>(repeat(with_reducible refine And.intro ?_ ?_;focus first|omega|rfl|assumption|exact⟨_,rfl,rfl⟩|(simp;omega)|(simp;done)))
  ·refine aA (Zf x hsz) ?_;simp -implicitDefEqProofs (disch:=omega) only[go_sem]<;>(repeat(with_reducible refine And.intro ?_ ?_;focus first|omega|rfl|assumption|exact⟨_,rfl,rfl⟩|(simp;omega)|(simp;done)));refine aY ?_
   cases hf:formed x with
   |false=>exact(bI fun y=>by rw[hf] at y;cases y.1).symm
   |true=>exact(bT ⟨hf,by omega,by omega⟩).symm
  ·exact aY (bI fun y=>by have:=y.2.1;omega).symm
 ·have h1:=Dl (l:=60) (a:=x.cnt) (by omega);exact aY (bI fun y=>by have:=y.2.2;omega).symm
theorem GI(x:aM)(hn:x.bg.length<=1073741824)(hsz:x.fType.sz<=4194304):aJ prog 124 [x.v] (.c (.d (.b (validName x.bg&&lK x.fType)))):=fun S=>by
 refine zcx [.tmp 2] func124 ntmps124 ?_;simp -implicitDefEqProofs (disch:=omega) only[go_sem];refine aA (kF x.bg hn) ?_;simp -implicitDefEqProofs (disch:=omega) only[go_sem]<;>(repeat(with_reducible refine And.intro ?_ ?_;focus first|omega|rfl|assumption|exact⟨_,rfl,rfl⟩|(simp;omega)|(simp;done)))
 with_reducible refine aD (fun hb=> ?_) (fun hb=> ?_)<;>have h:=hb<;>(try simp only[wf_preprocess] at h)<;>simp -implicitDefEqProofs (disch:=omega) only[go_sem,hb]<;>(repeat(with_reducible refine And.intro ?_ ?_;focus first|omega|rfl|assumption|exact⟨_,rfl,rfl⟩|(simp;omega)|(simp;done)))
 ·refine aA (uJ x.fType hsz) ?_;simp -implicitDefEqProofs (disch:=omega) only[go_sem]<;>(repeat(with_reducible refine And.intro ?_ ?_;focus first|omega|rfl|assumption|exact⟨_,rfl,rfl⟩|(simp;omega)|(simp;done)))
 ·rfl
theorem GJ(x:aM)(hn:x.bg.length<=1073741824)(hsz:x.fType.sz<=4194304):aJ prog 112 [x.v] (.c (.d (.b (validName x.bg&&lK x.fType)))):=fun S=>by
 refine zcx [.tmp 2] func112 ntmps112 ?_;simp -implicitDefEqProofs (disch:=omega) only[go_sem];refine aA (kE x.bg hn) ?_;simp -implicitDefEqProofs (disch:=omega) only[go_sem]<;>(repeat(with_reducible refine And.intro ?_ ?_;focus first|omega|rfl|assumption|exact⟨_,rfl,rfl⟩|(simp;omega)|(simp;done)))
 with_reducible refine aD (fun hb=> ?_) (fun hb=> ?_)<;>have h:=hb<;>(try simp only[wf_preprocess] at h)<;>simp -implicitDefEqProofs (disch:=omega) only[go_sem,hb]<;>(repeat(with_reducible refine And.intro ?_ ?_;focus first|omega|rfl|assumption|exact⟨_,rfl,rfl⟩|(simp;omega)|(simp;done)))
 ·refine aA (uI x.fType hsz) ?_;simp -implicitDefEqProofs (disch:=omega) only[go_sem]<;>(repeat(with_reducible refine And.intro ?_ ?_;focus first|omega|rfl|assumption|exact⟨_,rfl,rfl⟩|(simp;omega)|(simp;done)))
 ·rfl
mutual
def ny:au->List au
 | .mk k n a=>.mk k n a::mJ a
def mJ:List au->List au
 |[]=>[]
 |t::ts=>ny t++mJ ts
end
theorem yw(t:au):ny t=t::mJ t.fArgs:=by cases t;rw[ny];rfl
theorem xJ{ts:List au}{i:Nat}(hi:i<ts.length):mJ (ts.drop i)=ny ts[i]++mJ (ts.drop (i+1)):=by rw[List.drop_eq_getElem_cons hi,mJ]
mutual
theorem EZ:∀t:au,(ny t).length=t.cnt
 | .mk k n a=>by rw[ny,List.length_cons,au.cnt,J6 a];omega
theorem J6:∀ts:List au,(mJ ts).length=au.dD ts
 |[]=>rfl
 |t::ts=>by rw[mJ,List.length_append,au.dD,EZ t,J6 ts]
end
def rQ(out:List (List UInt8))(u:au):List (List UInt8):=if u.aI=1/\u.fName∉out then out++[u.fName] else out
def gY(out:List (List UInt8))(t:au):List (List UInt8):=(ny t).foldl rQ out
def qR(out:List (List UInt8))(ts:List au):List (List UInt8):=(mJ ts).foldl rQ out
theorem Ir(out:List (List UInt8))(u:au):(rQ out u).length<=out.length+1:=by
 unfold rQ
 split<;>simp
theorem MN:∀(us:List au)(out:List (List UInt8)),(us.foldl rQ out).length<=out.length+us.length
 |[],out=>by simp
 |u::us,out=>by
  have h1:=Ir out u;have h2:=MN us (rQ out u);rw[List.foldl_cons,List.length_cons];omega
theorem yx(t:au)(out:List (List UInt8)):(gY out t).length<=out.length+t.cnt:=by
 have:=MN (ny t) out;rw[EZ] at this;exact this
theorem acs(out:List (List UInt8))(t:au):gY out t=qR (rQ out t) t.fArgs:=by
 unfold gY qR;rw[yw,List.foldl_cons]
theorem Ho{ts:List au}{i:Nat}(hi:i<ts.length)(out:List (List UInt8)):qR out (ts.drop i)=qR (gY out ts[i]) (ts.drop (i+1)):=by
 unfold qR gY;rw[xJ hi,List.foldl_append]
def oo(t:au):Bool:=(ny t).any fun u=>decide (u.aI=3)
def sI(ts:List au):Bool:=(mJ ts).any fun u=>decide (u.aI=3)
theorem Dt(t:au):oo t=(decide (t.aI=3)||sI t.fArgs):=by
 unfold oo sI;rw[yw,List.any_cons]
theorem NN{ts:List au}{i:Nat}(hi:i<ts.length):sI (ts.drop i)=(oo ts[i]||sI (ts.drop (i+1))):=by
 unfold sI oo;rw[xJ hi,List.any_append]
theorem Qp(us:List au):∀b:Bool,us.foldl (fun b u=>b||decide (u.aI=3)) b=(b||us.any fun u=>decide (u.aI=3)):=by
 induction us with
 |nil=>intro b;simp
 |cons u us ih=>intro b;rw[List.foldl_cons,ih,List.any_cons,Bool.or_assoc]
def J7(v:List UInt8)(u:au):Bool:=decide (u.aI=1/\u.fName=v)
def nU(v:List UInt8)(t:au):Nat:=(ny t).countP (J7 v)
def tu(v:List UInt8)(ts:List au):Nat:=(mJ ts).countP (J7 v)
theorem Zg(v:List UInt8)(t:au):nU v t=(if J7 v t then 1 else 0)+tu v t.fArgs:=by
 unfold nU tu;rw[yw,List.countP_cons];omega
theorem Qq{v:List UInt8}{ts:List au}{i:Nat}(hi:i<ts.length):tu v (ts.drop i)=nU v ts[i]+tu v (ts.drop (i+1)):=by
 unfold tu nU;rw[xJ hi,List.countP_append]
theorem Zh(v:List UInt8)(t:au):nU v t<=t.cnt:=by
 unfold nU;rw[<-EZ];exact List.countP_le_length
def occurs(v:List UInt8)(t:au):Bool:=decide (0<nU v t)
theorem zx{x:au}{i:Nat}(hi:i<x.fArgs.length)(h:x.sz<=4194304):x.fArgs[i].sz<=4194304/\x.fArgs.length<=4194304/\x.fName.length<=4194304:=by
 have hx:x.fArgs[i].sz<=bB (x.fArgs.map au.enc):=gT (List.mem_map_of_mem (List.getElem_mem hi));simp only[au.sz,au.aB,bL,D.sz,List.length_map] at h;omega
theorem E5{x:au}(h:x.sz<=4194304):x.fArgs.length<=4194304/\x.fName.length<=4194304:=by
 simp only[au.sz,au.aB,bL,D.sz,List.length_map] at h;omega
theorem E8:∀n:Nat,∀t:au,SizeOf.sizeOf t<n->t.sz<=4194304->∀(g:Nat)(caps:List (Key×Nat))(α:Type)(st:α->Store)(I:Nat->α->Prop)(f:α->au->α)(hf:Dj prog g caps st I f au.v (fun u=>u.sz<=4194304))(m:Nat)(a:α),I (m+t.cnt) a->
 I m ((ny t).foldl f a)/\bJ prog 156 [t.v,.c (.fn g caps)] (st a) (fun r S'=>r=.eU []/\S'=st ((ny t).foldl f a))
 |0=>fun t h=>by omega
 |n+1=>by
  have ih:=E8 n;intro t hn hsz g caps α st I f hf m a ha;have jA:=au.iI t;have hts:=E5 hsz;rw[au.nu,show m+(1+au.dD t.fArgs)=(m+au.dD t.fArgs)+1 by omega] at ha;have h1:=hf _ a t ha hsz
  have hI:∀(ts:List au),SizeOf.sizeOf ts<n->(∀x∈ts,x.sz<=4194304)->∀a,I (m+au.dD ts) a->I m ((mJ ts).foldl f a):=by
   intro ts
   induction ts with
   |nil=>intro _ _ a ha;exact ha
   |cons x xs ihx=>
    intro hs hz a ha;simp only[List.cons.sizeOf_spec] at hs;rw[mJ,List.foldl_append];rw[au.dD,show m+(x.cnt+au.dD xs)=(m+au.dD xs)+x.cnt by omega] at ha;exact ihx (by omega) (fun y hy=>hz y (by simp[hy])) _ (ih x (by omega) (hz x (by simp)) g caps α st I f hf _ a ha).1
  have hall:∀x∈t.fArgs,x.sz<=4194304:=fun x hx=>by
   obtain⟨i,hi,e⟩:=List.getElem_of_mem hx;rw[<-e];exact(zx hi hsz).1
  refine⟨by rw[yw,List.foldl_cons];exact hI t.fArgs (by omega) hall _ h1.1,?_⟩;refine zcx [] func156 ntmps156 ?_;simp -implicitDefEqProofs (disch:=omega) only[go_sem];refine aT rfl (h1.2 [_]) ?_;simp -implicitDefEqProofs (disch:=omega) only[go_sem]
  refine bF (ι:=Nat×α) zmx rfl [1,10,11,12] (fun y=>[.c (.fn g (iO 1 caps)),.c (.d (.sl (t.fArgs.map au.enc))),.c (.d (.i .i64 t.fArgs.length)),.c (.d (.i .i64 y.1))]) (fun y=>[.box [.d (.i .i64 t.aI),.d (.s t.fName),.d (.sl (t.fArgs.map au.enc))]]::st y.2)
   (fun y=>y.1<=t.fArgs.length/\I (m+au.dD (t.fArgs.drop y.1)) y.2/\(mJ (t.fArgs.drop y.1)).foldl f y.2=(ny t).foldl f a) (fun y=>t.fArgs.length-y.1) (0,f a t) rfl rfl ⟨Nat.zero_le _,h1.1,by rw[yw,List.foldl_cons];rfl⟩ ?_
  rintro⟨i,b⟩ ⟨p1,p2,p3⟩;simp only at p1 p2 p3;simp -implicitDefEqProofs (disch:=omega) only[go_sem]
  with_reducible refine aD (fun hb=> ?_) (fun hb=> ?_)<;>have h:=hb<;>(try simp only[wf_preprocess] at h)<;>simp -implicitDefEqProofs (disch:=omega) only[go_sem,hb]<;>(repeat(with_reducible refine And.intro ?_ ?_;focus first|omega|rfl|assumption|exact⟨_,rfl,rfl⟩|(simp;omega)|(simp;done)))
  ·have hi:i<t.fArgs.length:=by omega
   have hs:=List.sizeOf_lt_of_mem (List.getElem_mem hi);rw[xJ hi,List.foldl_append] at p3;rw[List.drop_eq_getElem_cons hi,au.dD,show m+(t.fArgs[i].cnt+au.dD (t.fArgs.drop (i+1)))=(m+au.dD (t.fArgs.drop (i+1)))+t.fArgs[i].cnt by omega] at p2;have h2:=(ih t.fArgs[i] (by omega) (zx hi hsz).1 g caps α st I f hf _ b p2).1
   (repeat(with_reducible refine And.intro ?_ ?_;focus first|omega|rfl|assumption|exact⟨_,rfl,rfl⟩|(simp;omega)|(simp;done)))
   refine aT rfl (((ih t.fArgs[i] (by omega) (zx hi hsz).1 g (iO 1 caps) α (fun a=>[.box [.d (.i .i64 t.aI),.d (.s t.fName),.d (.sl (t.fArgs.map au.enc))],.box [.d (.i .i64 t.fArgs[i].aI),.d (.s t.fArgs[i].fName),.d (.sl (t.fArgs[i].fArgs.map au.enc))]]::st a) I f (hf.push _) _ b p2)).2) ?_;simp -implicitDefEqProofs (disch:=omega) only[go_sem];exact dO 1 (by decide) (i+1,(ny t.fArgs[i]).foldl f b) (by simp only;omega) rfl rfl (by simp only[jk,nk,List.all_cons,List.all_nil,V.refs,C.refs,PW,Bool.and_true]) rfl ⟨by simp only;omega,h2,p3⟩
  ·have hi:i=t.fArgs.length:=by omega
   rw[hi,List.drop_length,mJ,List.foldl_nil] at p3;rw[p3]
theorem Hq{t:au}(hsz:t.sz<=4194304){g:Nat}{caps:List (Key×Nat)}{α:Type}{st:α->Store}{I:Nat->α->Prop}{f:α->au->α}(hf:Dj prog g caps st I f au.v (fun u=>u.sz<=4194304))(m:Nat)(a:α)(ha:I (m+t.cnt) a):
 I m ((ny t).foldl f a)/\bJ prog 156 [t.v,.c (.fn g caps)] (st a) (fun r S'=>r=.eU []/\S'=st ((ny t).foldl f a)):=E8 _ t (Nat.lt_succ_self _) hsz g caps α st I f hf m a ha
theorem GK(rest:List Ab.Obj)(S:Store):Dj prog 193 [((0,0),0)] (fun out:List (List UInt8)=>(.box [.bK (0,1) (out.map encS)]:: .tok 1 (out.map encS)::rest)::S) (fun n out=>out.length+n<=1073741824) rQ au.v (fun u=>u.sz<=4194304):=by
 intro n out u hI hu;refine⟨by have:=Ir out u;omega,fun F=> ?_⟩;have hts:=E5 hu;refine zcx [] func193 ntmps193 ?_;simp -implicitDefEqProofs (disch:=omega) only[go_sem]
 with_reducible refine aD (fun hb=> ?_) (fun hb=> ?_)<;>have h:=hb<;>(try simp only[wf_preprocess] at h)<;>simp -implicitDefEqProofs (disch:=omega) only[go_sem,hb]<;>(repeat(with_reducible refine And.intro ?_ ?_;focus first|omega|rfl|assumption|exact⟨_,rfl,rfl⟩|(simp;omega)|(simp;done)))
 ·have h1:=h;refine aA (sG out u.fName (by omega)) ?_;simp -implicitDefEqProofs (disch:=omega) only[go_sem]<;>(repeat(with_reducible refine And.intro ?_ ?_;focus first|omega|rfl|assumption|exact⟨_,rfl,rfl⟩|(simp;omega)|(simp;done)))
  with_reducible refine aD (fun hb=> ?_) (fun hb=> ?_)<;>have h:=hb<;>(try simp only[wf_preprocess] at h)<;>simp -implicitDefEqProofs (disch:=omega) only[go_sem,hb]<;>(repeat(with_reducible refine And.intro ?_ ?_;focus first|omega|rfl|assumption|exact⟨_,rfl,rfl⟩|(simp;omega)|(simp;done)))
  ·(repeat(with_reducible refine And.intro ?_ ?_;focus first|omega|rfl|assumption|exact⟨_,rfl,rfl⟩|(simp;omega)|(simp;done)))
   have ha:rQ out u=out++[u.fName]:=if_pos ⟨h1,h⟩;rw[ha];simp[encS]
  ·have ha:rQ out u=out:=if_neg fun x=>x.2 h;rw[ha]
 ·have ha:rQ out u=out:=if_neg fun x=>h x.1;rw[ha]
theorem LP(ts:List au)(hl:ts.length<=4194304)(hz:∀t∈ts,t.sz<=4194304)(hc:au.dD ts<=1073741823):aJ prog 159 [.c (.d (.sl (ts.map au.enc)))] (.c (.d (.sl ((qR [] ts).map encS)))):=fun S=>by
 refine zcx [.tmp 2] func159 ntmps159 ?_;simp -implicitDefEqProofs (disch:=omega) only[go_sem]
 (repeat(with_reducible refine And.intro ?_ ?_;focus first|omega|rfl|assumption|exact⟨_,rfl,rfl⟩|(simp;omega)|(simp;done)))
 refine AQ 0 0 1 [] [.bE []] rfl rfl (by simp) ?_
 refine bF (ι:=Nat×List (List UInt8)) zmx rfl [3,7,8,9] (fun y=>[.c (.ptr (0,0) 0),.c (.d (.sl (ts.map au.enc))),.c (.d (.i .i64 ts.length)),.c (.d (.i .i64 y.1))]) (fun y=>[.box [.bK (0,1) (y.2.map encS)],.tok 1 (y.2.map encS)]::S)
  (fun y=>y.1<=ts.length/\y.2.length+au.dD (ts.drop y.1)<=1073741824/\qR y.2 (ts.drop y.1)=qR [] ts) (fun y=>ts.length-y.1) (0,[]) rfl rfl ⟨Nat.zero_le _,by simp only[List.drop_zero,List.length_nil];omega,rfl⟩ ?_
 rintro⟨i,out⟩ ⟨p1,p2,p3⟩;simp only at p1 p2 p3;simp -implicitDefEqProofs (disch:=omega) only[go_sem]
 with_reducible refine aD (fun hb=> ?_) (fun hb=> ?_)<;>have h:=hb<;>(try simp only[wf_preprocess] at h)<;>simp -implicitDefEqProofs (disch:=omega) only[go_sem,hb]<;>(repeat(with_reducible refine And.intro ?_ ?_;focus first|omega|rfl|assumption|exact⟨_,rfl,rfl⟩|(simp;omega)|(simp;done)))
 ·have hi:i<ts.length:=by omega
  rw[Ho hi] at p3;rw[List.drop_eq_getElem_cons hi,au.dD] at p2;have hlen:=yx ts[i] out
  (repeat(with_reducible refine And.intro ?_ ?_;focus first|omega|rfl|assumption|exact⟨_,rfl,rfl⟩|(simp;omega)|(simp;done)))
  refine aT rfl (Hq (hz _ (List.getElem_mem hi)) (GK [Ab.Obj.box [.d (.i .i64 ts[i].aI),.d (.s ts[i].fName),.d (.sl (ts[i].fArgs.map au.enc))]] S) (au.dD (ts.drop (i+1))) out (by omega)).2 ?_;simp -implicitDefEqProofs (disch:=omega) only[go_sem];exact dO 2 (by decide) (i+1,gY out ts[i]) (by simp only;omega) rfl rfl rfl rfl ⟨by simp only;omega,by simp only;omega,p3⟩
 ·have hi:i=ts.length:=by omega
  rw[hi,List.drop_length] at p3;rw[<-p3];rfl
theorem vZ(t:au)(hsz:t.sz<=4194304):aJ prog 83 [t.v] (.c (.d (.sl ((gY [] t).map encS)))):=fun S=>by
 have hc:=jT t;have h0:=LP [t] (by simp) (by simpa using hsz) (by simp[au.dD];omega);simp only[List.map_cons,List.map_nil,au.aB] at h0;refine zcx [.tmp 2] func83 ntmps83 ?_;simp -implicitDefEqProofs (disch:=omega) only[go_sem]
 (repeat(with_reducible refine And.intro ?_ ?_;focus first|omega|rfl|assumption|exact⟨_,rfl,rfl⟩|(simp;omega)|(simp;done)))
 refine aA h0 ?_;simp -implicitDefEqProofs (disch:=omega) only[go_sem];rw[show qR [] [t]=gY [] t by simp[qR,gY,mJ]]
theorem J8:∀n:Nat,∀t:au,SizeOf.sizeOf t<n->t.sz<=4194304->∀(out:List (List UInt8))(l j:Nat)(S:Store),aW S (l,j)=some (.tok 1 (out.map encS))->out.length+t.cnt<=1073741824->
 bJ prog 178 [t.v,.c (.bK (l,j) (out.map encS))] S (fun r S'=>r=.c (.bK (l,j) ((gY out t).map encS))/\S'=aX S (l,j) (.tok 1 ((gY out t).map encS)))
 |0=>fun t h=>by omega
 |n+1=>by
  have ih:=J8 n;intro t hn hsz out l j S hk hc;have jA:=au.iI t;have hts:=E5 hsz;have hcn:=au.nu t;have J9:∀x:Ab.Obj,aW (aX S (l,j) x) (l,j)=some x:=fun x=>bW _ _ _ _ hk;have hS0:aX S (l,j) (.tok 1 (out.map encS))=S:=AP _ _ hk;have fin:gY out t=qR (rQ out t) t.fArgs:=acs out t;have hal:=Ir out t
  have e0:(out++[t.fName]).map encS=out.map encS++[[D.s t.fName]]:=by simp[encS]
  refine zcx [.tmp 4] func178 ntmps178 ?_;simp -implicitDefEqProofs (disch:=omega) only[go_sem,hk]
  repeat' (first
   |(with_reducible refine aD (fun hb=> ?_) (fun hb=> ?_)<;>have h:=hb<;>(try simp only[wf_preprocess] at h)<;>simp -implicitDefEqProofs (disch:=omega) only[go_sem,hb,hk]<;>(repeat(with_reducible refine And.intro ?_ ?_;focus first|omega|rfl|assumption|exact⟨_,rfl,rfl⟩|(simp;omega)|(simp;done))))
   |(refine aA (sF out t.fName (by omega)) ?_;simp -implicitDefEqProofs (disch:=omega) only[go_sem,hk];(repeat(with_reducible refine And.intro ?_ ?_;focus first|omega|rfl|assumption|exact⟨_,rfl,rfl⟩|(simp;omega)|(simp;done)))))
  all_goals first
   |(have ha:rQ out t=out++[t.fName]:=if_pos ⟨by assumption,by assumption⟩)
   |(have ha:rQ out t=out:=if_neg (fun x=>by have:=x.1;have:=x.2;contradiction))
  all_goals
   refine bF (ι:=Nat×List (List UInt8)) zmx rfl [1,2,5] (fun y=>[.c (.bK (1+l,j) (y.2.map encS)),.c (.ptr (0,0) 0),.c (.d (.i .i64 y.1))]) (fun y=>[.box [.d (.i .i64 t.aI),.d (.s t.fName),.d (.sl (t.fArgs.map au.enc))]]::aX S (l,j) (.tok 1 (y.2.map encS)))
    (fun y=>y.1<=t.fArgs.length/\y.2.length+au.dD (t.fArgs.drop y.1)<=1073741824/\qR y.2 (t.fArgs.drop y.1)=gY out t) (fun y=>t.fArgs.length-y.1) (0,rQ out t) (by first|(rw[ha,e0];rfl)|(rw[ha];rfl)) (by first|(simp only[ha,e0];done)|(simp only[ha,hS0];done)) ⟨Nat.zero_le _,by simp only[List.drop_zero];omega,by rw[fin];rfl⟩ ?_
   rintro⟨i,b⟩ ⟨p1,p2,p3⟩;simp only at p1 p2 p3;simp -implicitDefEqProofs (disch:=omega) only[go_sem]
   with_reducible refine aD (fun hb=> ?_) (fun hb=> ?_)<;>have h:=hb<;>(try simp only[wf_preprocess] at h)<;>simp -implicitDefEqProofs (disch:=omega) only[go_sem,hb]<;>(repeat(with_reducible refine And.intro ?_ ?_;focus first|omega|rfl|assumption|exact⟨_,rfl,rfl⟩|(simp;omega)|(simp;done)))
   ·have hi:i<t.fArgs.length:=by omega
    have hs:=List.sizeOf_lt_of_mem (List.getElem_mem hi);rw[Ho hi] at p3;rw[List.drop_eq_getElem_cons hi,au.dD] at p2;have hlen:=yx t.fArgs[i] b
    (repeat(with_reducible refine And.intro ?_ ?_;focus first|omega|rfl|assumption|exact⟨_,rfl,rfl⟩|(simp;omega)|(simp;done)))
    refine aT rfl (ih t.fArgs[i] (by omega) (zx hi hsz).1 b (1+l) j _ (by rw[aV];exact J9 _) (by omega)) ?_;simp -implicitDefEqProofs (disch:=omega) only[go_sem,ak];exact dG (i+1,gY b t.fArgs[i]) (by simp only;omega) rfl rfl ⟨by simp only;omega,by simp only;omega,p3⟩
   ·have hi:i=t.fArgs.length:=by omega
    rw[hi,List.drop_length] at p3;rw[<-p3];exact⟨rfl,rfl⟩
theorem Ka(t:au)(hsz:t.sz<=4194304):aJ prog 118 [t.v] (.c (.d (.sl ((gY [] t).map encS)))):=fun S=>by
 have hc:=jT t
 have h0:∀S,bJ prog 178 [t.v,.c (.bE [])] S (fun r S'=>r=.c (.d (.sl ((gY [] t).map encS)))/\S'=S):=fun S=>by
  refine bJ.abP 1 (es:=[]) (aQ:=1) rfl (by simp) (J8 _ t (Nat.lt_succ_self _) hsz [] 0 0 ([.tok 1 []]::S) rfl (by simp;omega)) ?_;rintro r fr S' ⟨rfl,h2⟩;injection h2 with h2 h3;exact⟨_,rfl,rfl,h3⟩
 refine zcx [.tmp 2] func118 ntmps118 ?_;simp -implicitDefEqProofs (disch:=omega) only[go_sem]
 (repeat(with_reducible refine And.intro ?_ ?_;focus first|omega|rfl|assumption|exact⟨_,rfl,rfl⟩|(simp;omega)|(simp;done)))
 refine cZ [true,true] rfl (h0 _) ?_;simp -implicitDefEqProofs (disch:=omega) only[go_sem]
theorem A9:∀n:Nat,∀t:au,SizeOf.sizeOf t<n->t.sz<=4194304->aJ prog 85 [t.v] (.c (.d (.b (oo t))))
 |0=>fun t h=>by omega
 |n+1=>by
  have ih:=A9 n;intro t hn hsz S;have jA:=au.iI t;have hts:=E5 hsz;refine zcx [.tmp 2] func85 ntmps85 ?_;simp -implicitDefEqProofs (disch:=omega) only[go_sem]
  refine bF (ι:=Nat) zmx rfl [1,3] (fun i=>[.c (.ptr (0,0) 0),.c (.d (.i .i64 i))]) (fun _=>[.box [.d (.i .i64 t.aI),.d (.s t.fName),.d (.sl (t.fArgs.map au.enc))]]::S)
   (fun i=>i<=t.fArgs.length/\sI (t.fArgs.drop i)=sI t.fArgs) (fun i=>t.fArgs.length-i) 0 rfl rfl ⟨Nat.zero_le _,rfl⟩ ?_
  rintro i ⟨p1,p2⟩;simp -implicitDefEqProofs (disch:=omega) only[go_sem]
  with_reducible refine aD (fun hb=> ?_) (fun hb=> ?_)<;>have h:=hb<;>(try simp only[wf_preprocess] at h)<;>simp -implicitDefEqProofs (disch:=omega) only[go_sem,hb]<;>(repeat(with_reducible refine And.intro ?_ ?_;focus first|omega|rfl|assumption|exact⟨_,rfl,rfl⟩|(simp;omega)|(simp;done)))
  ·have hi:i<t.fArgs.length:=by omega
   rw[NN hi] at p2
   (repeat(with_reducible refine And.intro ?_ ?_;focus first|omega|rfl|assumption|exact⟨_,rfl,rfl⟩|(simp;omega)|(simp;done)))
   refine aA (ih t.fArgs[i] (by have:=List.sizeOf_lt_of_mem (List.getElem_mem hi);omega) (zx hi hsz).1) ?_;simp -implicitDefEqProofs (disch:=omega) only[go_sem]<;>(repeat(with_reducible refine And.intro ?_ ?_;focus first|omega|rfl|assumption|exact⟨_,rfl,rfl⟩|(simp;omega)|(simp;done)))
   with_reducible refine aD (fun hb=> ?_) (fun hb=> ?_)<;>have h:=hb<;>(try simp only[wf_preprocess] at h)<;>simp -implicitDefEqProofs (disch:=omega) only[go_sem,hb]<;>(repeat(with_reducible refine And.intro ?_ ?_;focus first|omega|rfl|assumption|exact⟨_,rfl,rfl⟩|(simp;omega)|(simp;done)))
   ·rw[Dt,<-p2,h];simp
   ·exact dG (i+1) (by omega) rfl rfl ⟨by omega,by rw[<-p2,h];rfl⟩
  ·have hi:i=t.fArgs.length:=by omega
   rw[hi,List.drop_length] at p2;rw[Dt,<-p2];exact aY (by simp[sI,mJ])
theorem Cm(t:au)(hsz:t.sz<=4194304):aJ prog 85 [t.v] (.c (.d (.b (oo t)))):=A9 _ t (Nat.lt_succ_self _) hsz
theorem NP(rest:List Ab.Obj)(cs:List C)(S:Store):Dj prog 157 [((0,1),0)] (fun b:Bool=>(.box cs:: .box [.d (.b b)]::rest)::S) (fun _ _=>True) (fun b u=>b||decide (u.aI=3)) au.v (fun u=>u.sz<=4194304):=by
 intro n b u _ hu;refine⟨trivial,fun F=> ?_⟩;refine zcx [] func157 ntmps157 ?_;simp -implicitDefEqProofs (disch:=omega) only[go_sem]
 cases b with
 |true=>
  simp -implicitDefEqProofs (disch:=omega) only[go_sem];rfl
 |false=>
  simp -implicitDefEqProofs (disch:=omega) only[go_sem];rfl
theorem Cn(t:au)(hsz:t.sz<=4194304):aJ prog 81 [t.v] (.c (.d (.b (oo t)))):=fun S=>by
 refine zcx [.tmp 2] func81 ntmps81 ?_;simp -implicitDefEqProofs (disch:=omega) only[go_sem]
 (repeat(with_reducible refine And.intro ?_ ?_;focus first|omega|rfl|assumption|exact⟨_,rfl,rfl⟩|(simp;omega)|(simp;done)))
 refine aT rfl (Hq hsz (NP [] [.d (.i .i64 t.aI),.d (.s t.fName),.d (.sl (t.fArgs.map au.enc))] S) 0 false trivial).2 ?_;simp -implicitDefEqProofs (disch:=omega) only[go_sem];rw[Qp];rfl
theorem Iu(g:Nat)(caps:List (Key×Nat))(S:Store)(xs:List aC)(p:aC->Bool)(hl:xs.length<=1073741824)(hp:∀x∈xs,og prog g caps S [x.v] (.c (.d (.b (p x))))):
 bJ prog 228 [.c (.d (.sl (xs.map aC.enc))),.c (.fn g caps)] S (fun r S'=>r=.c (.d (.i .i64 (qQ p xs)))/\S'=S):=by
 refine zcx [.tmp 4] func228 ntmps228 ?_;simp -implicitDefEqProofs (disch:=omega) only[go_sem]
 refine bF (ι:=Nat) zmx rfl [0,1,7,8] (fun i=>[.c (.d (.sl (xs.map aC.enc))),.c (.fn g (iO 1 caps)),.c (.d (.i .i64 xs.length)),.c (.d (.i .i64 i))]) (fun _=>[]::S)
  (fun i=>i<=xs.length/\∀j,∀hj:j<xs.length,j<i->p xs[j]=false) (fun i=>xs.length-i) 0 rfl rfl ⟨Nat.zero_le _,fun j _ h=>by omega⟩ ?_
 rintro i ⟨p1,p2⟩;simp -implicitDefEqProofs (disch:=omega) only[go_sem]
 with_reducible refine aD (fun hb=> ?_) (fun hb=> ?_)<;>have h:=hb<;>(try simp only[wf_preprocess] at h)<;>simp -implicitDefEqProofs (disch:=omega) only[go_sem,hb]<;>(repeat(with_reducible refine And.intro ?_ ?_;focus first|omega|rfl|assumption|exact⟨_,rfl,rfl⟩|(simp;omega)|(simp;done)))
 ·have hi:i<xs.length:=by omega
  (repeat(with_reducible refine And.intro ?_ ?_;focus first|omega|rfl|assumption|exact⟨_,rfl,rfl⟩|(simp;omega)|(simp;done)))
  refine aT rfl (hp xs[i] (List.getElem_mem hi) [_]) ?_;simp -implicitDefEqProofs (disch:=omega) only[go_sem]
  with_reducible refine aD (fun hb=> ?_) (fun hb=> ?_)<;>have h:=hb<;>(try simp only[wf_preprocess] at h)<;>simp -implicitDefEqProofs (disch:=omega) only[go_sem,hb]<;>(repeat(with_reducible refine And.intro ?_ ?_;focus first|omega|rfl|assumption|exact⟨_,rfl,rfl⟩|(simp;omega)|(simp;done)))
  ·rw[rD hi p2 h]
  ·refine dG (i+1) (by omega) rfl rfl ⟨by omega,fun j hj hji=> ?_⟩;by_cases e:j=i
   ·subst e;exact h
   ·exact p2 j hj (by omega)
 ·rw[uZ (fun j hj=>p2 j hj (by omega))]
theorem En(g:Nat)(caps:List (Key×Nat))(S:Store)(xs:List aC)(p:aC->Bool)(hl:xs.length<=1073741824)(hp:∀x∈xs,og prog g caps S [x.v] (.c (.d (.b (p x))))):
 bJ prog 203 [.c (.d (.sl (xs.map aC.enc))),.c (.fn g caps)] S (fun r S'=>r=.c (.d (.b (xs.any p)))/\S'=S):=by
 refine zcx [.tmp 4] func203 ntmps203 ?_;simp -implicitDefEqProofs (disch:=omega) only[go_sem];refine aT rfl (Iu g (iO 1 caps) _ xs p hl fun x hx=>(hp x hx).push _) ?_;simp -implicitDefEqProofs (disch:=omega) only[go_sem];exact aY tq
theorem Kc(g:Nat)(caps:List (Key×Nat))(S:Store)(xs:List aP)(p:aP->Bool)(hl:xs.length<=1073741824)(hp:∀x∈xs,og prog g caps S [x.v] (.c (.d (.b (p x))))):
 bJ prog 229 [.c (.d (.sl (xs.map aP.enc))),.c (.fn g caps)] S (fun r S'=>r=.c (.d (.i .i64 (qQ p xs)))/\S'=S):=by
 refine zcx [.tmp 4] func229 ntmps229 ?_;simp -implicitDefEqProofs (disch:=omega) only[go_sem]
 refine bF (ι:=Nat) zmx rfl [0,1,7,8] (fun i=>[.c (.d (.sl (xs.map aP.enc))),.c (.fn g (iO 1 caps)),.c (.d (.i .i64 xs.length)),.c (.d (.i .i64 i))]) (fun _=>[]::S)
  (fun i=>i<=xs.length/\∀j,∀hj:j<xs.length,j<i->p xs[j]=false) (fun i=>xs.length-i) 0 rfl rfl ⟨Nat.zero_le _,fun j _ h=>by omega⟩ ?_
 rintro i ⟨p1,p2⟩;simp -implicitDefEqProofs (disch:=omega) only[go_sem]
 with_reducible refine aD (fun hb=> ?_) (fun hb=> ?_)<;>have h:=hb<;>(try simp only[wf_preprocess] at h)<;>simp -implicitDefEqProofs (disch:=omega) only[go_sem,hb]<;>(repeat(with_reducible refine And.intro ?_ ?_;focus first|omega|rfl|assumption|exact⟨_,rfl,rfl⟩|(simp;omega)|(simp;done)))
 ·have hi:i<xs.length:=by omega
  (repeat(with_reducible refine And.intro ?_ ?_;focus first|omega|rfl|assumption|exact⟨_,rfl,rfl⟩|(simp;omega)|(simp;done)))
  refine aT rfl (hp xs[i] (List.getElem_mem hi) [_]) ?_;simp -implicitDefEqProofs (disch:=omega) only[go_sem]
  with_reducible refine aD (fun hb=> ?_) (fun hb=> ?_)<;>have h:=hb<;>(try simp only[wf_preprocess] at h)<;>simp -implicitDefEqProofs (disch:=omega) only[go_sem,hb]<;>(repeat(with_reducible refine And.intro ?_ ?_;focus first|omega|rfl|assumption|exact⟨_,rfl,rfl⟩|(simp;omega)|(simp;done)))
  ·rw[rD hi p2 h]
  ·refine dG (i+1) (by omega) rfl rfl ⟨by omega,fun j hj hji=> ?_⟩;by_cases e:j=i
   ·subst e;exact h
   ·exact p2 j hj (by omega)
 ·rw[uZ (fun j hj=>p2 j hj (by omega))]
theorem E9(g:Nat)(caps:List (Key×Nat))(S:Store)(xs:List aP)(p:aP->Bool)(hl:xs.length<=1073741824)(hp:∀x∈xs,og prog g caps S [x.v] (.c (.d (.b (p x))))):
 bJ prog 205 [.c (.d (.sl (xs.map aP.enc))),.c (.fn g caps)] S (fun r S'=>r=.c (.d (.b (xs.any p)))/\S'=S):=by
 refine zcx [.tmp 4] func205 ntmps205 ?_;simp -implicitDefEqProofs (disch:=omega) only[go_sem];refine aT rfl (Kc g (iO 1 caps) _ xs p hl fun x hx=>(hp x hx).push _) ?_;simp -implicitDefEqProofs (disch:=omega) only[go_sem];exact aY tq
theorem GL(g:Nat)(caps:List (Key×Nat))(S:Store)(xs:List aM)(p:aM->Bool)(hl:xs.length<=1073741824)(hp:∀x∈xs,og prog g caps S [x.v] (.c (.d (.b (p x))))):
 bJ prog 170 [.c (.d (.sl (xs.map aM.enc))),.c (.fn g caps)] S (fun r S'=>r=.c (.d (.i .i64 (qQ p xs)))/\S'=S):=by
 refine zcx [.tmp 4] func170 ntmps170 ?_;simp -implicitDefEqProofs (disch:=omega) only[go_sem]
 refine bF (ι:=Nat) zmx rfl [0,1,7,8] (fun i=>[.c (.d (.sl (xs.map aM.enc))),.c (.fn g (iO 1 caps)),.c (.d (.i .i64 xs.length)),.c (.d (.i .i64 i))]) (fun _=>[]::S)
  (fun i=>i<=xs.length/\∀j,∀hj:j<xs.length,j<i->p xs[j]=false) (fun i=>xs.length-i) 0 rfl rfl ⟨Nat.zero_le _,fun j _ h=>by omega⟩ ?_
 rintro i ⟨p1,p2⟩;simp -implicitDefEqProofs (disch:=omega) only[go_sem]
 with_reducible refine aD (fun hb=> ?_) (fun hb=> ?_)<;>have h:=hb<;>(try simp only[wf_preprocess] at h)<;>simp -implicitDefEqProofs (disch:=omega) only[go_sem,hb]<;>(repeat(with_reducible refine And.intro ?_ ?_;focus first|omega|rfl|assumption|exact⟨_,rfl,rfl⟩|(simp;omega)|(simp;done)))
 ·have hi:i<xs.length:=by omega
  (repeat(with_reducible refine And.intro ?_ ?_;focus first|omega|rfl|assumption|exact⟨_,rfl,rfl⟩|(simp;omega)|(simp;done)))
  refine aT rfl (hp xs[i] (List.getElem_mem hi) [_]) ?_;simp -implicitDefEqProofs (disch:=omega) only[go_sem]
  with_reducible refine aD (fun hb=> ?_) (fun hb=> ?_)<;>have h:=hb<;>(try simp only[wf_preprocess] at h)<;>simp -implicitDefEqProofs (disch:=omega) only[go_sem,hb]<;>(repeat(with_reducible refine And.intro ?_ ?_;focus first|omega|rfl|assumption|exact⟨_,rfl,rfl⟩|(simp;omega)|(simp;done)))
  ·rw[rD hi p2 h]
  ·refine dG (i+1) (by omega) rfl rfl ⟨by omega,fun j hj hji=> ?_⟩;by_cases e:j=i
   ·subst e;exact h
   ·exact p2 j hj (by omega)
 ·rw[uZ (fun j hj=>p2 j hj (by omega))]
theorem Du(g:Nat)(caps:List (Key×Nat))(S:Store)(xs:List aM)(p:aM->Bool)(hl:xs.length<=1073741824)(hp:∀x∈xs,og prog g caps S [x.v] (.c (.d (.b (p x))))):
 bJ prog 110 [.c (.d (.sl (xs.map aM.enc))),.c (.fn g caps)] S (fun r S'=>r=.c (.d (.b (xs.any p)))/\S'=S):=by
 refine zcx [.tmp 4] func110 ntmps110 ?_;simp -implicitDefEqProofs (disch:=omega) only[go_sem];refine aT rfl (GL g (iO 1 caps) _ xs p hl fun x hx=>(hp x hx).push _) ?_;simp -implicitDefEqProofs (disch:=omega) only[go_sem];exact aY tq
theorem Fb(g:Nat)(caps:List (Key×Nat))(S:Store)(xs:List (List UInt8))(p:(List UInt8)->Bool)(hl:xs.length<=1073741824)(hp:∀x∈xs,og prog g caps S [.c (.d (.s x))] (.c (.d (.b (p x))))):
 bJ prog 169 [.c (.d (.sl (xs.map encS))),.c (.fn g caps)] S (fun r S'=>r=.c (.d (.i .i64 (qQ p xs)))/\S'=S):=by
 refine zcx [.tmp 4] func169 ntmps169 ?_;simp -implicitDefEqProofs (disch:=omega) only[go_sem,encS]
 refine bF (ι:=Nat) zmx rfl [0,1,7,8] (fun i=>[.c (.d (.sl (xs.map encS))),.c (.fn g (iO 1 caps)),.c (.d (.i .i64 xs.length)),.c (.d (.i .i64 i))]) (fun _=>[]::S)
  (fun i=>i<=xs.length/\∀j,∀hj:j<xs.length,j<i->p xs[j]=false) (fun i=>xs.length-i) 0 rfl rfl ⟨Nat.zero_le _,fun j _ h=>by omega⟩ ?_
 rintro i ⟨p1,p2⟩;simp -implicitDefEqProofs (disch:=omega) only[go_sem,encS]
 with_reducible refine aD (fun hb=> ?_) (fun hb=> ?_)<;>have h:=hb<;>(try simp only[wf_preprocess] at h)<;>simp -implicitDefEqProofs (disch:=omega) only[go_sem,hb,encS]<;>(repeat(with_reducible refine And.intro ?_ ?_;focus first|omega|rfl|assumption|exact⟨_,rfl,rfl⟩|(simp;omega)|(simp;done)))
 ·have hi:i<xs.length:=by omega
  (repeat(with_reducible refine And.intro ?_ ?_;focus first|omega|rfl|assumption|exact⟨_,rfl,rfl⟩|(simp;omega)|(simp;done)))
  refine aT rfl (hp xs[i] (List.getElem_mem hi) [_]) ?_;simp -implicitDefEqProofs (disch:=omega) only[go_sem,encS]
  with_reducible refine aD (fun hb=> ?_) (fun hb=> ?_)<;>have h:=hb<;>(try simp only[wf_preprocess] at h)<;>simp -implicitDefEqProofs (disch:=omega) only[go_sem,hb,encS]<;>(repeat(with_reducible refine And.intro ?_ ?_;focus first|omega|rfl|assumption|exact⟨_,rfl,rfl⟩|(simp;omega)|(simp;done)))
  ·rw[rD hi p2 h]
  ·refine dG (i+1) (by omega) rfl rfl ⟨by omega,fun j hj hji=> ?_⟩;by_cases e:j=i
   ·subst e;exact h
   ·exact p2 j hj (by omega)
 ·rw[uZ (fun j hj=>p2 j hj (by omega))]
theorem u7(g:Nat)(caps:List (Key×Nat))(S:Store)(xs:List (List UInt8))(p:(List UInt8)->Bool)(hl:xs.length<=1073741824)(hp:∀x∈xs,og prog g caps S [.c (.d (.s x))] (.c (.d (.b (p x))))):
 bJ prog 108 [.c (.d (.sl (xs.map encS))),.c (.fn g caps)] S (fun r S'=>r=.c (.d (.b (xs.any p)))/\S'=S):=by
 refine zcx [.tmp 4] func108 ntmps108 ?_;simp -implicitDefEqProofs (disch:=omega) only[go_sem,encS];refine aT rfl (Fb g (iO 1 caps) _ xs p hl fun x hx=>(hp x hx).push _) ?_;simp -implicitDefEqProofs (disch:=omega) only[go_sem,encS];exact aY tq
theorem Co{s:List UInt8}{xs:List (List UInt8)}(h:s∈xs):s.length<=bB (xs.map encS):=by
 have:=gT (List.mem_map_of_mem (f:=encS) h);simpa [encS,bL,D.sz] using this
noncomputable def jN(xs:List (List UInt8)):Bool:=dec xs.Nodup&&xs.all validName
noncomputable def among(xs ys:List (List UInt8)):Bool:=xs.all fun s=>dec (s∈ys)
noncomputable def jq(vars:List (List UInt8))(t:au):Bool:=lK t&&among (gY [] t) vars
theorem acu{s l:List UInt8}{m:List (List UInt8)}:s∈Ey l m<->s=l\/s∈m:=by
 unfold Ey;split
 ·rename_i h;exact⟨.inr,fun x=>x.elim (fun e=>e▸h) id⟩
 ·rw[List.mem_append,List.mem_singleton];exact Or.comm
theorem vg{α:Type}{xs:List α}{i:Nat}(hi:i<xs.length):xs.take (i+1)=xs.take i++[xs[i]]:=List.take_succ_eq_append_getElem hi
theorem Dv{α:Type}{xs:List α}{x:α}:(xs++[x]).Nodup<->xs.Nodup/\x∉xs:=by
 rw[List.nodup_append];constructor
 ·rintro⟨h1,_,h3⟩;exact⟨h1,fun hx=>h3 x hx x (by simp) rfl⟩
 ·rintro⟨h1,h2⟩;exact⟨h1,by simp,fun a ha b hb e=>by simp at hb;subst hb;exact h2 (e▸ha)⟩
theorem MO{α:Type}{xs:List α}{i:Nat}(hi:i<xs.length)(h:xs[i]∈xs.take i):¬xs.Nodup:=fun hn=>by
 have h1:(xs.take (i+1)).Nodup:=hn.sublist (List.take_sublist _ _);rw[vg hi] at h1;exact(Dv.1 h1).2 h
theorem Ke(xs:List (List UInt8))(hl:xs.length<=1073741824):aJ prog 73 [.c (.d (.sl (xs.map encS)))] (.c (.d (.b (dec xs.Nodup)))):=fun S=>by
 refine zcx [.tmp 2] func73 ntmps73 ?_;simp -implicitDefEqProofs (disch:=omega) only[go_sem,encS]
 (repeat(with_reducible refine And.intro ?_ ?_;focus first|omega|rfl|assumption|exact⟨_,rfl,rfl⟩|(simp;omega)|(simp;done)))
 refine bF (ι:=Nat×List (List UInt8)) zmx rfl [3,7,8,9] (fun y=>[.c (.mp (0,0)),.c (.d (.sl (xs.map encS))),.c (.d (.i .i64 xs.length)),.c (.d (.i .i64 y.1))]) (fun y=>[.mp y.2]::S)
  (fun y=>y.1<=xs.length/\(∀s,s∈y.2<->s∈xs.take y.1)/\(xs.take y.1).Nodup) (fun y=>xs.length-y.1) (0,[]) rfl rfl ⟨Nat.zero_le _,fun s=>by simp,by simp⟩ ?_
 rintro⟨i,m⟩ ⟨p1,p2,p3⟩;simp only at p1 p2 p3;simp -implicitDefEqProofs (disch:=omega) only[go_sem,encS]
 with_reducible refine aD (fun hb=> ?_) (fun hb=> ?_)<;>have h:=hb<;>(try simp only[wf_preprocess] at h)<;>simp -implicitDefEqProofs (disch:=omega) only[go_sem,hb,encS]<;>(repeat(with_reducible refine And.intro ?_ ?_;focus first|omega|rfl|assumption|exact⟨_,rfl,rfl⟩|(simp;omega)|(simp;done)))
 ·have hi:i<xs.length:=by omega
  (repeat(with_reducible refine And.intro ?_ ?_;focus first|omega|rfl|assumption|exact⟨_,rfl,rfl⟩|(simp;omega)|(simp;done)))
  with_reducible refine aD (fun hb=> ?_) (fun hb=> ?_)<;>have h:=hb<;>(try simp only[wf_preprocess] at h)<;>simp -implicitDefEqProofs (disch:=omega) only[go_sem,hb,encS]<;>(repeat(with_reducible refine And.intro ?_ ?_;focus first|omega|rfl|assumption|exact⟨_,rfl,rfl⟩|(simp;omega)|(simp;done)))
  ·exact aY (bI (MO hi ((p2 _).1 h))).symm
  ·refine dG (i+1,Ey xs[i] m) (by simp only;omega) rfl rfl ⟨by simp only;omega,fun s=> ?_,?_⟩
   ·simp only
    rw[acu,vg hi,List.mem_append,List.mem_singleton,p2];exact Or.comm
   ·simp only
    rw[vg hi,Dv];exact⟨p3,fun hx=>h ((p2 _).2 hx)⟩
 ·rw[List.take_of_length_le (by omega)] at p3;exact aY (bT p3).symm
theorem Ba(xs:List (List UInt8))(hl:xs.length<=1073741824):aJ prog 123 [.c (.d (.sl (xs.map encS)))] (.c (.d (.b (dec xs.Nodup)))):=fun S=>by
 refine zcx [.tmp 2] func123 ntmps123 ?_;simp -implicitDefEqProofs (disch:=omega) only[go_sem,encS]
 refine bF (ι:=Nat) zmx rfl [0,3] (fun i=>[.c (.d (.sl (xs.map encS))),.c (.d (.i .i64 i))]) (fun _=>[]::S)
  (fun i=>i<=xs.length/\(xs.take i).Nodup) (fun i=>xs.length-i) 0 rfl rfl ⟨Nat.zero_le _,by simp⟩ ?_
 rintro i ⟨p1,p3⟩;simp -implicitDefEqProofs (disch:=omega) only[go_sem,encS]
 with_reducible refine aD (fun hb=> ?_) (fun hb=> ?_)<;>have h:=hb<;>(try simp only[wf_preprocess] at h)<;>simp -implicitDefEqProofs (disch:=omega) only[go_sem,hb,encS]<;>(repeat(with_reducible refine And.intro ?_ ?_;focus first|omega|rfl|assumption|exact⟨_,rfl,rfl⟩|(simp;omega)|(simp;done)))
 ·have hi:i<xs.length:=by omega
  have hc:∀y∈xs.map encS,y.length=1:=fun y hy=>by
   obtain⟨s,_,rfl⟩:=List.mem_map.1 hy;rfl
  have e:(xs.map encS).take i=(xs.take i).map encS:=List.map_take.symm;refine And.intro ⟨by omega,by omega,hc⟩ ?_
  (repeat(with_reducible refine And.intro ?_ ?_;focus first|omega|rfl|assumption|exact⟨_,rfl,rfl⟩|(simp;omega)|(simp;done)))
  simp -implicitDefEqProofs (disch:=omega) only[go_sem,Int.toNat_zero,e];refine aA (sF (xs.take i) xs[i] (by simp;omega)) ?_;simp -implicitDefEqProofs (disch:=omega) only[go_sem]<;>(repeat(with_reducible refine And.intro ?_ ?_;focus first|omega|rfl|assumption|exact⟨_,rfl,rfl⟩|(simp;omega)|(simp;done)))
  with_reducible refine aD (fun hb=> ?_) (fun hb=> ?_)<;>have h:=hb<;>(try simp only[wf_preprocess] at h)<;>simp -implicitDefEqProofs (disch:=omega) only[go_sem,hb]<;>(repeat(with_reducible refine And.intro ?_ ?_;focus first|omega|rfl|assumption|exact⟨_,rfl,rfl⟩|(simp;omega)|(simp;done)))
  ·exact aY (bI (MO hi h)).symm
  ·refine dG (i+1) (by omega) rfl rfl ⟨by omega,?_⟩;rw[vg hi,Dv];exact⟨p3,h⟩
 ·rw[List.take_of_length_le (by omega)] at p3;exact aY (bT p3).symm
theorem Kg(xs:List (List UInt8))(hl:xs.length<=1073741824)(hs:∀s∈xs,s.length<=4194304):aJ prog 122 [.c (.d (.sl (xs.map encS)))] (.c (.d (.b (xs.all validName)))):=fun S=>by
 refine zcx [.tmp 2] func122 ntmps122 ?_;simp -implicitDefEqProofs (disch:=omega) only[go_sem,encS]
 refine bF (ι:=Nat) zmx rfl [0,3] (fun i=>[.c (.d (.sl (xs.map encS))),.c (.d (.i .i64 i))]) (fun _=>[]::S)
  (fun i=>i<=xs.length/\(xs.drop i).all validName=xs.all validName) (fun i=>xs.length-i) 0 rfl rfl ⟨Nat.zero_le _,rfl⟩ ?_
 rintro i ⟨p1,p2⟩;simp -implicitDefEqProofs (disch:=omega) only[go_sem,encS]
 with_reducible refine aD (fun hb=> ?_) (fun hb=> ?_)<;>have h:=hb<;>(try simp only[wf_preprocess] at h)<;>simp -implicitDefEqProofs (disch:=omega) only[go_sem,hb,encS]<;>(repeat(with_reducible refine And.intro ?_ ?_;focus first|omega|rfl|assumption|exact⟨_,rfl,rfl⟩|(simp;omega)|(simp;done)))
 ·have hi:i<xs.length:=by omega
  have hz:=hs _ (List.getElem_mem hi);rw[List.drop_eq_getElem_cons hi,List.all_cons] at p2
  (repeat(with_reducible refine And.intro ?_ ?_;focus first|omega|rfl|assumption|exact⟨_,rfl,rfl⟩|(simp;omega)|(simp;done)))
  refine aA (kF xs[i] (by omega)) ?_;simp -implicitDefEqProofs (disch:=omega) only[go_sem]<;>(repeat(with_reducible refine And.intro ?_ ?_;focus first|omega|rfl|assumption|exact⟨_,rfl,rfl⟩|(simp;omega)|(simp;done)))
  with_reducible refine aD (fun hb=> ?_) (fun hb=> ?_)<;>have h:=hb<;>(try simp only[wf_preprocess] at h)<;>simp -implicitDefEqProofs (disch:=omega) only[go_sem,hb]<;>(repeat(with_reducible refine And.intro ?_ ?_;focus first|omega|rfl|assumption|exact⟨_,rfl,rfl⟩|(simp;omega)|(simp;done)))
  ·rw[<-p2,h];rfl
  ·exact dG (i+1) (by omega) rfl rfl ⟨by omega,by rw[<-p2,h];rfl⟩
 ·rw[List.drop_of_length_le (by omega)] at p2;rw[<-p2];rfl
theorem xK(xs:List (List UInt8))(hl:xs.length<=1073741824)(hs:∀s∈xs,s.length<=4194304):aJ prog 44 [.c (.d (.sl (xs.map encS)))] (.c (.d (.b (jN xs)))):=fun S=>by
 have hcl:∀s∈xs,aJ prog 109 [.c (.d (.s s))] (.c (.d (.b (!validName s)))):=fun s hx S=>by
  have:=hs s hx;refine zcx [.tmp 2] func109 ntmps109 ?_;simp -implicitDefEqProofs (disch:=omega) only[go_sem];refine aA (kE s (by omega)) ?_;simp -implicitDefEqProofs (disch:=omega) only[go_sem]<;>(repeat(with_reducible refine And.intro ?_ ?_;focus first|omega|rfl|assumption|exact⟨_,rfl,rfl⟩|(simp;omega)|(simp;done)))
 have ha:(xs.any fun s=> !validName s)= !xs.all validName:=by rw[List.not_all_eq_any_not]
 refine zcx [.tmp 2] func44 ntmps44 ?_;simp -implicitDefEqProofs (disch:=omega) only[go_sem];refine aA (Ke xs hl) ?_;simp -implicitDefEqProofs (disch:=omega) only[go_sem]<;>(repeat(with_reducible refine And.intro ?_ ?_;focus first|omega|rfl|assumption|exact⟨_,rfl,rfl⟩|(simp;omega)|(simp;done)))
 with_reducible refine aD (fun hb=> ?_) (fun hb=> ?_)<;>have h:=hb<;>(try simp only[wf_preprocess] at h)<;>simp -implicitDefEqProofs (disch:=omega) only[go_sem,hb]<;>(repeat(with_reducible refine And.intro ?_ ?_;focus first|omega|rfl|assumption|exact⟨_,rfl,rfl⟩|(simp;omega)|(simp;done)))
 ·refine aT rfl (u7 109 [] _ xs (fun s=> !validName s) hl fun s hx=>og.LB (hcl s hx)) ?_;simp -implicitDefEqProofs (disch:=omega) only[go_sem];rw[ha];exact aY (by unfold jN;rw[hb];simp)
 ·exact aY (by unfold jN;rw[hb];rfl)
theorem xL(xs ys:List (List UInt8))(hl:xs.length<=1073741824)(hl':ys.length<=1073741824):aJ prog 82 [.c (.d (.sl (xs.map encS))),.c (.d (.sl (ys.map encS)))] (.c (.d (.b (among xs ys)))):=fun S=>by
 have ha:(xs.any fun s=> !dec (s∈ys))= !among xs ys:=by unfold among;rw[List.not_all_eq_any_not]
 have hcl:∀(rest:List Ab.Obj)(s:List UInt8),og prog 158 [((0,0),0)] ((.box [.d (.sl (ys.map encS))]::rest)::S) [.c (.d (.s s))] (.c (.d (.b (!dec (s∈ys))))):=fun rest s F=>by
  refine zcx [.tmp 3] func158 ntmps158 ?_;simp -implicitDefEqProofs (disch:=omega) only[go_sem];refine aA (sG ys s hl') ?_;simp -implicitDefEqProofs (disch:=omega) only[go_sem]<;>(repeat(with_reducible refine And.intro ?_ ?_;focus first|omega|rfl|assumption|exact⟨_,rfl,rfl⟩|(simp;omega)|(simp;done)))
 refine zcx [.tmp 4] func82 ntmps82 ?_;simp -implicitDefEqProofs (disch:=omega) only[go_sem];refine aT rfl (u7 158 [((0,0),0)] _ xs (fun s=> !dec (s∈ys)) hl fun s hx=>hcl [] s) ?_;simp -implicitDefEqProofs (disch:=omega) only[go_sem];rw[ha];exact aY (by simp)
theorem Ec(t:au)(vars:List (List UInt8))(hsz:t.sz<=4194304)(hv:vars.length<=1073741824):aJ prog 48 [t.v,.c (.d (.sl (vars.map encS)))] (.c (.d (.b (jq vars t)))):=fun S=>by
 have h1:=yx t [];have h2:=jT t;refine zcx [.tmp 4] func48 ntmps48 ?_;simp -implicitDefEqProofs (disch:=omega) only[go_sem];refine aA (uI t hsz) ?_;simp -implicitDefEqProofs (disch:=omega) only[go_sem]<;>(repeat(with_reducible refine And.intro ?_ ?_;focus first|omega|rfl|assumption|exact⟨_,rfl,rfl⟩|(simp;omega)|(simp;done)))
 with_reducible refine aD (fun hb=> ?_) (fun hb=> ?_)<;>have h:=hb<;>(try simp only[wf_preprocess] at h)<;>simp -implicitDefEqProofs (disch:=omega) only[go_sem,hb]<;>(repeat(with_reducible refine And.intro ?_ ?_;focus first|omega|rfl|assumption|exact⟨_,rfl,rfl⟩|(simp;omega)|(simp;done)))
 ·refine aA (vZ t hsz) ?_;simp -implicitDefEqProofs (disch:=omega) only[go_sem]<;>(repeat(with_reducible refine And.intro ?_ ?_;focus first|omega|rfl|assumption|exact⟨_,rfl,rfl⟩|(simp;omega)|(simp;done)));refine aA (xL (gY [] t) vars (by simp at h1;omega) hv) ?_;simp -implicitDefEqProofs (disch:=omega) only[go_sem]<;>(repeat(with_reducible refine And.intro ?_ ?_;focus first|omega|rfl|assumption|exact⟨_,rfl,rfl⟩|(simp;omega)|(simp;done)));exact aY (by unfold jq;rw[hb];rfl)
 ·exact aY (by unfold jq;rw[hb];rfl)
theorem BG(xs:List (List UInt8))(most:Int)(hl:xs.length<=1073741824)(hs:∀s∈xs,s.length<=4194304):aJ prog 53 [.c (.d (.sl (xs.map encS))),.c (.d (.i .i64 most))] (.c (.d (.b (dec ((xs.length:Int)<=most)&&jN xs)))):=fun S=>by
 refine zcx [.tmp 4] func53 ntmps53 ?_;simp -implicitDefEqProofs (disch:=omega) only[go_sem]
 with_reducible refine aD (fun hb=> ?_) (fun hb=> ?_)<;>have h:=hb<;>(try simp only[wf_preprocess] at h)<;>simp -implicitDefEqProofs (disch:=omega) only[go_sem,hb]<;>(repeat(with_reducible refine And.intro ?_ ?_;focus first|omega|rfl|assumption|exact⟨_,rfl,rfl⟩|(simp;omega)|(simp;done)))
 ·have h1:=h;refine aA (Kg xs hl hs) ?_;simp -implicitDefEqProofs (disch:=omega) only[go_sem]<;>(repeat(with_reducible refine And.intro ?_ ?_;focus first|omega|rfl|assumption|exact⟨_,rfl,rfl⟩|(simp;omega)|(simp;done)))
  with_reducible refine aD (fun hb=> ?_) (fun hb=> ?_)<;>have h:=hb<;>(try simp only[wf_preprocess] at h)<;>simp -implicitDefEqProofs (disch:=omega) only[go_sem,hb]<;>(repeat(with_reducible refine And.intro ?_ ?_;focus first|omega|rfl|assumption|exact⟨_,rfl,rfl⟩|(simp;omega)|(simp;done)))
  ·refine aA (Ba xs hl) ?_;simp -implicitDefEqProofs (disch:=omega) only[go_sem]<;>(repeat(with_reducible refine And.intro ?_ ?_;focus first|omega|rfl|assumption|exact⟨_,rfl,rfl⟩|(simp;omega)|(simp;done)));exact aY (by rw[bT h1];unfold jN;rw[hb];simp)
  ·exact aY (by rw[bT h1];unfold jN;rw[hb];simp)
 ·exact aY (by rw[bI h];rfl)
theorem Dw(t:au)(vars:List (List UInt8))(hsz:t.sz<=4194304)(hv:vars.length<=1073741824):aJ prog 51 [t.v,.c (.d (.sl (vars.map encS)))] (.c (.d (.b (jq vars t)))):=fun S=>by
 have h1:=yx t [];have h2:=jT t
 have hlen:(gY [] t).length<=1073741824:=by simp at h1;omega
 refine zcx [.tmp 4] func51 ntmps51 ?_;simp -implicitDefEqProofs (disch:=omega) only[go_sem];refine aA (Ka t hsz) ?_;simp -implicitDefEqProofs (disch:=omega) only[go_sem]<;>(repeat(with_reducible refine And.intro ?_ ?_;focus first|omega|rfl|assumption|exact⟨_,rfl,rfl⟩|(simp;omega)|(simp;done)));generalize hxs:gY [] t=xs at hlen
 refine bF (ι:=Nat) zmx rfl [1,2,5,6] (fun i=>[.c (.d (.sl (vars.map encS))),.c (.ptr (0,0) 0),.c (.d (.sl (xs.map encS))),.c (.d (.i .i64 i))]) (fun _=>[.box [.d (.i .i64 t.aI),.d (.s t.fName),.d (.sl (t.fArgs.map au.enc))]]::S)
  (fun i=>i<=xs.length/\among (xs.drop i) vars=among xs vars) (fun i=>xs.length-i) 0 rfl rfl ⟨Nat.zero_le _,rfl⟩ ?_
 rintro i ⟨p1,p2⟩;simp -implicitDefEqProofs (disch:=omega) only[go_sem,encS]
 with_reducible refine aD (fun hb=> ?_) (fun hb=> ?_)<;>have h:=hb<;>(try simp only[wf_preprocess] at h)<;>simp -implicitDefEqProofs (disch:=omega) only[go_sem,hb,encS]<;>(repeat(with_reducible refine And.intro ?_ ?_;focus first|omega|rfl|assumption|exact⟨_,rfl,rfl⟩|(simp;omega)|(simp;done)))
 ·have hi:i<xs.length:=by omega
  rw[List.drop_eq_getElem_cons hi] at p2;have p3:among xs vars=(dec (xs[i]∈vars)&&among (xs.drop (i+1)) vars):=p2.symm
  (repeat(with_reducible refine And.intro ?_ ?_;focus first|omega|rfl|assumption|exact⟨_,rfl,rfl⟩|(simp;omega)|(simp;done)))
  refine aA (sF vars xs[i] hv) ?_;simp -implicitDefEqProofs (disch:=omega) only[go_sem]<;>(repeat(with_reducible refine And.intro ?_ ?_;focus first|omega|rfl|assumption|exact⟨_,rfl,rfl⟩|(simp;omega)|(simp;done)))
  with_reducible refine aD (fun hb=> ?_) (fun hb=> ?_)<;>have h:=hb<;>(try simp only[wf_preprocess] at h)<;>simp -implicitDefEqProofs (disch:=omega) only[go_sem,hb]<;>(repeat(with_reducible refine And.intro ?_ ?_;focus first|omega|rfl|assumption|exact⟨_,rfl,rfl⟩|(simp;omega)|(simp;done)))
  ·exact aY (by unfold jq;rw[hxs,p3,bI h];simp)
  ·exact dG (i+1) (by omega) rfl rfl ⟨by omega,by rw[p3,bT h];rfl⟩
 ·rw[List.drop_of_length_le (by omega)] at p2;have p3:among xs vars=true:=p2.symm
  (repeat(with_reducible refine And.intro ?_ ?_;focus first|omega|rfl|assumption|exact⟨_,rfl,rfl⟩|(simp;omega)|(simp;done)))
  refine aA (uJ t hsz) ?_;simp -implicitDefEqProofs (disch:=omega) only[go_sem]<;>(repeat(with_reducible refine And.intro ?_ ?_;focus first|omega|rfl|assumption|exact⟨_,rfl,rfl⟩|(simp;omega)|(simp;done)));exact aY (by unfold jq;rw[hxs,p3];simp)
def ops:List (List UInt8):=[[43],[45],[42],[60],[61]]
def uq(t:au):Prop:=t.aI=0/\t.fName=[]/\t.fArgs.length=0
def rE(e:aC):Prop:=
 (1<=e.aI/\e.aI<=12)/\
 (if e.aI=5\/e.aI=11 then validName e.bg=true else e.bg=[])/\
 (if e.aI=3\/e.aI=4\/e.aI=5\/e.aI=6\/e.aI=8 then validName e.fName=true else if e.aI=10 then e.fName∈ops else e.fName=[])/\
 (if e.aI=1 then -999999<=e.fN/\e.fN<=999999 else if e.aI=2 then e.fN=0\/e.fN=1 else e.fN=0)/\
 (if e.aI=12 then lK e.fType=true else uq e.fType)/\
 (if e.aI=4\/e.aI=6 then True else if e.aI=5 then 1<=e.fArgs.length else if e.aI=7\/e.aI=11\/e.aI=12 then e.fArgs.length=1 else if e.aI=8\/e.aI=10 then e.fArgs.length=2 else if e.aI=9 then e.fArgs.length=3 else e.fArgs.length=0)/\
 (e.aI=7<->0<e.aO.length)
mutual
noncomputable def gU:aC->Bool
 | .mk k t n m ty a b=>dec (rE (.mk k t n m ty a b))&&(jO a&&mK b)
noncomputable def jO:List aC->Bool
 |[]=>true
 |x::xs=>gU x&&jO xs
noncomputable def tC:aP->Bool
 | .mk c v b=>validName c&&(jN v&&gU b)
noncomputable def mK:List aP->Bool
 |[]=>true
 |x::xs=>tC x&&mK xs
end
theorem vk(x:aC):gU x=(dec (rE x)&&(jO x.fArgs&&mK x.aO)):=by cases x;rw[gU];rfl
theorem pq(x:aP):tC x=(validName x.bU&&(jN x.aK&&gU x.fBody)):=by cases x;rw[tC];rfl
theorem Qr{xs:List aC}{i:Nat}(hi:i<xs.length):jO (xs.drop i)=(gU xs[i]&&jO (xs.drop (i+1))):=by rw[List.drop_eq_getElem_cons hi,jO]
theorem SK{xs:List aP}{i:Nat}(hi:i<xs.length):mK (xs.drop i)=(tC xs[i]&&mK (xs.drop (i+1))):=by rw[List.drop_eq_getElem_cons hi,mK]
theorem Hr:∀{xs:List aC},(xs.any fun t=> !gU t)= !jO xs
 |[]=>rfl
 |t::ts=>by rw[List.any_cons,Hr (xs:=ts),jO];simp
theorem Kh:∀{xs:List aP},(xs.any fun t=> !tC t)= !mK xs
 |[]=>rfl
 |t::ts=>by rw[List.any_cons,Kh (xs:=ts),mK];simp
noncomputable def oM(e:aC):Bool:=dec (e.cnt<=300)&&gU e
def mM(l:Int)(c:Nat):Int:=if l<0 then -1 else if c<=l then l-c else -1
theorem Dx{l:Int}{a b:Nat}:mM (mM l a) b=mM l (a+b):=by unfold mM;split<;>split<;>(try split)<;>(try split)<;>omega
theorem Iw{l:Int}{a:Nat}(h:l<0):mM l a= -1:=if_pos h
theorem Fe{l:Int}(h: -1<=l):mM l 0=l:=by unfold mM;split<;>(try split)<;>omega
theorem LQ{l:Int}{c:Nat}(h:0<=l): -1<=mM l c/\mM l c<=l:=by unfold mM;split<;>(try split)<;>omega
theorem acv{l:Int}{c:Nat}(h:0<=l):decide (mM l c>=0)=decide ((c:Int)<=l):=by unfold mM;rw[if_neg (by omega)];split<;>simp<;>omega
theorem NQ:validName []=false:=bI fun h=>by have:=h.1.1;simp at this
theorem Zi{s:List UInt8}(h:s∈ops):s.length=1:=by simp[ops] at h;rcases h with h|h|h|h|h<;>rw[h]<;>rfl
theorem Qs{s:List UInt8}(h:s∈ops):validName s=false:=bI fun x=>by
 have h1:=x.2.2 0 (by have:=x.1.1;omega);simp[ops] at h;rcases h with h|h|h|h|h<;>rw[h] at h1<;>simp[lowerB,oL] at h1
theorem Ki{t:au}(h:uq t):lK t=false:=bI fun x=>by
 have h1:=x.1;rw[u6,Bool.and_eq_true] at h1;have h2:=gF h1.1;rw[h.1] at h2;omega
structure Hold(p:Prop):Prop where
 out:p
theorem l8{P:Program}{N:Nat}{c:Code}{Q:Exit->St->Prop}{tm:List (Nat×V)}{st st':Store}(ts:List Nat)(vs:List V)(hv:ts.map (look tm)=vs)(hs:st=st')
 (h:AW P N c Q ⟨jk ts vs,st'⟩):AW P N c Q ⟨tm,st⟩:=by
 subst hs;refine kD h ?_;rw[<-hv];exact Il fun t=>wT _ ts t
theorem aeW(b:UInt8):decide (firstIdx ⟨[43,45,42,60,61].toArray⟩ b>=0)=dec ([b]∈ops):=by
 have h:∀n:Nat,n<256->decide (firstIdx ⟨[43,45,42,60,61].toArray⟩ (UInt8.ofNat n)>=0)=decide ([UInt8.ofNat n]∈ops):=by decide +kernel
 have h1:=h b.toNat (UInt8.toNat_lt b);rw[UInt8.ofNat_toNat] at h1;rw[h1];by_cases h2:[b]∈ops
 ·rw[bT h2];simp[h2]
 ·rw[bI h2];simp[h2]
def Ws(k:Int):Int:=if k=5\/k=7\/k=11\/k=12 then 1 else if k=8\/k=10 then 2 else if k=9 then 3 else 0
def Wt(k:Int):Int:=if k=4\/k=6\/k=5 then 300 else if k=7\/k=11\/k=12 then 1 else if k=8\/k=10 then 2 else if k=9 then 3 else 0
theorem GN(l:List UInt8)(b:UInt8):U1 prog 252 [.c (.d (.s l)),.c (.d (.i .u8 b.toNat))] (.c (.d (.i .i64 (firstIdx ⟨l.toArray⟩ b)))):=by
 refine⟨_,Extern.BytealgIndexByte.indexByte,func252,by kernel_rfl,by kernel_rfl,by kernel_rfl,by kernel_rfl,fun w σ S β vs hS hv=> ?_⟩;obtain⟨hl,h⟩:=hv;obtain⟨v0,e0,h0,_⟩:=h 0 _ rfl;obtain⟨v1,e1,h1,_⟩:=h 1 _ rfl;cases h0;cases h1
 have hvs:vs=[.string ⟨l.toArray⟩,.int .u8 b.toNat]:=by
  match vs,hl,e0,e1 with
  |[x,y],_,e0,e1=>simp at e0 e1;rw[e0,e1]
 subst hvs;refine⟨_,run_indexByte_string _ _ w,?_,rfl⟩
 have hb:(b.toNat:Int).toNat.toUInt8=b:=by simp
 rw[hb];exact .i _ _
theorem Fg(l:List UInt8)(b:UInt8):aJ prog 243 [.c (.d (.s l)),.c (.d (.i .u8 b.toNat))] (.c (.d (.i .i64 (firstIdx ⟨l.toArray⟩ b)))):=fun S=>by
 refine zcx [.tmp 4] func243 ntmps243 ?_;simp -implicitDefEqProofs (disch:=omega) only[go_sem];refine af8 (GN l b) ?_;simp -implicitDefEqProofs (disch:=omega) only[go_sem]
theorem SL(l:List UInt8)(b:UInt8)(hl:[b]≠l):aJ prog 258 [.c (.d (.s l)),.c (.d (.s [b]))] (.c (.d (.i .i64 (firstIdx ⟨l.toArray⟩ b)))):=fun S=>by
 have c1:decide (((1:Nat):Int)=0)=false:=rfl;have c2:decide (((1:Nat):Int)=1)=true:=rfl;refine zcx [.tmp 4] func258 ntmps258 ?_;simp -implicitDefEqProofs (disch:=omega) only[go_sem,c1,c2]
 with_reducible refine aD (fun hb=> ?_) (fun hb=> ?_)<;>have h:=hb<;>(try simp only[wf_preprocess] at h)<;>simp -implicitDefEqProofs (disch:=omega) only[go_sem,hb,c1,c2]<;>(repeat(with_reducible refine And.intro ?_ ?_;focus first|omega|rfl|assumption|exact⟨_,rfl,rfl⟩|(simp;omega)|(simp;done)))
 ·exact absurd h hl
 refine aA (Fg l b) ?_;simp -implicitDefEqProofs (disch:=omega) only[go_sem]<;>(repeat(with_reducible refine And.intro ?_ ?_;focus first|omega|rfl|assumption|exact⟨_,rfl,rfl⟩|(simp;omega)|(simp;done)))
theorem Zj(l:List UInt8)(b:UInt8)(hl:[b]≠l):aJ prog 248 [.c (.d (.s l)),.c (.d (.s [b]))] (.c (.d (.i .i64 (firstIdx ⟨l.toArray⟩ b)))):=fun S=>by
 refine zcx [.tmp 4] func248 ntmps248 ?_;simp -implicitDefEqProofs (disch:=omega) only[go_sem];refine aA (SL l b hl) ?_;simp -implicitDefEqProofs (disch:=omega) only[go_sem]<;>(repeat(with_reducible refine And.intro ?_ ?_;focus first|omega|rfl|assumption|exact⟨_,rfl,rfl⟩|(simp;omega)|(simp;done)))
theorem Qt(l:List UInt8)(b:UInt8)(hl:[b]≠l):aJ prog 237 [.c (.d (.s l)),.c (.d (.s [b]))] (.c (.d (.b (decide (firstIdx ⟨l.toArray⟩ b>=0))))):=fun S=>by
 refine zcx [.tmp 4] func237 ntmps237 ?_;simp -implicitDefEqProofs (disch:=omega) only[go_sem];refine aA (Zj l b hl) ?_;simp -implicitDefEqProofs (disch:=omega) only[go_sem]<;>(repeat(with_reducible refine And.intro ?_ ?_;focus first|omega|rfl|assumption|exact⟨_,rfl,rfl⟩|(simp;omega)|(simp;done)))
theorem NR(s:List UInt8):aJ prog 227 [.c (.d (.s s))] (.c (.d (.b (dec (s∈ops))))):=fun S=>by
 refine zcx [.tmp 2] func227 ntmps227 ?_;simp -implicitDefEqProofs (disch:=omega) only[go_sem]
 with_reducible refine aD (fun hb=> ?_) (fun hb=> ?_)<;>have h:=hb<;>(try simp only[wf_preprocess] at h)<;>simp -implicitDefEqProofs (disch:=omega) only[go_sem,hb]<;>(repeat(with_reducible refine And.intro ?_ ?_;focus first|omega|rfl|assumption|exact⟨_,rfl,rfl⟩|(simp;omega)|(simp;done)))
 ·obtain⟨b,rfl⟩:=List.length_eq_one_iff.1 (show s.length=1 by omega);refine aA (Qt [43,45,42,60,61] b (by intro x;cases x)) ?_;simp -implicitDefEqProofs (disch:=omega) only[go_sem]<;>(repeat(with_reducible refine And.intro ?_ ?_;focus first|omega|rfl|assumption|exact⟨_,rfl,rfl⟩|(simp;omega)|(simp;done)));exact aY (aeW b)
 ·exact aY (bI fun x=>h (by rw[Zi x];rfl)).symm
theorem Ed(t:au):aJ prog 84 [t.v] (.c (.d (.b (dec (uq t))))):=fun S=>by
 refine zcx [.tmp 2] func84 ntmps84 ?_;simp -implicitDefEqProofs (disch:=omega) only[go_sem]
 repeat' (first
  |with_reducible refine aD (fun hb=> ?_) (fun hb=> ?_)<;>have h:=hb<;>(try simp only[wf_preprocess] at h)<;>simp -implicitDefEqProofs (disch:=omega) only[go_sem,hb]<;>(repeat(with_reducible refine And.intro ?_ ?_;focus first|omega|rfl|assumption|exact⟨_,rfl,rfl⟩|(simp;omega)|(simp;done)))
  |(refine aY ?_;unfold uq;grind [bT,bI,gF,jR]))
theorem Ht(k:Int):aJ prog 226 [.c (.d (.i .i64 k))] (.eU [(false,[.d (.i .i64 (Ws k))]),(false,[.d (.i .i64 (Wt k))])]):=fun S=>by
 refine zcx [.tmp 2,.tmp 3] func226 ntmps226 ?_;simp -implicitDefEqProofs (disch:=omega) only[go_sem]
 repeat' (first
  |with_reducible refine aD (fun hb=> ?_) (fun hb=> ?_)<;>have h:=hb<;>(try simp only[wf_preprocess] at h)<;>simp -implicitDefEqProofs (disch:=omega) only[go_sem,hb]<;>(repeat(with_reducible refine And.intro ?_ ?_;focus first|omega|rfl|assumption|exact⟨_,rfl,rfl⟩|(simp;omega)|(simp;done)))
  |(unfold Ws Wt;grind))
end Go.Ab