/-
  SEVERAL TEXTS IN ONE (merged by program): contracts and models, each with its own heading.
-/
import Derived.Test.YtnceiannponbjaaGreatDoorPartDjbC
set_option maxHeartbeats 8000000
open Go.Proofs Go.Proofs.Tryz
set_option linter.unusedSimpArgs false
set_option linter.unusedVariables false
set_option maxRecDepth 4000
namespace Go.Ab
def lowerB(b:UInt8):Prop:=97<=b.toNat/\b.toNat<=122
def nJ(b:UInt8):Prop:=48<=b.toNat/\b.toNat<=57
def PE(s:List UInt8):Prop:=∀i,i<s.length->lowerB (s.getD i 0)\/(i≠0/\nJ (s.getD i 0))
def reserved:List (List UInt8):=[[105,110,116],[98,111,111,108],[97,115,115,111,99],[100,121,110],[105,102],[108,101,116],[99,97,115,101],[110,101,119],[109,101,116,104,111,100],[112,97,99,107],[116,114,117,101],[102,97,108,115,101]]
noncomputable def validName(s:List UInt8):Bool:=dec ((1<=s.length/\s.length<=8)/\s∉reserved/\PE s)
noncomputable def sK(s:List UInt8):Bool:=dec (s=[105,110,116]\/s=[98,111,111,108])
noncomputable def zu(xs:List (List UInt8))(s:List UInt8):Int:=if s∈xs then((xs.findIdx fun x=>dec (x=s):Nat):Int) else -1
theorem RY{xs:List (List UInt8)}{s:List UInt8}{i:Nat}(hi:i<xs.length)(hj:∀j,j<i->xs.getD j []≠s)(h:xs.getD i []=s):zu xs s=i:=by
 have e:∀j,∀hj:j<xs.length,xs.getD j []=xs[j]:=fun j hj=>by simp[List.getD,hj]
 have hm:s∈xs:=by rw[<-h,e i hi];exact List.getElem_mem hi
 unfold zu;rw[if_pos hm];congr 1;rw[List.findIdx_eq hi];exact⟨dx (by rw[<-e i hi];exact h),fun j hji=>bJ (by rw[<-e j (by omega)];exact hj j hji)⟩
theorem YL{xs:List (List UInt8)}{s:List UInt8}(hj:∀j,j<xs.length->xs.getD j []≠s):zu xs s= -1:=by
 unfold zu;refine if_neg fun hm=> ?_;obtain⟨j,h1,h2⟩:=List.getElem_of_mem hm;exact hj j h1 (by simp[List.getD,h1,h2])
theorem VK{xs:List (List UInt8)}{s:List UInt8}:decide (zu xs s>=0)=dec (s∈xs):=by
 rw[kX];refine lC ?_;unfold zu;split
 ·rename_i h;exact⟨fun _=>h,fun _=>by omega⟩
 ·rename_i h;exact⟨fun x=>by omega,fun x=>absurd x h⟩
def oD{α:Type}(p:α->Bool)(xs:List α):Int:=if xs.any p then((xs.findIdx p:Nat):Int) else -1
theorem nS{α:Type}{p:α->Bool}{xs:List α}{i:Nat}(hi:i<xs.length)(hj:∀j,∀hj:j<xs.length,j<i->p xs[j]=false)(h:p xs[i]=true):oD p xs=i:=by
 unfold oD;rw[if_pos (List.any_eq_true.2 ⟨xs[i],List.getElem_mem hi,h⟩)];congr 1;rw[List.findIdx_eq hi];exact⟨h,fun j hji=>hj j (by omega) hji⟩
theorem qL{α:Type}{p:α->Bool}{xs:List α}(hj:∀j,∀hj:j<xs.length,p xs[j]=false):oD p xs= -1:=by
 unfold oD;refine if_neg fun h=> ?_;obtain⟨x,hx,hp⟩:=List.any_eq_true.1 h;obtain⟨j,h1,h2⟩:=List.getElem_of_mem hx;rw[<-h2,hj j h1] at hp;cases hp
theorem pK{α:Type}{p:α->Bool}{xs:List α}:decide (oD p xs>=0)=xs.any p:=by
 unfold oD
 cases h:xs.any p with
 |true=>simp
 |false=>simp
noncomputable def yA(k:Int)(n:List UInt8)(len:Nat):Bool:=
 dec ((k=1\/k=4)/\validName n=true/\len=0\/k=3/\validName n=true/\len=1\/k=2/\(validName n=true/\len<=3\/sK n=true/\len=0))
mutual
noncomputable def formed:ak->Bool
 | .mk k n a=>yA k n a.length&&iA a
noncomputable def iA:List ak->Bool
 |[]=>true
 |t::ts=>formed t&&iA ts
end
theorem wZ(t:ak):formed t=(yA t.aH t.fName t.fArgs.length&&iA t.fArgs):=by cases t;rw[formed];rfl
theorem r9:∀{ts:List ak},iA ts=true<->∀t∈ts,formed t=true
 |[]=>by simp[iA]
 |t::ts=>by simp[iA,r9 (ts:=ts)]
theorem F8:∀{ts:List ak},(ts.any fun t=> !formed t)= !iA ts
 |[]=>rfl
 |t::ts=>by rw[List.any_cons,F8 (ts:=ts),iA];simp
mutual
def kg:ak->Nat
 | .mk _ _ a=>depths a
def depths:List ak->Nat
 |[]=>0
 |t::ts=>max (kg t+1) (depths ts)
end
theorem LU(t:ak):kg t=depths t.fArgs:=by cases t;rw[kg];rfl
mutual
theorem w9:∀t:ak,kg t+1<=t.cnt
 | .mk k n a=>by
   have:=LV a;rw[kg,ak.cnt];omega
theorem LV:∀ts:List ak,depths ts<=ak.dn ts
 |[]=>by simp[depths]
 |t::ts=>by
  have h1:=w9 t;have h2:=LV ts;rw[depths,ak.dn];omega
end
noncomputable def lF(t:ak):Bool:=dec (formed t=true/\kg t<=6/\t.cnt<=60)
theorem Bq(n a b:Int):aG prog 120 [.c (.d (.i .i64 n)),.c (.d (.i .i64 a)),.c (.d (.i .i64 b))] (.c (.d (.b (dec (a<=n/\n<=b))))):=fun S=>by
 refine zcx [.tmp 6] func120 ntmps120 ?_;simp -implicitDefEqProofs (disch:=omega) only[go_sem]
 with_reducible refine aA (fun hb=> ?_) (fun hb=> ?_)<;>have h:=hb<;>(try simp only[wf_preprocess] at h)<;>simp -implicitDefEqProofs (disch:=omega) only[go_sem,hb]<;>(repeat(with_reducible refine And.intro ?_ ?_;focus first|omega|rfl|assumption|exact⟨_,rfl,rfl⟩|(simp;omega)|(simp;done)))
 ·exact aQ (by rw[kX];exact lC ⟨fun x=>⟨by omega,x⟩,fun x=>x.2⟩)
 ·exact aQ (bJ (by omega)).symm
theorem qM(xs:List (List UInt8))(s:List UInt8)(hl:xs.length<=1073741824):aG prog 76 [.c (.d (.sl (xs.map encS))),.c (.d (.s s))] (.c (.d (.b (dec (s∈xs))))):=fun S=>by
 refine zcx [.tmp 4] func76 ntmps76 ?_;simp -implicitDefEqProofs (disch:=omega) only[go_sem,encS]
 refine bC (ι:=Nat) zmx rfl [0,1,5] (fun i=>[.c (.d (.sl (xs.map encS))),.c (.d (.s s)),.c (.d (.i .i64 i))]) (fun _=>[]::S)
  (fun i=>i<=xs.length/\∀j,j<i->∀h:j<xs.length,xs[j]≠s) (fun i=>xs.length-i) 0 rfl rfl ⟨Nat.zero_le _,fun j h=>by omega⟩ ?_
 rintro i ⟨p1,p2⟩;simp -implicitDefEqProofs (disch:=omega) only[go_sem,encS]
 with_reducible refine aA (fun hb=> ?_) (fun hb=> ?_)<;>have h:=hb<;>(try simp only[wf_preprocess] at h)<;>simp -implicitDefEqProofs (disch:=omega) only[go_sem,hb,encS]<;>(repeat(with_reducible refine And.intro ?_ ?_;focus first|omega|rfl|assumption|exact⟨_,rfl,rfl⟩|(simp;omega)|(simp;done)))
 ·have hi:i<xs.length:=by omega
  with_reducible refine aA (fun hb=> ?_) (fun hb=> ?_)<;>have h:=hb<;>(try simp only[wf_preprocess] at h)<;>simp -implicitDefEqProofs (disch:=omega) only[go_sem,hb,encS]<;>(repeat(with_reducible refine And.intro ?_ ?_;focus first|omega|rfl|assumption|exact⟨_,rfl,rfl⟩|(simp;omega)|(simp;done)))
  ·exact aQ (dx (by rw[<-h];exact List.getElem_mem hi)).symm
  ·refine cO (i+1) (by omega) rfl rfl ⟨by omega,fun j hj hl=> ?_⟩;by_cases e:j=i
   ·subst e;exact h
   ·exact p2 j (by omega) hl
 ·refine aQ (bJ fun hm=> ?_).symm;obtain⟨j,h1,h2⟩:=List.getElem_of_mem hm;exact p2 j (by omega) h1 h2
theorem YM(xs:List (List UInt8))(s:List UInt8)(hl:xs.length<=1073741824):aG prog 192 [.c (.d (.sl (xs.map encS))),.c (.d (.s s))] (.c (.d (.i .i64 (zu xs s)))):=fun S=>by
 refine zcx [.tmp 4] func192 ntmps192 ?_;simp -implicitDefEqProofs (disch:=omega) only[go_sem,encS]
 refine bC (ι:=Nat) zmx rfl [0,1,7,8] (fun i=>[.c (.d (.sl (xs.map encS))),.c (.d (.s s)),.c (.d (.i .i64 xs.length)),.c (.d (.i .i64 i))]) (fun _=>[]::S)
  (fun i=>i<=xs.length/\∀j,j<i->xs.getD j []≠s) (fun i=>xs.length-i) 0 rfl rfl ⟨Nat.zero_le _,fun j h=>by omega⟩ ?_
 rintro i ⟨p1,p2⟩;simp -implicitDefEqProofs (disch:=omega) only[go_sem,encS]
 with_reducible refine aA (fun hb=> ?_) (fun hb=> ?_)<;>have h:=hb<;>(try simp only[wf_preprocess] at h)<;>simp -implicitDefEqProofs (disch:=omega) only[go_sem,hb,encS]<;>(repeat(with_reducible refine And.intro ?_ ?_;focus first|omega|rfl|assumption|exact⟨_,rfl,rfl⟩|(simp;omega)|(simp;done)))
 ·have hi:i<xs.length:=by omega
  have e:xs.getD i []=xs[i]:=by simp[List.getD,hi]
  with_reducible refine aA (fun hb=> ?_) (fun hb=> ?_)<;>have h:=hb<;>(try simp only[wf_preprocess] at h)<;>simp -implicitDefEqProofs (disch:=omega) only[go_sem,hb,encS]<;>(repeat(with_reducible refine And.intro ?_ ?_;focus first|omega|rfl|assumption|exact⟨_,rfl,rfl⟩|(simp;omega)|(simp;done)))
  ·rw[RY hi p2 (by rw[e];exact h.symm)]
  ·refine cO (i+1) (by omega) rfl rfl ⟨by omega,fun j hj=> ?_⟩;by_cases e':j=i
   ·subst e';rw[e];exact fun x=>h x.symm
   ·exact p2 j (by omega)
 ·rw[YL (fun j hj=>p2 j (by omega))]
theorem qN(xs:List (List UInt8))(s:List UInt8)(hl:xs.length<=1073741824):aG prog 154 [.c (.d (.sl (xs.map encS))),.c (.d (.s s))] (.c (.d (.b (dec (s∈xs))))):=fun S=>by
 refine zcx [.tmp 4] func154 ntmps154 ?_;simp -implicitDefEqProofs (disch:=omega) only[go_sem];refine ay (YM xs s hl) ?_;simp -implicitDefEqProofs (disch:=omega) only[go_sem]<;>(repeat(with_reducible refine And.intro ?_ ?_;focus first|omega|rfl|assumption|exact⟨_,rfl,rfl⟩|(simp;omega)|(simp;done)));exact aQ VK
theorem Jf(s:List UInt8):aG prog 121 [.c (.d (.s s))] (.c (.d (.b (dec (s∈reserved))))):=fun S=>by
 refine zcx [.tmp 2] func121 ntmps121 ?_;simp -implicitDefEqProofs (disch:=omega) only[go_sem]
 (repeat(with_reducible refine And.intro ?_ ?_;focus first|omega|rfl|assumption|exact⟨_,rfl,rfl⟩|(simp;omega)|(simp;done)))
 refine ay (qM reserved s (by decide)) ?_;simp -implicitDefEqProofs (disch:=omega) only[go_sem]<;>(repeat(with_reducible refine And.intro ?_ ?_;focus first|omega|rfl|assumption|exact⟨_,rfl,rfl⟩|(simp;omega)|(simp;done)))
theorem Jg(s:List UInt8):aG prog 107 [.c (.d (.s s))] (.c (.d (.b (dec (s∈reserved))))):=fun S=>by
 refine zcx [.tmp 2] func107 ntmps107 ?_;simp -implicitDefEqProofs (disch:=omega) only[go_sem]
 (repeat(with_reducible refine And.intro ?_ ?_;focus first|omega|rfl|assumption|exact⟨_,rfl,rfl⟩|(simp;omega)|(simp;done)))
 refine ay (qN reserved s (by decide)) ?_;simp -implicitDefEqProofs (disch:=omega) only[go_sem]<;>(repeat(with_reducible refine And.intro ?_ ?_;focus first|omega|rfl|assumption|exact⟨_,rfl,rfl⟩|(simp;omega)|(simp;done)))
theorem Jh(b:UInt8):aG prog 105 [.c (.d (.i .u8 b.toNat))] (.c (.d (.b (dec (lowerB b))))):=fun S=>by
 refine zcx [.tmp 2] func105 ntmps105 ?_;simp -implicitDefEqProofs (disch:=omega) only[go_sem]
 with_reducible refine aA (fun hb=> ?_) (fun hb=> ?_)<;>have h:=hb<;>(try simp only[wf_preprocess] at h)<;>simp -implicitDefEqProofs (disch:=omega) only[go_sem,hb]<;>(repeat(with_reducible refine And.intro ?_ ?_;focus first|omega|rfl|assumption|exact⟨_,rfl,rfl⟩|(simp;omega)|(simp;done)))
 ·exact aQ (by rw[kX];exact lC ⟨fun x=>⟨by omega,by omega⟩,fun x=>by have:=x.2;omega⟩)
 ·exact aQ (bJ fun x=>by have:=x.1;omega).symm
theorem Ji(b:UInt8):aG prog 106 [.c (.d (.i .u8 b.toNat))] (.c (.d (.b (dec (nJ b))))):=fun S=>by
 refine zcx [.tmp 2] func106 ntmps106 ?_;simp -implicitDefEqProofs (disch:=omega) only[go_sem]
 with_reducible refine aA (fun hb=> ?_) (fun hb=> ?_)<;>have h:=hb<;>(try simp only[wf_preprocess] at h)<;>simp -implicitDefEqProofs (disch:=omega) only[go_sem,hb]<;>(repeat(with_reducible refine And.intro ?_ ?_;focus first|omega|rfl|assumption|exact⟨_,rfl,rfl⟩|(simp;omega)|(simp;done)))
 ·exact aQ (by rw[kX];exact lC ⟨fun x=>⟨by omega,by omega⟩,fun x=>by have:=x.2;omega⟩)
 ·exact aQ (bJ fun x=>by have:=x.1;omega).symm
theorem jJ(s:List UInt8)(hl:s.length<=1073741824):aG prog 43 [.c (.d (.s s))] (.c (.d (.b (validName s)))):=fun S=>by
 refine zcx [.tmp 2] func43 ntmps43 ?_;simp -implicitDefEqProofs (disch:=omega) only[go_sem]
 refine bC (ι:=Nat) zmx rfl [0,5,6] (fun i=>[.c (.d (.s s)),.c (.d (.i .i64 s.length)),.c (.d (.i .i64 i))]) (fun _=>[]::S)
  (fun i=>i<=s.length/\∀j,j<i->lowerB (s.getD j 0)\/(j≠0/\nJ (s.getD j 0))) (fun i=>s.length-i) 0 rfl rfl ⟨Nat.zero_le _,fun j h=>by omega⟩ ?_
 rintro i ⟨p1,p2⟩
 have next:i<s.length->(lowerB (s.getD i 0)\/(i≠0/\nJ (s.getD i 0)))->∀j,j<i+1->lowerB (s.getD j 0)\/(j≠0/\nJ (s.getD j 0)):=fun hi h j hj=>by
  by_cases e:j=i
  ·subst e;exact h
  ·exact p2 j (by omega)
 have bad:i<s.length->¬(lowerB (s.getD i 0)\/(i≠0/\nJ (s.getD i 0)))->validName s=false:=fun hi h=>bJ fun x=>h (x.2.2 i hi);simp -implicitDefEqProofs (disch:=omega) only[go_sem]
 with_reducible refine aA (fun hb=> ?_) (fun hb=> ?_)<;>have h:=hb<;>(try simp only[wf_preprocess] at h)<;>simp -implicitDefEqProofs (disch:=omega) only[go_sem,hb]<;>(repeat(with_reducible refine And.intro ?_ ?_;focus first|omega|rfl|assumption|exact⟨_,rfl,rfl⟩|(simp;omega)|(simp;done)))
 ·have hi:i<s.length:=by omega
  (repeat(with_reducible refine And.intro ?_ ?_;focus first|omega|rfl|assumption|exact⟨_,rfl,rfl⟩|(simp;omega)|(simp;done)))
  refine ay (Jh (s.getD i 0)) ?_;simp -implicitDefEqProofs (disch:=omega) only[go_sem]<;>(repeat(with_reducible refine And.intro ?_ ?_;focus first|omega|rfl|assumption|exact⟨_,rfl,rfl⟩|(simp;omega)|(simp;done)))
  with_reducible refine aA (fun hb=> ?_) (fun hb=> ?_)<;>have h:=hb<;>(try simp only[wf_preprocess] at h)<;>simp -implicitDefEqProofs (disch:=omega) only[go_sem,hb]<;>(repeat(with_reducible refine And.intro ?_ ?_;focus first|omega|rfl|assumption|exact⟨_,rfl,rfl⟩|(simp;omega)|(simp;done)))
  ·have nl:=h
   with_reducible refine aA (fun hb=> ?_) (fun hb=> ?_)<;>have h:=hb<;>(try simp only[wf_preprocess] at h)<;>simp -implicitDefEqProofs (disch:=omega) only[go_sem,hb]<;>(repeat(with_reducible refine And.intro ?_ ?_;focus first|omega|rfl|assumption|exact⟨_,rfl,rfl⟩|(simp;omega)|(simp;done)))
   ·have i0:i=0:=by omega
    rw[bad hi (fun x=>x.elim nl fun y=>y.1 i0)]
   ·have ne:=h
    (repeat(with_reducible refine And.intro ?_ ?_;focus first|omega|rfl|assumption|exact⟨_,rfl,rfl⟩|(simp;omega)|(simp;done)))
    refine ay (Ji (s.getD i 0)) ?_;simp -implicitDefEqProofs (disch:=omega) only[go_sem]<;>(repeat(with_reducible refine And.intro ?_ ?_;focus first|omega|rfl|assumption|exact⟨_,rfl,rfl⟩|(simp;omega)|(simp;done)))
    with_reducible refine aA (fun hb=> ?_) (fun hb=> ?_)<;>have h:=hb<;>(try simp only[wf_preprocess] at h)<;>simp -implicitDefEqProofs (disch:=omega) only[go_sem,hb]<;>(repeat(with_reducible refine And.intro ?_ ?_;focus first|omega|rfl|assumption|exact⟨_,rfl,rfl⟩|(simp;omega)|(simp;done)))
    ·rw[bad hi (fun x=>x.elim nl fun y=>h y.2)]
    ·exact cO (i+1) (by omega) rfl rfl ⟨by omega,next hi (.inr ⟨by omega,h⟩)⟩
  ·exact cO (i+1) (by omega) rfl rfl ⟨by omega,next hi (.inl h)⟩
 ·have hn:PE s:=fun j hj=>p2 j (by omega)
  have h0:∀b,dec (s∈reserved)=b->∀c,decide ((s.length:Int)>=1)=c->∀d,decide ((s.length:Int)<=8)=d->validName s=(c&&d&& !b):=by
   rintro b rfl c rfl d rfl;unfold validName;rw[Bool.eq_iff_iff];simp only[wB,Bool.and_eq_true,decide_eq_true_eq,Bool.not_eq_true',DY];exact⟨fun x=>⟨⟨by omega,by omega⟩,x.2.1⟩,fun x=>⟨⟨by omega,by omega⟩,x.2,hn⟩⟩
  with_reducible refine aA (fun hb=> ?_) (fun hb=> ?_)<;>have h:=hb<;>(try simp only[wf_preprocess] at h)<;>simp -implicitDefEqProofs (disch:=omega) only[go_sem,hb]<;>(repeat(with_reducible refine And.intro ?_ ?_;focus first|omega|rfl|assumption|exact⟨_,rfl,rfl⟩|(simp;omega)|(simp;done)))
  ·have c1:=hb
   with_reducible refine aA (fun hb=> ?_) (fun hb=> ?_)<;>have h:=hb<;>(try simp only[wf_preprocess] at h)<;>simp -implicitDefEqProofs (disch:=omega) only[go_sem,hb]<;>(repeat(with_reducible refine And.intro ?_ ?_;focus first|omega|rfl|assumption|exact⟨_,rfl,rfl⟩|(simp;omega)|(simp;done)))
   ·refine ay (Jg s) ?_;simp -implicitDefEqProofs (disch:=omega) only[go_sem]<;>(repeat(with_reducible refine And.intro ?_ ?_;focus first|omega|rfl|assumption|exact⟨_,rfl,rfl⟩|(simp;omega)|(simp;done)));exact aQ (by rw[h0 _ rfl _ c1 _ hb];simp)
   ·exact aQ (by rw[h0 _ rfl _ c1 _ hb];simp)
  ·exact aQ (by rw[h0 _ rfl _ hb _ rfl];simp)
theorem jK(s:List UInt8)(hl:s.length<=1073741824):aG prog 52 [.c (.d (.s s))] (.c (.d (.b (validName s)))):=fun S=>by
 have bad:¬PE s->validName s=false:=fun h=>bJ fun x=>h x.2.2;refine zcx [.tmp 2] func52 ntmps52 ?_;simp -implicitDefEqProofs (disch:=omega) only[go_sem];refine ay (Bq s.length 1 8) ?_;simp -implicitDefEqProofs (disch:=omega) only[go_sem]<;>(repeat(with_reducible refine And.intro ?_ ?_;focus first|omega|rfl|assumption|exact⟨_,rfl,rfl⟩|(simp;omega)|(simp;done)))
 with_reducible refine aA (fun hb=> ?_) (fun hb=> ?_)<;>have h:=hb<;>(try simp only[wf_preprocess] at h)<;>simp -implicitDefEqProofs (disch:=omega) only[go_sem,hb]<;>(repeat(with_reducible refine And.intro ?_ ?_;focus first|omega|rfl|assumption|exact⟨_,rfl,rfl⟩|(simp;omega)|(simp;done)))
 ·rw[show validName s=false from bJ fun x=>h (by omega)]
 have hlen:=h;refine ay (Jf s) ?_;simp -implicitDefEqProofs (disch:=omega) only[go_sem]<;>(repeat(with_reducible refine And.intro ?_ ?_;focus first|omega|rfl|assumption|exact⟨_,rfl,rfl⟩|(simp;omega)|(simp;done)))
 with_reducible refine aA (fun hb=> ?_) (fun hb=> ?_)<;>have h:=hb<;>(try simp only[wf_preprocess] at h)<;>simp -implicitDefEqProofs (disch:=omega) only[go_sem,hb]<;>(repeat(with_reducible refine And.intro ?_ ?_;focus first|omega|rfl|assumption|exact⟨_,rfl,rfl⟩|(simp;omega)|(simp;done)))
 ·rw[show validName s=false from bJ fun x=>x.2.1 h]
 have hres:=h
 refine bC (ι:=Nat) zmx rfl [0,3] (fun i=>[.c (.d (.s s)),.c (.d (.i .i64 i))]) (fun _=>[]::S)
  (fun i=>i<=s.length/\∀j,j<i->lowerB (s.getD j 0)\/(j≠0/\nJ (s.getD j 0))) (fun i=>s.length-i) 0 rfl rfl ⟨Nat.zero_le _,fun j h=>by omega⟩ ?_
 rintro i ⟨p1,p2⟩
 have next:i<s.length->(lowerB (s.getD i 0)\/(i≠0/\nJ (s.getD i 0)))->∀j,j<i+1->lowerB (s.getD j 0)\/(j≠0/\nJ (s.getD j 0)):=fun hi h j hj=>by
  by_cases e:j=i
  ·subst e;exact h
  ·exact p2 j (by omega)
 simp -implicitDefEqProofs (disch:=omega) only[go_sem]
 with_reducible refine aA (fun hb=> ?_) (fun hb=> ?_)<;>have h:=hb<;>(try simp only[wf_preprocess] at h)<;>simp -implicitDefEqProofs (disch:=omega) only[go_sem,hb]<;>(repeat(with_reducible refine And.intro ?_ ?_;focus first|omega|rfl|assumption|exact⟨_,rfl,rfl⟩|(simp;omega)|(simp;done)))
 ·have hi:i<s.length:=by omega
  have bad':¬(lowerB (s.getD i 0)\/(i≠0/\nJ (s.getD i 0)))->validName s=false:=fun h=>bad fun x=>h (x i hi)
  have next:=next hi
  unfold lowerB nJ at bad' next
  all_goals try(with_reducible refine aA (fun hb=> ?_) (fun hb=> ?_)<;>have h:=hb<;>(try simp only[wf_preprocess] at h)<;>simp -implicitDefEqProofs (disch:=omega) only[go_sem,hb]<;>(repeat(with_reducible refine And.intro ?_ ?_;focus first|omega|rfl|assumption|exact⟨_,rfl,rfl⟩|(simp;omega)|(simp;done))))
  all_goals try(with_reducible refine aA (fun hb=> ?_) (fun hb=> ?_)<;>have h:=hb<;>(try simp only[wf_preprocess] at h)<;>simp -implicitDefEqProofs (disch:=omega) only[go_sem,hb]<;>(repeat(with_reducible refine And.intro ?_ ?_;focus first|omega|rfl|assumption|exact⟨_,rfl,rfl⟩|(simp;omega)|(simp;done))))
  all_goals try(with_reducible refine aA (fun hb=> ?_) (fun hb=> ?_)<;>have h:=hb<;>(try simp only[wf_preprocess] at h)<;>simp -implicitDefEqProofs (disch:=omega) only[go_sem,hb]<;>(repeat(with_reducible refine And.intro ?_ ?_;focus first|omega|rfl|assumption|exact⟨_,rfl,rfl⟩|(simp;omega)|(simp;done))))
  all_goals try(with_reducible refine aA (fun hb=> ?_) (fun hb=> ?_)<;>have h:=hb<;>(try simp only[wf_preprocess] at h)<;>simp -implicitDefEqProofs (disch:=omega) only[go_sem,hb]<;>(repeat(with_reducible refine And.intro ?_ ?_;focus first|omega|rfl|assumption|exact⟨_,rfl,rfl⟩|(simp;omega)|(simp;done))))
  all_goals try(with_reducible refine aA (fun hb=> ?_) (fun hb=> ?_)<;>have h:=hb<;>(try simp only[wf_preprocess] at h)<;>simp -implicitDefEqProofs (disch:=omega) only[go_sem,hb]<;>(repeat(with_reducible refine And.intro ?_ ?_;focus first|omega|rfl|assumption|exact⟨_,rfl,rfl⟩|(simp;omega)|(simp;done))))
  all_goals try(with_reducible refine aA (fun hb=> ?_) (fun hb=> ?_)<;>have h:=hb<;>(try simp only[wf_preprocess] at h)<;>simp -implicitDefEqProofs (disch:=omega) only[go_sem,hb]<;>(repeat(with_reducible refine And.intro ?_ ?_;focus first|omega|rfl|assumption|exact⟨_,rfl,rfl⟩|(simp;omega)|(simp;done))))
  all_goals first
   |exact cO (i+1) (by omega) rfl rfl ⟨by omega,next (by omega)⟩
   |exact aQ (bad' (by omega)).symm
 ·rw[show validName s=true from dx ⟨by omega,hres,fun j hj=>p2 j (by omega)⟩]
theorem YN(s:List UInt8):aG prog 209 [.c (.d (.s s))] (.c (.d (.b (sK s)))):=fun S=>by
 refine zcx [.tmp 2] func209 ntmps209 ?_;simp -implicitDefEqProofs (disch:=omega) only[go_sem]
 with_reducible refine aA (fun hb=> ?_) (fun hb=> ?_)<;>have h:=hb<;>(try simp only[wf_preprocess] at h)<;>simp -implicitDefEqProofs (disch:=omega) only[go_sem,hb]<;>(repeat(with_reducible refine And.intro ?_ ?_;focus first|omega|rfl|assumption|exact⟨_,rfl,rfl⟩|(simp;omega)|(simp;done)))
 ·exact aQ (dx (.inl h)).symm
 ·exact aQ (by rw[kX];exact lC ⟨fun x=>.inr x,fun x=>x.resolve_left h⟩)
theorem PG(s:List UInt8):aG prog 200 [.c (.d (.s s))] (.c (.d (.b (sK s)))):=fun S=>by
 refine zcx [.tmp 2] func200 ntmps200 ?_;simp -implicitDefEqProofs (disch:=omega) only[go_sem]
 with_reducible refine aA (fun hb=> ?_) (fun hb=> ?_)<;>have h:=hb<;>(try simp only[wf_preprocess] at h)<;>simp -implicitDefEqProofs (disch:=omega) only[go_sem,hb]<;>(repeat(with_reducible refine And.intro ?_ ?_;focus first|omega|rfl|assumption|exact⟨_,rfl,rfl⟩|(simp;omega)|(simp;done)))
 ·exact aQ (dx (.inl h)).symm
 ·exact aQ (by rw[kX];exact lC ⟨fun x=>.inr x,fun x=>x.resolve_left h⟩)
theorem qO{x:ak}{i:Nat}(hi:i<x.fArgs.length)(h:x.sz<=4194304):x.fArgs[i].sz<=4194304/\x.fArgs.length<=4194304/\x.fName.length<=4194304:=by
 have hx:x.fArgs[i].sz<=bA (x.fArgs.map ak.enc):=gD (List.mem_map_of_mem (List.getElem_mem hi));simp only[ak.sz,ak.aB,bG,D.sz,List.length_map] at h;omega
theorem Aa{x:ak}(h:x.sz<=4194304):x.fArgs.length<=4194304/\x.fName.length<=4194304:=by
 simp only[ak.sz,ak.aB,bG,D.sz,List.length_map] at h;omega
theorem jR:∀{ts:List ak}{i:Nat}(hi:i<ts.length),ak.dn (ts.drop i)=ts[i].cnt+ak.dn (ts.drop (i+1)):=fun {ts} {i} hi=>by
 rw[List.drop_eq_getElem_cons hi,ak.dn]
theorem F9:∀{ts:List ak}{i:Nat}(hi:i<ts.length),depths (ts.drop i)=max (kg ts[i]+1) (depths (ts.drop (i+1))):=fun {ts} {i} hi=>by
 rw[List.drop_eq_getElem_cons hi,depths]
theorem PI:∀{ts:List ak}{i:Nat}(hi:i<ts.length),iA (ts.drop i)=(formed ts[i]&&iA (ts.drop (i+1))):=fun {ts} {i} hi=>by
 rw[List.drop_eq_getElem_cons hi,iA]
theorem Jj:∀n:Nat,∀x:ak,SizeOf.sizeOf x<n->∀l:Int,0<=l->l<=1073741824->x.sz<=4194304->aG prog 179 [x.v,.c (.d (.i .i64 l))] (.c (.d (.i .i64 (kQ l x.cnt))))
 |0=>fun x h=>by omega
 |n+1=>by
  have ih:=Jj n;intro x hn l h0 h1 hsz S;have jl:=ak.iy x;have hts:=Aa hsz;have hcn:=ak.lY x;refine zcx [.tmp 4] func179 ntmps179 ?_;simp -implicitDefEqProofs (disch:=omega) only[go_sem]
  refine bC (ι:=Nat×Int) zmx rfl [1,2,5] (fun y=>[.c (.d (.i .i64 y.2)),.c (.ptr (0,0) 0),.c (.d (.i .i64 y.1))]) (fun y=>[.box [.d (.i .i64 x.aH),.d (.s x.fName),.d (.sl (x.fArgs.map ak.enc))]]::S)
   (fun y=>y.1<=x.fArgs.length/\ -1<=y.2/\y.2<=1073741824/\(0<=y.2->kQ l x.cnt=kQ y.2 (ak.dn (x.fArgs.drop y.1)))/\(y.2<0->kQ l x.cnt= -1)) (fun y=>x.fArgs.length-y.1) (0,l-1) rfl rfl ⟨Nat.zero_le _,by simp only;omega,by simp only;omega,fun h=> ?_,fun h=> ?_⟩ ?_
  ·simp only[List.drop_zero] at h ⊢;unfold kQ;rw[hcn];split<;>split<;>omega
  ·simp only at h;exact Fh (by omega)
  rintro⟨i,c⟩ ⟨p1,p2,p3,p4,p5⟩;simp only at p1 p2 p3 p4 p5;simp -implicitDefEqProofs (disch:=omega) only[go_sem]
  with_reducible refine aA (fun hb=> ?_) (fun hb=> ?_)<;>have h:=hb<;>(try simp only[wf_preprocess] at h)<;>simp -implicitDefEqProofs (disch:=omega) only[go_sem,hb]<;>(repeat(with_reducible refine And.intro ?_ ?_;focus first|omega|rfl|assumption|exact⟨_,rfl,rfl⟩|(simp;omega)|(simp;done)))
  ·have hi:i<x.fArgs.length:=by omega
   with_reducible refine aA (fun hb=> ?_) (fun hb=> ?_)<;>have h:=hb<;>(try simp only[wf_preprocess] at h)<;>simp -implicitDefEqProofs (disch:=omega) only[go_sem,hb]<;>(repeat(with_reducible refine And.intro ?_ ?_;focus first|omega|rfl|assumption|exact⟨_,rfl,rfl⟩|(simp;omega)|(simp;done)))
   ·have hsz':=qO hi hsz;have p6:=p4 h;rw[jR hi] at p6
    (repeat(with_reducible refine And.intro ?_ ?_;focus first|omega|rfl|assumption|exact⟨_,rfl,rfl⟩|(simp;omega)|(simp;done)))
    refine ay (ih x.fArgs[i] (by have:=List.sizeOf_lt_of_mem (List.getElem_mem hi);omega) c (by omega) (by omega) (by omega)) ?_;simp -implicitDefEqProofs (disch:=omega) only[go_sem]<;>(repeat(with_reducible refine And.intro ?_ ?_;focus first|omega|rfl|assumption|exact⟨_,rfl,rfl⟩|(simp;omega)|(simp;done)));refine cO (i+1,kQ c _) (by simp only;omega) rfl rfl ⟨by simp only;omega,?_,?_,fun h=> ?_,fun h=> ?_⟩
    ·simp only;unfold kQ;split<;>omega
    ·simp only;unfold kQ;split<;>omega
    ·simp only at h ⊢;rw[p6];have:=Fg (l:=c) (a:=x.fArgs[i].cnt) (by omega);rw[this.1];unfold kQ;split<;>split<;>omega
    ·simp only at h ⊢;rw[p6];have:=Cn h;exact Fh (by omega)
   ·have hc:c= -1:=by omega
    rw[p5 (by omega),hc]
  ·have hi:i=x.fArgs.length:=by omega
   by_cases hc:0<=c
   ·rw[p4 hc,hi,List.drop_length,ak.dn,Ph (by omega)];exact int_eq (by simp)
   ·rw[p5 (by omega)];exact int_eq (by omega)
theorem YO(x:ak)(l:Int)(h0:0<=l)(h1:l<=1073741824)(hsz:x.sz<=4194304):aG prog 179 [x.v,.c (.d (.i .i64 l))] (.c (.d (.i .i64 (kQ l x.cnt)))):=Jj _ x (Nat.lt_succ_self _) l h0 h1 hsz
theorem PK(a b:Int):aG prog 189 [.c (.d (.i .i64 a)),.c (.d (.i .i64 b))] (.c (.d (.i .i64 (max a b)))):=fun S=>by
 refine zcx [.tmp 4] func189 ntmps189 ?_;simp -implicitDefEqProofs (disch:=omega) only[go_sem]
 with_reducible refine aA (fun hb=> ?_) (fun hb=> ?_)<;>have h:=hb<;>(try simp only[wf_preprocess] at h)<;>simp -implicitDefEqProofs (disch:=omega) only[go_sem,hb]<;>(repeat(with_reducible refine And.intro ?_ ?_;focus first|omega|rfl|assumption|exact⟨_,rfl,rfl⟩|(simp;omega)|(simp;done)))
 ·exact int_eq (by omega)
 ·exact int_eq (by omega)
theorem Di:∀n:Nat,∀x:ak,SizeOf.sizeOf x<n->x.sz<=4194304->aG prog 180 [x.v] (.c (.d (.i .i64 (kg x))))
 |0=>fun x h=>by omega
 |n+1=>by
  have ih:=Di n;intro x hn hsz S;have jl:=ak.iy x;have hts:=Aa hsz;have hd1:=w9 x;have hd2:=jQ x;refine zcx [.tmp 2] func180 ntmps180 ?_;simp -implicitDefEqProofs (disch:=omega) only[go_sem]
  refine bC (ι:=Nat×Nat) zmx rfl [1,3,4] (fun y=>[.c (.ptr (0,0) 0),.c (.d (.i .i64 y.2)),.c (.d (.i .i64 y.1))]) (fun y=>[.box [.d (.i .i64 x.aH),.d (.s x.fName),.d (.sl (x.fArgs.map ak.enc))]]::S)
   (fun y=>y.1<=x.fArgs.length/\kg x=max y.2 (depths (x.fArgs.drop y.1))) (fun y=>x.fArgs.length-y.1) (0,0) rfl rfl ⟨Nat.zero_le _,by simp[LU]⟩ ?_
  rintro⟨i,c⟩ ⟨p1,p2⟩;simp only at p1 p2;simp -implicitDefEqProofs (disch:=omega) only[go_sem]
  with_reducible refine aA (fun hb=> ?_) (fun hb=> ?_)<;>have h:=hb<;>(try simp only[wf_preprocess] at h)<;>simp -implicitDefEqProofs (disch:=omega) only[go_sem,hb]<;>(repeat(with_reducible refine And.intro ?_ ?_;focus first|omega|rfl|assumption|exact⟨_,rfl,rfl⟩|(simp;omega)|(simp;done)))
  ·have hi:i<x.fArgs.length:=by omega
   have hsz':=qO hi hsz;rw[F9 hi] at p2;have hd3:=w9 x.fArgs[i];have hd4:=jQ x.fArgs[i]
   (repeat(with_reducible refine And.intro ?_ ?_;focus first|omega|rfl|assumption|exact⟨_,rfl,rfl⟩|(simp;omega)|(simp;done)))
   refine ay (ih x.fArgs[i] (by have:=List.sizeOf_lt_of_mem (List.getElem_mem hi);omega) (by omega)) ?_;simp -implicitDefEqProofs (disch:=omega) only[go_sem]<;>(repeat(with_reducible refine And.intro ?_ ?_;focus first|omega|rfl|assumption|exact⟨_,rfl,rfl⟩|(simp;omega)|(simp;done)));refine ay (PK _ _) ?_;simp -implicitDefEqProofs (disch:=omega) only[go_sem]<;>(repeat(with_reducible refine And.intro ?_ ?_;focus first|omega|rfl|assumption|exact⟨_,rfl,rfl⟩|(simp;omega)|(simp;done)));rw[show max (c:Int) (1+(kg x.fArgs[i]:Int))=((max c (1+kg x.fArgs[i]):Nat):Int) by omega];exact cO (i+1,max c (1+kg x.fArgs[i])) (by simp only;omega) rfl rfl ⟨by simp only;omega,by simp only;omega⟩
  ·have hi:i=x.fArgs.length:=by omega
   rw[hi,List.drop_length,depths] at p2;exact int_eq (by omega)
theorem PL(x:ak)(hsz:x.sz<=4194304):aG prog 180 [x.v] (.c (.d (.i .i64 (kg x)))):=Di _ x (Nat.lt_succ_self _) hsz
theorem Dj:∀n:Nat,∀x:ak,SizeOf.sizeOf x<n->x.sz<=4194304->aG prog 173 [x.v] (.c (.d (.i .i64 (kg x))))
 |0=>fun x h=>by omega
 |n+1=>by
  have ih:=Dj n;intro x hn hsz S;have jl:=ak.iy x;have hts:=Aa hsz;have hd1:=w9 x;have hd2:=jQ x;refine zcx [.tmp 2] func173 ntmps173 ?_;simp -implicitDefEqProofs (disch:=omega) only[go_sem]
  refine bC (ι:=Nat×Nat) zmx rfl [3,7,8,9] (fun y=>[.c (.d (.i .i64 y.2)),.c (.d (.sl (x.fArgs.map ak.enc))),.c (.d (.i .i64 x.fArgs.length)),.c (.d (.i .i64 y.1))]) (fun y=>[.box [.d (.i .i64 x.aH),.d (.s x.fName),.d (.sl (x.fArgs.map ak.enc))]]::S)
   (fun y=>y.1<=x.fArgs.length/\kg x=max y.2 (depths (x.fArgs.drop y.1))) (fun y=>x.fArgs.length-y.1) (0,0) rfl rfl ⟨Nat.zero_le _,by simp[LU]⟩ ?_
  rintro⟨i,c⟩ ⟨p1,p2⟩;simp only at p1 p2;simp -implicitDefEqProofs (disch:=omega) only[go_sem]
  with_reducible refine aA (fun hb=> ?_) (fun hb=> ?_)<;>have h:=hb<;>(try simp only[wf_preprocess] at h)<;>simp -implicitDefEqProofs (disch:=omega) only[go_sem,hb]<;>(repeat(with_reducible refine And.intro ?_ ?_;focus first|omega|rfl|assumption|exact⟨_,rfl,rfl⟩|(simp;omega)|(simp;done)))
  ·have hi:i<x.fArgs.length:=by omega
   have hsz':=qO hi hsz;rw[F9 hi] at p2;have hd3:=w9 x.fArgs[i];have hd4:=jQ x.fArgs[i]
   (repeat(with_reducible refine And.intro ?_ ?_;focus first|omega|rfl|assumption|exact⟨_,rfl,rfl⟩|(simp;omega)|(simp;done)))
   refine ay (ih x.fArgs[i] (by have:=List.sizeOf_lt_of_mem (List.getElem_mem hi);omega) (by omega)) ?_;simp -implicitDefEqProofs (disch:=omega) only[go_sem]<;>(repeat(with_reducible refine And.intro ?_ ?_;focus first|omega|rfl|assumption|exact⟨_,rfl,rfl⟩|(simp;omega)|(simp;done)));rw[show max (c:Int) ((kg x.fArgs[i]:Int)+1)=((max c (kg x.fArgs[i]+1):Nat):Int) by omega];exact dM 1 (by decide) (i+1,max c (kg x.fArgs[i]+1)) (by simp only;omega) rfl rfl rfl rfl ⟨by simp only;omega,by simp only;omega⟩
  ·have hi:i=x.fArgs.length:=by omega
   rw[hi,List.drop_length,depths] at p2;exact int_eq (by omega)
theorem PN(x:ak)(hsz:x.sz<=4194304):aG prog 173 [x.v] (.c (.d (.i .i64 (kg x)))):=Dj _ x (Nat.lt_succ_self _) hsz
theorem Ea:∀n:Nat,∀x:ak,SizeOf.sizeOf x<n->x.sz<=4194304->aG prog 174 [x.v] (.c (.d (.i .i64 x.cnt)))
 |0=>fun x h=>by omega
 |n+1=>by
  have ih:=Ea n;intro x hn hsz S;have jl:=ak.iy x;have hts:=Aa hsz;have hd2:=jQ x;refine zcx [.tmp 2] func174 ntmps174 ?_;simp -implicitDefEqProofs (disch:=omega) only[go_sem]
  refine bC (ι:=Nat×Nat) zmx rfl [3,7,8,9] (fun y=>[.c (.d (.i .i64 y.2)),.c (.d (.sl (x.fArgs.map ak.enc))),.c (.d (.i .i64 x.fArgs.length)),.c (.d (.i .i64 y.1))]) (fun y=>[.box [.d (.i .i64 x.aH),.d (.s x.fName),.d (.sl (x.fArgs.map ak.enc))]]::S)
   (fun y=>y.1<=x.fArgs.length/\x.cnt=y.2+ak.dn (x.fArgs.drop y.1)) (fun y=>x.fArgs.length-y.1) (0,1) rfl rfl ⟨Nat.zero_le _,by simp[ak.lY]⟩ ?_
  rintro⟨i,c⟩ ⟨p1,p2⟩;simp only at p1 p2;simp -implicitDefEqProofs (disch:=omega) only[go_sem]
  with_reducible refine aA (fun hb=> ?_) (fun hb=> ?_)<;>have h:=hb<;>(try simp only[wf_preprocess] at h)<;>simp -implicitDefEqProofs (disch:=omega) only[go_sem,hb]<;>(repeat(with_reducible refine And.intro ?_ ?_;focus first|omega|rfl|assumption|exact⟨_,rfl,rfl⟩|(simp;omega)|(simp;done)))
  ·have hi:i<x.fArgs.length:=by omega
   have hsz':=qO hi hsz;rw[jR hi] at p2
   (repeat(with_reducible refine And.intro ?_ ?_;focus first|omega|rfl|assumption|exact⟨_,rfl,rfl⟩|(simp;omega)|(simp;done)))
   refine ay (ih x.fArgs[i] (by have:=List.sizeOf_lt_of_mem (List.getElem_mem hi);omega) (by omega)) ?_;simp -implicitDefEqProofs (disch:=omega) only[go_sem]<;>(repeat(with_reducible refine And.intro ?_ ?_;focus first|omega|rfl|assumption|exact⟨_,rfl,rfl⟩|(simp;omega)|(simp;done)));rw[show(c:Int)+(x.fArgs[i].cnt:Int)=((c+x.fArgs[i].cnt:Nat):Int) by omega];exact dM 1 (by decide) (i+1,c+x.fArgs[i].cnt) (by simp only;omega) rfl rfl rfl rfl ⟨by simp only;omega,by simp only;omega⟩
  ·have hi:i=x.fArgs.length:=by omega
   rw[hi,List.drop_length,ak.dn] at p2;exact int_eq (by omega)
theorem RZ(x:ak)(hsz:x.sz<=4194304):aG prog 174 [x.v] (.c (.d (.i .i64 x.cnt))):=Ea _ x (Nat.lt_succ_self _) hsz
theorem Eb:∀n:Nat,(∀x:ak,SizeOf.sizeOf x<n->x.sz<=4194304->aG prog 172 [x.v] (.c (.d (.b (formed x)))))/\
 (∀xs:List ak,SizeOf.sizeOf xs<n->xs.length<=4194304->(∀t∈xs,t.sz<=4194304)->aG prog 113 [.c (.d (.sl (xs.map ak.enc))),.c (.fn 201 [])] (.c (.d (.b (!iA xs)))))
 |0=>⟨fun x h=>by omega,fun x h=>by omega⟩
 |n+1=>by
  obtain⟨ih,mF⟩:=Eb n;refine⟨fun x hn hsz S=> ?_,fun xs hn hlen hsz S=> ?_⟩
  ·have jl:=ak.iy x;have hts:=Aa hsz
   have fin:∀b,yA x.aH x.fName x.fArgs.length=b->formed x=(b&&iA x.fArgs):=fun b hb=>by rw[<-hb];exact wZ x
   have hall:∀t∈x.fArgs,t.sz<=4194304:=fun t ht=>by
    obtain⟨i,hi,e⟩:=List.getElem_of_mem ht;rw[<-e];exact(qO hi hsz).1
   have tail:=mF x.fArgs (by omega) hts.1 hall
   have yes:yA x.aH x.fName x.fArgs.length=true->formed x= !(!iA x.fArgs):=fun h=>by rw[fin _ h];simp
   have no:yA x.aH x.fName x.fArgs.length=false->formed x=false:=fun h=>by rw[fin _ h];simp
   have shut:¬((x.aH=1\/x.aH=4)/\validName x.fName=true/\x.fArgs.length=0\/x.aH=3/\validName x.fName=true/\x.fArgs.length=1\/x.aH=2/\(validName x.fName=true/\x.fArgs.length<=3\/sK x.fName=true/\x.fArgs.length=0))->V.c (.d (.b false))=V.c (.d (.b (formed x))):=fun h=>aQ (no (bJ h)).symm;have open_:((x.aH=1\/x.aH=4)/\validName x.fName=true/\x.fArgs.length=0\/x.aH=3/\validName x.fName=true/\x.fArgs.length=1\/x.aH=2/\(validName x.fName=true/\x.fArgs.length<=3\/sK x.fName=true/\x.fArgs.length=0))->V.c (.d (.b (!(!iA x.fArgs))))=V.c (.d (.b (formed x))):=fun h=>aQ (yes (dx h)).symm;clear yes no fin;refine zcx [.tmp 2] func172 ntmps172 ?_;simp -implicitDefEqProofs (disch:=omega) only[go_sem]
   repeat' (first
    |(with_reducible refine aA (fun hb=> ?_) (fun hb=> ?_)<;>have h:=hb<;>(try simp only[wf_preprocess] at h)<;>simp -implicitDefEqProofs (disch:=omega) only[go_sem,hb]<;>(repeat(with_reducible refine And.intro ?_ ?_;focus first|omega|rfl|assumption|exact⟨_,rfl,rfl⟩|(simp;omega)|(simp;done))))
    |(refine ay (jJ x.fName (by omega)) ?_;simp -implicitDefEqProofs (disch:=omega) only[go_sem])
    |(refine ay (PG x.fName) ?_;simp -implicitDefEqProofs (disch:=omega) only[go_sem])
    |(refine ay tail ?_;simp -implicitDefEqProofs (disch:=omega) only[go_sem]))
   all_goals first
    |(refine shut (fun y=> ?_);rcases y with⟨_,_,_⟩|⟨_,_,_⟩|⟨_,⟨_,_⟩|⟨_,_⟩⟩<;>first|omega|(simp_all;done))
    |(refine open_ ?_;first
       |exact .inl ⟨by omega,by assumption,by omega⟩
       |exact .inr (.inl ⟨by omega,by assumption,by omega⟩)
       |exact .inr (.inr ⟨by omega,.inl ⟨by assumption,by omega⟩⟩)
       |exact .inr (.inr ⟨by omega,.inr ⟨by assumption,by omega⟩⟩))
  ·have hcl:∀y∈xs,aG prog 201 [y.v] (.c (.d (.b (!formed y)))):=fun y hy S=>by
    have hys:=List.sizeOf_lt_of_mem hy;refine zcx [.tmp 2] func201 ntmps201 ?_;simp -implicitDefEqProofs (disch:=omega) only[go_sem];refine ay (ih y (by omega) (hsz y hy)) ?_;simp -implicitDefEqProofs (disch:=omega) only[go_sem]<;>(repeat(with_reducible refine And.intro ?_ ?_;focus first|omega|rfl|assumption|exact⟨_,rfl,rfl⟩|(simp;omega)|(simp;done)))
   have hidx:aG prog 171 [.c (.d (.sl (xs.map ak.enc))),.c (.fn 201 [])] (.c (.d (.i .i64 (oD (fun y=> !formed y) xs)))):=fun S=>by
    refine zcx [.tmp 4] func171 ntmps171 ?_;simp -implicitDefEqProofs (disch:=omega) only[go_sem]
    refine bC (ι:=Nat) zmx rfl [0,1,7,8] (fun i=>[.c (.d (.sl (xs.map ak.enc))),.c (.fn 201 []),.c (.d (.i .i64 xs.length)),.c (.d (.i .i64 i))]) (fun _=>[]::S)
     (fun i=>i<=xs.length/\∀j,∀hj:j<xs.length,j<i->formed xs[j]=true) (fun i=>xs.length-i) 0 rfl rfl ⟨Nat.zero_le _,fun j _ h=>by omega⟩ ?_
    rintro i ⟨p1,p2⟩;simp -implicitDefEqProofs (disch:=omega) only[go_sem]
    with_reducible refine aA (fun hb=> ?_) (fun hb=> ?_)<;>have h:=hb<;>(try simp only[wf_preprocess] at h)<;>simp -implicitDefEqProofs (disch:=omega) only[go_sem,hb]<;>(repeat(with_reducible refine And.intro ?_ ?_;focus first|omega|rfl|assumption|exact⟨_,rfl,rfl⟩|(simp;omega)|(simp;done)))
    ·have hi:i<xs.length:=by omega
     (repeat(with_reducible refine And.intro ?_ ?_;focus first|omega|rfl|assumption|exact⟨_,rfl,rfl⟩|(simp;omega)|(simp;done)))
     refine ay (hcl xs[i] (List.getElem_mem hi)) ?_;simp -implicitDefEqProofs (disch:=omega) only[go_sem]<;>(repeat(with_reducible refine And.intro ?_ ?_;focus first|omega|rfl|assumption|exact⟨_,rfl,rfl⟩|(simp;omega)|(simp;done)))
     with_reducible refine aA (fun hb=> ?_) (fun hb=> ?_)<;>have h:=hb<;>(try simp only[wf_preprocess] at h)<;>simp -implicitDefEqProofs (disch:=omega) only[go_sem,hb]<;>(repeat(with_reducible refine And.intro ?_ ?_;focus first|omega|rfl|assumption|exact⟨_,rfl,rfl⟩|(simp;omega)|(simp;done)))
     ·rw[nS hi (fun j hj hji=>by rw[p2 j hj hji];rfl) (by rw[h];rfl)]
     ·refine cO (i+1) (by omega) rfl rfl ⟨by omega,fun j hj hji=> ?_⟩;by_cases e:j=i
      ·subst e;exact h
      ·exact p2 j hj (by omega)
    ·rw[qL (fun j hj=>by rw[p2 j hj (by omega)];rfl)]
   refine zcx [.tmp 4] func113 ntmps113 ?_;simp -implicitDefEqProofs (disch:=omega) only[go_sem];refine ay (hidx) ?_;simp -implicitDefEqProofs (disch:=omega) only[go_sem]<;>(repeat(with_reducible refine And.intro ?_ ?_;focus first|omega|rfl|assumption|exact⟨_,rfl,rfl⟩|(simp;omega)|(simp;done)));rw[<-F8];exact aQ pK
theorem R3(x:ak)(hsz:x.sz<=4194304):aG prog 172 [x.v] (.c (.d (.b (formed x)))):=(Eb _).1 x (Nat.lt_succ_self _) hsz
theorem sM(x:ak)(hsz:x.sz<=4194304):aG prog 115 [x.v] (.c (.d (.b (lF x)))):=fun S=>by
 refine zcx [.tmp 2] func115 ntmps115 ?_;simp -implicitDefEqProofs (disch:=omega) only[go_sem];refine ay (R3 x hsz) ?_;simp -implicitDefEqProofs (disch:=omega) only[go_sem]<;>(repeat(with_reducible refine And.intro ?_ ?_;focus first|omega|rfl|assumption|exact⟨_,rfl,rfl⟩|(simp;omega)|(simp;done)))
 with_reducible refine aA (fun hb=> ?_) (fun hb=> ?_)<;>have h:=hb<;>(try simp only[wf_preprocess] at h)<;>simp -implicitDefEqProofs (disch:=omega) only[go_sem,hb]<;>(repeat(with_reducible refine And.intro ?_ ?_;focus first|omega|rfl|assumption|exact⟨_,rfl,rfl⟩|(simp;omega)|(simp;done)))
 ·have h1:=h;refine ay (PN x hsz) ?_;simp -implicitDefEqProofs (disch:=omega) only[go_sem]<;>(repeat(with_reducible refine And.intro ?_ ?_;focus first|omega|rfl|assumption|exact⟨_,rfl,rfl⟩|(simp;omega)|(simp;done)))
  with_reducible refine aA (fun hb=> ?_) (fun hb=> ?_)<;>have h:=hb<;>(try simp only[wf_preprocess] at h)<;>simp -implicitDefEqProofs (disch:=omega) only[go_sem,hb]<;>(repeat(with_reducible refine And.intro ?_ ?_;focus first|omega|rfl|assumption|exact⟨_,rfl,rfl⟩|(simp;omega)|(simp;done)))
  ·refine ay (RZ x hsz) ?_;simp -implicitDefEqProofs (disch:=omega) only[go_sem]<;>(repeat(with_reducible refine And.intro ?_ ?_;focus first|omega|rfl|assumption|exact⟨_,rfl,rfl⟩|(simp;omega)|(simp;done)));exact aQ (by rw[kX];exact lC ⟨fun y=>⟨h1,by omega,by omega⟩,fun y=>by have:=y.2.2;omega⟩)
  ·exact aQ (bJ fun y=>by have:=y.2.1;omega).symm
 ·exact aQ (bJ fun y=>by rw[y.1] at h;cases h).symm
theorem Jk:∀n:Nat,∀x:ak,SizeOf.sizeOf x<n->x.sz<=4194304->aG prog 181 [x.v] (.c (.d (.b (formed x))))
 |0=>fun x h=>by omega
 |n+1=>by
  have ih:=Jk n;intro x hn hsz S;have jl:=ak.iy x;have hts:=Aa hsz;have shut:¬((x.aH=1\/x.aH=4)/\validName x.fName=true/\x.fArgs.length=0\/x.aH=3/\validName x.fName=true/\x.fArgs.length=1\/x.aH=2/\(validName x.fName=true/\x.fArgs.length<=3\/sK x.fName=true/\x.fArgs.length=0))->V.c (.d (.b false))=V.c (.d (.b (formed x))):=fun h=>aQ (by rw[wZ,show yA x.aH x.fName x.fArgs.length=false from bJ h];rfl)
  have ahM:∀b:Bool,(b=true<->((x.aH=1\/x.aH=4)/\validName x.fName=true/\x.fArgs.length=0\/x.aH=3/\validName x.fName=true/\x.fArgs.length=1\/x.aH=2/\(validName x.fName=true/\x.fArgs.length<=3\/sK x.fName=true/\x.fArgs.length=0)))->b=yA x.aH x.fName x.fArgs.length:=fun b h=>by
   rw[Bool.eq_iff_iff,h];unfold yA;rw[wB]
  refine zcx [.tmp 2] func181 ntmps181 ?_;simp -implicitDefEqProofs (disch:=omega) only[go_sem];refine ay (jK x.fName (by omega)) ?_;simp -implicitDefEqProofs (disch:=omega) only[go_sem]<;>(repeat(with_reducible refine And.intro ?_ ?_;focus first|omega|rfl|assumption|exact⟨_,rfl,rfl⟩|(simp;omega)|(simp;done)))
  repeat' (first
   |(with_reducible refine aA (fun hb=> ?_) (fun hb=> ?_)<;>have h:=hb<;>(try simp only[wf_preprocess] at h)<;>simp -implicitDefEqProofs (disch:=omega) only[go_sem,hb]<;>(repeat(with_reducible refine And.intro ?_ ?_;focus first|omega|rfl|assumption|exact⟨_,rfl,rfl⟩|(simp;omega)|(simp;done))))
   |(refine ay (YN x.fName) ?_;simp -implicitDefEqProofs (disch:=omega) only[go_sem]))
  all_goals first
   |(refine shut (fun y=> ?_);rcases y with⟨_,_,_⟩|⟨_,_,_⟩|⟨_,⟨_,_⟩|⟨_,_⟩⟩<;>first|omega|(simp_all;done))
   |skip
  all_goals
   refine bC (ι:=Nat×Bool) zmx rfl [1,3,4] (fun y=>[.c (.ptr (0,0) 0),.c (.d (.b y.2)),.c (.d (.i .i64 y.1))]) (fun y=>[.box [.d (.i .i64 x.aH),.d (.s x.fName),.d (.sl (x.fArgs.map ak.enc))]]::S)
    (fun y=>y.1<=x.fArgs.length/\(y.2&&iA (x.fArgs.drop y.1))=formed x) (fun y=>x.fArgs.length-y.1) (0,yA x.aH x.fName x.fArgs.length) ?_ rfl ⟨Nat.zero_le _,by rw[wZ];rfl⟩ ?_
   ·simp only[List.map_cons,List.map_nil];simp -implicitDefEqProofs (disch:=omega) only[go_sem,List.cons.injEq,V.c.injEq,C.d.injEq,D.b.injEq,Int.natCast_zero];refine ahM _ ⟨fun y=> ?_,fun y=> ?_⟩
    ·(try simp only[decide_eq_true_eq,Bool.false_eq_true] at y)<;>first
       |exact .inl ⟨by omega,by assumption,by omega⟩
       |exact .inr (.inl ⟨by omega,by assumption,by omega⟩)
       |exact .inr (.inr ⟨by omega,.inl ⟨by assumption,by omega⟩⟩)
       |exact .inr (.inr ⟨by omega,.inr ⟨by assumption,by omega⟩⟩)
    ·rcases y with⟨_,_,_⟩|⟨_,_,_⟩|⟨_,⟨_,_⟩|⟨_,_⟩⟩<;>first|omega|(simp only[decide_eq_true_eq];omega)|(simp_all;done)
   rintro⟨i,c⟩ ⟨p1,p2⟩;simp only at p1 p2;simp -implicitDefEqProofs (disch:=omega) only[go_sem]
   with_reducible refine aA (fun hb=> ?_) (fun hb=> ?_)<;>have h:=hb<;>(try simp only[wf_preprocess] at h)<;>simp -implicitDefEqProofs (disch:=omega) only[go_sem,hb]<;>(repeat(with_reducible refine And.intro ?_ ?_;focus first|omega|rfl|assumption|exact⟨_,rfl,rfl⟩|(simp;omega)|(simp;done)))
   ·have hi:i<x.fArgs.length:=by omega
    have hsz':=qO hi hsz;rw[PI hi] at p2
    with_reducible refine aA (fun hb=> ?_) (fun hb=> ?_)<;>have h:=hb<;>(try simp only[wf_preprocess] at h)<;>simp -implicitDefEqProofs (disch:=omega) only[go_sem,hb]<;>(repeat(with_reducible refine And.intro ?_ ?_;focus first|omega|rfl|assumption|exact⟨_,rfl,rfl⟩|(simp;omega)|(simp;done)))
    ·refine ay (ih x.fArgs[i] (by have:=List.sizeOf_lt_of_mem (List.getElem_mem hi);omega) (by omega)) ?_;simp -implicitDefEqProofs (disch:=omega) only[go_sem];exact cO (i+1,formed x.fArgs[i]) (by simp only;omega) rfl rfl ⟨by simp only;omega,by rw[<-p2,h];rfl⟩
    ·exact cO (i+1,false) (by simp only;omega) rfl rfl ⟨by simp only;omega,by rw[<-p2,h];rfl⟩
   ·have hi:i=x.fArgs.length:=by omega
    rw[hi,List.drop_length,iA,Bool.and_true] at p2;rw[p2]
theorem YP(x:ak)(hsz:x.sz<=4194304):aG prog 181 [x.v] (.c (.d (.b (formed x)))):=Jk _ x (Nat.lt_succ_self _) hsz
theorem sN(x:ak)(hsz:x.sz<=4194304):aG prog 119 [x.v] (.c (.d (.b (lF x)))):=fun S=>by
 refine zcx [.tmp 2] func119 ntmps119 ?_;simp -implicitDefEqProofs (disch:=omega) only[go_sem];refine ay (YO x 60 (by omega) (by omega) hsz) ?_;simp -implicitDefEqProofs (disch:=omega) only[go_sem]<;>(repeat(with_reducible refine And.intro ?_ ?_;focus first|omega|rfl|assumption|exact⟨_,rfl,rfl⟩|(simp;omega)|(simp;done)))
 with_reducible refine aA (fun hb=> ?_) (fun hb=> ?_)<;>have h:=hb<;>(try simp only[wf_preprocess] at h)<;>simp -implicitDefEqProofs (disch:=omega) only[go_sem,hb]<;>(repeat(with_reducible refine And.intro ?_ ?_;focus first|omega|rfl|assumption|exact⟨_,rfl,rfl⟩|(simp;omega)|(simp;done)))
 ·have h1:=(Fg (l:=60) (a:=x.cnt) (by omega)).2;refine ay (PL x hsz) ?_;simp -implicitDefEqProofs (disch:=omega) only[go_sem]<;>(repeat(with_reducible refine And.intro ?_ ?_;focus first|omega|rfl|assumption|exact⟨_,rfl,rfl⟩|(simp;omega)|(simp;done)))
  with_reducible refine aA (fun hb=> ?_) (fun hb=> ?_)<;>have h:=hb<;>(try simp only[wf_preprocess] at h)<;>simp -implicitDefEqProofs (disch:=omega) only[go_sem,hb]<;>(repeat(with_reducible refine And.intro ?_ ?_;focus first|omega|rfl|assumption|exact⟨_,rfl,rfl⟩|(simp;omega)|(simp;done)))
  ·refine ay (YP x hsz) ?_;simp -implicitDefEqProofs (disch:=omega) only[go_sem]<;>(repeat(with_reducible refine And.intro ?_ ?_;focus first|omega|rfl|assumption|exact⟨_,rfl,rfl⟩|(simp;omega)|(simp;done)));refine aQ ?_
   cases hf:formed x with
   |false=>exact(bJ fun y=>by rw[hf] at y;cases y.1).symm
   |true=>exact(dx ⟨hf,by omega,by omega⟩).symm
  ·exact aQ (bJ fun y=>by have:=y.2.1;omega).symm
 ·have h1:=Cn (l:=60) (a:=x.cnt) (by omega);exact aQ (bJ fun y=>by have:=y.2.2;omega).symm
theorem FK(x:aS)(hn:x.aZ.length<=1073741824)(hsz:x.fType.sz<=4194304):aG prog 124 [x.v] (.c (.d (.b (validName x.aZ&&lF x.fType)))):=fun S=>by
 refine zcx [.tmp 2] func124 ntmps124 ?_;simp -implicitDefEqProofs (disch:=omega) only[go_sem];refine ay (jK x.aZ hn) ?_;simp -implicitDefEqProofs (disch:=omega) only[go_sem]<;>(repeat(with_reducible refine And.intro ?_ ?_;focus first|omega|rfl|assumption|exact⟨_,rfl,rfl⟩|(simp;omega)|(simp;done)))
 with_reducible refine aA (fun hb=> ?_) (fun hb=> ?_)<;>have h:=hb<;>(try simp only[wf_preprocess] at h)<;>simp -implicitDefEqProofs (disch:=omega) only[go_sem,hb]<;>(repeat(with_reducible refine And.intro ?_ ?_;focus first|omega|rfl|assumption|exact⟨_,rfl,rfl⟩|(simp;omega)|(simp;done)))
 ·refine ay (sN x.fType hsz) ?_;simp -implicitDefEqProofs (disch:=omega) only[go_sem]<;>(repeat(with_reducible refine And.intro ?_ ?_;focus first|omega|rfl|assumption|exact⟨_,rfl,rfl⟩|(simp;omega)|(simp;done)))
 ·rfl
theorem FL(x:aS)(hn:x.aZ.length<=1073741824)(hsz:x.fType.sz<=4194304):aG prog 112 [x.v] (.c (.d (.b (validName x.aZ&&lF x.fType)))):=fun S=>by
 refine zcx [.tmp 2] func112 ntmps112 ?_;simp -implicitDefEqProofs (disch:=omega) only[go_sem];refine ay (jJ x.aZ hn) ?_;simp -implicitDefEqProofs (disch:=omega) only[go_sem]<;>(repeat(with_reducible refine And.intro ?_ ?_;focus first|omega|rfl|assumption|exact⟨_,rfl,rfl⟩|(simp;omega)|(simp;done)))
 with_reducible refine aA (fun hb=> ?_) (fun hb=> ?_)<;>have h:=hb<;>(try simp only[wf_preprocess] at h)<;>simp -implicitDefEqProofs (disch:=omega) only[go_sem,hb]<;>(repeat(with_reducible refine And.intro ?_ ?_;focus first|omega|rfl|assumption|exact⟨_,rfl,rfl⟩|(simp;omega)|(simp;done)))
 ·refine ay (sM x.fType hsz) ?_;simp -implicitDefEqProofs (disch:=omega) only[go_sem]<;>(repeat(with_reducible refine And.intro ?_ ?_;focus first|omega|rfl|assumption|exact⟨_,rfl,rfl⟩|(simp;omega)|(simp;done)))
 ·rfl
mutual
def mX:ak->List ak
 | .mk k n a=>.mk k n a::lZ a
def lZ:List ak->List ak
 |[]=>[]
 |t::ts=>mX t++lZ ts
end
theorem Ac(t:ak):mX t=t::lZ t.fArgs:=by cases t;rw[mX];rfl
theorem AJ{ts:List ak}{i:Nat}(hi:i<ts.length):lZ (ts.drop i)=mX ts[i]++lZ (ts.drop (i+1)):=by rw[List.drop_eq_getElem_cons hi,lZ]
mutual
theorem LW:∀t:ak,(mX t).length=t.cnt
 | .mk k n a=>by rw[mX,List.length_cons,ak.cnt,Jl a];omega
theorem Jl:∀ts:List ak,(lZ ts).length=ak.dn ts
 |[]=>rfl
 |t::ts=>by rw[lZ,List.length_append,ak.dn,LW t,Jl ts]
end
def sO(out:List (List UInt8))(u:ak):List (List UInt8):=if u.aH=1/\u.fName∉out then out++[u.fName] else out
def kr(out:List (List UInt8))(t:ak):List (List UInt8):=(mX t).foldl sO out
def pU(out:List (List UInt8))(ts:List ak):List (List UInt8):=(lZ ts).foldl sO out
theorem GU(out:List (List UInt8))(u:ak):(sO out u).length<=out.length+1:=by
 unfold sO
 split<;>simp
theorem LX:∀(us:List ak)(out:List (List UInt8)),(us.foldl sO out).length<=out.length+us.length
 |[],out=>by simp
 |u::us,out=>by
  have h1:=GU out u;have h2:=LX us (sO out u);rw[List.foldl_cons,List.length_cons];omega
theorem xg(t:ak)(out:List (List UInt8)):(kr out t).length<=out.length+t.cnt:=by
 have:=LX (mX t) out;rw[LW] at this;exact this
theorem abT(out:List (List UInt8))(t:ak):kr out t=pU (sO out t) t.fArgs:=by
 unfold kr pU;rw[Ac,List.foldl_cons]
theorem Ga{ts:List ak}{i:Nat}(hi:i<ts.length)(out:List (List UInt8)):pU out (ts.drop i)=pU (kr out ts[i]) (ts.drop (i+1)):=by
 unfold pU kr;rw[AJ hi,List.foldl_append]
def tQ(t:ak):Bool:=(mX t).any fun u=>decide (u.aH=3)
def qP(ts:List ak):Bool:=(lZ ts).any fun u=>decide (u.aH=3)
theorem Jm(t:ak):tQ t=(decide (t.aH=3)||qP t.fArgs):=by
 unfold tQ qP;rw[Ac,List.any_cons]
theorem M6{ts:List ak}{i:Nat}(hi:i<ts.length):qP (ts.drop i)=(tQ ts[i]||qP (ts.drop (i+1))):=by
 unfold qP tQ;rw[AJ hi,List.any_append]
theorem PO(us:List ak):∀b:Bool,us.foldl (fun b u=>b||decide (u.aH=3)) b=(b||us.any fun u=>decide (u.aH=3)):=by
 induction us with
 |nil=>intro b;simp
 |cons u us ih=>intro b;rw[List.foldl_cons,ih,List.any_cons,Bool.or_assoc]
theorem Br{x:ak}{i:Nat}(hi:i<x.fArgs.length)(h:x.sz<=4194304):x.fArgs[i].sz<=4194304/\x.fArgs.length<=4194304/\x.fName.length<=4194304:=by
 have hx:x.fArgs[i].sz<=bA (x.fArgs.map ak.enc):=gD (List.mem_map_of_mem (List.getElem_mem hi));simp only[ak.sz,ak.aB,bG,D.sz,List.length_map] at h;omega
theorem Jo{x:ak}(h:x.sz<=4194304):x.fArgs.length<=4194304/\x.fName.length<=4194304:=by
 simp only[ak.sz,ak.aB,bG,D.sz,List.length_map] at h;omega
theorem Ec:∀n:Nat,∀t:ak,SizeOf.sizeOf t<n->t.sz<=4194304->∀(g:Nat)(caps:List (Key×Nat))(α:Type)(st:α->Store)(I:Nat->α->Prop)(f:α->ak->α)(hf:Ck prog g caps st I f ak.v (fun u=>u.sz<=4194304))(m:Nat)(a:α),I (m+t.cnt) a->
 I m ((mX t).foldl f a)/\bF prog 156 [t.v,.c (.fn g caps)] (st a) (fun r S'=>r=.d9 []/\S'=st ((mX t).foldl f a))
 |0=>fun t h=>by omega
 |n+1=>by
  have ih:=Ec n;intro t hn hsz g caps α st I f hf m a ha;have jl:=ak.iy t;have hts:=Jo hsz;rw[ak.lY,show m+(1+ak.dn t.fArgs)=(m+ak.dn t.fArgs)+1 by omega] at ha;have h1:=hf _ a t ha hsz
  have hI:∀(ts:List ak),SizeOf.sizeOf ts<n->(∀x∈ts,x.sz<=4194304)->∀a,I (m+ak.dn ts) a->I m ((lZ ts).foldl f a):=by
   intro ts
   induction ts with
   |nil=>intro _ _ a ha;exact ha
   |cons x xs ihx=>
    intro hs hz a ha;simp only[List.cons.sizeOf_spec] at hs;rw[lZ,List.foldl_append];rw[ak.dn,show m+(x.cnt+ak.dn xs)=(m+ak.dn xs)+x.cnt by omega] at ha;exact ihx (by omega) (fun y hy=>hz y (by simp[hy])) _ (ih x (by omega) (hz x (by simp)) g caps α st I f hf _ a ha).1
  have hall:∀x∈t.fArgs,x.sz<=4194304:=fun x hx=>by
   obtain⟨i,hi,e⟩:=List.getElem_of_mem hx;rw[<-e];exact(Br hi hsz).1
  refine⟨by rw[Ac,List.foldl_cons];exact hI t.fArgs (by omega) hall _ h1.1,?_⟩;refine zcx [] func156 ntmps156 ?_;simp -implicitDefEqProofs (disch:=omega) only[go_sem];refine aX rfl (h1.2 [_]) ?_;simp -implicitDefEqProofs (disch:=omega) only[go_sem]
  refine bC (ι:=Nat×α) zmx rfl [1,10,11,12] (fun y=>[.c (.fn g (gN 1 caps)),.c (.d (.sl (t.fArgs.map ak.enc))),.c (.d (.i .i64 t.fArgs.length)),.c (.d (.i .i64 y.1))]) (fun y=>[.box [.d (.i .i64 t.aH),.d (.s t.fName),.d (.sl (t.fArgs.map ak.enc))]]::st y.2)
   (fun y=>y.1<=t.fArgs.length/\I (m+ak.dn (t.fArgs.drop y.1)) y.2/\(lZ (t.fArgs.drop y.1)).foldl f y.2=(mX t).foldl f a) (fun y=>t.fArgs.length-y.1) (0,f a t) rfl rfl ⟨Nat.zero_le _,h1.1,by rw[Ac,List.foldl_cons];rfl⟩ ?_
  rintro⟨i,b⟩ ⟨p1,p2,p3⟩;simp only at p1 p2 p3;simp -implicitDefEqProofs (disch:=omega) only[go_sem]
  with_reducible refine aA (fun hb=> ?_) (fun hb=> ?_)<;>have h:=hb<;>(try simp only[wf_preprocess] at h)<;>simp -implicitDefEqProofs (disch:=omega) only[go_sem,hb]<;>(repeat(with_reducible refine And.intro ?_ ?_;focus first|omega|rfl|assumption|exact⟨_,rfl,rfl⟩|(simp;omega)|(simp;done)))
  ·have hi:i<t.fArgs.length:=by omega
   have hs:=List.sizeOf_lt_of_mem (List.getElem_mem hi);rw[AJ hi,List.foldl_append] at p3;rw[List.drop_eq_getElem_cons hi,ak.dn,show m+(t.fArgs[i].cnt+ak.dn (t.fArgs.drop (i+1)))=(m+ak.dn (t.fArgs.drop (i+1)))+t.fArgs[i].cnt by omega] at p2;have h2:=(ih t.fArgs[i] (by omega) (Br hi hsz).1 g caps α st I f hf _ b p2).1
   (repeat(with_reducible refine And.intro ?_ ?_;focus first|omega|rfl|assumption|exact⟨_,rfl,rfl⟩|(simp;omega)|(simp;done)))
   refine aX rfl (((ih t.fArgs[i] (by omega) (Br hi hsz).1 g (gN 1 caps) α (fun a=>[.box [.d (.i .i64 t.aH),.d (.s t.fName),.d (.sl (t.fArgs.map ak.enc))],.box [.d (.i .i64 t.fArgs[i].aH),.d (.s t.fArgs[i].fName),.d (.sl (t.fArgs[i].fArgs.map ak.enc))]]::st a) I f (hf.push _) _ b p2)).2) ?_;simp -implicitDefEqProofs (disch:=omega) only[go_sem];exact dM 1 (by decide) (i+1,(mX t.fArgs[i]).foldl f b) (by simp only;omega) rfl rfl (by simp only[iN,lX,List.all_cons,List.all_nil,V.refs,C.refs,O9,Bool.and_true]) rfl ⟨by simp only;omega,h2,p3⟩
  ·have hi:i=t.fArgs.length:=by omega
   rw[hi,List.drop_length,lZ,List.foldl_nil] at p3;rw[p3]
theorem Gb{t:ak}(hsz:t.sz<=4194304){g:Nat}{caps:List (Key×Nat)}{α:Type}{st:α->Store}{I:Nat->α->Prop}{f:α->ak->α}(hf:Ck prog g caps st I f ak.v (fun u=>u.sz<=4194304))(m:Nat)(a:α)(ha:I (m+t.cnt) a):
 I m ((mX t).foldl f a)/\bF prog 156 [t.v,.c (.fn g caps)] (st a) (fun r S'=>r=.d9 []/\S'=st ((mX t).foldl f a)):=Ec _ t (Nat.lt_succ_self _) hsz g caps α st I f hf m a ha
theorem FM(rest:List Ab.Obj)(S:Store):Ck prog 193 [((0,0),0)] (fun out:List (List UInt8)=>(.box [.bL (0,1) (out.map encS)]:: .tok 1 (out.map encS)::rest)::S) (fun n out=>out.length+n<=1073741824) sO ak.v (fun u=>u.sz<=4194304):=by
 intro n out u hI hu;refine⟨by have:=GU out u;omega,fun F=> ?_⟩;have hts:=Jo hu;refine zcx [] func193 ntmps193 ?_;simp -implicitDefEqProofs (disch:=omega) only[go_sem]
 with_reducible refine aA (fun hb=> ?_) (fun hb=> ?_)<;>have h:=hb<;>(try simp only[wf_preprocess] at h)<;>simp -implicitDefEqProofs (disch:=omega) only[go_sem,hb]<;>(repeat(with_reducible refine And.intro ?_ ?_;focus first|omega|rfl|assumption|exact⟨_,rfl,rfl⟩|(simp;omega)|(simp;done)))
 ·have h1:=h;refine ay (qN out u.fName (by omega)) ?_;simp -implicitDefEqProofs (disch:=omega) only[go_sem]<;>(repeat(with_reducible refine And.intro ?_ ?_;focus first|omega|rfl|assumption|exact⟨_,rfl,rfl⟩|(simp;omega)|(simp;done)))
  with_reducible refine aA (fun hb=> ?_) (fun hb=> ?_)<;>have h:=hb<;>(try simp only[wf_preprocess] at h)<;>simp -implicitDefEqProofs (disch:=omega) only[go_sem,hb]<;>(repeat(with_reducible refine And.intro ?_ ?_;focus first|omega|rfl|assumption|exact⟨_,rfl,rfl⟩|(simp;omega)|(simp;done)))
  ·(repeat(with_reducible refine And.intro ?_ ?_;focus first|omega|rfl|assumption|exact⟨_,rfl,rfl⟩|(simp;omega)|(simp;done)))
   have ha:sO out u=out++[u.fName]:=if_pos ⟨h1,h⟩;rw[ha];simp[encS]
  ·have ha:sO out u=out:=if_neg fun x=>x.2 h;rw[ha]
 ·have ha:sO out u=out:=if_neg fun x=>h x.1;rw[ha]
theorem KW(ts:List ak)(hl:ts.length<=4194304)(hz:∀t∈ts,t.sz<=4194304)(hc:ak.dn ts<=1073741823):aG prog 159 [.c (.d (.sl (ts.map ak.enc)))] (.c (.d (.sl ((pU [] ts).map encS)))):=fun S=>by
 refine zcx [.tmp 2] func159 ntmps159 ?_;simp -implicitDefEqProofs (disch:=omega) only[go_sem]
 (repeat(with_reducible refine And.intro ?_ ?_;focus first|omega|rfl|assumption|exact⟨_,rfl,rfl⟩|(simp;omega)|(simp;done)))
 refine wT 0 0 1 [] [.bE []] rfl rfl (by simp) ?_
 refine bC (ι:=Nat×List (List UInt8)) zmx rfl [3,7,8,9] (fun y=>[.c (.ptr (0,0) 0),.c (.d (.sl (ts.map ak.enc))),.c (.d (.i .i64 ts.length)),.c (.d (.i .i64 y.1))]) (fun y=>[.box [.bL (0,1) (y.2.map encS)],.tok 1 (y.2.map encS)]::S)
  (fun y=>y.1<=ts.length/\y.2.length+ak.dn (ts.drop y.1)<=1073741824/\pU y.2 (ts.drop y.1)=pU [] ts) (fun y=>ts.length-y.1) (0,[]) rfl rfl ⟨Nat.zero_le _,by simp only[List.drop_zero,List.length_nil];omega,rfl⟩ ?_
 rintro⟨i,out⟩ ⟨p1,p2,p3⟩;simp only at p1 p2 p3;simp -implicitDefEqProofs (disch:=omega) only[go_sem]
 with_reducible refine aA (fun hb=> ?_) (fun hb=> ?_)<;>have h:=hb<;>(try simp only[wf_preprocess] at h)<;>simp -implicitDefEqProofs (disch:=omega) only[go_sem,hb]<;>(repeat(with_reducible refine And.intro ?_ ?_;focus first|omega|rfl|assumption|exact⟨_,rfl,rfl⟩|(simp;omega)|(simp;done)))
 ·have hi:i<ts.length:=by omega
  rw[Ga hi] at p3;rw[List.drop_eq_getElem_cons hi,ak.dn] at p2;have hlen:=xg ts[i] out
  (repeat(with_reducible refine And.intro ?_ ?_;focus first|omega|rfl|assumption|exact⟨_,rfl,rfl⟩|(simp;omega)|(simp;done)))
  refine aX rfl (Gb (hz _ (List.getElem_mem hi)) (FM [Ab.Obj.box [.d (.i .i64 ts[i].aH),.d (.s ts[i].fName),.d (.sl (ts[i].fArgs.map ak.enc))]] S) (ak.dn (ts.drop (i+1))) out (by omega)).2 ?_;simp -implicitDefEqProofs (disch:=omega) only[go_sem];exact dM 2 (by decide) (i+1,kr out ts[i]) (by simp only;omega) rfl rfl rfl rfl ⟨by simp only;omega,by simp only;omega,p3⟩
 ·have hi:i=ts.length:=by omega
  rw[hi,List.drop_length] at p3;rw[<-p3];rfl
theorem Ad(t:ak)(hsz:t.sz<=4194304):aG prog 83 [t.v] (.c (.d (.sl ((kr [] t).map encS)))):=fun S=>by
 have hc:=jQ t;have h0:=KW [t] (by simp) (by simpa using hsz) (by simp[ak.dn];omega);simp only[List.map_cons,List.map_nil,ak.aB] at h0;refine zcx [.tmp 2] func83 ntmps83 ?_;simp -implicitDefEqProofs (disch:=omega) only[go_sem]
 (repeat(with_reducible refine And.intro ?_ ?_;focus first|omega|rfl|assumption|exact⟨_,rfl,rfl⟩|(simp;omega)|(simp;done)))
 refine ay h0 ?_;simp -implicitDefEqProofs (disch:=omega) only[go_sem];rw[show pU [] [t]=kr [] t by simp[pU,kr,lZ]]
theorem Jp:∀n:Nat,∀t:ak,SizeOf.sizeOf t<n->t.sz<=4194304->∀(out:List (List UInt8))(l j:Nat)(S:Store),aN S (l,j)=some (.tok 1 (out.map encS))->out.length+t.cnt<=1073741824->
 bF prog 178 [t.v,.c (.bL (l,j) (out.map encS))] S (fun r S'=>r=.c (.bL (l,j) ((kr out t).map encS))/\S'=aR S (l,j) (.tok 1 ((kr out t).map encS)))
 |0=>fun t h=>by omega
 |n+1=>by
  have ih:=Jp n;intro t hn hsz out l j S hk hc;have jl:=ak.iy t;have hts:=Jo hsz;have hcn:=ak.lY t;have Jq:∀x:Ab.Obj,aN (aR S (l,j) x) (l,j)=some x:=fun x=>bP _ _ _ _ hk;have hS0:aR S (l,j) (.tok 1 (out.map encS))=S:=zU _ _ hk;have fin:kr out t=pU (sO out t) t.fArgs:=abT out t;have hal:=GU out t
  have e0:(out++[t.fName]).map encS=out.map encS++[[D.s t.fName]]:=by simp[encS]
  refine zcx [.tmp 4] func178 ntmps178 ?_;simp -implicitDefEqProofs (disch:=omega) only[go_sem,hk]
  repeat' (first
   |(with_reducible refine aA (fun hb=> ?_) (fun hb=> ?_)<;>have h:=hb<;>(try simp only[wf_preprocess] at h)<;>simp -implicitDefEqProofs (disch:=omega) only[go_sem,hb,hk]<;>(repeat(with_reducible refine And.intro ?_ ?_;focus first|omega|rfl|assumption|exact⟨_,rfl,rfl⟩|(simp;omega)|(simp;done))))
   |(refine ay (qM out t.fName (by omega)) ?_;simp -implicitDefEqProofs (disch:=omega) only[go_sem,hk];(repeat(with_reducible refine And.intro ?_ ?_;focus first|omega|rfl|assumption|exact⟨_,rfl,rfl⟩|(simp;omega)|(simp;done)))))
  all_goals first
   |(have ha:sO out t=out++[t.fName]:=if_pos ⟨by assumption,by assumption⟩)
   |(have ha:sO out t=out:=if_neg (fun x=>by have:=x.1;have:=x.2;contradiction))
  all_goals
   refine bC (ι:=Nat×List (List UInt8)) zmx rfl [1,2,5] (fun y=>[.c (.bL (1+l,j) (y.2.map encS)),.c (.ptr (0,0) 0),.c (.d (.i .i64 y.1))]) (fun y=>[.box [.d (.i .i64 t.aH),.d (.s t.fName),.d (.sl (t.fArgs.map ak.enc))]]::aR S (l,j) (.tok 1 (y.2.map encS)))
    (fun y=>y.1<=t.fArgs.length/\y.2.length+ak.dn (t.fArgs.drop y.1)<=1073741824/\pU y.2 (t.fArgs.drop y.1)=kr out t) (fun y=>t.fArgs.length-y.1) (0,sO out t) (by first|(rw[ha,e0];rfl)|(rw[ha];rfl)) (by first|(simp only[ha,e0];done)|(simp only[ha,hS0];done)) ⟨Nat.zero_le _,by simp only[List.drop_zero];omega,by rw[fin];rfl⟩ ?_
   rintro⟨i,b⟩ ⟨p1,p2,p3⟩;simp only at p1 p2 p3;simp -implicitDefEqProofs (disch:=omega) only[go_sem]
   with_reducible refine aA (fun hb=> ?_) (fun hb=> ?_)<;>have h:=hb<;>(try simp only[wf_preprocess] at h)<;>simp -implicitDefEqProofs (disch:=omega) only[go_sem,hb]<;>(repeat(with_reducible refine And.intro ?_ ?_;focus first|omega|rfl|assumption|exact⟨_,rfl,rfl⟩|(simp;omega)|(simp;done)))
   ·have hi:i<t.fArgs.length:=by omega
    have hs:=List.sizeOf_lt_of_mem (List.getElem_mem hi);rw[Ga hi] at p3;rw[List.drop_eq_getElem_cons hi,ak.dn] at p2;have hlen:=xg t.fArgs[i] b
    (repeat(with_reducible refine And.intro ?_ ?_;focus first|omega|rfl|assumption|exact⟨_,rfl,rfl⟩|(simp;omega)|(simp;done)))
    refine aX rfl (ih t.fArgs[i] (by omega) (Br hi hsz).1 b (1+l) j _ (by rw[aY];exact Jq _) (by omega)) ?_;simp -implicitDefEqProofs (disch:=omega) only[go_sem,aD];exact cO (i+1,kr b t.fArgs[i]) (by simp only;omega) rfl rfl ⟨by simp only;omega,by simp only;omega,p3⟩
   ·have hi:i=t.fArgs.length:=by omega
    rw[hi,List.drop_length] at p3;rw[<-p3];exact⟨rfl,rfl⟩
theorem Jr(t:ak)(hsz:t.sz<=4194304):aG prog 118 [t.v] (.c (.d (.sl ((kr [] t).map encS)))):=fun S=>by
 have hc:=jQ t
 have h0:∀S,bF prog 178 [t.v,.c (.bE [])] S (fun r S'=>r=.c (.d (.sl ((kr [] t).map encS)))/\S'=S):=fun S=>by
  refine bF.abl 1 (es:=[]) (aK:=1) rfl (by simp) (Jp _ t (Nat.lt_succ_self _) hsz [] 0 0 ([.tok 1 []]::S) rfl (by simp;omega)) ?_;rintro r fr S' ⟨rfl,h2⟩;injection h2 with h2 h3;exact⟨_,rfl,rfl,h3⟩
 refine zcx [.tmp 2] func118 ntmps118 ?_;simp -implicitDefEqProofs (disch:=omega) only[go_sem]
 (repeat(with_reducible refine And.intro ?_ ?_;focus first|omega|rfl|assumption|exact⟨_,rfl,rfl⟩|(simp;omega)|(simp;done)))
 refine dX [true,true] rfl (h0 _) ?_;simp -implicitDefEqProofs (disch:=omega) only[go_sem]
theorem Ae:∀n:Nat,∀t:ak,SizeOf.sizeOf t<n->t.sz<=4194304->aG prog 85 [t.v] (.c (.d (.b (tQ t))))
 |0=>fun t h=>by omega
 |n+1=>by
  have ih:=Ae n;intro t hn hsz S;have jl:=ak.iy t;have hts:=Jo hsz;refine zcx [.tmp 2] func85 ntmps85 ?_;simp -implicitDefEqProofs (disch:=omega) only[go_sem]
  refine bC (ι:=Nat) zmx rfl [1,3] (fun i=>[.c (.ptr (0,0) 0),.c (.d (.i .i64 i))]) (fun _=>[.box [.d (.i .i64 t.aH),.d (.s t.fName),.d (.sl (t.fArgs.map ak.enc))]]::S)
   (fun i=>i<=t.fArgs.length/\qP (t.fArgs.drop i)=qP t.fArgs) (fun i=>t.fArgs.length-i) 0 rfl rfl ⟨Nat.zero_le _,rfl⟩ ?_
  rintro i ⟨p1,p2⟩;simp -implicitDefEqProofs (disch:=omega) only[go_sem]
  with_reducible refine aA (fun hb=> ?_) (fun hb=> ?_)<;>have h:=hb<;>(try simp only[wf_preprocess] at h)<;>simp -implicitDefEqProofs (disch:=omega) only[go_sem,hb]<;>(repeat(with_reducible refine And.intro ?_ ?_;focus first|omega|rfl|assumption|exact⟨_,rfl,rfl⟩|(simp;omega)|(simp;done)))
  ·have hi:i<t.fArgs.length:=by omega
   rw[M6 hi] at p2
   (repeat(with_reducible refine And.intro ?_ ?_;focus first|omega|rfl|assumption|exact⟨_,rfl,rfl⟩|(simp;omega)|(simp;done)))
   refine ay (ih t.fArgs[i] (by have:=List.sizeOf_lt_of_mem (List.getElem_mem hi);omega) (Br hi hsz).1) ?_;simp -implicitDefEqProofs (disch:=omega) only[go_sem]<;>(repeat(with_reducible refine And.intro ?_ ?_;focus first|omega|rfl|assumption|exact⟨_,rfl,rfl⟩|(simp;omega)|(simp;done)))
   with_reducible refine aA (fun hb=> ?_) (fun hb=> ?_)<;>have h:=hb<;>(try simp only[wf_preprocess] at h)<;>simp -implicitDefEqProofs (disch:=omega) only[go_sem,hb]<;>(repeat(with_reducible refine And.intro ?_ ?_;focus first|omega|rfl|assumption|exact⟨_,rfl,rfl⟩|(simp;omega)|(simp;done)))
   ·rw[Jm,<-p2,h];simp
   ·exact cO (i+1) (by omega) rfl rfl ⟨by omega,by rw[<-p2,h];rfl⟩
  ·have hi:i=t.fArgs.length:=by omega
   rw[hi,List.drop_length] at p2;rw[Jm,<-p2];exact aQ (by simp[qP,lZ])
theorem KX(t:ak)(hsz:t.sz<=4194304):aG prog 85 [t.v] (.c (.d (.b (tQ t)))):=Ae _ t (Nat.lt_succ_self _) hsz
theorem M7(rest:List Ab.Obj)(cs:List C)(S:Store):Ck prog 157 [((0,1),0)] (fun b:Bool=>(.box cs:: .box [.d (.b b)]::rest)::S) (fun _ _=>True) (fun b u=>b||decide (u.aH=3)) ak.v (fun u=>u.sz<=4194304):=by
 intro n b u _ hu;refine⟨trivial,fun F=> ?_⟩;refine zcx [] func157 ntmps157 ?_;simp -implicitDefEqProofs (disch:=omega) only[go_sem]
 cases b with
 |true=>
  simp -implicitDefEqProofs (disch:=omega) only[go_sem];rfl
 |false=>
  simp -implicitDefEqProofs (disch:=omega) only[go_sem];rfl
theorem KY(t:ak)(hsz:t.sz<=4194304):aG prog 81 [t.v] (.c (.d (.b (tQ t)))):=fun S=>by
 refine zcx [.tmp 2] func81 ntmps81 ?_;simp -implicitDefEqProofs (disch:=omega) only[go_sem]
 (repeat(with_reducible refine And.intro ?_ ?_;focus first|omega|rfl|assumption|exact⟨_,rfl,rfl⟩|(simp;omega)|(simp;done)))
 refine aX rfl (Gb hsz (M7 [] [.d (.i .i64 t.aH),.d (.s t.fName),.d (.sl (t.fArgs.map ak.enc))] S) 0 false trivial).2 ?_;simp -implicitDefEqProofs (disch:=omega) only[go_sem];rw[PO];rfl
theorem GV(g:Nat)(caps:List (Key×Nat))(S:Store)(xs:List ak)(p:ak->Bool)(hl:xs.length<=1073741824)(hp:∀x∈xs,kW prog g caps S [x.v] (.c (.d (.b (p x))))):
 bF prog 171 [.c (.d (.sl (xs.map ak.enc))),.c (.fn g caps)] S (fun r S'=>r=.c (.d (.i .i64 (oD p xs)))/\S'=S):=by
 refine zcx [.tmp 4] func171 ntmps171 ?_;simp -implicitDefEqProofs (disch:=omega) only[go_sem]
 refine bC (ι:=Nat) zmx rfl [0,1,7,8] (fun i=>[.c (.d (.sl (xs.map ak.enc))),.c (.fn g (gN 1 caps)),.c (.d (.i .i64 xs.length)),.c (.d (.i .i64 i))]) (fun _=>[]::S)
  (fun i=>i<=xs.length/\∀j,∀hj:j<xs.length,j<i->p xs[j]=false) (fun i=>xs.length-i) 0 rfl rfl ⟨Nat.zero_le _,fun j _ h=>by omega⟩ ?_
 rintro i ⟨p1,p2⟩;simp -implicitDefEqProofs (disch:=omega) only[go_sem]
 with_reducible refine aA (fun hb=> ?_) (fun hb=> ?_)<;>have h:=hb<;>(try simp only[wf_preprocess] at h)<;>simp -implicitDefEqProofs (disch:=omega) only[go_sem,hb]<;>(repeat(with_reducible refine And.intro ?_ ?_;focus first|omega|rfl|assumption|exact⟨_,rfl,rfl⟩|(simp;omega)|(simp;done)))
 ·have hi:i<xs.length:=by omega
  (repeat(with_reducible refine And.intro ?_ ?_;focus first|omega|rfl|assumption|exact⟨_,rfl,rfl⟩|(simp;omega)|(simp;done)))
  refine aX rfl (hp xs[i] (List.getElem_mem hi) [_]) ?_;simp -implicitDefEqProofs (disch:=omega) only[go_sem]
  with_reducible refine aA (fun hb=> ?_) (fun hb=> ?_)<;>have h:=hb<;>(try simp only[wf_preprocess] at h)<;>simp -implicitDefEqProofs (disch:=omega) only[go_sem,hb]<;>(repeat(with_reducible refine And.intro ?_ ?_;focus first|omega|rfl|assumption|exact⟨_,rfl,rfl⟩|(simp;omega)|(simp;done)))
  ·rw[nS hi p2 h]
  ·refine cO (i+1) (by omega) rfl rfl ⟨by omega,fun j hj hji=> ?_⟩;by_cases e:j=i
   ·subst e;exact h
   ·exact p2 j hj (by omega)
 ·rw[qL (fun j hj=>p2 j hj (by omega))]
theorem Dr(g:Nat)(caps:List (Key×Nat))(S:Store)(xs:List ak)(p:ak->Bool)(hl:xs.length<=1073741824)(hp:∀x∈xs,kW prog g caps S [x.v] (.c (.d (.b (p x))))):
 bF prog 113 [.c (.d (.sl (xs.map ak.enc))),.c (.fn g caps)] S (fun r S'=>r=.c (.d (.b (xs.any p)))/\S'=S):=by
 refine zcx [.tmp 4] func113 ntmps113 ?_;simp -implicitDefEqProofs (disch:=omega) only[go_sem];refine aX rfl (GV g (gN 1 caps) _ xs p hl fun x hx=>(hp x hx).push _) ?_;simp -implicitDefEqProofs (disch:=omega) only[go_sem];exact aQ pK
theorem GX(g:Nat)(caps:List (Key×Nat))(S:Store)(xs:List au)(p:au->Bool)(hl:xs.length<=1073741824)(hp:∀x∈xs,kW prog g caps S [x.v] (.c (.d (.b (p x))))):
 bF prog 228 [.c (.d (.sl (xs.map au.enc))),.c (.fn g caps)] S (fun r S'=>r=.c (.d (.i .i64 (oD p xs)))/\S'=S):=by
 refine zcx [.tmp 4] func228 ntmps228 ?_;simp -implicitDefEqProofs (disch:=omega) only[go_sem]
 refine bC (ι:=Nat) zmx rfl [0,1,7,8] (fun i=>[.c (.d (.sl (xs.map au.enc))),.c (.fn g (gN 1 caps)),.c (.d (.i .i64 xs.length)),.c (.d (.i .i64 i))]) (fun _=>[]::S)
  (fun i=>i<=xs.length/\∀j,∀hj:j<xs.length,j<i->p xs[j]=false) (fun i=>xs.length-i) 0 rfl rfl ⟨Nat.zero_le _,fun j _ h=>by omega⟩ ?_
 rintro i ⟨p1,p2⟩;simp -implicitDefEqProofs (disch:=omega) only[go_sem]
 with_reducible refine aA (fun hb=> ?_) (fun hb=> ?_)<;>have h:=hb<;>(try simp only[wf_preprocess] at h)<;>simp -implicitDefEqProofs (disch:=omega) only[go_sem,hb]<;>(repeat(with_reducible refine And.intro ?_ ?_;focus first|omega|rfl|assumption|exact⟨_,rfl,rfl⟩|(simp;omega)|(simp;done)))
 ·have hi:i<xs.length:=by omega
  (repeat(with_reducible refine And.intro ?_ ?_;focus first|omega|rfl|assumption|exact⟨_,rfl,rfl⟩|(simp;omega)|(simp;done)))
  refine aX rfl (hp xs[i] (List.getElem_mem hi) [_]) ?_;simp -implicitDefEqProofs (disch:=omega) only[go_sem]
  with_reducible refine aA (fun hb=> ?_) (fun hb=> ?_)<;>have h:=hb<;>(try simp only[wf_preprocess] at h)<;>simp -implicitDefEqProofs (disch:=omega) only[go_sem,hb]<;>(repeat(with_reducible refine And.intro ?_ ?_;focus first|omega|rfl|assumption|exact⟨_,rfl,rfl⟩|(simp;omega)|(simp;done)))
  ·rw[nS hi p2 h]
  ·refine cO (i+1) (by omega) rfl rfl ⟨by omega,fun j hj hji=> ?_⟩;by_cases e:j=i
   ·subst e;exact h
   ·exact p2 j hj (by omega)
 ·rw[qL (fun j hj=>p2 j hj (by omega))]
theorem Dt(g:Nat)(caps:List (Key×Nat))(S:Store)(xs:List au)(p:au->Bool)(hl:xs.length<=1073741824)(hp:∀x∈xs,kW prog g caps S [x.v] (.c (.d (.b (p x))))):
 bF prog 203 [.c (.d (.sl (xs.map au.enc))),.c (.fn g caps)] S (fun r S'=>r=.c (.d (.b (xs.any p)))/\S'=S):=by
 refine zcx [.tmp 4] func203 ntmps203 ?_;simp -implicitDefEqProofs (disch:=omega) only[go_sem];refine aX rfl (GX g (gN 1 caps) _ xs p hl fun x hx=>(hp x hx).push _) ?_;simp -implicitDefEqProofs (disch:=omega) only[go_sem];exact aQ pK
theorem Js(g:Nat)(caps:List (Key×Nat))(S:Store)(xs:List aJ)(p:aJ->Bool)(hl:xs.length<=1073741824)(hp:∀x∈xs,kW prog g caps S [x.v] (.c (.d (.b (p x))))):
 bF prog 229 [.c (.d (.sl (xs.map aJ.enc))),.c (.fn g caps)] S (fun r S'=>r=.c (.d (.i .i64 (oD p xs)))/\S'=S):=by
 refine zcx [.tmp 4] func229 ntmps229 ?_;simp -implicitDefEqProofs (disch:=omega) only[go_sem]
 refine bC (ι:=Nat) zmx rfl [0,1,7,8] (fun i=>[.c (.d (.sl (xs.map aJ.enc))),.c (.fn g (gN 1 caps)),.c (.d (.i .i64 xs.length)),.c (.d (.i .i64 i))]) (fun _=>[]::S)
  (fun i=>i<=xs.length/\∀j,∀hj:j<xs.length,j<i->p xs[j]=false) (fun i=>xs.length-i) 0 rfl rfl ⟨Nat.zero_le _,fun j _ h=>by omega⟩ ?_
 rintro i ⟨p1,p2⟩;simp -implicitDefEqProofs (disch:=omega) only[go_sem]
 with_reducible refine aA (fun hb=> ?_) (fun hb=> ?_)<;>have h:=hb<;>(try simp only[wf_preprocess] at h)<;>simp -implicitDefEqProofs (disch:=omega) only[go_sem,hb]<;>(repeat(with_reducible refine And.intro ?_ ?_;focus first|omega|rfl|assumption|exact⟨_,rfl,rfl⟩|(simp;omega)|(simp;done)))
 ·have hi:i<xs.length:=by omega
  (repeat(with_reducible refine And.intro ?_ ?_;focus first|omega|rfl|assumption|exact⟨_,rfl,rfl⟩|(simp;omega)|(simp;done)))
  refine aX rfl (hp xs[i] (List.getElem_mem hi) [_]) ?_;simp -implicitDefEqProofs (disch:=omega) only[go_sem]
  with_reducible refine aA (fun hb=> ?_) (fun hb=> ?_)<;>have h:=hb<;>(try simp only[wf_preprocess] at h)<;>simp -implicitDefEqProofs (disch:=omega) only[go_sem,hb]<;>(repeat(with_reducible refine And.intro ?_ ?_;focus first|omega|rfl|assumption|exact⟨_,rfl,rfl⟩|(simp;omega)|(simp;done)))
  ·rw[nS hi p2 h]
  ·refine cO (i+1) (by omega) rfl rfl ⟨by omega,fun j hj hji=> ?_⟩;by_cases e:j=i
   ·subst e;exact h
   ·exact p2 j hj (by omega)
 ·rw[qL (fun j hj=>p2 j hj (by omega))]
theorem Ed(g:Nat)(caps:List (Key×Nat))(S:Store)(xs:List aJ)(p:aJ->Bool)(hl:xs.length<=1073741824)(hp:∀x∈xs,kW prog g caps S [x.v] (.c (.d (.b (p x))))):
 bF prog 205 [.c (.d (.sl (xs.map aJ.enc))),.c (.fn g caps)] S (fun r S'=>r=.c (.d (.b (xs.any p)))/\S'=S):=by
 refine zcx [.tmp 4] func205 ntmps205 ?_;simp -implicitDefEqProofs (disch:=omega) only[go_sem];refine aX rfl (Js g (gN 1 caps) _ xs p hl fun x hx=>(hp x hx).push _) ?_;simp -implicitDefEqProofs (disch:=omega) only[go_sem];exact aQ pK
theorem FN(g:Nat)(caps:List (Key×Nat))(S:Store)(xs:List aS)(p:aS->Bool)(hl:xs.length<=1073741824)(hp:∀x∈xs,kW prog g caps S [x.v] (.c (.d (.b (p x))))):
 bF prog 170 [.c (.d (.sl (xs.map aS.enc))),.c (.fn g caps)] S (fun r S'=>r=.c (.d (.i .i64 (oD p xs)))/\S'=S):=by
 refine zcx [.tmp 4] func170 ntmps170 ?_;simp -implicitDefEqProofs (disch:=omega) only[go_sem]
 refine bC (ι:=Nat) zmx rfl [0,1,7,8] (fun i=>[.c (.d (.sl (xs.map aS.enc))),.c (.fn g (gN 1 caps)),.c (.d (.i .i64 xs.length)),.c (.d (.i .i64 i))]) (fun _=>[]::S)
  (fun i=>i<=xs.length/\∀j,∀hj:j<xs.length,j<i->p xs[j]=false) (fun i=>xs.length-i) 0 rfl rfl ⟨Nat.zero_le _,fun j _ h=>by omega⟩ ?_
 rintro i ⟨p1,p2⟩;simp -implicitDefEqProofs (disch:=omega) only[go_sem]
 with_reducible refine aA (fun hb=> ?_) (fun hb=> ?_)<;>have h:=hb<;>(try simp only[wf_preprocess] at h)<;>simp -implicitDefEqProofs (disch:=omega) only[go_sem,hb]<;>(repeat(with_reducible refine And.intro ?_ ?_;focus first|omega|rfl|assumption|exact⟨_,rfl,rfl⟩|(simp;omega)|(simp;done)))
 ·have hi:i<xs.length:=by omega
  (repeat(with_reducible refine And.intro ?_ ?_;focus first|omega|rfl|assumption|exact⟨_,rfl,rfl⟩|(simp;omega)|(simp;done)))
  refine aX rfl (hp xs[i] (List.getElem_mem hi) [_]) ?_;simp -implicitDefEqProofs (disch:=omega) only[go_sem]
  with_reducible refine aA (fun hb=> ?_) (fun hb=> ?_)<;>have h:=hb<;>(try simp only[wf_preprocess] at h)<;>simp -implicitDefEqProofs (disch:=omega) only[go_sem,hb]<;>(repeat(with_reducible refine And.intro ?_ ?_;focus first|omega|rfl|assumption|exact⟨_,rfl,rfl⟩|(simp;omega)|(simp;done)))
  ·rw[nS hi p2 h]
  ·refine cO (i+1) (by omega) rfl rfl ⟨by omega,fun j hj hji=> ?_⟩;by_cases e:j=i
   ·subst e;exact h
   ·exact p2 j hj (by omega)
 ·rw[qL (fun j hj=>p2 j hj (by omega))]
theorem Cw(g:Nat)(caps:List (Key×Nat))(S:Store)(xs:List aS)(p:aS->Bool)(hl:xs.length<=1073741824)(hp:∀x∈xs,kW prog g caps S [x.v] (.c (.d (.b (p x))))):
 bF prog 110 [.c (.d (.sl (xs.map aS.enc))),.c (.fn g caps)] S (fun r S'=>r=.c (.d (.b (xs.any p)))/\S'=S):=by
 refine zcx [.tmp 4] func110 ntmps110 ?_;simp -implicitDefEqProofs (disch:=omega) only[go_sem];refine aX rfl (FN g (gN 1 caps) _ xs p hl fun x hx=>(hp x hx).push _) ?_;simp -implicitDefEqProofs (disch:=omega) only[go_sem];exact aQ pK
theorem Ee(g:Nat)(caps:List (Key×Nat))(S:Store)(xs:List (List UInt8))(p:(List UInt8)->Bool)(hl:xs.length<=1073741824)(hp:∀x∈xs,kW prog g caps S [.c (.d (.s x))] (.c (.d (.b (p x))))):
 bF prog 169 [.c (.d (.sl (xs.map encS))),.c (.fn g caps)] S (fun r S'=>r=.c (.d (.i .i64 (oD p xs)))/\S'=S):=by
 refine zcx [.tmp 4] func169 ntmps169 ?_;simp -implicitDefEqProofs (disch:=omega) only[go_sem,encS]
 refine bC (ι:=Nat) zmx rfl [0,1,7,8] (fun i=>[.c (.d (.sl (xs.map encS))),.c (.fn g (gN 1 caps)),.c (.d (.i .i64 xs.length)),.c (.d (.i .i64 i))]) (fun _=>[]::S)
  (fun i=>i<=xs.length/\∀j,∀hj:j<xs.length,j<i->p xs[j]=false) (fun i=>xs.length-i) 0 rfl rfl ⟨Nat.zero_le _,fun j _ h=>by omega⟩ ?_
 rintro i ⟨p1,p2⟩;simp -implicitDefEqProofs (disch:=omega) only[go_sem,encS]
 with_reducible refine aA (fun hb=> ?_) (fun hb=> ?_)<;>have h:=hb<;>(try simp only[wf_preprocess] at h)<;>simp -implicitDefEqProofs (disch:=omega) only[go_sem,hb,encS]<;>(repeat(with_reducible refine And.intro ?_ ?_;focus first|omega|rfl|assumption|exact⟨_,rfl,rfl⟩|(simp;omega)|(simp;done)))
 ·have hi:i<xs.length:=by omega
  (repeat(with_reducible refine And.intro ?_ ?_;focus first|omega|rfl|assumption|exact⟨_,rfl,rfl⟩|(simp;omega)|(simp;done)))
  refine aX rfl (hp xs[i] (List.getElem_mem hi) [_]) ?_;simp -implicitDefEqProofs (disch:=omega) only[go_sem,encS]
  with_reducible refine aA (fun hb=> ?_) (fun hb=> ?_)<;>have h:=hb<;>(try simp only[wf_preprocess] at h)<;>simp -implicitDefEqProofs (disch:=omega) only[go_sem,hb,encS]<;>(repeat(with_reducible refine And.intro ?_ ?_;focus first|omega|rfl|assumption|exact⟨_,rfl,rfl⟩|(simp;omega)|(simp;done)))
  ·rw[nS hi p2 h]
  ·refine cO (i+1) (by omega) rfl rfl ⟨by omega,fun j hj hji=> ?_⟩;by_cases e:j=i
   ·subst e;exact h
   ·exact p2 j hj (by omega)
 ·rw[qL (fun j hj=>p2 j hj (by omega))]
theorem tT(g:Nat)(caps:List (Key×Nat))(S:Store)(xs:List (List UInt8))(p:(List UInt8)->Bool)(hl:xs.length<=1073741824)(hp:∀x∈xs,kW prog g caps S [.c (.d (.s x))] (.c (.d (.b (p x))))):
 bF prog 108 [.c (.d (.sl (xs.map encS))),.c (.fn g caps)] S (fun r S'=>r=.c (.d (.b (xs.any p)))/\S'=S):=by
 refine zcx [.tmp 4] func108 ntmps108 ?_;simp -implicitDefEqProofs (disch:=omega) only[go_sem,encS];refine aX rfl (Ee g (gN 1 caps) _ xs p hl fun x hx=>(hp x hx).push _) ?_;simp -implicitDefEqProofs (disch:=omega) only[go_sem,encS];exact aQ pK
theorem Jt{s:List UInt8}{xs:List (List UInt8)}(h:s∈xs):s.length<=bA (xs.map encS):=by
 have:=gD (List.mem_map_of_mem (f:=encS) h);simpa [encS,bG,D.sz] using this
noncomputable def kR(xs:List (List UInt8)):Bool:=dec xs.Nodup&&xs.all validName
noncomputable def among(xs ys:List (List UInt8)):Bool:=xs.all fun s=>dec (s∈ys)
noncomputable def iV(vars:List (List UInt8))(t:ak):Bool:=lF t&&among (kr [] t) vars
noncomputable def qQ(vars:List (List UInt8))(ts:List ak):Bool:=ts.all (iV vars)
theorem abU{s l:List UInt8}{m:List (List UInt8)}:s∈DI l m<->s=l\/s∈m:=by
 unfold DI;split
 ·rename_i h;exact⟨.inr,fun x=>x.elim (fun e=>e▸h) id⟩
 ·rw[List.mem_append,List.mem_singleton];exact Or.comm
theorem qR{α:Type}{xs:List α}{i:Nat}(hi:i<xs.length):xs.take (i+1)=xs.take i++[xs[i]]:=List.take_succ_eq_append_getElem hi
theorem Cx{α:Type}{xs:List α}{x:α}:(xs++[x]).Nodup<->xs.Nodup/\x∉xs:=by
 rw[List.nodup_append];constructor
 ·rintro⟨h1,_,h3⟩;exact⟨h1,fun hx=>h3 x hx x (by simp) rfl⟩
 ·rintro⟨h1,h2⟩;exact⟨h1,by simp,fun a ha b hb e=>by simp at hb;subst hb;exact h2 (e▸ha)⟩
theorem LY{α:Type}{xs:List α}{i:Nat}(hi:i<xs.length)(h:xs[i]∈xs.take i):¬xs.Nodup:=fun hn=>by
 have h1:(xs.take (i+1)).Nodup:=hn.sublist (List.take_sublist _ _);rw[qR hi] at h1;exact(Cx.1 h1).2 h
theorem Ju(xs:List (List UInt8))(hl:xs.length<=1073741824):aG prog 73 [.c (.d (.sl (xs.map encS)))] (.c (.d (.b (dec xs.Nodup)))):=fun S=>by
 refine zcx [.tmp 2] func73 ntmps73 ?_;simp -implicitDefEqProofs (disch:=omega) only[go_sem,encS]
 (repeat(with_reducible refine And.intro ?_ ?_;focus first|omega|rfl|assumption|exact⟨_,rfl,rfl⟩|(simp;omega)|(simp;done)))
 refine bC (ι:=Nat×List (List UInt8)) zmx rfl [3,7,8,9] (fun y=>[.c (.mp (0,0)),.c (.d (.sl (xs.map encS))),.c (.d (.i .i64 xs.length)),.c (.d (.i .i64 y.1))]) (fun y=>[.mp y.2]::S)
  (fun y=>y.1<=xs.length/\(∀s,s∈y.2<->s∈xs.take y.1)/\(xs.take y.1).Nodup) (fun y=>xs.length-y.1) (0,[]) rfl rfl ⟨Nat.zero_le _,fun s=>by simp,by simp⟩ ?_
 rintro⟨i,m⟩ ⟨p1,p2,p3⟩;simp only at p1 p2 p3;simp -implicitDefEqProofs (disch:=omega) only[go_sem,encS]
 with_reducible refine aA (fun hb=> ?_) (fun hb=> ?_)<;>have h:=hb<;>(try simp only[wf_preprocess] at h)<;>simp -implicitDefEqProofs (disch:=omega) only[go_sem,hb,encS]<;>(repeat(with_reducible refine And.intro ?_ ?_;focus first|omega|rfl|assumption|exact⟨_,rfl,rfl⟩|(simp;omega)|(simp;done)))
 ·have hi:i<xs.length:=by omega
  (repeat(with_reducible refine And.intro ?_ ?_;focus first|omega|rfl|assumption|exact⟨_,rfl,rfl⟩|(simp;omega)|(simp;done)))
  with_reducible refine aA (fun hb=> ?_) (fun hb=> ?_)<;>have h:=hb<;>(try simp only[wf_preprocess] at h)<;>simp -implicitDefEqProofs (disch:=omega) only[go_sem,hb,encS]<;>(repeat(with_reducible refine And.intro ?_ ?_;focus first|omega|rfl|assumption|exact⟨_,rfl,rfl⟩|(simp;omega)|(simp;done)))
  ·exact aQ (bJ (LY hi ((p2 _).1 h))).symm
  ·refine cO (i+1,DI xs[i] m) (by simp only;omega) rfl rfl ⟨by simp only;omega,fun s=> ?_,?_⟩
   ·simp only
    rw[abU,qR hi,List.mem_append,List.mem_singleton,p2];exact Or.comm
   ·simp only
    rw[qR hi,Cx];exact⟨p3,fun hx=>h ((p2 _).2 hx)⟩
 ·rw[List.take_of_length_le (by omega)] at p3;exact aQ (dx p3).symm
theorem Af(xs:List (List UInt8))(hl:xs.length<=1073741824):aG prog 123 [.c (.d (.sl (xs.map encS)))] (.c (.d (.b (dec xs.Nodup)))):=fun S=>by
 refine zcx [.tmp 2] func123 ntmps123 ?_;simp -implicitDefEqProofs (disch:=omega) only[go_sem,encS]
 refine bC (ι:=Nat) zmx rfl [0,3] (fun i=>[.c (.d (.sl (xs.map encS))),.c (.d (.i .i64 i))]) (fun _=>[]::S)
  (fun i=>i<=xs.length/\(xs.take i).Nodup) (fun i=>xs.length-i) 0 rfl rfl ⟨Nat.zero_le _,by simp⟩ ?_
 rintro i ⟨p1,p3⟩;simp -implicitDefEqProofs (disch:=omega) only[go_sem,encS]
 with_reducible refine aA (fun hb=> ?_) (fun hb=> ?_)<;>have h:=hb<;>(try simp only[wf_preprocess] at h)<;>simp -implicitDefEqProofs (disch:=omega) only[go_sem,hb,encS]<;>(repeat(with_reducible refine And.intro ?_ ?_;focus first|omega|rfl|assumption|exact⟨_,rfl,rfl⟩|(simp;omega)|(simp;done)))
 ·have hi:i<xs.length:=by omega
  have hc:∀y∈xs.map encS,y.length=1:=fun y hy=>by
   obtain⟨s,_,rfl⟩:=List.mem_map.1 hy;rfl
  have e:(xs.map encS).take i=(xs.take i).map encS:=List.map_take.symm;refine And.intro ⟨by omega,by omega,hc⟩ ?_
  (repeat(with_reducible refine And.intro ?_ ?_;focus first|omega|rfl|assumption|exact⟨_,rfl,rfl⟩|(simp;omega)|(simp;done)))
  simp -implicitDefEqProofs (disch:=omega) only[go_sem,Int.toNat_zero,e];refine ay (qM (xs.take i) xs[i] (by simp;omega)) ?_;simp -implicitDefEqProofs (disch:=omega) only[go_sem]<;>(repeat(with_reducible refine And.intro ?_ ?_;focus first|omega|rfl|assumption|exact⟨_,rfl,rfl⟩|(simp;omega)|(simp;done)))
  with_reducible refine aA (fun hb=> ?_) (fun hb=> ?_)<;>have h:=hb<;>(try simp only[wf_preprocess] at h)<;>simp -implicitDefEqProofs (disch:=omega) only[go_sem,hb]<;>(repeat(with_reducible refine And.intro ?_ ?_;focus first|omega|rfl|assumption|exact⟨_,rfl,rfl⟩|(simp;omega)|(simp;done)))
  ·exact aQ (bJ (LY hi h)).symm
  ·refine cO (i+1) (by omega) rfl rfl ⟨by omega,?_⟩;rw[qR hi,Cx];exact⟨p3,h⟩
 ·rw[List.take_of_length_le (by omega)] at p3;exact aQ (dx p3).symm
theorem Jv(xs:List (List UInt8))(hl:xs.length<=1073741824)(hs:∀s∈xs,s.length<=4194304):aG prog 122 [.c (.d (.sl (xs.map encS)))] (.c (.d (.b (xs.all validName)))):=fun S=>by
 refine zcx [.tmp 2] func122 ntmps122 ?_;simp -implicitDefEqProofs (disch:=omega) only[go_sem,encS]
 refine bC (ι:=Nat) zmx rfl [0,3] (fun i=>[.c (.d (.sl (xs.map encS))),.c (.d (.i .i64 i))]) (fun _=>[]::S)
  (fun i=>i<=xs.length/\(xs.drop i).all validName=xs.all validName) (fun i=>xs.length-i) 0 rfl rfl ⟨Nat.zero_le _,rfl⟩ ?_
 rintro i ⟨p1,p2⟩;simp -implicitDefEqProofs (disch:=omega) only[go_sem,encS]
 with_reducible refine aA (fun hb=> ?_) (fun hb=> ?_)<;>have h:=hb<;>(try simp only[wf_preprocess] at h)<;>simp -implicitDefEqProofs (disch:=omega) only[go_sem,hb,encS]<;>(repeat(with_reducible refine And.intro ?_ ?_;focus first|omega|rfl|assumption|exact⟨_,rfl,rfl⟩|(simp;omega)|(simp;done)))
 ·have hi:i<xs.length:=by omega
  have hz:=hs _ (List.getElem_mem hi);rw[List.drop_eq_getElem_cons hi,List.all_cons] at p2
  (repeat(with_reducible refine And.intro ?_ ?_;focus first|omega|rfl|assumption|exact⟨_,rfl,rfl⟩|(simp;omega)|(simp;done)))
  refine ay (jK xs[i] (by omega)) ?_;simp -implicitDefEqProofs (disch:=omega) only[go_sem]<;>(repeat(with_reducible refine And.intro ?_ ?_;focus first|omega|rfl|assumption|exact⟨_,rfl,rfl⟩|(simp;omega)|(simp;done)))
  with_reducible refine aA (fun hb=> ?_) (fun hb=> ?_)<;>have h:=hb<;>(try simp only[wf_preprocess] at h)<;>simp -implicitDefEqProofs (disch:=omega) only[go_sem,hb]<;>(repeat(with_reducible refine And.intro ?_ ?_;focus first|omega|rfl|assumption|exact⟨_,rfl,rfl⟩|(simp;omega)|(simp;done)))
  ·rw[<-p2,h];rfl
  ·exact cO (i+1) (by omega) rfl rfl ⟨by omega,by rw[<-p2,h];rfl⟩
 ·rw[List.drop_of_length_le (by omega)] at p2;rw[<-p2];rfl
theorem AL(xs:List (List UInt8))(hl:xs.length<=1073741824)(hs:∀s∈xs,s.length<=4194304):aG prog 44 [.c (.d (.sl (xs.map encS)))] (.c (.d (.b (kR xs)))):=fun S=>by
 have hcl:∀s∈xs,aG prog 109 [.c (.d (.s s))] (.c (.d (.b (!validName s)))):=fun s hx S=>by
  have:=hs s hx;refine zcx [.tmp 2] func109 ntmps109 ?_;simp -implicitDefEqProofs (disch:=omega) only[go_sem];refine ay (jJ s (by omega)) ?_;simp -implicitDefEqProofs (disch:=omega) only[go_sem]<;>(repeat(with_reducible refine And.intro ?_ ?_;focus first|omega|rfl|assumption|exact⟨_,rfl,rfl⟩|(simp;omega)|(simp;done)))
 have ha:(xs.any fun s=> !validName s)= !xs.all validName:=by rw[List.not_all_eq_any_not]
 refine zcx [.tmp 2] func44 ntmps44 ?_;simp -implicitDefEqProofs (disch:=omega) only[go_sem];refine ay (Ju xs hl) ?_;simp -implicitDefEqProofs (disch:=omega) only[go_sem]<;>(repeat(with_reducible refine And.intro ?_ ?_;focus first|omega|rfl|assumption|exact⟨_,rfl,rfl⟩|(simp;omega)|(simp;done)))
 with_reducible refine aA (fun hb=> ?_) (fun hb=> ?_)<;>have h:=hb<;>(try simp only[wf_preprocess] at h)<;>simp -implicitDefEqProofs (disch:=omega) only[go_sem,hb]<;>(repeat(with_reducible refine And.intro ?_ ?_;focus first|omega|rfl|assumption|exact⟨_,rfl,rfl⟩|(simp;omega)|(simp;done)))
 ·refine aX rfl (tT 109 [] _ xs (fun s=> !validName s) hl fun s hx=>kW.KN (hcl s hx)) ?_;simp -implicitDefEqProofs (disch:=omega) only[go_sem];rw[ha];exact aQ (by unfold kR;rw[hb];simp)
 ·exact aQ (by unfold kR;rw[hb];rfl)
theorem AO(xs ys:List (List UInt8))(hl:xs.length<=1073741824)(hl':ys.length<=1073741824):aG prog 82 [.c (.d (.sl (xs.map encS))),.c (.d (.sl (ys.map encS)))] (.c (.d (.b (among xs ys)))):=fun S=>by
 have ha:(xs.any fun s=> !dec (s∈ys))= !among xs ys:=by unfold among;rw[List.not_all_eq_any_not]
 have hcl:∀(rest:List Ab.Obj)(s:List UInt8),kW prog 158 [((0,0),0)] ((.box [.d (.sl (ys.map encS))]::rest)::S) [.c (.d (.s s))] (.c (.d (.b (!dec (s∈ys))))):=fun rest s F=>by
  refine zcx [.tmp 3] func158 ntmps158 ?_;simp -implicitDefEqProofs (disch:=omega) only[go_sem];refine ay (qN ys s hl') ?_;simp -implicitDefEqProofs (disch:=omega) only[go_sem]<;>(repeat(with_reducible refine And.intro ?_ ?_;focus first|omega|rfl|assumption|exact⟨_,rfl,rfl⟩|(simp;omega)|(simp;done)))
 refine zcx [.tmp 4] func82 ntmps82 ?_;simp -implicitDefEqProofs (disch:=omega) only[go_sem];refine aX rfl (tT 158 [((0,0),0)] _ xs (fun s=> !dec (s∈ys)) hl fun s hx=>hcl [] s) ?_;simp -implicitDefEqProofs (disch:=omega) only[go_sem];rw[ha];exact aQ (by simp)
theorem Dk(t:ak)(vars:List (List UInt8))(hsz:t.sz<=4194304)(hv:vars.length<=1073741824):aG prog 48 [t.v,.c (.d (.sl (vars.map encS)))] (.c (.d (.b (iV vars t)))):=fun S=>by
 have h1:=xg t [];have h2:=jQ t;refine zcx [.tmp 4] func48 ntmps48 ?_;simp -implicitDefEqProofs (disch:=omega) only[go_sem];refine ay (sM t hsz) ?_;simp -implicitDefEqProofs (disch:=omega) only[go_sem]<;>(repeat(with_reducible refine And.intro ?_ ?_;focus first|omega|rfl|assumption|exact⟨_,rfl,rfl⟩|(simp;omega)|(simp;done)))
 with_reducible refine aA (fun hb=> ?_) (fun hb=> ?_)<;>have h:=hb<;>(try simp only[wf_preprocess] at h)<;>simp -implicitDefEqProofs (disch:=omega) only[go_sem,hb]<;>(repeat(with_reducible refine And.intro ?_ ?_;focus first|omega|rfl|assumption|exact⟨_,rfl,rfl⟩|(simp;omega)|(simp;done)))
 ·refine ay (Ad t hsz) ?_;simp -implicitDefEqProofs (disch:=omega) only[go_sem]<;>(repeat(with_reducible refine And.intro ?_ ?_;focus first|omega|rfl|assumption|exact⟨_,rfl,rfl⟩|(simp;omega)|(simp;done)));refine ay (AO (kr [] t) vars (by simp at h1;omega) hv) ?_;simp -implicitDefEqProofs (disch:=omega) only[go_sem]<;>(repeat(with_reducible refine And.intro ?_ ?_;focus first|omega|rfl|assumption|exact⟨_,rfl,rfl⟩|(simp;omega)|(simp;done)));exact aQ (by unfold iV;rw[hb];rfl)
 ·exact aQ (by unfold iV;rw[hb];rfl)
theorem Jw(ts:List ak)(vars:List (List UInt8))(hl:ts.length<=1073741824)(hsz:∀t∈ts,t.sz<=4194304)(hv:vars.length<=1073741824):aG prog 46 [.c (.d (.sl (ts.map ak.enc))),.c (.d (.sl (vars.map encS)))] (.c (.d (.b (qQ vars ts)))):=fun S=>by
 have ha:(ts.any fun t=> !iV vars t)= !qQ vars ts:=by unfold qQ;rw[List.not_all_eq_any_not]
 have hcl:∀(rest:List Ab.Obj)(t:ak),t.sz<=4194304->kW prog 114 [((0,0),0)] ((.box [.d (.sl (vars.map encS))]::rest)::S) [t.v] (.c (.d (.b (!iV vars t)))):=fun rest t ht F=>by
  refine zcx [.tmp 3] func114 ntmps114 ?_;simp -implicitDefEqProofs (disch:=omega) only[go_sem];refine ay (Dk t vars ht hv) ?_;simp -implicitDefEqProofs (disch:=omega) only[go_sem]<;>(repeat(with_reducible refine And.intro ?_ ?_;focus first|omega|rfl|assumption|exact⟨_,rfl,rfl⟩|(simp;omega)|(simp;done)))
 refine zcx [.tmp 4] func46 ntmps46 ?_;simp -implicitDefEqProofs (disch:=omega) only[go_sem];refine aX rfl (Dr 114 [((0,0),0)] _ ts (fun t=> !iV vars t) hl fun t hx=>hcl [] t (hsz t hx)) ?_;simp -implicitDefEqProofs (disch:=omega) only[go_sem];rw[ha];exact aQ (by simp)
theorem Gc(xs:List (List UInt8))(most:Int)(hl:xs.length<=1073741824)(hs:∀s∈xs,s.length<=4194304):aG prog 53 [.c (.d (.sl (xs.map encS))),.c (.d (.i .i64 most))] (.c (.d (.b (dec ((xs.length:Int)<=most)&&kR xs)))):=fun S=>by
 refine zcx [.tmp 4] func53 ntmps53 ?_;simp -implicitDefEqProofs (disch:=omega) only[go_sem]
 with_reducible refine aA (fun hb=> ?_) (fun hb=> ?_)<;>have h:=hb<;>(try simp only[wf_preprocess] at h)<;>simp -implicitDefEqProofs (disch:=omega) only[go_sem,hb]<;>(repeat(with_reducible refine And.intro ?_ ?_;focus first|omega|rfl|assumption|exact⟨_,rfl,rfl⟩|(simp;omega)|(simp;done)))
 ·have h1:=h;refine ay (Jv xs hl hs) ?_;simp -implicitDefEqProofs (disch:=omega) only[go_sem]<;>(repeat(with_reducible refine And.intro ?_ ?_;focus first|omega|rfl|assumption|exact⟨_,rfl,rfl⟩|(simp;omega)|(simp;done)))
  with_reducible refine aA (fun hb=> ?_) (fun hb=> ?_)<;>have h:=hb<;>(try simp only[wf_preprocess] at h)<;>simp -implicitDefEqProofs (disch:=omega) only[go_sem,hb]<;>(repeat(with_reducible refine And.intro ?_ ?_;focus first|omega|rfl|assumption|exact⟨_,rfl,rfl⟩|(simp;omega)|(simp;done)))
  ·refine ay (Af xs hl) ?_;simp -implicitDefEqProofs (disch:=omega) only[go_sem]<;>(repeat(with_reducible refine And.intro ?_ ?_;focus first|omega|rfl|assumption|exact⟨_,rfl,rfl⟩|(simp;omega)|(simp;done)));exact aQ (by rw[dx h1];unfold kR;rw[hb];simp)
  ·exact aQ (by rw[dx h1];unfold kR;rw[hb];simp)
 ·exact aQ (by rw[bJ h];rfl)
theorem Cy(t:ak)(vars:List (List UInt8))(hsz:t.sz<=4194304)(hv:vars.length<=1073741824):aG prog 51 [t.v,.c (.d (.sl (vars.map encS)))] (.c (.d (.b (iV vars t)))):=fun S=>by
 have h1:=xg t [];have h2:=jQ t
 have hlen:(kr [] t).length<=1073741824:=by simp at h1;omega
 refine zcx [.tmp 4] func51 ntmps51 ?_;simp -implicitDefEqProofs (disch:=omega) only[go_sem];refine ay (Jr t hsz) ?_;simp -implicitDefEqProofs (disch:=omega) only[go_sem]<;>(repeat(with_reducible refine And.intro ?_ ?_;focus first|omega|rfl|assumption|exact⟨_,rfl,rfl⟩|(simp;omega)|(simp;done)));generalize hxs:kr [] t=xs at hlen
 refine bC (ι:=Nat) zmx rfl [1,2,5,6] (fun i=>[.c (.d (.sl (vars.map encS))),.c (.ptr (0,0) 0),.c (.d (.sl (xs.map encS))),.c (.d (.i .i64 i))]) (fun _=>[.box [.d (.i .i64 t.aH),.d (.s t.fName),.d (.sl (t.fArgs.map ak.enc))]]::S)
  (fun i=>i<=xs.length/\among (xs.drop i) vars=among xs vars) (fun i=>xs.length-i) 0 rfl rfl ⟨Nat.zero_le _,rfl⟩ ?_
 rintro i ⟨p1,p2⟩;simp -implicitDefEqProofs (disch:=omega) only[go_sem,encS]
 with_reducible refine aA (fun hb=> ?_) (fun hb=> ?_)<;>have h:=hb<;>(try simp only[wf_preprocess] at h)<;>simp -implicitDefEqProofs (disch:=omega) only[go_sem,hb,encS]<;>(repeat(with_reducible refine And.intro ?_ ?_;focus first|omega|rfl|assumption|exact⟨_,rfl,rfl⟩|(simp;omega)|(simp;done)))
 ·have hi:i<xs.length:=by omega
  rw[List.drop_eq_getElem_cons hi] at p2;have p3:among xs vars=(dec (xs[i]∈vars)&&among (xs.drop (i+1)) vars):=p2.symm
  (repeat(with_reducible refine And.intro ?_ ?_;focus first|omega|rfl|assumption|exact⟨_,rfl,rfl⟩|(simp;omega)|(simp;done)))
  refine ay (qM vars xs[i] hv) ?_;simp -implicitDefEqProofs (disch:=omega) only[go_sem]<;>(repeat(with_reducible refine And.intro ?_ ?_;focus first|omega|rfl|assumption|exact⟨_,rfl,rfl⟩|(simp;omega)|(simp;done)))
  with_reducible refine aA (fun hb=> ?_) (fun hb=> ?_)<;>have h:=hb<;>(try simp only[wf_preprocess] at h)<;>simp -implicitDefEqProofs (disch:=omega) only[go_sem,hb]<;>(repeat(with_reducible refine And.intro ?_ ?_;focus first|omega|rfl|assumption|exact⟨_,rfl,rfl⟩|(simp;omega)|(simp;done)))
  ·exact aQ (by unfold iV;rw[hxs,p3,bJ h];simp)
  ·exact cO (i+1) (by omega) rfl rfl ⟨by omega,by rw[p3,dx h];rfl⟩
 ·rw[List.drop_of_length_le (by omega)] at p2;have p3:among xs vars=true:=p2.symm
  (repeat(with_reducible refine And.intro ?_ ?_;focus first|omega|rfl|assumption|exact⟨_,rfl,rfl⟩|(simp;omega)|(simp;done)))
  refine ay (sN t hsz) ?_;simp -implicitDefEqProofs (disch:=omega) only[go_sem]<;>(repeat(with_reducible refine And.intro ?_ ?_;focus first|omega|rfl|assumption|exact⟨_,rfl,rfl⟩|(simp;omega)|(simp;done)));exact aQ (by unfold iV;rw[hxs,p3];simp)
def ops:List (List UInt8):=[[43],[45],[42],[60],[61]]
def Ag(t:ak):Prop:=t.aH=0/\t.fName=[]/\t.fArgs.length=0
def qh(e:au):Prop:=
 (1<=e.aH/\e.aH<=12)/\
 (if e.aH=5\/e.aH=11 then validName e.aZ=true else e.aZ=[])/\
 (if e.aH=3\/e.aH=4\/e.aH=5\/e.aH=6\/e.aH=8 then validName e.fName=true else if e.aH=10 then e.fName∈ops else e.fName=[])/\
 (if e.aH=1 then -999999<=e.fN/\e.fN<=999999 else if e.aH=2 then e.fN=0\/e.fN=1 else e.fN=0)/\
 (if e.aH=12 then lF e.fType=true else Ag e.fType)/\
 (if e.aH=4\/e.aH=6 then True else if e.aH=5 then 1<=e.fArgs.length else if e.aH=7\/e.aH=11\/e.aH=12 then e.fArgs.length=1 else if e.aH=8\/e.aH=10 then e.fArgs.length=2 else if e.aH=9 then e.fArgs.length=3 else e.fArgs.length=0)/\
 (e.aH=7<->0<e.aI.length)
mutual
noncomputable def gI:au->Bool
 | .mk k t n m ty a b=>dec (qh (.mk k t n m ty a b))&&(jo a&&lG b)
noncomputable def jo:List au->Bool
 |[]=>true
 |x::xs=>gI x&&jo xs
noncomputable def rH:aJ->Bool
 | .mk c v b=>validName c&&(kR v&&gI b)
noncomputable def lG:List aJ->Bool
 |[]=>true
 |x::xs=>rH x&&lG xs
end
theorem tV(x:au):gI x=(dec (qh x)&&(jo x.fArgs&&lG x.aI)):=by cases x;rw[gI];rfl
theorem nT(x:aJ):rH x=(validName x.bO&&(kR x.aW&&gI x.fBody)):=by cases x;rw[rH];rfl
theorem PS{xs:List au}{i:Nat}(hi:i<xs.length):jo (xs.drop i)=(gI xs[i]&&jo (xs.drop (i+1))):=by rw[List.drop_eq_getElem_cons hi,jo]
theorem R4{xs:List aJ}{i:Nat}(hi:i<xs.length):lG (xs.drop i)=(rH xs[i]&&lG (xs.drop (i+1))):=by rw[List.drop_eq_getElem_cons hi,lG]
theorem Gd:∀{xs:List au},(xs.any fun t=> !gI t)= !jo xs
 |[]=>rfl
 |t::ts=>by rw[List.any_cons,Gd (xs:=ts),jo];simp
theorem Jy:∀{xs:List aJ},(xs.any fun t=> !rH t)= !lG xs
 |[]=>rfl
 |t::ts=>by rw[List.any_cons,Jy (xs:=ts),lG];simp
noncomputable def nK(e:au):Bool:=dec (e.cnt<=300)&&gI e
def lH(l:Int)(c:Nat):Int:=if l<0 then -1 else if c<=l then l-c else -1
theorem Cz{l:Int}{a b:Nat}:lH (lH l a) b=lH l (a+b):=by unfold lH;split<;>split<;>(try split)<;>(try split)<;>omega
theorem GY{l:Int}{a:Nat}(h:l<0):lH l a= -1:=if_pos h
theorem Ef{l:Int}(h: -1<=l):lH l 0=l:=by unfold lH;split<;>(try split)<;>omega
theorem KZ{l:Int}{c:Nat}(h:0<=l): -1<=lH l c/\lH l c<=l:=by unfold lH;split<;>(try split)<;>omega
theorem abV{l:Int}{c:Nat}(h:0<=l):decide (lH l c>=0)=decide ((c:Int)<=l):=by unfold lH;rw[if_neg (by omega)];split<;>simp<;>omega
theorem M8:validName []=false:=bJ fun h=>by have:=h.1.1;simp at this
theorem YQ{s:List UInt8}(h:s∈ops):s.length=1:=by simp[ops] at h;rcases h with h|h|h|h|h<;>rw[h]<;>rfl
theorem PU{s:List UInt8}(h:s∈ops):validName s=false:=bJ fun x=>by
 have h1:=x.2.2 0 (by have:=x.1.1;omega);simp[ops] at h;rcases h with h|h|h|h|h<;>rw[h] at h1<;>simp[lowerB,nJ] at h1
theorem Jz{t:ak}(h:Ag t):lF t=false:=bJ fun x=>by
 have h1:=x.1;rw[wZ,Bool.and_eq_true] at h1;have h2:=iR h1.1;rw[h.1] at h2;omega
structure Hold(p:Prop):Prop where
 out:p
theorem GZ{P:Program}{N:Nat}{c:Code}{Q:Exit->St->Prop}{tm:List (Nat×V)}{st st':Store}(ts:List Nat)(vs:List V)(hv:ts.map (look tm)=vs)(hs:st=st')
 (h:AW P N c Q ⟨iN ts vs,st'⟩):AW P N c Q ⟨tm,st⟩:=by
 subst hs;refine j6 h ?_;rw[<-hv];exact GJ fun t=>vL _ ts t
theorem aep(b:UInt8):decide (firstIdx ⟨[43,45,42,60,61].toArray⟩ b>=0)=dec ([b]∈ops):=by
 have h:∀n:Nat,n<256->decide (firstIdx ⟨[43,45,42,60,61].toArray⟩ (UInt8.ofNat n)>=0)=decide ([UInt8.ofNat n]∈ops):=by decide +kernel
 have h1:=h b.toNat (UInt8.toNat_lt b);rw[UInt8.ofNat_toNat] at h1;rw[h1];by_cases h2:[b]∈ops
 ·rw[dx h2];simp[h2]
 ·rw[bJ h2];simp[h2]
def VL(k:Int):Int:=if k=5\/k=7\/k=11\/k=12 then 1 else if k=8\/k=10 then 2 else if k=9 then 3 else 0
def VN(k:Int):Int:=if k=4\/k=6\/k=5 then 300 else if k=7\/k=11\/k=12 then 1 else if k=8\/k=10 then 2 else if k=9 then 3 else 0
theorem FP(l:List UInt8)(b:UInt8):Ur prog 252 [.c (.d (.s l)),.c (.d (.i .u8 b.toNat))] (.c (.d (.i .i64 (firstIdx ⟨l.toArray⟩ b)))):=by
 refine⟨_,Extern.BytealgIndexByte.indexByte,func252,by kernel_rfl,by kernel_rfl,by kernel_rfl,by kernel_rfl,fun w σ S β vs hS hv=> ?_⟩;obtain⟨hl,h⟩:=hv;obtain⟨v0,e0,h0,_⟩:=h 0 _ rfl;obtain⟨v1,e1,h1,_⟩:=h 1 _ rfl;cases h0;cases h1
 have hvs:vs=[.string ⟨l.toArray⟩,.int .u8 b.toNat]:=by
  match vs,hl,e0,e1 with
  |[x,y],_,e0,e1=>simp at e0 e1;rw[e0,e1]
 subst hvs;refine⟨_,run_indexByte_string _ _ w,?_,rfl⟩
 have hb:(b.toNat:Int).toNat.toUInt8=b:=by simp
 rw[hb];exact .i _ _
theorem Eh(l:List UInt8)(b:UInt8):aG prog 243 [.c (.d (.s l)),.c (.d (.i .u8 b.toNat))] (.c (.d (.i .i64 (firstIdx ⟨l.toArray⟩ b)))):=fun S=>by
 refine zcx [.tmp 4] func243 ntmps243 ?_;simp -implicitDefEqProofs (disch:=omega) only[go_sem];refine afF (FP l b) ?_;simp -implicitDefEqProofs (disch:=omega) only[go_sem]
theorem R5(l:List UInt8)(b:UInt8)(hl:[b]≠l):aG prog 258 [.c (.d (.s l)),.c (.d (.s [b]))] (.c (.d (.i .i64 (firstIdx ⟨l.toArray⟩ b)))):=fun S=>by
 have c1:decide (((1:Nat):Int)=0)=false:=rfl;have c2:decide (((1:Nat):Int)=1)=true:=rfl;refine zcx [.tmp 4] func258 ntmps258 ?_;simp -implicitDefEqProofs (disch:=omega) only[go_sem,c1,c2]
 with_reducible refine aA (fun hb=> ?_) (fun hb=> ?_)<;>have h:=hb<;>(try simp only[wf_preprocess] at h)<;>simp -implicitDefEqProofs (disch:=omega) only[go_sem,hb,c1,c2]<;>(repeat(with_reducible refine And.intro ?_ ?_;focus first|omega|rfl|assumption|exact⟨_,rfl,rfl⟩|(simp;omega)|(simp;done)))
 ·exact absurd h hl
 refine ay (Eh l b) ?_;simp -implicitDefEqProofs (disch:=omega) only[go_sem]<;>(repeat(with_reducible refine And.intro ?_ ?_;focus first|omega|rfl|assumption|exact⟨_,rfl,rfl⟩|(simp;omega)|(simp;done)))
theorem YR(l:List UInt8)(b:UInt8)(hl:[b]≠l):aG prog 248 [.c (.d (.s l)),.c (.d (.s [b]))] (.c (.d (.i .i64 (firstIdx ⟨l.toArray⟩ b)))):=fun S=>by
 refine zcx [.tmp 4] func248 ntmps248 ?_;simp -implicitDefEqProofs (disch:=omega) only[go_sem];refine ay (R5 l b hl) ?_;simp -implicitDefEqProofs (disch:=omega) only[go_sem]<;>(repeat(with_reducible refine And.intro ?_ ?_;focus first|omega|rfl|assumption|exact⟨_,rfl,rfl⟩|(simp;omega)|(simp;done)))
theorem PV(l:List UInt8)(b:UInt8)(hl:[b]≠l):aG prog 237 [.c (.d (.s l)),.c (.d (.s [b]))] (.c (.d (.b (decide (firstIdx ⟨l.toArray⟩ b>=0))))):=fun S=>by
 refine zcx [.tmp 4] func237 ntmps237 ?_;simp -implicitDefEqProofs (disch:=omega) only[go_sem];refine ay (YR l b hl) ?_;simp -implicitDefEqProofs (disch:=omega) only[go_sem]<;>(repeat(with_reducible refine And.intro ?_ ?_;focus first|omega|rfl|assumption|exact⟨_,rfl,rfl⟩|(simp;omega)|(simp;done)))
theorem M9(s:List UInt8):aG prog 227 [.c (.d (.s s))] (.c (.d (.b (dec (s∈ops))))):=fun S=>by
 refine zcx [.tmp 2] func227 ntmps227 ?_;simp -implicitDefEqProofs (disch:=omega) only[go_sem]
 with_reducible refine aA (fun hb=> ?_) (fun hb=> ?_)<;>have h:=hb<;>(try simp only[wf_preprocess] at h)<;>simp -implicitDefEqProofs (disch:=omega) only[go_sem,hb]<;>(repeat(with_reducible refine And.intro ?_ ?_;focus first|omega|rfl|assumption|exact⟨_,rfl,rfl⟩|(simp;omega)|(simp;done)))
 ·obtain⟨b,rfl⟩:=List.length_eq_one_iff.1 (show s.length=1 by omega);refine ay (PV [43,45,42,60,61] b (by intro x;cases x)) ?_;simp -implicitDefEqProofs (disch:=omega) only[go_sem]<;>(repeat(with_reducible refine And.intro ?_ ?_;focus first|omega|rfl|assumption|exact⟨_,rfl,rfl⟩|(simp;omega)|(simp;done)));exact aQ (aep b)
 ·exact aQ (bJ fun x=>h (by rw[YQ x];rfl)).symm
theorem Na(t:ak):aG prog 84 [t.v] (.c (.d (.b (dec (Ag t))))):=fun S=>by
 refine zcx [.tmp 2] func84 ntmps84 ?_;simp -implicitDefEqProofs (disch:=omega) only[go_sem]
 repeat' (first
  |with_reducible refine aA (fun hb=> ?_) (fun hb=> ?_)<;>have h:=hb<;>(try simp only[wf_preprocess] at h)<;>simp -implicitDefEqProofs (disch:=omega) only[go_sem,hb]<;>(repeat(with_reducible refine And.intro ?_ ?_;focus first|omega|rfl|assumption|exact⟨_,rfl,rfl⟩|(simp;omega)|(simp;done)))
  |(refine aQ ?_;unfold Ag;grind [dx,bJ,iR,mV]))
theorem Gf(k:Int):aG prog 226 [.c (.d (.i .i64 k))] (.d9 [(false,[.d (.i .i64 (VL k))]),(false,[.d (.i .i64 (VN k))])]):=fun S=>by
 refine zcx [.tmp 2,.tmp 3] func226 ntmps226 ?_;simp -implicitDefEqProofs (disch:=omega) only[go_sem]
 repeat' (first
  |with_reducible refine aA (fun hb=> ?_) (fun hb=> ?_)<;>have h:=hb<;>(try simp only[wf_preprocess] at h)<;>simp -implicitDefEqProofs (disch:=omega) only[go_sem,hb]<;>(repeat(with_reducible refine And.intro ?_ ?_;focus first|omega|rfl|assumption|exact⟨_,rfl,rfl⟩|(simp;omega)|(simp;done)))
  |(unfold VL VN;grind))
end Go.Ab