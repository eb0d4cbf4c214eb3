/-
  SEVERAL TEXTS IN ONE (merged by program): contracts and models, each with its own heading.
-/
import Derived.Test.YtlaaknnkeidlbaaGreatDoorPartDmbC
set_option maxHeartbeats 8000000
open Go.Proofs Go.Proofs.Tryz
set_option linter.unusedSimpArgs false
set_option linter.unusedVariables false
set_option maxRecDepth 4000
namespace Go.Ab
def lowerB(b:UInt8):Prop:=97<=b.toNat/\b.toNat<=122
def sO(b:UInt8):Prop:=48<=b.toNat/\b.toNat<=57
def Wv(s:List UInt8):Prop:=∀i,i<s.length->lowerB (s.getD i 0)\/(i≠0/\sO (s.getD i 0))
def reserved:List (List UInt8):=[[105,110,116],[98,111,111,108],[97,115,115,111,99],[100,121,110],[105,102],[108,101,116],[99,97,115,101],[110,101,119],[109,101,116,104,111,100],[112,97,99,107],[116,114,117,101],[102,97,108,115,101]]
noncomputable def validName(s:List UInt8):Bool:=dec ((1<=s.length/\s.length<=8)/\s∉reserved/\Wv s)
noncomputable def yO(s:List UInt8):Bool:=dec (s=[105,110,116]\/s=[98,111,111,108])
noncomputable def yB(xs:List (List UInt8))(s:List UInt8):Int:=if s∈xs then((xs.findIdx fun x=>dec (x=s):Nat):Int) else -1
theorem YP{xs:List (List UInt8)}{s:List UInt8}{i:Nat}(hi:i<xs.length)(hj:∀j,j<i->xs.getD j []≠s)(h:xs.getD i []=s):yB xs s=i:=by
 have e:∀j,∀hj:j<xs.length,xs.getD j []=xs[j]:=fun j hj=>by simp[List.getD,hj]
 have hm:s∈xs:=by rw[<-h,e i hi];exact List.getElem_mem hi
 unfold yB;rw[if_pos hm];congr 1;rw[List.findIdx_eq hi];exact⟨bM (by rw[<-e i hi];exact h),fun j hji=>aR (by rw[<-e j (by omega)];exact hj j hji)⟩
theorem aeY{xs:List (List UInt8)}{s:List UInt8}(hj:∀j,j<xs.length->xs.getD j []≠s):yB xs s= -1:=by
 unfold yB;refine if_neg fun hm=> ?_;obtain⟨j,h1,h2⟩:=List.getElem_of_mem hm;exact hj j h1 (by simp[List.getD,h1,h2])
theorem Pg{xs:List (List UInt8)}{s:List UInt8}:decide (yB xs s>=0)=dec (s∈xs):=by
 rw[lH];refine iO ?_;unfold yB;split
 ·rename_i h;exact⟨fun _=>h,fun _=>by omega⟩
 ·rename_i h;exact⟨fun x=>by omega,fun x=>absurd x h⟩
def uE{α:Type}(p:α->Bool)(xs:List α):Int:=if xs.any p then((xs.findIdx p:Nat):Int) else -1
theorem tL{α:Type}{p:α->Bool}{xs:List α}{i:Nat}(hi:i<xs.length)(hj:∀j,∀hj:j<xs.length,j<i->p xs[j]=false)(h:p xs[i]=true):uE p xs=i:=by
 unfold uE;rw[if_pos (List.any_eq_true.2 ⟨xs[i],List.getElem_mem hi,h⟩)];congr 1;rw[List.findIdx_eq hi];exact⟨h,fun j hji=>hj j (by omega) hji⟩
theorem wU{α:Type}{p:α->Bool}{xs:List α}(hj:∀j,∀hj:j<xs.length,p xs[j]=false):uE p xs= -1:=by
 unfold uE;refine if_neg fun h=> ?_;obtain⟨x,hx,hp⟩:=List.any_eq_true.1 h;obtain⟨j,h1,h2⟩:=List.getElem_of_mem hx;rw[<-h2,hj j h1] at hp;cases hp
theorem vg{α:Type}{p:α->Bool}{xs:List α}:decide (uE p xs>=0)=xs.any p:=by
 unfold uE
 cases h:xs.any p with
 |true=>simp
 |false=>simp
noncomputable def Dx(k:Int)(n:List UInt8)(len:Nat):Bool:=
 dec ((k=1\/k=4)/\validName n=true/\len=0\/k=3/\validName n=true/\len=1\/k=2/\(validName n=true/\len<=3\/yO n=true/\len=0))
mutual
noncomputable def formed:ak->Bool
 | .mk k n a=>Dx k n a.length&&iZ a
noncomputable def iZ:List ak->Bool
 |[]=>true
 |t::ts=>formed t&&iZ ts
end
theorem zi(t:ak):formed t=(Dx t.aM t.fName t.fArgs.length&&iZ t.fArgs):=by cases t;rw[formed];rfl
theorem yC:∀{ts:List ak},iZ ts=true<->∀t∈ts,formed t=true
 |[]=>by simp[iZ]
 |t::ts=>by simp[iZ,yC (ts:=ts)]
theorem Mx:∀{ts:List ak},(ts.any fun t=> !formed t)= !iZ ts
 |[]=>rfl
 |t::ts=>by rw[List.any_cons,Mx (ts:=ts),iZ];simp
mutual
def nL:ak->Nat
 | .mk _ _ a=>depths a
def depths:List ak->Nat
 |[]=>0
 |t::ts=>max (nL t+1) (depths ts)
end
theorem SH(t:ak):nL t=depths t.fArgs:=by cases t;rw[nL];rfl
mutual
theorem BX:∀t:ak,nL t+1<=t.cnt
 | .mk k n a=>by
   have:=SI a;rw[nL,ak.cnt];omega
theorem SI:∀ts:List ak,depths ts<=ak.eT ts
 |[]=>by simp[depths]
 |t::ts=>by
  have h1:=BX t;have h2:=SI ts;rw[depths,ak.eT];omega
end
noncomputable def nZ(t:ak):Bool:=dec (formed t=true/\nL t<=6/\t.cnt<=60)
theorem GN(n a b:Int):aF prog 154 [.c (.d (.i .i64 n)),.c (.d (.i .i64 a)),.c (.d (.i .i64 b))] (.c (.d (.b (dec (a<=n/\n<=b))))):=fun S=>by
 refine zcx [.tmp 6] func154 ntmps154 ?_;refine W1 ?_;refine S0 (fun hb h=>?_) fun hb h=>?_
 ·exact aI (by rw[lH];exact iO ⟨fun x=>⟨by omega,x⟩,fun x=>x.2⟩)
 ·exact aI (aR (by omega)).symm
theorem vk(xs:List (List UInt8))(s:List UInt8)(hl:xs.length<=1073741824):aF prog 64 [.c (.d (.sl (xs.map encS))),.c (.d (.s s))] (.c (.d (.b (dec (s∈xs))))):=fun S=>by
 refine zcx [.tmp 4] func64 ntmps64 ?_;simp -implicitDefEqProofs (disch:=omega) only[go_sem,encS]
 refine aZ (ι:=Nat) zmx rfl [0,1,5] (fun i=>[.c (.d (.sl (xs.map encS))),.c (.d (.s s)),.c (.d (.i .i64 i))]) (fun _=>[]::S)
  (fun i=>i<=xs.length/\∀j,j<i->∀h:j<xs.length,xs[j]≠s) (fun i=>xs.length-i) 0 rfl rfl ⟨Nat.zero_le _,fun j h=>by omega⟩ ?_
 rintro i ⟨p1,p2⟩;simp -implicitDefEqProofs (disch:=omega) only[go_sem,encS]
 with_reducible refine dS (fun hb=> ?_) (fun hb=> ?_)<;>have h:=hb<;>(try simp only[wf_preprocess] at h)<;>simp -implicitDefEqProofs (disch:=omega) only[go_sem,hb,encS]<;>refine W3 ?_
 ·have hi:i<xs.length:=by omega
  with_reducible refine dS (fun hb=> ?_) (fun hb=> ?_)<;>have h:=hb<;>(try simp only[wf_preprocess] at h)<;>simp -implicitDefEqProofs (disch:=omega) only[go_sem,hb,encS]<;>refine W3 ?_
  ·exact aI (bM (by rw[<-h];exact List.getElem_mem hi)).symm
  ·refine dB (i+1) (by omega) rfl rfl ⟨by omega,fun j hj hl=> ?_⟩;by_cases e:j=i
   ·subst e;exact h
   ·exact p2 j (by omega) hl
 ·refine aI (aR fun hm=> ?_).symm;obtain⟨j,h1,h2⟩:=List.getElem_of_mem hm;exact p2 j (by omega) h1 h2
theorem SK(xs:List (List UInt8))(s:List UInt8)(hl:xs.length<=1073741824):aF prog 141 [.c (.d (.sl (xs.map encS))),.c (.d (.s s))] (.c (.d (.i .i64 (yB xs s)))):=fun S=>by
 refine zcx [.tmp 4] func141 ntmps141 ?_;simp -implicitDefEqProofs (disch:=omega) only[go_sem,encS]
 refine aZ (ι:=Nat) zmx rfl [0,1,7,8] (fun i=>[.c (.d (.sl (xs.map encS))),.c (.d (.s s)),.c (.d (.i .i64 xs.length)),.c (.d (.i .i64 i))]) (fun _=>[]::S)
  (fun i=>i<=xs.length/\∀j,j<i->xs.getD j []≠s) (fun i=>xs.length-i) 0 rfl rfl ⟨Nat.zero_le _,fun j h=>by omega⟩ ?_
 rintro i ⟨p1,p2⟩;simp -implicitDefEqProofs (disch:=omega) only[go_sem,encS]
 with_reducible refine dS (fun hb=> ?_) (fun hb=> ?_)<;>have h:=hb<;>(try simp only[wf_preprocess] at h)<;>simp -implicitDefEqProofs (disch:=omega) only[go_sem,hb,encS]<;>refine W3 ?_
 ·have hi:i<xs.length:=by omega
  have e:xs.getD i []=xs[i]:=by simp[List.getD,hi]
  with_reducible refine dS (fun hb=> ?_) (fun hb=> ?_)<;>have h:=hb<;>(try simp only[wf_preprocess] at h)<;>simp -implicitDefEqProofs (disch:=omega) only[go_sem,hb,encS]<;>refine W3 ?_
  ·rw[YP hi p2 (by rw[e];exact h.symm)]
  ·refine dB (i+1) (by omega) rfl rfl ⟨by omega,fun j hj=> ?_⟩;by_cases e':j=i
   ·subst e';rw[e];exact fun x=>h x.symm
   ·exact p2 j (by omega)
 ·rw[aeY (fun j hj=>p2 j (by omega))]
theorem rR(xs:List (List UInt8))(s:List UInt8)(hl:xs.length<=1073741824):aF prog 206 [.c (.d (.sl (xs.map encS))),.c (.d (.s s))] (.c (.d (.b (dec (s∈xs))))):=fun S=>by
 refine zcx [.tmp 4] func206 ntmps206 ?_;refine W1 ?_;refine C2 (SK xs s hl) ?_;exact aI Pg
theorem Ph(s:List UInt8):aF prog 155 [.c (.d (.s s))] (.c (.d (.b (dec (s∈reserved))))):=fun S=>by
 refine zcx [.tmp 2] func155 ntmps155 ?_;refine W1 ?_;refine W3 ?_;exact C4 (vk reserved s (by decide))
theorem Pj(s:List UInt8):aF prog 137 [.c (.d (.s s))] (.c (.d (.b (dec (s∈reserved))))):=fun S=>by
 refine zcx [.tmp 2] func137 ntmps137 ?_;refine W1 ?_;refine W3 ?_;exact C4 (rR reserved s (by decide))
theorem Pk(b:UInt8):aF prog 135 [.c (.d (.i .u8 b.toNat))] (.c (.d (.b (dec (lowerB b))))):=fun S=>by
 refine zcx [.tmp 2] func135 ntmps135 ?_;refine W1 ?_;refine S0 (fun hb h=>?_) fun hb h=>?_
 ·exact aI (by rw[lH];exact iO ⟨fun x=>⟨by omega,by omega⟩,fun x=>by have:=x.2;omega⟩)
 ·exact aI (aR fun x=>by have:=x.1;omega).symm
theorem Pm(b:UInt8):aF prog 136 [.c (.d (.i .u8 b.toNat))] (.c (.d (.b (dec (sO b))))):=fun S=>by
 refine zcx [.tmp 2] func136 ntmps136 ?_;refine W1 ?_;refine S0 (fun hb h=>?_) fun hb h=>?_
 ·exact aI (by rw[lH];exact iO ⟨fun x=>⟨by omega,by omega⟩,fun x=>by have:=x.2;omega⟩)
 ·exact aI (aR fun x=>by have:=x.1;omega).symm
theorem iy(s:List UInt8)(hl:s.length<=1073741824):aF prog 53 [.c (.d (.s s))] (.c (.d (.b (validName s)))):=fun S=>by
 refine zcx [.tmp 2] func53 ntmps53 ?_;refine W1 ?_
 refine aZ (ι:=Nat) zmx rfl [0,5,6] (fun i=>[.c (.d (.s s)),.c (.d (.i .i64 s.length)),.c (.d (.i .i64 i))]) (fun _=>[]::S)
  (fun i=>i<=s.length/\∀j,j<i->lowerB (s.getD j 0)\/(j≠0/\sO (s.getD j 0))) (fun i=>s.length-i) 0 rfl rfl ⟨Nat.zero_le _,fun j h=>by omega⟩ ?_
 rintro i ⟨p1,p2⟩
 have next:i<s.length->(lowerB (s.getD i 0)\/(i≠0/\sO (s.getD i 0)))->∀j,j<i+1->lowerB (s.getD j 0)\/(j≠0/\sO (s.getD j 0)):=fun hi h j hj=>by
  by_cases e:j=i
  ·subst e;exact h
  ·exact p2 j (by omega)
 have bad:i<s.length->¬(lowerB (s.getD i 0)\/(i≠0/\sO (s.getD i 0)))->validName s=false:=fun hi h=>aR fun x=>h (x.2.2 i hi);refine W1 ?_;refine S0 (fun hb h=>?_) fun hb h=>?_
 ·have hi:i<s.length:=by omega
  refine W3 ?_;refine C2 (Pk (s.getD i 0)) ?_;refine S0 (fun hb h=>?_) fun hb h=>?_
  ·have nl:=h;refine S0 (fun hb h=>?_) fun hb h=>?_
   ·have i0:i=0:=by omega
    rw[bad hi (fun x=>x.elim nl fun y=>y.1 i0)]
   ·have ne:=h;refine W3 ?_;refine C2 (Pm (s.getD i 0)) ?_;refine S0 (fun hb h=>?_) fun hb h=>?_
    ·rw[bad hi (fun x=>x.elim nl fun y=>h y.2)]
    ·exact dB (i+1) (by omega) rfl rfl ⟨by omega,next hi (.inr ⟨by omega,h⟩)⟩
  ·exact dB (i+1) (by omega) rfl rfl ⟨by omega,next hi (.inl h)⟩
 ·have hn:Wv s:=fun j hj=>p2 j (by omega)
  have h0:∀b,dec (s∈reserved)=b->∀c,decide ((s.length:Int)>=1)=c->∀d,decide ((s.length:Int)<=8)=d->validName s=(c&&d&& !b):=by
   rintro b rfl c rfl d rfl;unfold validName;rw[Bool.eq_iff_iff];simp only[Bq,Bool.and_eq_true,decide_eq_true_eq,Bool.not_eq_true',J4];exact⟨fun x=>⟨⟨by omega,by omega⟩,x.2.1⟩,fun x=>⟨⟨by omega,by omega⟩,x.2,hn⟩⟩
  refine S0 (fun hb h=>?_) fun hb h=>?_
  ·have c1:=hb;refine S0 (fun hb h=>?_) fun hb h=>?_
   ·refine C2 (Pj s) ?_;exact aI (by rw[h0 _ rfl _ c1 _ hb];simp)
   ·exact aI (by rw[h0 _ rfl _ c1 _ hb];simp)
  ·exact aI (by rw[h0 _ rfl _ hb _ rfl];simp)
theorem iA(s:List UInt8)(hl:s.length<=1073741824):aF prog 62 [.c (.d (.s s))] (.c (.d (.b (validName s)))):=fun S=>by
 have bad:¬Wv s->validName s=false:=fun h=>aR fun x=>h x.2.2;refine zcx [.tmp 2] func62 ntmps62 ?_;refine W1 ?_;refine C2 (GN s.length 1 8) ?_;refine S0 (fun hb h=>?_) fun hb h=>?_
 ·rw[show validName s=false from aR fun x=>h (by omega)]
 have hlen:=h;refine C2 (Ph s) ?_;refine S0 (fun hb h=>?_) fun hb h=>?_
 ·rw[show validName s=false from aR fun x=>x.2.1 h]
 have hres:=h
 refine aZ (ι:=Nat) zmx rfl [0,3] (fun i=>[.c (.d (.s s)),.c (.d (.i .i64 i))]) (fun _=>[]::S)
  (fun i=>i<=s.length/\∀j,j<i->lowerB (s.getD j 0)\/(j≠0/\sO (s.getD j 0))) (fun i=>s.length-i) 0 rfl rfl ⟨Nat.zero_le _,fun j h=>by omega⟩ ?_
 rintro i ⟨p1,p2⟩
 have next:i<s.length->(lowerB (s.getD i 0)\/(i≠0/\sO (s.getD i 0)))->∀j,j<i+1->lowerB (s.getD j 0)\/(j≠0/\sO (s.getD j 0)):=fun hi h j hj=>by
  by_cases e:j=i
  ·subst e;exact h
  ·exact p2 j (by omega)
 refine W1 ?_;refine S0 (fun hb h=>?_) fun hb h=>?_
 ·have hi:i<s.length:=by omega
  have bad':¬(lowerB (s.getD i 0)\/(i≠0/\sO (s.getD i 0)))->validName s=false:=fun h=>bad fun x=>h (x i hi)
  have next:=next hi
  unfold lowerB sO at bad' next
  all_goals try(refine S0 (fun hb h=>?_) fun hb h=>?_)
  all_goals try(refine S0 (fun hb h=>?_) fun hb h=>?_)
  all_goals try(refine S0 (fun hb h=>?_) fun hb h=>?_)
  all_goals try(refine S0 (fun hb h=>?_) fun hb h=>?_)
  all_goals try(refine S0 (fun hb h=>?_) fun hb h=>?_)
  all_goals try(with_reducible refine dS (fun hb=> ?_) (fun hb=> ?_)<;>have h:=hb<;>(try simp only[wf_preprocess] at h)<;>simp -implicitDefEqProofs (disch:=omega) only[go_sem,hb]<;>(repeat(with_reducible refine And.intro ?_ ?_;focus first|omega|rfl|assumption|exact⟨_,rfl,rfl⟩|(simp;omega)|(simp;done))))
  all_goals first
   |exact dB (i+1) (by omega) rfl rfl ⟨by omega,next (by omega)⟩
   |exact aI (bad' (by omega)).symm
 ·rw[show validName s=true from bM ⟨by omega,hres,fun j hj=>p2 j (by omega)⟩]
theorem aeZ(s:List UInt8):aF prog 269 [.c (.d (.s s))] (.c (.d (.b (yO s)))):=fun S=>by
 refine zcx [.tmp 2] func269 ntmps269 ?_;refine W1 ?_;refine S0 (fun hb h=>?_) fun hb h=>?_
 ·exact aI (bM (.inl h)).symm
 ·exact aI (by rw[lH];exact iO ⟨fun x=>.inr x,fun x=>x.resolve_left h⟩)
theorem Ww(s:List UInt8):aF prog 276 [.c (.d (.s s))] (.c (.d (.b (yO s)))):=fun S=>by
 refine zcx [.tmp 2] func276 ntmps276 ?_;refine W1 ?_;refine S0 (fun hb h=>?_) fun hb h=>?_
 ·exact aI (bM (.inl h)).symm
 ·exact aI (by rw[lH];exact iO ⟨fun x=>.inr x,fun x=>x.resolve_left h⟩)
theorem wV{x:ak}{i:Nat}(hi:i<x.fArgs.length)(h:x.sz<=4194304):x.fArgs[i].sz<=4194304/\x.fArgs.length<=4194304/\x.fName.length<=4194304:=by
 have hx:x.fArgs[i].sz<=aP (x.fArgs.map ak.enc):=dz (List.mem_map_of_mem (List.getElem_mem hi));simp only[ak.sz,ak.aJ,bQ,D.sz,List.length_map] at h;omega
theorem FC{x:ak}(h:x.sz<=4194304):x.fArgs.length<=4194304/\x.fName.length<=4194304:=by
 simp only[ak.sz,ak.aJ,bQ,D.sz,List.length_map] at h;omega
theorem ng:∀{ts:List ak}{i:Nat}(hi:i<ts.length),ak.eT (ts.drop i)=ts[i].cnt+ak.eT (ts.drop (i+1)):=fun {ts} {i} hi=>by
 rw[List.drop_eq_getElem_cons hi,ak.eT]
theorem MB:∀{ts:List ak}{i:Nat}(hi:i<ts.length),depths (ts.drop i)=max (nL ts[i]+1) (depths (ts.drop (i+1))):=fun {ts} {i} hi=>by
 rw[List.drop_eq_getElem_cons hi,depths]
theorem Wx:∀{ts:List ak}{i:Nat}(hi:i<ts.length),iZ (ts.drop i)=(formed ts[i]&&iZ (ts.drop (i+1))):=fun {ts} {i} hi=>by
 rw[List.drop_eq_getElem_cons hi,iZ]
theorem Pn:∀n:Nat,∀x:ak,SizeOf.sizeOf x<n->∀l:Int,0<=l->l<=1073741824->x.sz<=4194304->aF prog 245 [x.v,.c (.d (.i .i64 l))] (.c (.d (.i .i64 (oF l x.cnt))))
 |0=>fun x h=>by omega
 |n+1=>by
  have ih:=Pn n;intro x hn l h0 h1 hsz S;have kV:=ak.iY x;have hts:=FC hsz;have hcn:=ak.qH x;refine zcx [.tmp 4] func245 ntmps245 ?_;refine W1 ?_
  refine aZ (ι:=Nat×Int) zmx rfl [1,2,5] (fun y=>[.c (.d (.i .i64 y.2)),.c (.ptr (0,0) 0),.c (.d (.i .i64 y.1))]) (fun y=>[.box [.d (.i .i64 x.aM),.d (.s x.fName),.d (.sl (x.fArgs.map ak.enc))]]::S)
   (fun y=>y.1<=x.fArgs.length/\ -1<=y.2/\y.2<=1073741824/\(0<=y.2->oF l x.cnt=oF y.2 (ak.eT (x.fArgs.drop y.1)))/\(y.2<0->oF l x.cnt= -1)) (fun y=>x.fArgs.length-y.1) (0,l-1) rfl rfl ⟨Nat.zero_le _,by simp only;omega,by simp only;omega,fun h=> ?_,fun h=> ?_⟩ ?_
  ·simp only[List.drop_zero] at h ⊢;unfold oF;rw[hcn];split<;>split<;>omega
  ·simp only at h;exact LC (by omega)
  rintro⟨i,c⟩ ⟨p1,p2,p3,p4,p5⟩;simp only at p1 p2 p3 p4 p5;refine W1 ?_;refine S0 (fun hb h=>?_) fun hb h=>?_
  ·have hi:i<x.fArgs.length:=by omega
   refine S0 (fun hb h=>?_) fun hb h=>?_
   ·have hsz':=wV hi hsz;have p6:=p4 h;rw[ng hi] at p6;refine W3 ?_;refine C2 (ih x.fArgs[i] (by have:=List.sizeOf_lt_of_mem (List.getElem_mem hi);omega) c (by omega) (by omega) (by omega)) ?_;refine dB (i+1,oF c _) (by simp only;omega) rfl rfl ⟨by simp only;omega,?_,?_,fun h=> ?_,fun h=> ?_⟩
    ·simp only;unfold oF;split<;>omega
    ·simp only;unfold oF;split<;>omega
    ·simp only at h ⊢;rw[p6];have:=LB (l:=c) (a:=x.fArgs[i].cnt) (by omega);rw[this.1];unfold oF;split<;>split<;>omega
    ·simp only at h ⊢;rw[p6];have:=Iu h;exact LC (by omega)
   ·have hc:c= -1:=by omega
    rw[p5 (by omega),hc]
  ·have hi:i=x.fArgs.length:=by omega
   by_cases hc:0<=c
   ·rw[p4 hc,hi,List.drop_length,ak.eT,Wj (by omega)];exact int_eq (by simp)
   ·rw[p5 (by omega)];exact int_eq (by omega)
theorem ae0(x:ak)(l:Int)(h0:0<=l)(h1:l<=1073741824)(hsz:x.sz<=4194304):aF prog 245 [x.v,.c (.d (.i .i64 l))] (.c (.d (.i .i64 (oF l x.cnt)))):=Pn _ x (Nat.lt_succ_self _) l h0 h1 hsz
theorem Wy(a b:Int):aF prog 194 [.c (.d (.i .i64 a)),.c (.d (.i .i64 b))] (.c (.d (.i .i64 (max a b)))):=fun S=>by
 refine zcx [.tmp 4] func194 ntmps194 ?_;refine W1 ?_;refine S0 (fun hb h=>?_) fun hb h=>?_
 ·exact int_eq (by omega)
 ·exact int_eq (by omega)
theorem Jq:∀n:Nat,∀x:ak,SizeOf.sizeOf x<n->x.sz<=4194304->aF prog 246 [x.v] (.c (.d (.i .i64 (nL x))))
 |0=>fun x h=>by omega
 |n+1=>by
  have ih:=Jq n;intro x hn hsz S;have kV:=ak.iY x;have hts:=FC hsz;have hd1:=BX x;have hd2:=mF x;refine zcx [.tmp 2] func246 ntmps246 ?_;refine W1 ?_
  refine aZ (ι:=Nat×Nat) zmx rfl [1,3,4] (fun y=>[.c (.ptr (0,0) 0),.c (.d (.i .i64 y.2)),.c (.d (.i .i64 y.1))]) (fun y=>[.box [.d (.i .i64 x.aM),.d (.s x.fName),.d (.sl (x.fArgs.map ak.enc))]]::S)
   (fun y=>y.1<=x.fArgs.length/\nL x=max y.2 (depths (x.fArgs.drop y.1))) (fun y=>x.fArgs.length-y.1) (0,0) rfl rfl ⟨Nat.zero_le _,by simp[SH]⟩ ?_
  rintro⟨i,c⟩ ⟨p1,p2⟩;simp only at p1 p2;refine W1 ?_;refine S0 (fun hb h=>?_) fun hb h=>?_
  ·have hi:i<x.fArgs.length:=by omega
   have hsz':=wV hi hsz;rw[MB hi] at p2;have hd3:=BX x.fArgs[i];have hd4:=mF x.fArgs[i];refine W3 ?_;refine C2 (ih x.fArgs[i] (by have:=List.sizeOf_lt_of_mem (List.getElem_mem hi);omega) (by omega)) ?_;refine C2 (Wy _ _) ?_;rw[show max (c:Int) (1+(nL x.fArgs[i]:Int))=((max c (1+nL x.fArgs[i]):Nat):Int) by omega];exact dB (i+1,max c (1+nL x.fArgs[i])) (by simp only;omega) rfl rfl ⟨by simp only;omega,by simp only;omega⟩
  ·have hi:i=x.fArgs.length:=by omega
   rw[hi,List.drop_length,depths] at p2;exact int_eq (by omega)
theorem Wz(x:ak)(hsz:x.sz<=4194304):aF prog 246 [x.v] (.c (.d (.i .i64 (nL x)))):=Jq _ x (Nat.lt_succ_self _) hsz
theorem Jr:∀n:Nat,∀x:ak,SizeOf.sizeOf x<n->x.sz<=4194304->aF prog 252 [x.v] (.c (.d (.i .i64 (nL x))))
 |0=>fun x h=>by omega
 |n+1=>by
  have ih:=Jr n;intro x hn hsz S;have kV:=ak.iY x;have hts:=FC hsz;have hd1:=BX x;have hd2:=mF x;refine zcx [.tmp 2] func252 ntmps252 ?_;refine W1 ?_
  refine aZ (ι:=Nat×Nat) zmx rfl [3,7,8,9] (fun y=>[.c (.d (.i .i64 y.2)),.c (.d (.sl (x.fArgs.map ak.enc))),.c (.d (.i .i64 x.fArgs.length)),.c (.d (.i .i64 y.1))]) (fun y=>[.box [.d (.i .i64 x.aM),.d (.s x.fName),.d (.sl (x.fArgs.map ak.enc))]]::S)
   (fun y=>y.1<=x.fArgs.length/\nL x=max y.2 (depths (x.fArgs.drop y.1))) (fun y=>x.fArgs.length-y.1) (0,0) rfl rfl ⟨Nat.zero_le _,by simp[SH]⟩ ?_
  rintro⟨i,c⟩ ⟨p1,p2⟩;simp only at p1 p2;refine W1 ?_;refine S0 (fun hb h=>?_) fun hb h=>?_
  ·have hi:i<x.fArgs.length:=by omega
   have hsz':=wV hi hsz;rw[MB hi] at p2;have hd3:=BX x.fArgs[i];have hd4:=mF x.fArgs[i];refine W3 ?_;refine C2 (ih x.fArgs[i] (by have:=List.sizeOf_lt_of_mem (List.getElem_mem hi);omega) (by omega)) ?_;rw[show max (c:Int) ((nL x.fArgs[i]:Int)+1)=((max c (nL x.fArgs[i]+1):Nat):Int) by omega];exact bT 1 (by decide) (i+1,max c (nL x.fArgs[i]+1)) (by simp only;omega) rfl rfl rfl rfl ⟨by simp only;omega,by simp only;omega⟩
  ·have hi:i=x.fArgs.length:=by omega
   rw[hi,List.drop_length,depths] at p2;exact int_eq (by omega)
theorem WA(x:ak)(hsz:x.sz<=4194304):aF prog 252 [x.v] (.c (.d (.i .i64 (nL x)))):=Jr _ x (Nat.lt_succ_self _) hsz
theorem Kc:∀n:Nat,∀x:ak,SizeOf.sizeOf x<n->x.sz<=4194304->aF prog 253 [x.v] (.c (.d (.i .i64 x.cnt)))
 |0=>fun x h=>by omega
 |n+1=>by
  have ih:=Kc n;intro x hn hsz S;have kV:=ak.iY x;have hts:=FC hsz;have hd2:=mF x;refine zcx [.tmp 2] func253 ntmps253 ?_;refine W1 ?_
  refine aZ (ι:=Nat×Nat) zmx rfl [3,7,8,9] (fun y=>[.c (.d (.i .i64 y.2)),.c (.d (.sl (x.fArgs.map ak.enc))),.c (.d (.i .i64 x.fArgs.length)),.c (.d (.i .i64 y.1))]) (fun y=>[.box [.d (.i .i64 x.aM),.d (.s x.fName),.d (.sl (x.fArgs.map ak.enc))]]::S)
   (fun y=>y.1<=x.fArgs.length/\x.cnt=y.2+ak.eT (x.fArgs.drop y.1)) (fun y=>x.fArgs.length-y.1) (0,1) rfl rfl ⟨Nat.zero_le _,by simp[ak.qH]⟩ ?_
  rintro⟨i,c⟩ ⟨p1,p2⟩;simp only at p1 p2;refine W1 ?_;refine S0 (fun hb h=>?_) fun hb h=>?_
  ·have hi:i<x.fArgs.length:=by omega
   have hsz':=wV hi hsz;rw[ng hi] at p2;refine W3 ?_;refine C2 (ih x.fArgs[i] (by have:=List.sizeOf_lt_of_mem (List.getElem_mem hi);omega) (by omega)) ?_;rw[show(c:Int)+(x.fArgs[i].cnt:Int)=((c+x.fArgs[i].cnt:Nat):Int) by omega];exact bT 1 (by decide) (i+1,c+x.fArgs[i].cnt) (by simp only;omega) rfl rfl rfl rfl ⟨by simp only;omega,by simp only;omega⟩
  ·have hi:i=x.fArgs.length:=by omega
   rw[hi,List.drop_length,ak.eT] at p2;exact int_eq (by omega)
theorem YQ(x:ak)(hsz:x.sz<=4194304):aF prog 253 [x.v] (.c (.d (.i .i64 x.cnt))):=Kc _ x (Nat.lt_succ_self _) hsz
theorem Ke:∀n:Nat,(∀x:ak,SizeOf.sizeOf x<n->x.sz<=4194304->aF prog 251 [x.v] (.c (.d (.b (formed x)))))/\
 (∀xs:List ak,SizeOf.sizeOf xs<n->xs.length<=4194304->(∀t∈xs,t.sz<=4194304)->aF prog 209 [.c (.d (.sl (xs.map ak.enc))),.c (.fn 277 [])] (.c (.d (.b (!iZ xs)))))
 |0=>⟨fun x h=>by omega,fun x h=>by omega⟩
 |n+1=>by
  obtain⟨ih,uM⟩:=Ke n;refine⟨fun x hn hsz S=> ?_,fun xs hn hlen hsz S=> ?_⟩
  ·have kV:=ak.iY x;have hts:=FC hsz
   have fin:∀b,Dx x.aM x.fName x.fArgs.length=b->formed x=(b&&iZ x.fArgs):=fun b hb=>by rw[<-hb];exact zi x
   have hall:∀t∈x.fArgs,t.sz<=4194304:=fun t ht=>by
    obtain⟨i,hi,e⟩:=List.getElem_of_mem ht;rw[<-e];exact(wV hi hsz).1
   have tail:=uM x.fArgs (by omega) hts.1 hall
   have yes:Dx x.aM x.fName x.fArgs.length=true->formed x= !(!iZ x.fArgs):=fun h=>by rw[fin _ h];simp
   have no:Dx x.aM x.fName x.fArgs.length=false->formed x=false:=fun h=>by rw[fin _ h];simp
   have shut:¬((x.aM=1\/x.aM=4)/\validName x.fName=true/\x.fArgs.length=0\/x.aM=3/\validName x.fName=true/\x.fArgs.length=1\/x.aM=2/\(validName x.fName=true/\x.fArgs.length<=3\/yO x.fName=true/\x.fArgs.length=0))->V.c (.d (.b false))=V.c (.d (.b (formed x))):=fun h=>aI (no (aR h)).symm;have open_:((x.aM=1\/x.aM=4)/\validName x.fName=true/\x.fArgs.length=0\/x.aM=3/\validName x.fName=true/\x.fArgs.length=1\/x.aM=2/\(validName x.fName=true/\x.fArgs.length<=3\/yO x.fName=true/\x.fArgs.length=0))->V.c (.d (.b (!(!iZ x.fArgs))))=V.c (.d (.b (formed x))):=fun h=>aI (yes (bM h)).symm;clear yes no fin;refine zcx [.tmp 2] func251 ntmps251 ?_;refine W1 ?_
   repeat' (first
    |(refine S0 (fun hb h=>?_) fun hb h=>?_)
    |(refine bD (iy x.fName (by omega)) ?_;refine W1 ?_)
    |(refine bD (Ww x.fName) ?_;refine W1 ?_)
    |(refine bD tail ?_;refine W1 ?_))
   all_goals first
    |(refine shut (fun y=> ?_);rcases y with⟨_,_,_⟩|⟨_,_,_⟩|⟨_,⟨_,_⟩|⟨_,_⟩⟩<;>first|omega|(simp_all;done))
    |(refine open_ ?_;first
       |exact .inl ⟨by omega,by assumption,by omega⟩
       |exact .inr (.inl ⟨by omega,by assumption,by omega⟩)
       |exact .inr (.inr ⟨by omega,.inl ⟨by assumption,by omega⟩⟩)
       |exact .inr (.inr ⟨by omega,.inr ⟨by assumption,by omega⟩⟩))
  ·have hcl:∀y∈xs,aF prog 277 [y.v] (.c (.d (.b (!formed y)))):=fun y hy S=>by
    have hys:=List.sizeOf_lt_of_mem hy;refine zcx [.tmp 2] func277 ntmps277 ?_;refine W1 ?_;exact C4 (ih y (by omega) (hsz y hy))
   have hidx:aF prog 250 [.c (.d (.sl (xs.map ak.enc))),.c (.fn 277 [])] (.c (.d (.i .i64 (uE (fun y=> !formed y) xs)))):=fun S=>by
    refine zcx [.tmp 4] func250 ntmps250 ?_;refine W1 ?_
    refine aZ (ι:=Nat) zmx rfl [0,1,7,8] (fun i=>[.c (.d (.sl (xs.map ak.enc))),.c (.fn 277 []),.c (.d (.i .i64 xs.length)),.c (.d (.i .i64 i))]) (fun _=>[]::S)
     (fun i=>i<=xs.length/\∀j,∀hj:j<xs.length,j<i->formed xs[j]=true) (fun i=>xs.length-i) 0 rfl rfl ⟨Nat.zero_le _,fun j _ h=>by omega⟩ ?_
    rintro i ⟨p1,p2⟩;refine W1 ?_;refine S0 (fun hb h=>?_) fun hb h=>?_
    ·have hi:i<xs.length:=by omega
     refine W3 ?_;refine C2 (hcl xs[i] (List.getElem_mem hi)) ?_;refine S0 (fun hb h=>?_) fun hb h=>?_
     ·rw[tL hi (fun j hj hji=>by rw[p2 j hj hji];rfl) (by rw[h];rfl)]
     ·refine dB (i+1) (by omega) rfl rfl ⟨by omega,fun j hj hji=> ?_⟩;by_cases e:j=i
      ·subst e;exact h
      ·exact p2 j hj (by omega)
    ·rw[wU (fun j hj=>by rw[p2 j hj (by omega)];rfl)]
   refine zcx [.tmp 4] func209 ntmps209 ?_;refine W1 ?_;refine C2 (hidx) ?_;rw[<-Mx];exact aI vg
theorem YR(x:ak)(hsz:x.sz<=4194304):aF prog 251 [x.v] (.c (.d (.b (formed x)))):=(Ke _).1 x (Nat.lt_succ_self _) hsz
theorem yP(x:ak)(hsz:x.sz<=4194304):aF prog 211 [x.v] (.c (.d (.b (nZ x)))):=fun S=>by
 refine zcx [.tmp 2] func211 ntmps211 ?_;refine W1 ?_;refine C2 (YR x hsz) ?_;refine S0 (fun hb h=>?_) fun hb h=>?_
 ·have h1:=h;refine C2 (WA x hsz) ?_;refine S0 (fun hb h=>?_) fun hb h=>?_
  ·refine C2 (YQ x hsz) ?_;exact aI (by rw[lH];exact iO ⟨fun y=>⟨h1,by omega,by omega⟩,fun y=>by have:=y.2.2;omega⟩)
  ·exact aI (aR fun y=>by have:=y.2.1;omega).symm
 ·exact aI (aR fun y=>by rw[y.1] at h;cases h).symm
theorem Po:∀n:Nat,∀x:ak,SizeOf.sizeOf x<n->x.sz<=4194304->aF prog 247 [x.v] (.c (.d (.b (formed x))))
 |0=>fun x h=>by omega
 |n+1=>by
  have ih:=Po n;intro x hn hsz S;have kV:=ak.iY x;have hts:=FC hsz;have shut:¬((x.aM=1\/x.aM=4)/\validName x.fName=true/\x.fArgs.length=0\/x.aM=3/\validName x.fName=true/\x.fArgs.length=1\/x.aM=2/\(validName x.fName=true/\x.fArgs.length<=3\/yO x.fName=true/\x.fArgs.length=0))->V.c (.d (.b false))=V.c (.d (.b (formed x))):=fun h=>aI (by rw[zi,show Dx x.aM x.fName x.fArgs.length=false from aR h];rfl)
  have ap3:∀b:Bool,(b=true<->((x.aM=1\/x.aM=4)/\validName x.fName=true/\x.fArgs.length=0\/x.aM=3/\validName x.fName=true/\x.fArgs.length=1\/x.aM=2/\(validName x.fName=true/\x.fArgs.length<=3\/yO x.fName=true/\x.fArgs.length=0)))->b=Dx x.aM x.fName x.fArgs.length:=fun b h=>by
   rw[Bool.eq_iff_iff,h];unfold Dx;rw[Bq]
  refine zcx [.tmp 2] func247 ntmps247 ?_;refine W1 ?_;refine C2 (iA x.fName (by omega)) ?_
  repeat' (first
   |(refine S0 (fun hb h=>?_) fun hb h=>?_)
   |(refine bD (aeZ x.fName) ?_;refine W1 ?_))
  all_goals first
   |(refine shut (fun y=> ?_);rcases y with⟨_,_,_⟩|⟨_,_,_⟩|⟨_,⟨_,_⟩|⟨_,_⟩⟩<;>first|omega|(simp_all;done))
   |skip
  all_goals
   refine aZ (ι:=Nat×Bool) zmx rfl [1,3,4] (fun y=>[.c (.ptr (0,0) 0),.c (.d (.b y.2)),.c (.d (.i .i64 y.1))]) (fun y=>[.box [.d (.i .i64 x.aM),.d (.s x.fName),.d (.sl (x.fArgs.map ak.enc))]]::S)
    (fun y=>y.1<=x.fArgs.length/\(y.2&&iZ (x.fArgs.drop y.1))=formed x) (fun y=>x.fArgs.length-y.1) (0,Dx x.aM x.fName x.fArgs.length) ?_ rfl ⟨Nat.zero_le _,by rw[zi];rfl⟩ ?_
   ·simp only[List.map_cons,List.map_nil];simp -implicitDefEqProofs (disch:=omega) only[go_sem,List.cons.injEq,V.c.injEq,C.d.injEq,D.b.injEq,Int.natCast_zero];refine ap3 _ ⟨fun y=> ?_,fun y=> ?_⟩
    ·(try simp only[decide_eq_true_eq,Bool.false_eq_true] at y)<;>first
       |exact .inl ⟨by omega,by assumption,by omega⟩
       |exact .inr (.inl ⟨by omega,by assumption,by omega⟩)
       |exact .inr (.inr ⟨by omega,.inl ⟨by assumption,by omega⟩⟩)
       |exact .inr (.inr ⟨by omega,.inr ⟨by assumption,by omega⟩⟩)
    ·rcases y with⟨_,_,_⟩|⟨_,_,_⟩|⟨_,⟨_,_⟩|⟨_,_⟩⟩<;>first|omega|(simp only[decide_eq_true_eq];omega)|(simp_all;done)
   rintro⟨i,c⟩ ⟨p1,p2⟩;simp only at p1 p2;refine W1 ?_;refine S0 (fun hb h=>?_) fun hb h=>?_
   ·have hi:i<x.fArgs.length:=by omega
    have hsz':=wV hi hsz;rw[Wx hi] at p2;refine S0 (fun hb h=>?_) fun hb h=>?_
    ·refine C1 (ih x.fArgs[i] (by have:=List.sizeOf_lt_of_mem (List.getElem_mem hi);omega) (by omega)) ?_;exact dB (i+1,formed x.fArgs[i]) (by simp only;omega) rfl rfl ⟨by simp only;omega,by rw[<-p2,h];rfl⟩
    ·exact dB (i+1,false) (by simp only;omega) rfl rfl ⟨by simp only;omega,by rw[<-p2,h];rfl⟩
   ·have hi:i=x.fArgs.length:=by omega
    rw[hi,List.drop_length,iZ,Bool.and_true] at p2;rw[p2]
theorem ae1(x:ak)(hsz:x.sz<=4194304):aF prog 247 [x.v] (.c (.d (.b (formed x)))):=Po _ x (Nat.lt_succ_self _) hsz
theorem yQ(x:ak)(hsz:x.sz<=4194304):aF prog 198 [x.v] (.c (.d (.b (nZ x)))):=fun S=>by
 refine zcx [.tmp 2] func198 ntmps198 ?_;refine W1 ?_;refine C2 (ae0 x 60 (by omega) (by omega) hsz) ?_;refine S0 (fun hb h=>?_) fun hb h=>?_
 ·have h1:=(LB (l:=60) (a:=x.cnt) (by omega)).2;refine C2 (Wz x hsz) ?_;refine S0 (fun hb h=>?_) fun hb h=>?_
  ·refine C2 (ae1 x hsz) ?_;refine aI ?_
   cases hf:formed x with
   |false=>exact(aR fun y=>by rw[hf] at y;cases y.1).symm
   |true=>exact(bM ⟨hf,by omega,by omega⟩).symm
  ·exact aI (aR fun y=>by have:=y.2.1;omega).symm
 ·have h1:=Iu (l:=60) (a:=x.cnt) (by omega);exact aI (aR fun y=>by have:=y.2.2;omega).symm
theorem L9(x:bW)(hn:x.bO.length<=1073741824)(hsz:x.fType.sz<=4194304):aF prog 259 [x.v] (.c (.d (.b (validName x.bO&&nZ x.fType)))):=fun S=>by
 refine zcx [.tmp 2] func259 ntmps259 ?_;refine W1 ?_;refine C2 (iA x.bO hn) ?_;refine S0 (fun hb h=>?_) fun hb h=>?_
 ·exact C4 (yQ x.fType hsz)
 ·rfl
theorem Ma(x:bW)(hn:x.bO.length<=1073741824)(hsz:x.fType.sz<=4194304):aF prog 218 [x.v] (.c (.d (.b (validName x.bO&&nZ x.fType)))):=fun S=>by
 refine zcx [.tmp 2] func218 ntmps218 ?_;refine W1 ?_;refine C2 (iy x.bO hn) ?_;refine S0 (fun hb h=>?_) fun hb h=>?_
 ·exact C4 (yP x.fType hsz)
 ·rfl
mutual
def qK:ak->List ak
 | .mk k n a=>.mk k n a::pz a
def pz:List ak->List ak
 |[]=>[]
 |t::ts=>qK t++pz ts
end
theorem BZ(t:ak):qK t=t::pz t.fArgs:=by cases t;rw[qK];rfl
theorem Bu{ts:List ak}{i:Nat}(hi:i<ts.length):pz (ts.drop i)=qK ts[i]++pz (ts.drop (i+1)):=by rw[List.drop_eq_getElem_cons hi,pz]
mutual
theorem Kg:∀t:ak,(qK t).length=t.cnt
 | .mk k n a=>by rw[qK,List.length_cons,ak.cnt,Pp a];omega
theorem Pp:∀ts:List ak,(pz ts).length=ak.eT ts
 |[]=>rfl
 |t::ts=>by rw[pz,List.length_append,ak.eT,Kg t,Pp ts]
end
def wB(out:List (List UInt8))(u:ak):List (List UInt8):=if u.aM=1/\u.fName∉out then out++[u.fName] else out
def jE(out:List (List UInt8))(t:ak):List (List UInt8):=(qK t).foldl wB out
def vJ(out:List (List UInt8))(ts:List ak):List (List UInt8):=(pz ts).foldl wB out
theorem Nk(out:List (List UInt8))(u:ak):(wB out u).length<=out.length+1:=by
 unfold wB
 split<;>simp
theorem SL:∀(us:List ak)(out:List (List UInt8)),(us.foldl wB out).length<=out.length+us.length
 |[],out=>by simp
 |u::us,out=>by
  have h1:=Nk out u;have h2:=SL us (wB out u);rw[List.foldl_cons,List.length_cons];omega
theorem Ca(t:ak)(out:List (List UInt8)):(jE out t).length<=out.length+t.cnt:=by
 have:=SL (qK t) out;rw[Kg] at this;exact this
theorem air(out:List (List UInt8))(t:ak):jE out t=vJ (wB out t) t.fArgs:=by
 unfold jE vJ;rw[BZ,List.foldl_cons]
theorem MC{ts:List ak}{i:Nat}(hi:i<ts.length)(out:List (List UInt8)):vJ out (ts.drop i)=vJ (jE out ts[i]) (ts.drop (i+1)):=by
 unfold vJ jE;rw[Bu hi,List.foldl_append]
def r9(t:ak):Bool:=(qK t).any fun u=>decide (u.aM=3)
def wW(ts:List ak):Bool:=(pz ts).any fun u=>decide (u.aM=3)
theorem IB(t:ak):r9 t=(decide (t.aM=3)||wW t.fArgs):=by
 unfold r9 wW;rw[BZ,List.any_cons]
theorem Ui{ts:List ak}{i:Nat}(hi:i<ts.length):wW (ts.drop i)=(r9 ts[i]||wW (ts.drop (i+1))):=by
 unfold wW r9;rw[Bu hi,List.any_append]
theorem WB(us:List ak):∀b:Bool,us.foldl (fun b u=>b||decide (u.aM=3)) b=(b||us.any fun u=>decide (u.aM=3)):=by
 induction us with
 |nil=>intro b;simp
 |cons u us ih=>intro b;rw[List.foldl_cons,ih,List.any_cons,Bool.or_assoc]
def Pq(v:List UInt8)(u:ak):Bool:=decide (u.aM=1/\u.fName=v)
def rT(v:List UInt8)(t:ak):Nat:=(qK t).countP (Pq v)
def xL(v:List UInt8)(ts:List ak):Nat:=(pz ts).countP (Pq v)
theorem ae2(v:List UInt8)(t:ak):rT v t=(if Pq v t then 1 else 0)+xL v t.fArgs:=by
 unfold rT xL;rw[BZ,List.countP_cons];omega
theorem WC{v:List UInt8}{ts:List ak}{i:Nat}(hi:i<ts.length):xL v (ts.drop i)=rT v ts[i]+xL v (ts.drop (i+1)):=by
 unfold xL rT;rw[Bu hi,List.countP_append]
theorem ae3(v:List UInt8)(t:ak):rT v t<=t.cnt:=by
 unfold rT;rw[<-Kg];exact List.countP_le_length
def occurs(v:List UInt8)(t:ak):Bool:=decide (0<rT v t)
theorem DW{x:ak}{i:Nat}(hi:i<x.fArgs.length)(h:x.sz<=4194304):x.fArgs[i].sz<=4194304/\x.fArgs.length<=4194304/\x.fName.length<=4194304:=by
 have hx:x.fArgs[i].sz<=aP (x.fArgs.map ak.enc):=dz (List.mem_map_of_mem (List.getElem_mem hi));simp only[ak.sz,ak.aJ,bQ,D.sz,List.length_map] at h;omega
theorem Kh{x:ak}(h:x.sz<=4194304):x.fArgs.length<=4194304/\x.fName.length<=4194304:=by
 simp only[ak.sz,ak.aJ,bQ,D.sz,List.length_map] at h;omega
theorem Ki:∀n:Nat,∀t:ak,SizeOf.sizeOf t<n->t.sz<=4194304->∀(g:Nat)(caps:List (Key×Nat))(α:Type)(st:α->Store)(I:Nat->α->Prop)(f:α->ak->α)(hf:Iq prog g caps st I f ak.v (fun u=>u.sz<=4194304))(m:Nat)(a:α),I (m+t.cnt) a->
 I m ((qK t).foldl f a)/\bX prog 212 [t.v,.c (.fn g caps)] (st a) (fun r S'=>r=.fF []/\S'=st ((qK t).foldl f a))
 |0=>fun t h=>by omega
 |n+1=>by
  have ih:=Ki n;intro t hn hsz g caps α st I f hf m a ha;have kV:=ak.iY t;have hts:=Kh hsz;rw[ak.qH,show m+(1+ak.eT t.fArgs)=(m+ak.eT t.fArgs)+1 by omega] at ha;have h1:=hf _ a t ha hsz
  have hI:∀(ts:List ak),SizeOf.sizeOf ts<n->(∀x∈ts,x.sz<=4194304)->∀a,I (m+ak.eT ts) a->I m ((pz ts).foldl f a):=by
   intro ts
   induction ts with
   |nil=>intro _ _ a ha;exact ha
   |cons x xs ihx=>
    intro hs hz a ha;simp only[List.cons.sizeOf_spec] at hs;rw[pz,List.foldl_append];rw[ak.eT,show m+(x.cnt+ak.eT xs)=(m+ak.eT xs)+x.cnt by omega] at ha;exact ihx (by omega) (fun y hy=>hz y (by simp[hy])) _ (ih x (by omega) (hz x (by simp)) g caps α st I f hf _ a ha).1
  have hall:∀x∈t.fArgs,x.sz<=4194304:=fun x hx=>by
   obtain⟨i,hi,e⟩:=List.getElem_of_mem hx;rw[<-e];exact(DW hi hsz).1
  refine⟨by rw[BZ,List.foldl_cons];exact hI t.fArgs (by omega) hall _ h1.1,?_⟩;refine zcx [] func212 ntmps212 ?_;refine W1 ?_;refine aW rfl (h1.2 [_]) ?_;refine W1 ?_
  refine aZ (ι:=Nat×α) zmx rfl [1,10,11,12] (fun y=>[.c (.fn g (jL 1 caps)),.c (.d (.sl (t.fArgs.map ak.enc))),.c (.d (.i .i64 t.fArgs.length)),.c (.d (.i .i64 y.1))]) (fun y=>[.box [.d (.i .i64 t.aM),.d (.s t.fName),.d (.sl (t.fArgs.map ak.enc))]]::st y.2)
   (fun y=>y.1<=t.fArgs.length/\I (m+ak.eT (t.fArgs.drop y.1)) y.2/\(pz (t.fArgs.drop y.1)).foldl f y.2=(qK t).foldl f a) (fun y=>t.fArgs.length-y.1) (0,f a t) rfl rfl ⟨Nat.zero_le _,h1.1,by rw[BZ,List.foldl_cons];rfl⟩ ?_
  rintro⟨i,b⟩ ⟨p1,p2,p3⟩;simp only at p1 p2 p3;refine W1 ?_;refine S0 (fun hb h=>?_) fun hb h=>?_
  ·have hi:i<t.fArgs.length:=by omega
   have hs:=List.sizeOf_lt_of_mem (List.getElem_mem hi);rw[Bu hi,List.foldl_append] at p3;rw[List.drop_eq_getElem_cons hi,ak.eT,show m+(t.fArgs[i].cnt+ak.eT (t.fArgs.drop (i+1)))=(m+ak.eT (t.fArgs.drop (i+1)))+t.fArgs[i].cnt by omega] at p2;have h2:=(ih t.fArgs[i] (by omega) (DW hi hsz).1 g caps α st I f hf _ b p2).1;refine W3 ?_;refine aW rfl (((ih t.fArgs[i] (by omega) (DW hi hsz).1 g (jL 1 caps) α (fun a=>[.box [.d (.i .i64 t.aM),.d (.s t.fName),.d (.sl (t.fArgs.map ak.enc))],.box [.d (.i .i64 t.fArgs[i].aM),.d (.s t.fArgs[i].fName),.d (.sl (t.fArgs[i].fArgs.map ak.enc))]]::st a) I f (hf.push _) _ b p2)).2) ?_;refine W1 ?_;exact bT 1 (by decide) (i+1,(qK t.fArgs[i]).foldl f b) (by simp only;omega) rfl rfl (by simp only[gT,iN,List.all_cons,List.all_nil,V.refs,C.refs,V9,Bool.and_true]) rfl ⟨by simp only;omega,h2,p3⟩
  ·have hi:i=t.fArgs.length:=by omega
   rw[hi,List.drop_length,pz,List.foldl_nil] at p3;rw[p3]
theorem ME{t:ak}(hsz:t.sz<=4194304){g:Nat}{caps:List (Key×Nat)}{α:Type}{st:α->Store}{I:Nat->α->Prop}{f:α->ak->α}(hf:Iq prog g caps st I f ak.v (fun u=>u.sz<=4194304))(m:Nat)(a:α)(ha:I (m+t.cnt) a):
 I m ((qK t).foldl f a)/\bX prog 212 [t.v,.c (.fn g caps)] (st a) (fun r S'=>r=.fF []/\S'=st ((qK t).foldl f a)):=Ki _ t (Nat.lt_succ_self _) hsz g caps α st I f hf m a ha
theorem Mc(rest:List Ab.Obj)(S:Store):Iq prog 254 [((0,0),0)] (fun out:List (List UInt8)=>(.box [.bI (0,1) (out.map encS)]:: .tok 1 (out.map encS)::rest)::S) (fun n out=>out.length+n<=1073741824) wB ak.v (fun u=>u.sz<=4194304):=by
 intro n out u hI hu;refine⟨by have:=Nk out u;omega,fun F=> ?_⟩;have hts:=Kh hu;refine zcx [] func254 ntmps254 ?_;refine W1 ?_;refine S0 (fun hb h=>?_) fun hb h=>?_
 ·have h1:=h;refine C2 (rR out u.fName (by omega)) ?_;refine S0 (fun hb h=>?_) fun hb h=>?_
  ·refine W3 ?_;have ha:wB out u=out++[u.fName]:=if_pos ⟨h1,h⟩;rw[ha];simp[encS]
  ·have ha:wB out u=out:=if_neg fun x=>x.2 h;rw[ha]
 ·have ha:wB out u=out:=if_neg fun x=>h x.1;rw[ha]
theorem Rq(ts:List ak)(hl:ts.length<=4194304)(hz:∀t∈ts,t.sz<=4194304)(hc:ak.eT ts<=1073741823):aF prog 215 [.c (.d (.sl (ts.map ak.enc)))] (.c (.d (.sl ((vJ [] ts).map encS)))):=fun S=>by
 refine zcx [.tmp 2] func215 ntmps215 ?_;refine W1 ?_;refine W3 ?_;refine sJ 0 0 1 [] [.bF []] rfl rfl (by simp) ?_
 refine aZ (ι:=Nat×List (List UInt8)) zmx rfl [3,7,8,9] (fun y=>[.c (.ptr (0,0) 0),.c (.d (.sl (ts.map ak.enc))),.c (.d (.i .i64 ts.length)),.c (.d (.i .i64 y.1))]) (fun y=>[.box [.bI (0,1) (y.2.map encS)],.tok 1 (y.2.map encS)]::S)
  (fun y=>y.1<=ts.length/\y.2.length+ak.eT (ts.drop y.1)<=1073741824/\vJ y.2 (ts.drop y.1)=vJ [] ts) (fun y=>ts.length-y.1) (0,[]) rfl rfl ⟨Nat.zero_le _,by simp only[List.drop_zero,List.length_nil];omega,rfl⟩ ?_
 rintro⟨i,out⟩ ⟨p1,p2,p3⟩;simp only at p1 p2 p3;refine W1 ?_;refine S0 (fun hb h=>?_) fun hb h=>?_
 ·have hi:i<ts.length:=by omega
  rw[MC hi] at p3;rw[List.drop_eq_getElem_cons hi,ak.eT] at p2;have hlen:=Ca ts[i] out;refine W3 ?_;refine aW rfl (ME (hz _ (List.getElem_mem hi)) (Mc [Ab.Obj.box [.d (.i .i64 ts[i].aM),.d (.s ts[i].fName),.d (.sl (ts[i].fArgs.map ak.enc))]] S) (ak.eT (ts.drop (i+1))) out (by omega)).2 ?_;refine W1 ?_;exact bT 2 (by decide) (i+1,jE out ts[i]) (by simp only;omega) rfl rfl rfl rfl ⟨by simp only;omega,by simp only;omega,p3⟩
 ·have hi:i=ts.length:=by omega
  rw[hi,List.drop_length] at p3;rw[<-p3];rfl
theorem z8(t:ak)(hsz:t.sz<=4194304):aF prog 148 [t.v] (.c (.d (.sl ((jE [] t).map encS)))):=fun S=>by
 have hc:=mF t;have h0:=Rq [t] (by simp) (by simpa using hsz) (by simp[ak.eT];omega);simp only[List.map_cons,List.map_nil,ak.aJ] at h0;refine zcx [.tmp 2] func148 ntmps148 ?_;refine W1 ?_;refine W3 ?_;refine bD h0 ?_;refine W1 ?_;rw[show vJ [] [t]=jE [] t by simp[vJ,jE,pz]]
theorem Pt:∀n:Nat,∀t:ak,SizeOf.sizeOf t<n->t.sz<=4194304->∀(out:List (List UInt8))(l j:Nat)(S:Store),bE S (l,j)=some (.tok 1 (out.map encS))->out.length+t.cnt<=1073741824->
 bX prog 280 [t.v,.c (.bI (l,j) (out.map encS))] S (fun r S'=>r=.c (.bI (l,j) ((jE out t).map encS))/\S'=bG S (l,j) (.tok 1 ((jE out t).map encS)))
 |0=>fun t h=>by omega
 |n+1=>by
  have ih:=Pt n;intro t hn hsz out l j S hk hc;have kV:=ak.iY t;have hts:=Kh hsz;have hcn:=ak.qH t;have Pv:∀x:Ab.Obj,bE (bG S (l,j) x) (l,j)=some x:=fun x=>dL _ _ _ _ hk;have hS0:bG S (l,j) (.tok 1 (out.map encS))=S:=Fu _ _ hk;have fin:jE out t=vJ (wB out t) t.fArgs:=air out t;have hal:=Nk out t
  have e0:(out++[t.fName]).map encS=out.map encS++[[D.s t.fName]]:=by simp[encS]
  refine zcx [.tmp 4] func280 ntmps280 ?_;simp -implicitDefEqProofs (disch:=omega) only[go_sem,hk]
  repeat' (first
   |(with_reducible refine dS (fun hb=> ?_) (fun hb=> ?_)<;>have h:=hb<;>(try simp only[wf_preprocess] at h)<;>simp -implicitDefEqProofs (disch:=omega) only[go_sem,hb,hk]<;>refine W3 ?_)
   |(refine bD (vk out t.fName (by omega)) ?_;simp -implicitDefEqProofs (disch:=omega) only[go_sem,hk];refine W3 ?_))
  all_goals first
   |(have ha:wB out t=out++[t.fName]:=if_pos ⟨by assumption,by assumption⟩)
   |(have ha:wB out t=out:=if_neg (fun x=>by have:=x.1;have:=x.2;contradiction))
  all_goals
   refine aZ (ι:=Nat×List (List UInt8)) zmx rfl [1,2,5] (fun y=>[.c (.bI (1+l,j) (y.2.map encS)),.c (.ptr (0,0) 0),.c (.d (.i .i64 y.1))]) (fun y=>[.box [.d (.i .i64 t.aM),.d (.s t.fName),.d (.sl (t.fArgs.map ak.enc))]]::bG S (l,j) (.tok 1 (y.2.map encS)))
    (fun y=>y.1<=t.fArgs.length/\y.2.length+ak.eT (t.fArgs.drop y.1)<=1073741824/\vJ y.2 (t.fArgs.drop y.1)=jE out t) (fun y=>t.fArgs.length-y.1) (0,wB out t) (by first|(rw[ha,e0];rfl)|(rw[ha];rfl)) (by first|(simp only[ha,e0];done)|(simp only[ha,hS0];done)) ⟨Nat.zero_le _,by simp only[List.drop_zero];omega,by rw[fin];rfl⟩ ?_
   rintro⟨i,b⟩ ⟨p1,p2,p3⟩;simp only at p1 p2 p3;refine W1 ?_;refine S0 (fun hb h=>?_) fun hb h=>?_
   ·have hi:i<t.fArgs.length:=by omega
    have hs:=List.sizeOf_lt_of_mem (List.getElem_mem hi);rw[MC hi] at p3;rw[List.drop_eq_getElem_cons hi,ak.eT] at p2;have hlen:=Ca t.fArgs[i] b;refine W3 ?_;refine aW rfl (ih t.fArgs[i] (by omega) (DW hi hsz).1 b (1+l) j _ (by rw[aV];exact Pv _) (by omega)) ?_;simp -implicitDefEqProofs (disch:=omega) only[go_sem,dJ];exact dB (i+1,jE b t.fArgs[i]) (by simp only;omega) rfl rfl ⟨by simp only;omega,by simp only;omega,p3⟩
   ·have hi:i=t.fArgs.length:=by omega
    rw[hi,List.drop_length] at p3;rw[<-p3];exact⟨rfl,rfl⟩
theorem Pw(t:ak)(hsz:t.sz<=4194304):aF prog 258 [t.v] (.c (.d (.sl ((jE [] t).map encS)))):=fun S=>by
 have hc:=mF t
 have h0:∀S,bX prog 280 [t.v,.c (.bF [])] S (fun r S'=>r=.c (.d (.sl ((jE [] t).map encS)))/\S'=S):=fun S=>by
  refine bX.ahS 1 (es:=[]) (bg:=1) rfl (by simp) (Pt _ t (Nat.lt_succ_self _) hsz [] 0 0 ([.tok 1 []]::S) rfl (by simp;omega)) ?_;rintro r fr S' ⟨rfl,h2⟩;injection h2 with h2 h3;exact⟨_,rfl,rfl,h3⟩
 refine zcx [.tmp 2] func258 ntmps258 ?_;refine W1 ?_;refine W3 ?_;refine cK [true,true] rfl (h0 _) ?_;exact Z1
theorem FD:∀n:Nat,∀t:ak,SizeOf.sizeOf t<n->t.sz<=4194304->aF prog 223 [t.v] (.c (.d (.b (r9 t))))
 |0=>fun t h=>by omega
 |n+1=>by
  have ih:=FD n;intro t hn hsz S;have kV:=ak.iY t;have hts:=Kh hsz;refine zcx [.tmp 2] func223 ntmps223 ?_;refine W1 ?_
  refine aZ (ι:=Nat) zmx rfl [1,3] (fun i=>[.c (.ptr (0,0) 0),.c (.d (.i .i64 i))]) (fun _=>[.box [.d (.i .i64 t.aM),.d (.s t.fName),.d (.sl (t.fArgs.map ak.enc))]]::S)
   (fun i=>i<=t.fArgs.length/\wW (t.fArgs.drop i)=wW t.fArgs) (fun i=>t.fArgs.length-i) 0 rfl rfl ⟨Nat.zero_le _,rfl⟩ ?_
  rintro i ⟨p1,p2⟩;refine W1 ?_;refine S0 (fun hb h=>?_) fun hb h=>?_
  ·have hi:i<t.fArgs.length:=by omega
   rw[Ui hi] at p2;refine W3 ?_;refine C2 (ih t.fArgs[i] (by have:=List.sizeOf_lt_of_mem (List.getElem_mem hi);omega) (DW hi hsz).1) ?_;refine S0 (fun hb h=>?_) fun hb h=>?_
   ·rw[IB,<-p2,h];simp
   ·exact dB (i+1) (by omega) rfl rfl ⟨by omega,by rw[<-p2,h];rfl⟩
  ·have hi:i=t.fArgs.length:=by omega
   rw[hi,List.drop_length] at p2;rw[IB,<-p2];exact aI (by simp[wW,pz])
theorem GQ(t:ak)(hsz:t.sz<=4194304):aF prog 223 [t.v] (.c (.d (.b (r9 t)))):=FD _ t (Nat.lt_succ_self _) hsz
theorem Uj(rest:List Ab.Obj)(cs:List C)(S:Store):Iq prog 213 [((0,1),0)] (fun b:Bool=>(.box cs:: .box [.d (.b b)]::rest)::S) (fun _ _=>True) (fun b u=>b||decide (u.aM=3)) ak.v (fun u=>u.sz<=4194304):=by
 intro n b u _ hu;refine⟨trivial,fun F=> ?_⟩;refine zcx [] func213 ntmps213 ?_;refine W1 ?_
 cases b with
 |true=>
  refine W1 ?_;rfl
 |false=>
  refine W1 ?_;rfl
theorem GR(t:ak)(hsz:t.sz<=4194304):aF prog 146 [t.v] (.c (.d (.b (r9 t)))):=fun S=>by
 refine zcx [.tmp 2] func146 ntmps146 ?_;refine W1 ?_;refine W3 ?_;refine aW rfl (ME hsz (Uj [] [.d (.i .i64 t.aM),.d (.s t.fName),.d (.sl (t.fArgs.map ak.enc))] S) 0 false trivial).2 ?_;refine W1 ?_;rw[WB];rfl
theorem Nl(g:Nat)(xs ys:List ay)(hl:xs.length<=1073741824)(hg:∀x∈xs,∀y,aF prog g [x.v,y.v] (.c (.d (.b (dec (x=y)))))):
 aF prog 272 [.c (.d (.sl (xs.map ay.enc))),.c (.d (.sl (ys.map ay.enc))),.c (.fn g [])] (.c (.d (.b (dec (xs=ys))))):=fun S=>by
 refine zcx [.tmp 6] func272 ntmps272 ?_;refine W1 ?_;refine S0 (fun hb h=>?_) fun hb h=>?_
 ·exact aI (aR (fun e=>h (by rw[e]))).symm
 have hl':xs.length=ys.length:=by omega
 refine aZ (ι:=Nat) zmx rfl [1,2,15,16,17] (fun y=>[.c (.d (.sl (ys.map ay.enc))),.c (.fn g []),.c (.d (.sl (xs.map ay.enc))),.c (.d (.i .i64 xs.length)),.c (.d (.i .i64 y))]) (fun y=>[]::S)
  (fun i=>i<=xs.length/\∀j,j<i->xs[j]? =ys[j]?) (fun y=>xs.length-y) 0 rfl rfl ⟨Nat.zero_le _,fun j h=>by omega⟩ ?_
 rintro i ⟨p1,p2⟩;refine W1 ?_;refine S0 (fun hb h=>?_) fun hb h=>?_
 ·have hi:i<xs.length:=by omega
  have hi':i<ys.length:=by omega
  refine W3 ?_;refine C1 (hg xs[i] (List.getElem_mem hi) ys[i]) ?_;refine S0 (fun hb h=>?_) fun hb h=>?_
  ·exact aI (aR (fun e=>h (by simp only[e]))).symm
  refine bT 0 (by decide) (i+1) (by omega) rfl rfl rfl rfl ⟨by omega,fun j hj=> ?_⟩;by_cases e:j=i
  ·subst e;rw[List.getElem?_eq_getElem hi,List.getElem?_eq_getElem hi',h]
  ·exact p2 j (by omega)
 ·have hi:i=xs.length:=by omega
  refine aI (bM (List.ext_getElem? fun j=> ?_)).symm;by_cases hj:j<i
  ·exact p2 j hj
  ·rw[List.getElem?_eq_none (by omega),List.getElem?_eq_none (by omega)]
theorem Px(g:Nat)(xs ys:List bq)(hl:xs.length<=1073741824)(hg:∀x∈xs,∀y,aF prog g [x.v,y.v] (.c (.d (.b (dec (x=y)))))):
 aF prog 273 [.c (.d (.sl (xs.map bq.enc))),.c (.d (.sl (ys.map bq.enc))),.c (.fn g [])] (.c (.d (.b (dec (xs=ys))))):=fun S=>by
 refine zcx [.tmp 6] func273 ntmps273 ?_;refine W1 ?_;refine S0 (fun hb h=>?_) fun hb h=>?_
 ·exact aI (aR (fun e=>h (by rw[e]))).symm
 have hl':xs.length=ys.length:=by omega
 refine aZ (ι:=Nat) zmx rfl [1,2,15,16,17] (fun y=>[.c (.d (.sl (ys.map bq.enc))),.c (.fn g []),.c (.d (.sl (xs.map bq.enc))),.c (.d (.i .i64 xs.length)),.c (.d (.i .i64 y))]) (fun y=>[]::S)
  (fun i=>i<=xs.length/\∀j,j<i->xs[j]? =ys[j]?) (fun y=>xs.length-y) 0 rfl rfl ⟨Nat.zero_le _,fun j h=>by omega⟩ ?_
 rintro i ⟨p1,p2⟩;refine W1 ?_;refine S0 (fun hb h=>?_) fun hb h=>?_
 ·have hi:i<xs.length:=by omega
  have hi':i<ys.length:=by omega
  refine W3 ?_;refine C1 (hg xs[i] (List.getElem_mem hi) ys[i]) ?_;refine S0 (fun hb h=>?_) fun hb h=>?_
  ·exact aI (aR (fun e=>h (by simp only[e]))).symm
  refine bT 0 (by decide) (i+1) (by omega) rfl rfl rfl rfl ⟨by omega,fun j hj=> ?_⟩;by_cases e:j=i
  ·subst e;rw[List.getElem?_eq_getElem hi,List.getElem?_eq_getElem hi',h]
  ·exact p2 j (by omega)
 ·have hi:i=xs.length:=by omega
  refine aI (bM (List.ext_getElem? fun j=> ?_)).symm;by_cases hj:j<i
  ·exact p2 j hj
  ·rw[List.getElem?_eq_none (by omega),List.getElem?_eq_none (by omega)]
theorem Nn(g:Nat)(caps:List (Key×Nat))(S:Store)(xs:List ak)(p:ak->Bool)(hl:xs.length<=1073741824)(hp:∀x∈xs,oO prog g caps S [x.v] (.c (.d (.b (p x))))):
 bX prog 250 [.c (.d (.sl (xs.map ak.enc))),.c (.fn g caps)] S (fun r S'=>r=.c (.d (.i .i64 (uE p xs)))/\S'=S):=by
 refine zcx [.tmp 4] func250 ntmps250 ?_;refine W1 ?_
 refine aZ (ι:=Nat) zmx rfl [0,1,7,8] (fun i=>[.c (.d (.sl (xs.map ak.enc))),.c (.fn g (jL 1 caps)),.c (.d (.i .i64 xs.length)),.c (.d (.i .i64 i))]) (fun _=>[]::S)
  (fun i=>i<=xs.length/\∀j,∀hj:j<xs.length,j<i->p xs[j]=false) (fun i=>xs.length-i) 0 rfl rfl ⟨Nat.zero_le _,fun j _ h=>by omega⟩ ?_
 rintro i ⟨p1,p2⟩;refine W1 ?_;refine S0 (fun hb h=>?_) fun hb h=>?_
 ·have hi:i<xs.length:=by omega
  refine W3 ?_;refine aW rfl (hp xs[i] (List.getElem_mem hi) [_]) ?_;refine W1 ?_;refine S0 (fun hb h=>?_) fun hb h=>?_
  ·rw[tL hi p2 h]
  ·refine dB (i+1) (by omega) rfl rfl ⟨by omega,fun j hj hji=> ?_⟩;by_cases e:j=i
   ·subst e;exact h
   ·exact p2 j hj (by omega)
 ·rw[wU (fun j hj=>p2 j hj (by omega))]
theorem JC(g:Nat)(caps:List (Key×Nat))(S:Store)(xs:List ak)(p:ak->Bool)(hl:xs.length<=1073741824)(hp:∀x∈xs,oO prog g caps S [x.v] (.c (.d (.b (p x))))):
 bX prog 209 [.c (.d (.sl (xs.map ak.enc))),.c (.fn g caps)] S (fun r S'=>r=.c (.d (.b (xs.any p)))/\S'=S):=by
 refine zcx [.tmp 4] func209 ntmps209 ?_;refine W1 ?_;refine aW rfl (Nn g (jL 1 caps) _ xs p hl fun x hx=>(hp x hx).push _) ?_;refine W1 ?_;exact aI vg
theorem Np(g:Nat)(caps:List (Key×Nat))(S:Store)(xs:List ay)(p:ay->Bool)(hl:xs.length<=1073741824)(hp:∀x∈xs,oO prog g caps S [x.v] (.c (.d (.b (p x))))):
 bX prog 242 [.c (.d (.sl (xs.map ay.enc))),.c (.fn g caps)] S (fun r S'=>r=.c (.d (.i .i64 (uE p xs)))/\S'=S):=by
 refine zcx [.tmp 4] func242 ntmps242 ?_;refine W1 ?_
 refine aZ (ι:=Nat) zmx rfl [0,1,7,8] (fun i=>[.c (.d (.sl (xs.map ay.enc))),.c (.fn g (jL 1 caps)),.c (.d (.i .i64 xs.length)),.c (.d (.i .i64 i))]) (fun _=>[]::S)
  (fun i=>i<=xs.length/\∀j,∀hj:j<xs.length,j<i->p xs[j]=false) (fun i=>xs.length-i) 0 rfl rfl ⟨Nat.zero_le _,fun j _ h=>by omega⟩ ?_
 rintro i ⟨p1,p2⟩;refine W1 ?_;refine S0 (fun hb h=>?_) fun hb h=>?_
 ·have hi:i<xs.length:=by omega
  refine W3 ?_;refine aW rfl (hp xs[i] (List.getElem_mem hi) [_]) ?_;refine W1 ?_;refine S0 (fun hb h=>?_) fun hb h=>?_
  ·rw[tL hi p2 h]
  ·refine dB (i+1) (by omega) rfl rfl ⟨by omega,fun j hj hji=> ?_⟩;by_cases e:j=i
   ·subst e;exact h
   ·exact p2 j hj (by omega)
 ·rw[wU (fun j hj=>p2 j hj (by omega))]
theorem JD(g:Nat)(caps:List (Key×Nat))(S:Store)(xs:List ay)(p:ay->Bool)(hl:xs.length<=1073741824)(hp:∀x∈xs,oO prog g caps S [x.v] (.c (.d (.b (p x))))):
 bX prog 186 [.c (.d (.sl (xs.map ay.enc))),.c (.fn g caps)] S (fun r S'=>r=.c (.d (.b (xs.any p)))/\S'=S):=by
 refine zcx [.tmp 4] func186 ntmps186 ?_;refine W1 ?_;refine aW rfl (Np g (jL 1 caps) _ xs p hl fun x hx=>(hp x hx).push _) ?_;refine W1 ?_;exact aI vg
theorem Py(g:Nat)(caps:List (Key×Nat))(S:Store)(xs:List bq)(p:bq->Bool)(hl:xs.length<=1073741824)(hp:∀x∈xs,oO prog g caps S [x.v] (.c (.d (.b (p x))))):
 bX prog 243 [.c (.d (.sl (xs.map bq.enc))),.c (.fn g caps)] S (fun r S'=>r=.c (.d (.i .i64 (uE p xs)))/\S'=S):=by
 refine zcx [.tmp 4] func243 ntmps243 ?_;refine W1 ?_
 refine aZ (ι:=Nat) zmx rfl [0,1,7,8] (fun i=>[.c (.d (.sl (xs.map bq.enc))),.c (.fn g (jL 1 caps)),.c (.d (.i .i64 xs.length)),.c (.d (.i .i64 i))]) (fun _=>[]::S)
  (fun i=>i<=xs.length/\∀j,∀hj:j<xs.length,j<i->p xs[j]=false) (fun i=>xs.length-i) 0 rfl rfl ⟨Nat.zero_le _,fun j _ h=>by omega⟩ ?_
 rintro i ⟨p1,p2⟩;refine W1 ?_;refine S0 (fun hb h=>?_) fun hb h=>?_
 ·have hi:i<xs.length:=by omega
  refine W3 ?_;refine aW rfl (hp xs[i] (List.getElem_mem hi) [_]) ?_;refine W1 ?_;refine S0 (fun hb h=>?_) fun hb h=>?_
  ·rw[tL hi p2 h]
  ·refine dB (i+1) (by omega) rfl rfl ⟨by omega,fun j hj hji=> ?_⟩;by_cases e:j=i
   ·subst e;exact h
   ·exact p2 j hj (by omega)
 ·rw[wU (fun j hj=>p2 j hj (by omega))]
theorem Kj(g:Nat)(caps:List (Key×Nat))(S:Store)(xs:List bq)(p:bq->Bool)(hl:xs.length<=1073741824)(hp:∀x∈xs,oO prog g caps S [x.v] (.c (.d (.b (p x))))):
 bX prog 188 [.c (.d (.sl (xs.map bq.enc))),.c (.fn g caps)] S (fun r S'=>r=.c (.d (.b (xs.any p)))/\S'=S):=by
 refine zcx [.tmp 4] func188 ntmps188 ?_;refine W1 ?_;refine aW rfl (Py g (jL 1 caps) _ xs p hl fun x hx=>(hp x hx).push _) ?_;refine W1 ?_;exact aI vg
theorem Me(g:Nat)(caps:List (Key×Nat))(S:Store)(xs:List bW)(p:bW->Bool)(hl:xs.length<=1073741824)(hp:∀x∈xs,oO prog g caps S [x.v] (.c (.d (.b (p x))))):
 bX prog 255 [.c (.d (.sl (xs.map bW.enc))),.c (.fn g caps)] S (fun r S'=>r=.c (.d (.i .i64 (uE p xs)))/\S'=S):=by
 refine zcx [.tmp 4] func255 ntmps255 ?_;refine W1 ?_
 refine aZ (ι:=Nat) zmx rfl [0,1,7,8] (fun i=>[.c (.d (.sl (xs.map bW.enc))),.c (.fn g (jL 1 caps)),.c (.d (.i .i64 xs.length)),.c (.d (.i .i64 i))]) (fun _=>[]::S)
  (fun i=>i<=xs.length/\∀j,∀hj:j<xs.length,j<i->p xs[j]=false) (fun i=>xs.length-i) 0 rfl rfl ⟨Nat.zero_le _,fun j _ h=>by omega⟩ ?_
 rintro i ⟨p1,p2⟩;refine W1 ?_;refine S0 (fun hb h=>?_) fun hb h=>?_
 ·have hi:i<xs.length:=by omega
  refine W3 ?_;refine aW rfl (hp xs[i] (List.getElem_mem hi) [_]) ?_;refine W1 ?_;refine S0 (fun hb h=>?_) fun hb h=>?_
  ·rw[tL hi p2 h]
  ·refine dB (i+1) (by omega) rfl rfl ⟨by omega,fun j hj hji=> ?_⟩;by_cases e:j=i
   ·subst e;exact h
   ·exact p2 j hj (by omega)
 ·rw[wU (fun j hj=>p2 j hj (by omega))]
theorem IC(g:Nat)(caps:List (Key×Nat))(S:Store)(xs:List bW)(p:bW->Bool)(hl:xs.length<=1073741824)(hp:∀x∈xs,oO prog g caps S [x.v] (.c (.d (.b (p x))))):
 bX prog 216 [.c (.d (.sl (xs.map bW.enc))),.c (.fn g caps)] S (fun r S'=>r=.c (.d (.b (xs.any p)))/\S'=S):=by
 refine zcx [.tmp 4] func216 ntmps216 ?_;refine W1 ?_;refine aW rfl (Me g (jL 1 caps) _ xs p hl fun x hx=>(hp x hx).push _) ?_;refine W1 ?_;exact aI vg
theorem Kk(g:Nat)(caps:List (Key×Nat))(S:Store)(xs:List (List UInt8))(p:(List UInt8)->Bool)(hl:xs.length<=1073741824)(hp:∀x∈xs,oO prog g caps S [.c (.d (.s x))] (.c (.d (.b (p x))))):
 bX prog 207 [.c (.d (.sl (xs.map encS))),.c (.fn g caps)] S (fun r S'=>r=.c (.d (.i .i64 (uE p xs)))/\S'=S):=by
 refine zcx [.tmp 4] func207 ntmps207 ?_;simp -implicitDefEqProofs (disch:=omega) only[go_sem,encS]
 refine aZ (ι:=Nat) zmx rfl [0,1,7,8] (fun i=>[.c (.d (.sl (xs.map encS))),.c (.fn g (jL 1 caps)),.c (.d (.i .i64 xs.length)),.c (.d (.i .i64 i))]) (fun _=>[]::S)
  (fun i=>i<=xs.length/\∀j,∀hj:j<xs.length,j<i->p xs[j]=false) (fun i=>xs.length-i) 0 rfl rfl ⟨Nat.zero_le _,fun j _ h=>by omega⟩ ?_
 rintro i ⟨p1,p2⟩;simp -implicitDefEqProofs (disch:=omega) only[go_sem,encS]
 with_reducible refine dS (fun hb=> ?_) (fun hb=> ?_)<;>have h:=hb<;>(try simp only[wf_preprocess] at h)<;>simp -implicitDefEqProofs (disch:=omega) only[go_sem,hb,encS]<;>refine W3 ?_
 ·have hi:i<xs.length:=by omega
  refine W3 ?_;refine aW rfl (hp xs[i] (List.getElem_mem hi) [_]) ?_;simp -implicitDefEqProofs (disch:=omega) only[go_sem,encS]
  with_reducible refine dS (fun hb=> ?_) (fun hb=> ?_)<;>have h:=hb<;>(try simp only[wf_preprocess] at h)<;>simp -implicitDefEqProofs (disch:=omega) only[go_sem,hb,encS]<;>refine W3 ?_
  ·rw[tL hi p2 h]
  ·refine dB (i+1) (by omega) rfl rfl ⟨by omega,fun j hj hji=> ?_⟩;by_cases e:j=i
   ·subst e;exact h
   ·exact p2 j hj (by omega)
 ·rw[wU (fun j hj=>p2 j hj (by omega))]
theorem zk(g:Nat)(caps:List (Key×Nat))(S:Store)(xs:List (List UInt8))(p:(List UInt8)->Bool)(hl:xs.length<=1073741824)(hp:∀x∈xs,oO prog g caps S [.c (.d (.s x))] (.c (.d (.b (p x))))):
 bX prog 139 [.c (.d (.sl (xs.map encS))),.c (.fn g caps)] S (fun r S'=>r=.c (.d (.b (xs.any p)))/\S'=S):=by
 refine zcx [.tmp 4] func139 ntmps139 ?_;simp -implicitDefEqProofs (disch:=omega) only[go_sem,encS];refine aW rfl (Kk g (jL 1 caps) _ xs p hl fun x hx=>(hp x hx).push _) ?_;simp -implicitDefEqProofs (disch:=omega) only[go_sem,encS];exact aI vg
theorem ae4(xs ys:List (List UInt8))(hl:xs.length<=1073741824):aF prog 275 [.c (.d (.sl (xs.map encS))),.c (.d (.sl (ys.map encS)))] (.c (.d (.b (dec (xs=ys))))):=fun S=>by
 refine zcx [.tmp 4] func275 ntmps275 ?_;simp -implicitDefEqProofs (disch:=omega) only[go_sem,encS]
 with_reducible refine dS (fun hb=> ?_) (fun hb=> ?_)<;>have h:=hb<;>(try simp only[wf_preprocess] at h)<;>simp -implicitDefEqProofs (disch:=omega) only[go_sem,hb,encS]<;>refine W3 ?_
 ·exact aI (aR (fun e=>h (by rw[e]))).symm
 have hl':xs.length=ys.length:=by omega
 refine aZ (ι:=Nat) zmx rfl [0,1,12,13] (fun i=>[.c (.d (.sl (xs.map encS))),.c (.d (.sl (ys.map encS))),.c (.d (.i .i64 xs.length)),.c (.d (.i .i64 i))]) (fun _=>[]::S)
  (fun i=>i<=xs.length/\∀j,j<i->xs[j]? =ys[j]?) (fun y=>xs.length-y) 0 rfl rfl ⟨Nat.zero_le _,fun j h=>by omega⟩ ?_
 rintro i ⟨p1,p2⟩;simp -implicitDefEqProofs (disch:=omega) only[go_sem,encS]
 with_reducible refine dS (fun hb=> ?_) (fun hb=> ?_)<;>have h:=hb<;>(try simp only[wf_preprocess] at h)<;>simp -implicitDefEqProofs (disch:=omega) only[go_sem,hb,encS]<;>refine W3 ?_
 ·have hi:i<xs.length:=by omega
  have hi':i<ys.length:=by omega
  refine W3 ?_
  with_reducible refine dS (fun hb=> ?_) (fun hb=> ?_)<;>have h:=hb<;>(try simp only[wf_preprocess] at h)<;>simp -implicitDefEqProofs (disch:=omega) only[go_sem,hb,encS]<;>refine W3 ?_
  ·exact aI (aR (fun e=>h (by simp only[e]))).symm
  refine dB (i+1) (by omega) rfl rfl ⟨by omega,fun j hj=> ?_⟩;by_cases e:j=i
  ·subst e;rw[List.getElem?_eq_getElem hi,List.getElem?_eq_getElem hi',h]
  ·exact p2 j (by omega)
 ·have hi:i=xs.length:=by omega
  refine aI (bM (List.ext_getElem? fun j=> ?_)).symm;by_cases hj:j<i
  ·exact p2 j hj
  ·rw[List.getElem?_eq_none (by omega),List.getElem?_eq_none (by omega)]
theorem YS(xs ys:List (List UInt8))(hl:xs.length<=1073741824):aF prog 48 [.c (.d (.sl (xs.map encS))),.c (.d (.sl (ys.map encS)))] (.c (.d (.b (dec (xs=ys))))):=fun S=>by
 refine zcx [.tmp 4] func48 ntmps48 ?_;simp -implicitDefEqProofs (disch:=omega) only[go_sem,encS]
 with_reducible refine dS (fun hb=> ?_) (fun hb=> ?_)<;>have h:=hb<;>(try simp only[wf_preprocess] at h)<;>simp -implicitDefEqProofs (disch:=omega) only[go_sem,hb,encS]<;>refine W3 ?_
 ·exact aI (aR (fun e=>h (by rw[e]))).symm
 have hl':xs.length=ys.length:=by omega
 refine aZ (ι:=Nat) zmx rfl [0,1,5] (fun i=>[.c (.d (.sl (xs.map encS))),.c (.d (.sl (ys.map encS))),.c (.d (.i .i64 i))]) (fun _=>[]::S)
  (fun i=>i<=xs.length/\∀j,j<i->xs[j]? =ys[j]?) (fun y=>xs.length-y) 0 rfl rfl ⟨Nat.zero_le _,fun j h=>by omega⟩ ?_
 rintro i ⟨p1,p2⟩;simp -implicitDefEqProofs (disch:=omega) only[go_sem,encS]
 with_reducible refine dS (fun hb=> ?_) (fun hb=> ?_)<;>have h:=hb<;>(try simp only[wf_preprocess] at h)<;>simp -implicitDefEqProofs (disch:=omega) only[go_sem,hb,encS]<;>refine W3 ?_
 ·have hi:i<xs.length:=by omega
  have hi':i<ys.length:=by omega
  refine W3 ?_
  with_reducible refine dS (fun hb=> ?_) (fun hb=> ?_)<;>have h:=hb<;>(try simp only[wf_preprocess] at h)<;>simp -implicitDefEqProofs (disch:=omega) only[go_sem,hb,encS]<;>refine W3 ?_
  ·exact aI (aR (fun e=>h (by simp only[e]))).symm
  refine dB (i+1) (by omega) rfl rfl ⟨by omega,fun j hj=> ?_⟩;by_cases e:j=i
  ·subst e;rw[List.getElem?_eq_getElem hi,List.getElem?_eq_getElem hi',h]
  ·exact p2 j (by omega)
 ·have hi:i=xs.length:=by omega
  refine aI (bM (List.ext_getElem? fun j=> ?_)).symm;by_cases hj:j<i
  ·exact p2 j hj
  ·rw[List.getElem?_eq_none (by omega),List.getElem?_eq_none (by omega)]
theorem sP{s:List UInt8}{xs:List (List UInt8)}(h:s∈xs):s.length<=aP (xs.map encS):=by
 have:=dz (List.mem_map_of_mem (f:=encS) h);simpa [encS,bQ,D.sz] using this
noncomputable def iI(xs:List (List UInt8)):Bool:=dec xs.Nodup&&xs.all validName
noncomputable def among(xs ys:List (List UInt8)):Bool:=xs.all fun s=>dec (s∈ys)
noncomputable def gU(vars:List (List UInt8))(t:ak):Bool:=nZ t&&among (jE [] t) vars
noncomputable def lZ(vars:List (List UInt8))(ts:List ak):Bool:=ts.all (gU vars)
theorem ais{s l:List UInt8}{m:List (List UInt8)}:s∈JO l m<->s=l\/s∈m:=by
 unfold JO;split
 ·rename_i h;exact⟨.inr,fun x=>x.elim (fun e=>e▸h) id⟩
 ·rw[List.mem_append,List.mem_singleton];exact Or.comm
theorem iQ{α:Type}{xs:List α}{i:Nat}(hi:i<xs.length):xs.take (i+1)=xs.take i++[xs[i]]:=List.take_succ_eq_append_getElem hi
theorem IE{α:Type}{xs:List α}{x:α}:(xs++[x]).Nodup<->xs.Nodup/\x∉xs:=by
 rw[List.nodup_append];constructor
 ·rintro⟨h1,_,h3⟩;exact⟨h1,fun hx=>h3 x hx x (by simp) rfl⟩
 ·rintro⟨h1,h2⟩;exact⟨h1,by simp,fun a ha b hb e=>by simp at hb;subst hb;exact h2 (e▸ha)⟩
theorem SN{α:Type}{xs:List α}{i:Nat}(hi:i<xs.length)(h:xs[i]∈xs.take i):¬xs.Nodup:=fun hn=>by
 have h1:(xs.take (i+1)).Nodup:=hn.sublist (List.take_sublist _ _);rw[iQ hi] at h1;exact(IE.1 h1).2 h
theorem p9(xs:List (List UInt8))(hl:xs.length<=1073741824):aF prog 138 [.c (.d (.sl (xs.map encS)))] (.c (.d (.b (dec xs.Nodup)))):=fun S=>by
 refine zcx [.tmp 2] func138 ntmps138 ?_;simp -implicitDefEqProofs (disch:=omega) only[go_sem,encS];refine W3 ?_
 refine aZ (ι:=Nat×List (List UInt8)) zmx rfl [3,7,8,9] (fun y=>[.c (.mp (0,0)),.c (.d (.sl (xs.map encS))),.c (.d (.i .i64 xs.length)),.c (.d (.i .i64 y.1))]) (fun y=>[.mp y.2]::S)
  (fun y=>y.1<=xs.length/\(∀s,s∈y.2<->s∈xs.take y.1)/\(xs.take y.1).Nodup) (fun y=>xs.length-y.1) (0,[]) rfl rfl ⟨Nat.zero_le _,fun s=>by simp,by simp⟩ ?_
 rintro⟨i,m⟩ ⟨p1,p2,p3⟩;simp only at p1 p2 p3;simp -implicitDefEqProofs (disch:=omega) only[go_sem,encS]
 with_reducible refine dS (fun hb=> ?_) (fun hb=> ?_)<;>have h:=hb<;>(try simp only[wf_preprocess] at h)<;>simp -implicitDefEqProofs (disch:=omega) only[go_sem,hb,encS]<;>refine W3 ?_
 ·have hi:i<xs.length:=by omega
  refine W3 ?_
  with_reducible refine dS (fun hb=> ?_) (fun hb=> ?_)<;>have h:=hb<;>(try simp only[wf_preprocess] at h)<;>simp -implicitDefEqProofs (disch:=omega) only[go_sem,hb,encS]<;>refine W3 ?_
  ·exact aI (aR (SN hi ((p2 _).1 h))).symm
  ·refine dB (i+1,JO xs[i] m) (by simp only;omega) rfl rfl ⟨by simp only;omega,fun s=> ?_,?_⟩
   ·simp only
    rw[ais,iQ hi,List.mem_append,List.mem_singleton,p2];exact Or.comm
   ·simp only
    rw[iQ hi,IE];exact⟨p3,fun hx=>h ((p2 _).2 hx)⟩
 ·rw[List.take_of_length_le (by omega)] at p3;exact aI (bM p3).symm
theorem qb(xs:List (List UInt8))(hl:xs.length<=1073741824):aF prog 65 [.c (.d (.sl (xs.map encS)))] (.c (.d (.b (dec xs.Nodup)))):=fun S=>by
 refine zcx [.tmp 2] func65 ntmps65 ?_;simp -implicitDefEqProofs (disch:=omega) only[go_sem,encS]
 refine aZ (ι:=Nat) zmx rfl [0,3] (fun i=>[.c (.d (.sl (xs.map encS))),.c (.d (.i .i64 i))]) (fun _=>[]::S)
  (fun i=>i<=xs.length/\(xs.take i).Nodup) (fun i=>xs.length-i) 0 rfl rfl ⟨Nat.zero_le _,by simp⟩ ?_
 rintro i ⟨p1,p3⟩;simp -implicitDefEqProofs (disch:=omega) only[go_sem,encS]
 with_reducible refine dS (fun hb=> ?_) (fun hb=> ?_)<;>have h:=hb<;>(try simp only[wf_preprocess] at h)<;>simp -implicitDefEqProofs (disch:=omega) only[go_sem,hb,encS]<;>refine W3 ?_
 ·have hi:i<xs.length:=by omega
  have hc:∀y∈xs.map encS,y.length=1:=fun y hy=>by
   obtain⟨s,_,rfl⟩:=List.mem_map.1 hy;rfl
  have e:(xs.map encS).take i=(xs.take i).map encS:=List.map_take.symm;refine And.intro ⟨by omega,by omega,hc⟩ ?_;refine W3 ?_;simp -implicitDefEqProofs (disch:=omega) only[go_sem,Int.toNat_zero,e];refine C2 (vk (xs.take i) xs[i] (by simp;omega)) ?_;refine S0 (fun hb h=>?_) fun hb h=>?_
  ·exact aI (aR (SN hi h)).symm
  ·refine dB (i+1) (by omega) rfl rfl ⟨by omega,?_⟩;rw[iQ hi,IE];exact⟨p3,h⟩
 ·rw[List.take_of_length_le (by omega)] at p3;exact aI (bM p3).symm
theorem Pz(xs:List (List UInt8))(hl:xs.length<=1073741824)(hs:∀s∈xs,s.length<=4194304):aF prog 156 [.c (.d (.sl (xs.map encS)))] (.c (.d (.b (xs.all validName)))):=fun S=>by
 refine zcx [.tmp 2] func156 ntmps156 ?_;simp -implicitDefEqProofs (disch:=omega) only[go_sem,encS]
 refine aZ (ι:=Nat) zmx rfl [0,3] (fun i=>[.c (.d (.sl (xs.map encS))),.c (.d (.i .i64 i))]) (fun _=>[]::S)
  (fun i=>i<=xs.length/\(xs.drop i).all validName=xs.all validName) (fun i=>xs.length-i) 0 rfl rfl ⟨Nat.zero_le _,rfl⟩ ?_
 rintro i ⟨p1,p2⟩;simp -implicitDefEqProofs (disch:=omega) only[go_sem,encS]
 with_reducible refine dS (fun hb=> ?_) (fun hb=> ?_)<;>have h:=hb<;>(try simp only[wf_preprocess] at h)<;>simp -implicitDefEqProofs (disch:=omega) only[go_sem,hb,encS]<;>refine W3 ?_
 ·have hi:i<xs.length:=by omega
  have hz:=hs _ (List.getElem_mem hi);rw[List.drop_eq_getElem_cons hi,List.all_cons] at p2;refine W3 ?_;refine C2 (iA xs[i] (by omega)) ?_;refine S0 (fun hb h=>?_) fun hb h=>?_
  ·rw[<-p2,h];rfl
  ·exact dB (i+1) (by omega) rfl rfl ⟨by omega,by rw[<-p2,h];rfl⟩
 ·rw[List.drop_of_length_le (by omega)] at p2;rw[<-p2];rfl
theorem oQ(xs:List (List UInt8))(hl:xs.length<=1073741824)(hs:∀s∈xs,s.length<=4194304):aF prog 54 [.c (.d (.sl (xs.map encS)))] (.c (.d (.b (iI xs)))):=fun S=>by
 have hcl:∀s∈xs,aF prog 140 [.c (.d (.s s))] (.c (.d (.b (!validName s)))):=fun s hx S=>by
  have:=hs s hx;refine zcx [.tmp 2] func140 ntmps140 ?_;refine W1 ?_;exact C4 (iy s (by omega))
 have ha:(xs.any fun s=> !validName s)= !xs.all validName:=by rw[List.not_all_eq_any_not]
 refine zcx [.tmp 2] func54 ntmps54 ?_;refine W1 ?_;refine C2 (p9 xs hl) ?_;refine S0 (fun hb h=>?_) fun hb h=>?_
 ·refine aW rfl (zk 140 [] _ xs (fun s=> !validName s) hl fun s hx=>oO.Rj (hcl s hx)) ?_;refine W1 ?_;rw[ha];exact aI (by unfold iI;rw[hb];simp)
 ·exact aI (by unfold iI;rw[hb];rfl)
theorem Bv(xs ys:List (List UInt8))(hl:xs.length<=1073741824)(hl':ys.length<=1073741824):aF prog 147 [.c (.d (.sl (xs.map encS))),.c (.d (.sl (ys.map encS)))] (.c (.d (.b (among xs ys)))):=fun S=>by
 have ha:(xs.any fun s=> !dec (s∈ys))= !among xs ys:=by unfold among;rw[List.not_all_eq_any_not]
 have hcl:∀(rest:List Ab.Obj)(s:List UInt8),oO prog 214 [((0,0),0)] ((.box [.d (.sl (ys.map encS))]::rest)::S) [.c (.d (.s s))] (.c (.d (.b (!dec (s∈ys))))):=fun rest s F=>by
  refine zcx [.tmp 3] func214 ntmps214 ?_;refine W1 ?_;exact C4 (rR ys s hl')
 refine zcx [.tmp 4] func147 ntmps147 ?_;refine W1 ?_;refine aW rfl (zk 214 [((0,0),0)] _ xs (fun s=> !dec (s∈ys)) hl fun s hx=>hcl [] s) ?_;refine W1 ?_;rw[ha];exact aI (by simp)
theorem vK(t:ak)(vars:List (List UInt8))(hsz:t.sz<=4194304)(hv:vars.length<=1073741824):aF prog 145 [t.v,.c (.d (.sl (vars.map encS)))] (.c (.d (.b (gU vars t)))):=fun S=>by
 have h1:=Ca t [];have h2:=mF t;refine zcx [.tmp 4] func145 ntmps145 ?_;refine W1 ?_;refine C2 (yP t hsz) ?_;refine S0 (fun hb h=>?_) fun hb h=>?_
 ·refine C2 (z8 t hsz) ?_;refine C2 (Bv (jE [] t) vars (by simp at h1;omega) hv) ?_;exact aI (by unfold gU;rw[hb];rfl)
 ·exact aI (by unfold gU;rw[hb];rfl)
theorem Aa(ts:List ak)(vars:List (List UInt8))(hl:ts.length<=1073741824)(hsz:∀t∈ts,t.sz<=4194304)(hv:vars.length<=1073741824):aF prog 144 [.c (.d (.sl (ts.map ak.enc))),.c (.d (.sl (vars.map encS)))] (.c (.d (.b (lZ vars ts)))):=fun S=>by
 have ha:(ts.any fun t=> !gU vars t)= !lZ vars ts:=by unfold lZ;rw[List.not_all_eq_any_not]
 have hcl:∀(rest:List Ab.Obj)(t:ak),t.sz<=4194304->oO prog 210 [((0,0),0)] ((.box [.d (.sl (vars.map encS))]::rest)::S) [t.v] (.c (.d (.b (!gU vars t)))):=fun rest t ht F=>by
  refine zcx [.tmp 3] func210 ntmps210 ?_;refine W1 ?_;exact C4 (vK t vars ht hv)
 refine zcx [.tmp 4] func144 ntmps144 ?_;refine W1 ?_;refine aW rfl (JC 210 [((0,0),0)] _ ts (fun t=> !gU vars t) hl fun t hx=>hcl [] t (hsz t hx)) ?_;refine W1 ?_;rw[ha];exact aI (by simp)
theorem mG(xs:List (List UInt8))(most:Int)(hl:xs.length<=1073741824)(hs:∀s∈xs,s.length<=4194304):aF prog 63 [.c (.d (.sl (xs.map encS))),.c (.d (.i .i64 most))] (.c (.d (.b (dec ((xs.length:Int)<=most)&&iI xs)))):=fun S=>by
 refine zcx [.tmp 4] func63 ntmps63 ?_;refine W1 ?_;refine S0 (fun hb h=>?_) fun hb h=>?_
 ·have h1:=h;refine C2 (Pz xs hl hs) ?_;refine S0 (fun hb h=>?_) fun hb h=>?_
  ·refine C2 (qb xs hl) ?_;exact aI (by rw[bM h1];unfold iI;rw[hb];simp)
  ·exact aI (by rw[bM h1];unfold iI;rw[hb];simp)
 ·exact aI (by rw[aR h];rfl)
theorem vo(t:ak)(vars:List (List UInt8))(hsz:t.sz<=4194304)(hv:vars.length<=1073741824):aF prog 222 [t.v,.c (.d (.sl (vars.map encS)))] (.c (.d (.b (gU vars t)))):=fun S=>by
 have h1:=Ca t [];have h2:=mF t
 have hlen:(jE [] t).length<=1073741824:=by simp at h1;omega
 refine zcx [.tmp 4] func222 ntmps222 ?_;refine W1 ?_;refine C2 (Pw t hsz) ?_;generalize hxs:jE [] t=xs at hlen
 refine aZ (ι:=Nat) zmx rfl [1,2,5,6] (fun i=>[.c (.d (.sl (vars.map encS))),.c (.ptr (0,0) 0),.c (.d (.sl (xs.map encS))),.c (.d (.i .i64 i))]) (fun _=>[.box [.d (.i .i64 t.aM),.d (.s t.fName),.d (.sl (t.fArgs.map ak.enc))]]::S)
  (fun i=>i<=xs.length/\among (xs.drop i) vars=among xs vars) (fun i=>xs.length-i) 0 rfl rfl ⟨Nat.zero_le _,rfl⟩ ?_
 rintro i ⟨p1,p2⟩;simp -implicitDefEqProofs (disch:=omega) only[go_sem,encS]
 with_reducible refine dS (fun hb=> ?_) (fun hb=> ?_)<;>have h:=hb<;>(try simp only[wf_preprocess] at h)<;>simp -implicitDefEqProofs (disch:=omega) only[go_sem,hb,encS]<;>refine W3 ?_
 ·have hi:i<xs.length:=by omega
  rw[List.drop_eq_getElem_cons hi] at p2;have p3:among xs vars=(dec (xs[i]∈vars)&&among (xs.drop (i+1)) vars):=p2.symm;refine W3 ?_;refine C2 (vk vars xs[i] hv) ?_;refine S0 (fun hb h=>?_) fun hb h=>?_
  ·exact aI (by unfold gU;rw[hxs,p3,aR h];simp)
  ·exact dB (i+1) (by omega) rfl rfl ⟨by omega,by rw[p3,bM h];rfl⟩
 ·rw[List.drop_of_length_le (by omega)] at p2;have p3:among xs vars=true:=p2.symm;refine W3 ?_;refine C2 (yQ t hsz) ?_;exact aI (by unfold gU;rw[hxs,p3];simp)
theorem SQ(ts:List ak)(vars:List (List UInt8))(hl:ts.length<=1073741824)(hsz:∀t∈ts,t.sz<=4194304)(hv:vars.length<=1073741824):aF prog 221 [.c (.d (.sl (ts.map ak.enc))),.c (.d (.sl (vars.map encS)))] (.c (.d (.b (lZ vars ts)))):=fun S=>by
 refine zcx [.tmp 4] func221 ntmps221 ?_;refine W1 ?_
 refine aZ (ι:=Nat) zmx rfl [0,1,5] (fun i=>[.c (.d (.sl (ts.map ak.enc))),.c (.d (.sl (vars.map encS))),.c (.d (.i .i64 i))]) (fun _=>[]::S)
  (fun i=>i<=ts.length/\lZ vars (ts.drop i)=lZ vars ts) (fun i=>ts.length-i) 0 rfl rfl ⟨Nat.zero_le _,rfl⟩ ?_
 rintro i ⟨p1,p2⟩;refine W1 ?_;refine S0 (fun hb h=>?_) fun hb h=>?_
 ·have hi:i<ts.length:=by omega
  rw[List.drop_eq_getElem_cons hi] at p2;have p3:lZ vars ts=(gU vars ts[i]&&lZ vars (ts.drop (i+1))):=p2.symm;refine W3 ?_;refine C2 (vo ts[i] vars (hsz _ (List.getElem_mem hi)) hv) ?_;refine S0 (fun hb h=>?_) fun hb h=>?_
  ·rw[p3,h];rfl
  ·exact dB (i+1) (by omega) rfl rfl ⟨by omega,by rw[p3,h];rfl⟩
 ·rw[List.drop_of_length_le (by omega)] at p2;rw[<-p2];rfl
def ops:List (List UInt8):=[[43],[45],[42],[60],[61]]
def yG(t:ak):Prop:=t.aM=0/\t.fName=[]/\t.fArgs.length=0
def vV(e:ay):Prop:=
 (1<=e.aM/\e.aM<=12)/\
 (if e.aM=5\/e.aM=11 then validName e.bO=true else e.bO=[])/\
 (if e.aM=3\/e.aM=4\/e.aM=5\/e.aM=6\/e.aM=8 then validName e.fName=true else if e.aM=10 then e.fName∈ops else e.fName=[])/\
 (if e.aM=1 then -999999<=e.fN/\e.fN<=999999 else if e.aM=2 then e.fN=0\/e.fN=1 else e.fN=0)/\
 (if e.aM=12 then nZ e.fType=true else yG e.fType)/\
 (if e.aM=4\/e.aM=6 then True else if e.aM=5 then 1<=e.fArgs.length else if e.aM=7\/e.aM=11\/e.aM=12 then e.fArgs.length=1 else if e.aM=8\/e.aM=10 then e.fArgs.length=2 else if e.aM=9 then e.fArgs.length=3 else e.fArgs.length=0)/\
 (e.aM=7<->0<e.aT.length)
mutual
noncomputable def iR:ay->Bool
 | .mk k t n m ty a b=>dec (vV (.mk k t n m ty a b))&&(mD a&&pE b)
noncomputable def mD:List ay->Bool
 |[]=>true
 |x::xs=>iR x&&mD xs
noncomputable def xM:bq->Bool
 | .mk c v b=>validName c&&(iI v&&iR b)
noncomputable def pE:List bq->Bool
 |[]=>true
 |x::xs=>xM x&&pE xs
end
theorem zl(x:ay):iR x=(dec (vV x)&&(mD x.fArgs&&pE x.aT)):=by cases x;rw[iR];rfl
theorem tN(x:bq):xM x=(validName x.dN&&(iI x.aH&&iR x.fBody)):=by cases x;rw[xM];rfl
theorem WE{xs:List ay}{i:Nat}(hi:i<xs.length):mD (xs.drop i)=(iR xs[i]&&mD (xs.drop (i+1))):=by rw[List.drop_eq_getElem_cons hi,mD]
theorem YT{xs:List bq}{i:Nat}(hi:i<xs.length):pE (xs.drop i)=(xM xs[i]&&pE (xs.drop (i+1))):=by rw[List.drop_eq_getElem_cons hi,pE]
theorem MF:∀{xs:List ay},(xs.any fun t=> !iR t)= !mD xs
 |[]=>rfl
 |t::ts=>by rw[List.any_cons,MF (xs:=ts),mD];simp
theorem PD:∀{xs:List bq},(xs.any fun t=> !xM t)= !pE xs
 |[]=>rfl
 |t::ts=>by rw[List.any_cons,PD (xs:=ts),pE];simp
noncomputable def sQ(e:ay):Bool:=dec (e.cnt<=300)&&iR e
def pG(l:Int)(c:Nat):Int:=if l<0 then -1 else if c<=l then l-c else -1
theorem IG{l:Int}{a b:Nat}:pG (pG l a) b=pG l (a+b):=by unfold pG;split<;>split<;>(try split)<;>(try split)<;>omega
theorem Nq{l:Int}{a:Nat}(h:l<0):pG l a= -1:=if_pos h
theorem Kl{l:Int}(h: -1<=l):pG l 0=l:=by unfold pG;split<;>(try split)<;>omega
theorem Rs{l:Int}{c:Nat}(h:0<=l): -1<=pG l c/\pG l c<=l:=by unfold pG;split<;>(try split)<;>omega
theorem ait{l:Int}{c:Nat}(h:0<=l):decide (pG l c>=0)=decide ((c:Int)<=l):=by unfold pG;rw[if_neg (by omega)];split<;>simp<;>omega
theorem Uk:validName []=false:=aR fun h=>by have:=h.1.1;simp at this
theorem ae5{s:List UInt8}(h:s∈ops):s.length=1:=by simp[ops] at h;rcases h with h|h|h|h|h<;>rw[h]<;>rfl
theorem WG{s:List UInt8}(h:s∈ops):validName s=false:=aR fun x=>by
 have h1:=x.2.2 0 (by have:=x.1.1;omega);simp[ops] at h;rcases h with h|h|h|h|h<;>rw[h] at h1<;>simp[lowerB,sO] at h1
theorem PE{t:ak}(h:yG t):nZ t=false:=aR fun x=>by
 have h1:=x.1;rw[zi,Bool.and_eq_true] at h1;have h2:=gJ h1.1;rw[h.1] at h2;omega
structure Hold(p:Prop):Prop where
 out:p
theorem qx{P:Program}{N:Nat}{c:Code}{Q:Exit->St->Prop}{tm:List (Nat×V)}{st st':Store}(ts:List Nat)(vs:List V)(hv:ts.map (look tm)=vs)(hs:st=st')
 (h:AW P N c Q ⟨gT ts vs,st'⟩):AW P N c Q ⟨tm,st⟩:=by
 subst hs;refine lU h ?_;rw[<-hv];exact M6 fun t=>AO _ ts t
theorem alA(b:UInt8):decide (firstIdx ⟨[43,45,42,60,61].toArray⟩ b>=0)=dec ([b]∈ops):=by
 have h:∀n:Nat,n<256->decide (firstIdx ⟨[43,45,42,60,61].toArray⟩ (UInt8.ofNat n)>=0)=decide ([UInt8.ofNat n]∈ops):=by decide +kernel
 have h1:=h b.toNat (UInt8.toNat_lt b);rw[UInt8.ofNat_toNat] at h1;rw[h1];by_cases h2:[b]∈ops
 ·rw[bM h2];simp[h2]
 ·rw[aR h2];simp[h2]
def abT(k:Int):Int:=if k=5\/k=7\/k=11\/k=12 then 1 else if k=8\/k=10 then 2 else if k=9 then 3 else 0
def abU(k:Int):Int:=if k=4\/k=6\/k=5 then 300 else if k=7\/k=11\/k=12 then 1 else if k=8\/k=10 then 2 else if k=9 then 3 else 0
theorem Mf(l:List UInt8)(b:UInt8):aaF prog 263 [.c (.d (.s l)),.c (.d (.i .u8 b.toNat))] (.c (.d (.i .i64 (firstIdx ⟨l.toArray⟩ b)))):=by
 refine⟨_,Extern.BytealgIndexByte.indexByte,func263,by kernel_rfl,by kernel_rfl,by kernel_rfl,by kernel_rfl,fun w σ S β vs hS hv=> ?_⟩;obtain⟨hl,h⟩:=hv;obtain⟨v0,e0,h0,_⟩:=h 0 _ rfl;obtain⟨v1,e1,h1,_⟩:=h 1 _ rfl;cases h0;cases h1
 have hvs:vs=[.string ⟨l.toArray⟩,.int .u8 b.toNat]:=by
  match vs,hl,e0,e1 with
  |[x,y],_,e0,e1=>simp at e0 e1;rw[e0,e1]
 subst hvs;refine⟨_,run_indexByte_string _ _ w,?_,rfl⟩
 have hb:(b.toNat:Int).toNat.toUInt8=b:=by simp
 rw[hb];exact .i _ _
theorem Km(l:List UInt8)(b:UInt8):aF prog 236 [.c (.d (.s l)),.c (.d (.i .u8 b.toNat))] (.c (.d (.i .i64 (firstIdx ⟨l.toArray⟩ b)))):=fun S=>by
 refine zcx [.tmp 4] func236 ntmps236 ?_;refine W1 ?_;refine anm (Mf l b) ?_;exact Z1
theorem YU(l:List UInt8)(b:UInt8)(hl:[b]≠l):aF prog 298 [.c (.d (.s l)),.c (.d (.s [b]))] (.c (.d (.i .i64 (firstIdx ⟨l.toArray⟩ b)))):=fun S=>by
 have c1:decide (((1:Nat):Int)=0)=false:=rfl;have c2:decide (((1:Nat):Int)=1)=true:=rfl;refine zcx [.tmp 4] func298 ntmps298 ?_;simp -implicitDefEqProofs (disch:=omega) only[go_sem,c1,c2]
 with_reducible refine dS (fun hb=> ?_) (fun hb=> ?_)<;>have h:=hb<;>(try simp only[wf_preprocess] at h)<;>simp -implicitDefEqProofs (disch:=omega) only[go_sem,hb,c1,c2]<;>refine W3 ?_
 ·exact absurd h hl
 exact C4 (Km l b)
theorem ae6(l:List UInt8)(b:UInt8)(hl:[b]≠l):aF prog 287 [.c (.d (.s l)),.c (.d (.s [b]))] (.c (.d (.i .i64 (firstIdx ⟨l.toArray⟩ b)))):=fun S=>by
 refine zcx [.tmp 4] func287 ntmps287 ?_;refine W1 ?_;exact C4 (YU l b hl)
theorem WH(l:List UInt8)(b:UInt8)(hl:[b]≠l):aF prog 267 [.c (.d (.s l)),.c (.d (.s [b]))] (.c (.d (.b (decide (firstIdx ⟨l.toArray⟩ b>=0))))):=fun S=>by
 refine zcx [.tmp 4] func267 ntmps267 ?_;refine W1 ?_;exact C4 (ae6 l b hl)
theorem Ul(s:List UInt8):aF prog 241 [.c (.d (.s s))] (.c (.d (.b (dec (s∈ops))))):=fun S=>by
 refine zcx [.tmp 2] func241 ntmps241 ?_;refine W1 ?_;refine S0 (fun hb h=>?_) fun hb h=>?_
 ·obtain⟨b,rfl⟩:=List.length_eq_one_iff.1 (show s.length=1 by omega);refine C2 (WH [43,45,42,60,61] b (by intro x;cases x)) ?_;exact aI (alA b)
 ·exact aI (aR fun x=>h (by rw[ae5 x];rfl)).symm
theorem Js(t:ak):aF prog 150 [t.v] (.c (.d (.b (dec (yG t))))):=fun S=>by
 refine zcx [.tmp 2] func150 ntmps150 ?_;refine W1 ?_
 repeat' (first
  |refine S0 (fun hb h=>?_) fun hb h=>?_
  |(refine aI ?_;unfold yG;grind [bM,aR,gJ,jo]))
theorem MG(k:Int):aF prog 240 [.c (.d (.i .i64 k))] (.fF [(false,[.d (.i .i64 (abT k))]),(false,[.d (.i .i64 (abU k))])]):=fun S=>by
 refine zcx [.tmp 2,.tmp 3] func240 ntmps240 ?_;refine W1 ?_
 repeat' (first
  |refine S0 (fun hb h=>?_) fun hb h=>?_
  |(unfold abT abU;grind))
end Go.Ab