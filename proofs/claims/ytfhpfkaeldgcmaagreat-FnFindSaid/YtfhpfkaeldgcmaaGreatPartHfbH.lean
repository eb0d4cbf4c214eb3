/-
  SEVERAL TEXTS IN ONE (merged by program): contracts and models, each with its own heading.
-/
import Derived.Test.YtfhpfkaeldgcmaaGreatPartHfbC
set_option maxHeartbeats 8000000
open Go.Proofs Go.Proofs.Tryz
set_option linter.unusedSimpArgs false
set_option linter.unusedVariables false
set_option maxRecDepth 4000
namespace Go.Ab
def lowerB(b:UInt8):Prop:=97<=b.toNat/\b.toNat<=122
def y7(b:UInt8):Prop:=48<=b.toNat/\b.toNat<=57
def aaq(s:List UInt8):Prop:=∀i,i<s.length->lowerB (s.getD i 0)\/(i≠0/\y7 (s.getD i 0))
def reserved:List (List UInt8):=[[105,110,116],[98,111,111,108],[97,115,115,111,99],[100,121,110],[105,102],[108,101,116],[99,97,115,101],[110,101,119],[109,101,116,104,111,100],[112,97,99,107],[116,114,117,101],[102,97,108,115,101]]
noncomputable def validName(s:List UInt8):Bool:=dec ((1<=s.length/\s.length<=8)/\s∉reserved/\aaq s)
noncomputable def Bb(s:List UInt8):Bool:=dec (s=[105,110,116]\/s=[98,111,111,108])
def ail{α:Type}(p:α->Bool)(xs:List α):Int:=if xs.any p then((xs.findIdx p:Nat):Int) else -1
noncomputable def Ia(k:Int)(n:List UInt8)(len:Nat):Bool:=
 dec ((k=1\/k=4)/\validName n=true/\len=0\/k=3/\validName n=true/\len=1\/k=2/\(validName n=true/\len<=3\/Bb n=true/\len=0))
mutual
noncomputable def formed:ay->Bool
 | .mk k n a=>Ia k n a.length&&kD a
noncomputable def kD:List ay->Bool
 |[]=>true
 |t::ts=>formed t&&kD ts
end
theorem F9(t:ay):formed t=(Ia t.aV t.fName t.fArgs.length&&kD t.fArgs):=by cases t;rw[formed];rfl
theorem CP:∀{ts:List ay},kD ts=true<->∀t∈ts,formed t=true
 |[]=>by simp[kD]
 |t::ts=>by simp[kD,CP (ts:=ts)]
mutual
def qJ:ay->Nat
 | .mk _ _ a=>depths a
def depths:List ay->Nat
 |[]=>0
 |t::ts=>max (qJ t+1) (depths ts)
end
theorem aar(t:ay):qJ t=depths t.fArgs:=by cases t;rw[qJ];rfl
mutual
theorem Ga:∀t:ay,qJ t+1<=t.cnt
 | .mk k n a=>by
   have:=NY a;rw[qJ,ay.cnt];omega
theorem NY:∀ts:List ay,depths ts<=ay.gq ts
 |[]=>by simp[depths]
 |t::ts=>by
  have h1:=Ga t;have h2:=NY ts;rw[depths,ay.gq];omega
end
noncomputable def qZ(t:ay):Bool:=dec (formed t=true/\qJ t<=6/\t.cnt<=60)
mutual
def u6:ay->List ay
 | .mk k n a=>.mk k n a::sD a
def sD:List ay->List ay
 |[]=>[]
 |t::ts=>u6 t++sD ts
end
theorem Gb(t:ay):u6 t=t::sD t.fArgs:=by cases t;rw[u6];rfl
theorem CQ{ts:List ay}{i:Nat}(hi:i<ts.length):sD (ts.drop i)=u6 ts[i]++sD (ts.drop (i+1)):=by rw[List.drop_eq_getElem_cons hi,sD]
mutual
theorem Gc:∀t:ay,(u6 t).length=t.cnt
 | .mk k n a=>by rw[u6,List.length_cons,ay.cnt,KT a];omega
theorem KT:∀ts:List ay,(sD ts).length=ay.gq ts
 |[]=>rfl
 |t::ts=>by rw[sD,List.length_append,ay.gq,Gc t,KT ts]
end
def wS(out:List (List UInt8))(u:ay):List (List UInt8):=if u.aV=1/\u.fName∉out then out++[u.fName] else out
def jX(out:List (List UInt8))(t:ay):List (List UInt8):=(u6 t).foldl wS out
def Bc(out:List (List UInt8))(ts:List ay):List (List UInt8):=(sD ts).foldl wS out
theorem Rl(out:List (List UInt8))(u:ay):(wS out u).length<=out.length+1:=by
 unfold wS
 split<;>simp
theorem NZ:∀(us:List ay)(out:List (List UInt8)),(us.foldl wS out).length<=out.length+us.length
 |[],out=>by simp
 |u::us,out=>by
  have h1:=Rl out u;have h2:=NZ us (wS out u);rw[List.foldl_cons,List.length_cons];omega
theorem N7(t:ay)(out:List (List UInt8)):(jX out t).length<=out.length+t.cnt:=by
 have:=NZ (u6 t) out;rw[Gc] at this;exact this
theorem adE(out:List (List UInt8))(t:ay):jX out t=Bc (wS out t) t.fArgs:=by
 unfold jX Bc;rw[Gb,List.foldl_cons]
theorem TY{ts:List ay}{i:Nat}(hi:i<ts.length)(out:List (List UInt8)):Bc out (ts.drop i)=Bc (jX out ts[i]) (ts.drop (i+1)):=by
 unfold Bc jX;rw[CQ hi,List.foldl_append]
def qK(t:ay):Bool:=(u6 t).any fun u=>decide (u.aV=3)
def um(ts:List ay):Bool:=(sD ts).any fun u=>decide (u.aV=3)
theorem Ep(t:ay):qK t=(decide (t.aV=3)||um t.fArgs):=by
 unfold qK um;rw[Gb,List.any_cons]
theorem O8{ts:List ay}{i:Nat}(hi:i<ts.length):um (ts.drop i)=(qK ts[i]||um (ts.drop (i+1))):=by
 unfold um qK;rw[CQ hi,List.any_append]
def KU(v:List UInt8)(u:ay):Bool:=decide (u.aV=1/\u.fName=v)
def oq(v:List UInt8)(t:ay):Nat:=(u6 t).countP (KU v)
def uL(v:List UInt8)(ts:List ay):Nat:=(sD ts).countP (KU v)
theorem aas(v:List UInt8)(t:ay):oq v t=(if KU v t then 1 else 0)+uL v t.fArgs:=by
 unfold oq uL;rw[Gb,List.countP_cons];omega
theorem Rm{v:List UInt8}{ts:List ay}{i:Nat}(hi:i<ts.length):uL v (ts.drop i)=oq v ts[i]+uL v (ts.drop (i+1)):=by
 unfold uL oq;rw[CQ hi,List.countP_append]
theorem aat(v:List UInt8)(t:ay):oq v t<=t.cnt:=by
 unfold oq;rw[<-Gc];exact List.countP_le_length
def occurs(v:List UInt8)(t:ay):Bool:=decide (0<oq v t)
def afj:List UInt8:=[115,101,108,102]
def mentions(g:aI):Bool:=occurs afj g.cu||g.bP.any (occurs afj)
def agF(t:bF):Bool:= !t.bW&& !t.aK.any mentions
theorem Dv(n a b:Int):bg prog 35 [.c (.d (.i .i64 n)),.c (.d (.i .i64 a)),.c (.d (.i .i64 b))] (.c (.d (.b (dec (a<=n/\n<=b))))):=fun S=>by
 refine zcx [.tmp 6] func35 ntmps35 ?_;simp -implicitDefEqProofs (disch:=omega) only[go_sem]
 with_reducible refine aD (fun hb=> ?_) (fun hb=> ?_)<;>have h:=hb<;>(try simp only[wf_preprocess] at h)<;>simp -implicitDefEqProofs (disch:=omega) only[go_sem,hb]<;>(repeat(with_reducible refine And.intro ?_ ?_;focus first|omega|rfl|assumption|exact⟨_,rfl,rfl⟩|(simp;omega)|(simp;done)))
 ·exact bN (by rw[rO];exact kX ⟨fun x=>⟨by omega,x⟩,fun x=>x.2⟩)
 ·exact bN (bM (by omega)).symm
theorem ou(xs:List (List UInt8))(s:List UInt8)(hl:xs.length<=1073741824):bg prog 79 [.c (.d (.sl (xs.map encS))),.c (.d (.s s))] (.c (.d (.b (dec (s∈xs))))):=fun S=>by
 refine zcx [.tmp 4] func79 ntmps79 ?_;simp -implicitDefEqProofs (disch:=omega) only[go_sem,encS]
 refine bO (ι:=Nat) zmx rfl [0,1,5] (fun i=>[.c (.d (.sl (xs.map encS))),.c (.d (.s s)),.c (.d (.i .i64 i))]) (fun _=>[]::S)
  (fun i=>i<=xs.length/\∀j,j<i->∀h:j<xs.length,xs[j]≠s) (fun i=>xs.length-i) 0 rfl rfl ⟨Nat.zero_le _,fun j h=>by omega⟩ ?_
 rintro i ⟨p1,p2⟩;simp -implicitDefEqProofs (disch:=omega) only[go_sem,encS]
 with_reducible refine aD (fun hb=> ?_) (fun hb=> ?_)<;>have h:=hb<;>(try simp only[wf_preprocess] at h)<;>simp -implicitDefEqProofs (disch:=omega) only[go_sem,hb,encS]<;>(repeat(with_reducible refine And.intro ?_ ?_;focus first|omega|rfl|assumption|exact⟨_,rfl,rfl⟩|(simp;omega)|(simp;done)))
 ·have hi:i<xs.length:=by omega
  with_reducible refine aD (fun hb=> ?_) (fun hb=> ?_)<;>have h:=hb<;>(try simp only[wf_preprocess] at h)<;>simp -implicitDefEqProofs (disch:=omega) only[go_sem,hb,encS]<;>(repeat(with_reducible refine And.intro ?_ ?_;focus first|omega|rfl|assumption|exact⟨_,rfl,rfl⟩|(simp;omega)|(simp;done)))
  ·exact bN (dH (by rw[<-h];exact List.getElem_mem hi)).symm
  ·refine cZ (i+1) (by omega) rfl rfl ⟨by omega,fun j hj hl=> ?_⟩;by_cases e:j=i
   ·subst e;exact h
   ·exact p2 j (by omega) hl
 ·refine bN (bM fun hm=> ?_).symm;obtain⟨j,h1,h2⟩:=List.getElem_of_mem hm;exact p2 j (by omega) h1 h2
theorem KV(s:List UInt8):bg prog 121 [.c (.d (.s s))] (.c (.d (.b (dec (s∈reserved))))):=fun S=>by
 refine zcx [.tmp 2] func121 ntmps121 ?_;simp -implicitDefEqProofs (disch:=omega) only[go_sem]
 (repeat(with_reducible refine And.intro ?_ ?_;focus first|omega|rfl|assumption|exact⟨_,rfl,rfl⟩|(simp;omega)|(simp;done)))
 refine aB (ou reserved s (by decide)) ?_;simp -implicitDefEqProofs (disch:=omega) only[go_sem]<;>(repeat(with_reducible refine And.intro ?_ ?_;focus first|omega|rfl|assumption|exact⟨_,rfl,rfl⟩|(simp;omega)|(simp;done)))
theorem gU(s:List UInt8)(hl:s.length<=1073741824):bg prog 77 [.c (.d (.s s))] (.c (.d (.b (validName s)))):=fun S=>by
 have bad:¬aaq s->validName s=false:=fun h=>bM fun x=>h x.2.2;refine zcx [.tmp 2] func77 ntmps77 ?_;simp -implicitDefEqProofs (disch:=omega) only[go_sem];refine aB (Dv s.length 1 8) ?_;simp -implicitDefEqProofs (disch:=omega) only[go_sem]<;>(repeat(with_reducible refine And.intro ?_ ?_;focus first|omega|rfl|assumption|exact⟨_,rfl,rfl⟩|(simp;omega)|(simp;done)))
 with_reducible refine aD (fun hb=> ?_) (fun hb=> ?_)<;>have h:=hb<;>(try simp only[wf_preprocess] at h)<;>simp -implicitDefEqProofs (disch:=omega) only[go_sem,hb]<;>(repeat(with_reducible refine And.intro ?_ ?_;focus first|omega|rfl|assumption|exact⟨_,rfl,rfl⟩|(simp;omega)|(simp;done)))
 ·rw[show validName s=false from bM fun x=>h (by omega)]
 have hlen:=h;refine aB (KV s) ?_;simp -implicitDefEqProofs (disch:=omega) only[go_sem]<;>(repeat(with_reducible refine And.intro ?_ ?_;focus first|omega|rfl|assumption|exact⟨_,rfl,rfl⟩|(simp;omega)|(simp;done)))
 with_reducible refine aD (fun hb=> ?_) (fun hb=> ?_)<;>have h:=hb<;>(try simp only[wf_preprocess] at h)<;>simp -implicitDefEqProofs (disch:=omega) only[go_sem,hb]<;>(repeat(with_reducible refine And.intro ?_ ?_;focus first|omega|rfl|assumption|exact⟨_,rfl,rfl⟩|(simp;omega)|(simp;done)))
 ·rw[show validName s=false from bM fun x=>x.2.1 h]
 have hres:=h
 refine bO (ι:=Nat) zmx rfl [0,3] (fun i=>[.c (.d (.s s)),.c (.d (.i .i64 i))]) (fun _=>[]::S)
  (fun i=>i<=s.length/\∀j,j<i->lowerB (s.getD j 0)\/(j≠0/\y7 (s.getD j 0))) (fun i=>s.length-i) 0 rfl rfl ⟨Nat.zero_le _,fun j h=>by omega⟩ ?_
 rintro i ⟨p1,p2⟩
 have next:i<s.length->(lowerB (s.getD i 0)\/(i≠0/\y7 (s.getD i 0)))->∀j,j<i+1->lowerB (s.getD j 0)\/(j≠0/\y7 (s.getD j 0)):=fun hi h j hj=>by
  by_cases e:j=i
  ·subst e;exact h
  ·exact p2 j (by omega)
 simp -implicitDefEqProofs (disch:=omega) only[go_sem]
 with_reducible refine aD (fun hb=> ?_) (fun hb=> ?_)<;>have h:=hb<;>(try simp only[wf_preprocess] at h)<;>simp -implicitDefEqProofs (disch:=omega) only[go_sem,hb]<;>(repeat(with_reducible refine And.intro ?_ ?_;focus first|omega|rfl|assumption|exact⟨_,rfl,rfl⟩|(simp;omega)|(simp;done)))
 ·have hi:i<s.length:=by omega
  have bad':¬(lowerB (s.getD i 0)\/(i≠0/\y7 (s.getD i 0)))->validName s=false:=fun h=>bad fun x=>h (x i hi)
  have next:=next hi
  unfold lowerB y7 at bad' next
  all_goals try(with_reducible refine aD (fun hb=> ?_) (fun hb=> ?_)<;>have h:=hb<;>(try simp only[wf_preprocess] at h)<;>simp -implicitDefEqProofs (disch:=omega) only[go_sem,hb]<;>(repeat(with_reducible refine And.intro ?_ ?_;focus first|omega|rfl|assumption|exact⟨_,rfl,rfl⟩|(simp;omega)|(simp;done))))
  all_goals try(with_reducible refine aD (fun hb=> ?_) (fun hb=> ?_)<;>have h:=hb<;>(try simp only[wf_preprocess] at h)<;>simp -implicitDefEqProofs (disch:=omega) only[go_sem,hb]<;>(repeat(with_reducible refine And.intro ?_ ?_;focus first|omega|rfl|assumption|exact⟨_,rfl,rfl⟩|(simp;omega)|(simp;done))))
  all_goals try(with_reducible refine aD (fun hb=> ?_) (fun hb=> ?_)<;>have h:=hb<;>(try simp only[wf_preprocess] at h)<;>simp -implicitDefEqProofs (disch:=omega) only[go_sem,hb]<;>(repeat(with_reducible refine And.intro ?_ ?_;focus first|omega|rfl|assumption|exact⟨_,rfl,rfl⟩|(simp;omega)|(simp;done))))
  all_goals try(with_reducible refine aD (fun hb=> ?_) (fun hb=> ?_)<;>have h:=hb<;>(try simp only[wf_preprocess] at h)<;>simp -implicitDefEqProofs (disch:=omega) only[go_sem,hb]<;>(repeat(with_reducible refine And.intro ?_ ?_;focus first|omega|rfl|assumption|exact⟨_,rfl,rfl⟩|(simp;omega)|(simp;done))))
  all_goals try(with_reducible refine aD (fun hb=> ?_) (fun hb=> ?_)<;>have h:=hb<;>(try simp only[wf_preprocess] at h)<;>simp -implicitDefEqProofs (disch:=omega) only[go_sem,hb]<;>(repeat(with_reducible refine And.intro ?_ ?_;focus first|omega|rfl|assumption|exact⟨_,rfl,rfl⟩|(simp;omega)|(simp;done))))
  all_goals try(with_reducible refine aD (fun hb=> ?_) (fun hb=> ?_)<;>have h:=hb<;>(try simp only[wf_preprocess] at h)<;>simp -implicitDefEqProofs (disch:=omega) only[go_sem,hb]<;>(repeat(with_reducible refine And.intro ?_ ?_;focus first|omega|rfl|assumption|exact⟨_,rfl,rfl⟩|(simp;omega)|(simp;done))))
  all_goals first
   |exact cZ (i+1) (by omega) rfl rfl ⟨by omega,next (by omega)⟩
   |exact bN (bad' (by omega)).symm
 ·rw[show validName s=true from dH ⟨by omega,hres,fun j hj=>p2 j (by omega)⟩]
theorem aau(s:List UInt8):bg prog 99 [.c (.d (.s s))] (.c (.d (.b (Bb s)))):=fun S=>by
 refine zcx [.tmp 2] func99 ntmps99 ?_;simp -implicitDefEqProofs (disch:=omega) only[go_sem]
 with_reducible refine aD (fun hb=> ?_) (fun hb=> ?_)<;>have h:=hb<;>(try simp only[wf_preprocess] at h)<;>simp -implicitDefEqProofs (disch:=omega) only[go_sem,hb]<;>(repeat(with_reducible refine And.intro ?_ ?_;focus first|omega|rfl|assumption|exact⟨_,rfl,rfl⟩|(simp;omega)|(simp;done)))
 ·exact bN (dH (.inl h)).symm
 ·exact bN (by rw[rO];exact kX ⟨fun x=>.inr x,fun x=>x.resolve_left h⟩)
theorem MZ{x:ay}{i:Nat}(hi:i<x.fArgs.length)(h:x.sz<=4194304):x.fArgs[i].sz<=4194304/\x.fArgs.length<=4194304/\x.fName.length<=4194304:=by
 have hx:x.fArgs[i].sz<=aN (x.fArgs.map ay.enc):=dx (List.mem_map_of_mem (List.getElem_mem hi));simp only[ay.sz,ay.aj,bD,D.sz,List.length_map] at h;omega
theorem Rn{x:ay}(h:x.sz<=4194304):x.fArgs.length<=4194304/\x.fName.length<=4194304:=by
 simp only[ay.sz,ay.aj,bD,D.sz,List.length_map] at h;omega
theorem KW:∀n:Nat,∀t:ay,SizeOf.sizeOf t<n->t.sz<=4194304->∀(out:List (List UInt8))(l j:Nat)(S:Store),bA S (l,j)=some (.tok 1 (out.map encS))->out.length+t.cnt<=1073741824->
 cB prog 209 [t.v,.c (.bS (l,j) (out.map encS))] S (fun r S'=>r=.c (.bS (l,j) ((jX out t).map encS))/\S'=bq S (l,j) (.tok 1 ((jX out t).map encS)))
 |0=>fun t h=>by omega
 |n+1=>by
  have ih:=KW n;intro t hn hsz out l j S hk hc;have nu:=ay.jW t;have hts:=Rn hsz;have hcn:=ay.A9 t;have hkS:∀x:Ab.Obj,bA (bq S (l,j) x) (l,j)=some x:=fun x=>dw _ _ _ _ hk;have hS0:bq S (l,j) (.tok 1 (out.map encS))=S:=BO _ _ hk;have fin:jX out t=Bc (wS out t) t.fArgs:=adE out t;have hal:=Rl out t
  have e0:(out++[t.fName]).map encS=out.map encS++[[D.s t.fName]]:=by simp[encS]
  refine zcx [.tmp 4] func209 ntmps209 ?_;simp -implicitDefEqProofs (disch:=omega) only[go_sem,hk]
  repeat' (first
   |(with_reducible refine aD (fun hb=> ?_) (fun hb=> ?_)<;>have h:=hb<;>(try simp only[wf_preprocess] at h)<;>simp -implicitDefEqProofs (disch:=omega) only[go_sem,hb,hk]<;>(repeat(with_reducible refine And.intro ?_ ?_;focus first|omega|rfl|assumption|exact⟨_,rfl,rfl⟩|(simp;omega)|(simp;done))))
   |(refine aB (ou out t.fName (by omega)) ?_;simp -implicitDefEqProofs (disch:=omega) only[go_sem,hk];(repeat(with_reducible refine And.intro ?_ ?_;focus first|omega|rfl|assumption|exact⟨_,rfl,rfl⟩|(simp;omega)|(simp;done)))))
  all_goals first
   |(have ha:wS out t=out++[t.fName]:=if_pos ⟨by assumption,by assumption⟩)
   |(have ha:wS out t=out:=if_neg (fun x=>by have:=x.1;have:=x.2;contradiction))
  all_goals
   refine bO (ι:=Nat×List (List UInt8)) zmx rfl [1,2,5] (fun y=>[.c (.bS (1+l,j) (y.2.map encS)),.c (.ptr (0,0) 0),.c (.d (.i .i64 y.1))]) (fun y=>[.box [.d (.i .i64 t.aV),.d (.s t.fName),.d (.sl (t.fArgs.map ay.enc))]]::bq S (l,j) (.tok 1 (y.2.map encS)))
    (fun y=>y.1<=t.fArgs.length/\y.2.length+ay.gq (t.fArgs.drop y.1)<=1073741824/\Bc y.2 (t.fArgs.drop y.1)=jX out t) (fun y=>t.fArgs.length-y.1) (0,wS out t) (by first|(rw[ha,e0];rfl)|(rw[ha];rfl)) (by first|(simp only[ha,e0];done)|(simp only[ha,hS0];done)) ⟨Nat.zero_le _,by simp only[List.drop_zero];omega,by rw[fin];rfl⟩ ?_
   rintro⟨i,b⟩ ⟨p1,p2,p3⟩;simp only at p1 p2 p3;simp -implicitDefEqProofs (disch:=omega) only[go_sem]
   with_reducible refine aD (fun hb=> ?_) (fun hb=> ?_)<;>have h:=hb<;>(try simp only[wf_preprocess] at h)<;>simp -implicitDefEqProofs (disch:=omega) only[go_sem,hb]<;>(repeat(with_reducible refine And.intro ?_ ?_;focus first|omega|rfl|assumption|exact⟨_,rfl,rfl⟩|(simp;omega)|(simp;done)))
   ·have hi:i<t.fArgs.length:=by omega
    have hs:=List.sizeOf_lt_of_mem (List.getElem_mem hi);rw[TY hi] at p3;rw[List.drop_eq_getElem_cons hi,ay.gq] at p2;have hlen:=N7 t.fArgs[i] b
    (repeat(with_reducible refine And.intro ?_ ?_;focus first|omega|rfl|assumption|exact⟨_,rfl,rfl⟩|(simp;omega)|(simp;done)))
    refine bE rfl (ih t.fArgs[i] (by omega) (MZ hi hsz).1 b (1+l) j _ (by rw[aJ];exact hkS _) (by omega)) ?_;simp -implicitDefEqProofs (disch:=omega) only[go_sem,ah];exact cZ (i+1,jX b t.fArgs[i]) (by simp only;omega) rfl rfl ⟨by simp only;omega,by simp only;omega,p3⟩
   ·have hi:i=t.fArgs.length:=by omega
    rw[hi,List.drop_length] at p3;rw[<-p3];exact⟨rfl,rfl⟩
theorem KX(t:ay)(hsz:t.sz<=4194304):bg prog 185 [t.v] (.c (.d (.sl ((jX [] t).map encS)))):=fun S=>by
 have hc:=qI t
 have h0:∀S,cB prog 209 [t.v,.c (.bI [])] S (fun r S'=>r=.c (.d (.sl ((jX [] t).map encS)))/\S'=S):=fun S=>by
  refine cB.ah9 1 (es:=[]) (bB:=1) rfl (by simp) (KW _ t (Nat.lt_succ_self _) hsz [] 0 0 ([.tok 1 []]::S) rfl (by simp;omega)) ?_;rintro r fr S' ⟨rfl,h2⟩;injection h2 with h2 h3;exact⟨_,rfl,rfl,h3⟩
 refine zcx [.tmp 2] func185 ntmps185 ?_;simp -implicitDefEqProofs (disch:=omega) only[go_sem]
 (repeat(with_reducible refine And.intro ?_ ?_;focus first|omega|rfl|assumption|exact⟨_,rfl,rfl⟩|(simp;omega)|(simp;done)))
 refine bZ [true,true] rfl (h0 _) ?_;simp -implicitDefEqProofs (disch:=omega) only[go_sem]
theorem BU:∀n:Nat,∀t:ay,SizeOf.sizeOf t<n->t.sz<=4194304->bg prog 161 [t.v] (.c (.d (.b (qK t))))
 |0=>fun t h=>by omega
 |n+1=>by
  have ih:=BU n;intro t hn hsz S;have nu:=ay.jW t;have hts:=Rn hsz;refine zcx [.tmp 2] func161 ntmps161 ?_;simp -implicitDefEqProofs (disch:=omega) only[go_sem]
  refine bO (ι:=Nat) zmx rfl [1,3] (fun i=>[.c (.ptr (0,0) 0),.c (.d (.i .i64 i))]) (fun _=>[.box [.d (.i .i64 t.aV),.d (.s t.fName),.d (.sl (t.fArgs.map ay.enc))]]::S)
   (fun i=>i<=t.fArgs.length/\um (t.fArgs.drop i)=um t.fArgs) (fun i=>t.fArgs.length-i) 0 rfl rfl ⟨Nat.zero_le _,rfl⟩ ?_
  rintro i ⟨p1,p2⟩;simp -implicitDefEqProofs (disch:=omega) only[go_sem]
  with_reducible refine aD (fun hb=> ?_) (fun hb=> ?_)<;>have h:=hb<;>(try simp only[wf_preprocess] at h)<;>simp -implicitDefEqProofs (disch:=omega) only[go_sem,hb]<;>(repeat(with_reducible refine And.intro ?_ ?_;focus first|omega|rfl|assumption|exact⟨_,rfl,rfl⟩|(simp;omega)|(simp;done)))
  ·have hi:i<t.fArgs.length:=by omega
   rw[O8 hi] at p2
   (repeat(with_reducible refine And.intro ?_ ?_;focus first|omega|rfl|assumption|exact⟨_,rfl,rfl⟩|(simp;omega)|(simp;done)))
   refine aB (ih t.fArgs[i] (by have:=List.sizeOf_lt_of_mem (List.getElem_mem hi);omega) (MZ hi hsz).1) ?_;simp -implicitDefEqProofs (disch:=omega) only[go_sem]<;>(repeat(with_reducible refine And.intro ?_ ?_;focus first|omega|rfl|assumption|exact⟨_,rfl,rfl⟩|(simp;omega)|(simp;done)))
   with_reducible refine aD (fun hb=> ?_) (fun hb=> ?_)<;>have h:=hb<;>(try simp only[wf_preprocess] at h)<;>simp -implicitDefEqProofs (disch:=omega) only[go_sem,hb]<;>(repeat(with_reducible refine And.intro ?_ ?_;focus first|omega|rfl|assumption|exact⟨_,rfl,rfl⟩|(simp;omega)|(simp;done)))
   ·rw[Ep,<-p2,h];simp
   ·exact cZ (i+1) (by omega) rfl rfl ⟨by omega,by rw[<-p2,h];rfl⟩
  ·have hi:i=t.fArgs.length:=by omega
   rw[hi,List.drop_length] at p2;rw[Ep,<-p2];exact bN (by simp[um,sD])
theorem Dw(t:ay)(hsz:t.sz<=4194304):bg prog 161 [t.v] (.c (.d (.b (qK t)))):=BU _ t (Nat.lt_succ_self _) hsz
theorem Dx{x:ay}{i:Nat}(hi:i<x.fArgs.length)(h:x.sz<=4194304):x.fArgs[i].sz<=4194304/\x.fArgs.length<=4194304/\x.fName.length<=4194304:=by
 have hx:x.fArgs[i].sz<=aN (x.fArgs.map ay.enc):=dx (List.mem_map_of_mem (List.getElem_mem hi));simp only[ay.sz,ay.aj,bD,D.sz,List.length_map] at h;omega
theorem KY{x:ay}(h:x.sz<=4194304):x.fArgs.length<=4194304/\x.fName.length<=4194304:=by
 simp only[ay.sz,ay.aj,bD,D.sz,List.length_map] at h;omega
theorem qY:∀{ts:List ay}{i:Nat}(hi:i<ts.length),ay.gq (ts.drop i)=ts[i].cnt+ay.gq (ts.drop (i+1)):=fun {ts} {i} hi=>by
 rw[List.drop_eq_getElem_cons hi,ay.gq]
theorem T9:∀{ts:List ay}{i:Nat}(hi:i<ts.length),depths (ts.drop i)=max (qJ ts[i]+1) (depths (ts.drop (i+1))):=fun {ts} {i} hi=>by
 rw[List.drop_eq_getElem_cons hi,depths]
theorem Ro:∀{ts:List ay}{i:Nat}(hi:i<ts.length),kD (ts.drop i)=(formed ts[i]&&kD (ts.drop (i+1))):=fun {ts} {i} hi=>by
 rw[List.drop_eq_getElem_cons hi,kD]
theorem KZ:∀n:Nat,∀x:ay,SizeOf.sizeOf x<n->∀l:Int,0<=l->l<=1073741824->x.sz<=4194304->bg prog 210 [x.v,.c (.d (.i .i64 l))] (.c (.d (.i .i64 (mo l x.cnt))))
 |0=>fun x h=>by omega
 |n+1=>by
  have ih:=KZ n;intro x hn l h0 h1 hsz S;have nu:=ay.jW x;have hts:=KY hsz;have hcn:=ay.A9 x;refine zcx [.tmp 4] func210 ntmps210 ?_;simp -implicitDefEqProofs (disch:=omega) only[go_sem]
  refine bO (ι:=Nat×Int) zmx rfl [1,2,5] (fun y=>[.c (.d (.i .i64 y.2)),.c (.ptr (0,0) 0),.c (.d (.i .i64 y.1))]) (fun y=>[.box [.d (.i .i64 x.aV),.d (.s x.fName),.d (.sl (x.fArgs.map ay.enc))]]::S)
   (fun y=>y.1<=x.fArgs.length/\ -1<=y.2/\y.2<=1073741824/\(0<=y.2->mo l x.cnt=mo y.2 (ay.gq (x.fArgs.drop y.1)))/\(y.2<0->mo l x.cnt= -1)) (fun y=>x.fArgs.length-y.1) (0,l-1) rfl rfl ⟨Nat.zero_le _,by simp only;omega,by simp only;omega,fun h=> ?_,fun h=> ?_⟩ ?_
  ·simp only[List.drop_zero] at h ⊢;unfold mo;rw[hcn];split<;>split<;>omega
  ·simp only at h;exact HY (by omega)
  rintro⟨i,c⟩ ⟨p1,p2,p3,p4,p5⟩;simp only at p1 p2 p3 p4 p5;simp -implicitDefEqProofs (disch:=omega) only[go_sem]
  with_reducible refine aD (fun hb=> ?_) (fun hb=> ?_)<;>have h:=hb<;>(try simp only[wf_preprocess] at h)<;>simp -implicitDefEqProofs (disch:=omega) only[go_sem,hb]<;>(repeat(with_reducible refine And.intro ?_ ?_;focus first|omega|rfl|assumption|exact⟨_,rfl,rfl⟩|(simp;omega)|(simp;done)))
  ·have hi:i<x.fArgs.length:=by omega
   with_reducible refine aD (fun hb=> ?_) (fun hb=> ?_)<;>have h:=hb<;>(try simp only[wf_preprocess] at h)<;>simp -implicitDefEqProofs (disch:=omega) only[go_sem,hb]<;>(repeat(with_reducible refine And.intro ?_ ?_;focus first|omega|rfl|assumption|exact⟨_,rfl,rfl⟩|(simp;omega)|(simp;done)))
   ·have hsz':=Dx hi hsz;have p6:=p4 h;rw[qY hi] at p6
    (repeat(with_reducible refine And.intro ?_ ?_;focus first|omega|rfl|assumption|exact⟨_,rfl,rfl⟩|(simp;omega)|(simp;done)))
    refine aB (ih x.fArgs[i] (by have:=List.sizeOf_lt_of_mem (List.getElem_mem hi);omega) c (by omega) (by omega) (by omega)) ?_;simp -implicitDefEqProofs (disch:=omega) only[go_sem]<;>(repeat(with_reducible refine And.intro ?_ ?_;focus first|omega|rfl|assumption|exact⟨_,rfl,rfl⟩|(simp;omega)|(simp;done)));refine cZ (i+1,mo c _) (by simp only;omega) rfl rfl ⟨by simp only;omega,?_,?_,fun h=> ?_,fun h=> ?_⟩
    ·simp only;unfold mo;split<;>omega
    ·simp only;unfold mo;split<;>omega
    ·simp only at h ⊢;rw[p6];have:=HV (l:=c) (a:=x.fArgs[i].cnt) (by omega);rw[this.1];unfold mo;split<;>split<;>omega
    ·simp only at h ⊢;rw[p6];have:=En h;exact HY (by omega)
   ·have hc:c= -1:=by omega
    rw[p5 (by omega),hc]
  ·have hi:i=x.fArgs.length:=by omega
   by_cases hc:0<=c
   ·rw[p4 hc,hi,List.drop_length,ay.gq,Rc (by omega)];exact int_eq (by simp)
   ·rw[p5 (by omega)];exact int_eq (by omega)
theorem aaw(x:ay)(l:Int)(h0:0<=l)(h1:l<=1073741824)(hsz:x.sz<=4194304):bg prog 210 [x.v,.c (.d (.i .i64 l))] (.c (.d (.i .i64 (mo l x.cnt)))):=KZ _ x (Nat.lt_succ_self _) l h0 h1 hsz
theorem Rp(a b:Int):bg prog 233 [.c (.d (.i .i64 a)),.c (.d (.i .i64 b))] (.c (.d (.i .i64 (max a b)))):=fun S=>by
 refine zcx [.tmp 4] func233 ntmps233 ?_;simp -implicitDefEqProofs (disch:=omega) only[go_sem]
 with_reducible refine aD (fun hb=> ?_) (fun hb=> ?_)<;>have h:=hb<;>(try simp only[wf_preprocess] at h)<;>simp -implicitDefEqProofs (disch:=omega) only[go_sem,hb]<;>(repeat(with_reducible refine And.intro ?_ ?_;focus first|omega|rfl|assumption|exact⟨_,rfl,rfl⟩|(simp;omega)|(simp;done)))
 ·exact int_eq (by omega)
 ·exact int_eq (by omega)
theorem Fh:∀n:Nat,∀x:ay,SizeOf.sizeOf x<n->x.sz<=4194304->bg prog 211 [x.v] (.c (.d (.i .i64 (qJ x))))
 |0=>fun x h=>by omega
 |n+1=>by
  have ih:=Fh n;intro x hn hsz S;have nu:=ay.jW x;have hts:=KY hsz;have hd1:=Ga x;have hd2:=qI x;refine zcx [.tmp 2] func211 ntmps211 ?_;simp -implicitDefEqProofs (disch:=omega) only[go_sem]
  refine bO (ι:=Nat×Nat) zmx rfl [1,3,4] (fun y=>[.c (.ptr (0,0) 0),.c (.d (.i .i64 y.2)),.c (.d (.i .i64 y.1))]) (fun y=>[.box [.d (.i .i64 x.aV),.d (.s x.fName),.d (.sl (x.fArgs.map ay.enc))]]::S)
   (fun y=>y.1<=x.fArgs.length/\qJ x=max y.2 (depths (x.fArgs.drop y.1))) (fun y=>x.fArgs.length-y.1) (0,0) rfl rfl ⟨Nat.zero_le _,by simp[aar]⟩ ?_
  rintro⟨i,c⟩ ⟨p1,p2⟩;simp only at p1 p2;simp -implicitDefEqProofs (disch:=omega) only[go_sem]
  with_reducible refine aD (fun hb=> ?_) (fun hb=> ?_)<;>have h:=hb<;>(try simp only[wf_preprocess] at h)<;>simp -implicitDefEqProofs (disch:=omega) only[go_sem,hb]<;>(repeat(with_reducible refine And.intro ?_ ?_;focus first|omega|rfl|assumption|exact⟨_,rfl,rfl⟩|(simp;omega)|(simp;done)))
  ·have hi:i<x.fArgs.length:=by omega
   have hsz':=Dx hi hsz;rw[T9 hi] at p2;have hd3:=Ga x.fArgs[i];have hd4:=qI x.fArgs[i]
   (repeat(with_reducible refine And.intro ?_ ?_;focus first|omega|rfl|assumption|exact⟨_,rfl,rfl⟩|(simp;omega)|(simp;done)))
   refine aB (ih x.fArgs[i] (by have:=List.sizeOf_lt_of_mem (List.getElem_mem hi);omega) (by omega)) ?_;simp -implicitDefEqProofs (disch:=omega) only[go_sem]<;>(repeat(with_reducible refine And.intro ?_ ?_;focus first|omega|rfl|assumption|exact⟨_,rfl,rfl⟩|(simp;omega)|(simp;done)));refine aB (Rp _ _) ?_;simp -implicitDefEqProofs (disch:=omega) only[go_sem]<;>(repeat(with_reducible refine And.intro ?_ ?_;focus first|omega|rfl|assumption|exact⟨_,rfl,rfl⟩|(simp;omega)|(simp;done)));rw[show max (c:Int) (1+(qJ x.fArgs[i]:Int))=((max c (1+qJ x.fArgs[i]):Nat):Int) by omega];exact cZ (i+1,max c (1+qJ x.fArgs[i])) (by simp only;omega) rfl rfl ⟨by simp only;omega,by simp only;omega⟩
  ·have hi:i=x.fArgs.length:=by omega
   rw[hi,List.drop_length,depths] at p2;exact int_eq (by omega)
theorem Rq(x:ay)(hsz:x.sz<=4194304):bg prog 211 [x.v] (.c (.d (.i .i64 (qJ x)))):=Fh _ x (Nat.lt_succ_self _) hsz
theorem K3:∀n:Nat,∀x:ay,SizeOf.sizeOf x<n->x.sz<=4194304->bg prog 212 [x.v] (.c (.d (.b (formed x))))
 |0=>fun x h=>by omega
 |n+1=>by
  have ih:=K3 n;intro x hn hsz S;have nu:=ay.jW x;have hts:=KY hsz;have shut:¬((x.aV=1\/x.aV=4)/\validName x.fName=true/\x.fArgs.length=0\/x.aV=3/\validName x.fName=true/\x.fArgs.length=1\/x.aV=2/\(validName x.fName=true/\x.fArgs.length<=3\/Bb x.fName=true/\x.fArgs.length=0))->V.c (.d (.b false))=V.c (.d (.b (formed x))):=fun h=>bN (by rw[F9,show Ia x.aV x.fName x.fArgs.length=false from bM h];rfl)
  have akC:∀b:Bool,(b=true<->((x.aV=1\/x.aV=4)/\validName x.fName=true/\x.fArgs.length=0\/x.aV=3/\validName x.fName=true/\x.fArgs.length=1\/x.aV=2/\(validName x.fName=true/\x.fArgs.length<=3\/Bb x.fName=true/\x.fArgs.length=0)))->b=Ia x.aV x.fName x.fArgs.length:=fun b h=>by
   rw[Bool.eq_iff_iff,h];unfold Ia;rw[IK]
  refine zcx [.tmp 2] func212 ntmps212 ?_;simp -implicitDefEqProofs (disch:=omega) only[go_sem];refine aB (gU x.fName (by omega)) ?_;simp -implicitDefEqProofs (disch:=omega) only[go_sem]<;>(repeat(with_reducible refine And.intro ?_ ?_;focus first|omega|rfl|assumption|exact⟨_,rfl,rfl⟩|(simp;omega)|(simp;done)))
  repeat' (first
   |(with_reducible refine aD (fun hb=> ?_) (fun hb=> ?_)<;>have h:=hb<;>(try simp only[wf_preprocess] at h)<;>simp -implicitDefEqProofs (disch:=omega) only[go_sem,hb]<;>(repeat(with_reducible refine And.intro ?_ ?_;focus first|omega|rfl|assumption|exact⟨_,rfl,rfl⟩|(simp;omega)|(simp;done))))
   |(refine aB (aau x.fName) ?_;simp -implicitDefEqProofs (disch:=omega) only[go_sem]))
  all_goals first
   |(refine shut (fun y=> ?_);rcases y with⟨_,_,_⟩|⟨_,_,_⟩|⟨_,⟨_,_⟩|⟨_,_⟩⟩<;>first|omega|(simp_all;done))
   |skip
  all_goals
   refine bO (ι:=Nat×Bool) zmx rfl [1,3,4] (fun y=>[.c (.ptr (0,0) 0),.c (.d (.b y.2)),.c (.d (.i .i64 y.1))]) (fun y=>[.box [.d (.i .i64 x.aV),.d (.s x.fName),.d (.sl (x.fArgs.map ay.enc))]]::S)
    (fun y=>y.1<=x.fArgs.length/\(y.2&&kD (x.fArgs.drop y.1))=formed x) (fun y=>x.fArgs.length-y.1) (0,Ia x.aV x.fName x.fArgs.length) ?_ rfl ⟨Nat.zero_le _,by rw[F9];rfl⟩ ?_
   ·simp only[List.map_cons,List.map_nil];simp -implicitDefEqProofs (disch:=omega) only[go_sem,List.cons.injEq,V.c.injEq,C.d.injEq,D.b.injEq,Int.natCast_zero];refine akC _ ⟨fun y=> ?_,fun y=> ?_⟩
    ·(try simp only[decide_eq_true_eq,Bool.false_eq_true] at y)<;>first
       |exact .inl ⟨by omega,by assumption,by omega⟩
       |exact .inr (.inl ⟨by omega,by assumption,by omega⟩)
       |exact .inr (.inr ⟨by omega,.inl ⟨by assumption,by omega⟩⟩)
       |exact .inr (.inr ⟨by omega,.inr ⟨by assumption,by omega⟩⟩)
    ·rcases y with⟨_,_,_⟩|⟨_,_,_⟩|⟨_,⟨_,_⟩|⟨_,_⟩⟩<;>first|omega|(simp only[decide_eq_true_eq];omega)|(simp_all;done)
   rintro⟨i,c⟩ ⟨p1,p2⟩;simp only at p1 p2;simp -implicitDefEqProofs (disch:=omega) only[go_sem]
   with_reducible refine aD (fun hb=> ?_) (fun hb=> ?_)<;>have h:=hb<;>(try simp only[wf_preprocess] at h)<;>simp -implicitDefEqProofs (disch:=omega) only[go_sem,hb]<;>(repeat(with_reducible refine And.intro ?_ ?_;focus first|omega|rfl|assumption|exact⟨_,rfl,rfl⟩|(simp;omega)|(simp;done)))
   ·have hi:i<x.fArgs.length:=by omega
    have hsz':=Dx hi hsz;rw[Ro hi] at p2
    with_reducible refine aD (fun hb=> ?_) (fun hb=> ?_)<;>have h:=hb<;>(try simp only[wf_preprocess] at h)<;>simp -implicitDefEqProofs (disch:=omega) only[go_sem,hb]<;>(repeat(with_reducible refine And.intro ?_ ?_;focus first|omega|rfl|assumption|exact⟨_,rfl,rfl⟩|(simp;omega)|(simp;done)))
    ·refine aB (ih x.fArgs[i] (by have:=List.sizeOf_lt_of_mem (List.getElem_mem hi);omega) (by omega)) ?_;simp -implicitDefEqProofs (disch:=omega) only[go_sem];exact cZ (i+1,formed x.fArgs[i]) (by simp only;omega) rfl rfl ⟨by simp only;omega,by rw[<-p2,h];rfl⟩
    ·exact cZ (i+1,false) (by simp only;omega) rfl rfl ⟨by simp only;omega,by rw[<-p2,h];rfl⟩
   ·have hi:i=x.fArgs.length:=by omega
    rw[hi,List.drop_length,kD,Bool.and_true] at p2;rw[p2]
theorem aax(x:ay)(hsz:x.sz<=4194304):bg prog 212 [x.v] (.c (.d (.b (formed x)))):=K3 _ x (Nat.lt_succ_self _) hsz
theorem vK(x:ay)(hsz:x.sz<=4194304):bg prog 186 [x.v] (.c (.d (.b (qZ x)))):=fun S=>by
 refine zcx [.tmp 2] func186 ntmps186 ?_;simp -implicitDefEqProofs (disch:=omega) only[go_sem];refine aB (aaw x 60 (by omega) (by omega) hsz) ?_;simp -implicitDefEqProofs (disch:=omega) only[go_sem]<;>(repeat(with_reducible refine And.intro ?_ ?_;focus first|omega|rfl|assumption|exact⟨_,rfl,rfl⟩|(simp;omega)|(simp;done)))
 with_reducible refine aD (fun hb=> ?_) (fun hb=> ?_)<;>have h:=hb<;>(try simp only[wf_preprocess] at h)<;>simp -implicitDefEqProofs (disch:=omega) only[go_sem,hb]<;>(repeat(with_reducible refine And.intro ?_ ?_;focus first|omega|rfl|assumption|exact⟨_,rfl,rfl⟩|(simp;omega)|(simp;done)))
 ·have h1:=(HV (l:=60) (a:=x.cnt) (by omega)).2;refine aB (Rq x hsz) ?_;simp -implicitDefEqProofs (disch:=omega) only[go_sem]<;>(repeat(with_reducible refine And.intro ?_ ?_;focus first|omega|rfl|assumption|exact⟨_,rfl,rfl⟩|(simp;omega)|(simp;done)))
  with_reducible refine aD (fun hb=> ?_) (fun hb=> ?_)<;>have h:=hb<;>(try simp only[wf_preprocess] at h)<;>simp -implicitDefEqProofs (disch:=omega) only[go_sem,hb]<;>(repeat(with_reducible refine And.intro ?_ ?_;focus first|omega|rfl|assumption|exact⟨_,rfl,rfl⟩|(simp;omega)|(simp;done)))
  ·refine aB (aax x hsz) ?_;simp -implicitDefEqProofs (disch:=omega) only[go_sem]<;>(repeat(with_reducible refine And.intro ?_ ?_;focus first|omega|rfl|assumption|exact⟨_,rfl,rfl⟩|(simp;omega)|(simp;done)));refine bN ?_
   cases hf:formed x with
   |false=>exact(bM fun y=>by rw[hf] at y;cases y.1).symm
   |true=>exact(dH ⟨hf,by omega,by omega⟩).symm
  ·exact bN (bM fun y=>by have:=y.2.1;omega).symm
 ·have h1:=En (l:=60) (a:=x.cnt) (by omega);exact bN (bM fun y=>by have:=y.2.2;omega).symm
theorem Iq(x:aU)(hn:x.bU.length<=1073741824)(hsz:x.fType.sz<=4194304):bg prog 187 [x.v] (.c (.d (.b (validName x.bU&&qZ x.fType)))):=fun S=>by
 refine zcx [.tmp 2] func187 ntmps187 ?_;simp -implicitDefEqProofs (disch:=omega) only[go_sem];refine aB (gU x.bU hn) ?_;simp -implicitDefEqProofs (disch:=omega) only[go_sem]<;>(repeat(with_reducible refine And.intro ?_ ?_;focus first|omega|rfl|assumption|exact⟨_,rfl,rfl⟩|(simp;omega)|(simp;done)))
 with_reducible refine aD (fun hb=> ?_) (fun hb=> ?_)<;>have h:=hb<;>(try simp only[wf_preprocess] at h)<;>simp -implicitDefEqProofs (disch:=omega) only[go_sem,hb]<;>(repeat(with_reducible refine And.intro ?_ ?_;focus first|omega|rfl|assumption|exact⟨_,rfl,rfl⟩|(simp;omega)|(simp;done)))
 ·refine aB (vK x.fType hsz) ?_;simp -implicitDefEqProofs (disch:=omega) only[go_sem]<;>(repeat(with_reducible refine And.intro ?_ ?_;focus first|omega|rfl|assumption|exact⟨_,rfl,rfl⟩|(simp;omega)|(simp;done)))
 ·rfl
theorem Ua(xs ys:List (List UInt8))(hl:xs.length<=1073741824):bg prog 232 [.c (.d (.sl (xs.map encS))),.c (.d (.sl (ys.map encS)))] (.c (.d (.b (dec (xs=ys))))):=fun S=>by
 refine zcx [.tmp 4] func232 ntmps232 ?_;simp -implicitDefEqProofs (disch:=omega) only[go_sem,encS]
 with_reducible refine aD (fun hb=> ?_) (fun hb=> ?_)<;>have h:=hb<;>(try simp only[wf_preprocess] at h)<;>simp -implicitDefEqProofs (disch:=omega) only[go_sem,hb,encS]<;>(repeat(with_reducible refine And.intro ?_ ?_;focus first|omega|rfl|assumption|exact⟨_,rfl,rfl⟩|(simp;omega)|(simp;done)))
 ·exact bN (bM (fun e=>h (by rw[e]))).symm
 have hl':xs.length=ys.length:=by omega
 refine bO (ι:=Nat) zmx rfl [0,1,5] (fun i=>[.c (.d (.sl (xs.map encS))),.c (.d (.sl (ys.map encS))),.c (.d (.i .i64 i))]) (fun _=>[]::S)
  (fun i=>i<=xs.length/\∀j,j<i->xs[j]? =ys[j]?) (fun y=>xs.length-y) 0 rfl rfl ⟨Nat.zero_le _,fun j h=>by omega⟩ ?_
 rintro i ⟨p1,p2⟩;simp -implicitDefEqProofs (disch:=omega) only[go_sem,encS]
 with_reducible refine aD (fun hb=> ?_) (fun hb=> ?_)<;>have h:=hb<;>(try simp only[wf_preprocess] at h)<;>simp -implicitDefEqProofs (disch:=omega) only[go_sem,hb,encS]<;>(repeat(with_reducible refine And.intro ?_ ?_;focus first|omega|rfl|assumption|exact⟨_,rfl,rfl⟩|(simp;omega)|(simp;done)))
 ·have hi:i<xs.length:=by omega
  have hi':i<ys.length:=by omega
  (repeat(with_reducible refine And.intro ?_ ?_;focus first|omega|rfl|assumption|exact⟨_,rfl,rfl⟩|(simp;omega)|(simp;done)))
  with_reducible refine aD (fun hb=> ?_) (fun hb=> ?_)<;>have h:=hb<;>(try simp only[wf_preprocess] at h)<;>simp -implicitDefEqProofs (disch:=omega) only[go_sem,hb,encS]<;>(repeat(with_reducible refine And.intro ?_ ?_;focus first|omega|rfl|assumption|exact⟨_,rfl,rfl⟩|(simp;omega)|(simp;done)))
  ·exact bN (bM (fun e=>h (by simp only[e]))).symm
  refine cZ (i+1) (by omega) rfl rfl ⟨by omega,fun j hj=> ?_⟩;by_cases e:j=i
  ·subst e;rw[List.getElem?_eq_getElem hi,List.getElem?_eq_getElem hi',h]
  ·exact p2 j (by omega)
 ·have hi:i=xs.length:=by omega
  refine bN (dH (List.ext_getElem? fun j=> ?_)).symm;by_cases hj:j<i
  ·exact p2 j hj
  ·rw[List.getElem?_eq_none (by omega),List.getElem?_eq_none (by omega)]
theorem y8{s:List UInt8}{xs:List (List UInt8)}(h:s∈xs):s.length<=aN (xs.map encS):=by
 have:=dx (List.mem_map_of_mem (f:=encS) h);simpa [encS,bD,D.sz] using this
noncomputable def iT(xs:List (List UInt8)):Bool:=dec xs.Nodup&&xs.all validName
noncomputable def among(xs ys:List (List UInt8)):Bool:=xs.all fun s=>dec (s∈ys)
noncomputable def iK(vars:List (List UInt8))(t:ay):Bool:=qZ t&&among (jX [] t) vars
noncomputable def mU(vars:List (List UInt8))(ts:List ay):Bool:=ts.all (iK vars)
theorem adF{s l:List UInt8}{m:List (List UInt8)}:s∈FP l m<->s=l\/s∈m:=by
 unfold FP;split
 ·rename_i h;exact⟨.inr,fun x=>x.elim (fun e=>e▸h) id⟩
 ·rw[List.mem_append,List.mem_singleton];exact Or.comm
theorem jB{α:Type}{xs:List α}{i:Nat}(hi:i<xs.length):xs.take (i+1)=xs.take i++[xs[i]]:=List.take_succ_eq_append_getElem hi
theorem Er{α:Type}{xs:List α}{x:α}:(xs++[x]).Nodup<->xs.Nodup/\x∉xs:=by
 rw[List.nodup_append];constructor
 ·rintro⟨h1,_,h3⟩;exact⟨h1,fun hx=>h3 x hx x (by simp) rfl⟩
 ·rintro⟨h1,h2⟩;exact⟨h1,by simp,fun a ha b hb e=>by simp at hb;subst hb;exact h2 (e▸ha)⟩
theorem N8{α:Type}{xs:List α}{i:Nat}(hi:i<xs.length)(h:xs[i]∈xs.take i):¬xs.Nodup:=fun hn=>by
 have h1:(xs.take (i+1)).Nodup:=hn.sublist (List.take_sublist _ _);rw[jB hi] at h1;exact(Er.1 h1).2 h
theorem tJ(xs:List (List UInt8))(hl:xs.length<=1073741824):bg prog 40 [.c (.d (.sl (xs.map encS)))] (.c (.d (.b (dec xs.Nodup)))):=fun S=>by
 refine zcx [.tmp 2] func40 ntmps40 ?_;simp -implicitDefEqProofs (disch:=omega) only[go_sem,encS]
 (repeat(with_reducible refine And.intro ?_ ?_;focus first|omega|rfl|assumption|exact⟨_,rfl,rfl⟩|(simp;omega)|(simp;done)))
 refine bO (ι:=Nat×List (List UInt8)) zmx rfl [3,7,8,9] (fun y=>[.c (.mp (0,0)),.c (.d (.sl (xs.map encS))),.c (.d (.i .i64 xs.length)),.c (.d (.i .i64 y.1))]) (fun y=>[.mp y.2]::S)
  (fun y=>y.1<=xs.length/\(∀s,s∈y.2<->s∈xs.take y.1)/\(xs.take y.1).Nodup) (fun y=>xs.length-y.1) (0,[]) rfl rfl ⟨Nat.zero_le _,fun s=>by simp,by simp⟩ ?_
 rintro⟨i,m⟩ ⟨p1,p2,p3⟩;simp only at p1 p2 p3;simp -implicitDefEqProofs (disch:=omega) only[go_sem,encS]
 with_reducible refine aD (fun hb=> ?_) (fun hb=> ?_)<;>have h:=hb<;>(try simp only[wf_preprocess] at h)<;>simp -implicitDefEqProofs (disch:=omega) only[go_sem,hb,encS]<;>(repeat(with_reducible refine And.intro ?_ ?_;focus first|omega|rfl|assumption|exact⟨_,rfl,rfl⟩|(simp;omega)|(simp;done)))
 ·have hi:i<xs.length:=by omega
  (repeat(with_reducible refine And.intro ?_ ?_;focus first|omega|rfl|assumption|exact⟨_,rfl,rfl⟩|(simp;omega)|(simp;done)))
  with_reducible refine aD (fun hb=> ?_) (fun hb=> ?_)<;>have h:=hb<;>(try simp only[wf_preprocess] at h)<;>simp -implicitDefEqProofs (disch:=omega) only[go_sem,hb,encS]<;>(repeat(with_reducible refine And.intro ?_ ?_;focus first|omega|rfl|assumption|exact⟨_,rfl,rfl⟩|(simp;omega)|(simp;done)))
  ·exact bN (bM (N8 hi ((p2 _).1 h))).symm
  ·refine cZ (i+1,FP xs[i] m) (by simp only;omega) rfl rfl ⟨by simp only;omega,fun s=> ?_,?_⟩
   ·simp only
    rw[adF,jB hi,List.mem_append,List.mem_singleton,p2];exact Or.comm
   ·simp only
    rw[jB hi,Er];exact⟨p3,fun hx=>h ((p2 _).2 hx)⟩
 ·rw[List.take_of_length_le (by omega)] at p3;exact bN (dH p3).symm
theorem iW(xs:List (List UInt8))(hl:xs.length<=1073741824):bg prog 57 [.c (.d (.sl (xs.map encS)))] (.c (.d (.b (dec xs.Nodup)))):=fun S=>by
 refine zcx [.tmp 2] func57 ntmps57 ?_;simp -implicitDefEqProofs (disch:=omega) only[go_sem,encS]
 refine bO (ι:=Nat) zmx rfl [0,3] (fun i=>[.c (.d (.sl (xs.map encS))),.c (.d (.i .i64 i))]) (fun _=>[]::S)
  (fun i=>i<=xs.length/\(xs.take i).Nodup) (fun i=>xs.length-i) 0 rfl rfl ⟨Nat.zero_le _,by simp⟩ ?_
 rintro i ⟨p1,p3⟩;simp -implicitDefEqProofs (disch:=omega) only[go_sem,encS]
 with_reducible refine aD (fun hb=> ?_) (fun hb=> ?_)<;>have h:=hb<;>(try simp only[wf_preprocess] at h)<;>simp -implicitDefEqProofs (disch:=omega) only[go_sem,hb,encS]<;>(repeat(with_reducible refine And.intro ?_ ?_;focus first|omega|rfl|assumption|exact⟨_,rfl,rfl⟩|(simp;omega)|(simp;done)))
 ·have hi:i<xs.length:=by omega
  have hc:∀y∈xs.map encS,y.length=1:=fun y hy=>by
   obtain⟨s,_,rfl⟩:=List.mem_map.1 hy;rfl
  have e:(xs.map encS).take i=(xs.take i).map encS:=List.map_take.symm;refine And.intro ⟨by omega,by omega,hc⟩ ?_
  (repeat(with_reducible refine And.intro ?_ ?_;focus first|omega|rfl|assumption|exact⟨_,rfl,rfl⟩|(simp;omega)|(simp;done)))
  simp -implicitDefEqProofs (disch:=omega) only[go_sem,Int.toNat_zero,e];refine aB (ou (xs.take i) xs[i] (by simp;omega)) ?_;simp -implicitDefEqProofs (disch:=omega) only[go_sem]<;>(repeat(with_reducible refine And.intro ?_ ?_;focus first|omega|rfl|assumption|exact⟨_,rfl,rfl⟩|(simp;omega)|(simp;done)))
  with_reducible refine aD (fun hb=> ?_) (fun hb=> ?_)<;>have h:=hb<;>(try simp only[wf_preprocess] at h)<;>simp -implicitDefEqProofs (disch:=omega) only[go_sem,hb]<;>(repeat(with_reducible refine And.intro ?_ ?_;focus first|omega|rfl|assumption|exact⟨_,rfl,rfl⟩|(simp;omega)|(simp;done)))
  ·exact bN (bM (N8 hi h)).symm
  ·refine cZ (i+1) (by omega) rfl rfl ⟨by omega,?_⟩;rw[jB hi,Er];exact⟨p3,h⟩
 ·rw[List.take_of_length_le (by omega)] at p3;exact bN (dH p3).symm
theorem K4(xs:List (List UInt8))(hl:xs.length<=1073741824)(hs:∀s∈xs,s.length<=4194304):bg prog 122 [.c (.d (.sl (xs.map encS)))] (.c (.d (.b (xs.all validName)))):=fun S=>by
 refine zcx [.tmp 2] func122 ntmps122 ?_;simp -implicitDefEqProofs (disch:=omega) only[go_sem,encS]
 refine bO (ι:=Nat) zmx rfl [0,3] (fun i=>[.c (.d (.sl (xs.map encS))),.c (.d (.i .i64 i))]) (fun _=>[]::S)
  (fun i=>i<=xs.length/\(xs.drop i).all validName=xs.all validName) (fun i=>xs.length-i) 0 rfl rfl ⟨Nat.zero_le _,rfl⟩ ?_
 rintro i ⟨p1,p2⟩;simp -implicitDefEqProofs (disch:=omega) only[go_sem,encS]
 with_reducible refine aD (fun hb=> ?_) (fun hb=> ?_)<;>have h:=hb<;>(try simp only[wf_preprocess] at h)<;>simp -implicitDefEqProofs (disch:=omega) only[go_sem,hb,encS]<;>(repeat(with_reducible refine And.intro ?_ ?_;focus first|omega|rfl|assumption|exact⟨_,rfl,rfl⟩|(simp;omega)|(simp;done)))
 ·have hi:i<xs.length:=by omega
  have hz:=hs _ (List.getElem_mem hi);rw[List.drop_eq_getElem_cons hi,List.all_cons] at p2
  (repeat(with_reducible refine And.intro ?_ ?_;focus first|omega|rfl|assumption|exact⟨_,rfl,rfl⟩|(simp;omega)|(simp;done)))
  refine aB (gU xs[i] (by omega)) ?_;simp -implicitDefEqProofs (disch:=omega) only[go_sem]<;>(repeat(with_reducible refine And.intro ?_ ?_;focus first|omega|rfl|assumption|exact⟨_,rfl,rfl⟩|(simp;omega)|(simp;done)))
  with_reducible refine aD (fun hb=> ?_) (fun hb=> ?_)<;>have h:=hb<;>(try simp only[wf_preprocess] at h)<;>simp -implicitDefEqProofs (disch:=omega) only[go_sem,hb]<;>(repeat(with_reducible refine And.intro ?_ ?_;focus first|omega|rfl|assumption|exact⟨_,rfl,rfl⟩|(simp;omega)|(simp;done)))
  ·rw[<-p2,h];rfl
  ·exact cZ (i+1) (by omega) rfl rfl ⟨by omega,by rw[<-p2,h];rfl⟩
 ·rw[List.drop_of_length_le (by omega)] at p2;rw[<-p2];rfl
theorem kG(xs:List (List UInt8))(most:Int)(hl:xs.length<=1073741824)(hs:∀s∈xs,s.length<=4194304):bg prog 78 [.c (.d (.sl (xs.map encS))),.c (.d (.i .i64 most))] (.c (.d (.b (dec ((xs.length:Int)<=most)&&iT xs)))):=fun S=>by
 refine zcx [.tmp 4] func78 ntmps78 ?_;simp -implicitDefEqProofs (disch:=omega) only[go_sem]
 with_reducible refine aD (fun hb=> ?_) (fun hb=> ?_)<;>have h:=hb<;>(try simp only[wf_preprocess] at h)<;>simp -implicitDefEqProofs (disch:=omega) only[go_sem,hb]<;>(repeat(with_reducible refine And.intro ?_ ?_;focus first|omega|rfl|assumption|exact⟨_,rfl,rfl⟩|(simp;omega)|(simp;done)))
 ·have h1:=h;refine aB (K4 xs hl hs) ?_;simp -implicitDefEqProofs (disch:=omega) only[go_sem]<;>(repeat(with_reducible refine And.intro ?_ ?_;focus first|omega|rfl|assumption|exact⟨_,rfl,rfl⟩|(simp;omega)|(simp;done)))
  with_reducible refine aD (fun hb=> ?_) (fun hb=> ?_)<;>have h:=hb<;>(try simp only[wf_preprocess] at h)<;>simp -implicitDefEqProofs (disch:=omega) only[go_sem,hb]<;>(repeat(with_reducible refine And.intro ?_ ?_;focus first|omega|rfl|assumption|exact⟨_,rfl,rfl⟩|(simp;omega)|(simp;done)))
  ·refine aB (iW xs hl) ?_;simp -implicitDefEqProofs (disch:=omega) only[go_sem]<;>(repeat(with_reducible refine And.intro ?_ ?_;focus first|omega|rfl|assumption|exact⟨_,rfl,rfl⟩|(simp;omega)|(simp;done)));exact bN (by rw[dH h1];unfold iT;rw[hb];simp)
  ·exact bN (by rw[dH h1];unfold iT;rw[hb];simp)
 ·exact bN (by rw[bM h];rfl)
theorem rQ(t:ay)(vars:List (List UInt8))(hsz:t.sz<=4194304)(hv:vars.length<=1073741824):bg prog 160 [t.v,.c (.d (.sl (vars.map encS)))] (.c (.d (.b (iK vars t)))):=fun S=>by
 have h1:=N7 t [];have h2:=qI t
 have hlen:(jX [] t).length<=1073741824:=by simp at h1;omega
 refine zcx [.tmp 4] func160 ntmps160 ?_;simp -implicitDefEqProofs (disch:=omega) only[go_sem];refine aB (KX t hsz) ?_;simp -implicitDefEqProofs (disch:=omega) only[go_sem]<;>(repeat(with_reducible refine And.intro ?_ ?_;focus first|omega|rfl|assumption|exact⟨_,rfl,rfl⟩|(simp;omega)|(simp;done)));generalize hxs:jX [] t=xs at hlen
 refine bO (ι:=Nat) zmx rfl [1,2,5,6] (fun i=>[.c (.d (.sl (vars.map encS))),.c (.ptr (0,0) 0),.c (.d (.sl (xs.map encS))),.c (.d (.i .i64 i))]) (fun _=>[.box [.d (.i .i64 t.aV),.d (.s t.fName),.d (.sl (t.fArgs.map ay.enc))]]::S)
  (fun i=>i<=xs.length/\among (xs.drop i) vars=among xs vars) (fun i=>xs.length-i) 0 rfl rfl ⟨Nat.zero_le _,rfl⟩ ?_
 rintro i ⟨p1,p2⟩;simp -implicitDefEqProofs (disch:=omega) only[go_sem,encS]
 with_reducible refine aD (fun hb=> ?_) (fun hb=> ?_)<;>have h:=hb<;>(try simp only[wf_preprocess] at h)<;>simp -implicitDefEqProofs (disch:=omega) only[go_sem,hb,encS]<;>(repeat(with_reducible refine And.intro ?_ ?_;focus first|omega|rfl|assumption|exact⟨_,rfl,rfl⟩|(simp;omega)|(simp;done)))
 ·have hi:i<xs.length:=by omega
  rw[List.drop_eq_getElem_cons hi] at p2;have p3:among xs vars=(dec (xs[i]∈vars)&&among (xs.drop (i+1)) vars):=p2.symm
  (repeat(with_reducible refine And.intro ?_ ?_;focus first|omega|rfl|assumption|exact⟨_,rfl,rfl⟩|(simp;omega)|(simp;done)))
  refine aB (ou vars xs[i] hv) ?_;simp -implicitDefEqProofs (disch:=omega) only[go_sem]<;>(repeat(with_reducible refine And.intro ?_ ?_;focus first|omega|rfl|assumption|exact⟨_,rfl,rfl⟩|(simp;omega)|(simp;done)))
  with_reducible refine aD (fun hb=> ?_) (fun hb=> ?_)<;>have h:=hb<;>(try simp only[wf_preprocess] at h)<;>simp -implicitDefEqProofs (disch:=omega) only[go_sem,hb]<;>(repeat(with_reducible refine And.intro ?_ ?_;focus first|omega|rfl|assumption|exact⟨_,rfl,rfl⟩|(simp;omega)|(simp;done)))
  ·exact bN (by unfold iK;rw[hxs,p3,bM h];simp)
  ·exact cZ (i+1) (by omega) rfl rfl ⟨by omega,by rw[p3,dH h];rfl⟩
 ·rw[List.drop_of_length_le (by omega)] at p2;have p3:among xs vars=true:=p2.symm
  (repeat(with_reducible refine And.intro ?_ ?_;focus first|omega|rfl|assumption|exact⟨_,rfl,rfl⟩|(simp;omega)|(simp;done)))
  refine aB (vK t hsz) ?_;simp -implicitDefEqProofs (disch:=omega) only[go_sem]<;>(repeat(with_reducible refine And.intro ?_ ?_;focus first|omega|rfl|assumption|exact⟨_,rfl,rfl⟩|(simp;omega)|(simp;done)));exact bN (by unfold iK;rw[hxs,p3];simp)
theorem N9(ts:List ay)(vars:List (List UInt8))(hl:ts.length<=1073741824)(hsz:∀t∈ts,t.sz<=4194304)(hv:vars.length<=1073741824):bg prog 159 [.c (.d (.sl (ts.map ay.enc))),.c (.d (.sl (vars.map encS)))] (.c (.d (.b (mU vars ts)))):=fun S=>by
 refine zcx [.tmp 4] func159 ntmps159 ?_;simp -implicitDefEqProofs (disch:=omega) only[go_sem]
 refine bO (ι:=Nat) zmx rfl [0,1,5] (fun i=>[.c (.d (.sl (ts.map ay.enc))),.c (.d (.sl (vars.map encS))),.c (.d (.i .i64 i))]) (fun _=>[]::S)
  (fun i=>i<=ts.length/\mU vars (ts.drop i)=mU vars ts) (fun i=>ts.length-i) 0 rfl rfl ⟨Nat.zero_le _,rfl⟩ ?_
 rintro i ⟨p1,p2⟩;simp -implicitDefEqProofs (disch:=omega) only[go_sem]
 with_reducible refine aD (fun hb=> ?_) (fun hb=> ?_)<;>have h:=hb<;>(try simp only[wf_preprocess] at h)<;>simp -implicitDefEqProofs (disch:=omega) only[go_sem,hb]<;>(repeat(with_reducible refine And.intro ?_ ?_;focus first|omega|rfl|assumption|exact⟨_,rfl,rfl⟩|(simp;omega)|(simp;done)))
 ·have hi:i<ts.length:=by omega
  rw[List.drop_eq_getElem_cons hi] at p2;have p3:mU vars ts=(iK vars ts[i]&&mU vars (ts.drop (i+1))):=p2.symm
  (repeat(with_reducible refine And.intro ?_ ?_;focus first|omega|rfl|assumption|exact⟨_,rfl,rfl⟩|(simp;omega)|(simp;done)))
  refine aB (rQ ts[i] vars (hsz _ (List.getElem_mem hi)) hv) ?_;simp -implicitDefEqProofs (disch:=omega) only[go_sem]<;>(repeat(with_reducible refine And.intro ?_ ?_;focus first|omega|rfl|assumption|exact⟨_,rfl,rfl⟩|(simp;omega)|(simp;done)))
  with_reducible refine aD (fun hb=> ?_) (fun hb=> ?_)<;>have h:=hb<;>(try simp only[wf_preprocess] at h)<;>simp -implicitDefEqProofs (disch:=omega) only[go_sem,hb]<;>(repeat(with_reducible refine And.intro ?_ ?_;focus first|omega|rfl|assumption|exact⟨_,rfl,rfl⟩|(simp;omega)|(simp;done)))
  ·rw[p3,h];rfl
  ·exact cZ (i+1) (by omega) rfl rfl ⟨by omega,by rw[p3,h];rfl⟩
 ·rw[List.drop_of_length_le (by omega)] at p2;rw[<-p2];rfl
def ops:List (List UInt8):=[[43],[45],[42],[60],[61]]
def BX(t:ay):Prop:=t.aV=0/\t.fName=[]/\t.fArgs.length=0
def xY(e:aC):Prop:=
 (1<=e.aV/\e.aV<=12)/\
 (if e.aV=5\/e.aV=11 then validName e.bU=true else e.bU=[])/\
 (if e.aV=3\/e.aV=4\/e.aV=5\/e.aV=6\/e.aV=8 then validName e.fName=true else if e.aV=10 then e.fName∈ops else e.fName=[])/\
 (if e.aV=1 then -999999<=e.fN/\e.fN<=999999 else if e.aV=2 then e.fN=0\/e.fN=1 else e.fN=0)/\
 (if e.aV=12 then qZ e.fType=true else BX e.fType)/\
 (if e.aV=4\/e.aV=6 then True else if e.aV=5 then 1<=e.fArgs.length else if e.aV=7\/e.aV=11\/e.aV=12 then e.fArgs.length=1 else if e.aV=8\/e.aV=10 then e.fArgs.length=2 else if e.aV=9 then e.fArgs.length=3 else e.fArgs.length=0)/\
 (e.aV=7<->0<e.bH.length)
mutual
noncomputable def jd:aC->Bool
 | .mk k t n m ty a b=>dec (xY (.mk k t n m ty a b))&&(lS a&&ow b)
noncomputable def lS:List aC->Bool
 |[]=>true
 |x::xs=>jd x&&lS xs
noncomputable def yM:bn->Bool
 | .mk c v b=>validName c&&(iT v&&jd b)
noncomputable def ow:List bn->Bool
 |[]=>true
 |x::xs=>yM x&&ow xs
end
theorem Oa(x:aC):jd x=(dec (xY x)&&(lS x.fArgs&&ow x.bH)):=by cases x;rw[jd];rfl
theorem xZ(x:bn):yM x=(validName x.fK&&(iT x.aS&&jd x.fBody)):=by cases x;rw[yM];rfl
theorem Rs{xs:List aC}{i:Nat}(hi:i<xs.length):lS (xs.drop i)=(jd xs[i]&&lS (xs.drop (i+1))):=by rw[List.drop_eq_getElem_cons hi,lS]
theorem Ub{xs:List bn}{i:Nat}(hi:i<xs.length):ow (xs.drop i)=(yM xs[i]&&ow (xs.drop (i+1))):=by rw[List.drop_eq_getElem_cons hi,ow]
noncomputable def vY(e:aC):Bool:=dec (e.cnt<=300)&&jd e
def mV(l:Int)(c:Nat):Int:=if l<0 then -1 else if c<=l then l-c else -1
theorem Es{l:Int}{a b:Nat}:mV (mV l a) b=mV l (a+b):=by unfold mV;split<;>split<;>(try split)<;>(try split)<;>omega
theorem Jz{l:Int}{a:Nat}(h:l<0):mV l a= -1:=if_pos h
theorem Gd{l:Int}(h: -1<=l):mV l 0=l:=by unfold mV;split<;>(try split)<;>omega
theorem M0{l:Int}{c:Nat}(h:0<=l): -1<=mV l c/\mV l c<=l:=by unfold mV;split<;>(try split)<;>omega
theorem adG{l:Int}{c:Nat}(h:0<=l):decide (mV l c>=0)=decide ((c:Int)<=l):=by unfold mV;rw[if_neg (by omega)];split<;>simp<;>omega
theorem O9:validName []=false:=bM fun h=>by have:=h.1.1;simp at this
theorem ain{s:List UInt8}(h:s∈ops):s.length=1:=by simp[ops] at h;rcases h with h|h|h|h|h<;>rw[h]<;>rfl
theorem Rt{s:List UInt8}(h:s∈ops):validName s=false:=bM fun x=>by
 have h1:=x.2.2 0 (by have:=x.1.1;omega);simp[ops] at h;rcases h with h|h|h|h|h<;>rw[h] at h1<;>simp[lowerB,y7] at h1
structure Hold(p:Prop):Prop where
 out:p
theorem Bd{P:Program}{N:Nat}{c:Code}{Q:Exit->St->Prop}{tm:List (Nat×V)}{st st':Store}(ts:List Nat)(vs:List V)(hv:ts.map (look tm)=vs)(hs:st=st')
 (h:AW P N c Q ⟨jQ ts vs,st'⟩):AW P N c Q ⟨tm,st⟩:=by
 subst hs;refine l9 h ?_;rw[<-hv];exact Jr fun t=>vJ _ ts t
end Go.Ab