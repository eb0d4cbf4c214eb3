/-
  SEVERAL TEXTS IN ONE (merged by program): contracts and models, each with its own heading.
-/
import Derived.Test.YtfhpfkaeldgcmaaGreatPartHebC
set_option maxHeartbeats 8000000
open Go.Proofs Go.Proofs.Tryz
set_option linter.unusedSimpArgs false
set_option linter.unusedVariables false
set_option maxRecDepth 4000
namespace Go.Ab
def lowerB(b:UInt8):Prop:=97<=b.toNat/\b.toNat<=122
def zl(b:UInt8):Prop:=48<=b.toNat/\b.toNat<=57
def aaJ(s:List UInt8):Prop:=∀i,i<s.length->lowerB (s.getD i 0)\/(i≠0/\zl (s.getD i 0))
def reserved:List (List UInt8):=[[105,110,116],[98,111,111,108],[97,115,115,111,99],[100,121,110],[105,102],[108,101,116],[99,97,115,101],[110,101,119],[109,101,116,104,111,100],[112,97,99,107],[116,114,117,101],[102,97,108,115,101]]
noncomputable def validName(s:List UInt8):Bool:=dec ((1<=s.length/\s.length<=8)/\s∉reserved/\aaJ s)
noncomputable def uf(s:List UInt8):Bool:=dec (s=[105,110,116]\/s=[98,111,111,108])
def pV{α:Type}(p:α->Bool)(xs:List α):Int:=if xs.any p then((xs.findIdx p:Nat):Int) else -1
theorem sO{α:Type}{p:α->Bool}{xs:List α}{i:Nat}(hi:i<xs.length)(hj:∀j,∀hj:j<xs.length,j<i->p xs[j]=false)(h:p xs[i]=true):pV p xs=i:=by
 unfold pV;rw[if_pos (List.any_eq_true.2 ⟨xs[i],List.getElem_mem hi,h⟩)];congr 1;rw[List.findIdx_eq hi];exact⟨h,fun j hji=>hj j (by omega) hji⟩
theorem vY{α:Type}{p:α->Bool}{xs:List α}(hj:∀j,∀hj:j<xs.length,p xs[j]=false):pV p xs= -1:=by
 unfold pV;refine if_neg fun h=> ?_;obtain⟨x,hx,hp⟩:=List.any_eq_true.1 h;obtain⟨j,h1,h2⟩:=List.getElem_of_mem hx;rw[<-h2,hj j h1] at hp;cases hp
theorem EF{α:Type}{p:α->Bool}{xs:List α}:decide (pV p xs>=0)=xs.any p:=by
 unfold pV
 cases h:xs.any p with
 |true=>simp
 |false=>simp
noncomputable def IC(k:Int)(n:List UInt8)(len:Nat):Bool:=
 dec ((k=1\/k=4)/\validName n=true/\len=0\/k=3/\validName n=true/\len=1\/k=2/\(validName n=true/\len<=3\/uf n=true/\len=0))
mutual
noncomputable def formed:ay->Bool
 | .mk k n a=>IC k n a.length&&j4 a
noncomputable def j4:List ay->Bool
 |[]=>true
 |t::ts=>formed t&&j4 ts
end
theorem Gw(t:ay):formed t=(IC t.aV t.fName t.fArgs.length&&j4 t.fArgs):=by cases t;rw[formed];rfl
theorem Da:∀{ts:List ay},j4 ts=true<->∀t∈ts,formed t=true
 |[]=>by simp[j4]
 |t::ts=>by simp[j4,Da (ts:=ts)]
mutual
def qJ:ay->Nat
 | .mk _ _ a=>depths a
def depths:List ay->Nat
 |[]=>0
 |t::ts=>max (qJ t+1) (depths ts)
end
theorem aaK(t:ay):qJ t=depths t.fArgs:=by cases t;rw[qJ];rfl
mutual
theorem Gx:∀t:ay,qJ t+1<=t.cnt
 | .mk k n a=>by
   have:=Og a;rw[qJ,ay.cnt];omega
theorem Og:∀ts:List ay,depths ts<=ay.fB ts
 |[]=>by simp[depths]
 |t::ts=>by
  have h1:=Gx t;have h2:=Og ts;rw[depths,ay.fB];omega
end
noncomputable def qZ(t:ay):Bool:=dec (formed t=true/\qJ t<=6/\t.cnt<=60)
mutual
def nD:ay->List ay
 | .mk k n a=>.mk k n a::nE a
def nE:List ay->List ay
 |[]=>[]
 |t::ts=>nD t++nE ts
end
theorem zm(t:ay):nD t=t::nE t.fArgs:=by cases t;rw[nD];rfl
theorem yQ{ts:List ay}{i:Nat}(hi:i<ts.length):nE (ts.drop i)=nD ts[i]++nE (ts.drop (i+1)):=by rw[List.drop_eq_getElem_cons hi,nE]
mutual
theorem Gy:∀t:ay,(nD t).length=t.cnt
 | .mk k n a=>by rw[nD,List.length_cons,ay.cnt,La a];omega
theorem La:∀ts:List ay,(nE ts).length=ay.fB ts
 |[]=>rfl
 |t::ts=>by rw[nE,List.length_append,ay.fB,Gy t,La ts]
end
def wX(out:List (List UInt8))(u:ay):List (List UInt8):=if u.aV=1/\u.fName∉out then out++[u.fName] else out
def jN(out:List (List UInt8))(t:ay):List (List UInt8):=(nD t).foldl wX out
def Bq(out:List (List UInt8))(ts:List ay):List (List UInt8):=(nE ts).foldl wX out
theorem Ru(out:List (List UInt8))(u:ay):(wX out u).length<=out.length+1:=by
 unfold wX
 split<;>simp
theorem Oh:∀(us:List ay)(out:List (List UInt8)),(us.foldl wX out).length<=out.length+us.length
 |[],out=>by simp
 |u::us,out=>by
  have h1:=Ru out u;have h2:=Oh us (wX out u);rw[List.foldl_cons,List.length_cons];omega
theorem Oi(t:ay)(out:List (List UInt8)):(jN out t).length<=out.length+t.cnt:=by
 have:=Oh (nD t) out;rw[Gy] at this;exact this
theorem ad5(out:List (List UInt8))(t:ay):jN out t=Bq (wX out t) t.fArgs:=by
 unfold jN Bq;rw[zm,List.foldl_cons]
theorem Uj{ts:List ay}{i:Nat}(hi:i<ts.length)(out:List (List UInt8)):Bq out (ts.drop i)=Bq (jN out ts[i]) (ts.drop (i+1)):=by
 unfold Bq jN;rw[yQ hi,List.foldl_append]
def qK(t:ay):Bool:=(nD t).any fun u=>decide (u.aV=3)
def ug(ts:List ay):Bool:=(nE ts).any fun u=>decide (u.aV=3)
theorem EG(t:ay):qK t=(decide (t.aV=3)||ug t.fArgs):=by
 unfold qK ug;rw[zm,List.any_cons]
theorem Pm{ts:List ay}{i:Nat}(hi:i<ts.length):ug (ts.drop i)=(qK ts[i]||ug (ts.drop (i+1))):=by
 unfold ug qK;rw[yQ hi,List.any_append]
def vZ(v:List UInt8)(u:ay):Bool:=decide (u.aV=1/\u.fName=v)
def nG(v:List UInt8)(t:ay):Nat:=(nD t).countP (vZ v)
def uK(v:List UInt8)(ts:List ay):Nat:=(nE ts).countP (vZ v)
theorem aaL(v:List UInt8)(t:ay):nG v t=(if vZ v t then 1 else 0)+uK v t.fArgs:=by
 unfold nG uK;rw[zm,List.countP_cons];omega
theorem Rv{v:List UInt8}{ts:List ay}{i:Nat}(hi:i<ts.length):uK v (ts.drop i)=nG v ts[i]+uK v (ts.drop (i+1)):=by
 unfold uK nG;rw[yQ hi,List.countP_append]
theorem Jg(v:List UInt8):∀(us:List ay)(c:Nat),us.foldl (fun c u=>if vZ v u then c+1 else c) c=c+us.countP (vZ v)
 |[],c=>by simp
 |u::us,c=>by
  rw[List.foldl_cons,Jg v us,List.countP_cons];split<;>omega
theorem aaM(v:List UInt8)(t:ay):nG v t<=t.cnt:=by
 unfold nG;rw[<-Gy];exact List.countP_le_length
def occurs(v:List UInt8)(t:ay):Bool:=decide (0<nG v t)
def yR:List UInt8:=[115,101,108,102]
def mentions(g:aI):Bool:=occurs yR g.dn||g.bO.any (occurs yR)
def sP(t:bD):Bool:= !t.bX&& !t.aO.any mentions
theorem wh(n a b:Int):aX prog 35 [.c (.d (.i .i64 n)),.c (.d (.i .i64 a)),.c (.d (.i .i64 b))] (.c (.d (.b (dec (a<=n/\n<=b))))):=fun S=>by
 refine zcx [.tmp 6] func35 ntmps35 ?_;simp -implicitDefEqProofs (disch:=omega) only[go_sem]
 with_reducible refine aC (fun hb=> ?_) (fun hb=> ?_)<;>have h:=hb<;>(try simp only[wf_preprocess] at h)<;>simp -implicitDefEqProofs (disch:=omega) only[go_sem,hb]<;>(repeat(with_reducible refine And.intro ?_ ?_;focus first|omega|rfl|assumption|exact⟨_,rfl,rfl⟩|(simp;omega)|(simp;done)))
 ·exact bL (by rw[nM];exact gG ⟨fun x=>⟨by omega,x⟩,fun x=>x.2⟩)
 ·exact bL (bJ (by omega)).symm
theorem oF(xs:List (List UInt8))(s:List UInt8)(hl:xs.length<=1073741824):aX prog 79 [.c (.d (.sl (xs.map encS))),.c (.d (.s s))] (.c (.d (.b (dec (s∈xs))))):=fun S=>by
 refine zcx [.tmp 4] func79 ntmps79 ?_;simp -implicitDefEqProofs (disch:=omega) only[go_sem,encS]
 refine bN (ι:=Nat) zmx rfl [0,1,5] (fun i=>[.c (.d (.sl (xs.map encS))),.c (.d (.s s)),.c (.d (.i .i64 i))]) (fun _=>[]::S)
  (fun i=>i<=xs.length/\∀j,j<i->∀h:j<xs.length,xs[j]≠s) (fun i=>xs.length-i) 0 rfl rfl ⟨Nat.zero_le _,fun j h=>by omega⟩ ?_
 rintro i ⟨p1,p2⟩;simp -implicitDefEqProofs (disch:=omega) only[go_sem,encS]
 with_reducible refine aC (fun hb=> ?_) (fun hb=> ?_)<;>have h:=hb<;>(try simp only[wf_preprocess] at h)<;>simp -implicitDefEqProofs (disch:=omega) only[go_sem,hb,encS]<;>(repeat(with_reducible refine And.intro ?_ ?_;focus first|omega|rfl|assumption|exact⟨_,rfl,rfl⟩|(simp;omega)|(simp;done)))
 ·have hi:i<xs.length:=by omega
  with_reducible refine aC (fun hb=> ?_) (fun hb=> ?_)<;>have h:=hb<;>(try simp only[wf_preprocess] at h)<;>simp -implicitDefEqProofs (disch:=omega) only[go_sem,hb,encS]<;>(repeat(with_reducible refine And.intro ?_ ?_;focus first|omega|rfl|assumption|exact⟨_,rfl,rfl⟩|(simp;omega)|(simp;done)))
  ·exact bL (dD (by rw[<-h];exact List.getElem_mem hi)).symm
  ·refine bT (i+1) (by omega) rfl rfl ⟨by omega,fun j hj hl=> ?_⟩;by_cases e:j=i
   ·subst e;exact h
   ·exact p2 j (by omega) hl
 ·refine bL (bJ fun hm=> ?_).symm;obtain⟨j,h1,h2⟩:=List.getElem_of_mem hm;exact p2 j (by omega) h1 h2
theorem Lb(s:List UInt8):aX prog 121 [.c (.d (.s s))] (.c (.d (.b (dec (s∈reserved))))):=fun S=>by
 refine zcx [.tmp 2] func121 ntmps121 ?_;simp -implicitDefEqProofs (disch:=omega) only[go_sem]
 (repeat(with_reducible refine And.intro ?_ ?_;focus first|omega|rfl|assumption|exact⟨_,rfl,rfl⟩|(simp;omega)|(simp;done)))
 refine aB (oF reserved s (by decide)) ?_;simp -implicitDefEqProofs (disch:=omega) only[go_sem]<;>(repeat(with_reducible refine And.intro ?_ ?_;focus first|omega|rfl|assumption|exact⟨_,rfl,rfl⟩|(simp;omega)|(simp;done)))
theorem gL(s:List UInt8)(hl:s.length<=1073741824):aX prog 77 [.c (.d (.s s))] (.c (.d (.b (validName s)))):=fun S=>by
 have bad:¬aaJ s->validName s=false:=fun h=>bJ fun x=>h x.2.2;refine zcx [.tmp 2] func77 ntmps77 ?_;simp -implicitDefEqProofs (disch:=omega) only[go_sem];refine aB (wh s.length 1 8) ?_;simp -implicitDefEqProofs (disch:=omega) only[go_sem]<;>(repeat(with_reducible refine And.intro ?_ ?_;focus first|omega|rfl|assumption|exact⟨_,rfl,rfl⟩|(simp;omega)|(simp;done)))
 with_reducible refine aC (fun hb=> ?_) (fun hb=> ?_)<;>have h:=hb<;>(try simp only[wf_preprocess] at h)<;>simp -implicitDefEqProofs (disch:=omega) only[go_sem,hb]<;>(repeat(with_reducible refine And.intro ?_ ?_;focus first|omega|rfl|assumption|exact⟨_,rfl,rfl⟩|(simp;omega)|(simp;done)))
 ·rw[show validName s=false from bJ fun x=>h (by omega)]
 have hlen:=h;refine aB (Lb s) ?_;simp -implicitDefEqProofs (disch:=omega) only[go_sem]<;>(repeat(with_reducible refine And.intro ?_ ?_;focus first|omega|rfl|assumption|exact⟨_,rfl,rfl⟩|(simp;omega)|(simp;done)))
 with_reducible refine aC (fun hb=> ?_) (fun hb=> ?_)<;>have h:=hb<;>(try simp only[wf_preprocess] at h)<;>simp -implicitDefEqProofs (disch:=omega) only[go_sem,hb]<;>(repeat(with_reducible refine And.intro ?_ ?_;focus first|omega|rfl|assumption|exact⟨_,rfl,rfl⟩|(simp;omega)|(simp;done)))
 ·rw[show validName s=false from bJ fun x=>x.2.1 h]
 have hres:=h
 refine bN (ι:=Nat) zmx rfl [0,3] (fun i=>[.c (.d (.s s)),.c (.d (.i .i64 i))]) (fun _=>[]::S)
  (fun i=>i<=s.length/\∀j,j<i->lowerB (s.getD j 0)\/(j≠0/\zl (s.getD j 0))) (fun i=>s.length-i) 0 rfl rfl ⟨Nat.zero_le _,fun j h=>by omega⟩ ?_
 rintro i ⟨p1,p2⟩
 have next:i<s.length->(lowerB (s.getD i 0)\/(i≠0/\zl (s.getD i 0)))->∀j,j<i+1->lowerB (s.getD j 0)\/(j≠0/\zl (s.getD j 0)):=fun hi h j hj=>by
  by_cases e:j=i
  ·subst e;exact h
  ·exact p2 j (by omega)
 simp -implicitDefEqProofs (disch:=omega) only[go_sem]
 with_reducible refine aC (fun hb=> ?_) (fun hb=> ?_)<;>have h:=hb<;>(try simp only[wf_preprocess] at h)<;>simp -implicitDefEqProofs (disch:=omega) only[go_sem,hb]<;>(repeat(with_reducible refine And.intro ?_ ?_;focus first|omega|rfl|assumption|exact⟨_,rfl,rfl⟩|(simp;omega)|(simp;done)))
 ·have hi:i<s.length:=by omega
  have bad':¬(lowerB (s.getD i 0)\/(i≠0/\zl (s.getD i 0)))->validName s=false:=fun h=>bad fun x=>h (x i hi)
  have next:=next hi
  unfold lowerB zl at bad' next
  all_goals try(with_reducible refine aC (fun hb=> ?_) (fun hb=> ?_)<;>have h:=hb<;>(try simp only[wf_preprocess] at h)<;>simp -implicitDefEqProofs (disch:=omega) only[go_sem,hb]<;>(repeat(with_reducible refine And.intro ?_ ?_;focus first|omega|rfl|assumption|exact⟨_,rfl,rfl⟩|(simp;omega)|(simp;done))))
  all_goals try(with_reducible refine aC (fun hb=> ?_) (fun hb=> ?_)<;>have h:=hb<;>(try simp only[wf_preprocess] at h)<;>simp -implicitDefEqProofs (disch:=omega) only[go_sem,hb]<;>(repeat(with_reducible refine And.intro ?_ ?_;focus first|omega|rfl|assumption|exact⟨_,rfl,rfl⟩|(simp;omega)|(simp;done))))
  all_goals try(with_reducible refine aC (fun hb=> ?_) (fun hb=> ?_)<;>have h:=hb<;>(try simp only[wf_preprocess] at h)<;>simp -implicitDefEqProofs (disch:=omega) only[go_sem,hb]<;>(repeat(with_reducible refine And.intro ?_ ?_;focus first|omega|rfl|assumption|exact⟨_,rfl,rfl⟩|(simp;omega)|(simp;done))))
  all_goals try(with_reducible refine aC (fun hb=> ?_) (fun hb=> ?_)<;>have h:=hb<;>(try simp only[wf_preprocess] at h)<;>simp -implicitDefEqProofs (disch:=omega) only[go_sem,hb]<;>(repeat(with_reducible refine And.intro ?_ ?_;focus first|omega|rfl|assumption|exact⟨_,rfl,rfl⟩|(simp;omega)|(simp;done))))
  all_goals try(with_reducible refine aC (fun hb=> ?_) (fun hb=> ?_)<;>have h:=hb<;>(try simp only[wf_preprocess] at h)<;>simp -implicitDefEqProofs (disch:=omega) only[go_sem,hb]<;>(repeat(with_reducible refine And.intro ?_ ?_;focus first|omega|rfl|assumption|exact⟨_,rfl,rfl⟩|(simp;omega)|(simp;done))))
  all_goals try(with_reducible refine aC (fun hb=> ?_) (fun hb=> ?_)<;>have h:=hb<;>(try simp only[wf_preprocess] at h)<;>simp -implicitDefEqProofs (disch:=omega) only[go_sem,hb]<;>(repeat(with_reducible refine And.intro ?_ ?_;focus first|omega|rfl|assumption|exact⟨_,rfl,rfl⟩|(simp;omega)|(simp;done))))
  all_goals first
   |exact bT (i+1) (by omega) rfl rfl ⟨by omega,next (by omega)⟩
   |exact bL (bad' (by omega)).symm
 ·rw[show validName s=true from dD ⟨by omega,hres,fun j hj=>p2 j (by omega)⟩]
theorem Oj(s:List UInt8):aX prog 99 [.c (.d (.s s))] (.c (.d (.b (uf s)))):=fun S=>by
 refine zcx [.tmp 2] func99 ntmps99 ?_;simp -implicitDefEqProofs (disch:=omega) only[go_sem]
 with_reducible refine aC (fun hb=> ?_) (fun hb=> ?_)<;>have h:=hb<;>(try simp only[wf_preprocess] at h)<;>simp -implicitDefEqProofs (disch:=omega) only[go_sem,hb]<;>(repeat(with_reducible refine And.intro ?_ ?_;focus first|omega|rfl|assumption|exact⟨_,rfl,rfl⟩|(simp;omega)|(simp;done)))
 ·exact bL (dD (.inl h)).symm
 ·exact bL (by rw[nM];exact gG ⟨fun x=>.inr x,fun x=>x.resolve_left h⟩)
theorem Rw(s:List UInt8):aX prog 134 [.c (.d (.s s))] (.c (.d (.b (uf s)))):=fun S=>by
 refine zcx [.tmp 2] func134 ntmps134 ?_;simp -implicitDefEqProofs (disch:=omega) only[go_sem]
 with_reducible refine aC (fun hb=> ?_) (fun hb=> ?_)<;>have h:=hb<;>(try simp only[wf_preprocess] at h)<;>simp -implicitDefEqProofs (disch:=omega) only[go_sem,hb]<;>(repeat(with_reducible refine And.intro ?_ ?_;focus first|omega|rfl|assumption|exact⟨_,rfl,rfl⟩|(simp;omega)|(simp;done)))
 ·exact bL (dD (.inl h)).symm
 ·exact bL (by rw[nM];exact gG ⟨fun x=>.inr x,fun x=>x.resolve_left h⟩)
theorem wm{x:ay}{i:Nat}(hi:i<x.fArgs.length)(h:x.sz<=4194304):x.fArgs[i].sz<=4194304/\x.fArgs.length<=4194304/\x.fName.length<=4194304:=by
 have hx:x.fArgs[i].sz<=aQ (x.fArgs.map ay.enc):=dO (List.mem_map_of_mem (List.getElem_mem hi));simp only[ay.sz,ay.aj,bG,D.sz,List.length_map] at h;omega
theorem zn{x:ay}(h:x.sz<=4194304):x.fArgs.length<=4194304/\x.fName.length<=4194304:=by
 simp only[ay.sz,ay.aj,bG,D.sz,List.length_map] at h;omega
theorem Gz:∀n:Nat,∀t:ay,SizeOf.sizeOf t<n->t.sz<=4194304->∀(g:Nat)(caps:List (Key×Nat))(α:Type)(st:α->Store)(I:Nat->α->Prop)(f:α->ay->α)(hf:Ip prog g caps st I f ay.v (fun u=>u.sz<=4194304))(m:Nat)(a:α),I (m+t.cnt) a->
 I m ((nD t).foldl f a)/\bY prog 150 [t.v,.c (.fn g caps)] (st a) (fun r S'=>r=.eD []/\S'=st ((nD t).foldl f a))
 |0=>fun t h=>by omega
 |n+1=>by
  have ih:=Gz n;intro t hn hsz g caps α st I f hf m a ha;have nO:=ay.j3 t;have hts:=zn hsz;rw[ay.zi,show m+(1+ay.fB t.fArgs)=(m+ay.fB t.fArgs)+1 by omega] at ha;have h1:=hf _ a t ha hsz
  have hI:∀(ts:List ay),SizeOf.sizeOf ts<n->(∀x∈ts,x.sz<=4194304)->∀a,I (m+ay.fB ts) a->I m ((nE ts).foldl f a):=by
   intro ts
   induction ts with
   |nil=>intro _ _ a ha;exact ha
   |cons x xs ihx=>
    intro hs hz a ha;simp only[List.cons.sizeOf_spec] at hs;rw[nE,List.foldl_append];rw[ay.fB,show m+(x.cnt+ay.fB xs)=(m+ay.fB xs)+x.cnt by omega] at ha;exact ihx (by omega) (fun y hy=>hz y (by simp[hy])) _ (ih x (by omega) (hz x (by simp)) g caps α st I f hf _ a ha).1
  have hall:∀x∈t.fArgs,x.sz<=4194304:=fun x hx=>by
   obtain⟨i,hi,e⟩:=List.getElem_of_mem hx;rw[<-e];exact(wm hi hsz).1
  refine⟨by rw[zm,List.foldl_cons];exact hI t.fArgs (by omega) hall _ h1.1,?_⟩;refine zcx [] func150 ntmps150 ?_;simp -implicitDefEqProofs (disch:=omega) only[go_sem];refine aW rfl (h1.2 [_]) ?_;simp -implicitDefEqProofs (disch:=omega) only[go_sem]
  refine bN (ι:=Nat×α) zmx rfl [1,10,11,12] (fun y=>[.c (.fn g (jR 1 caps)),.c (.d (.sl (t.fArgs.map ay.enc))),.c (.d (.i .i64 t.fArgs.length)),.c (.d (.i .i64 y.1))]) (fun y=>[.box [.d (.i .i64 t.aV),.d (.s t.fName),.d (.sl (t.fArgs.map ay.enc))]]::st y.2)
   (fun y=>y.1<=t.fArgs.length/\I (m+ay.fB (t.fArgs.drop y.1)) y.2/\(nE (t.fArgs.drop y.1)).foldl f y.2=(nD t).foldl f a) (fun y=>t.fArgs.length-y.1) (0,f a t) rfl rfl ⟨Nat.zero_le _,h1.1,by rw[zm,List.foldl_cons];rfl⟩ ?_
  rintro⟨i,b⟩ ⟨p1,p2,p3⟩;simp only at p1 p2 p3;simp -implicitDefEqProofs (disch:=omega) only[go_sem]
  with_reducible refine aC (fun hb=> ?_) (fun hb=> ?_)<;>have h:=hb<;>(try simp only[wf_preprocess] at h)<;>simp -implicitDefEqProofs (disch:=omega) only[go_sem,hb]<;>(repeat(with_reducible refine And.intro ?_ ?_;focus first|omega|rfl|assumption|exact⟨_,rfl,rfl⟩|(simp;omega)|(simp;done)))
  ·have hi:i<t.fArgs.length:=by omega
   have hs:=List.sizeOf_lt_of_mem (List.getElem_mem hi);rw[yQ hi,List.foldl_append] at p3;rw[List.drop_eq_getElem_cons hi,ay.fB,show m+(t.fArgs[i].cnt+ay.fB (t.fArgs.drop (i+1)))=(m+ay.fB (t.fArgs.drop (i+1)))+t.fArgs[i].cnt by omega] at p2;have h2:=(ih t.fArgs[i] (by omega) (wm hi hsz).1 g caps α st I f hf _ b p2).1
   (repeat(with_reducible refine And.intro ?_ ?_;focus first|omega|rfl|assumption|exact⟨_,rfl,rfl⟩|(simp;omega)|(simp;done)))
   refine aW rfl (((ih t.fArgs[i] (by omega) (wm hi hsz).1 g (jR 1 caps) α (fun a=>[.box [.d (.i .i64 t.aV),.d (.s t.fName),.d (.sl (t.fArgs.map ay.enc))],.box [.d (.i .i64 t.fArgs[i].aV),.d (.s t.fArgs[i].fName),.d (.sl (t.fArgs[i].fArgs.map ay.enc))]]::st a) I f (hf.push _) _ b p2)).2) ?_;simp -implicitDefEqProofs (disch:=omega) only[go_sem];exact fu 1 (by decide) (i+1,(nD t.fArgs[i]).foldl f b) (by simp only;omega) rfl rfl (by simp only[mX,wV,List.all_cons,List.all_nil,V.refs,C.refs,Rk,Bool.and_true]) rfl ⟨by simp only;omega,h2,p3⟩
  ·have hi:i=t.fArgs.length:=by omega
   rw[hi,List.drop_length,nE,List.foldl_nil] at p3;rw[p3]
theorem Uk{t:ay}(hsz:t.sz<=4194304){g:Nat}{caps:List (Key×Nat)}{α:Type}{st:α->Store}{I:Nat->α->Prop}{f:α->ay->α}(hf:Ip prog g caps st I f ay.v (fun u=>u.sz<=4194304))(m:Nat)(a:α)(ha:I (m+t.cnt) a):
 I m ((nD t).foldl f a)/\bY prog 150 [t.v,.c (.fn g caps)] (st a) (fun r S'=>r=.eD []/\S'=st ((nD t).foldl f a)):=Gz _ t (Nat.lt_succ_self _) hsz g caps α st I f hf m a ha
theorem Lc:∀n:Nat,∀t:ay,SizeOf.sizeOf t<n->t.sz<=4194304->∀(out:List (List UInt8))(l j:Nat)(S:Store),bn S (l,j)=some (.tok 1 (out.map encS))->out.length+t.cnt<=1073741824->
 bY prog 209 [t.v,.c (.bV (l,j) (out.map encS))] S (fun r S'=>r=.c (.bV (l,j) ((jN out t).map encS))/\S'=aY S (l,j) (.tok 1 ((jN out t).map encS)))
 |0=>fun t h=>by omega
 |n+1=>by
  have ih:=Lc n;intro t hn hsz out l j S hk hc;have nO:=ay.j3 t;have hts:=zn hsz;have hcn:=ay.zi t;have hkS:∀x:Ab.Obj,bn (aY S (l,j) x) (l,j)=some x:=fun x=>cO _ _ _ _ hk;have hS0:aY S (l,j) (.tok 1 (out.map encS))=S:=Cc _ _ hk;have fin:jN out t=Bq (wX out t) t.fArgs:=ad5 out t;have hal:=Ru out t
  have e0:(out++[t.fName]).map encS=out.map encS++[[D.s t.fName]]:=by simp[encS]
  refine zcx [.tmp 4] func209 ntmps209 ?_;simp -implicitDefEqProofs (disch:=omega) only[go_sem,hk]
  repeat' (first
   |(with_reducible refine aC (fun hb=> ?_) (fun hb=> ?_)<;>have h:=hb<;>(try simp only[wf_preprocess] at h)<;>simp -implicitDefEqProofs (disch:=omega) only[go_sem,hb,hk]<;>(repeat(with_reducible refine And.intro ?_ ?_;focus first|omega|rfl|assumption|exact⟨_,rfl,rfl⟩|(simp;omega)|(simp;done))))
   |(refine aB (oF out t.fName (by omega)) ?_;simp -implicitDefEqProofs (disch:=omega) only[go_sem,hk];(repeat(with_reducible refine And.intro ?_ ?_;focus first|omega|rfl|assumption|exact⟨_,rfl,rfl⟩|(simp;omega)|(simp;done)))))
  all_goals first
   |(have ha:wX out t=out++[t.fName]:=if_pos ⟨by assumption,by assumption⟩)
   |(have ha:wX out t=out:=if_neg (fun x=>by have:=x.1;have:=x.2;contradiction))
  all_goals
   refine bN (ι:=Nat×List (List UInt8)) zmx rfl [1,2,5] (fun y=>[.c (.bV (1+l,j) (y.2.map encS)),.c (.ptr (0,0) 0),.c (.d (.i .i64 y.1))]) (fun y=>[.box [.d (.i .i64 t.aV),.d (.s t.fName),.d (.sl (t.fArgs.map ay.enc))]]::aY S (l,j) (.tok 1 (y.2.map encS)))
    (fun y=>y.1<=t.fArgs.length/\y.2.length+ay.fB (t.fArgs.drop y.1)<=1073741824/\Bq y.2 (t.fArgs.drop y.1)=jN out t) (fun y=>t.fArgs.length-y.1) (0,wX out t) (by first|(rw[ha,e0];rfl)|(rw[ha];rfl)) (by first|(simp only[ha,e0];done)|(simp only[ha,hS0];done)) ⟨Nat.zero_le _,by simp only[List.drop_zero];omega,by rw[fin];rfl⟩ ?_
   rintro⟨i,b⟩ ⟨p1,p2,p3⟩;simp only at p1 p2 p3;simp -implicitDefEqProofs (disch:=omega) only[go_sem]
   with_reducible refine aC (fun hb=> ?_) (fun hb=> ?_)<;>have h:=hb<;>(try simp only[wf_preprocess] at h)<;>simp -implicitDefEqProofs (disch:=omega) only[go_sem,hb]<;>(repeat(with_reducible refine And.intro ?_ ?_;focus first|omega|rfl|assumption|exact⟨_,rfl,rfl⟩|(simp;omega)|(simp;done)))
   ·have hi:i<t.fArgs.length:=by omega
    have hs:=List.sizeOf_lt_of_mem (List.getElem_mem hi);rw[Uj hi] at p3;rw[List.drop_eq_getElem_cons hi,ay.fB] at p2;have hlen:=Oi t.fArgs[i] b
    (repeat(with_reducible refine And.intro ?_ ?_;focus first|omega|rfl|assumption|exact⟨_,rfl,rfl⟩|(simp;omega)|(simp;done)))
    refine aW rfl (ih t.fArgs[i] (by omega) (wm hi hsz).1 b (1+l) j _ (by rw[aH];exact hkS _) (by omega)) ?_;simp -implicitDefEqProofs (disch:=omega) only[go_sem,ah];exact bT (i+1,jN b t.fArgs[i]) (by simp only;omega) rfl rfl ⟨by simp only;omega,by simp only;omega,p3⟩
   ·have hi:i=t.fArgs.length:=by omega
    rw[hi,List.drop_length] at p3;rw[<-p3];exact⟨rfl,rfl⟩
theorem Ld(t:ay)(hsz:t.sz<=4194304):aX prog 185 [t.v] (.c (.d (.sl ((jN [] t).map encS)))):=fun S=>by
 have hc:=pR t
 have h0:∀S,bY prog 209 [t.v,.c (.bM [])] S (fun r S'=>r=.c (.d (.sl ((jN [] t).map encS)))/\S'=S):=fun S=>by
  refine bY.aiC 1 (es:=[]) (bB:=1) rfl (by simp) (Lc _ t (Nat.lt_succ_self _) hsz [] 0 0 ([.tok 1 []]::S) rfl (by simp;omega)) ?_;rintro r fr S' ⟨rfl,h2⟩;injection h2 with h2 h3;exact⟨_,rfl,rfl,h3⟩
 refine zcx [.tmp 2] func185 ntmps185 ?_;simp -implicitDefEqProofs (disch:=omega) only[go_sem]
 (repeat(with_reducible refine And.intro ?_ ?_;focus first|omega|rfl|assumption|exact⟨_,rfl,rfl⟩|(simp;omega)|(simp;done)))
 refine cu [true,true] rfl (h0 _) ?_;simp -implicitDefEqProofs (disch:=omega) only[go_sem]
theorem Ck:∀n:Nat,∀t:ay,SizeOf.sizeOf t<n->t.sz<=4194304->aX prog 161 [t.v] (.c (.d (.b (qK t))))
 |0=>fun t h=>by omega
 |n+1=>by
  have ih:=Ck n;intro t hn hsz S;have nO:=ay.j3 t;have hts:=zn hsz;refine zcx [.tmp 2] func161 ntmps161 ?_;simp -implicitDefEqProofs (disch:=omega) only[go_sem]
  refine bN (ι:=Nat) zmx rfl [1,3] (fun i=>[.c (.ptr (0,0) 0),.c (.d (.i .i64 i))]) (fun _=>[.box [.d (.i .i64 t.aV),.d (.s t.fName),.d (.sl (t.fArgs.map ay.enc))]]::S)
   (fun i=>i<=t.fArgs.length/\ug (t.fArgs.drop i)=ug t.fArgs) (fun i=>t.fArgs.length-i) 0 rfl rfl ⟨Nat.zero_le _,rfl⟩ ?_
  rintro i ⟨p1,p2⟩;simp -implicitDefEqProofs (disch:=omega) only[go_sem]
  with_reducible refine aC (fun hb=> ?_) (fun hb=> ?_)<;>have h:=hb<;>(try simp only[wf_preprocess] at h)<;>simp -implicitDefEqProofs (disch:=omega) only[go_sem,hb]<;>(repeat(with_reducible refine And.intro ?_ ?_;focus first|omega|rfl|assumption|exact⟨_,rfl,rfl⟩|(simp;omega)|(simp;done)))
  ·have hi:i<t.fArgs.length:=by omega
   rw[Pm hi] at p2
   (repeat(with_reducible refine And.intro ?_ ?_;focus first|omega|rfl|assumption|exact⟨_,rfl,rfl⟩|(simp;omega)|(simp;done)))
   refine aB (ih t.fArgs[i] (by have:=List.sizeOf_lt_of_mem (List.getElem_mem hi);omega) (wm hi hsz).1) ?_;simp -implicitDefEqProofs (disch:=omega) only[go_sem]<;>(repeat(with_reducible refine And.intro ?_ ?_;focus first|omega|rfl|assumption|exact⟨_,rfl,rfl⟩|(simp;omega)|(simp;done)))
   with_reducible refine aC (fun hb=> ?_) (fun hb=> ?_)<;>have h:=hb<;>(try simp only[wf_preprocess] at h)<;>simp -implicitDefEqProofs (disch:=omega) only[go_sem,hb]<;>(repeat(with_reducible refine And.intro ?_ ?_;focus first|omega|rfl|assumption|exact⟨_,rfl,rfl⟩|(simp;omega)|(simp;done)))
   ·rw[EG,<-p2,h];simp
   ·exact bT (i+1) (by omega) rfl rfl ⟨by omega,by rw[<-p2,h];rfl⟩
  ·have hi:i=t.fArgs.length:=by omega
   rw[hi,List.drop_length] at p2;rw[EG,<-p2];exact bL (by simp[ug,nE])
theorem DL(t:ay)(hsz:t.sz<=4194304):aX prog 161 [t.v] (.c (.d (.b (qK t)))):=Ck _ t (Nat.lt_succ_self _) hsz
theorem DN{x:ay}{i:Nat}(hi:i<x.fArgs.length)(h:x.sz<=4194304):x.fArgs[i].sz<=4194304/\x.fArgs.length<=4194304/\x.fName.length<=4194304:=by
 have hx:x.fArgs[i].sz<=aQ (x.fArgs.map ay.enc):=dO (List.mem_map_of_mem (List.getElem_mem hi));simp only[ay.sz,ay.aj,bG,D.sz,List.length_map] at h;omega
theorem PL{x:ay}(h:x.sz<=4194304):x.fArgs.length<=4194304/\x.fName.length<=4194304:=by
 simp only[ay.sz,ay.aj,bG,D.sz,List.length_map] at h;omega
theorem qY:∀{ts:List ay}{i:Nat}(hi:i<ts.length),ay.fB (ts.drop i)=ts[i].cnt+ay.fB (ts.drop (i+1)):=fun {ts} {i} hi=>by
 rw[List.drop_eq_getElem_cons hi,ay.fB]
theorem Ul:∀{ts:List ay}{i:Nat}(hi:i<ts.length),depths (ts.drop i)=max (qJ ts[i]+1) (depths (ts.drop (i+1))):=fun {ts} {i} hi=>by
 rw[List.drop_eq_getElem_cons hi,depths]
theorem Rx:∀{ts:List ay}{i:Nat}(hi:i<ts.length),j4 (ts.drop i)=(formed ts[i]&&j4 (ts.drop (i+1))):=fun {ts} {i} hi=>by
 rw[List.drop_eq_getElem_cons hi,j4]
theorem Le:∀n:Nat,∀x:ay,SizeOf.sizeOf x<n->∀l:Int,0<=l->l<=1073741824->x.sz<=4194304->aX prog 210 [x.v,.c (.d (.i .i64 l))] (.c (.d (.i .i64 (l7 l x.cnt))))
 |0=>fun x h=>by omega
 |n+1=>by
  have ih:=Le n;intro x hn l h0 h1 hsz S;have nO:=ay.j3 x;have hts:=PL hsz;have hcn:=ay.zi x;refine zcx [.tmp 4] func210 ntmps210 ?_;simp -implicitDefEqProofs (disch:=omega) only[go_sem]
  refine bN (ι:=Nat×Int) zmx rfl [1,2,5] (fun y=>[.c (.d (.i .i64 y.2)),.c (.ptr (0,0) 0),.c (.d (.i .i64 y.1))]) (fun y=>[.box [.d (.i .i64 x.aV),.d (.s x.fName),.d (.sl (x.fArgs.map ay.enc))]]::S)
   (fun y=>y.1<=x.fArgs.length/\ -1<=y.2/\y.2<=1073741824/\(0<=y.2->l7 l x.cnt=l7 y.2 (ay.fB (x.fArgs.drop y.1)))/\(y.2<0->l7 l x.cnt= -1)) (fun y=>x.fArgs.length-y.1) (0,l-1) rfl rfl ⟨Nat.zero_le _,by simp only;omega,by simp only;omega,fun h=> ?_,fun h=> ?_⟩ ?_
  ·simp only[List.drop_zero] at h ⊢;unfold l7;rw[hcn];split<;>split<;>omega
  ·simp only at h;exact Ir (by omega)
  rintro⟨i,c⟩ ⟨p1,p2,p3,p4,p5⟩;simp only at p1 p2 p3 p4 p5;simp -implicitDefEqProofs (disch:=omega) only[go_sem]
  with_reducible refine aC (fun hb=> ?_) (fun hb=> ?_)<;>have h:=hb<;>(try simp only[wf_preprocess] at h)<;>simp -implicitDefEqProofs (disch:=omega) only[go_sem,hb]<;>(repeat(with_reducible refine And.intro ?_ ?_;focus first|omega|rfl|assumption|exact⟨_,rfl,rfl⟩|(simp;omega)|(simp;done)))
  ·have hi:i<x.fArgs.length:=by omega
   with_reducible refine aC (fun hb=> ?_) (fun hb=> ?_)<;>have h:=hb<;>(try simp only[wf_preprocess] at h)<;>simp -implicitDefEqProofs (disch:=omega) only[go_sem,hb]<;>(repeat(with_reducible refine And.intro ?_ ?_;focus first|omega|rfl|assumption|exact⟨_,rfl,rfl⟩|(simp;omega)|(simp;done)))
   ·have hsz':=DN hi hsz;have p6:=p4 h;rw[qY hi] at p6
    (repeat(with_reducible refine And.intro ?_ ?_;focus first|omega|rfl|assumption|exact⟨_,rfl,rfl⟩|(simp;omega)|(simp;done)))
    refine aB (ih x.fArgs[i] (by have:=List.sizeOf_lt_of_mem (List.getElem_mem hi);omega) c (by omega) (by omega) (by omega)) ?_;simp -implicitDefEqProofs (disch:=omega) only[go_sem]<;>(repeat(with_reducible refine And.intro ?_ ?_;focus first|omega|rfl|assumption|exact⟨_,rfl,rfl⟩|(simp;omega)|(simp;done)));refine bT (i+1,l7 c _) (by simp only;omega) rfl rfl ⟨by simp only;omega,?_,?_,fun h=> ?_,fun h=> ?_⟩
    ·simp only;unfold l7;split<;>omega
    ·simp only;unfold l7;split<;>omega
    ·simp only at h ⊢;rw[p6];have:=Iq (l:=c) (a:=x.fArgs[i].cnt) (by omega);rw[this.1];unfold l7;split<;>split<;>omega
    ·simp only at h ⊢;rw[p6];have:=EC h;exact Ir (by omega)
   ·have hc:c= -1:=by omega
    rw[p5 (by omega),hc]
  ·have hi:i=x.fArgs.length:=by omega
   by_cases hc:0<=c
   ·rw[p4 hc,hi,List.drop_length,ay.fB,Ro (by omega)];exact int_eq (by simp)
   ·rw[p5 (by omega)];exact int_eq (by omega)
theorem aaO(x:ay)(l:Int)(h0:0<=l)(h1:l<=1073741824)(hsz:x.sz<=4194304):aX prog 210 [x.v,.c (.d (.i .i64 l))] (.c (.d (.i .i64 (l7 l x.cnt)))):=Le _ x (Nat.lt_succ_self _) l h0 h1 hsz
theorem Ry(a b:Int):aX prog 233 [.c (.d (.i .i64 a)),.c (.d (.i .i64 b))] (.c (.d (.i .i64 (max a b)))):=fun S=>by
 refine zcx [.tmp 4] func233 ntmps233 ?_;simp -implicitDefEqProofs (disch:=omega) only[go_sem]
 with_reducible refine aC (fun hb=> ?_) (fun hb=> ?_)<;>have h:=hb<;>(try simp only[wf_preprocess] at h)<;>simp -implicitDefEqProofs (disch:=omega) only[go_sem,hb]<;>(repeat(with_reducible refine And.intro ?_ ?_;focus first|omega|rfl|assumption|exact⟨_,rfl,rfl⟩|(simp;omega)|(simp;done)))
 ·exact int_eq (by omega)
 ·exact int_eq (by omega)
theorem FJ:∀n:Nat,∀x:ay,SizeOf.sizeOf x<n->x.sz<=4194304->aX prog 211 [x.v] (.c (.d (.i .i64 (qJ x))))
 |0=>fun x h=>by omega
 |n+1=>by
  have ih:=FJ n;intro x hn hsz S;have nO:=ay.j3 x;have hts:=PL hsz;have hd1:=Gx x;have hd2:=pR x;refine zcx [.tmp 2] func211 ntmps211 ?_;simp -implicitDefEqProofs (disch:=omega) only[go_sem]
  refine bN (ι:=Nat×Nat) zmx rfl [1,3,4] (fun y=>[.c (.ptr (0,0) 0),.c (.d (.i .i64 y.2)),.c (.d (.i .i64 y.1))]) (fun y=>[.box [.d (.i .i64 x.aV),.d (.s x.fName),.d (.sl (x.fArgs.map ay.enc))]]::S)
   (fun y=>y.1<=x.fArgs.length/\qJ x=max y.2 (depths (x.fArgs.drop y.1))) (fun y=>x.fArgs.length-y.1) (0,0) rfl rfl ⟨Nat.zero_le _,by simp[aaK]⟩ ?_
  rintro⟨i,c⟩ ⟨p1,p2⟩;simp only at p1 p2;simp -implicitDefEqProofs (disch:=omega) only[go_sem]
  with_reducible refine aC (fun hb=> ?_) (fun hb=> ?_)<;>have h:=hb<;>(try simp only[wf_preprocess] at h)<;>simp -implicitDefEqProofs (disch:=omega) only[go_sem,hb]<;>(repeat(with_reducible refine And.intro ?_ ?_;focus first|omega|rfl|assumption|exact⟨_,rfl,rfl⟩|(simp;omega)|(simp;done)))
  ·have hi:i<x.fArgs.length:=by omega
   have hsz':=DN hi hsz;rw[Ul hi] at p2;have hd3:=Gx x.fArgs[i];have hd4:=pR x.fArgs[i]
   (repeat(with_reducible refine And.intro ?_ ?_;focus first|omega|rfl|assumption|exact⟨_,rfl,rfl⟩|(simp;omega)|(simp;done)))
   refine aB (ih x.fArgs[i] (by have:=List.sizeOf_lt_of_mem (List.getElem_mem hi);omega) (by omega)) ?_;simp -implicitDefEqProofs (disch:=omega) only[go_sem]<;>(repeat(with_reducible refine And.intro ?_ ?_;focus first|omega|rfl|assumption|exact⟨_,rfl,rfl⟩|(simp;omega)|(simp;done)));refine aB (Ry _ _) ?_;simp -implicitDefEqProofs (disch:=omega) only[go_sem]<;>(repeat(with_reducible refine And.intro ?_ ?_;focus first|omega|rfl|assumption|exact⟨_,rfl,rfl⟩|(simp;omega)|(simp;done)));rw[show max (c:Int) (1+(qJ x.fArgs[i]:Int))=((max c (1+qJ x.fArgs[i]):Nat):Int) by omega];exact bT (i+1,max c (1+qJ x.fArgs[i])) (by simp only;omega) rfl rfl ⟨by simp only;omega,by simp only;omega⟩
  ·have hi:i=x.fArgs.length:=by omega
   rw[hi,List.drop_length,depths] at p2;exact int_eq (by omega)
theorem Rz(x:ay)(hsz:x.sz<=4194304):aX prog 211 [x.v] (.c (.d (.i .i64 (qJ x)))):=FJ _ x (Nat.lt_succ_self _) hsz
theorem Lf:∀n:Nat,∀x:ay,SizeOf.sizeOf x<n->x.sz<=4194304->aX prog 212 [x.v] (.c (.d (.b (formed x))))
 |0=>fun x h=>by omega
 |n+1=>by
  have ih:=Lf n;intro x hn hsz S;have nO:=ay.j3 x;have hts:=PL hsz;have shut:¬((x.aV=1\/x.aV=4)/\validName x.fName=true/\x.fArgs.length=0\/x.aV=3/\validName x.fName=true/\x.fArgs.length=1\/x.aV=2/\(validName x.fName=true/\x.fArgs.length<=3\/uf x.fName=true/\x.fArgs.length=0))->V.c (.d (.b false))=V.c (.d (.b (formed x))):=fun h=>bL (by rw[Gw,show IC x.aV x.fName x.fArgs.length=false from bJ h];rfl)
  have akW:∀b:Bool,(b=true<->((x.aV=1\/x.aV=4)/\validName x.fName=true/\x.fArgs.length=0\/x.aV=3/\validName x.fName=true/\x.fArgs.length=1\/x.aV=2/\(validName x.fName=true/\x.fArgs.length<=3\/uf x.fName=true/\x.fArgs.length=0)))->b=IC x.aV x.fName x.fArgs.length:=fun b h=>by
   rw[Bool.eq_iff_iff,h];unfold IC;rw[yO]
  refine zcx [.tmp 2] func212 ntmps212 ?_;simp -implicitDefEqProofs (disch:=omega) only[go_sem];refine aB (gL x.fName (by omega)) ?_;simp -implicitDefEqProofs (disch:=omega) only[go_sem]<;>(repeat(with_reducible refine And.intro ?_ ?_;focus first|omega|rfl|assumption|exact⟨_,rfl,rfl⟩|(simp;omega)|(simp;done)))
  repeat' (first
   |(with_reducible refine aC (fun hb=> ?_) (fun hb=> ?_)<;>have h:=hb<;>(try simp only[wf_preprocess] at h)<;>simp -implicitDefEqProofs (disch:=omega) only[go_sem,hb]<;>(repeat(with_reducible refine And.intro ?_ ?_;focus first|omega|rfl|assumption|exact⟨_,rfl,rfl⟩|(simp;omega)|(simp;done))))
   |(refine aB (Oj x.fName) ?_;simp -implicitDefEqProofs (disch:=omega) only[go_sem]))
  all_goals first
   |(refine shut (fun y=> ?_);rcases y with⟨_,_,_⟩|⟨_,_,_⟩|⟨_,⟨_,_⟩|⟨_,_⟩⟩<;>first|omega|(simp_all;done))
   |skip
  all_goals
   refine bN (ι:=Nat×Bool) zmx rfl [1,3,4] (fun y=>[.c (.ptr (0,0) 0),.c (.d (.b y.2)),.c (.d (.i .i64 y.1))]) (fun y=>[.box [.d (.i .i64 x.aV),.d (.s x.fName),.d (.sl (x.fArgs.map ay.enc))]]::S)
    (fun y=>y.1<=x.fArgs.length/\(y.2&&j4 (x.fArgs.drop y.1))=formed x) (fun y=>x.fArgs.length-y.1) (0,IC x.aV x.fName x.fArgs.length) ?_ rfl ⟨Nat.zero_le _,by rw[Gw];rfl⟩ ?_
   ·simp only[List.map_cons,List.map_nil];simp -implicitDefEqProofs (disch:=omega) only[go_sem,List.cons.injEq,V.c.injEq,C.d.injEq,D.b.injEq,Int.natCast_zero];refine akW _ ⟨fun y=> ?_,fun y=> ?_⟩
    ·(try simp only[decide_eq_true_eq,Bool.false_eq_true] at y)<;>first
       |exact .inl ⟨by omega,by assumption,by omega⟩
       |exact .inr (.inl ⟨by omega,by assumption,by omega⟩)
       |exact .inr (.inr ⟨by omega,.inl ⟨by assumption,by omega⟩⟩)
       |exact .inr (.inr ⟨by omega,.inr ⟨by assumption,by omega⟩⟩)
    ·rcases y with⟨_,_,_⟩|⟨_,_,_⟩|⟨_,⟨_,_⟩|⟨_,_⟩⟩<;>first|omega|(simp only[decide_eq_true_eq];omega)|(simp_all;done)
   rintro⟨i,c⟩ ⟨p1,p2⟩;simp only at p1 p2;simp -implicitDefEqProofs (disch:=omega) only[go_sem]
   with_reducible refine aC (fun hb=> ?_) (fun hb=> ?_)<;>have h:=hb<;>(try simp only[wf_preprocess] at h)<;>simp -implicitDefEqProofs (disch:=omega) only[go_sem,hb]<;>(repeat(with_reducible refine And.intro ?_ ?_;focus first|omega|rfl|assumption|exact⟨_,rfl,rfl⟩|(simp;omega)|(simp;done)))
   ·have hi:i<x.fArgs.length:=by omega
    have hsz':=DN hi hsz;rw[Rx hi] at p2
    with_reducible refine aC (fun hb=> ?_) (fun hb=> ?_)<;>have h:=hb<;>(try simp only[wf_preprocess] at h)<;>simp -implicitDefEqProofs (disch:=omega) only[go_sem,hb]<;>(repeat(with_reducible refine And.intro ?_ ?_;focus first|omega|rfl|assumption|exact⟨_,rfl,rfl⟩|(simp;omega)|(simp;done)))
    ·refine aB (ih x.fArgs[i] (by have:=List.sizeOf_lt_of_mem (List.getElem_mem hi);omega) (by omega)) ?_;simp -implicitDefEqProofs (disch:=omega) only[go_sem];exact bT (i+1,formed x.fArgs[i]) (by simp only;omega) rfl rfl ⟨by simp only;omega,by rw[<-p2,h];rfl⟩
    ·exact bT (i+1,false) (by simp only;omega) rfl rfl ⟨by simp only;omega,by rw[<-p2,h];rfl⟩
   ·have hi:i=x.fArgs.length:=by omega
    rw[hi,List.drop_length,j4,Bool.and_true] at p2;rw[p2]
theorem aaP(x:ay)(hsz:x.sz<=4194304):aX prog 212 [x.v] (.c (.d (.b (formed x)))):=Lf _ x (Nat.lt_succ_self _) hsz
theorem vL(x:ay)(hsz:x.sz<=4194304):aX prog 186 [x.v] (.c (.d (.b (qZ x)))):=fun S=>by
 refine zcx [.tmp 2] func186 ntmps186 ?_;simp -implicitDefEqProofs (disch:=omega) only[go_sem];refine aB (aaO x 60 (by omega) (by omega) hsz) ?_;simp -implicitDefEqProofs (disch:=omega) only[go_sem]<;>(repeat(with_reducible refine And.intro ?_ ?_;focus first|omega|rfl|assumption|exact⟨_,rfl,rfl⟩|(simp;omega)|(simp;done)))
 with_reducible refine aC (fun hb=> ?_) (fun hb=> ?_)<;>have h:=hb<;>(try simp only[wf_preprocess] at h)<;>simp -implicitDefEqProofs (disch:=omega) only[go_sem,hb]<;>(repeat(with_reducible refine And.intro ?_ ?_;focus first|omega|rfl|assumption|exact⟨_,rfl,rfl⟩|(simp;omega)|(simp;done)))
 ·have h1:=(Iq (l:=60) (a:=x.cnt) (by omega)).2;refine aB (Rz x hsz) ?_;simp -implicitDefEqProofs (disch:=omega) only[go_sem]<;>(repeat(with_reducible refine And.intro ?_ ?_;focus first|omega|rfl|assumption|exact⟨_,rfl,rfl⟩|(simp;omega)|(simp;done)))
  with_reducible refine aC (fun hb=> ?_) (fun hb=> ?_)<;>have h:=hb<;>(try simp only[wf_preprocess] at h)<;>simp -implicitDefEqProofs (disch:=omega) only[go_sem,hb]<;>(repeat(with_reducible refine And.intro ?_ ?_;focus first|omega|rfl|assumption|exact⟨_,rfl,rfl⟩|(simp;omega)|(simp;done)))
  ·refine aB (aaP x hsz) ?_;simp -implicitDefEqProofs (disch:=omega) only[go_sem]<;>(repeat(with_reducible refine And.intro ?_ ?_;focus first|omega|rfl|assumption|exact⟨_,rfl,rfl⟩|(simp;omega)|(simp;done)));refine bL ?_
   cases hf:formed x with
   |false=>exact(bJ fun y=>by rw[hf] at y;cases y.1).symm
   |true=>exact(dD ⟨hf,by omega,by omega⟩).symm
  ·exact bL (bJ fun y=>by have:=y.2.1;omega).symm
 ·have h1:=EC (l:=60) (a:=x.cnt) (by omega);exact bL (bJ fun y=>by have:=y.2.2;omega).symm
theorem IY(x:aS)(hn:x.bW.length<=1073741824)(hsz:x.fType.sz<=4194304):aX prog 187 [x.v] (.c (.d (.b (validName x.bW&&qZ x.fType)))):=fun S=>by
 refine zcx [.tmp 2] func187 ntmps187 ?_;simp -implicitDefEqProofs (disch:=omega) only[go_sem];refine aB (gL x.bW hn) ?_;simp -implicitDefEqProofs (disch:=omega) only[go_sem]<;>(repeat(with_reducible refine And.intro ?_ ?_;focus first|omega|rfl|assumption|exact⟨_,rfl,rfl⟩|(simp;omega)|(simp;done)))
 with_reducible refine aC (fun hb=> ?_) (fun hb=> ?_)<;>have h:=hb<;>(try simp only[wf_preprocess] at h)<;>simp -implicitDefEqProofs (disch:=omega) only[go_sem,hb]<;>(repeat(with_reducible refine And.intro ?_ ?_;focus first|omega|rfl|assumption|exact⟨_,rfl,rfl⟩|(simp;omega)|(simp;done)))
 ·refine aB (vL x.fType hsz) ?_;simp -implicitDefEqProofs (disch:=omega) only[go_sem]<;>(repeat(with_reducible refine And.intro ?_ ?_;focus first|omega|rfl|assumption|exact⟨_,rfl,rfl⟩|(simp;omega)|(simp;done)))
 ·rfl
theorem JQ(g:Nat)(caps:List (Key×Nat))(S:Store)(xs:List ay)(p:ay->Bool)(hl:xs.length<=1073741824)(hp:∀x∈xs,uJ prog g caps S [x.v] (.c (.d (.b (p x))))):
 bY prog 175 [.c (.d (.sl (xs.map ay.enc))),.c (.fn g caps)] S (fun r S'=>r=.c (.d (.i .i64 (pV p xs)))/\S'=S):=by
 refine zcx [.tmp 4] func175 ntmps175 ?_;simp -implicitDefEqProofs (disch:=omega) only[go_sem]
 refine bN (ι:=Nat) zmx rfl [0,1,7,8] (fun i=>[.c (.d (.sl (xs.map ay.enc))),.c (.fn g (jR 1 caps)),.c (.d (.i .i64 xs.length)),.c (.d (.i .i64 i))]) (fun _=>[]::S)
  (fun i=>i<=xs.length/\∀j,∀hj:j<xs.length,j<i->p xs[j]=false) (fun i=>xs.length-i) 0 rfl rfl ⟨Nat.zero_le _,fun j _ h=>by omega⟩ ?_
 rintro i ⟨p1,p2⟩;simp -implicitDefEqProofs (disch:=omega) only[go_sem]
 with_reducible refine aC (fun hb=> ?_) (fun hb=> ?_)<;>have h:=hb<;>(try simp only[wf_preprocess] at h)<;>simp -implicitDefEqProofs (disch:=omega) only[go_sem,hb]<;>(repeat(with_reducible refine And.intro ?_ ?_;focus first|omega|rfl|assumption|exact⟨_,rfl,rfl⟩|(simp;omega)|(simp;done)))
 ·have hi:i<xs.length:=by omega
  (repeat(with_reducible refine And.intro ?_ ?_;focus first|omega|rfl|assumption|exact⟨_,rfl,rfl⟩|(simp;omega)|(simp;done)))
  refine aW rfl (hp xs[i] (List.getElem_mem hi) [_]) ?_;simp -implicitDefEqProofs (disch:=omega) only[go_sem]
  with_reducible refine aC (fun hb=> ?_) (fun hb=> ?_)<;>have h:=hb<;>(try simp only[wf_preprocess] at h)<;>simp -implicitDefEqProofs (disch:=omega) only[go_sem,hb]<;>(repeat(with_reducible refine And.intro ?_ ?_;focus first|omega|rfl|assumption|exact⟨_,rfl,rfl⟩|(simp;omega)|(simp;done)))
  ·rw[sO hi p2 h]
  ·refine bT (i+1) (by omega) rfl rfl ⟨by omega,fun j hj hji=> ?_⟩;by_cases e:j=i
   ·subst e;exact h
   ·exact p2 j hj (by omega)
 ·rw[vY (fun j hj=>p2 j hj (by omega))]
theorem FT(g:Nat)(caps:List (Key×Nat))(S:Store)(xs:List ay)(p:ay->Bool)(hl:xs.length<=1073741824)(hp:∀x∈xs,uJ prog g caps S [x.v] (.c (.d (.b (p x))))):
 bY prog 147 [.c (.d (.sl (xs.map ay.enc))),.c (.fn g caps)] S (fun r S'=>r=.c (.d (.b (xs.any p)))/\S'=S):=by
 refine zcx [.tmp 4] func147 ntmps147 ?_;simp -implicitDefEqProofs (disch:=omega) only[go_sem];refine aW rfl (JQ g (jR 1 caps) _ xs p hl fun x hx=>(hp x hx).push _) ?_;simp -implicitDefEqProofs (disch:=omega) only[go_sem];exact bL EF
theorem DR(g:Nat)(caps:List (Key×Nat))(S:Store)(xs:List aI)(p:aI->Bool)(hl:xs.length<=1073741824)(hp:∀x∈xs,uJ prog g caps S [x.v] (.c (.d (.b (p x))))):
 bY prog 222 [.c (.d (.sl (xs.map aI.enc))),.c (.fn g caps)] S (fun r S'=>r=.c (.d (.i .i64 (pV p xs)))/\S'=S):=by
 refine zcx [.tmp 4] func222 ntmps222 ?_;simp -implicitDefEqProofs (disch:=omega) only[go_sem]
 refine bN (ι:=Nat) zmx rfl [0,1,7,8] (fun i=>[.c (.d (.sl (xs.map aI.enc))),.c (.fn g (jR 1 caps)),.c (.d (.i .i64 xs.length)),.c (.d (.i .i64 i))]) (fun _=>[]::S)
  (fun i=>i<=xs.length/\∀j,∀hj:j<xs.length,j<i->p xs[j]=false) (fun i=>xs.length-i) 0 rfl rfl ⟨Nat.zero_le _,fun j _ h=>by omega⟩ ?_
 rintro i ⟨p1,p2⟩;simp -implicitDefEqProofs (disch:=omega) only[go_sem]
 with_reducible refine aC (fun hb=> ?_) (fun hb=> ?_)<;>have h:=hb<;>(try simp only[wf_preprocess] at h)<;>simp -implicitDefEqProofs (disch:=omega) only[go_sem,hb]<;>(repeat(with_reducible refine And.intro ?_ ?_;focus first|omega|rfl|assumption|exact⟨_,rfl,rfl⟩|(simp;omega)|(simp;done)))
 ·have hi:i<xs.length:=by omega
  (repeat(with_reducible refine And.intro ?_ ?_;focus first|omega|rfl|assumption|exact⟨_,rfl,rfl⟩|(simp;omega)|(simp;done)))
  refine aW rfl (hp xs[i] (List.getElem_mem hi) [_]) ?_;simp -implicitDefEqProofs (disch:=omega) only[go_sem]
  with_reducible refine aC (fun hb=> ?_) (fun hb=> ?_)<;>have h:=hb<;>(try simp only[wf_preprocess] at h)<;>simp -implicitDefEqProofs (disch:=omega) only[go_sem,hb]<;>(repeat(with_reducible refine And.intro ?_ ?_;focus first|omega|rfl|assumption|exact⟨_,rfl,rfl⟩|(simp;omega)|(simp;done)))
  ·rw[sO hi p2 h]
  ·refine bT (i+1) (by omega) rfl rfl ⟨by omega,fun j hj hji=> ?_⟩;by_cases e:j=i
   ·subst e;exact h
   ·exact p2 j hj (by omega)
 ·rw[vY (fun j hj=>p2 j hj (by omega))]
theorem Br(g:Nat)(caps:List (Key×Nat))(S:Store)(xs:List aI)(p:aI->Bool)(hl:xs.length<=1073741824)(hp:∀x∈xs,uJ prog g caps S [x.v] (.c (.d (.b (p x))))):
 bY prog 193 [.c (.d (.sl (xs.map aI.enc))),.c (.fn g caps)] S (fun r S'=>r=.c (.d (.b (xs.any p)))/\S'=S):=by
 refine zcx [.tmp 4] func193 ntmps193 ?_;simp -implicitDefEqProofs (disch:=omega) only[go_sem];refine aW rfl (DR g (jR 1 caps) _ xs p hl fun x hx=>(hp x hx).push _) ?_;simp -implicitDefEqProofs (disch:=omega) only[go_sem];exact bL EF
theorem FU(g:Nat)(caps:List (Key×Nat))(S:Store)(xs:List aK)(p:aK->Bool)(hl:xs.length<=1073741824)(hp:∀x∈xs,uJ prog g caps S [x.v] (.c (.d (.b (p x))))):
 bY prog 65 [.c (.d (.sl (xs.map aK.enc))),.c (.fn g caps)] S (fun r S'=>r=.c (.d (.i .i64 (pV p xs)))/\S'=S):=by
 refine zcx [.tmp 4] func65 ntmps65 ?_;simp -implicitDefEqProofs (disch:=omega) only[go_sem]
 refine bN (ι:=Nat) zmx rfl [0,1,7,8] (fun i=>[.c (.d (.sl (xs.map aK.enc))),.c (.fn g (jR 1 caps)),.c (.d (.i .i64 xs.length)),.c (.d (.i .i64 i))]) (fun _=>[]::S)
  (fun i=>i<=xs.length/\∀j,∀hj:j<xs.length,j<i->p xs[j]=false) (fun i=>xs.length-i) 0 rfl rfl ⟨Nat.zero_le _,fun j _ h=>by omega⟩ ?_
 rintro i ⟨p1,p2⟩;simp -implicitDefEqProofs (disch:=omega) only[go_sem]
 with_reducible refine aC (fun hb=> ?_) (fun hb=> ?_)<;>have h:=hb<;>(try simp only[wf_preprocess] at h)<;>simp -implicitDefEqProofs (disch:=omega) only[go_sem,hb]<;>(repeat(with_reducible refine And.intro ?_ ?_;focus first|omega|rfl|assumption|exact⟨_,rfl,rfl⟩|(simp;omega)|(simp;done)))
 ·have hi:i<xs.length:=by omega
  (repeat(with_reducible refine And.intro ?_ ?_;focus first|omega|rfl|assumption|exact⟨_,rfl,rfl⟩|(simp;omega)|(simp;done)))
  refine aW rfl (hp xs[i] (List.getElem_mem hi) [_]) ?_;simp -implicitDefEqProofs (disch:=omega) only[go_sem]
  with_reducible refine aC (fun hb=> ?_) (fun hb=> ?_)<;>have h:=hb<;>(try simp only[wf_preprocess] at h)<;>simp -implicitDefEqProofs (disch:=omega) only[go_sem,hb]<;>(repeat(with_reducible refine And.intro ?_ ?_;focus first|omega|rfl|assumption|exact⟨_,rfl,rfl⟩|(simp;omega)|(simp;done)))
  ·rw[sO hi p2 h]
  ·refine bT (i+1) (by omega) rfl rfl ⟨by omega,fun j hj hji=> ?_⟩;by_cases e:j=i
   ·subst e;exact h
   ·exact p2 j hj (by omega)
 ·rw[vY (fun j hj=>p2 j hj (by omega))]
theorem Um(xs ys:List (List UInt8))(hl:xs.length<=1073741824):aX prog 232 [.c (.d (.sl (xs.map encS))),.c (.d (.sl (ys.map encS)))] (.c (.d (.b (dec (xs=ys))))):=fun S=>by
 refine zcx [.tmp 4] func232 ntmps232 ?_;simp -implicitDefEqProofs (disch:=omega) only[go_sem,encS]
 with_reducible refine aC (fun hb=> ?_) (fun hb=> ?_)<;>have h:=hb<;>(try simp only[wf_preprocess] at h)<;>simp -implicitDefEqProofs (disch:=omega) only[go_sem,hb,encS]<;>(repeat(with_reducible refine And.intro ?_ ?_;focus first|omega|rfl|assumption|exact⟨_,rfl,rfl⟩|(simp;omega)|(simp;done)))
 ·exact bL (bJ (fun e=>h (by rw[e]))).symm
 have hl':xs.length=ys.length:=by omega
 refine bN (ι:=Nat) zmx rfl [0,1,5] (fun i=>[.c (.d (.sl (xs.map encS))),.c (.d (.sl (ys.map encS))),.c (.d (.i .i64 i))]) (fun _=>[]::S)
  (fun i=>i<=xs.length/\∀j,j<i->xs[j]? =ys[j]?) (fun y=>xs.length-y) 0 rfl rfl ⟨Nat.zero_le _,fun j h=>by omega⟩ ?_
 rintro i ⟨p1,p2⟩;simp -implicitDefEqProofs (disch:=omega) only[go_sem,encS]
 with_reducible refine aC (fun hb=> ?_) (fun hb=> ?_)<;>have h:=hb<;>(try simp only[wf_preprocess] at h)<;>simp -implicitDefEqProofs (disch:=omega) only[go_sem,hb,encS]<;>(repeat(with_reducible refine And.intro ?_ ?_;focus first|omega|rfl|assumption|exact⟨_,rfl,rfl⟩|(simp;omega)|(simp;done)))
 ·have hi:i<xs.length:=by omega
  have hi':i<ys.length:=by omega
  (repeat(with_reducible refine And.intro ?_ ?_;focus first|omega|rfl|assumption|exact⟨_,rfl,rfl⟩|(simp;omega)|(simp;done)))
  with_reducible refine aC (fun hb=> ?_) (fun hb=> ?_)<;>have h:=hb<;>(try simp only[wf_preprocess] at h)<;>simp -implicitDefEqProofs (disch:=omega) only[go_sem,hb,encS]<;>(repeat(with_reducible refine And.intro ?_ ?_;focus first|omega|rfl|assumption|exact⟨_,rfl,rfl⟩|(simp;omega)|(simp;done)))
  ·exact bL (bJ (fun e=>h (by simp only[e]))).symm
  refine bT (i+1) (by omega) rfl rfl ⟨by omega,fun j hj=> ?_⟩;by_cases e:j=i
  ·subst e;rw[List.getElem?_eq_getElem hi,List.getElem?_eq_getElem hi',h]
  ·exact p2 j (by omega)
 ·have hi:i=xs.length:=by omega
  refine bL (dD (List.ext_getElem? fun j=> ?_)).symm;by_cases hj:j<i
  ·exact p2 j hj
  ·rw[List.getElem?_eq_none (by omega),List.getElem?_eq_none (by omega)]
theorem zo{s:List UInt8}{xs:List (List UInt8)}(h:s∈xs):s.length<=aQ (xs.map encS):=by
 have:=dO (List.mem_map_of_mem (f:=encS) h);simpa [encS,bG,D.sz] using this
noncomputable def iQ(xs:List (List UInt8)):Bool:=dec xs.Nodup&&xs.all validName
noncomputable def among(xs ys:List (List UInt8)):Bool:=xs.all fun s=>dec (s∈ys)
noncomputable def iH(vars:List (List UInt8))(t:ay):Bool:=qZ t&&among (jN [] t) vars
noncomputable def mK(vars:List (List UInt8))(ts:List ay):Bool:=ts.all (iH vars)
theorem nZ{α:Type}{xs:List α}{i:Nat}(hi:i<xs.length):xs.take (i+1)=xs.take i++[xs[i]]:=List.take_succ_eq_append_getElem hi
theorem Lg{α:Type}{xs:List α}{x:α}:(xs++[x]).Nodup<->xs.Nodup/\x∉xs:=by
 rw[List.nodup_append];constructor
 ·rintro⟨h1,_,h3⟩;exact⟨h1,fun hx=>h3 x hx x (by simp) rfl⟩
 ·rintro⟨h1,h2⟩;exact⟨h1,by simp,fun a ha b hb e=>by simp at hb;subst hb;exact h2 (e▸ha)⟩
theorem aaQ{α:Type}{xs:List α}{i:Nat}(hi:i<xs.length)(h:xs[i]∈xs.take i):¬xs.Nodup:=fun hn=>by
 have h1:(xs.take (i+1)).Nodup:=hn.sublist (List.take_sublist _ _);rw[nZ hi] at h1;exact(Lg.1 h1).2 h
theorem mY(xs:List (List UInt8))(hl:xs.length<=1073741824):aX prog 57 [.c (.d (.sl (xs.map encS)))] (.c (.d (.b (dec xs.Nodup)))):=fun S=>by
 refine zcx [.tmp 2] func57 ntmps57 ?_;simp -implicitDefEqProofs (disch:=omega) only[go_sem,encS]
 refine bN (ι:=Nat) zmx rfl [0,3] (fun i=>[.c (.d (.sl (xs.map encS))),.c (.d (.i .i64 i))]) (fun _=>[]::S)
  (fun i=>i<=xs.length/\(xs.take i).Nodup) (fun i=>xs.length-i) 0 rfl rfl ⟨Nat.zero_le _,by simp⟩ ?_
 rintro i ⟨p1,p3⟩;simp -implicitDefEqProofs (disch:=omega) only[go_sem,encS]
 with_reducible refine aC (fun hb=> ?_) (fun hb=> ?_)<;>have h:=hb<;>(try simp only[wf_preprocess] at h)<;>simp -implicitDefEqProofs (disch:=omega) only[go_sem,hb,encS]<;>(repeat(with_reducible refine And.intro ?_ ?_;focus first|omega|rfl|assumption|exact⟨_,rfl,rfl⟩|(simp;omega)|(simp;done)))
 ·have hi:i<xs.length:=by omega
  have hc:∀y∈xs.map encS,y.length=1:=fun y hy=>by
   obtain⟨s,_,rfl⟩:=List.mem_map.1 hy;rfl
  have e:(xs.map encS).take i=(xs.take i).map encS:=List.map_take.symm;refine And.intro ⟨by omega,by omega,hc⟩ ?_
  (repeat(with_reducible refine And.intro ?_ ?_;focus first|omega|rfl|assumption|exact⟨_,rfl,rfl⟩|(simp;omega)|(simp;done)))
  simp -implicitDefEqProofs (disch:=omega) only[go_sem,Int.toNat_zero,e];refine aB (oF (xs.take i) xs[i] (by simp;omega)) ?_;simp -implicitDefEqProofs (disch:=omega) only[go_sem]<;>(repeat(with_reducible refine And.intro ?_ ?_;focus first|omega|rfl|assumption|exact⟨_,rfl,rfl⟩|(simp;omega)|(simp;done)))
  with_reducible refine aC (fun hb=> ?_) (fun hb=> ?_)<;>have h:=hb<;>(try simp only[wf_preprocess] at h)<;>simp -implicitDefEqProofs (disch:=omega) only[go_sem,hb]<;>(repeat(with_reducible refine And.intro ?_ ?_;focus first|omega|rfl|assumption|exact⟨_,rfl,rfl⟩|(simp;omega)|(simp;done)))
  ·exact bL (bJ (aaQ hi h)).symm
  ·refine bT (i+1) (by omega) rfl rfl ⟨by omega,?_⟩;rw[nZ hi,Lg];exact⟨p3,h⟩
 ·rw[List.take_of_length_le (by omega)] at p3;exact bL (dD p3).symm
theorem Lh(xs:List (List UInt8))(hl:xs.length<=1073741824)(hs:∀s∈xs,s.length<=4194304):aX prog 122 [.c (.d (.sl (xs.map encS)))] (.c (.d (.b (xs.all validName)))):=fun S=>by
 refine zcx [.tmp 2] func122 ntmps122 ?_;simp -implicitDefEqProofs (disch:=omega) only[go_sem,encS]
 refine bN (ι:=Nat) zmx rfl [0,3] (fun i=>[.c (.d (.sl (xs.map encS))),.c (.d (.i .i64 i))]) (fun _=>[]::S)
  (fun i=>i<=xs.length/\(xs.drop i).all validName=xs.all validName) (fun i=>xs.length-i) 0 rfl rfl ⟨Nat.zero_le _,rfl⟩ ?_
 rintro i ⟨p1,p2⟩;simp -implicitDefEqProofs (disch:=omega) only[go_sem,encS]
 with_reducible refine aC (fun hb=> ?_) (fun hb=> ?_)<;>have h:=hb<;>(try simp only[wf_preprocess] at h)<;>simp -implicitDefEqProofs (disch:=omega) only[go_sem,hb,encS]<;>(repeat(with_reducible refine And.intro ?_ ?_;focus first|omega|rfl|assumption|exact⟨_,rfl,rfl⟩|(simp;omega)|(simp;done)))
 ·have hi:i<xs.length:=by omega
  have hz:=hs _ (List.getElem_mem hi);rw[List.drop_eq_getElem_cons hi,List.all_cons] at p2
  (repeat(with_reducible refine And.intro ?_ ?_;focus first|omega|rfl|assumption|exact⟨_,rfl,rfl⟩|(simp;omega)|(simp;done)))
  refine aB (gL xs[i] (by omega)) ?_;simp -implicitDefEqProofs (disch:=omega) only[go_sem]<;>(repeat(with_reducible refine And.intro ?_ ?_;focus first|omega|rfl|assumption|exact⟨_,rfl,rfl⟩|(simp;omega)|(simp;done)))
  with_reducible refine aC (fun hb=> ?_) (fun hb=> ?_)<;>have h:=hb<;>(try simp only[wf_preprocess] at h)<;>simp -implicitDefEqProofs (disch:=omega) only[go_sem,hb]<;>(repeat(with_reducible refine And.intro ?_ ?_;focus first|omega|rfl|assumption|exact⟨_,rfl,rfl⟩|(simp;omega)|(simp;done)))
  ·rw[<-p2,h];rfl
  ·exact bT (i+1) (by omega) rfl rfl ⟨by omega,by rw[<-p2,h];rfl⟩
 ·rw[List.drop_of_length_le (by omega)] at p2;rw[<-p2];rfl
theorem kg(xs:List (List UInt8))(most:Int)(hl:xs.length<=1073741824)(hs:∀s∈xs,s.length<=4194304):aX prog 78 [.c (.d (.sl (xs.map encS))),.c (.d (.i .i64 most))] (.c (.d (.b (dec ((xs.length:Int)<=most)&&iQ xs)))):=fun S=>by
 refine zcx [.tmp 4] func78 ntmps78 ?_;simp -implicitDefEqProofs (disch:=omega) only[go_sem]
 with_reducible refine aC (fun hb=> ?_) (fun hb=> ?_)<;>have h:=hb<;>(try simp only[wf_preprocess] at h)<;>simp -implicitDefEqProofs (disch:=omega) only[go_sem,hb]<;>(repeat(with_reducible refine And.intro ?_ ?_;focus first|omega|rfl|assumption|exact⟨_,rfl,rfl⟩|(simp;omega)|(simp;done)))
 ·have h1:=h;refine aB (Lh xs hl hs) ?_;simp -implicitDefEqProofs (disch:=omega) only[go_sem]<;>(repeat(with_reducible refine And.intro ?_ ?_;focus first|omega|rfl|assumption|exact⟨_,rfl,rfl⟩|(simp;omega)|(simp;done)))
  with_reducible refine aC (fun hb=> ?_) (fun hb=> ?_)<;>have h:=hb<;>(try simp only[wf_preprocess] at h)<;>simp -implicitDefEqProofs (disch:=omega) only[go_sem,hb]<;>(repeat(with_reducible refine And.intro ?_ ?_;focus first|omega|rfl|assumption|exact⟨_,rfl,rfl⟩|(simp;omega)|(simp;done)))
  ·refine aB (mY xs hl) ?_;simp -implicitDefEqProofs (disch:=omega) only[go_sem]<;>(repeat(with_reducible refine And.intro ?_ ?_;focus first|omega|rfl|assumption|exact⟨_,rfl,rfl⟩|(simp;omega)|(simp;done)));exact bL (by rw[dD h1];unfold iQ;rw[hb];simp)
  ·exact bL (by rw[dD h1];unfold iQ;rw[hb];simp)
 ·exact bL (by rw[bJ h];rfl)
theorem rQ(t:ay)(vars:List (List UInt8))(hsz:t.sz<=4194304)(hv:vars.length<=1073741824):aX prog 160 [t.v,.c (.d (.sl (vars.map encS)))] (.c (.d (.b (iH vars t)))):=fun S=>by
 have h1:=Oi t [];have h2:=pR t
 have hlen:(jN [] t).length<=1073741824:=by simp at h1;omega
 refine zcx [.tmp 4] func160 ntmps160 ?_;simp -implicitDefEqProofs (disch:=omega) only[go_sem];refine aB (Ld t hsz) ?_;simp -implicitDefEqProofs (disch:=omega) only[go_sem]<;>(repeat(with_reducible refine And.intro ?_ ?_;focus first|omega|rfl|assumption|exact⟨_,rfl,rfl⟩|(simp;omega)|(simp;done)));generalize hxs:jN [] t=xs at hlen
 refine bN (ι:=Nat) zmx rfl [1,2,5,6] (fun i=>[.c (.d (.sl (vars.map encS))),.c (.ptr (0,0) 0),.c (.d (.sl (xs.map encS))),.c (.d (.i .i64 i))]) (fun _=>[.box [.d (.i .i64 t.aV),.d (.s t.fName),.d (.sl (t.fArgs.map ay.enc))]]::S)
  (fun i=>i<=xs.length/\among (xs.drop i) vars=among xs vars) (fun i=>xs.length-i) 0 rfl rfl ⟨Nat.zero_le _,rfl⟩ ?_
 rintro i ⟨p1,p2⟩;simp -implicitDefEqProofs (disch:=omega) only[go_sem,encS]
 with_reducible refine aC (fun hb=> ?_) (fun hb=> ?_)<;>have h:=hb<;>(try simp only[wf_preprocess] at h)<;>simp -implicitDefEqProofs (disch:=omega) only[go_sem,hb,encS]<;>(repeat(with_reducible refine And.intro ?_ ?_;focus first|omega|rfl|assumption|exact⟨_,rfl,rfl⟩|(simp;omega)|(simp;done)))
 ·have hi:i<xs.length:=by omega
  rw[List.drop_eq_getElem_cons hi] at p2;have p3:among xs vars=(dec (xs[i]∈vars)&&among (xs.drop (i+1)) vars):=p2.symm
  (repeat(with_reducible refine And.intro ?_ ?_;focus first|omega|rfl|assumption|exact⟨_,rfl,rfl⟩|(simp;omega)|(simp;done)))
  refine aB (oF vars xs[i] hv) ?_;simp -implicitDefEqProofs (disch:=omega) only[go_sem]<;>(repeat(with_reducible refine And.intro ?_ ?_;focus first|omega|rfl|assumption|exact⟨_,rfl,rfl⟩|(simp;omega)|(simp;done)))
  with_reducible refine aC (fun hb=> ?_) (fun hb=> ?_)<;>have h:=hb<;>(try simp only[wf_preprocess] at h)<;>simp -implicitDefEqProofs (disch:=omega) only[go_sem,hb]<;>(repeat(with_reducible refine And.intro ?_ ?_;focus first|omega|rfl|assumption|exact⟨_,rfl,rfl⟩|(simp;omega)|(simp;done)))
  ·exact bL (by unfold iH;rw[hxs,p3,bJ h];simp)
  ·exact bT (i+1) (by omega) rfl rfl ⟨by omega,by rw[p3,dD h];rfl⟩
 ·rw[List.drop_of_length_le (by omega)] at p2;have p3:among xs vars=true:=p2.symm
  (repeat(with_reducible refine And.intro ?_ ?_;focus first|omega|rfl|assumption|exact⟨_,rfl,rfl⟩|(simp;omega)|(simp;done)))
  refine aB (vL t hsz) ?_;simp -implicitDefEqProofs (disch:=omega) only[go_sem]<;>(repeat(with_reducible refine And.intro ?_ ?_;focus first|omega|rfl|assumption|exact⟨_,rfl,rfl⟩|(simp;omega)|(simp;done)));exact bL (by unfold iH;rw[hxs,p3];simp)
theorem Ol(ts:List ay)(vars:List (List UInt8))(hl:ts.length<=1073741824)(hsz:∀t∈ts,t.sz<=4194304)(hv:vars.length<=1073741824):aX prog 159 [.c (.d (.sl (ts.map ay.enc))),.c (.d (.sl (vars.map encS)))] (.c (.d (.b (mK vars ts)))):=fun S=>by
 refine zcx [.tmp 4] func159 ntmps159 ?_;simp -implicitDefEqProofs (disch:=omega) only[go_sem]
 refine bN (ι:=Nat) zmx rfl [0,1,5] (fun i=>[.c (.d (.sl (ts.map ay.enc))),.c (.d (.sl (vars.map encS))),.c (.d (.i .i64 i))]) (fun _=>[]::S)
  (fun i=>i<=ts.length/\mK vars (ts.drop i)=mK vars ts) (fun i=>ts.length-i) 0 rfl rfl ⟨Nat.zero_le _,rfl⟩ ?_
 rintro i ⟨p1,p2⟩;simp -implicitDefEqProofs (disch:=omega) only[go_sem]
 with_reducible refine aC (fun hb=> ?_) (fun hb=> ?_)<;>have h:=hb<;>(try simp only[wf_preprocess] at h)<;>simp -implicitDefEqProofs (disch:=omega) only[go_sem,hb]<;>(repeat(with_reducible refine And.intro ?_ ?_;focus first|omega|rfl|assumption|exact⟨_,rfl,rfl⟩|(simp;omega)|(simp;done)))
 ·have hi:i<ts.length:=by omega
  rw[List.drop_eq_getElem_cons hi] at p2;have p3:mK vars ts=(iH vars ts[i]&&mK vars (ts.drop (i+1))):=p2.symm
  (repeat(with_reducible refine And.intro ?_ ?_;focus first|omega|rfl|assumption|exact⟨_,rfl,rfl⟩|(simp;omega)|(simp;done)))
  refine aB (rQ ts[i] vars (hsz _ (List.getElem_mem hi)) hv) ?_;simp -implicitDefEqProofs (disch:=omega) only[go_sem]<;>(repeat(with_reducible refine And.intro ?_ ?_;focus first|omega|rfl|assumption|exact⟨_,rfl,rfl⟩|(simp;omega)|(simp;done)))
  with_reducible refine aC (fun hb=> ?_) (fun hb=> ?_)<;>have h:=hb<;>(try simp only[wf_preprocess] at h)<;>simp -implicitDefEqProofs (disch:=omega) only[go_sem,hb]<;>(repeat(with_reducible refine And.intro ?_ ?_;focus first|omega|rfl|assumption|exact⟨_,rfl,rfl⟩|(simp;omega)|(simp;done)))
  ·rw[p3,h];rfl
  ·exact bT (i+1) (by omega) rfl rfl ⟨by omega,by rw[p3,h];rfl⟩
 ·rw[List.drop_of_length_le (by omega)] at p2;rw[<-p2];rfl
def ops:List (List UInt8):=[[43],[45],[42],[60],[61]]
def Cm(t:ay):Prop:=t.aV=0/\t.fName=[]/\t.fArgs.length=0
def yh(e:aD):Prop:=
 (1<=e.aV/\e.aV<=12)/\
 (if e.aV=5\/e.aV=11 then validName e.bW=true else e.bW=[])/\
 (if e.aV=3\/e.aV=4\/e.aV=5\/e.aV=6\/e.aV=8 then validName e.fName=true else if e.aV=10 then e.fName∈ops else e.fName=[])/\
 (if e.aV=1 then -999999<=e.fN/\e.fN<=999999 else if e.aV=2 then e.fN=0\/e.fN=1 else e.fN=0)/\
 (if e.aV=12 then qZ e.fType=true else Cm e.fType)/\
 (if e.aV=4\/e.aV=6 then True else if e.aV=5 then 1<=e.fArgs.length else if e.aV=7\/e.aV=11\/e.aV=12 then e.fArgs.length=1 else if e.aV=8\/e.aV=10 then e.fArgs.length=2 else if e.aV=9 then e.fArgs.length=3 else e.fArgs.length=0)/\
 (e.aV=7<->0<e.bP.length)
mutual
noncomputable def iY:aD->Bool
 | .mk k t n m ty a b=>dec (yh (.mk k t n m ty a b))&&(lJ a&&oG b)
noncomputable def lJ:List aD->Bool
 |[]=>true
 |x::xs=>iY x&&lJ xs
noncomputable def yS:bE->Bool
 | .mk c v b=>validName c&&(iQ v&&iY b)
noncomputable def oG:List bE->Bool
 |[]=>true
 |x::xs=>yS x&&oG xs
end
theorem Om(x:aD):iY x=(dec (yh x)&&(lJ x.fArgs&&oG x.bP)):=by cases x;rw[iY];rfl
theorem yj(x:bE):yS x=(validName x.fP&&(iQ x.aU&&iY x.fBody)):=by cases x;rw[yS];rfl
theorem RA{xs:List aD}{i:Nat}(hi:i<xs.length):lJ (xs.drop i)=(iY xs[i]&&lJ (xs.drop (i+1))):=by rw[List.drop_eq_getElem_cons hi,lJ]
theorem Un{xs:List bE}{i:Nat}(hi:i<xs.length):oG (xs.drop i)=(yS xs[i]&&oG (xs.drop (i+1))):=by rw[List.drop_eq_getElem_cons hi,oG]
noncomputable def wo(e:aD):Bool:=dec (e.cnt<=300)&&iY e
def mM(l:Int)(c:Nat):Int:=if l<0 then -1 else if c<=l then l-c else -1
theorem EH{l:Int}{a b:Nat}:mM (mM l a) b=mM l (a+b):=by unfold mM;split<;>split<;>(try split)<;>(try split)<;>omega
theorem JR{l:Int}{a:Nat}(h:l<0):mM l a= -1:=if_pos h
theorem GA{l:Int}(h: -1<=l):mM l 0=l:=by unfold mM;split<;>(try split)<;>omega
theorem Na{l:Int}{c:Nat}(h:0<=l): -1<=mM l c/\mM l c<=l:=by unfold mM;split<;>(try split)<;>omega
theorem ad6{l:Int}{c:Nat}(h:0<=l):decide (mM l c>=0)=decide ((c:Int)<=l):=by unfold mM;rw[if_neg (by omega)];split<;>simp<;>omega
theorem Pn:validName []=false:=bJ fun h=>by have:=h.1.1;simp at this
theorem aiL{s:List UInt8}(h:s∈ops):s.length=1:=by simp[ops] at h;rcases h with h|h|h|h|h<;>rw[h]<;>rfl
theorem RB{s:List UInt8}(h:s∈ops):validName s=false:=bJ fun x=>by
 have h1:=x.2.2 0 (by have:=x.1.1;omega);simp[ops] at h;rcases h with h|h|h|h|h<;>rw[h] at h1<;>simp[lowerB,zl] at h1
structure Hold(p:Prop):Prop where
 out:p
theorem Bt{P:Program}{N:Nat}{c:Code}{Q:Exit->St->Prop}{tm:List (Nat×V)}{st st':Store}(ts:List Nat)(vs:List V)(hv:ts.map (look tm)=vs)(hs:st=st')
 (h:AW P N c Q ⟨mX ts vs,st'⟩):AW P N c Q ⟨tm,st⟩:=by
 subst hs;refine oD h ?_;rw[<-hv];exact QN fun t=>yc _ ts t
end Go.Ab