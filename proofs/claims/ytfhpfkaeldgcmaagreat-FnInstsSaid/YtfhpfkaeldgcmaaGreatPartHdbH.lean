/-
  SEVERAL TEXTS IN ONE (merged by program): contracts and models, each with its own heading.
-/
import Derived.Test.YtfhpfkaeldgcmaaGreatPartHdbC
set_option maxHeartbeats 8000000
open Go.Proofs Go.Proofs.Tryz
set_option linter.unusedSimpArgs false
set_option linter.unusedVariables false
set_option maxRecDepth 4000
namespace Go.Ab
def lowerB(b:UInt8):Prop:=97<=b.toNat/\b.toNat<=122
def yH(b:UInt8):Prop:=48<=b.toNat/\b.toNat<=57
def ZB(s:List UInt8):Prop:=∀i,i<s.length->lowerB (s.getD i 0)\/(i≠0/\yH (s.getD i 0))
def reserved:List (List UInt8):=[[105,110,116],[98,111,111,108],[97,115,115,111,99],[100,121,110],[105,102],[108,101,116],[99,97,115,101],[110,101,119],[109,101,116,104,111,100],[112,97,99,107],[116,114,117,101],[102,97,108,115,101]]
noncomputable def validName(s:List UInt8):Bool:=dec ((1<=s.length/\s.length<=8)/\s∉reserved/\ZB s)
noncomputable def DW(s:List UInt8):Bool:=dec (s=[105,110,116]\/s=[98,111,111,108])
def aht{α:Type}(p:α->Bool)(xs:List α):Int:=if xs.any p then((xs.findIdx p:Nat):Int) else -1
noncomputable def GZ(k:Int)(n:List UInt8)(len:Nat):Bool:=
 dec ((k=1\/k=4)/\validName n=true/\len=0\/k=3/\validName n=true/\len=1\/k=2/\(validName n=true/\len<=3\/DW n=true/\len=0))
mutual
noncomputable def formed:ay->Bool
 | .mk k n a=>GZ k n a.length&&jZ a
noncomputable def jZ:List ay->Bool
 |[]=>true
 |t::ts=>formed t&&jZ ts
end
theorem FJ(t:ay):formed t=(GZ t.aR t.fName t.fArgs.length&&jZ t.fArgs):=by cases t;rw[formed];rfl
theorem Ch:∀{ts:List ay},jZ ts=true<->∀t∈ts,formed t=true
 |[]=>by simp[jZ]
 |t::ts=>by simp[jZ,Ch (ts:=ts)]
mutual
def qx:ay->Nat
 | .mk _ _ a=>depths a
def depths:List ay->Nat
 |[]=>0
 |t::ts=>max (qx t+1) (depths ts)
end
theorem ZC(t:ay):qx t=depths t.fArgs:=by cases t;rw[qx];rfl
mutual
theorem FK:∀t:ay,qx t+1<=t.cnt
 | .mk k n a=>by
   have:=Nh a;rw[qx,ay.cnt];omega
theorem Nh:∀ts:List ay,depths ts<=ay.fU ts
 |[]=>by simp[depths]
 |t::ts=>by
  have h1:=FK t;have h2:=Nh ts;rw[depths,ay.fU];omega
end
noncomputable def qL(t:ay):Bool:=dec (formed t=true/\qx t<=6/\t.cnt<=60)
mutual
def uI:ay->List ay
 | .mk k n a=>.mk k n a::rQ a
def rQ:List ay->List ay
 |[]=>[]
 |t::ts=>uI t++rQ ts
end
theorem FL(t:ay):uI t=t::rQ t.fArgs:=by cases t;rw[uI];rfl
theorem Ci{ts:List ay}{i:Nat}(hi:i<ts.length):rQ (ts.drop i)=uI ts[i]++rQ (ts.drop (i+1)):=by rw[List.drop_eq_getElem_cons hi,rQ]
mutual
theorem FM:∀t:ay,(uI t).length=t.cnt
 | .mk k n a=>by rw[uI,List.length_cons,ay.cnt,Km a];omega
theorem Km:∀ts:List ay,(rQ ts).length=ay.fU ts
 |[]=>rfl
 |t::ts=>by rw[rQ,List.length_append,ay.fU,FM t,Km ts]
end
def wz(out:List (List UInt8))(u:ay):List (List UInt8):=if u.aR=1/\u.fName∉out then out++[u.fName] else out
def jO(out:List (List UInt8))(t:ay):List (List UInt8):=(uI t).foldl wz out
def Aw(out:List (List UInt8))(ts:List ay):List (List UInt8):=(rQ ts).foldl wz out
theorem Qz(out:List (List UInt8))(u:ay):(wz out u).length<=out.length+1:=by
 unfold wz
 split<;>simp
theorem Ni:∀(us:List ay)(out:List (List UInt8)),(us.foldl wz out).length<=out.length+us.length
 |[],out=>by simp
 |u::us,out=>by
  have h1:=Qz out u;have h2:=Ni us (wz out u);rw[List.foldl_cons,List.length_cons];omega
theorem Nj(t:ay)(out:List (List UInt8)):(jO out t).length<=out.length+t.cnt:=by
 have:=Ni (uI t) out;rw[FM] at this;exact this
theorem acU(out:List (List UInt8))(t:ay):jO out t=Aw (wz out t) t.fArgs:=by
 unfold jO Aw;rw[FL,List.foldl_cons]
theorem SV{ts:List ay}{i:Nat}(hi:i<ts.length)(out:List (List UInt8)):Aw out (ts.drop i)=Aw (jO out ts[i]) (ts.drop (i+1)):=by
 unfold Aw jO;rw[Ci hi,List.foldl_append]
def qy(t:ay):Bool:=(uI t).any fun u=>decide (u.aR=3)
def tC(ts:List ay):Bool:=(rQ ts).any fun u=>decide (u.aR=3)
theorem DX(t:ay):qy t=(decide (t.aR=3)||tC t.fArgs):=by
 unfold qy tC;rw[FL,List.any_cons]
theorem Oq{ts:List ay}{i:Nat}(hi:i<ts.length):tC (ts.drop i)=(qy ts[i]||tC (ts.drop (i+1))):=by
 unfold tC qy;rw[Ci hi,List.any_append]
def Kn(v:List UInt8)(u:ay):Bool:=decide (u.aR=1/\u.fName=v)
def nY(v:List UInt8)(t:ay):Nat:=(uI t).countP (Kn v)
def uf(v:List UInt8)(ts:List ay):Nat:=(rQ ts).countP (Kn v)
theorem ZE(v:List UInt8)(t:ay):nY v t=(if Kn v t then 1 else 0)+uf v t.fArgs:=by
 unfold nY uf;rw[FL,List.countP_cons];omega
theorem QA{v:List UInt8}{ts:List ay}{i:Nat}(hi:i<ts.length):uf v (ts.drop i)=nY v ts[i]+uf v (ts.drop (i+1)):=by
 unfold uf nY;rw[Ci hi,List.countP_append]
theorem ZF(v:List UInt8)(t:ay):nY v t<=t.cnt:=by
 unfold nY;rw[<-FM];exact List.countP_le_length
def occurs(v:List UInt8)(t:ay):Bool:=decide (0<nY v t)
theorem CX(n a b:Int):bq prog 35 [.c (.d (.i .i64 n)),.c (.d (.i .i64 a)),.c (.d (.i .i64 b))] (.c (.d (.b (dec (a<=n/\n<=b))))):=fun S=>by
 refine zcx [.tmp 6] func35 ntmps35 ?_;simp -implicitDefEqProofs (disch:=omega) only[go_sem]
 with_reducible refine aD (fun hb=> ?_) (fun hb=> ?_)<;>have h:=hb<;>(try simp only[wf_preprocess] at h)<;>simp -implicitDefEqProofs (disch:=omega) only[go_sem,hb]<;>(repeat(with_reducible refine And.intro ?_ ?_;focus first|omega|rfl|assumption|exact⟨_,rfl,rfl⟩|(simp;omega)|(simp;done)))
 ·exact bO (by rw[qY];exact kP ⟨fun x=>⟨by omega,x⟩,fun x=>x.2⟩)
 ·exact bO (bK (by omega)).symm
theorem nZ(xs:List (List UInt8))(s:List UInt8)(hl:xs.length<=1073741824):bq prog 79 [.c (.d (.sl (xs.map encS))),.c (.d (.s s))] (.c (.d (.b (dec (s∈xs))))):=fun S=>by
 refine zcx [.tmp 4] func79 ntmps79 ?_;simp -implicitDefEqProofs (disch:=omega) only[go_sem,encS]
 refine bT (ι:=Nat) zmx rfl [0,1,5] (fun i=>[.c (.d (.sl (xs.map encS))),.c (.d (.s s)),.c (.d (.i .i64 i))]) (fun _=>[]::S)
  (fun i=>i<=xs.length/\∀j,j<i->∀h:j<xs.length,xs[j]≠s) (fun i=>xs.length-i) 0 rfl rfl ⟨Nat.zero_le _,fun j h=>by omega⟩ ?_
 rintro i ⟨p1,p2⟩;simp -implicitDefEqProofs (disch:=omega) only[go_sem,encS]
 with_reducible refine aD (fun hb=> ?_) (fun hb=> ?_)<;>have h:=hb<;>(try simp only[wf_preprocess] at h)<;>simp -implicitDefEqProofs (disch:=omega) only[go_sem,hb,encS]<;>(repeat(with_reducible refine And.intro ?_ ?_;focus first|omega|rfl|assumption|exact⟨_,rfl,rfl⟩|(simp;omega)|(simp;done)))
 ·have hi:i<xs.length:=by omega
  with_reducible refine aD (fun hb=> ?_) (fun hb=> ?_)<;>have h:=hb<;>(try simp only[wf_preprocess] at h)<;>simp -implicitDefEqProofs (disch:=omega) only[go_sem,hb,encS]<;>(repeat(with_reducible refine And.intro ?_ ?_;focus first|omega|rfl|assumption|exact⟨_,rfl,rfl⟩|(simp;omega)|(simp;done)))
  ·exact bO (dQ (by rw[<-h];exact List.getElem_mem hi)).symm
  ·refine dG (i+1) (by omega) rfl rfl ⟨by omega,fun j hj hl=> ?_⟩;by_cases e:j=i
   ·subst e;exact h
   ·exact p2 j (by omega) hl
 ·refine bO (bK fun hm=> ?_).symm;obtain⟨j,h1,h2⟩:=List.getElem_of_mem hm;exact p2 j (by omega) h1 h2
theorem Ko(s:List UInt8):bq prog 121 [.c (.d (.s s))] (.c (.d (.b (dec (s∈reserved))))):=fun S=>by
 refine zcx [.tmp 2] func121 ntmps121 ?_;simp -implicitDefEqProofs (disch:=omega) only[go_sem]
 (repeat(with_reducible refine And.intro ?_ ?_;focus first|omega|rfl|assumption|exact⟨_,rfl,rfl⟩|(simp;omega)|(simp;done)))
 refine aB (nZ reserved s (by decide)) ?_;simp -implicitDefEqProofs (disch:=omega) only[go_sem]<;>(repeat(with_reducible refine And.intro ?_ ?_;focus first|omega|rfl|assumption|exact⟨_,rfl,rfl⟩|(simp;omega)|(simp;done)))
theorem gM(s:List UInt8)(hl:s.length<=1073741824):bq prog 77 [.c (.d (.s s))] (.c (.d (.b (validName s)))):=fun S=>by
 have bad:¬ZB s->validName s=false:=fun h=>bK fun x=>h x.2.2;refine zcx [.tmp 2] func77 ntmps77 ?_;simp -implicitDefEqProofs (disch:=omega) only[go_sem];refine aB (CX s.length 1 8) ?_;simp -implicitDefEqProofs (disch:=omega) only[go_sem]<;>(repeat(with_reducible refine And.intro ?_ ?_;focus first|omega|rfl|assumption|exact⟨_,rfl,rfl⟩|(simp;omega)|(simp;done)))
 with_reducible refine aD (fun hb=> ?_) (fun hb=> ?_)<;>have h:=hb<;>(try simp only[wf_preprocess] at h)<;>simp -implicitDefEqProofs (disch:=omega) only[go_sem,hb]<;>(repeat(with_reducible refine And.intro ?_ ?_;focus first|omega|rfl|assumption|exact⟨_,rfl,rfl⟩|(simp;omega)|(simp;done)))
 ·rw[show validName s=false from bK fun x=>h (by omega)]
 have hlen:=h;refine aB (Ko s) ?_;simp -implicitDefEqProofs (disch:=omega) only[go_sem]<;>(repeat(with_reducible refine And.intro ?_ ?_;focus first|omega|rfl|assumption|exact⟨_,rfl,rfl⟩|(simp;omega)|(simp;done)))
 with_reducible refine aD (fun hb=> ?_) (fun hb=> ?_)<;>have h:=hb<;>(try simp only[wf_preprocess] at h)<;>simp -implicitDefEqProofs (disch:=omega) only[go_sem,hb]<;>(repeat(with_reducible refine And.intro ?_ ?_;focus first|omega|rfl|assumption|exact⟨_,rfl,rfl⟩|(simp;omega)|(simp;done)))
 ·rw[show validName s=false from bK fun x=>x.2.1 h]
 have hres:=h
 refine bT (ι:=Nat) zmx rfl [0,3] (fun i=>[.c (.d (.s s)),.c (.d (.i .i64 i))]) (fun _=>[]::S)
  (fun i=>i<=s.length/\∀j,j<i->lowerB (s.getD j 0)\/(j≠0/\yH (s.getD j 0))) (fun i=>s.length-i) 0 rfl rfl ⟨Nat.zero_le _,fun j h=>by omega⟩ ?_
 rintro i ⟨p1,p2⟩
 have next:i<s.length->(lowerB (s.getD i 0)\/(i≠0/\yH (s.getD i 0)))->∀j,j<i+1->lowerB (s.getD j 0)\/(j≠0/\yH (s.getD j 0)):=fun hi h j hj=>by
  by_cases e:j=i
  ·subst e;exact h
  ·exact p2 j (by omega)
 simp -implicitDefEqProofs (disch:=omega) only[go_sem]
 with_reducible refine aD (fun hb=> ?_) (fun hb=> ?_)<;>have h:=hb<;>(try simp only[wf_preprocess] at h)<;>simp -implicitDefEqProofs (disch:=omega) only[go_sem,hb]<;>(repeat(with_reducible refine And.intro ?_ ?_;focus first|omega|rfl|assumption|exact⟨_,rfl,rfl⟩|(simp;omega)|(simp;done)))
 ·have hi:i<s.length:=by omega
  have bad':¬(lowerB (s.getD i 0)\/(i≠0/\yH (s.getD i 0)))->validName s=false:=fun h=>bad fun x=>h (x i hi)
  have next:=next hi
  unfold lowerB yH at bad' next
  all_goals try(with_reducible refine aD (fun hb=> ?_) (fun hb=> ?_)<;>have h:=hb<;>(try simp only[wf_preprocess] at h)<;>simp -implicitDefEqProofs (disch:=omega) only[go_sem,hb]<;>(repeat(with_reducible refine And.intro ?_ ?_;focus first|omega|rfl|assumption|exact⟨_,rfl,rfl⟩|(simp;omega)|(simp;done))))
  all_goals try(with_reducible refine aD (fun hb=> ?_) (fun hb=> ?_)<;>have h:=hb<;>(try simp only[wf_preprocess] at h)<;>simp -implicitDefEqProofs (disch:=omega) only[go_sem,hb]<;>(repeat(with_reducible refine And.intro ?_ ?_;focus first|omega|rfl|assumption|exact⟨_,rfl,rfl⟩|(simp;omega)|(simp;done))))
  all_goals try(with_reducible refine aD (fun hb=> ?_) (fun hb=> ?_)<;>have h:=hb<;>(try simp only[wf_preprocess] at h)<;>simp -implicitDefEqProofs (disch:=omega) only[go_sem,hb]<;>(repeat(with_reducible refine And.intro ?_ ?_;focus first|omega|rfl|assumption|exact⟨_,rfl,rfl⟩|(simp;omega)|(simp;done))))
  all_goals try(with_reducible refine aD (fun hb=> ?_) (fun hb=> ?_)<;>have h:=hb<;>(try simp only[wf_preprocess] at h)<;>simp -implicitDefEqProofs (disch:=omega) only[go_sem,hb]<;>(repeat(with_reducible refine And.intro ?_ ?_;focus first|omega|rfl|assumption|exact⟨_,rfl,rfl⟩|(simp;omega)|(simp;done))))
  all_goals try(with_reducible refine aD (fun hb=> ?_) (fun hb=> ?_)<;>have h:=hb<;>(try simp only[wf_preprocess] at h)<;>simp -implicitDefEqProofs (disch:=omega) only[go_sem,hb]<;>(repeat(with_reducible refine And.intro ?_ ?_;focus first|omega|rfl|assumption|exact⟨_,rfl,rfl⟩|(simp;omega)|(simp;done))))
  all_goals try(with_reducible refine aD (fun hb=> ?_) (fun hb=> ?_)<;>have h:=hb<;>(try simp only[wf_preprocess] at h)<;>simp -implicitDefEqProofs (disch:=omega) only[go_sem,hb]<;>(repeat(with_reducible refine And.intro ?_ ?_;focus first|omega|rfl|assumption|exact⟨_,rfl,rfl⟩|(simp;omega)|(simp;done))))
  all_goals first
   |exact dG (i+1) (by omega) rfl rfl ⟨by omega,next (by omega)⟩
   |exact bO (bad' (by omega)).symm
 ·rw[show validName s=true from dQ ⟨by omega,hres,fun j hj=>p2 j (by omega)⟩]
theorem ZG(s:List UInt8):bq prog 99 [.c (.d (.s s))] (.c (.d (.b (DW s)))):=fun S=>by
 refine zcx [.tmp 2] func99 ntmps99 ?_;simp -implicitDefEqProofs (disch:=omega) only[go_sem]
 with_reducible refine aD (fun hb=> ?_) (fun hb=> ?_)<;>have h:=hb<;>(try simp only[wf_preprocess] at h)<;>simp -implicitDefEqProofs (disch:=omega) only[go_sem,hb]<;>(repeat(with_reducible refine And.intro ?_ ?_;focus first|omega|rfl|assumption|exact⟨_,rfl,rfl⟩|(simp;omega)|(simp;done)))
 ·exact bO (dQ (.inl h)).symm
 ·exact bO (by rw[qY];exact kP ⟨fun x=>.inr x,fun x=>x.resolve_left h⟩)
theorem Mf{x:ay}{i:Nat}(hi:i<x.fArgs.length)(h:x.sz<=4194304):x.fArgs[i].sz<=4194304/\x.fArgs.length<=4194304/\x.fName.length<=4194304:=by
 have hx:x.fArgs[i].sz<=aI (x.fArgs.map ay.enc):=dV (List.mem_map_of_mem (List.getElem_mem hi));simp only[ay.sz,ay.aj,bF,D.sz,List.length_map] at h;omega
theorem QB{x:ay}(h:x.sz<=4194304):x.fArgs.length<=4194304/\x.fName.length<=4194304:=by
 simp only[ay.sz,ay.aj,bF,D.sz,List.length_map] at h;omega
theorem Kq:∀n:Nat,∀t:ay,SizeOf.sizeOf t<n->t.sz<=4194304->∀(out:List (List UInt8))(l j:Nat)(S:Store),bg S (l,j)=some (.tok 1 (out.map encS))->out.length+t.cnt<=1073741824->
 cB prog 209 [t.v,.c (.bX (l,j) (out.map encS))] S (fun r S'=>r=.c (.bX (l,j) ((jO out t).map encS))/\S'=aX S (l,j) (.tok 1 ((jO out t).map encS)))
 |0=>fun t h=>by omega
 |n+1=>by
  have ih:=Kq n;intro t hn hsz out l j S hk hc;have oF:=ay.kQ t;have hts:=QB hsz;have hcn:=ay.Ar t;have ZH:∀x:Ab.Obj,bg (aX S (l,j) x) (l,j)=some x:=fun x=>dn _ _ _ _ hk;have hS0:aX S (l,j) (.tok 1 (out.map encS))=S:=Bp _ _ hk;have fin:jO out t=Aw (wz out t) t.fArgs:=acU out t;have hal:=Qz out t
  have e0:(out++[t.fName]).map encS=out.map encS++[[D.s t.fName]]:=by simp[encS]
  refine zcx [.tmp 4] func209 ntmps209 ?_;simp -implicitDefEqProofs (disch:=omega) only[go_sem,hk]
  repeat' (first
   |(with_reducible refine aD (fun hb=> ?_) (fun hb=> ?_)<;>have h:=hb<;>(try simp only[wf_preprocess] at h)<;>simp -implicitDefEqProofs (disch:=omega) only[go_sem,hb,hk]<;>(repeat(with_reducible refine And.intro ?_ ?_;focus first|omega|rfl|assumption|exact⟨_,rfl,rfl⟩|(simp;omega)|(simp;done))))
   |(refine aB (nZ out t.fName (by omega)) ?_;simp -implicitDefEqProofs (disch:=omega) only[go_sem,hk];(repeat(with_reducible refine And.intro ?_ ?_;focus first|omega|rfl|assumption|exact⟨_,rfl,rfl⟩|(simp;omega)|(simp;done)))))
  all_goals first
   |(have ha:wz out t=out++[t.fName]:=if_pos ⟨by assumption,by assumption⟩)
   |(have ha:wz out t=out:=if_neg (fun x=>by have:=x.1;have:=x.2;contradiction))
  all_goals
   refine bT (ι:=Nat×List (List UInt8)) zmx rfl [1,2,5] (fun y=>[.c (.bX (1+l,j) (y.2.map encS)),.c (.ptr (0,0) 0),.c (.d (.i .i64 y.1))]) (fun y=>[.box [.d (.i .i64 t.aR),.d (.s t.fName),.d (.sl (t.fArgs.map ay.enc))]]::aX S (l,j) (.tok 1 (y.2.map encS)))
    (fun y=>y.1<=t.fArgs.length/\y.2.length+ay.fU (t.fArgs.drop y.1)<=1073741824/\Aw y.2 (t.fArgs.drop y.1)=jO out t) (fun y=>t.fArgs.length-y.1) (0,wz out t) (by first|(rw[ha,e0];rfl)|(rw[ha];rfl)) (by first|(simp only[ha,e0];done)|(simp only[ha,hS0];done)) ⟨Nat.zero_le _,by simp only[List.drop_zero];omega,by rw[fin];rfl⟩ ?_
   rintro⟨i,b⟩ ⟨p1,p2,p3⟩;simp only at p1 p2 p3;simp -implicitDefEqProofs (disch:=omega) only[go_sem]
   with_reducible refine aD (fun hb=> ?_) (fun hb=> ?_)<;>have h:=hb<;>(try simp only[wf_preprocess] at h)<;>simp -implicitDefEqProofs (disch:=omega) only[go_sem,hb]<;>(repeat(with_reducible refine And.intro ?_ ?_;focus first|omega|rfl|assumption|exact⟨_,rfl,rfl⟩|(simp;omega)|(simp;done)))
   ·have hi:i<t.fArgs.length:=by omega
    have hs:=List.sizeOf_lt_of_mem (List.getElem_mem hi);rw[SV hi] at p3;rw[List.drop_eq_getElem_cons hi,ay.fU] at p2;have hlen:=Nj t.fArgs[i] b
    (repeat(with_reducible refine And.intro ?_ ?_;focus first|omega|rfl|assumption|exact⟨_,rfl,rfl⟩|(simp;omega)|(simp;done)))
    refine bn rfl (ih t.fArgs[i] (by omega) (Mf hi hsz).1 b (1+l) j _ (by rw[aG];exact ZH _) (by omega)) ?_;simp -implicitDefEqProofs (disch:=omega) only[go_sem,ah];exact dG (i+1,jO b t.fArgs[i]) (by simp only;omega) rfl rfl ⟨by simp only;omega,by simp only;omega,p3⟩
   ·have hi:i=t.fArgs.length:=by omega
    rw[hi,List.drop_length] at p3;rw[<-p3];exact⟨rfl,rfl⟩
theorem Kr(t:ay)(hsz:t.sz<=4194304):bq prog 185 [t.v] (.c (.d (.sl ((jO [] t).map encS)))):=fun S=>by
 have hc:=qw t
 have h0:∀S,cB prog 209 [t.v,.c (.bI [])] S (fun r S'=>r=.c (.d (.sl ((jO [] t).map encS)))/\S'=S):=fun S=>by
  refine cB.ahk 1 (es:=[]) (aY:=1) rfl (by simp) (Kq _ t (Nat.lt_succ_self _) hsz [] 0 0 ([.tok 1 []]::S) rfl (by simp;omega)) ?_;rintro r fr S' ⟨rfl,h2⟩;injection h2 with h2 h3;exact⟨_,rfl,rfl,h3⟩
 refine zcx [.tmp 2] func185 ntmps185 ?_;simp -implicitDefEqProofs (disch:=omega) only[go_sem]
 (repeat(with_reducible refine And.intro ?_ ?_;focus first|omega|rfl|assumption|exact⟨_,rfl,rfl⟩|(simp;omega)|(simp;done)))
 refine cu [true,true] rfl (h0 _) ?_;simp -implicitDefEqProofs (disch:=omega) only[go_sem]
theorem Bw:∀n:Nat,∀t:ay,SizeOf.sizeOf t<n->t.sz<=4194304->bq prog 161 [t.v] (.c (.d (.b (qy t))))
 |0=>fun t h=>by omega
 |n+1=>by
  have ih:=Bw n;intro t hn hsz S;have oF:=ay.kQ t;have hts:=QB hsz;refine zcx [.tmp 2] func161 ntmps161 ?_;simp -implicitDefEqProofs (disch:=omega) only[go_sem]
  refine bT (ι:=Nat) zmx rfl [1,3] (fun i=>[.c (.ptr (0,0) 0),.c (.d (.i .i64 i))]) (fun _=>[.box [.d (.i .i64 t.aR),.d (.s t.fName),.d (.sl (t.fArgs.map ay.enc))]]::S)
   (fun i=>i<=t.fArgs.length/\tC (t.fArgs.drop i)=tC t.fArgs) (fun i=>t.fArgs.length-i) 0 rfl rfl ⟨Nat.zero_le _,rfl⟩ ?_
  rintro i ⟨p1,p2⟩;simp -implicitDefEqProofs (disch:=omega) only[go_sem]
  with_reducible refine aD (fun hb=> ?_) (fun hb=> ?_)<;>have h:=hb<;>(try simp only[wf_preprocess] at h)<;>simp -implicitDefEqProofs (disch:=omega) only[go_sem,hb]<;>(repeat(with_reducible refine And.intro ?_ ?_;focus first|omega|rfl|assumption|exact⟨_,rfl,rfl⟩|(simp;omega)|(simp;done)))
  ·have hi:i<t.fArgs.length:=by omega
   rw[Oq hi] at p2
   (repeat(with_reducible refine And.intro ?_ ?_;focus first|omega|rfl|assumption|exact⟨_,rfl,rfl⟩|(simp;omega)|(simp;done)))
   refine aB (ih t.fArgs[i] (by have:=List.sizeOf_lt_of_mem (List.getElem_mem hi);omega) (Mf hi hsz).1) ?_;simp -implicitDefEqProofs (disch:=omega) only[go_sem]<;>(repeat(with_reducible refine And.intro ?_ ?_;focus first|omega|rfl|assumption|exact⟨_,rfl,rfl⟩|(simp;omega)|(simp;done)))
   with_reducible refine aD (fun hb=> ?_) (fun hb=> ?_)<;>have h:=hb<;>(try simp only[wf_preprocess] at h)<;>simp -implicitDefEqProofs (disch:=omega) only[go_sem,hb]<;>(repeat(with_reducible refine And.intro ?_ ?_;focus first|omega|rfl|assumption|exact⟨_,rfl,rfl⟩|(simp;omega)|(simp;done)))
   ·rw[DX,<-p2,h];simp
   ·exact dG (i+1) (by omega) rfl rfl ⟨by omega,by rw[<-p2,h];rfl⟩
  ·have hi:i=t.fArgs.length:=by omega
   rw[hi,List.drop_length] at p2;rw[DX,<-p2];exact bO (by simp[tC,rQ])
theorem CY(t:ay)(hsz:t.sz<=4194304):bq prog 161 [t.v] (.c (.d (.b (qy t)))):=Bw _ t (Nat.lt_succ_self _) hsz
theorem CZ{x:ay}{i:Nat}(hi:i<x.fArgs.length)(h:x.sz<=4194304):x.fArgs[i].sz<=4194304/\x.fArgs.length<=4194304/\x.fName.length<=4194304:=by
 have hx:x.fArgs[i].sz<=aI (x.fArgs.map ay.enc):=dV (List.mem_map_of_mem (List.getElem_mem hi));simp only[ay.sz,ay.aj,bF,D.sz,List.length_map] at h;omega
theorem OI{x:ay}(h:x.sz<=4194304):x.fArgs.length<=4194304/\x.fName.length<=4194304:=by
 simp only[ay.sz,ay.aj,bF,D.sz,List.length_map] at h;omega
theorem qK:∀{ts:List ay}{i:Nat}(hi:i<ts.length),ay.fU (ts.drop i)=ts[i].cnt+ay.fU (ts.drop (i+1)):=fun {ts} {i} hi=>by
 rw[List.drop_eq_getElem_cons hi,ay.fU]
theorem SX:∀{ts:List ay}{i:Nat}(hi:i<ts.length),depths (ts.drop i)=max (qx ts[i]+1) (depths (ts.drop (i+1))):=fun {ts} {i} hi=>by
 rw[List.drop_eq_getElem_cons hi,depths]
theorem QC:∀{ts:List ay}{i:Nat}(hi:i<ts.length),jZ (ts.drop i)=(formed ts[i]&&jZ (ts.drop (i+1))):=fun {ts} {i} hi=>by
 rw[List.drop_eq_getElem_cons hi,jZ]
theorem Kt:∀n:Nat,∀x:ay,SizeOf.sizeOf x<n->∀l:Int,0<=l->l<=1073741824->x.sz<=4194304->bq prog 210 [x.v,.c (.d (.i .i64 l))] (.c (.d (.i .i64 (lW l x.cnt))))
 |0=>fun x h=>by omega
 |n+1=>by
  have ih:=Kt n;intro x hn l h0 h1 hsz S;have oF:=ay.kQ x;have hts:=OI hsz;have hcn:=ay.Ar x;refine zcx [.tmp 4] func210 ntmps210 ?_;simp -implicitDefEqProofs (disch:=omega) only[go_sem]
  refine bT (ι:=Nat×Int) zmx rfl [1,2,5] (fun y=>[.c (.d (.i .i64 y.2)),.c (.ptr (0,0) 0),.c (.d (.i .i64 y.1))]) (fun y=>[.box [.d (.i .i64 x.aR),.d (.s x.fName),.d (.sl (x.fArgs.map ay.enc))]]::S)
   (fun y=>y.1<=x.fArgs.length/\ -1<=y.2/\y.2<=1073741824/\(0<=y.2->lW l x.cnt=lW y.2 (ay.fU (x.fArgs.drop y.1)))/\(y.2<0->lW l x.cnt= -1)) (fun y=>x.fArgs.length-y.1) (0,l-1) rfl rfl ⟨Nat.zero_le _,by simp only;omega,by simp only;omega,fun h=> ?_,fun h=> ?_⟩ ?_
  ·simp only[List.drop_zero] at h ⊢;unfold lW;rw[hcn];split<;>split<;>omega
  ·simp only at h;exact GQ (by omega)
  rintro⟨i,c⟩ ⟨p1,p2,p3,p4,p5⟩;simp only at p1 p2 p3 p4 p5;simp -implicitDefEqProofs (disch:=omega) only[go_sem]
  with_reducible refine aD (fun hb=> ?_) (fun hb=> ?_)<;>have h:=hb<;>(try simp only[wf_preprocess] at h)<;>simp -implicitDefEqProofs (disch:=omega) only[go_sem,hb]<;>(repeat(with_reducible refine And.intro ?_ ?_;focus first|omega|rfl|assumption|exact⟨_,rfl,rfl⟩|(simp;omega)|(simp;done)))
  ·have hi:i<x.fArgs.length:=by omega
   with_reducible refine aD (fun hb=> ?_) (fun hb=> ?_)<;>have h:=hb<;>(try simp only[wf_preprocess] at h)<;>simp -implicitDefEqProofs (disch:=omega) only[go_sem,hb]<;>(repeat(with_reducible refine And.intro ?_ ?_;focus first|omega|rfl|assumption|exact⟨_,rfl,rfl⟩|(simp;omega)|(simp;done)))
   ·have hsz':=CZ hi hsz;have p6:=p4 h;rw[qK hi] at p6
    (repeat(with_reducible refine And.intro ?_ ?_;focus first|omega|rfl|assumption|exact⟨_,rfl,rfl⟩|(simp;omega)|(simp;done)))
    refine aB (ih x.fArgs[i] (by have:=List.sizeOf_lt_of_mem (List.getElem_mem hi);omega) c (by omega) (by omega) (by omega)) ?_;simp -implicitDefEqProofs (disch:=omega) only[go_sem]<;>(repeat(with_reducible refine And.intro ?_ ?_;focus first|omega|rfl|assumption|exact⟨_,rfl,rfl⟩|(simp;omega)|(simp;done)));refine dG (i+1,lW c _) (by simp only;omega) rfl rfl ⟨by simp only;omega,?_,?_,fun h=> ?_,fun h=> ?_⟩
    ·simp only;unfold lW;split<;>omega
    ·simp only;unfold lW;split<;>omega
    ·simp only at h ⊢;rw[p6];have:=GN (l:=c) (a:=x.fArgs[i].cnt) (by omega);rw[this.1];unfold lW;split<;>split<;>omega
    ·simp only at h ⊢;rw[p6];have:=DU h;exact GQ (by omega)
   ·have hc:c= -1:=by omega
    rw[p5 (by omega),hc]
  ·have hi:i=x.fArgs.length:=by omega
   by_cases hc:0<=c
   ·rw[p4 hc,hi,List.drop_length,ay.fU,Qu (by omega)];exact int_eq (by simp)
   ·rw[p5 (by omega)];exact int_eq (by omega)
theorem ZI(x:ay)(l:Int)(h0:0<=l)(h1:l<=1073741824)(hsz:x.sz<=4194304):bq prog 210 [x.v,.c (.d (.i .i64 l))] (.c (.d (.i .i64 (lW l x.cnt)))):=Kt _ x (Nat.lt_succ_self _) l h0 h1 hsz
theorem QD(a b:Int):bq prog 233 [.c (.d (.i .i64 a)),.c (.d (.i .i64 b))] (.c (.d (.i .i64 (max a b)))):=fun S=>by
 refine zcx [.tmp 4] func233 ntmps233 ?_;simp -implicitDefEqProofs (disch:=omega) only[go_sem]
 with_reducible refine aD (fun hb=> ?_) (fun hb=> ?_)<;>have h:=hb<;>(try simp only[wf_preprocess] at h)<;>simp -implicitDefEqProofs (disch:=omega) only[go_sem,hb]<;>(repeat(with_reducible refine And.intro ?_ ?_;focus first|omega|rfl|assumption|exact⟨_,rfl,rfl⟩|(simp;omega)|(simp;done)))
 ·exact int_eq (by omega)
 ·exact int_eq (by omega)
theorem EJ:∀n:Nat,∀x:ay,SizeOf.sizeOf x<n->x.sz<=4194304->bq prog 211 [x.v] (.c (.d (.i .i64 (qx x))))
 |0=>fun x h=>by omega
 |n+1=>by
  have ih:=EJ n;intro x hn hsz S;have oF:=ay.kQ x;have hts:=OI hsz;have hd1:=FK x;have hd2:=qw x;refine zcx [.tmp 2] func211 ntmps211 ?_;simp -implicitDefEqProofs (disch:=omega) only[go_sem]
  refine bT (ι:=Nat×Nat) zmx rfl [1,3,4] (fun y=>[.c (.ptr (0,0) 0),.c (.d (.i .i64 y.2)),.c (.d (.i .i64 y.1))]) (fun y=>[.box [.d (.i .i64 x.aR),.d (.s x.fName),.d (.sl (x.fArgs.map ay.enc))]]::S)
   (fun y=>y.1<=x.fArgs.length/\qx x=max y.2 (depths (x.fArgs.drop y.1))) (fun y=>x.fArgs.length-y.1) (0,0) rfl rfl ⟨Nat.zero_le _,by simp[ZC]⟩ ?_
  rintro⟨i,c⟩ ⟨p1,p2⟩;simp only at p1 p2;simp -implicitDefEqProofs (disch:=omega) only[go_sem]
  with_reducible refine aD (fun hb=> ?_) (fun hb=> ?_)<;>have h:=hb<;>(try simp only[wf_preprocess] at h)<;>simp -implicitDefEqProofs (disch:=omega) only[go_sem,hb]<;>(repeat(with_reducible refine And.intro ?_ ?_;focus first|omega|rfl|assumption|exact⟨_,rfl,rfl⟩|(simp;omega)|(simp;done)))
  ·have hi:i<x.fArgs.length:=by omega
   have hsz':=CZ hi hsz;rw[SX hi] at p2;have hd3:=FK x.fArgs[i];have hd4:=qw x.fArgs[i]
   (repeat(with_reducible refine And.intro ?_ ?_;focus first|omega|rfl|assumption|exact⟨_,rfl,rfl⟩|(simp;omega)|(simp;done)))
   refine aB (ih x.fArgs[i] (by have:=List.sizeOf_lt_of_mem (List.getElem_mem hi);omega) (by omega)) ?_;simp -implicitDefEqProofs (disch:=omega) only[go_sem]<;>(repeat(with_reducible refine And.intro ?_ ?_;focus first|omega|rfl|assumption|exact⟨_,rfl,rfl⟩|(simp;omega)|(simp;done)));refine aB (QD _ _) ?_;simp -implicitDefEqProofs (disch:=omega) only[go_sem]<;>(repeat(with_reducible refine And.intro ?_ ?_;focus first|omega|rfl|assumption|exact⟨_,rfl,rfl⟩|(simp;omega)|(simp;done)));rw[show max (c:Int) (1+(qx x.fArgs[i]:Int))=((max c (1+qx x.fArgs[i]):Nat):Int) by omega];exact dG (i+1,max c (1+qx x.fArgs[i])) (by simp only;omega) rfl rfl ⟨by simp only;omega,by simp only;omega⟩
  ·have hi:i=x.fArgs.length:=by omega
   rw[hi,List.drop_length,depths] at p2;exact int_eq (by omega)
theorem QE(x:ay)(hsz:x.sz<=4194304):bq prog 211 [x.v] (.c (.d (.i .i64 (qx x)))):=EJ _ x (Nat.lt_succ_self _) hsz
theorem Ku:∀n:Nat,∀x:ay,SizeOf.sizeOf x<n->x.sz<=4194304->bq prog 212 [x.v] (.c (.d (.b (formed x))))
 |0=>fun x h=>by omega
 |n+1=>by
  have ih:=Ku n;intro x hn hsz S;have oF:=ay.kQ x;have hts:=OI hsz;have shut:¬((x.aR=1\/x.aR=4)/\validName x.fName=true/\x.fArgs.length=0\/x.aR=3/\validName x.fName=true/\x.fArgs.length=1\/x.aR=2/\(validName x.fName=true/\x.fArgs.length<=3\/DW x.fName=true/\x.fArgs.length=0))->V.c (.d (.b false))=V.c (.d (.b (formed x))):=fun h=>bO (by rw[FJ,show GZ x.aR x.fName x.fArgs.length=false from bK h];rfl)
  have ajJ:∀b:Bool,(b=true<->((x.aR=1\/x.aR=4)/\validName x.fName=true/\x.fArgs.length=0\/x.aR=3/\validName x.fName=true/\x.fArgs.length=1\/x.aR=2/\(validName x.fName=true/\x.fArgs.length<=3\/DW x.fName=true/\x.fArgs.length=0)))->b=GZ x.aR x.fName x.fArgs.length:=fun b h=>by
   rw[Bool.eq_iff_iff,h];unfold GZ;rw[Ia]
  refine zcx [.tmp 2] func212 ntmps212 ?_;simp -implicitDefEqProofs (disch:=omega) only[go_sem];refine aB (gM x.fName (by omega)) ?_;simp -implicitDefEqProofs (disch:=omega) only[go_sem]<;>(repeat(with_reducible refine And.intro ?_ ?_;focus first|omega|rfl|assumption|exact⟨_,rfl,rfl⟩|(simp;omega)|(simp;done)))
  repeat' (first
   |(with_reducible refine aD (fun hb=> ?_) (fun hb=> ?_)<;>have h:=hb<;>(try simp only[wf_preprocess] at h)<;>simp -implicitDefEqProofs (disch:=omega) only[go_sem,hb]<;>(repeat(with_reducible refine And.intro ?_ ?_;focus first|omega|rfl|assumption|exact⟨_,rfl,rfl⟩|(simp;omega)|(simp;done))))
   |(refine aB (ZG x.fName) ?_;simp -implicitDefEqProofs (disch:=omega) only[go_sem]))
  all_goals first
   |(refine shut (fun y=> ?_);rcases y with⟨_,_,_⟩|⟨_,_,_⟩|⟨_,⟨_,_⟩|⟨_,_⟩⟩<;>first|omega|(simp_all;done))
   |skip
  all_goals
   refine bT (ι:=Nat×Bool) zmx rfl [1,3,4] (fun y=>[.c (.ptr (0,0) 0),.c (.d (.b y.2)),.c (.d (.i .i64 y.1))]) (fun y=>[.box [.d (.i .i64 x.aR),.d (.s x.fName),.d (.sl (x.fArgs.map ay.enc))]]::S)
    (fun y=>y.1<=x.fArgs.length/\(y.2&&jZ (x.fArgs.drop y.1))=formed x) (fun y=>x.fArgs.length-y.1) (0,GZ x.aR x.fName x.fArgs.length) ?_ rfl ⟨Nat.zero_le _,by rw[FJ];rfl⟩ ?_
   ·simp only[List.map_cons,List.map_nil];simp -implicitDefEqProofs (disch:=omega) only[go_sem,List.cons.injEq,V.c.injEq,C.d.injEq,D.b.injEq,Int.natCast_zero];refine ajJ _ ⟨fun y=> ?_,fun y=> ?_⟩
    ·(try simp only[decide_eq_true_eq,Bool.false_eq_true] at y)<;>first
       |exact .inl ⟨by omega,by assumption,by omega⟩
       |exact .inr (.inl ⟨by omega,by assumption,by omega⟩)
       |exact .inr (.inr ⟨by omega,.inl ⟨by assumption,by omega⟩⟩)
       |exact .inr (.inr ⟨by omega,.inr ⟨by assumption,by omega⟩⟩)
    ·rcases y with⟨_,_,_⟩|⟨_,_,_⟩|⟨_,⟨_,_⟩|⟨_,_⟩⟩<;>first|omega|(simp only[decide_eq_true_eq];omega)|(simp_all;done)
   rintro⟨i,c⟩ ⟨p1,p2⟩;simp only at p1 p2;simp -implicitDefEqProofs (disch:=omega) only[go_sem]
   with_reducible refine aD (fun hb=> ?_) (fun hb=> ?_)<;>have h:=hb<;>(try simp only[wf_preprocess] at h)<;>simp -implicitDefEqProofs (disch:=omega) only[go_sem,hb]<;>(repeat(with_reducible refine And.intro ?_ ?_;focus first|omega|rfl|assumption|exact⟨_,rfl,rfl⟩|(simp;omega)|(simp;done)))
   ·have hi:i<x.fArgs.length:=by omega
    have hsz':=CZ hi hsz;rw[QC hi] at p2
    with_reducible refine aD (fun hb=> ?_) (fun hb=> ?_)<;>have h:=hb<;>(try simp only[wf_preprocess] at h)<;>simp -implicitDefEqProofs (disch:=omega) only[go_sem,hb]<;>(repeat(with_reducible refine And.intro ?_ ?_;focus first|omega|rfl|assumption|exact⟨_,rfl,rfl⟩|(simp;omega)|(simp;done)))
    ·refine aB (ih x.fArgs[i] (by have:=List.sizeOf_lt_of_mem (List.getElem_mem hi);omega) (by omega)) ?_;simp -implicitDefEqProofs (disch:=omega) only[go_sem];exact dG (i+1,formed x.fArgs[i]) (by simp only;omega) rfl rfl ⟨by simp only;omega,by rw[<-p2,h];rfl⟩
    ·exact dG (i+1,false) (by simp only;omega) rfl rfl ⟨by simp only;omega,by rw[<-p2,h];rfl⟩
   ·have hi:i=x.fArgs.length:=by omega
    rw[hi,List.drop_length,jZ,Bool.and_true] at p2;rw[p2]
theorem ZJ(x:ay)(hsz:x.sz<=4194304):bq prog 212 [x.v] (.c (.d (.b (formed x)))):=Ku _ x (Nat.lt_succ_self _) hsz
theorem uY(x:ay)(hsz:x.sz<=4194304):bq prog 186 [x.v] (.c (.d (.b (qL x)))):=fun S=>by
 refine zcx [.tmp 2] func186 ntmps186 ?_;simp -implicitDefEqProofs (disch:=omega) only[go_sem];refine aB (ZI x 60 (by omega) (by omega) hsz) ?_;simp -implicitDefEqProofs (disch:=omega) only[go_sem]<;>(repeat(with_reducible refine And.intro ?_ ?_;focus first|omega|rfl|assumption|exact⟨_,rfl,rfl⟩|(simp;omega)|(simp;done)))
 with_reducible refine aD (fun hb=> ?_) (fun hb=> ?_)<;>have h:=hb<;>(try simp only[wf_preprocess] at h)<;>simp -implicitDefEqProofs (disch:=omega) only[go_sem,hb]<;>(repeat(with_reducible refine And.intro ?_ ?_;focus first|omega|rfl|assumption|exact⟨_,rfl,rfl⟩|(simp;omega)|(simp;done)))
 ·have h1:=(GN (l:=60) (a:=x.cnt) (by omega)).2;refine aB (QE x hsz) ?_;simp -implicitDefEqProofs (disch:=omega) only[go_sem]<;>(repeat(with_reducible refine And.intro ?_ ?_;focus first|omega|rfl|assumption|exact⟨_,rfl,rfl⟩|(simp;omega)|(simp;done)))
  with_reducible refine aD (fun hb=> ?_) (fun hb=> ?_)<;>have h:=hb<;>(try simp only[wf_preprocess] at h)<;>simp -implicitDefEqProofs (disch:=omega) only[go_sem,hb]<;>(repeat(with_reducible refine And.intro ?_ ?_;focus first|omega|rfl|assumption|exact⟨_,rfl,rfl⟩|(simp;omega)|(simp;done)))
  ·refine aB (ZJ x hsz) ?_;simp -implicitDefEqProofs (disch:=omega) only[go_sem]<;>(repeat(with_reducible refine And.intro ?_ ?_;focus first|omega|rfl|assumption|exact⟨_,rfl,rfl⟩|(simp;omega)|(simp;done)));refine bO ?_
   cases hf:formed x with
   |false=>exact(bK fun y=>by rw[hf] at y;cases y.1).symm
   |true=>exact(dQ ⟨hf,by omega,by omega⟩).symm
  ·exact bO (bK fun y=>by have:=y.2.1;omega).symm
 ·have h1:=DU (l:=60) (a:=x.cnt) (by omega);exact bO (bK fun y=>by have:=y.2.2;omega).symm
theorem Ht(x:aM)(hn:x.bU.length<=1073741824)(hsz:x.fType.sz<=4194304):bq prog 187 [x.v] (.c (.d (.b (validName x.bU&&qL x.fType)))):=fun S=>by
 refine zcx [.tmp 2] func187 ntmps187 ?_;simp -implicitDefEqProofs (disch:=omega) only[go_sem];refine aB (gM x.bU hn) ?_;simp -implicitDefEqProofs (disch:=omega) only[go_sem]<;>(repeat(with_reducible refine And.intro ?_ ?_;focus first|omega|rfl|assumption|exact⟨_,rfl,rfl⟩|(simp;omega)|(simp;done)))
 with_reducible refine aD (fun hb=> ?_) (fun hb=> ?_)<;>have h:=hb<;>(try simp only[wf_preprocess] at h)<;>simp -implicitDefEqProofs (disch:=omega) only[go_sem,hb]<;>(repeat(with_reducible refine And.intro ?_ ?_;focus first|omega|rfl|assumption|exact⟨_,rfl,rfl⟩|(simp;omega)|(simp;done)))
 ·refine aB (uY x.fType hsz) ?_;simp -implicitDefEqProofs (disch:=omega) only[go_sem]<;>(repeat(with_reducible refine And.intro ?_ ?_;focus first|omega|rfl|assumption|exact⟨_,rfl,rfl⟩|(simp;omega)|(simp;done)))
 ·rfl
theorem SY(xs ys:List (List UInt8))(hl:xs.length<=1073741824):bq prog 232 [.c (.d (.sl (xs.map encS))),.c (.d (.sl (ys.map encS)))] (.c (.d (.b (dec (xs=ys))))):=fun S=>by
 refine zcx [.tmp 4] func232 ntmps232 ?_;simp -implicitDefEqProofs (disch:=omega) only[go_sem,encS]
 with_reducible refine aD (fun hb=> ?_) (fun hb=> ?_)<;>have h:=hb<;>(try simp only[wf_preprocess] at h)<;>simp -implicitDefEqProofs (disch:=omega) only[go_sem,hb,encS]<;>(repeat(with_reducible refine And.intro ?_ ?_;focus first|omega|rfl|assumption|exact⟨_,rfl,rfl⟩|(simp;omega)|(simp;done)))
 ·exact bO (bK (fun e=>h (by rw[e]))).symm
 have hl':xs.length=ys.length:=by omega
 refine bT (ι:=Nat) zmx rfl [0,1,5] (fun i=>[.c (.d (.sl (xs.map encS))),.c (.d (.sl (ys.map encS))),.c (.d (.i .i64 i))]) (fun _=>[]::S)
  (fun i=>i<=xs.length/\∀j,j<i->xs[j]? =ys[j]?) (fun y=>xs.length-y) 0 rfl rfl ⟨Nat.zero_le _,fun j h=>by omega⟩ ?_
 rintro i ⟨p1,p2⟩;simp -implicitDefEqProofs (disch:=omega) only[go_sem,encS]
 with_reducible refine aD (fun hb=> ?_) (fun hb=> ?_)<;>have h:=hb<;>(try simp only[wf_preprocess] at h)<;>simp -implicitDefEqProofs (disch:=omega) only[go_sem,hb,encS]<;>(repeat(with_reducible refine And.intro ?_ ?_;focus first|omega|rfl|assumption|exact⟨_,rfl,rfl⟩|(simp;omega)|(simp;done)))
 ·have hi:i<xs.length:=by omega
  have hi':i<ys.length:=by omega
  (repeat(with_reducible refine And.intro ?_ ?_;focus first|omega|rfl|assumption|exact⟨_,rfl,rfl⟩|(simp;omega)|(simp;done)))
  with_reducible refine aD (fun hb=> ?_) (fun hb=> ?_)<;>have h:=hb<;>(try simp only[wf_preprocess] at h)<;>simp -implicitDefEqProofs (disch:=omega) only[go_sem,hb,encS]<;>(repeat(with_reducible refine And.intro ?_ ?_;focus first|omega|rfl|assumption|exact⟨_,rfl,rfl⟩|(simp;omega)|(simp;done)))
  ·exact bO (bK (fun e=>h (by simp only[e]))).symm
  refine dG (i+1) (by omega) rfl rfl ⟨by omega,fun j hj=> ?_⟩;by_cases e:j=i
  ·subst e;rw[List.getElem?_eq_getElem hi,List.getElem?_eq_getElem hi',h]
  ·exact p2 j (by omega)
 ·have hi:i=xs.length:=by omega
  refine bO (dQ (List.ext_getElem? fun j=> ?_)).symm;by_cases hj:j<i
  ·exact p2 j hj
  ·rw[List.getElem?_eq_none (by omega),List.getElem?_eq_none (by omega)]
theorem yI{s:List UInt8}{xs:List (List UInt8)}(h:s∈xs):s.length<=aI (xs.map encS):=by
 have:=dV (List.mem_map_of_mem (f:=encS) h);simpa [encS,bF,D.sz] using this
noncomputable def iP(xs:List (List UInt8)):Bool:=dec xs.Nodup&&xs.all validName
noncomputable def among(xs ys:List (List UInt8)):Bool:=xs.all fun s=>dec (s∈ys)
noncomputable def iI(vars:List (List UInt8))(t:ay):Bool:=qL t&&among (jO [] t) vars
noncomputable def mJ(vars:List (List UInt8))(ts:List ay):Bool:=ts.all (iI vars)
theorem nP{α:Type}{xs:List α}{i:Nat}(hi:i<xs.length):xs.take (i+1)=xs.take i++[xs[i]]:=List.take_succ_eq_append_getElem hi
theorem Kv{α:Type}{xs:List α}{x:α}:(xs++[x]).Nodup<->xs.Nodup/\x∉xs:=by
 rw[List.nodup_append];constructor
 ·rintro⟨h1,_,h3⟩;exact⟨h1,fun hx=>h3 x hx x (by simp) rfl⟩
 ·rintro⟨h1,h2⟩;exact⟨h1,by simp,fun a ha b hb e=>by simp at hb;subst hb;exact h2 (e▸ha)⟩
theorem ZK{α:Type}{xs:List α}{i:Nat}(hi:i<xs.length)(h:xs[i]∈xs.take i):¬xs.Nodup:=fun hn=>by
 have h1:(xs.take (i+1)).Nodup:=hn.sublist (List.take_sublist _ _);rw[nP hi] at h1;exact(Kv.1 h1).2 h
theorem mW(xs:List (List UInt8))(hl:xs.length<=1073741824):bq prog 57 [.c (.d (.sl (xs.map encS)))] (.c (.d (.b (dec xs.Nodup)))):=fun S=>by
 refine zcx [.tmp 2] func57 ntmps57 ?_;simp -implicitDefEqProofs (disch:=omega) only[go_sem,encS]
 refine bT (ι:=Nat) zmx rfl [0,3] (fun i=>[.c (.d (.sl (xs.map encS))),.c (.d (.i .i64 i))]) (fun _=>[]::S)
  (fun i=>i<=xs.length/\(xs.take i).Nodup) (fun i=>xs.length-i) 0 rfl rfl ⟨Nat.zero_le _,by simp⟩ ?_
 rintro i ⟨p1,p3⟩;simp -implicitDefEqProofs (disch:=omega) only[go_sem,encS]
 with_reducible refine aD (fun hb=> ?_) (fun hb=> ?_)<;>have h:=hb<;>(try simp only[wf_preprocess] at h)<;>simp -implicitDefEqProofs (disch:=omega) only[go_sem,hb,encS]<;>(repeat(with_reducible refine And.intro ?_ ?_;focus first|omega|rfl|assumption|exact⟨_,rfl,rfl⟩|(simp;omega)|(simp;done)))
 ·have hi:i<xs.length:=by omega
  have hc:∀y∈xs.map encS,y.length=1:=fun y hy=>by
   obtain⟨s,_,rfl⟩:=List.mem_map.1 hy;rfl
  have e:(xs.map encS).take i=(xs.take i).map encS:=List.map_take.symm;refine And.intro ⟨by omega,by omega,hc⟩ ?_
  (repeat(with_reducible refine And.intro ?_ ?_;focus first|omega|rfl|assumption|exact⟨_,rfl,rfl⟩|(simp;omega)|(simp;done)))
  simp -implicitDefEqProofs (disch:=omega) only[go_sem,Int.toNat_zero,e];refine aB (nZ (xs.take i) xs[i] (by simp;omega)) ?_;simp -implicitDefEqProofs (disch:=omega) only[go_sem]<;>(repeat(with_reducible refine And.intro ?_ ?_;focus first|omega|rfl|assumption|exact⟨_,rfl,rfl⟩|(simp;omega)|(simp;done)))
  with_reducible refine aD (fun hb=> ?_) (fun hb=> ?_)<;>have h:=hb<;>(try simp only[wf_preprocess] at h)<;>simp -implicitDefEqProofs (disch:=omega) only[go_sem,hb]<;>(repeat(with_reducible refine And.intro ?_ ?_;focus first|omega|rfl|assumption|exact⟨_,rfl,rfl⟩|(simp;omega)|(simp;done)))
  ·exact bO (bK (ZK hi h)).symm
  ·refine dG (i+1) (by omega) rfl rfl ⟨by omega,?_⟩;rw[nP hi,Kv];exact⟨p3,h⟩
 ·rw[List.take_of_length_le (by omega)] at p3;exact bO (dQ p3).symm
theorem Kw(xs:List (List UInt8))(hl:xs.length<=1073741824)(hs:∀s∈xs,s.length<=4194304):bq prog 122 [.c (.d (.sl (xs.map encS)))] (.c (.d (.b (xs.all validName)))):=fun S=>by
 refine zcx [.tmp 2] func122 ntmps122 ?_;simp -implicitDefEqProofs (disch:=omega) only[go_sem,encS]
 refine bT (ι:=Nat) zmx rfl [0,3] (fun i=>[.c (.d (.sl (xs.map encS))),.c (.d (.i .i64 i))]) (fun _=>[]::S)
  (fun i=>i<=xs.length/\(xs.drop i).all validName=xs.all validName) (fun i=>xs.length-i) 0 rfl rfl ⟨Nat.zero_le _,rfl⟩ ?_
 rintro i ⟨p1,p2⟩;simp -implicitDefEqProofs (disch:=omega) only[go_sem,encS]
 with_reducible refine aD (fun hb=> ?_) (fun hb=> ?_)<;>have h:=hb<;>(try simp only[wf_preprocess] at h)<;>simp -implicitDefEqProofs (disch:=omega) only[go_sem,hb,encS]<;>(repeat(with_reducible refine And.intro ?_ ?_;focus first|omega|rfl|assumption|exact⟨_,rfl,rfl⟩|(simp;omega)|(simp;done)))
 ·have hi:i<xs.length:=by omega
  have hz:=hs _ (List.getElem_mem hi);rw[List.drop_eq_getElem_cons hi,List.all_cons] at p2
  (repeat(with_reducible refine And.intro ?_ ?_;focus first|omega|rfl|assumption|exact⟨_,rfl,rfl⟩|(simp;omega)|(simp;done)))
  refine aB (gM xs[i] (by omega)) ?_;simp -implicitDefEqProofs (disch:=omega) only[go_sem]<;>(repeat(with_reducible refine And.intro ?_ ?_;focus first|omega|rfl|assumption|exact⟨_,rfl,rfl⟩|(simp;omega)|(simp;done)))
  with_reducible refine aD (fun hb=> ?_) (fun hb=> ?_)<;>have h:=hb<;>(try simp only[wf_preprocess] at h)<;>simp -implicitDefEqProofs (disch:=omega) only[go_sem,hb]<;>(repeat(with_reducible refine And.intro ?_ ?_;focus first|omega|rfl|assumption|exact⟨_,rfl,rfl⟩|(simp;omega)|(simp;done)))
  ·rw[<-p2,h];rfl
  ·exact dG (i+1) (by omega) rfl rfl ⟨by omega,by rw[<-p2,h];rfl⟩
 ·rw[List.drop_of_length_le (by omega)] at p2;rw[<-p2];rfl
theorem j6(xs:List (List UInt8))(most:Int)(hl:xs.length<=1073741824)(hs:∀s∈xs,s.length<=4194304):bq prog 78 [.c (.d (.sl (xs.map encS))),.c (.d (.i .i64 most))] (.c (.d (.b (dec ((xs.length:Int)<=most)&&iP xs)))):=fun S=>by
 refine zcx [.tmp 4] func78 ntmps78 ?_;simp -implicitDefEqProofs (disch:=omega) only[go_sem]
 with_reducible refine aD (fun hb=> ?_) (fun hb=> ?_)<;>have h:=hb<;>(try simp only[wf_preprocess] at h)<;>simp -implicitDefEqProofs (disch:=omega) only[go_sem,hb]<;>(repeat(with_reducible refine And.intro ?_ ?_;focus first|omega|rfl|assumption|exact⟨_,rfl,rfl⟩|(simp;omega)|(simp;done)))
 ·have h1:=h;refine aB (Kw xs hl hs) ?_;simp -implicitDefEqProofs (disch:=omega) only[go_sem]<;>(repeat(with_reducible refine And.intro ?_ ?_;focus first|omega|rfl|assumption|exact⟨_,rfl,rfl⟩|(simp;omega)|(simp;done)))
  with_reducible refine aD (fun hb=> ?_) (fun hb=> ?_)<;>have h:=hb<;>(try simp only[wf_preprocess] at h)<;>simp -implicitDefEqProofs (disch:=omega) only[go_sem,hb]<;>(repeat(with_reducible refine And.intro ?_ ?_;focus first|omega|rfl|assumption|exact⟨_,rfl,rfl⟩|(simp;omega)|(simp;done)))
  ·refine aB (mW xs hl) ?_;simp -implicitDefEqProofs (disch:=omega) only[go_sem]<;>(repeat(with_reducible refine And.intro ?_ ?_;focus first|omega|rfl|assumption|exact⟨_,rfl,rfl⟩|(simp;omega)|(simp;done)));exact bO (by rw[dQ h1];unfold iP;rw[hb];simp)
  ·exact bO (by rw[dQ h1];unfold iP;rw[hb];simp)
 ·exact bO (by rw[bK h];rfl)
theorem ru(t:ay)(vars:List (List UInt8))(hsz:t.sz<=4194304)(hv:vars.length<=1073741824):bq prog 160 [t.v,.c (.d (.sl (vars.map encS)))] (.c (.d (.b (iI vars t)))):=fun S=>by
 have h1:=Nj t [];have h2:=qw t
 have hlen:(jO [] t).length<=1073741824:=by simp at h1;omega
 refine zcx [.tmp 4] func160 ntmps160 ?_;simp -implicitDefEqProofs (disch:=omega) only[go_sem];refine aB (Kr t hsz) ?_;simp -implicitDefEqProofs (disch:=omega) only[go_sem]<;>(repeat(with_reducible refine And.intro ?_ ?_;focus first|omega|rfl|assumption|exact⟨_,rfl,rfl⟩|(simp;omega)|(simp;done)));generalize hxs:jO [] t=xs at hlen
 refine bT (ι:=Nat) zmx rfl [1,2,5,6] (fun i=>[.c (.d (.sl (vars.map encS))),.c (.ptr (0,0) 0),.c (.d (.sl (xs.map encS))),.c (.d (.i .i64 i))]) (fun _=>[.box [.d (.i .i64 t.aR),.d (.s t.fName),.d (.sl (t.fArgs.map ay.enc))]]::S)
  (fun i=>i<=xs.length/\among (xs.drop i) vars=among xs vars) (fun i=>xs.length-i) 0 rfl rfl ⟨Nat.zero_le _,rfl⟩ ?_
 rintro i ⟨p1,p2⟩;simp -implicitDefEqProofs (disch:=omega) only[go_sem,encS]
 with_reducible refine aD (fun hb=> ?_) (fun hb=> ?_)<;>have h:=hb<;>(try simp only[wf_preprocess] at h)<;>simp -implicitDefEqProofs (disch:=omega) only[go_sem,hb,encS]<;>(repeat(with_reducible refine And.intro ?_ ?_;focus first|omega|rfl|assumption|exact⟨_,rfl,rfl⟩|(simp;omega)|(simp;done)))
 ·have hi:i<xs.length:=by omega
  rw[List.drop_eq_getElem_cons hi] at p2;have p3:among xs vars=(dec (xs[i]∈vars)&&among (xs.drop (i+1)) vars):=p2.symm
  (repeat(with_reducible refine And.intro ?_ ?_;focus first|omega|rfl|assumption|exact⟨_,rfl,rfl⟩|(simp;omega)|(simp;done)))
  refine aB (nZ vars xs[i] hv) ?_;simp -implicitDefEqProofs (disch:=omega) only[go_sem]<;>(repeat(with_reducible refine And.intro ?_ ?_;focus first|omega|rfl|assumption|exact⟨_,rfl,rfl⟩|(simp;omega)|(simp;done)))
  with_reducible refine aD (fun hb=> ?_) (fun hb=> ?_)<;>have h:=hb<;>(try simp only[wf_preprocess] at h)<;>simp -implicitDefEqProofs (disch:=omega) only[go_sem,hb]<;>(repeat(with_reducible refine And.intro ?_ ?_;focus first|omega|rfl|assumption|exact⟨_,rfl,rfl⟩|(simp;omega)|(simp;done)))
  ·exact bO (by unfold iI;rw[hxs,p3,bK h];simp)
  ·exact dG (i+1) (by omega) rfl rfl ⟨by omega,by rw[p3,dQ h];rfl⟩
 ·rw[List.drop_of_length_le (by omega)] at p2;have p3:among xs vars=true:=p2.symm
  (repeat(with_reducible refine And.intro ?_ ?_;focus first|omega|rfl|assumption|exact⟨_,rfl,rfl⟩|(simp;omega)|(simp;done)))
  refine aB (uY t hsz) ?_;simp -implicitDefEqProofs (disch:=omega) only[go_sem]<;>(repeat(with_reducible refine And.intro ?_ ?_;focus first|omega|rfl|assumption|exact⟨_,rfl,rfl⟩|(simp;omega)|(simp;done)));exact bO (by unfold iI;rw[hxs,p3];simp)
theorem Nk(ts:List ay)(vars:List (List UInt8))(hl:ts.length<=1073741824)(hsz:∀t∈ts,t.sz<=4194304)(hv:vars.length<=1073741824):bq prog 159 [.c (.d (.sl (ts.map ay.enc))),.c (.d (.sl (vars.map encS)))] (.c (.d (.b (mJ vars ts)))):=fun S=>by
 refine zcx [.tmp 4] func159 ntmps159 ?_;simp -implicitDefEqProofs (disch:=omega) only[go_sem]
 refine bT (ι:=Nat) zmx rfl [0,1,5] (fun i=>[.c (.d (.sl (ts.map ay.enc))),.c (.d (.sl (vars.map encS))),.c (.d (.i .i64 i))]) (fun _=>[]::S)
  (fun i=>i<=ts.length/\mJ vars (ts.drop i)=mJ vars ts) (fun i=>ts.length-i) 0 rfl rfl ⟨Nat.zero_le _,rfl⟩ ?_
 rintro i ⟨p1,p2⟩;simp -implicitDefEqProofs (disch:=omega) only[go_sem]
 with_reducible refine aD (fun hb=> ?_) (fun hb=> ?_)<;>have h:=hb<;>(try simp only[wf_preprocess] at h)<;>simp -implicitDefEqProofs (disch:=omega) only[go_sem,hb]<;>(repeat(with_reducible refine And.intro ?_ ?_;focus first|omega|rfl|assumption|exact⟨_,rfl,rfl⟩|(simp;omega)|(simp;done)))
 ·have hi:i<ts.length:=by omega
  rw[List.drop_eq_getElem_cons hi] at p2;have p3:mJ vars ts=(iI vars ts[i]&&mJ vars (ts.drop (i+1))):=p2.symm
  (repeat(with_reducible refine And.intro ?_ ?_;focus first|omega|rfl|assumption|exact⟨_,rfl,rfl⟩|(simp;omega)|(simp;done)))
  refine aB (ru ts[i] vars (hsz _ (List.getElem_mem hi)) hv) ?_;simp -implicitDefEqProofs (disch:=omega) only[go_sem]<;>(repeat(with_reducible refine And.intro ?_ ?_;focus first|omega|rfl|assumption|exact⟨_,rfl,rfl⟩|(simp;omega)|(simp;done)))
  with_reducible refine aD (fun hb=> ?_) (fun hb=> ?_)<;>have h:=hb<;>(try simp only[wf_preprocess] at h)<;>simp -implicitDefEqProofs (disch:=omega) only[go_sem,hb]<;>(repeat(with_reducible refine And.intro ?_ ?_;focus first|omega|rfl|assumption|exact⟨_,rfl,rfl⟩|(simp;omega)|(simp;done)))
  ·rw[p3,h];rfl
  ·exact dG (i+1) (by omega) rfl rfl ⟨by omega,by rw[p3,h];rfl⟩
 ·rw[List.drop_of_length_le (by omega)] at p2;rw[<-p2];rfl
def ops:List (List UInt8):=[[43],[45],[42],[60],[61]]
def Bz(t:ay):Prop:=t.aR=0/\t.fName=[]/\t.fArgs.length=0
def xC(e:aC):Prop:=
 (1<=e.aR/\e.aR<=12)/\
 (if e.aR=5\/e.aR=11 then validName e.bU=true else e.bU=[])/\
 (if e.aR=3\/e.aR=4\/e.aR=5\/e.aR=6\/e.aR=8 then validName e.fName=true else if e.aR=10 then e.fName∈ops else e.fName=[])/\
 (if e.aR=1 then -999999<=e.fN/\e.fN<=999999 else if e.aR=2 then e.fN=0\/e.fN=1 else e.fN=0)/\
 (if e.aR=12 then qL e.fType=true else Bz e.fType)/\
 (if e.aR=4\/e.aR=6 then True else if e.aR=5 then 1<=e.fArgs.length else if e.aR=7\/e.aR=11\/e.aR=12 then e.fArgs.length=1 else if e.aR=8\/e.aR=10 then e.fArgs.length=2 else if e.aR=9 then e.fArgs.length=3 else e.fArgs.length=0)/\
 (e.aR=7<->0<e.bE.length)
mutual
noncomputable def iW:aC->Bool
 | .mk k t n m ty a b=>dec (xC (.mk k t n m ty a b))&&(lG a&&og b)
noncomputable def lG:List aC->Bool
 |[]=>true
 |x::xs=>iW x&&lG xs
noncomputable def yc:aZ->Bool
 | .mk c v b=>validName c&&(iP v&&iW b)
noncomputable def og:List aZ->Bool
 |[]=>true
 |x::xs=>yc x&&og xs
end
theorem Nl(x:aC):iW x=(dec (xC x)&&(lG x.fArgs&&og x.bE)):=by cases x;rw[iW];rfl
theorem xD(x:aZ):yc x=(validName x.fK&&(iP x.aO&&iW x.fBody)):=by cases x;rw[yc];rfl
theorem QF{xs:List aC}{i:Nat}(hi:i<xs.length):lG (xs.drop i)=(iW xs[i]&&lG (xs.drop (i+1))):=by rw[List.drop_eq_getElem_cons hi,lG]
theorem S9{xs:List aZ}{i:Nat}(hi:i<xs.length):og (xs.drop i)=(yc xs[i]&&og (xs.drop (i+1))):=by rw[List.drop_eq_getElem_cons hi,og]
noncomputable def vG(e:aC):Bool:=dec (e.cnt<=300)&&iW e
def mK(l:Int)(c:Nat):Int:=if l<0 then -1 else if c<=l then l-c else -1
theorem DY{l:Int}{a b:Nat}:mK (mK l a) b=mK l (a+b):=by unfold mK;split<;>split<;>(try split)<;>(try split)<;>omega
theorem I4{l:Int}{a:Nat}(h:l<0):mK l a= -1:=if_pos h
theorem FN{l:Int}(h: -1<=l):mK l 0=l:=by unfold mK;split<;>(try split)<;>omega
theorem Mg{l:Int}{c:Nat}(h:0<=l): -1<=mK l c/\mK l c<=l:=by unfold mK;split<;>(try split)<;>omega
theorem acV{l:Int}{c:Nat}(h:0<=l):decide (mK l c>=0)=decide ((c:Int)<=l):=by unfold mK;rw[if_neg (by omega)];split<;>simp<;>omega
theorem Ot:validName []=false:=bK fun h=>by have:=h.1.1;simp at this
theorem ahu{s:List UInt8}(h:s∈ops):s.length=1:=by simp[ops] at h;rcases h with h|h|h|h|h<;>rw[h]<;>rfl
theorem QG{s:List UInt8}(h:s∈ops):validName s=false:=bK fun x=>by
 have h1:=x.2.2 0 (by have:=x.1.1;omega);simp[ops] at h;rcases h with h|h|h|h|h<;>rw[h] at h1<;>simp[lowerB,yH] at h1
structure Hold(p:Prop):Prop where
 out:p
theorem Ay{P:Program}{N:Nat}{c:Code}{Q:Exit->St->Prop}{tm:List (Nat×V)}{st st':Store}(ts:List Nat)(vs:List V)(hv:ts.map (look tm)=vs)(hs:st=st')
 (h:AW P N c Q ⟨jC ts vs,st'⟩):AW P N c Q ⟨tm,st⟩:=by
 subst hs;refine lU h ?_;rw[<-hv];exact IQ fun t=>uX _ ts t
end Go.Ab