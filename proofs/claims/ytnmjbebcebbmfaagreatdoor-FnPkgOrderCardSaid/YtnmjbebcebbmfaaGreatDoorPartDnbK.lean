/-
  SEVERAL TEXTS IN ONE (merged by program): contracts and models, each with its own heading.
-/
import Derived.Test.YtnmjbebcebbmfaaGreatDoorPartDnbC
set_option maxHeartbeats 8000000
open Go.Proofs Go.Proofs.Tryz
set_option linter.unusedSimpArgs false
set_option linter.unusedVariables false
set_option maxRecDepth 4000
namespace Go.Ab
def lowerB(b:UInt8):Prop:=97<=b.toNat/\b.toNat<=122
def uN(b:UInt8):Prop:=48<=b.toNat/\b.toNat<=57
def Y7(s:List UInt8):Prop:=∀i,i<s.length->lowerB (s.getD i 0)\/(i≠0/\uN (s.getD i 0))
def reserved:List (List UInt8):=[[105,110,116],[98,111,111,108],[97,115,115,111,99],[100,121,110],[105,102],[108,101,116],[99,97,115,101],[110,101,119],[109,101,116,104,111,100],[112,97,99,107],[116,114,117,101],[102,97,108,115,101]]
noncomputable def validName(s:List UInt8):Bool:=dec ((1<=s.length/\s.length<=8)/\s∉reserved/\Y7 s)
noncomputable def z8(s:List UInt8):Bool:=dec (s=[105,110,116]\/s=[98,111,111,108])
noncomputable def zL(xs:List (List UInt8))(s:List UInt8):Int:=if s∈xs then((xs.findIdx fun x=>dec (x=s):Nat):Int) else -1
theorem abD{xs:List (List UInt8)}{s:List UInt8}{i:Nat}(hi:i<xs.length)(hj:∀j,j<i->xs.getD j []≠s)(h:xs.getD i []=s):zL xs s=i:=by
 have e:∀j,∀hj:j<xs.length,xs.getD j []=xs[j]:=fun j hj=>by simp[List.getD,hj]
 have hm:s∈xs:=by rw[<-h,e i hi];exact ac hi
 unfold zL;rw[if_pos hm];congr 1;rw[List.findIdx_eq hi];exact⟨bK (by rw[<-e i hi];exact h),fun j hji=>aO (by rw[<-e j gA];exact hj j hji)⟩
theorem ah2{xs:List (List UInt8)}{s:List UInt8}(hj:∀j,j<xs.length->xs.getD j []≠s):zL xs s= -1:=by
 unfold zL;refine if_neg fun hm=> ?_;obtain⟨j,h1,h2⟩:=ci hm;exact hj j h1 (by simp[List.getD,h1,h2])
theorem RF{xs:List (List UInt8)}{s:List UInt8}:decide (zL xs s>=0)=dec (s∈xs):=by
 rw[kK];refine iJ ?_;unfold zL;split
 ·rename_i h;exact⟨fun _=>h,fun _=>gA⟩
 ·rename_i h;exact⟨fun x=>gA,fun x=>absurd x h⟩
def vP{α:Type}(p:α->Bool)(xs:List α):Int:=if xs.any p then((xs.findIdx p:Nat):Int) else -1
theorem uZ{α:Type}{p:α->Bool}{xs:List α}{i:Nat}(hi:i<xs.length)(hj:∀j,∀hj:j<xs.length,j<i->p xs[j]=false)(h:p xs[i]=true):vP p xs=i:=by
 unfold vP;rw[if_pos (List.any_eq_true.2 ⟨xs[i],ac hi,h⟩)];congr 1;rw[List.findIdx_eq hi];exact⟨h,fun j hji=>hj j gA hji⟩
theorem yE{α:Type}{p:α->Bool}{xs:List α}(hj:∀j,∀hj:j<xs.length,p xs[j]=false):vP p xs= -1:=by
 unfold vP;refine if_neg fun h=> ?_;obtain⟨x,hx,hp⟩:=List.any_eq_true.1 h;obtain⟨j,h1,h2⟩:=ci hx;rw[<-h2,hj j h1] at hp;cases hp
theorem wN{α:Type}{p:α->Bool}{xs:List α}:decide (vP p xs>=0)=xs.any p:=by
 unfold vP
 cases h:xs.any p with
 |true=>simp
 |false=>simp
noncomputable def Fx(k:Int)(n:List UInt8)(len:Nat):Bool:=
 dec ((k=1\/k=4)/\validName n=true/\len=0\/k=3/\validName n=true/\len=1\/k=2/\(validName n=true/\len<=3\/z8 n=true/\len=0))
mutual
noncomputable def formed:ak->Bool
 | .mk k n a=>Fx k n a.length&&jG a
noncomputable def jG:List ak->Bool
 |[]=>true
 |t::ts=>formed t&&jG ts
end
theorem Az(t:ak):formed t=(Fx t.aN t.fName t.fArgs.length&&jG t.fArgs):=by cases t;rw[formed];rfl
theorem zM:∀{ts:List ak},jG ts=true<->∀t∈ts,formed t=true
 |[]=>by simp[jG]
 |t::ts=>by simp[jG,zM (ts:=ts)]
theorem O1:∀{ts:List ak},(ts.any fun t=> !formed t)= !jG ts
 |[]=>rfl
 |t::ts=>by rw[gg,O1 (ts:=ts),jG];simp
mutual
def oC:ak->Nat
 | .mk _ _ a=>depths a
def depths:List ak->Nat
 |[]=>0
 |t::ts=>max (oC t+1) (depths ts)
end
theorem Vt(t:ak):oC t=depths t.fArgs:=by cases t;rw[oC];rfl
mutual
theorem D6:∀t:ak,oC t+1<=t.cnt
 | .mk k n a=>by
   have:=Vu a;rw[oC,ak.cnt];omega
theorem Vu:∀ts:List ak,depths ts<=ak.fq ts
 |[]=>by simp[depths]
 |t::ts=>by
  have h1:=D6 t;have h2:=Vu ts;rw[depths,ak.fq];omega
end
noncomputable def pq(t:ak):Bool:=dec (formed t=true/\oC t<=6/\t.cnt<=60)
theorem JG(n a b:Int):aD prog 143 [.c (.d (.i .i64 n)),.c (.d (.i .i64 a)),.c (.d (.i .i64 b))] (.c (.d (.b (dec (a<=n/\n<=b))))):=fun S=>by
 refine zcx [.tmp 6] func143 ntmps143 ?_;refine W1 ?_;refine S0 (fun hb h=>?_) fun hb h=>?_
 ·exact aK (by rw[kK];exact iJ ⟨fun x=>⟨gA,x⟩,fun x=>x.2⟩)
 ·exact aK (aO gA).symm
theorem tL(xs:List (List UInt8))(s:List UInt8)(hl:xs.length<=1073741824):aD prog 71 [.c (.d (.sl (xs.map encS))),.c (.d (.s s))] (.c (.d (.b (dec (s∈xs))))):=fun S=>by
 refine zcx [.tmp 4] func71 ntmps71 ?_;refine wm ?_
 refine aZ (ι:=Nat) zmx rfl [0,1,5] (fun i=>[.c (.d (.sl (xs.map encS))),.c (.d (.s s)),.c (.d (.i .i64 i))]) (fun _=>[]::S)
  (fun i=>i<=xs.length/\∀j,j<i->∀h:j<xs.length,xs[j]≠s) (fun i=>xs.length-i) 0 rfl rfl ⟨an _,fun j h=>gA⟩ ?_
 rintro i ⟨p1,p2⟩;refine wm ?_;refine BD (fun hb h=>?_) fun hb h=>?_
 ·have hi:i<xs.length:=gA
  refine BD (fun hb h=>?_) fun hb h=>?_
  ·exact aK (bK (by rw[<-h];exact ac hi)).symm
  ·refine dH (i+1) gA rfl rfl ⟨gA,fun j hj hl=> ?_⟩;by_cases e:j=i
   ·subst e;exact h
   ·exact p2 j gA hl
 ·refine aK (aO fun hm=> ?_).symm;obtain⟨j,h1,h2⟩:=ci hm;exact p2 j gA h1 h2
theorem Vv(xs:List (List UInt8))(s:List UInt8)(hl:xs.length<=1073741824):aD prog 92 [.c (.d (.sl (xs.map encS))),.c (.d (.s s))] (.c (.d (.i .i64 (zL xs s)))):=fun S=>by
 refine zcx [.tmp 4] func92 ntmps92 ?_;refine wm ?_
 refine aZ (ι:=Nat) zmx rfl [0,1,7,8] (fun i=>[.c (.d (.sl (xs.map encS))),.c (.d (.s s)),.c (.d (.i .i64 xs.length)),.c (.d (.i .i64 i))]) (fun _=>[]::S)
  (fun i=>i<=xs.length/\∀j,j<i->xs.getD j []≠s) (fun i=>xs.length-i) 0 rfl rfl ⟨an _,fun j h=>gA⟩ ?_
 rintro i ⟨p1,p2⟩;refine wm ?_;refine BD (fun hb h=>?_) fun hb h=>?_
 ·have hi:i<xs.length:=gA
  have e:xs.getD i []=xs[i]:=by simp[List.getD,hi]
  refine BD (fun hb h=>?_) fun hb h=>?_
  ·rw[abD hi p2 (by rw[e];exact h.symm)]
  ·refine dH (i+1) gA rfl rfl ⟨gA,fun j hj=> ?_⟩;by_cases e':j=i
   ·subst e';rw[e];exact fun x=>h x.symm
   ·exact p2 j gA
 ·rw[ah2 (fun j hj=>p2 j gA)]
theorem tO(xs:List (List UInt8))(s:List UInt8)(hl:xs.length<=1073741824):aD prog 154 [.c (.d (.sl (xs.map encS))),.c (.d (.s s))] (.c (.d (.b (dec (s∈xs))))):=fun S=>by
 refine zcx [.tmp 4] func154 ntmps154 ?_;refine W1 ?_;refine C2 (Vv xs s hl) ?_;exact aK RF
theorem RG(s:List UInt8):aD prog 144 [.c (.d (.s s))] (.c (.d (.b (dec (s∈reserved))))):=fun S=>by
 refine zcx [.tmp 2] func144 ntmps144 ?_;refine W1 ?_;refine W3 ?_;exact C4 (tL reserved s gE)
theorem RH(s:List UInt8):aD prog 88 [.c (.d (.s s))] (.c (.d (.b (dec (s∈reserved))))):=fun S=>by
 refine zcx [.tmp 2] func88 ntmps88 ?_;refine W1 ?_;refine W3 ?_;exact C4 (tO reserved s gE)
theorem RI(b:UInt8):aD prog 86 [.c (.d (.i .u8 b.toNat))] (.c (.d (.b (dec (lowerB b))))):=fun S=>by
 refine zcx [.tmp 2] func86 ntmps86 ?_;refine W1 ?_;refine S0 (fun hb h=>?_) fun hb h=>?_
 ·exact aK (by rw[kK];exact iJ ⟨fun x=>⟨gA,gA⟩,fun x=>by have:=x.2;omega⟩)
 ·exact aK (aO fun x=>by have:=x.1;omega).symm
theorem RJ(b:UInt8):aD prog 87 [.c (.d (.i .u8 b.toNat))] (.c (.d (.b (dec (uN b))))):=fun S=>by
 refine zcx [.tmp 2] func87 ntmps87 ?_;refine W1 ?_;refine S0 (fun hb h=>?_) fun hb h=>?_
 ·exact aK (by rw[kK];exact iJ ⟨fun x=>⟨gA,gA⟩,fun x=>by have:=x.2;omega⟩)
 ·exact aK (aO fun x=>by have:=x.1;omega).symm
theorem iU(s:List UInt8)(hl:s.length<=1073741824):aD prog 30 [.c (.d (.s s))] (.c (.d (.b (validName s)))):=fun S=>by
 refine zcx [.tmp 2] func30 ntmps30 ?_;refine W1 ?_
 refine aZ (ι:=Nat) zmx rfl [0,5,6] (fun i=>[.c (.d (.s s)),.c (.d (.i .i64 s.length)),.c (.d (.i .i64 i))]) (fun _=>[]::S)
  (fun i=>i<=s.length/\∀j,j<i->lowerB (s.getD j 0)\/(j≠0/\uN (s.getD j 0))) (fun i=>s.length-i) 0 rfl rfl ⟨an _,fun j h=>gA⟩ ?_
 rintro i ⟨p1,p2⟩
 have next:i<s.length->(lowerB (s.getD i 0)\/(i≠0/\uN (s.getD i 0)))->∀j,j<i+1->lowerB (s.getD j 0)\/(j≠0/\uN (s.getD j 0)):=fun hi h j hj=>by
  by_cases e:j=i
  ·subst e;exact h
  ·exact p2 j gA
 have bad:i<s.length->¬(lowerB (s.getD i 0)\/(i≠0/\uN (s.getD i 0)))->validName s=false:=fun hi h=>aO fun x=>h (x.2.2 i hi);refine W1 ?_;refine S0 (fun hb h=>?_) fun hb h=>?_
 ·have hi:i<s.length:=gA
  refine W3 ?_;refine C2 (RI (s.getD i 0)) ?_;refine S0 (fun hb h=>?_) fun hb h=>?_
  ·have nl:=h;refine S0 (fun hb h=>?_) fun hb h=>?_
   ·have i0:i=0:=gA
    rw[bad hi (fun x=>x.elim nl fun y=>y.1 i0)]
   ·have ne:=h;refine W3 ?_;refine C2 (RJ (s.getD i 0)) ?_;refine S0 (fun hb h=>?_) fun hb h=>?_
    ·rw[bad hi (fun x=>x.elim nl fun y=>h y.2)]
    ·exact dH (i+1) gA rfl rfl ⟨gA,next hi (.inr ⟨gA,h⟩)⟩
  ·exact dH (i+1) gA rfl rfl ⟨gA,next hi (.inl h)⟩
 ·have hn:Y7 s:=fun j hj=>p2 j gA
  have h0:∀b,dec (s∈reserved)=b->∀c,decide ((s.length:Int)>=1)=c->∀d,decide ((s.length:Int)<=8)=d->validName s=(c&&d&& !b):=by
   rintro b rfl c rfl d rfl;unfold validName;rw[fw];simp only[Dk,ai,decide_eq_true_eq,fj,Mk];exact⟨fun x=>⟨⟨gA,gA⟩,x.2.1⟩,fun x=>⟨⟨gA,gA⟩,x.2,hn⟩⟩
  refine S0 (fun hb h=>?_) fun hb h=>?_
  ·have c1:=hb;refine S0 (fun hb h=>?_) fun hb h=>?_
   ·refine C2 (RH s) ?_;exact aK (by rw[h0 _ rfl _ c1 _ hb];simp)
   ·exact aK (by rw[h0 _ rfl _ c1 _ hb];simp)
  ·exact aK (by rw[h0 _ rfl _ hb _ rfl];simp)
theorem iV(s:List UInt8)(hl:s.length<=1073741824):aD prog 69 [.c (.d (.s s))] (.c (.d (.b (validName s)))):=fun S=>by
 have bad:¬Y7 s->validName s=false:=fun h=>aO fun x=>h x.2.2;refine zcx [.tmp 2] func69 ntmps69 ?_;refine W1 ?_;refine C2 (JG s.length 1 8) ?_;refine S0 (fun hb h=>?_) fun hb h=>?_
 ·rw[show validName s=false from aO fun x=>h gA]
 have hlen:=h;refine C2 (RG s) ?_;refine S0 (fun hb h=>?_) fun hb h=>?_
 ·rw[show validName s=false from aO fun x=>x.2.1 h]
 have hres:=h
 refine aZ (ι:=Nat) zmx rfl [0,3] (fun i=>[.c (.d (.s s)),.c (.d (.i .i64 i))]) (fun _=>[]::S)
  (fun i=>i<=s.length/\∀j,j<i->lowerB (s.getD j 0)\/(j≠0/\uN (s.getD j 0))) (fun i=>s.length-i) 0 rfl rfl ⟨an _,fun j h=>gA⟩ ?_
 rintro i ⟨p1,p2⟩
 have next:i<s.length->(lowerB (s.getD i 0)\/(i≠0/\uN (s.getD i 0)))->∀j,j<i+1->lowerB (s.getD j 0)\/(j≠0/\uN (s.getD j 0)):=fun hi h j hj=>by
  by_cases e:j=i
  ·subst e;exact h
  ·exact p2 j gA
 refine W1 ?_;refine S0 (fun hb h=>?_) fun hb h=>?_
 ·have hi:i<s.length:=gA
  have bad':¬(lowerB (s.getD i 0)\/(i≠0/\uN (s.getD i 0)))->validName s=false:=fun h=>bad fun x=>h (x i hi)
  have next:=next hi
  unfold lowerB uN at bad' next
  all_goals try(refine S0 (fun hb h=>?_) fun hb h=>?_)
  all_goals try(refine S0 (fun hb h=>?_) fun hb h=>?_)
  all_goals try(refine S0 (fun hb h=>?_) fun hb h=>?_)
  all_goals try(refine S0 (fun hb h=>?_) fun hb h=>?_)
  all_goals try(refine S0 (fun hb h=>?_) fun hb h=>?_)
  all_goals try(with_reducible refine qJ (fun hb=> ?_) (fun hb=> ?_)<;>have h:=hb<;>(try simp only[wf_preprocess] at h)<;>simp -implicitDefEqProofs (disch:=omega) only[go_sem,hb]<;>(repeat(with_reducible refine And.intro ?_ ?_;focus first|omega|rfl|assumption|exact⟨_,rfl,rfl⟩|(simp;omega)|(simp;done))))
  all_goals first
   |exact dH (i+1) gA rfl rfl ⟨gA,next gA⟩
   |exact aK (bad' gA).symm
 ·rw[show validName s=true from bK ⟨gA,hres,fun j hj=>p2 j gA⟩]
theorem ah3(s:List UInt8):aD prog 257 [.c (.d (.s s))] (.c (.d (.b (z8 s)))):=fun S=>by
 refine zcx [.tmp 2] func257 ntmps257 ?_;refine W1 ?_;refine S0 (fun hb h=>?_) fun hb h=>?_
 ·exact aK (bK (.inl h)).symm
 ·exact aK (by rw[kK];exact iJ ⟨fun x=>.inr x,fun x=>x.resolve_left h⟩)
theorem Y8(s:List UInt8):aD prog 228 [.c (.d (.s s))] (.c (.d (.b (z8 s)))):=fun S=>by
 refine zcx [.tmp 2] func228 ntmps228 ?_;refine W1 ?_;refine S0 (fun hb h=>?_) fun hb h=>?_
 ·exact aK (bK (.inl h)).symm
 ·exact aK (by rw[kK];exact iJ ⟨fun x=>.inr x,fun x=>x.resolve_left h⟩)
theorem yF{x:ak}{i:Nat}(hi:i<x.fArgs.length)(h:x.sz<=4194304):x.fArgs[i].sz<=4194304/\x.fArgs.length<=4194304/\x.fName.length<=4194304:=by
 have hx:x.fArgs[i].sz<=aS (x.fArgs.map ak.enc):=dM (be (ac hi));simp only[ak.sz,ak.aC,bX,D.sz,ab] at h;omega
theorem Io{x:ak}(h:x.sz<=4194304):x.fArgs.length<=4194304/\x.fName.length<=4194304:=by
 simp only[ak.sz,ak.aC,bX,D.sz,ab] at h;omega
theorem nS:∀{ts:List ak}{i:Nat}(hi:i<ts.length),ak.fq (ts.drop i)=ts[i].cnt+ak.fq (ts.drop (i+1)):=fun {ts} {i} hi=>by
 rw[cb hi,ak.fq]
theorem O3:∀{ts:List ak}{i:Nat}(hi:i<ts.length),depths (ts.drop i)=max (oC ts[i]+1) (depths (ts.drop (i+1))):=fun {ts} {i} hi=>by
 rw[cb hi,depths]
theorem Y9:∀{ts:List ak}{i:Nat}(hi:i<ts.length),jG (ts.drop i)=(formed ts[i]&&jG (ts.drop (i+1))):=fun {ts} {i} hi=>by
 rw[cb hi,jG]
theorem RL:∀n:Nat,∀x:ak,SizeOf.sizeOf x<n->∀l:Int,0<=l->l<=1073741824->x.sz<=4194304->aD prog 239 [x.v,.c (.d (.i .i64 l))] (.c (.d (.i .i64 (qb l x.cnt))))
 |0=>fun x h=>by omega
 |n+1=>by
  have ih:=RL n;intro x hn l h0 h1 hsz S;have kL:=ak.jF x;have hts:=Io hsz;have hcn:=ak.rW x;refine zcx [.tmp 4] func239 ntmps239 ?_;refine W1 ?_
  refine aZ (ι:=Nat×Int) zmx rfl [1,2,5] (fun y=>[.c (.d (.i .i64 y.2)),.c (.ptr (0,0) 0),.c (.d (.i .i64 y.1))]) (fun y=>[.box [.d (.i .i64 x.aN),.d (.s x.fName),.d (.sl (x.fArgs.map ak.enc))]]::S)
   (fun y=>y.1<=x.fArgs.length/\ -1<=y.2/\y.2<=1073741824/\(0<=y.2->qb l x.cnt=qb y.2 (ak.fq (x.fArgs.drop y.1)))/\(y.2<0->qb l x.cnt= -1)) (fun y=>x.fArgs.length-y.1) (0,l-1) rfl rfl ⟨an _,gC,gC,fun h=> ?_,fun h=> ?_⟩ ?_
  ·simp only[cN] at h ⊢;unfold qb;rw[hcn];split<;>split<;>omega
  ·simp only at h;exact Od gA
  rintro⟨i,c⟩ ⟨p1,p2,p3,p4,p5⟩;simp only at p1 p2 p3 p4 p5;refine W1 ?_;refine S0 (fun hb h=>?_) fun hb h=>?_
  ·have hi:i<x.fArgs.length:=gA
   refine S0 (fun hb h=>?_) fun hb h=>?_
   ·have hsz':=yF hi hsz;have p6:=p4 h;rw[nS hi] at p6;refine W3 ?_;refine C2 (ih x.fArgs[i] (by have:=bh (ac hi);omega) c gA gA gA) ?_;refine dH (i+1,qb c _) gC rfl rfl ⟨gC,?_,?_,fun h=> ?_,fun h=> ?_⟩
    ·simp only;unfold qb;split<;>omega
    ·simp only;unfold qb;split<;>omega
    ·simp only at h ⊢;rw[p6];have:=Oc (l:=c) (a:=x.fArgs[i].cnt) gA;rw[this.1];unfold qb;split<;>split<;>omega
    ·simp only at h ⊢;rw[p6];have:=Kz h;exact Od gA
   ·have hc:c= -1:=gA
    rw[p5 gA,hc]
  ·have hi:i=x.fArgs.length:=gA
   by_cases hc:0<=c
   ·rw[p4 hc,hi,cy,ak.fq,YW gA];exact int_eq gL
   ·rw[p5 gA];exact int_eq gA
theorem ah4(x:ak)(l:Int)(h0:0<=l)(h1:l<=1073741824)(hsz:x.sz<=4194304):aD prog 239 [x.v,.c (.d (.i .i64 l))] (.c (.d (.i .i64 (qb l x.cnt)))):=RL _ x (cg _) l h0 h1 hsz
theorem Za(a b:Int):aD prog 135 [.c (.d (.i .i64 a)),.c (.d (.i .i64 b))] (.c (.d (.i .i64 (max a b)))):=fun S=>by
 refine zcx [.tmp 4] func135 ntmps135 ?_;refine W1 ?_;refine S0 (fun hb h=>?_) fun hb h=>?_
 ·exact int_eq gA
 ·exact int_eq gA
theorem Ll:∀n:Nat,∀x:ak,SizeOf.sizeOf x<n->x.sz<=4194304->aD prog 240 [x.v] (.c (.d (.i .i64 (oC x))))
 |0=>fun x h=>by omega
 |n+1=>by
  have ih:=Ll n;intro x hn hsz S;have kL:=ak.jF x;have hts:=Io hsz;have hd1:=D6 x;have hd2:=nC x;refine zcx [.tmp 2] func240 ntmps240 ?_;refine W1 ?_
  refine aZ (ι:=Nat×Nat) zmx rfl [1,3,4] (fun y=>[.c (.ptr (0,0) 0),.c (.d (.i .i64 y.2)),.c (.d (.i .i64 y.1))]) (fun y=>[.box [.d (.i .i64 x.aN),.d (.s x.fName),.d (.sl (x.fArgs.map ak.enc))]]::S)
   (fun y=>y.1<=x.fArgs.length/\oC x=max y.2 (depths (x.fArgs.drop y.1))) (fun y=>x.fArgs.length-y.1) (0,0) rfl rfl ⟨an _,by simp[Vt]⟩ ?_
  rintro⟨i,c⟩ ⟨p1,p2⟩;simp only at p1 p2;refine W1 ?_;refine S0 (fun hb h=>?_) fun hb h=>?_
  ·have hi:i<x.fArgs.length:=gA
   have hsz':=yF hi hsz;rw[O3 hi] at p2;have hd3:=D6 x.fArgs[i];have hd4:=nC x.fArgs[i];refine W3 ?_;refine C2 (ih x.fArgs[i] (by have:=bh (ac hi);omega) gA) ?_;refine C2 (Za _ _) ?_;rw[show max (c:Int) (1+(oC x.fArgs[i]:Int))=((max c (1+oC x.fArgs[i]):Nat):Int) by omega];exact dH (i+1,max c (1+oC x.fArgs[i])) gC rfl rfl ⟨gC,gC⟩
  ·have hi:i=x.fArgs.length:=gA
   rw[hi,cy,depths] at p2;exact int_eq gA
theorem Zb(x:ak)(hsz:x.sz<=4194304):aD prog 240 [x.v] (.c (.d (.i .i64 (oC x)))):=Ll _ x (cg _) hsz
theorem Lm:∀n:Nat,∀x:ak,SizeOf.sizeOf x<n->x.sz<=4194304->aD prog 200 [x.v] (.c (.d (.i .i64 (oC x))))
 |0=>fun x h=>by omega
 |n+1=>by
  have ih:=Lm n;intro x hn hsz S;have kL:=ak.jF x;have hts:=Io hsz;have hd1:=D6 x;have hd2:=nC x;refine zcx [.tmp 2] func200 ntmps200 ?_;refine W1 ?_
  refine aZ (ι:=Nat×Nat) zmx rfl [3,7,8,9] (fun y=>[.c (.d (.i .i64 y.2)),.c (.d (.sl (x.fArgs.map ak.enc))),.c (.d (.i .i64 x.fArgs.length)),.c (.d (.i .i64 y.1))]) (fun y=>[.box [.d (.i .i64 x.aN),.d (.s x.fName),.d (.sl (x.fArgs.map ak.enc))]]::S)
   (fun y=>y.1<=x.fArgs.length/\oC x=max y.2 (depths (x.fArgs.drop y.1))) (fun y=>x.fArgs.length-y.1) (0,0) rfl rfl ⟨an _,by simp[Vt]⟩ ?_
  rintro⟨i,c⟩ ⟨p1,p2⟩;simp only at p1 p2;refine W1 ?_;refine S0 (fun hb h=>?_) fun hb h=>?_
  ·have hi:i<x.fArgs.length:=gA
   have hsz':=yF hi hsz;rw[O3 hi] at p2;have hd3:=D6 x.fArgs[i];have hd4:=nC x.fArgs[i];refine W3 ?_;refine C2 (ih x.fArgs[i] (by have:=bh (ac hi);omega) gA) ?_;rw[show max (c:Int) ((oC x.fArgs[i]:Int)+1)=((max c (oC x.fArgs[i]+1):Nat):Int) by omega];exact bR 1 gE (i+1,max c (oC x.fArgs[i]+1)) gC rfl rfl rfl rfl ⟨gC,gC⟩
  ·have hi:i=x.fArgs.length:=gA
   rw[hi,cy,depths] at p2;exact int_eq gA
theorem Zc(x:ak)(hsz:x.sz<=4194304):aD prog 200 [x.v] (.c (.d (.i .i64 (oC x)))):=Lm _ x (cg _) hsz
theorem MC:∀n:Nat,∀x:ak,SizeOf.sizeOf x<n->x.sz<=4194304->aD prog 201 [x.v] (.c (.d (.i .i64 x.cnt)))
 |0=>fun x h=>by omega
 |n+1=>by
  have ih:=MC n;intro x hn hsz S;have kL:=ak.jF x;have hts:=Io hsz;have hd2:=nC x;refine zcx [.tmp 2] func201 ntmps201 ?_;refine W1 ?_
  refine aZ (ι:=Nat×Nat) zmx rfl [3,7,8,9] (fun y=>[.c (.d (.i .i64 y.2)),.c (.d (.sl (x.fArgs.map ak.enc))),.c (.d (.i .i64 x.fArgs.length)),.c (.d (.i .i64 y.1))]) (fun y=>[.box [.d (.i .i64 x.aN),.d (.s x.fName),.d (.sl (x.fArgs.map ak.enc))]]::S)
   (fun y=>y.1<=x.fArgs.length/\x.cnt=y.2+ak.fq (x.fArgs.drop y.1)) (fun y=>x.fArgs.length-y.1) (0,1) rfl rfl ⟨an _,by simp[ak.rW]⟩ ?_
  rintro⟨i,c⟩ ⟨p1,p2⟩;simp only at p1 p2;refine W1 ?_;refine S0 (fun hb h=>?_) fun hb h=>?_
  ·have hi:i<x.fArgs.length:=gA
   have hsz':=yF hi hsz;rw[nS hi] at p2;refine W3 ?_;refine C2 (ih x.fArgs[i] (by have:=bh (ac hi);omega) gA) ?_;rw[show(c:Int)+(x.fArgs[i].cnt:Int)=((c+x.fArgs[i].cnt:Nat):Int) by omega];exact bR 1 gE (i+1,c+x.fArgs[i].cnt) gC rfl rfl rfl rfl ⟨gC,gC⟩
  ·have hi:i=x.fArgs.length:=gA
   rw[hi,cy,ak.fq] at p2;exact int_eq gA
theorem abE(x:ak)(hsz:x.sz<=4194304):aD prog 201 [x.v] (.c (.d (.i .i64 x.cnt))):=MC _ x (cg _) hsz
theorem ME:∀n:Nat,(∀x:ak,SizeOf.sizeOf x<n->x.sz<=4194304->aD prog 199 [x.v] (.c (.d (.b (formed x)))))/\
 (∀xs:List ak,SizeOf.sizeOf xs<n->xs.length<=4194304->(∀t∈xs,t.sz<=4194304)->aD prog 157 [.c (.d (.sl (xs.map ak.enc))),.c (.fn 229 [])] (.c (.d (.b (!jG xs)))))
 |0=>⟨fun x h=>gA,fun x h=>gA⟩
 |n+1=>by
  obtain⟨ih,qm⟩:=ME n;refine⟨fun x hn hsz S=> ?_,fun xs hn hlen hsz S=> ?_⟩
  ·have kL:=ak.jF x;have hts:=Io hsz
   have fin:∀b,Fx x.aN x.fName x.fArgs.length=b->formed x=(b&&jG x.fArgs):=fun b hb=>by rw[<-hb];exact Az x
   have hall:∀t∈x.fArgs,t.sz<=4194304:=fun t ht=>by
    obtain⟨i,hi,e⟩:=ci ht;rw[<-e];exact(yF hi hsz).1
   have tail:=qm x.fArgs gA hts.1 hall
   have yes:Fx x.aN x.fName x.fArgs.length=true->formed x= !(!jG x.fArgs):=fun h=>by rw[fin _ h];simp
   have no:Fx x.aN x.fName x.fArgs.length=false->formed x=false:=fun h=>by rw[fin _ h];simp
   have shut:¬((x.aN=1\/x.aN=4)/\validName x.fName=true/\x.fArgs.length=0\/x.aN=3/\validName x.fName=true/\x.fArgs.length=1\/x.aN=2/\(validName x.fName=true/\x.fArgs.length<=3\/z8 x.fName=true/\x.fArgs.length=0))->V.c (.d (.b false))=V.c (.d (.b (formed x))):=fun h=>aK (no (aO h)).symm;have open_:((x.aN=1\/x.aN=4)/\validName x.fName=true/\x.fArgs.length=0\/x.aN=3/\validName x.fName=true/\x.fArgs.length=1\/x.aN=2/\(validName x.fName=true/\x.fArgs.length<=3\/z8 x.fName=true/\x.fArgs.length=0))->V.c (.d (.b (!(!jG x.fArgs))))=V.c (.d (.b (formed x))):=fun h=>aK (yes (bK h)).symm;clear yes no fin;refine zcx [.tmp 2] func199 ntmps199 ?_;refine W1 ?_
   repeat' (first
    |(refine S0 (fun hb h=>?_) fun hb h=>?_)
    |(refine bn (iU x.fName gA) ?_;refine W1 ?_)
    |(refine bn (Y8 x.fName) ?_;refine W1 ?_)
    |(refine bn tail ?_;refine W1 ?_))
   all_goals first
    |(refine shut (fun y=> ?_);rcases y with⟨_,_,_⟩|⟨_,_,_⟩|⟨_,⟨_,_⟩|⟨_,_⟩⟩<;>first|omega|(simp_all;done))
    |(refine open_ ?_;first
       |exact .inl ⟨gA,by assumption,gA⟩
       |exact .inr (.inl ⟨gA,by assumption,gA⟩)
       |exact .inr (.inr ⟨gA,.inl ⟨by assumption,gA⟩⟩)
       |exact .inr (.inr ⟨gA,.inr ⟨by assumption,gA⟩⟩))
  ·have hcl:∀y∈xs,aD prog 229 [y.v] (.c (.d (.b (!formed y)))):=fun y hy S=>by
    have hys:=bh hy;refine zcx [.tmp 2] func229 ntmps229 ?_;refine W1 ?_;exact C4 (ih y gA (hsz y hy))
   have hidx:aD prog 198 [.c (.d (.sl (xs.map ak.enc))),.c (.fn 229 [])] (.c (.d (.i .i64 (vP (fun y=> !formed y) xs)))):=fun S=>by
    refine zcx [.tmp 4] func198 ntmps198 ?_;refine W1 ?_
    refine aZ (ι:=Nat) zmx rfl [0,1,7,8] (fun i=>[.c (.d (.sl (xs.map ak.enc))),.c (.fn 229 []),.c (.d (.i .i64 xs.length)),.c (.d (.i .i64 i))]) (fun _=>[]::S)
     (fun i=>i<=xs.length/\∀j,∀hj:j<xs.length,j<i->formed xs[j]=true) (fun i=>xs.length-i) 0 rfl rfl ⟨an _,fun j _ h=>gA⟩ ?_
    rintro i ⟨p1,p2⟩;refine W1 ?_;refine S0 (fun hb h=>?_) fun hb h=>?_
    ·have hi:i<xs.length:=gA
     refine W3 ?_;refine C2 (hcl xs[i] (ac hi)) ?_;refine S0 (fun hb h=>?_) fun hb h=>?_
     ·rw[uZ hi (fun j hj hji=>by rw[p2 j hj hji];rfl) (by rw[h];rfl)]
     ·refine dH (i+1) gA rfl rfl ⟨gA,fun j hj hji=> ?_⟩;by_cases e:j=i
      ·subst e;exact h
      ·exact p2 j hj gA
    ·rw[yE (fun j hj=>by rw[p2 j hj gA];rfl)]
   refine zcx [.tmp 4] func157 ntmps157 ?_;refine W1 ?_;refine C2 (hidx) ?_;rw[<-O1];exact aK wN
theorem abF(x:ak)(hsz:x.sz<=4194304):aD prog 199 [x.v] (.c (.d (.b (formed x)))):=(ME _).1 x (cg _) hsz
theorem Aa(x:ak)(hsz:x.sz<=4194304):aD prog 159 [x.v] (.c (.d (.b (pq x)))):=fun S=>by
 refine zcx [.tmp 2] func159 ntmps159 ?_;refine W1 ?_;refine C2 (abF x hsz) ?_;refine S0 (fun hb h=>?_) fun hb h=>?_
 ·have h1:=h;refine C2 (Zc x hsz) ?_;refine S0 (fun hb h=>?_) fun hb h=>?_
  ·refine C2 (abE x hsz) ?_;exact aK (by rw[kK];exact iJ ⟨fun y=>⟨h1,gA,gA⟩,fun y=>by have:=y.2.2;omega⟩)
  ·exact aK (aO fun y=>by have:=y.2.1;omega).symm
 ·exact aK (aO fun y=>by rw[y.1] at h;cases h).symm
theorem RN:∀n:Nat,∀x:ak,SizeOf.sizeOf x<n->x.sz<=4194304->aD prog 241 [x.v] (.c (.d (.b (formed x))))
 |0=>fun x h=>by omega
 |n+1=>by
  have ih:=RN n;intro x hn hsz S;have kL:=ak.jF x;have hts:=Io hsz;have shut:¬((x.aN=1\/x.aN=4)/\validName x.fName=true/\x.fArgs.length=0\/x.aN=3/\validName x.fName=true/\x.fArgs.length=1\/x.aN=2/\(validName x.fName=true/\x.fArgs.length<=3\/z8 x.fName=true/\x.fArgs.length=0))->V.c (.d (.b false))=V.c (.d (.b (formed x))):=fun h=>aK (by rw[Az,show Fx x.aN x.fName x.fArgs.length=false from aO h];rfl)
  have atv:∀b:Bool,(b=true<->((x.aN=1\/x.aN=4)/\validName x.fName=true/\x.fArgs.length=0\/x.aN=3/\validName x.fName=true/\x.fArgs.length=1\/x.aN=2/\(validName x.fName=true/\x.fArgs.length<=3\/z8 x.fName=true/\x.fArgs.length=0)))->b=Fx x.aN x.fName x.fArgs.length:=fun b h=>by
   rw[fw,h];unfold Fx;rw[Dk]
  refine zcx [.tmp 2] func241 ntmps241 ?_;refine W1 ?_;refine C2 (iV x.fName gA) ?_
  repeat' (first
   |(refine S0 (fun hb h=>?_) fun hb h=>?_)
   |(refine bn (ah3 x.fName) ?_;refine W1 ?_))
  all_goals first
   |(refine shut (fun y=> ?_);rcases y with⟨_,_,_⟩|⟨_,_,_⟩|⟨_,⟨_,_⟩|⟨_,_⟩⟩<;>first|omega|(simp_all;done))
   |skip
  all_goals
   refine aZ (ι:=Nat×Bool) zmx rfl [1,3,4] (fun y=>[.c (.ptr (0,0) 0),.c (.d (.b y.2)),.c (.d (.i .i64 y.1))]) (fun y=>[.box [.d (.i .i64 x.aN),.d (.s x.fName),.d (.sl (x.fArgs.map ak.enc))]]::S)
    (fun y=>y.1<=x.fArgs.length/\(y.2&&jG (x.fArgs.drop y.1))=formed x) (fun y=>x.fArgs.length-y.1) (0,Fx x.aN x.fName x.fArgs.length) ?_ rfl ⟨an _,by rw[Az];rfl⟩ ?_
   ·simp only[af,aw];simp -implicitDefEqProofs (disch:=omega) only[go_sem,eK,V.c.injEq,C.d.injEq,D.b.injEq,Int.natCast_zero];refine atv _ ⟨fun y=> ?_,fun y=> ?_⟩
    ·(try simp only[decide_eq_true_eq,cP] at y)<;>first
       |exact .inl ⟨gA,by assumption,gA⟩
       |exact .inr (.inl ⟨gA,by assumption,gA⟩)
       |exact .inr (.inr ⟨gA,.inl ⟨by assumption,gA⟩⟩)
       |exact .inr (.inr ⟨gA,.inr ⟨by assumption,gA⟩⟩)
    ·rcases y with⟨_,_,_⟩|⟨_,_,_⟩|⟨_,⟨_,_⟩|⟨_,_⟩⟩<;>first|omega|(simp only[decide_eq_true_eq];omega)|(simp_all;done)
   rintro⟨i,c⟩ ⟨p1,p2⟩;simp only at p1 p2;refine W1 ?_;refine S0 (fun hb h=>?_) fun hb h=>?_
   ·have hi:i<x.fArgs.length:=gA
    have hsz':=yF hi hsz;rw[Y9 hi] at p2;refine S0 (fun hb h=>?_) fun hb h=>?_
    ·refine C1 (ih x.fArgs[i] (by have:=bh (ac hi);omega) gA) ?_;exact dH (i+1,formed x.fArgs[i]) gC rfl rfl ⟨gC,by rw[<-p2,h];rfl⟩
    ·exact dH (i+1,false) gC rfl rfl ⟨gC,by rw[<-p2,h];rfl⟩
   ·have hi:i=x.fArgs.length:=gA
    rw[hi,cy,jG,cD] at p2;rw[p2]
theorem ah5(x:ak)(hsz:x.sz<=4194304):aD prog 241 [x.v] (.c (.d (.b (formed x)))):=RN _ x (cg _) hsz
theorem Ac(x:ak)(hsz:x.sz<=4194304):aD prog 209 [x.v] (.c (.d (.b (pq x)))):=fun S=>by
 refine zcx [.tmp 2] func209 ntmps209 ?_;refine W1 ?_;refine C2 (ah4 x 60 gA gA hsz) ?_;refine S0 (fun hb h=>?_) fun hb h=>?_
 ·have h1:=(Oc (l:=60) (a:=x.cnt) gA).2;refine C2 (Zb x hsz) ?_;refine S0 (fun hb h=>?_) fun hb h=>?_
  ·refine C2 (ah5 x hsz) ?_;refine aK ?_
   cases hf:formed x with
   |false=>exact(aO fun y=>by rw[hf] at y;cases y.1).symm
   |true=>exact(bK ⟨hf,gA,gA⟩).symm
  ·exact aK (aO fun y=>by have:=y.2.1;omega).symm
 ·have h1:=Kz (l:=60) (a:=x.cnt) gA;exact aK (aO fun y=>by have:=y.2.2;omega).symm
theorem OD(x:bQ)(hn:x.bO.length<=1073741824)(hsz:x.fType.sz<=4194304):aD prog 210 [x.v] (.c (.d (.b (validName x.bO&&pq x.fType)))):=fun S=>by
 refine zcx [.tmp 2] func210 ntmps210 ?_;refine W1 ?_;refine C2 (iV x.bO hn) ?_;refine S0 (fun hb h=>?_) fun hb h=>?_
 ·exact C4 (Ac x.fType hsz)
 ·rfl
theorem OE(x:bQ)(hn:x.bO.length<=1073741824)(hsz:x.fType.sz<=4194304):aD prog 166 [x.v] (.c (.d (.b (validName x.bO&&pq x.fType)))):=fun S=>by
 refine zcx [.tmp 2] func166 ntmps166 ?_;refine W1 ?_;refine C2 (iU x.bO hn) ?_;refine S0 (fun hb h=>?_) fun hb h=>?_
 ·exact C4 (Aa x.fType hsz)
 ·rfl
mutual
def rY:ak->List ak
 | .mk k n a=>.mk k n a::qK a
def qK:List ak->List ak
 |[]=>[]
 |t::ts=>rY t++qK ts
end
theorem D7(t:ak):rY t=t::qK t.fArgs:=by cases t;rw[rY];rfl
theorem Dn{ts:List ak}{i:Nat}(hi:i<ts.length):qK (ts.drop i)=rY ts[i]++qK (ts.drop (i+1)):=by rw[cb hi,qK]
mutual
theorem MF:∀t:ak,(rY t).length=t.cnt
 | .mk k n a=>by rw[rY,aa,ak.cnt,RO a];omega
theorem RO:∀ts:List ak,(qK ts).length=ak.fq ts
 |[]=>rfl
 |t::ts=>by rw[qK,ae,ak.fq,MF t,RO ts]
end
def xS(out:List (List UInt8))(u:ak):List (List UInt8):=if u.aN=1/\u.fName∉out then out++[u.fName] else out
def jX(out:List (List UInt8))(t:ak):List (List UInt8):=(rY t).foldl xS out
def wZ(out:List (List UInt8))(ts:List ak):List (List UInt8):=(qK ts).foldl xS out
theorem P6(out:List (List UInt8))(u:ak):(xS out u).length<=out.length+1:=by
 unfold xS
 split<;>simp
theorem Vw:∀(us:List ak)(out:List (List UInt8)),(us.foldl xS out).length<=out.length+us.length
 |[],out=>by simp
 |u::us,out=>by
  have h1:=P6 out u;have h2:=Vw us (xS out u);rw[fi,aa];omega
theorem D8(t:ak)(out:List (List UInt8)):(jX out t).length<=out.length+t.cnt:=by
 have:=Vw (rY t) out;rw[MF] at this;exact this
theorem alD(out:List (List UInt8))(t:ak):jX out t=wZ (xS out t) t.fArgs:=by
 unfold jX wZ;rw[D7,fi]
theorem O4{ts:List ak}{i:Nat}(hi:i<ts.length)(out:List (List UInt8)):wZ out (ts.drop i)=wZ (jX out ts[i]) (ts.drop (i+1)):=by
 unfold wZ jX;rw[Dn hi,List.foldl_append]
def uq(t:ak):Bool:=(rY t).any fun u=>decide (u.aN=3)
def yG(ts:List ak):Bool:=(qK ts).any fun u=>decide (u.aN=3)
theorem KG(t:ak):uq t=(decide (t.aN=3)||yG t.fArgs):=by
 unfold uq yG;rw[D7,gg]
theorem WV{ts:List ak}{i:Nat}(hi:i<ts.length):yG (ts.drop i)=(uq ts[i]||yG (ts.drop (i+1))):=by
 unfold yG uq;rw[Dn hi,List.any_append]
theorem Zd(us:List ak):∀b:Bool,us.foldl (fun b u=>b||decide (u.aN=3)) b=(b||us.any fun u=>decide (u.aN=3)):=by
 induction us with
 |nil=>intro b;simp
 |cons u us ih=>intro b;rw[fi,ih,gg,Bool.or_assoc]
def RP(v:List UInt8)(u:ak):Bool:=decide (u.aN=1/\u.fName=v)
def tQ(v:List UInt8)(t:ak):Nat:=(rY t).countP (RP v)
def zk(v:List UInt8)(ts:List ak):Nat:=(qK ts).countP (RP v)
theorem ah6(v:List UInt8)(t:ak):tQ v t=(if RP v t then 1 else 0)+zk v t.fArgs:=by
 unfold tQ zk;rw[D7,List.countP_cons];omega
theorem Ze{v:List UInt8}{ts:List ak}{i:Nat}(hi:i<ts.length):zk v (ts.drop i)=tQ v ts[i]+zk v (ts.drop (i+1)):=by
 unfold zk tQ;rw[Dn hi,List.countP_append]
theorem ah7(v:List UInt8)(t:ak):tQ v t<=t.cnt:=by
 unfold tQ;rw[<-MF];exact List.countP_le_length
def occurs(v:List UInt8)(t:ak):Bool:=decide (0<tQ v t)
theorem FU{x:ak}{i:Nat}(hi:i<x.fArgs.length)(h:x.sz<=4194304):x.fArgs[i].sz<=4194304/\x.fArgs.length<=4194304/\x.fName.length<=4194304:=by
 have hx:x.fArgs[i].sz<=aS (x.fArgs.map ak.enc):=dM (be (ac hi));simp only[ak.sz,ak.aC,bX,D.sz,ab] at h;omega
theorem MG{x:ak}(h:x.sz<=4194304):x.fArgs.length<=4194304/\x.fName.length<=4194304:=by
 simp only[ak.sz,ak.aC,bX,D.sz,ab] at h;omega
theorem MH:∀n:Nat,∀t:ak,SizeOf.sizeOf t<n->t.sz<=4194304->∀(g:Nat)(caps:List (Key×Nat))(α:Type)(st:α->Store)(I:Nat->α->Prop)(f:α->ak->α)(hf:Kw prog g caps st I f ak.v (fun u=>u.sz<=4194304))(m:Nat)(a:α),I (m+t.cnt) a->
 I m ((rY t).foldl f a)/\bS prog 160 [t.v,.c (.fn g caps)] (st a) (fun r S'=>r=.eu []/\S'=st ((rY t).foldl f a))
 |0=>fun t h=>by omega
 |n+1=>by
  have ih:=MH n;intro t hn hsz g caps α st I f hf m a ha;have kL:=ak.jF t;have hts:=MG hsz;rw[ak.rW,show m+(1+ak.fq t.fArgs)=(m+ak.fq t.fArgs)+1 by omega] at ha;have h1:=hf _ a t ha hsz
  have hI:∀(ts:List ak),SizeOf.sizeOf ts<n->(∀x∈ts,x.sz<=4194304)->∀a,I (m+ak.fq ts) a->I m ((qK ts).foldl f a):=by
   intro ts
   induction ts with
   |nil=>intro _ _ a ha;exact ha
   |cons x xs ihx=>
    intro hs hz a ha;simp only[fS] at hs;rw[qK,List.foldl_append];rw[ak.fq,show m+(x.cnt+ak.fq xs)=(m+ak.fq xs)+x.cnt by omega] at ha;exact ihx gA (fun y hy=>hz y (by simp[hy])) _ (ih x gA (hz x gL) g caps α st I f hf _ a ha).1
  have hall:∀x∈t.fArgs,x.sz<=4194304:=fun x hx=>by
   obtain⟨i,hi,e⟩:=ci hx;rw[<-e];exact(FU hi hsz).1
  refine⟨by rw[D7,fi];exact hI t.fArgs gA hall _ h1.1,?_⟩;refine zcx [] func160 ntmps160 ?_;refine W1 ?_;refine bD rfl (h1.2 [_]) ?_;refine W1 ?_
  refine aZ (ι:=Nat×α) zmx rfl [1,10,11,12] (fun y=>[.c (.fn g (kC 1 caps)),.c (.d (.sl (t.fArgs.map ak.enc))),.c (.d (.i .i64 t.fArgs.length)),.c (.d (.i .i64 y.1))]) (fun y=>[.box [.d (.i .i64 t.aN),.d (.s t.fName),.d (.sl (t.fArgs.map ak.enc))]]::st y.2)
   (fun y=>y.1<=t.fArgs.length/\I (m+ak.fq (t.fArgs.drop y.1)) y.2/\(qK (t.fArgs.drop y.1)).foldl f y.2=(rY t).foldl f a) (fun y=>t.fArgs.length-y.1) (0,f a t) rfl rfl ⟨an _,h1.1,by rw[D7,fi];rfl⟩ ?_
  rintro⟨i,b⟩ ⟨p1,p2,p3⟩;simp only at p1 p2 p3;refine W1 ?_;refine S0 (fun hb h=>?_) fun hb h=>?_
  ·have hi:i<t.fArgs.length:=gA
   have hs:=bh (ac hi);rw[Dn hi,List.foldl_append] at p3;rw[cb hi,ak.fq,show m+(t.fArgs[i].cnt+ak.fq (t.fArgs.drop (i+1)))=(m+ak.fq (t.fArgs.drop (i+1)))+t.fArgs[i].cnt by omega] at p2;have h2:=(ih t.fArgs[i] gA (FU hi hsz).1 g caps α st I f hf _ b p2).1;refine W3 ?_;refine bD rfl (((ih t.fArgs[i] gA (FU hi hsz).1 g (kC 1 caps) α (fun a=>[.box [.d (.i .i64 t.aN),.d (.s t.fName),.d (.sl (t.fArgs.map ak.enc))],.box [.d (.i .i64 t.fArgs[i].aN),.d (.s t.fArgs[i].fName),.d (.sl (t.fArgs[i].fArgs.map ak.enc))]]::st a) I f (hf.push _) _ b p2)).2) ?_;refine W1 ?_;exact bR 1 gE (i+1,(rY t.fArgs[i]).foldl f b) gC rfl rfl (by simp only[iy,jh,dv,eN,V.refs,C.refs,YP,cD]) rfl ⟨gC,h2,p3⟩
  ·have hi:i=t.fArgs.length:=gA
   rw[hi,cy,qK,List.foldl_nil] at p3;rw[p3]
theorem O5{t:ak}(hsz:t.sz<=4194304){g:Nat}{caps:List (Key×Nat)}{α:Type}{st:α->Store}{I:Nat->α->Prop}{f:α->ak->α}(hf:Kw prog g caps st I f ak.v (fun u=>u.sz<=4194304))(m:Nat)(a:α)(ha:I (m+t.cnt) a):
 I m ((rY t).foldl f a)/\bS prog 160 [t.v,.c (.fn g caps)] (st a) (fun r S'=>r=.eu []/\S'=st ((rY t).foldl f a)):=MH _ t (cg _) hsz g caps α st I f hf m a ha
theorem OG(rest:List Ab.Obj)(S:Store):Kw prog 202 [((0,0),0)] (fun out:List (List UInt8)=>(.box [.bJ (0,1) (out.map encS)]:: .tok 1 (out.map encS)::rest)::S) (fun n out=>out.length+n<=1073741824) xS ak.v (fun u=>u.sz<=4194304):=by
 intro n out u hI hu;refine⟨by have:=P6 out u;omega,fun F=> ?_⟩;have hts:=MG hu;refine zcx [] func202 ntmps202 ?_;refine W1 ?_;refine S0 (fun hb h=>?_) fun hb h=>?_
 ·have h1:=h;refine C2 (tO out u.fName gA) ?_;refine S0 (fun hb h=>?_) fun hb h=>?_
  ·refine W3 ?_;have ha:xS out u=out++[u.fName]:=if_pos ⟨h1,h⟩;rw[ha];simp[encS]
  ·have ha:xS out u=out:=if_neg fun x=>x.2 h;rw[ha]
 ·have ha:xS out u=out:=if_neg fun x=>h x.1;rw[ha]
theorem Ur(ts:List ak)(hl:ts.length<=4194304)(hz:∀t∈ts,t.sz<=4194304)(hc:ak.fq ts<=1073741823):aD prog 163 [.c (.d (.sl (ts.map ak.enc)))] (.c (.d (.sl ((wZ [] ts).map encS)))):=fun S=>by
 refine zcx [.tmp 2] func163 ntmps163 ?_;refine W1 ?_;refine W3 ?_;refine uI 0 0 1 [] [.bH []] rfl rfl gL ?_
 refine aZ (ι:=Nat×List (List UInt8)) zmx rfl [3,7,8,9] (fun y=>[.c (.ptr (0,0) 0),.c (.d (.sl (ts.map ak.enc))),.c (.d (.i .i64 ts.length)),.c (.d (.i .i64 y.1))]) (fun y=>[.box [.bJ (0,1) (y.2.map encS)],.tok 1 (y.2.map encS)]::S)
  (fun y=>y.1<=ts.length/\y.2.length+ak.fq (ts.drop y.1)<=1073741824/\wZ y.2 (ts.drop y.1)=wZ [] ts) (fun y=>ts.length-y.1) (0,[]) rfl rfl ⟨an _,by simp only[cN,al];omega,rfl⟩ ?_
 rintro⟨i,out⟩ ⟨p1,p2,p3⟩;simp only at p1 p2 p3;refine W1 ?_;refine S0 (fun hb h=>?_) fun hb h=>?_
 ·have hi:i<ts.length:=gA
  rw[O4 hi] at p3;rw[cb hi,ak.fq] at p2;have hlen:=D8 ts[i] out;refine W3 ?_;refine bD rfl (O5 (hz _ (ac hi)) (OG [Ab.Obj.box [.d (.i .i64 ts[i].aN),.d (.s ts[i].fName),.d (.sl (ts[i].fArgs.map ak.enc))]] S) (ak.fq (ts.drop (i+1))) out gA).2 ?_;refine W1 ?_;exact bR 2 gE (i+1,jX out ts[i]) gC rfl rfl rfl rfl ⟨gC,gC,p3⟩
 ·have hi:i=ts.length:=gA
  rw[hi,cy] at p3;rw[<-p3];rfl
theorem BH(t:ak)(hsz:t.sz<=4194304):aD prog 99 [t.v] (.c (.d (.sl ((jX [] t).map encS)))):=fun S=>by
 have hc:=nC t;have h0:=Ur [t] gL (by simpa using hsz) (by simp[ak.fq];omega);simp only[af,aw,ak.aC] at h0;refine zcx [.tmp 2] func99 ntmps99 ?_;refine W1 ?_;refine W3 ?_;refine bn h0 ?_;refine W1 ?_;rw[show wZ [] [t]=jX [] t by simp[wZ,jX,qK]]
theorem RQ:∀n:Nat,∀t:ak,SizeOf.sizeOf t<n->t.sz<=4194304->∀(out:List (List UInt8))(l j:Nat)(S:Store),bC S (l,j)=some (.tok 1 (out.map encS))->out.length+t.cnt<=1073741824->
 bS prog 238 [t.v,.c (.bJ (l,j) (out.map encS))] S (fun r S'=>r=.c (.bJ (l,j) ((jX out t).map encS))/\S'=bA S (l,j) (.tok 1 ((jX out t).map encS)))
 |0=>fun t h=>by omega
 |n+1=>by
  have ih:=RQ n;intro t hn hsz out l j S hk hc;have kL:=ak.jF t;have hts:=MG hsz;have hcn:=ak.rW t;have RU:∀x:Ab.Obj,bC (bA S (l,j) x) (l,j)=some x:=fun x=>dA _ _ _ _ hk;have hS0:bA S (l,j) (.tok 1 (out.map encS))=S:=DX _ _ hk;have fin:jX out t=wZ (xS out t) t.fArgs:=alD out t;have hal:=P6 out t
  have e0:(out++[t.fName]).map encS=out.map encS++[[D.s t.fName]]:=by simp[encS]
  refine zcx [.tmp 4] func238 ntmps238 ?_;refine zA ?_
  repeat' (first
   |(refine S0k (fun hb h=>?_) fun hb h=>?_)
   |(refine bn (tL out t.fName gA) ?_;refine zA ?_;refine W3 ?_))
  all_goals first
   |(have ha:xS out t=out++[t.fName]:=if_pos ⟨by assumption,by assumption⟩)
   |(have ha:xS out t=out:=if_neg (fun x=>by have:=x.1;have:=x.2;contradiction))
  all_goals
   refine aZ (ι:=Nat×List (List UInt8)) zmx rfl [1,2,5] (fun y=>[.c (.bJ (1+l,j) (y.2.map encS)),.c (.ptr (0,0) 0),.c (.d (.i .i64 y.1))]) (fun y=>[.box [.d (.i .i64 t.aN),.d (.s t.fName),.d (.sl (t.fArgs.map ak.enc))]]::bA S (l,j) (.tok 1 (y.2.map encS)))
    (fun y=>y.1<=t.fArgs.length/\y.2.length+ak.fq (t.fArgs.drop y.1)<=1073741824/\wZ y.2 (t.fArgs.drop y.1)=jX out t) (fun y=>t.fArgs.length-y.1) (0,xS out t) (by first|(rw[ha,e0];rfl)|(rw[ha];rfl)) (by first|(simp only[ha,e0];done)|(simp only[ha,hS0];done)) ⟨an _,by simp only[cN];omega,by rw[fin];rfl⟩ ?_
   rintro⟨i,b⟩ ⟨p1,p2,p3⟩;simp only at p1 p2 p3;refine W1 ?_;refine S0 (fun hb h=>?_) fun hb h=>?_
   ·have hi:i<t.fArgs.length:=gA
    have hs:=bh (ac hi);rw[O4 hi] at p3;rw[cb hi,ak.fq] at p2;have hlen:=D8 t.fArgs[i] b;refine W3 ?_;refine bD rfl (ih t.fArgs[i] gA (FU hi hsz).1 b (1+l) j _ (by rw[aW];exact RU _) gA) ?_;simp -implicitDefEqProofs (disch:=omega) only[go_sem,cu];exact dH (i+1,jX b t.fArgs[i]) gC rfl rfl ⟨gC,gC,p3⟩
   ·have hi:i=t.fArgs.length:=gA
    rw[hi,cy] at p3;rw[<-p3];exact⟨rfl,rfl⟩
theorem RV(t:ak)(hsz:t.sz<=4194304):aD prog 208 [t.v] (.c (.d (.sl ((jX [] t).map encS)))):=fun S=>by
 have hc:=nC t
 have h0:∀S,bS prog 238 [t.v,.c (.bH [])] S (fun r S'=>r=.c (.d (.sl ((jX [] t).map encS)))/\S'=S):=fun S=>by
  refine bS.ak5 1 (es:=[]) (bB:=1) rfl gL (RQ _ t (cg _) hsz [] 0 0 ([.tok 1 []]::S) rfl gR) ?_;rintro r fr S' ⟨rfl,h2⟩;injection h2 with h2 h3;exact⟨_,rfl,rfl,h3⟩
 refine zcx [.tmp 2] func208 ntmps208 ?_;refine W1 ?_;refine W3 ?_;refine dX [true,true] rfl (h0 _) ?_;exact Z1
theorem Ip:∀n:Nat,∀t:ak,SizeOf.sizeOf t<n->t.sz<=4194304->aD prog 174 [t.v] (.c (.d (.b (uq t))))
 |0=>fun t h=>by omega
 |n+1=>by
  have ih:=Ip n;intro t hn hsz S;have kL:=ak.jF t;have hts:=MG hsz;refine zcx [.tmp 2] func174 ntmps174 ?_;refine W1 ?_
  refine aZ (ι:=Nat) zmx rfl [1,3] (fun i=>[.c (.ptr (0,0) 0),.c (.d (.i .i64 i))]) (fun _=>[.box [.d (.i .i64 t.aN),.d (.s t.fName),.d (.sl (t.fArgs.map ak.enc))]]::S)
   (fun i=>i<=t.fArgs.length/\yG (t.fArgs.drop i)=yG t.fArgs) (fun i=>t.fArgs.length-i) 0 rfl rfl ⟨an _,rfl⟩ ?_
  rintro i ⟨p1,p2⟩;refine W1 ?_;refine S0 (fun hb h=>?_) fun hb h=>?_
  ·have hi:i<t.fArgs.length:=gA
   rw[WV hi] at p2;refine W3 ?_;refine C2 (ih t.fArgs[i] (by have:=bh (ac hi);omega) (FU hi hsz).1) ?_;refine S0 (fun hb h=>?_) fun hb h=>?_
   ·rw[KG,<-p2,h];simp
   ·exact dH (i+1) gA rfl rfl ⟨gA,by rw[<-p2,h];rfl⟩
  ·have hi:i=t.fArgs.length:=gA
   rw[hi,cy] at p2;rw[KG,<-p2];exact aK (by simp[yG,qK])
theorem JH(t:ak)(hsz:t.sz<=4194304):aD prog 174 [t.v] (.c (.d (.b (uq t)))):=Ip _ t (cg _) hsz
theorem WW(rest:List Ab.Obj)(cs:List C)(S:Store):Kw prog 161 [((0,1),0)] (fun b:Bool=>(.box cs:: .box [.d (.b b)]::rest)::S) (fun _ _=>True) (fun b u=>b||decide (u.aN=3)) ak.v (fun u=>u.sz<=4194304):=by
 intro n b u _ hu;refine⟨trivial,fun F=> ?_⟩;refine zcx [] func161 ntmps161 ?_;refine W1 ?_
 cases b with
 |true=>
  refine W1 ?_;rfl
 |false=>
  refine W1 ?_;rfl
theorem JI(t:ak)(hsz:t.sz<=4194304):aD prog 97 [t.v] (.c (.d (.b (uq t)))):=fun S=>by
 refine zcx [.tmp 2] func97 ntmps97 ?_;refine W1 ?_;refine W3 ?_;refine bD rfl (O5 hsz (WW [] [.d (.i .i64 t.aN),.d (.s t.fName),.d (.sl (t.fArgs.map ak.enc))] S) 0 false trivial).2 ?_;refine W1 ?_;rw[Zd];rfl
theorem P7(g:Nat)(xs ys:List au)(hl:xs.length<=1073741824)(hg:∀x∈xs,∀y,aD prog g [x.v,y.v] (.c (.d (.b (dec (x=y)))))):
 aD prog 224 [.c (.d (.sl (xs.map au.enc))),.c (.d (.sl (ys.map au.enc))),.c (.fn g [])] (.c (.d (.b (dec (xs=ys))))):=fun S=>by
 refine zcx [.tmp 6] func224 ntmps224 ?_;refine W1 ?_;refine S0 (fun hb h=>?_) fun hb h=>?_
 ·exact aK (aO (fun e=>h (by rw[e]))).symm
 have hl':xs.length=ys.length:=gA
 refine aZ (ι:=Nat) zmx rfl [1,2,15,16,17] (fun y=>[.c (.d (.sl (ys.map au.enc))),.c (.fn g []),.c (.d (.sl (xs.map au.enc))),.c (.d (.i .i64 xs.length)),.c (.d (.i .i64 y))]) (fun y=>[]::S)
  (fun i=>i<=xs.length/\∀j,j<i->xs[j]? =ys[j]?) (fun y=>xs.length-y) 0 rfl rfl ⟨an _,fun j h=>gA⟩ ?_
 rintro i ⟨p1,p2⟩;refine W1 ?_;refine S0 (fun hb h=>?_) fun hb h=>?_
 ·have hi:i<xs.length:=gA
  have hi':i<ys.length:=gA
  refine W3 ?_;refine C1 (hg xs[i] (ac hi) ys[i]) ?_;refine S0 (fun hb h=>?_) fun hb h=>?_
  ·exact aK (aO (fun e=>h (by simp only[e]))).symm
  refine bR 0 gE (i+1) gA rfl rfl rfl rfl ⟨gA,fun j hj=> ?_⟩;by_cases e:j=i
  ·subst e;rw[am hi,am hi',h]
  ·exact p2 j gA
 ·have hi:i=xs.length:=gA
  refine aK (bK (dl fun j=> ?_)).symm;by_cases hj:j<i
  ·exact p2 j hj
  ·rw[cn gA,cn gA]
theorem RX(g:Nat)(xs ys:List bq)(hl:xs.length<=1073741824)(hg:∀x∈xs,∀y,aD prog g [x.v,y.v] (.c (.d (.b (dec (x=y)))))):
 aD prog 225 [.c (.d (.sl (xs.map bq.enc))),.c (.d (.sl (ys.map bq.enc))),.c (.fn g [])] (.c (.d (.b (dec (xs=ys))))):=fun S=>by
 refine zcx [.tmp 6] func225 ntmps225 ?_;refine W1 ?_;refine S0 (fun hb h=>?_) fun hb h=>?_
 ·exact aK (aO (fun e=>h (by rw[e]))).symm
 have hl':xs.length=ys.length:=gA
 refine aZ (ι:=Nat) zmx rfl [1,2,15,16,17] (fun y=>[.c (.d (.sl (ys.map bq.enc))),.c (.fn g []),.c (.d (.sl (xs.map bq.enc))),.c (.d (.i .i64 xs.length)),.c (.d (.i .i64 y))]) (fun y=>[]::S)
  (fun i=>i<=xs.length/\∀j,j<i->xs[j]? =ys[j]?) (fun y=>xs.length-y) 0 rfl rfl ⟨an _,fun j h=>gA⟩ ?_
 rintro i ⟨p1,p2⟩;refine W1 ?_;refine S0 (fun hb h=>?_) fun hb h=>?_
 ·have hi:i<xs.length:=gA
  have hi':i<ys.length:=gA
  refine W3 ?_;refine C1 (hg xs[i] (ac hi) ys[i]) ?_;refine S0 (fun hb h=>?_) fun hb h=>?_
  ·exact aK (aO (fun e=>h (by simp only[e]))).symm
  refine bR 0 gE (i+1) gA rfl rfl rfl rfl ⟨gA,fun j hj=> ?_⟩;by_cases e:j=i
  ·subst e;rw[am hi,am hi',h]
  ·exact p2 j gA
 ·have hi:i=xs.length:=gA
  refine aK (bK (dl fun j=> ?_)).symm;by_cases hj:j<i
  ·exact p2 j hj
  ·rw[cn gA,cn gA]
theorem P8(g:Nat)(caps:List (Key×Nat))(S:Store)(xs:List ak)(p:ak->Bool)(hl:xs.length<=1073741824)(hp:∀x∈xs,qA prog g caps S [x.v] (.c (.d (.b (p x))))):
 bS prog 198 [.c (.d (.sl (xs.map ak.enc))),.c (.fn g caps)] S (fun r S'=>r=.c (.d (.i .i64 (vP p xs)))/\S'=S):=by
 refine zcx [.tmp 4] func198 ntmps198 ?_;refine W1 ?_
 refine aZ (ι:=Nat) zmx rfl [0,1,7,8] (fun i=>[.c (.d (.sl (xs.map ak.enc))),.c (.fn g (kC 1 caps)),.c (.d (.i .i64 xs.length)),.c (.d (.i .i64 i))]) (fun _=>[]::S)
  (fun i=>i<=xs.length/\∀j,∀hj:j<xs.length,j<i->p xs[j]=false) (fun i=>xs.length-i) 0 rfl rfl ⟨an _,fun j _ h=>gA⟩ ?_
 rintro i ⟨p1,p2⟩;refine W1 ?_;refine S0 (fun hb h=>?_) fun hb h=>?_
 ·have hi:i<xs.length:=gA
  refine W3 ?_;refine bD rfl (hp xs[i] (ac hi) [_]) ?_;refine W1 ?_;refine S0 (fun hb h=>?_) fun hb h=>?_
  ·rw[uZ hi p2 h]
  ·refine dH (i+1) gA rfl rfl ⟨gA,fun j hj hji=> ?_⟩;by_cases e:j=i
   ·subst e;exact h
   ·exact p2 j hj gA
 ·rw[yE (fun j hj=>p2 j hj gA)]
theorem LG(g:Nat)(caps:List (Key×Nat))(S:Store)(xs:List ak)(p:ak->Bool)(hl:xs.length<=1073741824)(hp:∀x∈xs,qA prog g caps S [x.v] (.c (.d (.b (p x))))):
 bS prog 157 [.c (.d (.sl (xs.map ak.enc))),.c (.fn g caps)] S (fun r S'=>r=.c (.d (.b (xs.any p)))/\S'=S):=by
 refine zcx [.tmp 4] func157 ntmps157 ?_;refine W1 ?_;refine bD rfl (P8 g (kC 1 caps) _ xs p hl fun x hx=>(hp x hx).push _) ?_;refine W1 ?_;exact aK wN
theorem P9(g:Nat)(caps:List (Key×Nat))(S:Store)(xs:List au)(p:au->Bool)(hl:xs.length<=1073741824)(hp:∀x∈xs,qA prog g caps S [x.v] (.c (.d (.b (p x))))):
 bS prog 252 [.c (.d (.sl (xs.map au.enc))),.c (.fn g caps)] S (fun r S'=>r=.c (.d (.i .i64 (vP p xs)))/\S'=S):=by
 refine zcx [.tmp 4] func252 ntmps252 ?_;refine W1 ?_
 refine aZ (ι:=Nat) zmx rfl [0,1,7,8] (fun i=>[.c (.d (.sl (xs.map au.enc))),.c (.fn g (kC 1 caps)),.c (.d (.i .i64 xs.length)),.c (.d (.i .i64 i))]) (fun _=>[]::S)
  (fun i=>i<=xs.length/\∀j,∀hj:j<xs.length,j<i->p xs[j]=false) (fun i=>xs.length-i) 0 rfl rfl ⟨an _,fun j _ h=>gA⟩ ?_
 rintro i ⟨p1,p2⟩;refine W1 ?_;refine S0 (fun hb h=>?_) fun hb h=>?_
 ·have hi:i<xs.length:=gA
  refine W3 ?_;refine bD rfl (hp xs[i] (ac hi) [_]) ?_;refine W1 ?_;refine S0 (fun hb h=>?_) fun hb h=>?_
  ·rw[uZ hi p2 h]
  ·refine dH (i+1) gA rfl rfl ⟨gA,fun j hj hji=> ?_⟩;by_cases e:j=i
   ·subst e;exact h
   ·exact p2 j hj gA
 ·rw[yE (fun j hj=>p2 j hj gA)]
theorem LH(g:Nat)(caps:List (Key×Nat))(S:Store)(xs:List au)(p:au->Bool)(hl:xs.length<=1073741824)(hp:∀x∈xs,qA prog g caps S [x.v] (.c (.d (.b (p x))))):
 bS prog 231 [.c (.d (.sl (xs.map au.enc))),.c (.fn g caps)] S (fun r S'=>r=.c (.d (.b (xs.any p)))/\S'=S):=by
 refine zcx [.tmp 4] func231 ntmps231 ?_;refine W1 ?_;refine bD rfl (P9 g (kC 1 caps) _ xs p hl fun x hx=>(hp x hx).push _) ?_;refine W1 ?_;exact aK wN
theorem RY(g:Nat)(caps:List (Key×Nat))(S:Store)(xs:List bq)(p:bq->Bool)(hl:xs.length<=1073741824)(hp:∀x∈xs,qA prog g caps S [x.v] (.c (.d (.b (p x))))):
 bS prog 253 [.c (.d (.sl (xs.map bq.enc))),.c (.fn g caps)] S (fun r S'=>r=.c (.d (.i .i64 (vP p xs)))/\S'=S):=by
 refine zcx [.tmp 4] func253 ntmps253 ?_;refine W1 ?_
 refine aZ (ι:=Nat) zmx rfl [0,1,7,8] (fun i=>[.c (.d (.sl (xs.map bq.enc))),.c (.fn g (kC 1 caps)),.c (.d (.i .i64 xs.length)),.c (.d (.i .i64 i))]) (fun _=>[]::S)
  (fun i=>i<=xs.length/\∀j,∀hj:j<xs.length,j<i->p xs[j]=false) (fun i=>xs.length-i) 0 rfl rfl ⟨an _,fun j _ h=>gA⟩ ?_
 rintro i ⟨p1,p2⟩;refine W1 ?_;refine S0 (fun hb h=>?_) fun hb h=>?_
 ·have hi:i<xs.length:=gA
  refine W3 ?_;refine bD rfl (hp xs[i] (ac hi) [_]) ?_;refine W1 ?_;refine S0 (fun hb h=>?_) fun hb h=>?_
  ·rw[uZ hi p2 h]
  ·refine dH (i+1) gA rfl rfl ⟨gA,fun j hj hji=> ?_⟩;by_cases e:j=i
   ·subst e;exact h
   ·exact p2 j hj gA
 ·rw[yE (fun j hj=>p2 j hj gA)]
theorem MI(g:Nat)(caps:List (Key×Nat))(S:Store)(xs:List bq)(p:bq->Bool)(hl:xs.length<=1073741824)(hp:∀x∈xs,qA prog g caps S [x.v] (.c (.d (.b (p x))))):
 bS prog 233 [.c (.d (.sl (xs.map bq.enc))),.c (.fn g caps)] S (fun r S'=>r=.c (.d (.b (xs.any p)))/\S'=S):=by
 refine zcx [.tmp 4] func233 ntmps233 ?_;refine W1 ?_;refine bD rfl (RY g (kC 1 caps) _ xs p hl fun x hx=>(hp x hx).push _) ?_;refine W1 ?_;exact aK wN
theorem OH(g:Nat)(caps:List (Key×Nat))(S:Store)(xs:List bQ)(p:bQ->Bool)(hl:xs.length<=1073741824)(hp:∀x∈xs,qA prog g caps S [x.v] (.c (.d (.b (p x))))):
 bS prog 203 [.c (.d (.sl (xs.map bQ.enc))),.c (.fn g caps)] S (fun r S'=>r=.c (.d (.i .i64 (vP p xs)))/\S'=S):=by
 refine zcx [.tmp 4] func203 ntmps203 ?_;refine W1 ?_
 refine aZ (ι:=Nat) zmx rfl [0,1,7,8] (fun i=>[.c (.d (.sl (xs.map bQ.enc))),.c (.fn g (kC 1 caps)),.c (.d (.i .i64 xs.length)),.c (.d (.i .i64 i))]) (fun _=>[]::S)
  (fun i=>i<=xs.length/\∀j,∀hj:j<xs.length,j<i->p xs[j]=false) (fun i=>xs.length-i) 0 rfl rfl ⟨an _,fun j _ h=>gA⟩ ?_
 rintro i ⟨p1,p2⟩;refine W1 ?_;refine S0 (fun hb h=>?_) fun hb h=>?_
 ·have hi:i<xs.length:=gA
  refine W3 ?_;refine bD rfl (hp xs[i] (ac hi) [_]) ?_;refine W1 ?_;refine S0 (fun hb h=>?_) fun hb h=>?_
  ·rw[uZ hi p2 h]
  ·refine dH (i+1) gA rfl rfl ⟨gA,fun j hj hji=> ?_⟩;by_cases e:j=i
   ·subst e;exact h
   ·exact p2 j hj gA
 ·rw[yE (fun j hj=>p2 j hj gA)]
theorem KH(g:Nat)(caps:List (Key×Nat))(S:Store)(xs:List bQ)(p:bQ->Bool)(hl:xs.length<=1073741824)(hp:∀x∈xs,qA prog g caps S [x.v] (.c (.d (.b (p x))))):
 bS prog 164 [.c (.d (.sl (xs.map bQ.enc))),.c (.fn g caps)] S (fun r S'=>r=.c (.d (.b (xs.any p)))/\S'=S):=by
 refine zcx [.tmp 4] func164 ntmps164 ?_;refine W1 ?_;refine bD rfl (OH g (kC 1 caps) _ xs p hl fun x hx=>(hp x hx).push _) ?_;refine W1 ?_;exact aK wN
theorem MJ(g:Nat)(caps:List (Key×Nat))(S:Store)(xs:List (List UInt8))(p:(List UInt8)->Bool)(hl:xs.length<=1073741824)(hp:∀x∈xs,qA prog g caps S [.c (.d (.s x))] (.c (.d (.b (p x))))):
 bS prog 155 [.c (.d (.sl (xs.map encS))),.c (.fn g caps)] S (fun r S'=>r=.c (.d (.i .i64 (vP p xs)))/\S'=S):=by
 refine zcx [.tmp 4] func155 ntmps155 ?_;refine wm ?_
 refine aZ (ι:=Nat) zmx rfl [0,1,7,8] (fun i=>[.c (.d (.sl (xs.map encS))),.c (.fn g (kC 1 caps)),.c (.d (.i .i64 xs.length)),.c (.d (.i .i64 i))]) (fun _=>[]::S)
  (fun i=>i<=xs.length/\∀j,∀hj:j<xs.length,j<i->p xs[j]=false) (fun i=>xs.length-i) 0 rfl rfl ⟨an _,fun j _ h=>gA⟩ ?_
 rintro i ⟨p1,p2⟩;refine wm ?_;refine BD (fun hb h=>?_) fun hb h=>?_
 ·have hi:i<xs.length:=gA
  refine W3 ?_;refine bD rfl (hp xs[i] (ac hi) [_]) ?_;refine wm ?_;refine BD (fun hb h=>?_) fun hb h=>?_
  ·rw[uZ hi p2 h]
  ·refine dH (i+1) gA rfl rfl ⟨gA,fun j hj hji=> ?_⟩;by_cases e:j=i
   ·subst e;exact h
   ·exact p2 j hj gA
 ·rw[yE (fun j hj=>p2 j hj gA)]
theorem AA(g:Nat)(caps:List (Key×Nat))(S:Store)(xs:List (List UInt8))(p:(List UInt8)->Bool)(hl:xs.length<=1073741824)(hp:∀x∈xs,qA prog g caps S [.c (.d (.s x))] (.c (.d (.b (p x))))):
 bS prog 90 [.c (.d (.sl (xs.map encS))),.c (.fn g caps)] S (fun r S'=>r=.c (.d (.b (xs.any p)))/\S'=S):=by
 refine zcx [.tmp 4] func90 ntmps90 ?_;refine wm ?_;refine bD rfl (MJ g (kC 1 caps) _ xs p hl fun x hx=>(hp x hx).push _) ?_;refine wm ?_;exact aK wN
theorem ah8(xs ys:List (List UInt8))(hl:xs.length<=1073741824):aD prog 227 [.c (.d (.sl (xs.map encS))),.c (.d (.sl (ys.map encS)))] (.c (.d (.b (dec (xs=ys))))):=fun S=>by
 refine zcx [.tmp 4] func227 ntmps227 ?_;refine wm ?_;refine BD (fun hb h=>?_) fun hb h=>?_
 ·exact aK (aO (fun e=>h (by rw[e]))).symm
 have hl':xs.length=ys.length:=gA
 refine aZ (ι:=Nat) zmx rfl [0,1,12,13] (fun i=>[.c (.d (.sl (xs.map encS))),.c (.d (.sl (ys.map encS))),.c (.d (.i .i64 xs.length)),.c (.d (.i .i64 i))]) (fun _=>[]::S)
  (fun i=>i<=xs.length/\∀j,j<i->xs[j]? =ys[j]?) (fun y=>xs.length-y) 0 rfl rfl ⟨an _,fun j h=>gA⟩ ?_
 rintro i ⟨p1,p2⟩;refine wm ?_;refine BD (fun hb h=>?_) fun hb h=>?_
 ·have hi:i<xs.length:=gA
  have hi':i<ys.length:=gA
  refine W3 ?_;refine BD (fun hb h=>?_) fun hb h=>?_
  ·exact aK (aO (fun e=>h (by simp only[e]))).symm
  refine dH (i+1) gA rfl rfl ⟨gA,fun j hj=> ?_⟩;by_cases e:j=i
  ·subst e;rw[am hi,am hi',h]
  ·exact p2 j gA
 ·have hi:i=xs.length:=gA
  refine aK (bK (dl fun j=> ?_)).symm;by_cases hj:j<i
  ·exact p2 j hj
  ·rw[cn gA,cn gA]
theorem abG(xs ys:List (List UInt8))(hl:xs.length<=1073741824):aD prog 256 [.c (.d (.sl (xs.map encS))),.c (.d (.sl (ys.map encS)))] (.c (.d (.b (dec (xs=ys))))):=fun S=>by
 refine zcx [.tmp 4] func256 ntmps256 ?_;refine wm ?_;refine BD (fun hb h=>?_) fun hb h=>?_
 ·exact aK (aO (fun e=>h (by rw[e]))).symm
 have hl':xs.length=ys.length:=gA
 refine aZ (ι:=Nat) zmx rfl [0,1,5] (fun i=>[.c (.d (.sl (xs.map encS))),.c (.d (.sl (ys.map encS))),.c (.d (.i .i64 i))]) (fun _=>[]::S)
  (fun i=>i<=xs.length/\∀j,j<i->xs[j]? =ys[j]?) (fun y=>xs.length-y) 0 rfl rfl ⟨an _,fun j h=>gA⟩ ?_
 rintro i ⟨p1,p2⟩;refine wm ?_;refine BD (fun hb h=>?_) fun hb h=>?_
 ·have hi:i<xs.length:=gA
  have hi':i<ys.length:=gA
  refine W3 ?_;refine BD (fun hb h=>?_) fun hb h=>?_
  ·exact aK (aO (fun e=>h (by simp only[e]))).symm
  refine dH (i+1) gA rfl rfl ⟨gA,fun j hj=> ?_⟩;by_cases e:j=i
  ·subst e;rw[am hi,am hi',h]
  ·exact p2 j gA
 ·have hi:i=xs.length:=gA
  refine aK (bK (dl fun j=> ?_)).symm;by_cases hj:j<i
  ·exact p2 j hj
  ·rw[cn gA,cn gA]
theorem uO{s:List UInt8}{xs:List (List UInt8)}(h:s∈xs):s.length<=aS (xs.map encS):=by
 have:=dM (be (f:=encS) h);simpa [encS,bX,D.sz] using this
noncomputable def je(xs:List (List UInt8)):Bool:=dec xs.Nodup&&xs.all validName
noncomputable def among(xs ys:List (List UInt8)):Bool:=xs.all fun s=>dec (s∈ys)
noncomputable def iC(vars:List (List UInt8))(t:ak):Bool:=pq t&&among (jX [] t) vars
noncomputable def mW(vars:List (List UInt8))(ts:List ak):Bool:=ts.all (iC vars)
theorem alE{s l:List UInt8}{m:List (List UInt8)}:s∈LY l m<->s=l\/s∈m:=by
 unfold LY;split
 ·rename_i h;exact⟨.inr,fun x=>x.elim (fun e=>e▸h) id⟩
 ·rw[dm,ej];exact Or.comm
theorem jk{α:Type}{xs:List α}{i:Nat}(hi:i<xs.length):xs.take (i+1)=xs.take i++[xs[i]]:=bu hi
theorem KI{α:Type}{xs:List α}{x:α}:(xs++[x]).Nodup<->xs.Nodup/\x∉xs:=by
 rw[List.nodup_append];constructor
 ·rintro⟨h1,_,h3⟩;exact⟨h1,fun hx=>h3 x hx x gL rfl⟩
 ·rintro⟨h1,h2⟩;exact⟨h1,gL,fun a ha b hb e=>by simp at hb;subst hb;exact h2 (e▸ha)⟩
theorem Vx{α:Type}{xs:List α}{i:Nat}(hi:i<xs.length)(h:xs[i]∈xs.take i):¬xs.Nodup:=fun hn=>by
 have h1:(xs.take (i+1)).Nodup:=hn.sublist (List.take_sublist _ _);rw[jk hi] at h1;exact(KI.1 h1).2 h
theorem qZ(xs:List (List UInt8))(hl:xs.length<=1073741824):aD prog 89 [.c (.d (.sl (xs.map encS)))] (.c (.d (.b (dec xs.Nodup)))):=fun S=>by
 refine zcx [.tmp 2] func89 ntmps89 ?_;refine wm ?_;refine W3 ?_
 refine aZ (ι:=Nat×List (List UInt8)) zmx rfl [3,7,8,9] (fun y=>[.c (.mp (0,0)),.c (.d (.sl (xs.map encS))),.c (.d (.i .i64 xs.length)),.c (.d (.i .i64 y.1))]) (fun y=>[.mp y.2]::S)
  (fun y=>y.1<=xs.length/\(∀s,s∈y.2<->s∈xs.take y.1)/\(xs.take y.1).Nodup) (fun y=>xs.length-y.1) (0,[]) rfl rfl ⟨an _,fun s=>gL,gL⟩ ?_
 rintro⟨i,m⟩ ⟨p1,p2,p3⟩;simp only at p1 p2 p3;refine wm ?_;refine BD (fun hb h=>?_) fun hb h=>?_
 ·have hi:i<xs.length:=gA
  refine W3 ?_;refine BD (fun hb h=>?_) fun hb h=>?_
  ·exact aK (aO (Vx hi ((p2 _).1 h))).symm
  ·refine dH (i+1,LY xs[i] m) gC rfl rfl ⟨gC,fun s=> ?_,?_⟩
   ·simp only
    rw[alE,jk hi,dm,ej,p2];exact Or.comm
   ·simp only
    rw[jk hi,KI];exact⟨p3,fun hx=>h ((p2 _).2 hx)⟩
 ·rw[aE gA] at p3;exact aK (bK p3).symm
theorem ru(xs:List (List UInt8))(hl:xs.length<=1073741824):aD prog 72 [.c (.d (.sl (xs.map encS)))] (.c (.d (.b (dec xs.Nodup)))):=fun S=>by
 refine zcx [.tmp 2] func72 ntmps72 ?_;refine wm ?_
 refine aZ (ι:=Nat) zmx rfl [0,3] (fun i=>[.c (.d (.sl (xs.map encS))),.c (.d (.i .i64 i))]) (fun _=>[]::S)
  (fun i=>i<=xs.length/\(xs.take i).Nodup) (fun i=>xs.length-i) 0 rfl rfl ⟨an _,gL⟩ ?_
 rintro i ⟨p1,p3⟩;refine wm ?_;refine BD (fun hb h=>?_) fun hb h=>?_
 ·have hi:i<xs.length:=gA
  have hc:∀y∈xs.map encS,y.length=1:=fun y hy=>by
   obtain⟨s,_,rfl⟩:=cr.1 hy;rfl
  have e:(xs.map encS).take i=(xs.take i).map encS:=ee.symm;refine And.intro ⟨gA,gA,hc⟩ ?_;refine W3 ?_;simp -implicitDefEqProofs (disch:=omega) only[go_sem,Int.toNat_zero,e];refine C2 (tL (xs.take i) xs[i] gR) ?_;refine S0 (fun hb h=>?_) fun hb h=>?_
  ·exact aK (aO (Vx hi h)).symm
  ·refine dH (i+1) gA rfl rfl ⟨gA,?_⟩;rw[jk hi,KI];exact⟨p3,h⟩
 ·rw[aE gA] at p3;exact aK (bK p3).symm
theorem RZ(xs:List (List UInt8))(hl:xs.length<=1073741824)(hs:∀s∈xs,s.length<=4194304):aD prog 145 [.c (.d (.sl (xs.map encS)))] (.c (.d (.b (xs.all validName)))):=fun S=>by
 refine zcx [.tmp 2] func145 ntmps145 ?_;refine wm ?_
 refine aZ (ι:=Nat) zmx rfl [0,3] (fun i=>[.c (.d (.sl (xs.map encS))),.c (.d (.i .i64 i))]) (fun _=>[]::S)
  (fun i=>i<=xs.length/\(xs.drop i).all validName=xs.all validName) (fun i=>xs.length-i) 0 rfl rfl ⟨an _,rfl⟩ ?_
 rintro i ⟨p1,p2⟩;refine wm ?_;refine BD (fun hb h=>?_) fun hb h=>?_
 ·have hi:i<xs.length:=gA
  have hz:=hs _ (ac hi);rw[cb hi,dv] at p2;refine W3 ?_;refine C2 (iV xs[i] gA) ?_;refine S0 (fun hb h=>?_) fun hb h=>?_
  ·rw[<-p2,h];rfl
  ·exact dH (i+1) gA rfl rfl ⟨gA,by rw[<-p2,h];rfl⟩
 ·rw[cA gA] at p2;rw[<-p2];rfl
theorem qB(xs:List (List UInt8))(hl:xs.length<=1073741824)(hs:∀s∈xs,s.length<=4194304):aD prog 31 [.c (.d (.sl (xs.map encS)))] (.c (.d (.b (je xs)))):=fun S=>by
 have hcl:∀s∈xs,aD prog 91 [.c (.d (.s s))] (.c (.d (.b (!validName s)))):=fun s hx S=>by
  have:=hs s hx;refine zcx [.tmp 2] func91 ntmps91 ?_;refine W1 ?_;exact C4 (iU s gA)
 have ha:(xs.any fun s=> !validName s)= !xs.all validName:=by rw[fp]
 refine zcx [.tmp 2] func31 ntmps31 ?_;refine W1 ?_;refine C2 (qZ xs hl) ?_;refine S0 (fun hb h=>?_) fun hb h=>?_
 ·refine bD rfl (AA 91 [] _ xs (fun s=> !validName s) hl fun s hx=>qA.Uj (hcl s hx)) ?_;refine W1 ?_;rw[ha];exact aK (by unfold je;rw[hb];simp)
 ·exact aK (by unfold je;rw[hb];rfl)
theorem Dp(xs ys:List (List UInt8))(hl:xs.length<=1073741824)(hl':ys.length<=1073741824):aD prog 98 [.c (.d (.sl (xs.map encS))),.c (.d (.sl (ys.map encS)))] (.c (.d (.b (among xs ys)))):=fun S=>by
 have ha:(xs.any fun s=> !dec (s∈ys))= !among xs ys:=by unfold among;rw[fp]
 have hcl:∀(rest:List Ab.Obj)(s:List UInt8),qA prog 162 [((0,0),0)] ((.box [.d (.sl (ys.map encS))]::rest)::S) [.c (.d (.s s))] (.c (.d (.b (!dec (s∈ys))))):=fun rest s F=>by
  refine zcx [.tmp 3] func162 ntmps162 ?_;refine W1 ?_;exact C4 (tO ys s hl')
 refine zcx [.tmp 4] func98 ntmps98 ?_;refine W1 ?_;refine bD rfl (AA 162 [((0,0),0)] _ xs (fun s=> !dec (s∈ys)) hl fun s hx=>hcl [] s) ?_;refine W1 ?_;rw[ha];exact aK gL
theorem w9(t:ak)(vars:List (List UInt8))(hsz:t.sz<=4194304)(hv:vars.length<=1073741824):aD prog 96 [t.v,.c (.d (.sl (vars.map encS)))] (.c (.d (.b (iC vars t)))):=fun S=>by
 have h1:=D8 t [];have h2:=nC t;refine zcx [.tmp 4] func96 ntmps96 ?_;refine W1 ?_;refine C2 (Aa t hsz) ?_;refine S0 (fun hb h=>?_) fun hb h=>?_
 ·refine C2 (BH t hsz) ?_;refine C2 (Dp (jX [] t) vars (by simp at h1;omega) hv) ?_;exact aK (by unfold iC;rw[hb];rfl)
 ·exact aK (by unfold iC;rw[hb];rfl)
theorem BI(ts:List ak)(vars:List (List UInt8))(hl:ts.length<=1073741824)(hsz:∀t∈ts,t.sz<=4194304)(hv:vars.length<=1073741824):aD prog 95 [.c (.d (.sl (ts.map ak.enc))),.c (.d (.sl (vars.map encS)))] (.c (.d (.b (mW vars ts)))):=fun S=>by
 have ha:(ts.any fun t=> !iC vars t)= !mW vars ts:=by unfold mW;rw[fp]
 have hcl:∀(rest:List Ab.Obj)(t:ak),t.sz<=4194304->qA prog 158 [((0,0),0)] ((.box [.d (.sl (vars.map encS))]::rest)::S) [t.v] (.c (.d (.b (!iC vars t)))):=fun rest t ht F=>by
  refine zcx [.tmp 3] func158 ntmps158 ?_;refine W1 ?_;exact C4 (w9 t vars ht hv)
 refine zcx [.tmp 4] func95 ntmps95 ?_;refine W1 ?_;refine bD rfl (LG 158 [((0,0),0)] _ ts (fun t=> !iC vars t) hl fun t hx=>hcl [] t (hsz t hx)) ?_;refine W1 ?_;rw[ha];exact aK gL
theorem nD(xs:List (List UInt8))(most:Int)(hl:xs.length<=1073741824)(hs:∀s∈xs,s.length<=4194304):aD prog 70 [.c (.d (.sl (xs.map encS))),.c (.d (.i .i64 most))] (.c (.d (.b (dec ((xs.length:Int)<=most)&&je xs)))):=fun S=>by
 refine zcx [.tmp 4] func70 ntmps70 ?_;refine W1 ?_;refine S0 (fun hb h=>?_) fun hb h=>?_
 ·have h1:=h;refine C2 (RZ xs hl hs) ?_;refine S0 (fun hb h=>?_) fun hb h=>?_
  ·refine C2 (ru xs hl) ?_;exact aK (by rw[bK h1];unfold je;rw[hb];simp)
  ·exact aK (by rw[bK h1];unfold je;rw[hb];simp)
 ·exact aK (by rw[aO h];rfl)
theorem wO(t:ak)(vars:List (List UInt8))(hsz:t.sz<=4194304)(hv:vars.length<=1073741824):aD prog 173 [t.v,.c (.d (.sl (vars.map encS)))] (.c (.d (.b (iC vars t)))):=fun S=>by
 have h1:=D8 t [];have h2:=nC t
 have hlen:(jX [] t).length<=1073741824:=by simp at h1;omega
 refine zcx [.tmp 4] func173 ntmps173 ?_;refine W1 ?_;refine C2 (RV t hsz) ?_;generalize hxs:jX [] t=xs at hlen
 refine aZ (ι:=Nat) zmx rfl [1,2,5,6] (fun i=>[.c (.d (.sl (vars.map encS))),.c (.ptr (0,0) 0),.c (.d (.sl (xs.map encS))),.c (.d (.i .i64 i))]) (fun _=>[.box [.d (.i .i64 t.aN),.d (.s t.fName),.d (.sl (t.fArgs.map ak.enc))]]::S)
  (fun i=>i<=xs.length/\among (xs.drop i) vars=among xs vars) (fun i=>xs.length-i) 0 rfl rfl ⟨an _,rfl⟩ ?_
 rintro i ⟨p1,p2⟩;refine wm ?_;refine BD (fun hb h=>?_) fun hb h=>?_
 ·have hi:i<xs.length:=gA
  rw[cb hi] at p2;have p3:among xs vars=(dec (xs[i]∈vars)&&among (xs.drop (i+1)) vars):=p2.symm;refine W3 ?_;refine C2 (tL vars xs[i] hv) ?_;refine S0 (fun hb h=>?_) fun hb h=>?_
  ·exact aK (by unfold iC;rw[hxs,p3,aO h];simp)
  ·exact dH (i+1) gA rfl rfl ⟨gA,by rw[p3,bK h];rfl⟩
 ·rw[cA gA] at p2;have p3:among xs vars=true:=p2.symm;refine W3 ?_;refine C2 (Ac t hsz) ?_;exact aK (by unfold iC;rw[hxs,p3];simp)
theorem Vy(ts:List ak)(vars:List (List UInt8))(hl:ts.length<=1073741824)(hsz:∀t∈ts,t.sz<=4194304)(hv:vars.length<=1073741824):aD prog 172 [.c (.d (.sl (ts.map ak.enc))),.c (.d (.sl (vars.map encS)))] (.c (.d (.b (mW vars ts)))):=fun S=>by
 refine zcx [.tmp 4] func172 ntmps172 ?_;refine W1 ?_
 refine aZ (ι:=Nat) zmx rfl [0,1,5] (fun i=>[.c (.d (.sl (ts.map ak.enc))),.c (.d (.sl (vars.map encS))),.c (.d (.i .i64 i))]) (fun _=>[]::S)
  (fun i=>i<=ts.length/\mW vars (ts.drop i)=mW vars ts) (fun i=>ts.length-i) 0 rfl rfl ⟨an _,rfl⟩ ?_
 rintro i ⟨p1,p2⟩;refine W1 ?_;refine S0 (fun hb h=>?_) fun hb h=>?_
 ·have hi:i<ts.length:=gA
  rw[cb hi] at p2;have p3:mW vars ts=(iC vars ts[i]&&mW vars (ts.drop (i+1))):=p2.symm;refine W3 ?_;refine C2 (wO ts[i] vars (hsz _ (ac hi)) hv) ?_;refine S0 (fun hb h=>?_) fun hb h=>?_
  ·rw[p3,h];rfl
  ·exact dH (i+1) gA rfl rfl ⟨gA,by rw[p3,h];rfl⟩
 ·rw[cA gA] at p2;rw[<-p2];rfl
def ops:List (List UInt8):=[[43],[45],[42],[60],[61]]
def zS(t:ak):Prop:=t.aN=0/\t.fName=[]/\t.fArgs.length=0
def xJ(e:au):Prop:=
 (1<=e.aN/\e.aN<=12)/\
 (if e.aN=5\/e.aN=11 then validName e.bO=true else e.bO=[])/\
 (if e.aN=3\/e.aN=4\/e.aN=5\/e.aN=6\/e.aN=8 then validName e.fName=true else if e.aN=10 then e.fName∈ops else e.fName=[])/\
 (if e.aN=1 then -999999<=e.fN/\e.fN<=999999 else if e.aN=2 then e.fN=0\/e.fN=1 else e.fN=0)/\
 (if e.aN=12 then pq e.fType=true else zS e.fType)/\
 (if e.aN=4\/e.aN=6 then True else if e.aN=5 then 1<=e.fArgs.length else if e.aN=7\/e.aN=11\/e.aN=12 then e.fArgs.length=1 else if e.aN=8\/e.aN=10 then e.fArgs.length=2 else if e.aN=9 then e.fArgs.length=3 else e.fArgs.length=0)/\
 (e.aN=7<->0<e.aX.length)
mutual
noncomputable def jl:au->Bool
 | .mk k t n m ty a b=>dec (xJ (.mk k t n m ty a b))&&(ni a&&qL b)
noncomputable def ni:List au->Bool
 |[]=>true
 |x::xs=>jl x&&ni xs
noncomputable def zl:bq->Bool
 | .mk c v b=>validName c&&(je v&&jl b)
noncomputable def qL:List bq->Bool
 |[]=>true
 |x::xs=>zl x&&qL xs
end
theorem AB(x:au):jl x=(dec (xJ x)&&(ni x.fArgs&&qL x.aX)):=by cases x;rw[jl];rfl
theorem u6(x:bq):zl x=(validName x.dV&&(je x.aG&&jl x.fBody)):=by cases x;rw[zl];rfl
theorem Zf{xs:List au}{i:Nat}(hi:i<xs.length):ni (xs.drop i)=(jl xs[i]&&ni (xs.drop (i+1))):=by rw[cb hi,ni]
theorem abH{xs:List bq}{i:Nat}(hi:i<xs.length):qL (xs.drop i)=(zl xs[i]&&qL (xs.drop (i+1))):=by rw[cb hi,qL]
theorem O6:∀{xs:List au},(xs.any fun t=> !jl t)= !ni xs
 |[]=>rfl
 |t::ts=>by rw[gg,O6 (xs:=ts),ni];simp
theorem R3:∀{xs:List bq},(xs.any fun t=> !zl t)= !qL xs
 |[]=>rfl
 |t::ts=>by rw[gg,R3 (xs:=ts),qL];simp
noncomputable def uP(e:au):Bool:=dec (e.cnt<=300)&&jl e
def qM(l:Int)(c:Nat):Int:=if l<0 then -1 else if c<=l then l-c else -1
theorem KJ{l:Int}{a b:Nat}:qM (qM l a) b=qM l (a+b):=by unfold qM;split<;>split<;>(try split)<;>(try split)<;>omega
theorem Qa{l:Int}{a:Nat}(h:l<0):qM l a= -1:=if_pos h
theorem MK{l:Int}(h: -1<=l):qM l 0=l:=by unfold qM;split<;>(try split)<;>omega
theorem Us{l:Int}{c:Nat}(h:0<=l): -1<=qM l c/\qM l c<=l:=by unfold qM;split<;>(try split)<;>omega
theorem alF{l:Int}{c:Nat}(h:0<=l):decide (qM l c>=0)=decide ((c:Int)<=l):=by unfold qM;rw[if_neg gA];split<;>simp<;>omega
theorem WX:validName []=false:=aO fun h=>by have:=h.1.1;simp at this
theorem ah9{s:List UInt8}(h:s∈ops):s.length=1:=by simp[ops] at h;rcases h with h|h|h|h|h<;>rw[h]<;>rfl
theorem Zg{s:List UInt8}(h:s∈ops):validName s=false:=aO fun x=>by
 have h1:=x.2.2 0 (by have:=x.1.1;omega);simp[ops] at h;rcases h with h|h|h|h|h<;>rw[h] at h1<;>simp[lowerB,uN] at h1
theorem R4{t:ak}(h:zS t):pq t=false:=aO fun x=>by
 have h1:=x.1;rw[Az,ai] at h1;have h2:=gD h1.1;rw[h.1] at h2;omega
structure Hold(p:Prop):Prop where
 out:p
theorem oD{P:Program}{N:Nat}{c:Code}{Q:Exit->St->Prop}{tm:List (Nat×V)}{st st':Store}(ts:List Nat)(vs:List V)(hv:ts.map (look tm)=vs)(hs:st=st')
 (h:AW P N c Q ⟨iy ts vs,st'⟩):AW P N c Q ⟨tm,st⟩:=by
 subst hs;refine mO h ?_;rw[<-hv];exact PK fun t=>Cx _ ts t
end Go.Ab