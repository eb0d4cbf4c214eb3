/-
  SEVERAL TEXTS IN ONE (merged by program): contracts and models, each with its own heading.
-/
import Derived.Test.YtnmjbebcebbmfaaGreatPartHibC
set_option maxHeartbeats 8000000
open Go.Proofs Go.Proofs.Tryz
set_option linter.unusedSimpArgs false
set_option linter.unusedVariables false
set_option maxRecDepth 4000
namespace Go.Ab
mutual
def ak.cnt:ak->Nat
 | .mk _ _ _ _ _ a b=>1+(ak.dG a+aR.dG b)
def ak.dG:List ak->Nat
 |[]=>0
 |x::xs=>x.cnt+ak.dG xs
def aR.cnt:aR->Nat
 | .mk _ _ b=>b.cnt
def aR.dG:List aR->Nat
 |[]=>0
 |x::xs=>x.cnt+aR.dG xs
end
theorem ak.kP(x:ak):x.cnt=1+(ak.dG x.fArgs+aR.dG x.aX):=by cases x;rw[ak.cnt];rfl
theorem aR.kP(x:aR):x.cnt=x.fBody.cnt:=by cases x;rw[aR.cnt];rfl
theorem ak.jh{xs:List ak}{i:Nat}(hi:i<xs.length):ak.dG (xs.drop i)=xs[i].cnt+ak.dG (xs.drop (i+1)):=by rw[bh hi,ak.dG]
theorem aR.jh{xs:List aR}{i:Nat}(hi:i<xs.length):aR.dG (xs.drop i)=xs[i].fBody.cnt+aR.dG (xs.drop (i+1)):=by rw[bh hi,aR.dG,aR.kP]
theorem ak.wW(x:ak):x.fArgs.length+aH (x.fArgs.map ak.enc)<=x.sz/\x.aX.length+aH (x.aX.map aR.enc)<=x.sz:=by
 simp only[ak.sz,ak.aB,aY,bG,D.sz,al];omega
theorem aR.GQ(x:aR):x.fBody.sz<=x.sz:=by
 simp only[aR.sz,aR.aB,ak.sz,aY,bG,D.sz,al];omega
mutual
theorem ak.iP:∀x:ak,x.cnt<=1+x.sz
 | .mk k t n m ty a b=>by
   have h1:=ak.ru a;have h2:=aR.ru b;rw[ak.cnt];simp only[ak.sz,ak.aB,aY,bG,D.sz,al,ak.fArgs,ak.aX];omega
theorem ak.ru:∀xs:List ak,ak.dG xs<=xs.length+aH (xs.map ak.enc)
 |[]=>by simp[ak.dG]
 |x::xs=>by
  have h1:=ak.iP x;have h2:=ak.ru xs;rw[ak.dG,aa,af,aH,ak.cB];omega
theorem aR.iP:∀x:aR,x.cnt<=1+x.sz
 | .mk c v b=>by
   have h1:=ak.iP b;have h2:=aR.GQ (.mk c v b);rw[aR.cnt];simp only[aR.fBody] at h2;omega
theorem aR.ru:∀xs:List aR,aR.dG xs<=xs.length+aH (xs.map aR.enc)
 |[]=>by simp[aR.dG]
 |x::xs=>by
  have h1:=aR.iP x;have h2:=aR.ru xs;rw[aR.dG,aa,af,aH,aR.cB];omega
end
theorem wX:∀n:Nat,∀x:ak,SizeOf.sizeOf x<n->x.sz<=4194304->aT prog 112 [x.v] (.c (.d (.i .i64 x.cnt)))
 |0=>fun x h=>by omega
 |n+1=>by
  have ih:=wX n;intro x hn hsz S;have kH:=ak.gM x;have zw:=ak.qZ x;have hp:=ak.wW x;have hc:=ak.iP x;have he:=ak.kP x;refine zcx [.tmp 2] func112 ntmps112 ?_;simp -implicitDefEqProofs (disch:=omega) only[go_sem]
  refine bn (ι:=Nat×Nat) zmx rfl [1,3,9,10,11] (fun y=>[.c (.ptr (0,0) 0),.c (.d (.i .i64 y.2)),.c (.d (.sl (x.fArgs.map ak.enc))),.c (.d (.i .i64 x.fArgs.length)),.c (.d (.i .i64 y.1))]) (fun y=>[.box (x.enc.map .d)]::S)
   (fun y=>y.1<=x.fArgs.length/\x.cnt=y.2+ak.dG (x.fArgs.drop y.1)+aR.dG x.aX) (fun y=>x.fArgs.length-y.1) (0,1) rfl ?_ ⟨ao _,by simp only[cQ];omega⟩ ?_
  ·simp -implicitDefEqProofs (disch:=omega) only[go_sem]
  rintro⟨i,c⟩ ⟨p1,p2⟩;simp only at p1 p2;simp -implicitDefEqProofs (disch:=omega) only[go_sem]
  with_reducible refine aj (fun hb=> ?_) (fun hb=> ?_)<;>have h:=hb<;>(try simp only[wf_preprocess] at h)<;>simp -implicitDefEqProofs (disch:=omega) only[go_sem,hb]<;>(repeat(with_reducible refine And.intro ?_ ?_;focus first|omega|rfl|assumption|exact⟨_,rfl,rfl⟩|(simp;omega)|(simp;done)))
  ·have hi:i<x.fArgs.length:=by omega
   have hx:x.fArgs[i].sz<=aH (x.fArgs.map ak.enc):=dK (bd (ac hi));rw[ak.jh hi] at p2
   (repeat(with_reducible refine And.intro ?_ ?_;focus first|omega|rfl|assumption|exact⟨_,rfl,rfl⟩|(simp;omega)|(simp;done)))
   refine au (ih x.fArgs[i] (by have:=be (ac hi);omega) (by omega)) ?_;simp -implicitDefEqProofs (disch:=omega) only[go_sem]<;>(repeat(with_reducible refine And.intro ?_ ?_;focus first|omega|rfl|assumption|exact⟨_,rfl,rfl⟩|(simp;omega)|(simp;done)));rw[show(c:Int)+(x.fArgs[i].cnt:Int)=((c+x.fArgs[i].cnt:Nat):Int) by omega];exact dL 1 (by decide) (i+1,c+x.fArgs[i].cnt) (by simp only;omega) rfl rfl rfl rfl ⟨by simp only;omega,by simp only;omega⟩
  have hi:i=x.fArgs.length:=by omega
  rw[hi,cj,ak.dG] at p2
  refine bn (ι:=Nat×Nat) zmx rfl [3,21,22,23] (fun y=>[.c (.d (.i .i64 y.2)),.c (.d (.sl (x.aX.map aR.enc))),.c (.d (.i .i64 x.aX.length)),.c (.d (.i .i64 y.1))]) (fun y=>[.box (x.enc.map .d)]::S)
   (fun y=>y.1<=x.aX.length/\x.cnt=y.2+aR.dG (x.aX.drop y.1)) (fun y=>x.aX.length-y.1) (0,c) rfl ?_ ⟨ao _,by simp only[cQ];omega⟩ ?_
  ·simp -implicitDefEqProofs (disch:=omega) only[go_sem]
  clear p1 p2 hb h hi i;rintro⟨i,d⟩ ⟨p1,p2⟩;simp only at p1 p2;simp -implicitDefEqProofs (disch:=omega) only[go_sem]
  with_reducible refine aj (fun hb=> ?_) (fun hb=> ?_)<;>have h:=hb<;>(try simp only[wf_preprocess] at h)<;>simp -implicitDefEqProofs (disch:=omega) only[go_sem,hb]<;>(repeat(with_reducible refine And.intro ?_ ?_;focus first|omega|rfl|assumption|exact⟨_,rfl,rfl⟩|(simp;omega)|(simp;done)))
  ·have hi:i<x.aX.length:=by omega
   have hx:x.aX[i].sz<=aH (x.aX.map aR.enc):=dK (bd (ac hi));have hy:=aR.GQ x.aX[i];have hs:=be (ac hi);have hs':=aR.pX x.aX[i];rw[aR.jh hi] at p2
   (repeat(with_reducible refine And.intro ?_ ?_;focus first|omega|rfl|assumption|exact⟨_,rfl,rfl⟩|(simp;omega)|(simp;done)))
   refine au (ih x.aX[i].fBody (by omega) (by omega)) ?_;simp -implicitDefEqProofs (disch:=omega) only[go_sem]<;>(repeat(with_reducible refine And.intro ?_ ?_;focus first|omega|rfl|assumption|exact⟨_,rfl,rfl⟩|(simp;omega)|(simp;done)));rw[show(d:Int)+(x.aX[i].fBody.cnt:Int)=((d+x.aX[i].fBody.cnt:Nat):Int) by omega];exact dL 1 (by decide) (i+1,d+x.aX[i].fBody.cnt) (by simp only;omega) rfl rfl rfl rfl ⟨by simp only;omega,by simp only;omega⟩
  ·have hi:i=x.aX.length:=by omega
   rw[hi,cj,aR.dG] at p2;exact int_eq (by omega)
theorem Fj(x:ak)(hsz:x.sz<=4194304):aT prog 112 [x.v] (.c (.d (.i .i64 x.cnt))):=wX _ x (cg _) hsz
theorem sH{x:ah}{i:Nat}(hi:i<x.fArgs.length)(h:x.sz<=4194304):x.fArgs[i].sz<=4194304/\x.fArgs.length<=4194304/\x.fName.length<=4194304:=by
 have hx:x.fArgs[i].sz<=aH (x.fArgs.map ah.enc):=dK (bd (ac hi));simp only[ah.sz,ah.aB,aY,D.sz,al] at h;omega
theorem BS{x:ah}(h:x.sz<=4194304):x.fArgs.length<=4194304/\x.fName.length<=4194304:=by
 simp only[ah.sz,ah.aB,aY,D.sz,al] at h;omega
theorem jh:∀{ts:List ah}{i:Nat}(hi:i<ts.length),ah.dG (ts.drop i)=ts[i].cnt+ah.dG (ts.drop (i+1)):=fun {ts} {i} hi=>by
 rw[bh hi,ah.dG]
theorem CY:∀{ts:List ah}{i:Nat}(hi:i<ts.length),depths (ts.drop i)=max (jC ts[i]+1) (depths (ts.drop (i+1))):=fun {ts} {i} hi=>by
 rw[bh hi,depths]
theorem Lf:∀{ts:List ah}{i:Nat}(hi:i<ts.length),kG (ts.drop i)=(formed ts[i]&&kG (ts.drop (i+1))):=fun {ts} {i} hi=>by
 rw[bh hi,kG]
theorem Fp:∀n:Nat,∀x:ah,SizeOf.sizeOf x<n->∀l:Int,0<=l->l<=1073741824->x.sz<=4194304->aT prog 139 [x.v,.c (.d (.i .i64 l))] (.c (.d (.i .i64 (pE l x.cnt))))
 |0=>fun x h=>by omega
 |n+1=>by
  have ih:=Fp n;intro x hn l h0 h1 hsz S;have kH:=ah.gM x;have hts:=BS hsz;have hcn:=ah.kP x;refine zcx [.tmp 4] func139 ntmps139 ?_;simp -implicitDefEqProofs (disch:=omega) only[go_sem]
  refine bn (ι:=Nat×Int) zmx rfl [1,2,5] (fun y=>[.c (.d (.i .i64 y.2)),.c (.ptr (0,0) 0),.c (.d (.i .i64 y.1))]) (fun y=>[.box [.d (.i .i64 x.aW),.d (.s x.fName),.d (.sl (x.fArgs.map ah.enc))]]::S)
   (fun y=>y.1<=x.fArgs.length/\ -1<=y.2/\y.2<=1073741824/\(0<=y.2->pE l x.cnt=pE y.2 (ah.dG (x.fArgs.drop y.1)))/\(y.2<0->pE l x.cnt= -1)) (fun y=>x.fArgs.length-y.1) (0,l-1) rfl rfl ⟨ao _,by simp only;omega,by simp only;omega,fun h=> ?_,fun h=> ?_⟩ ?_
  ·simp only[cQ] at h ⊢;unfold pE;rw[hcn];split<;>split<;>omega
  ·simp only at h;exact Og (by omega)
  rintro⟨i,c⟩ ⟨p1,p2,p3,p4,p5⟩;simp only at p1 p2 p3 p4 p5;simp -implicitDefEqProofs (disch:=omega) only[go_sem]
  with_reducible refine aj (fun hb=> ?_) (fun hb=> ?_)<;>have h:=hb<;>(try simp only[wf_preprocess] at h)<;>simp -implicitDefEqProofs (disch:=omega) only[go_sem,hb]<;>(repeat(with_reducible refine And.intro ?_ ?_;focus first|omega|rfl|assumption|exact⟨_,rfl,rfl⟩|(simp;omega)|(simp;done)))
  ·have hi:i<x.fArgs.length:=by omega
   with_reducible refine aj (fun hb=> ?_) (fun hb=> ?_)<;>have h:=hb<;>(try simp only[wf_preprocess] at h)<;>simp -implicitDefEqProofs (disch:=omega) only[go_sem,hb]<;>(repeat(with_reducible refine And.intro ?_ ?_;focus first|omega|rfl|assumption|exact⟨_,rfl,rfl⟩|(simp;omega)|(simp;done)))
   ·have hsz':=sH hi hsz;have p6:=p4 h;rw[jh hi] at p6
    (repeat(with_reducible refine And.intro ?_ ?_;focus first|omega|rfl|assumption|exact⟨_,rfl,rfl⟩|(simp;omega)|(simp;done)))
    refine au (ih x.fArgs[i] (by have:=be (ac hi);omega) c (by omega) (by omega) (by omega)) ?_;simp -implicitDefEqProofs (disch:=omega) only[go_sem]<;>(repeat(with_reducible refine And.intro ?_ ?_;focus first|omega|rfl|assumption|exact⟨_,rfl,rfl⟩|(simp;omega)|(simp;done)));refine bU (i+1,pE c _) (by simp only;omega) rfl rfl ⟨by simp only;omega,?_,?_,fun h=> ?_,fun h=> ?_⟩
    ·simp only;unfold pE;split<;>omega
    ·simp only;unfold pE;split<;>omega
    ·simp only at h ⊢;rw[p6];have:=Oe (l:=c) (a:=x.fArgs[i].cnt) (by omega);rw[this.1];unfold pE;split<;>split<;>omega
    ·simp only at h ⊢;rw[p6];have:=Lb h;exact Og (by omega)
   ·have hc:c= -1:=by omega
    rw[p5 (by omega),hc]
  ·have hi:i=x.fArgs.length:=by omega
   by_cases hc:0<=c
   ·rw[p4 hc,hi,cj,ah.dG,WS (by omega)];exact int_eq (by simp)
   ·rw[p5 (by omega)];exact int_eq (by omega)
theorem TT(x:ah)(l:Int)(h0:0<=l)(h1:l<=1073741824)(hsz:x.sz<=4194304):aT prog 139 [x.v,.c (.d (.i .i64 l))] (.c (.d (.i .i64 (pE l x.cnt)))):=Fp _ x (cg _) l h0 h1 hsz
theorem WV(a b:Int):aT prog 154 [.c (.d (.i .i64 a)),.c (.d (.i .i64 b))] (.c (.d (.i .i64 (max a b)))):=fun S=>by
 refine zcx [.tmp 4] func154 ntmps154 ?_;simp -implicitDefEqProofs (disch:=omega) only[go_sem]
 with_reducible refine aj (fun hb=> ?_) (fun hb=> ?_)<;>have h:=hb<;>(try simp only[wf_preprocess] at h)<;>simp -implicitDefEqProofs (disch:=omega) only[go_sem,hb]<;>(repeat(with_reducible refine And.intro ?_ ?_;focus first|omega|rfl|assumption|exact⟨_,rfl,rfl⟩|(simp;omega)|(simp;done)))
 ·exact int_eq (by omega)
 ·exact int_eq (by omega)
theorem zW:∀n:Nat,∀x:ah,SizeOf.sizeOf x<n->x.sz<=4194304->aT prog 140 [x.v] (.c (.d (.i .i64 (jC x))))
 |0=>fun x h=>by omega
 |n+1=>by
  have ih:=zW n;intro x hn hsz S;have kH:=ah.gM x;have hts:=BS hsz;have hd1:=u6 x;have hd2:=iP x;refine zcx [.tmp 2] func140 ntmps140 ?_;simp -implicitDefEqProofs (disch:=omega) only[go_sem]
  refine bn (ι:=Nat×Nat) zmx rfl [1,3,4] (fun y=>[.c (.ptr (0,0) 0),.c (.d (.i .i64 y.2)),.c (.d (.i .i64 y.1))]) (fun y=>[.box [.d (.i .i64 x.aW),.d (.s x.fName),.d (.sl (x.fArgs.map ah.enc))]]::S)
   (fun y=>y.1<=x.fArgs.length/\jC x=max y.2 (depths (x.fArgs.drop y.1))) (fun y=>x.fArgs.length-y.1) (0,0) rfl rfl ⟨ao _,by simp[Io]⟩ ?_
  rintro⟨i,c⟩ ⟨p1,p2⟩;simp only at p1 p2;simp -implicitDefEqProofs (disch:=omega) only[go_sem]
  with_reducible refine aj (fun hb=> ?_) (fun hb=> ?_)<;>have h:=hb<;>(try simp only[wf_preprocess] at h)<;>simp -implicitDefEqProofs (disch:=omega) only[go_sem,hb]<;>(repeat(with_reducible refine And.intro ?_ ?_;focus first|omega|rfl|assumption|exact⟨_,rfl,rfl⟩|(simp;omega)|(simp;done)))
  ·have hi:i<x.fArgs.length:=by omega
   have hsz':=sH hi hsz;rw[CY hi] at p2;have hd3:=u6 x.fArgs[i];have hd4:=iP x.fArgs[i]
   (repeat(with_reducible refine And.intro ?_ ?_;focus first|omega|rfl|assumption|exact⟨_,rfl,rfl⟩|(simp;omega)|(simp;done)))
   refine au (ih x.fArgs[i] (by have:=be (ac hi);omega) (by omega)) ?_;simp -implicitDefEqProofs (disch:=omega) only[go_sem]<;>(repeat(with_reducible refine And.intro ?_ ?_;focus first|omega|rfl|assumption|exact⟨_,rfl,rfl⟩|(simp;omega)|(simp;done)));refine au (WV _ _) ?_;simp -implicitDefEqProofs (disch:=omega) only[go_sem]<;>(repeat(with_reducible refine And.intro ?_ ?_;focus first|omega|rfl|assumption|exact⟨_,rfl,rfl⟩|(simp;omega)|(simp;done)));rw[show max (c:Int) (1+(jC x.fArgs[i]:Int))=((max c (1+jC x.fArgs[i]):Nat):Int) by omega];exact bU (i+1,max c (1+jC x.fArgs[i])) (by simp only;omega) rfl rfl ⟨by simp only;omega,by simp only;omega⟩
  ·have hi:i=x.fArgs.length:=by omega
   rw[hi,cj,depths] at p2;exact int_eq (by omega)
theorem Lg(x:ah)(hsz:x.sz<=4194304):aT prog 140 [x.v] (.c (.d (.i .i64 (jC x)))):=zW _ x (cg _) hsz
theorem zX:∀n:Nat,∀x:ah,SizeOf.sizeOf x<n->x.sz<=4194304->aT prog 108 [x.v] (.c (.d (.i .i64 (jC x))))
 |0=>fun x h=>by omega
 |n+1=>by
  have ih:=zX n;intro x hn hsz S;have kH:=ah.gM x;have hts:=BS hsz;have hd1:=u6 x;have hd2:=iP x;refine zcx [.tmp 2] func108 ntmps108 ?_;simp -implicitDefEqProofs (disch:=omega) only[go_sem]
  refine bn (ι:=Nat×Nat) zmx rfl [3,7,8,9] (fun y=>[.c (.d (.i .i64 y.2)),.c (.d (.sl (x.fArgs.map ah.enc))),.c (.d (.i .i64 x.fArgs.length)),.c (.d (.i .i64 y.1))]) (fun y=>[.box [.d (.i .i64 x.aW),.d (.s x.fName),.d (.sl (x.fArgs.map ah.enc))]]::S)
   (fun y=>y.1<=x.fArgs.length/\jC x=max y.2 (depths (x.fArgs.drop y.1))) (fun y=>x.fArgs.length-y.1) (0,0) rfl rfl ⟨ao _,by simp[Io]⟩ ?_
  rintro⟨i,c⟩ ⟨p1,p2⟩;simp only at p1 p2;simp -implicitDefEqProofs (disch:=omega) only[go_sem]
  with_reducible refine aj (fun hb=> ?_) (fun hb=> ?_)<;>have h:=hb<;>(try simp only[wf_preprocess] at h)<;>simp -implicitDefEqProofs (disch:=omega) only[go_sem,hb]<;>(repeat(with_reducible refine And.intro ?_ ?_;focus first|omega|rfl|assumption|exact⟨_,rfl,rfl⟩|(simp;omega)|(simp;done)))
  ·have hi:i<x.fArgs.length:=by omega
   have hsz':=sH hi hsz;rw[CY hi] at p2;have hd3:=u6 x.fArgs[i];have hd4:=iP x.fArgs[i]
   (repeat(with_reducible refine And.intro ?_ ?_;focus first|omega|rfl|assumption|exact⟨_,rfl,rfl⟩|(simp;omega)|(simp;done)))
   refine au (ih x.fArgs[i] (by have:=be (ac hi);omega) (by omega)) ?_;simp -implicitDefEqProofs (disch:=omega) only[go_sem]<;>(repeat(with_reducible refine And.intro ?_ ?_;focus first|omega|rfl|assumption|exact⟨_,rfl,rfl⟩|(simp;omega)|(simp;done)));rw[show max (c:Int) ((jC x.fArgs[i]:Int)+1)=((max c (jC x.fArgs[i]+1):Nat):Int) by omega];exact dL 1 (by decide) (i+1,max c (jC x.fArgs[i]+1)) (by simp only;omega) rfl rfl rfl rfl ⟨by simp only;omega,by simp only;omega⟩
  ·have hi:i=x.fArgs.length:=by omega
   rw[hi,cj,depths] at p2;exact int_eq (by omega)
theorem Lh(x:ah)(hsz:x.sz<=4194304):aT prog 108 [x.v] (.c (.d (.i .i64 (jC x)))):=zX _ x (cg _) hsz
theorem A9:∀n:Nat,∀x:ah,SizeOf.sizeOf x<n->x.sz<=4194304->aT prog 109 [x.v] (.c (.d (.i .i64 x.cnt)))
 |0=>fun x h=>by omega
 |n+1=>by
  have ih:=A9 n;intro x hn hsz S;have kH:=ah.gM x;have hts:=BS hsz;have hd2:=iP x;refine zcx [.tmp 2] func109 ntmps109 ?_;simp -implicitDefEqProofs (disch:=omega) only[go_sem]
  refine bn (ι:=Nat×Nat) zmx rfl [3,7,8,9] (fun y=>[.c (.d (.i .i64 y.2)),.c (.d (.sl (x.fArgs.map ah.enc))),.c (.d (.i .i64 x.fArgs.length)),.c (.d (.i .i64 y.1))]) (fun y=>[.box [.d (.i .i64 x.aW),.d (.s x.fName),.d (.sl (x.fArgs.map ah.enc))]]::S)
   (fun y=>y.1<=x.fArgs.length/\x.cnt=y.2+ah.dG (x.fArgs.drop y.1)) (fun y=>x.fArgs.length-y.1) (0,1) rfl rfl ⟨ao _,by simp[ah.kP]⟩ ?_
  rintro⟨i,c⟩ ⟨p1,p2⟩;simp only at p1 p2;simp -implicitDefEqProofs (disch:=omega) only[go_sem]
  with_reducible refine aj (fun hb=> ?_) (fun hb=> ?_)<;>have h:=hb<;>(try simp only[wf_preprocess] at h)<;>simp -implicitDefEqProofs (disch:=omega) only[go_sem,hb]<;>(repeat(with_reducible refine And.intro ?_ ?_;focus first|omega|rfl|assumption|exact⟨_,rfl,rfl⟩|(simp;omega)|(simp;done)))
  ·have hi:i<x.fArgs.length:=by omega
   have hsz':=sH hi hsz;rw[jh hi] at p2
   (repeat(with_reducible refine And.intro ?_ ?_;focus first|omega|rfl|assumption|exact⟨_,rfl,rfl⟩|(simp;omega)|(simp;done)))
   refine au (ih x.fArgs[i] (by have:=be (ac hi);omega) (by omega)) ?_;simp -implicitDefEqProofs (disch:=omega) only[go_sem]<;>(repeat(with_reducible refine And.intro ?_ ?_;focus first|omega|rfl|assumption|exact⟨_,rfl,rfl⟩|(simp;omega)|(simp;done)));rw[show(c:Int)+(x.fArgs[i].cnt:Int)=((c+x.fArgs[i].cnt:Nat):Int) by omega];exact dL 1 (by decide) (i+1,c+x.fArgs[i].cnt) (by simp only;omega) rfl rfl rfl rfl ⟨by simp only;omega,by simp only;omega⟩
  ·have hi:i=x.fArgs.length:=by omega
   rw[hi,cj,ah.dG] at p2;exact int_eq (by omega)
theorem Nl(x:ah)(hsz:x.sz<=4194304):aT prog 109 [x.v] (.c (.d (.i .i64 x.cnt))):=A9 _ x (cg _) hsz
theorem Ba:∀n:Nat,(∀x:ah,SizeOf.sizeOf x<n->x.sz<=4194304->aT prog 107 [x.v] (.c (.d (.b (formed x)))))/\
 (∀xs:List ah,SizeOf.sizeOf xs<n->xs.length<=4194304->(∀t∈xs,t.sz<=4194304)->aT prog 85 [.c (.d (.sl (xs.map ah.enc))),.c (.fn 129 [])] (.c (.d (.b (!kG xs)))))
 |0=>⟨fun x h=>by omega,fun x h=>by omega⟩
 |n+1=>by
  obtain⟨ih,Li⟩:=Ba n;refine⟨fun x hn hsz S=> ?_,fun xs hn hlen hsz S=> ?_⟩
  ·have kH:=ah.gM x;have hts:=BS hsz
   have fin:∀b,vY x.aW x.fName x.fArgs.length=b->formed x=(b&&kG x.fArgs):=fun b hb=>by rw[<-hb];exact uZ x
   have hall:∀t∈x.fArgs,t.sz<=4194304:=fun t ht=>by
    obtain⟨i,hi,e⟩:=bm ht;rw[<-e];exact(sH hi hsz).1
   have tail:=Li x.fArgs (by omega) hts.1 hall
   have yes:vY x.aW x.fName x.fArgs.length=true->formed x= !(!kG x.fArgs):=fun h=>by rw[fin _ h];simp
   have no:vY x.aW x.fName x.fArgs.length=false->formed x=false:=fun h=>by rw[fin _ h];simp
   have shut:¬((x.aW=1\/x.aW=4)/\validName x.fName=true/\x.fArgs.length=0\/x.aW=3/\validName x.fName=true/\x.fArgs.length=1\/x.aW=2/\(validName x.fName=true/\x.fArgs.length<=3\/qO x.fName=true/\x.fArgs.length=0))->V.c (.d (.b false))=V.c (.d (.b (formed x))):=fun h=>ay (no (aI h)).symm;have open_:((x.aW=1\/x.aW=4)/\validName x.fName=true/\x.fArgs.length=0\/x.aW=3/\validName x.fName=true/\x.fArgs.length=1\/x.aW=2/\(validName x.fName=true/\x.fArgs.length<=3\/qO x.fName=true/\x.fArgs.length=0))->V.c (.d (.b (!(!kG x.fArgs))))=V.c (.d (.b (formed x))):=fun h=>ay (yes (bg h)).symm;clear yes no fin;refine zcx [.tmp 2] func107 ntmps107 ?_;simp -implicitDefEqProofs (disch:=omega) only[go_sem]
   repeat' (first
    |(with_reducible refine aj (fun hb=> ?_) (fun hb=> ?_)<;>have h:=hb<;>(try simp only[wf_preprocess] at h)<;>simp -implicitDefEqProofs (disch:=omega) only[go_sem,hb]<;>(repeat(with_reducible refine And.intro ?_ ?_;focus first|omega|rfl|assumption|exact⟨_,rfl,rfl⟩|(simp;omega)|(simp;done))))
    |(refine au (fA x.fName (by omega)) ?_;simp -implicitDefEqProofs (disch:=omega) only[go_sem])
    |(refine au (Le x.fName) ?_;simp -implicitDefEqProofs (disch:=omega) only[go_sem])
    |(refine au tail ?_;simp -implicitDefEqProofs (disch:=omega) only[go_sem]))
   all_goals first
    |(refine shut (fun y=> ?_);rcases y with⟨_,_,_⟩|⟨_,_,_⟩|⟨_,⟨_,_⟩|⟨_,_⟩⟩<;>first|omega|(simp_all;done))
    |(refine open_ ?_;first
       |exact .inl ⟨by omega,by assumption,by omega⟩
       |exact .inr (.inl ⟨by omega,by assumption,by omega⟩)
       |exact .inr (.inr ⟨by omega,.inl ⟨by assumption,by omega⟩⟩)
       |exact .inr (.inr ⟨by omega,.inr ⟨by assumption,by omega⟩⟩))
  ·have hcl:∀y∈xs,aT prog 129 [y.v] (.c (.d (.b (!formed y)))):=fun y hy S=>by
    have hys:=be hy;refine zcx [.tmp 2] func129 ntmps129 ?_;simp -implicitDefEqProofs (disch:=omega) only[go_sem];refine au (ih y (by omega) (hsz y hy)) ?_;simp -implicitDefEqProofs (disch:=omega) only[go_sem]<;>(repeat(with_reducible refine And.intro ?_ ?_;focus first|omega|rfl|assumption|exact⟨_,rfl,rfl⟩|(simp;omega)|(simp;done)))
   have hidx:aT prog 106 [.c (.d (.sl (xs.map ah.enc))),.c (.fn 129 [])] (.c (.d (.i .i64 (jM (fun y=> !formed y) xs)))):=fun S=>by
    refine zcx [.tmp 4] func106 ntmps106 ?_;simp -implicitDefEqProofs (disch:=omega) only[go_sem]
    refine bn (ι:=Nat) zmx rfl [0,1,7,8] (fun i=>[.c (.d (.sl (xs.map ah.enc))),.c (.fn 129 []),.c (.d (.i .i64 xs.length)),.c (.d (.i .i64 i))]) (fun _=>[]::S)
     (fun i=>i<=xs.length/\∀j,∀hj:j<xs.length,j<i->formed xs[j]=true) (fun i=>xs.length-i) 0 rfl rfl ⟨ao _,fun j _ h=>by omega⟩ ?_
    rintro i ⟨p1,p2⟩;simp -implicitDefEqProofs (disch:=omega) only[go_sem]
    with_reducible refine aj (fun hb=> ?_) (fun hb=> ?_)<;>have h:=hb<;>(try simp only[wf_preprocess] at h)<;>simp -implicitDefEqProofs (disch:=omega) only[go_sem,hb]<;>(repeat(with_reducible refine And.intro ?_ ?_;focus first|omega|rfl|assumption|exact⟨_,rfl,rfl⟩|(simp;omega)|(simp;done)))
    ·have hi:i<xs.length:=by omega
     (repeat(with_reducible refine And.intro ?_ ?_;focus first|omega|rfl|assumption|exact⟨_,rfl,rfl⟩|(simp;omega)|(simp;done)))
     refine au (hcl xs[i] (ac hi)) ?_;simp -implicitDefEqProofs (disch:=omega) only[go_sem]<;>(repeat(with_reducible refine And.intro ?_ ?_;focus first|omega|rfl|assumption|exact⟨_,rfl,rfl⟩|(simp;omega)|(simp;done)))
     with_reducible refine aj (fun hb=> ?_) (fun hb=> ?_)<;>have h:=hb<;>(try simp only[wf_preprocess] at h)<;>simp -implicitDefEqProofs (disch:=omega) only[go_sem,hb]<;>(repeat(with_reducible refine And.intro ?_ ?_;focus first|omega|rfl|assumption|exact⟨_,rfl,rfl⟩|(simp;omega)|(simp;done)))
     ·rw[jr hi (fun j hj hji=>by rw[p2 j hj hji];rfl) (by rw[h];rfl)]
     ·refine bU (i+1) (by omega) rfl rfl ⟨by omega,fun j hj hji=> ?_⟩;by_cases e:j=i
      ·subst e;exact h
      ·exact p2 j hj (by omega)
    ·rw[kZ (fun j hj=>by rw[p2 j hj (by omega)];rfl)]
   refine zcx [.tmp 4] func85 ntmps85 ?_;simp -implicitDefEqProofs (disch:=omega) only[go_sem];refine au (hidx) ?_;simp -implicitDefEqProofs (disch:=omega) only[go_sem]<;>(repeat(with_reducible refine And.intro ?_ ?_;focus first|omega|rfl|assumption|exact⟨_,rfl,rfl⟩|(simp;omega)|(simp;done)));rw[<-CX];exact ay nN
theorem Nn(x:ah)(hsz:x.sz<=4194304):aT prog 107 [x.v] (.c (.d (.b (formed x)))):=(Ba _).1 x (cg _) hsz
theorem qP(x:ah)(hsz:x.sz<=4194304):aT prog 87 [x.v] (.c (.d (.b (kg x)))):=fun S=>by
 refine zcx [.tmp 2] func87 ntmps87 ?_;simp -implicitDefEqProofs (disch:=omega) only[go_sem];refine au (Nn x hsz) ?_;simp -implicitDefEqProofs (disch:=omega) only[go_sem]<;>(repeat(with_reducible refine And.intro ?_ ?_;focus first|omega|rfl|assumption|exact⟨_,rfl,rfl⟩|(simp;omega)|(simp;done)))
 with_reducible refine aj (fun hb=> ?_) (fun hb=> ?_)<;>have h:=hb<;>(try simp only[wf_preprocess] at h)<;>simp -implicitDefEqProofs (disch:=omega) only[go_sem,hb]<;>(repeat(with_reducible refine And.intro ?_ ?_;focus first|omega|rfl|assumption|exact⟨_,rfl,rfl⟩|(simp;omega)|(simp;done)))
 ·have h1:=h;refine au (Lh x hsz) ?_;simp -implicitDefEqProofs (disch:=omega) only[go_sem]<;>(repeat(with_reducible refine And.intro ?_ ?_;focus first|omega|rfl|assumption|exact⟨_,rfl,rfl⟩|(simp;omega)|(simp;done)))
  with_reducible refine aj (fun hb=> ?_) (fun hb=> ?_)<;>have h:=hb<;>(try simp only[wf_preprocess] at h)<;>simp -implicitDefEqProofs (disch:=omega) only[go_sem,hb]<;>(repeat(with_reducible refine And.intro ?_ ?_;focus first|omega|rfl|assumption|exact⟨_,rfl,rfl⟩|(simp;omega)|(simp;done)))
  ·refine au (Nl x hsz) ?_;simp -implicitDefEqProofs (disch:=omega) only[go_sem]<;>(repeat(with_reducible refine And.intro ?_ ?_;focus first|omega|rfl|assumption|exact⟨_,rfl,rfl⟩|(simp;omega)|(simp;done)));exact ay (by rw[j3];exact dY ⟨fun y=>⟨h1,by omega,by omega⟩,fun y=>by have:=y.2.2;omega⟩)
  ·exact ay (aI fun y=>by have:=y.2.1;omega).symm
 ·exact ay (aI fun y=>by rw[y.1] at h;cases h).symm
theorem Fq:∀n:Nat,∀x:ah,SizeOf.sizeOf x<n->x.sz<=4194304->aT prog 141 [x.v] (.c (.d (.b (formed x))))
 |0=>fun x h=>by omega
 |n+1=>by
  have ih:=Fq n;intro x hn hsz S;have kH:=ah.gM x;have hts:=BS hsz;have shut:¬((x.aW=1\/x.aW=4)/\validName x.fName=true/\x.fArgs.length=0\/x.aW=3/\validName x.fName=true/\x.fArgs.length=1\/x.aW=2/\(validName x.fName=true/\x.fArgs.length<=3\/qO x.fName=true/\x.fArgs.length=0))->V.c (.d (.b false))=V.c (.d (.b (formed x))):=fun h=>ay (by rw[uZ,show vY x.aW x.fName x.fArgs.length=false from aI h];rfl)
  have ac2:∀b:Bool,(b=true<->((x.aW=1\/x.aW=4)/\validName x.fName=true/\x.fArgs.length=0\/x.aW=3/\validName x.fName=true/\x.fArgs.length=1\/x.aW=2/\(validName x.fName=true/\x.fArgs.length<=3\/qO x.fName=true/\x.fArgs.length=0)))->b=vY x.aW x.fName x.fArgs.length:=fun b h=>by
   rw[eh,h];unfold vY;rw[oD]
  refine zcx [.tmp 2] func141 ntmps141 ?_;simp -implicitDefEqProofs (disch:=omega) only[go_sem];refine au (fB x.fName (by omega)) ?_;simp -implicitDefEqProofs (disch:=omega) only[go_sem]<;>(repeat(with_reducible refine And.intro ?_ ?_;focus first|omega|rfl|assumption|exact⟨_,rfl,rfl⟩|(simp;omega)|(simp;done)))
  repeat' (first
   |(with_reducible refine aj (fun hb=> ?_) (fun hb=> ?_)<;>have h:=hb<;>(try simp only[wf_preprocess] at h)<;>simp -implicitDefEqProofs (disch:=omega) only[go_sem,hb]<;>(repeat(with_reducible refine And.intro ?_ ?_;focus first|omega|rfl|assumption|exact⟨_,rfl,rfl⟩|(simp;omega)|(simp;done))))
   |(refine au (TR x.fName) ?_;simp -implicitDefEqProofs (disch:=omega) only[go_sem]))
  all_goals first
   |(refine shut (fun y=> ?_);rcases y with⟨_,_,_⟩|⟨_,_,_⟩|⟨_,⟨_,_⟩|⟨_,_⟩⟩<;>first|omega|(simp_all;done))
   |skip
  all_goals
   refine bn (ι:=Nat×Bool) zmx rfl [1,3,4] (fun y=>[.c (.ptr (0,0) 0),.c (.d (.b y.2)),.c (.d (.i .i64 y.1))]) (fun y=>[.box [.d (.i .i64 x.aW),.d (.s x.fName),.d (.sl (x.fArgs.map ah.enc))]]::S)
    (fun y=>y.1<=x.fArgs.length/\(y.2&&kG (x.fArgs.drop y.1))=formed x) (fun y=>x.fArgs.length-y.1) (0,vY x.aW x.fName x.fArgs.length) ?_ rfl ⟨ao _,by rw[uZ];rfl⟩ ?_
   ·simp only[af,ap];simp -implicitDefEqProofs (disch:=omega) only[go_sem,eI,V.c.injEq,C.d.injEq,D.b.injEq,Int.natCast_zero];refine ac2 _ ⟨fun y=> ?_,fun y=> ?_⟩
    ·(try simp only[decide_eq_true_eq,dd] at y)<;>first
       |exact .inl ⟨by omega,by assumption,by omega⟩
       |exact .inr (.inl ⟨by omega,by assumption,by omega⟩)
       |exact .inr (.inr ⟨by omega,.inl ⟨by assumption,by omega⟩⟩)
       |exact .inr (.inr ⟨by omega,.inr ⟨by assumption,by omega⟩⟩)
    ·rcases y with⟨_,_,_⟩|⟨_,_,_⟩|⟨_,⟨_,_⟩|⟨_,_⟩⟩<;>first|omega|(simp only[decide_eq_true_eq];omega)|(simp_all;done)
   rintro⟨i,c⟩ ⟨p1,p2⟩;simp only at p1 p2;simp -implicitDefEqProofs (disch:=omega) only[go_sem]
   with_reducible refine aj (fun hb=> ?_) (fun hb=> ?_)<;>have h:=hb<;>(try simp only[wf_preprocess] at h)<;>simp -implicitDefEqProofs (disch:=omega) only[go_sem,hb]<;>(repeat(with_reducible refine And.intro ?_ ?_;focus first|omega|rfl|assumption|exact⟨_,rfl,rfl⟩|(simp;omega)|(simp;done)))
   ·have hi:i<x.fArgs.length:=by omega
    have hsz':=sH hi hsz;rw[Lf hi] at p2
    with_reducible refine aj (fun hb=> ?_) (fun hb=> ?_)<;>have h:=hb<;>(try simp only[wf_preprocess] at h)<;>simp -implicitDefEqProofs (disch:=omega) only[go_sem,hb]<;>(repeat(with_reducible refine And.intro ?_ ?_;focus first|omega|rfl|assumption|exact⟨_,rfl,rfl⟩|(simp;omega)|(simp;done)))
    ·refine au (ih x.fArgs[i] (by have:=be (ac hi);omega) (by omega)) ?_;simp -implicitDefEqProofs (disch:=omega) only[go_sem];exact bU (i+1,formed x.fArgs[i]) (by simp only;omega) rfl rfl ⟨by simp only;omega,by rw[<-p2,h];rfl⟩
    ·exact bU (i+1,false) (by simp only;omega) rfl rfl ⟨by simp only;omega,by rw[<-p2,h];rfl⟩
   ·have hi:i=x.fArgs.length:=by omega
    rw[hi,cj,kG,bx] at p2;rw[p2]
theorem TU(x:ah)(hsz:x.sz<=4194304):aT prog 141 [x.v] (.c (.d (.b (formed x)))):=Fq _ x (cg _) hsz
theorem qQ(x:ah)(hsz:x.sz<=4194304):aT prog 117 [x.v] (.c (.d (.b (kg x)))):=fun S=>by
 refine zcx [.tmp 2] func117 ntmps117 ?_;simp -implicitDefEqProofs (disch:=omega) only[go_sem];refine au (TT x 60 (by omega) (by omega) hsz) ?_;simp -implicitDefEqProofs (disch:=omega) only[go_sem]<;>(repeat(with_reducible refine And.intro ?_ ?_;focus first|omega|rfl|assumption|exact⟨_,rfl,rfl⟩|(simp;omega)|(simp;done)))
 with_reducible refine aj (fun hb=> ?_) (fun hb=> ?_)<;>have h:=hb<;>(try simp only[wf_preprocess] at h)<;>simp -implicitDefEqProofs (disch:=omega) only[go_sem,hb]<;>(repeat(with_reducible refine And.intro ?_ ?_;focus first|omega|rfl|assumption|exact⟨_,rfl,rfl⟩|(simp;omega)|(simp;done)))
 ·have h1:=(Oe (l:=60) (a:=x.cnt) (by omega)).2;refine au (Lg x hsz) ?_;simp -implicitDefEqProofs (disch:=omega) only[go_sem]<;>(repeat(with_reducible refine And.intro ?_ ?_;focus first|omega|rfl|assumption|exact⟨_,rfl,rfl⟩|(simp;omega)|(simp;done)))
  with_reducible refine aj (fun hb=> ?_) (fun hb=> ?_)<;>have h:=hb<;>(try simp only[wf_preprocess] at h)<;>simp -implicitDefEqProofs (disch:=omega) only[go_sem,hb]<;>(repeat(with_reducible refine And.intro ?_ ?_;focus first|omega|rfl|assumption|exact⟨_,rfl,rfl⟩|(simp;omega)|(simp;done)))
  ·refine au (TU x hsz) ?_;simp -implicitDefEqProofs (disch:=omega) only[go_sem]<;>(repeat(with_reducible refine And.intro ?_ ?_;focus first|omega|rfl|assumption|exact⟨_,rfl,rfl⟩|(simp;omega)|(simp;done)));refine ay ?_
   cases hf:formed x with
   |false=>exact(aI fun y=>by rw[hf] at y;cases y.1).symm
   |true=>exact(bg ⟨hf,by omega,by omega⟩).symm
  ·exact ay (aI fun y=>by have:=y.2.1;omega).symm
 ·have h1:=Lb (l:=60) (a:=x.cnt) (by omega);exact ay (aI fun y=>by have:=y.2.2;omega).symm
theorem Cv(x:bR)(hn:x.dP.length<=1073741824)(hsz:x.fType.sz<=4194304):aT prog 118 [x.v] (.c (.d (.b (validName x.dP&&kg x.fType)))):=fun S=>by
 refine zcx [.tmp 2] func118 ntmps118 ?_;simp -implicitDefEqProofs (disch:=omega) only[go_sem];refine au (fB x.dP hn) ?_;simp -implicitDefEqProofs (disch:=omega) only[go_sem]<;>(repeat(with_reducible refine And.intro ?_ ?_;focus first|omega|rfl|assumption|exact⟨_,rfl,rfl⟩|(simp;omega)|(simp;done)))
 with_reducible refine aj (fun hb=> ?_) (fun hb=> ?_)<;>have h:=hb<;>(try simp only[wf_preprocess] at h)<;>simp -implicitDefEqProofs (disch:=omega) only[go_sem,hb]<;>(repeat(with_reducible refine And.intro ?_ ?_;focus first|omega|rfl|assumption|exact⟨_,rfl,rfl⟩|(simp;omega)|(simp;done)))
 ·refine au (qQ x.fType hsz) ?_;simp -implicitDefEqProofs (disch:=omega) only[go_sem]<;>(repeat(with_reducible refine And.intro ?_ ?_;focus first|omega|rfl|assumption|exact⟨_,rfl,rfl⟩|(simp;omega)|(simp;done)))
 ·rfl
theorem Cw(x:bR)(hn:x.dP.length<=1073741824)(hsz:x.fType.sz<=4194304):aT prog 93 [x.v] (.c (.d (.b (validName x.dP&&kg x.fType)))):=fun S=>by
 refine zcx [.tmp 2] func93 ntmps93 ?_;simp -implicitDefEqProofs (disch:=omega) only[go_sem];refine au (fA x.dP hn) ?_;simp -implicitDefEqProofs (disch:=omega) only[go_sem]<;>(repeat(with_reducible refine And.intro ?_ ?_;focus first|omega|rfl|assumption|exact⟨_,rfl,rfl⟩|(simp;omega)|(simp;done)))
 with_reducible refine aj (fun hb=> ?_) (fun hb=> ?_)<;>have h:=hb<;>(try simp only[wf_preprocess] at h)<;>simp -implicitDefEqProofs (disch:=omega) only[go_sem,hb]<;>(repeat(with_reducible refine And.intro ?_ ?_;focus first|omega|rfl|assumption|exact⟨_,rfl,rfl⟩|(simp;omega)|(simp;done)))
 ·refine au (qP x.fType hsz) ?_;simp -implicitDefEqProofs (disch:=omega) only[go_sem]<;>(repeat(with_reducible refine And.intro ?_ ?_;focus first|omega|rfl|assumption|exact⟨_,rfl,rfl⟩|(simp;omega)|(simp;done)))
 ·rfl
mutual
def kQ:ah->List ah
 | .mk k n a=>.mk k n a::kr a
def kr:List ah->List ah
 |[]=>[]
 |t::ts=>kQ t++kr ts
end
theorem u7(t:ah):kQ t=t::kr t.fArgs:=by cases t;rw[kQ];rfl
theorem uG{ts:List ah}{i:Nat}(hi:i<ts.length):kr (ts.drop i)=kQ ts[i]++kr (ts.drop (i+1)):=by rw[bh hi,kr]
mutual
theorem Bb:∀t:ah,(kQ t).length=t.cnt
 | .mk k n a=>by rw[kQ,aa,ah.cnt,Fu a];omega
theorem Fu:∀ts:List ah,(kr ts).length=ah.dG ts
 |[]=>rfl
 |t::ts=>by rw[kr,ab,ah.dG,Bb t,Fu ts]
end
def oN(out:List (List UInt8))(u:ah):List (List UInt8):=if u.aW=1/\u.fName∉out then out++[u.fName] else out
def gB(out:List (List UInt8))(t:ah):List (List UInt8):=(kQ t).foldl oN out
def og(out:List (List UInt8))(ts:List ah):List (List UInt8):=(kr ts).foldl oN out
theorem DF(out:List (List UInt8))(u:ah):(oN out u).length<=out.length+1:=by
 unfold oN
 split<;>simp
theorem Ir:∀(us:List ah)(out:List (List UInt8)),(us.foldl oN out).length<=out.length+us.length
 |[],out=>by simp
 |u::us,out=>by
  have h1:=DF out u;have h2:=Ir us (oN out u);rw[dA,aa];omega
theorem vg(t:ah)(out:List (List UInt8)):(gB out t).length<=out.length+t.cnt:=by
 have:=Ir (kQ t) out;rw[Bb] at this;exact this
theorem WW(out:List (List UInt8))(t:ah):gB out t=og (oN out t) t.fArgs:=by
 unfold gB og;rw[u7,dA]
theorem CZ{ts:List ah}{i:Nat}(hi:i<ts.length)(out:List (List UInt8)):og out (ts.drop i)=og (gB out ts[i]) (ts.drop (i+1)):=by
 unfold og gB;rw[uG hi,List.foldl_append]
def lY(t:ah):Bool:=(kQ t).any fun u=>decide (u.aW=3)
def pG(ts:List ah):Bool:=(kr ts).any fun u=>decide (u.aW=3)
theorem zx(t:ah):lY t=(decide (t.aW=3)||pG t.fArgs):=by
 unfold lY pG;rw[u7,List.any_cons]
theorem Jj{ts:List ah}{i:Nat}(hi:i<ts.length):pG (ts.drop i)=(lY ts[i]||pG (ts.drop (i+1))):=by
 unfold pG lY;rw[uG hi,List.any_append]
theorem Lj(us:List ah):∀b:Bool,us.foldl (fun b u=>b||decide (u.aW=3)) b=(b||us.any fun u=>decide (u.aW=3)):=by
 induction us with
 |nil=>intro b;simp
 |cons u us ih=>intro b;rw[dA,ih,List.any_cons,Bool.or_assoc]
def Fv(v:List UInt8)(u:ah):Bool:=decide (u.aW=1/\u.fName=v)
def lM(v:List UInt8)(t:ah):Nat:=(kQ t).countP (Fv v)
def p9(v:List UInt8)(ts:List ah):Nat:=(kr ts).countP (Fv v)
theorem TV(v:List UInt8)(t:ah):lM v t=(if Fv v t then 1 else 0)+p9 v t.fArgs:=by
 unfold lM p9;rw[u7,List.countP_cons];omega
theorem Ll{v:List UInt8}{ts:List ah}{i:Nat}(hi:i<ts.length):p9 v (ts.drop i)=lM v ts[i]+p9 v (ts.drop (i+1)):=by
 unfold p9 lM;rw[uG hi,List.countP_append]
theorem TW(v:List UInt8)(t:ah):lM v t<=t.cnt:=by
 unfold lM;rw[<-Bb];exact List.countP_le_length
def occurs(v:List UInt8)(t:ah):Bool:=decide (0<lM v t)
theorem wE{x:ah}{i:Nat}(hi:i<x.fArgs.length)(h:x.sz<=4194304):x.fArgs[i].sz<=4194304/\x.fArgs.length<=4194304/\x.fName.length<=4194304:=by
 have hx:x.fArgs[i].sz<=aH (x.fArgs.map ah.enc):=dK (bd (ac hi));simp only[ah.sz,ah.aB,aY,D.sz,al] at h;omega
theorem Bc{x:ah}(h:x.sz<=4194304):x.fArgs.length<=4194304/\x.fName.length<=4194304:=by
 simp only[ah.sz,ah.aB,aY,D.sz,al] at h;omega
theorem Bd:∀n:Nat,∀t:ah,SizeOf.sizeOf t<n->t.sz<=4194304->∀(g:Nat)(caps:List (Key×Nat))(α:Type)(st:α->Store)(I:Nat->α->Prop)(f:α->ah->α)(hf:zn prog g caps st I f ah.v (fun u=>u.sz<=4194304))(m:Nat)(a:α),I (m+t.cnt) a->
 I m ((kQ t).foldl f a)/\bK prog 88 [t.v,.c (.fn g caps)] (st a) (fun r S'=>r=.gq []/\S'=st ((kQ t).foldl f a))
 |0=>fun t h=>by omega
 |n+1=>by
  have ih:=Bd n;intro t hn hsz g caps α st I f hf m a ha;have kH:=ah.gM t;have hts:=Bc hsz;rw[ah.kP,show m+(1+ah.dG t.fArgs)=(m+ah.dG t.fArgs)+1 by omega] at ha;have h1:=hf _ a t ha hsz
  have hI:∀(ts:List ah),SizeOf.sizeOf ts<n->(∀x∈ts,x.sz<=4194304)->∀a,I (m+ah.dG ts) a->I m ((kr ts).foldl f a):=by
   intro ts
   induction ts with
   |nil=>intro _ _ a ha;exact ha
   |cons x xs ihx=>
    intro hs hz a ha;simp only[List.cons.sizeOf_spec] at hs;rw[kr,List.foldl_append];rw[ah.dG,show m+(x.cnt+ah.dG xs)=(m+ah.dG xs)+x.cnt by omega] at ha;exact ihx (by omega) (fun y hy=>hz y (by simp[hy])) _ (ih x (by omega) (hz x (by simp)) g caps α st I f hf _ a ha).1
  have hall:∀x∈t.fArgs,x.sz<=4194304:=fun x hx=>by
   obtain⟨i,hi,e⟩:=bm hx;rw[<-e];exact(wE hi hsz).1
  refine⟨by rw[u7,dA];exact hI t.fArgs (by omega) hall _ h1.1,?_⟩;refine zcx [] func88 ntmps88 ?_;simp -implicitDefEqProofs (disch:=omega) only[go_sem];refine bq rfl (h1.2 [_]) ?_;simp -implicitDefEqProofs (disch:=omega) only[go_sem]
  refine bn (ι:=Nat×α) zmx rfl [1,10,11,12] (fun y=>[.c (.fn g (gG 1 caps)),.c (.d (.sl (t.fArgs.map ah.enc))),.c (.d (.i .i64 t.fArgs.length)),.c (.d (.i .i64 y.1))]) (fun y=>[.box [.d (.i .i64 t.aW),.d (.s t.fName),.d (.sl (t.fArgs.map ah.enc))]]::st y.2)
   (fun y=>y.1<=t.fArgs.length/\I (m+ah.dG (t.fArgs.drop y.1)) y.2/\(kr (t.fArgs.drop y.1)).foldl f y.2=(kQ t).foldl f a) (fun y=>t.fArgs.length-y.1) (0,f a t) rfl rfl ⟨ao _,h1.1,by rw[u7,dA];rfl⟩ ?_
  rintro⟨i,b⟩ ⟨p1,p2,p3⟩;simp only at p1 p2 p3;simp -implicitDefEqProofs (disch:=omega) only[go_sem]
  with_reducible refine aj (fun hb=> ?_) (fun hb=> ?_)<;>have h:=hb<;>(try simp only[wf_preprocess] at h)<;>simp -implicitDefEqProofs (disch:=omega) only[go_sem,hb]<;>(repeat(with_reducible refine And.intro ?_ ?_;focus first|omega|rfl|assumption|exact⟨_,rfl,rfl⟩|(simp;omega)|(simp;done)))
  ·have hi:i<t.fArgs.length:=by omega
   have hs:=be (ac hi);rw[uG hi,List.foldl_append] at p3;rw[bh hi,ah.dG,show m+(t.fArgs[i].cnt+ah.dG (t.fArgs.drop (i+1)))=(m+ah.dG (t.fArgs.drop (i+1)))+t.fArgs[i].cnt by omega] at p2;have h2:=(ih t.fArgs[i] (by omega) (wE hi hsz).1 g caps α st I f hf _ b p2).1
   (repeat(with_reducible refine And.intro ?_ ?_;focus first|omega|rfl|assumption|exact⟨_,rfl,rfl⟩|(simp;omega)|(simp;done)))
   refine bq rfl (((ih t.fArgs[i] (by omega) (wE hi hsz).1 g (gG 1 caps) α (fun a=>[.box [.d (.i .i64 t.aW),.d (.s t.fName),.d (.sl (t.fArgs.map ah.enc))],.box [.d (.i .i64 t.fArgs[i].aW),.d (.s t.fArgs[i].fName),.d (.sl (t.fArgs[i].fArgs.map ah.enc))]]::st a) I f (hf.push _) _ b p2)).2) ?_;simp -implicitDefEqProofs (disch:=omega) only[go_sem];exact dL 1 (by decide) (i+1,(kQ t.fArgs[i]).foldl f b) (by simp only;omega) rfl rfl (by simp only[jl,nk,ef,dj,V.refs,C.refs,K7,bx]) rfl ⟨by simp only;omega,h2,p3⟩
  ·have hi:i=t.fArgs.length:=by omega
   rw[hi,cj,kr,List.foldl_nil] at p3;rw[p3]
theorem C8{t:ah}(hsz:t.sz<=4194304){g:Nat}{caps:List (Key×Nat)}{α:Type}{st:α->Store}{I:Nat->α->Prop}{f:α->ah->α}(hf:zn prog g caps st I f ah.v (fun u=>u.sz<=4194304))(m:Nat)(a:α)(ha:I (m+t.cnt) a):
 I m ((kQ t).foldl f a)/\bK prog 88 [t.v,.c (.fn g caps)] (st a) (fun r S'=>r=.gq []/\S'=st ((kQ t).foldl f a)):=Bd _ t (cg _) hsz g caps α st I f hf m a ha
theorem Cx(rest:List Ab.Obj)(S:Store):zn prog 110 [((0,0),0)] (fun out:List (List UInt8)=>(.box [.bM (0,1) (out.map encS)]:: .tok 1 (out.map encS)::rest)::S) (fun n out=>out.length+n<=1073741824) oN ah.v (fun u=>u.sz<=4194304):=by
 intro n out u hI hu;refine⟨by have:=DF out u;omega,fun F=> ?_⟩;have hts:=Bc hu;refine zcx [] func110 ntmps110 ?_;simp -implicitDefEqProofs (disch:=omega) only[go_sem]
 with_reducible refine aj (fun hb=> ?_) (fun hb=> ?_)<;>have h:=hb<;>(try simp only[wf_preprocess] at h)<;>simp -implicitDefEqProofs (disch:=omega) only[go_sem,hb]<;>(repeat(with_reducible refine And.intro ?_ ?_;focus first|omega|rfl|assumption|exact⟨_,rfl,rfl⟩|(simp;omega)|(simp;done)))
 ·have h1:=h;refine au (pF out u.fName (by omega)) ?_;simp -implicitDefEqProofs (disch:=omega) only[go_sem]<;>(repeat(with_reducible refine And.intro ?_ ?_;focus first|omega|rfl|assumption|exact⟨_,rfl,rfl⟩|(simp;omega)|(simp;done)))
  with_reducible refine aj (fun hb=> ?_) (fun hb=> ?_)<;>have h:=hb<;>(try simp only[wf_preprocess] at h)<;>simp -implicitDefEqProofs (disch:=omega) only[go_sem,hb]<;>(repeat(with_reducible refine And.intro ?_ ?_;focus first|omega|rfl|assumption|exact⟨_,rfl,rfl⟩|(simp;omega)|(simp;done)))
  ·(repeat(with_reducible refine And.intro ?_ ?_;focus first|omega|rfl|assumption|exact⟨_,rfl,rfl⟩|(simp;omega)|(simp;done)))
   have ha:oN out u=out++[u.fName]:=if_pos ⟨h1,h⟩;rw[ha];simp[encS]
  ·have ha:oN out u=out:=if_neg fun x=>x.2 h;rw[ha]
 ·have ha:oN out u=out:=if_neg fun x=>h x.1;rw[ha]
theorem GR(ts:List ah)(hl:ts.length<=4194304)(hz:∀t∈ts,t.sz<=4194304)(hc:ah.dG ts<=1073741823):aT prog 90 [.c (.d (.sl (ts.map ah.enc)))] (.c (.d (.sl ((og [] ts).map encS)))):=fun S=>by
 refine zcx [.tmp 2] func90 ntmps90 ?_;simp -implicitDefEqProofs (disch:=omega) only[go_sem]
 (repeat(with_reducible refine And.intro ?_ ?_;focus first|omega|rfl|assumption|exact⟨_,rfl,rfl⟩|(simp;omega)|(simp;done)))
 refine uY 0 0 1 [] [.bF []] rfl rfl (by simp) ?_
 refine bn (ι:=Nat×List (List UInt8)) zmx rfl [3,7,8,9] (fun y=>[.c (.ptr (0,0) 0),.c (.d (.sl (ts.map ah.enc))),.c (.d (.i .i64 ts.length)),.c (.d (.i .i64 y.1))]) (fun y=>[.box [.bM (0,1) (y.2.map encS)],.tok 1 (y.2.map encS)]::S)
  (fun y=>y.1<=ts.length/\y.2.length+ah.dG (ts.drop y.1)<=1073741824/\og y.2 (ts.drop y.1)=og [] ts) (fun y=>ts.length-y.1) (0,[]) rfl rfl ⟨ao _,by simp only[cQ,ae];omega,rfl⟩ ?_
 rintro⟨i,out⟩ ⟨p1,p2,p3⟩;simp only at p1 p2 p3;simp -implicitDefEqProofs (disch:=omega) only[go_sem]
 with_reducible refine aj (fun hb=> ?_) (fun hb=> ?_)<;>have h:=hb<;>(try simp only[wf_preprocess] at h)<;>simp -implicitDefEqProofs (disch:=omega) only[go_sem,hb]<;>(repeat(with_reducible refine And.intro ?_ ?_;focus first|omega|rfl|assumption|exact⟨_,rfl,rfl⟩|(simp;omega)|(simp;done)))
 ·have hi:i<ts.length:=by omega
  rw[CZ hi] at p3;rw[bh hi,ah.dG] at p2;have hlen:=vg ts[i] out
  (repeat(with_reducible refine And.intro ?_ ?_;focus first|omega|rfl|assumption|exact⟨_,rfl,rfl⟩|(simp;omega)|(simp;done)))
  refine bq rfl (C8 (hz _ (ac hi)) (Cx [Ab.Obj.box [.d (.i .i64 ts[i].aW),.d (.s ts[i].fName),.d (.sl (ts[i].fArgs.map ah.enc))]] S) (ah.dG (ts.drop (i+1))) out (by omega)).2 ?_;simp -implicitDefEqProofs (disch:=omega) only[go_sem];exact dL 2 (by decide) (i+1,gB out ts[i]) (by simp only;omega) rfl rfl rfl rfl ⟨by simp only;omega,by simp only;omega,p3⟩
 ·have hi:i=ts.length:=by omega
  rw[hi,cj] at p3;rw[<-p3];rfl
theorem sI(t:ah)(hsz:t.sz<=4194304):aT prog 62 [t.v] (.c (.d (.sl ((gB [] t).map encS)))):=fun S=>by
 have hc:=iP t;have h0:=GR [t] (by simp) (by simpa using hsz) (by simp[ah.dG];omega);simp only[af,ap,ah.aB] at h0;refine zcx [.tmp 2] func62 ntmps62 ?_;simp -implicitDefEqProofs (disch:=omega) only[go_sem]
 (repeat(with_reducible refine And.intro ?_ ?_;focus first|omega|rfl|assumption|exact⟨_,rfl,rfl⟩|(simp;omega)|(simp;done)))
 refine au h0 ?_;simp -implicitDefEqProofs (disch:=omega) only[go_sem];rw[show og [] [t]=gB [] t by simp[og,gB,kr]]
theorem Fw:∀n:Nat,∀t:ah,SizeOf.sizeOf t<n->t.sz<=4194304->∀(out:List (List UInt8))(l j:Nat)(S:Store),aN S (l,j)=some (.tok 1 (out.map encS))->out.length+t.cnt<=1073741824->
 bK prog 138 [t.v,.c (.bM (l,j) (out.map encS))] S (fun r S'=>r=.c (.bM (l,j) ((gB out t).map encS))/\S'=aP S (l,j) (.tok 1 ((gB out t).map encS)))
 |0=>fun t h=>by omega
 |n+1=>by
  have ih:=Fw n;intro t hn hsz out l j S hk hc;have kH:=ah.gM t;have hts:=Bc hsz;have hcn:=ah.kP t;have Fx:∀x:Ab.Obj,aN (aP S (l,j) x) (l,j)=some x:=fun x=>bP _ _ _ _ hk;have hS0:aP S (l,j) (.tok 1 (out.map encS))=S:=xL _ _ hk;have fin:gB out t=og (oN out t) t.fArgs:=WW out t;have hal:=DF out t
  have e0:(out++[t.fName]).map encS=out.map encS++[[D.s t.fName]]:=by simp[encS]
  refine zcx [.tmp 4] func138 ntmps138 ?_;simp -implicitDefEqProofs (disch:=omega) only[go_sem,hk]
  repeat' (first
   |(with_reducible refine aj (fun hb=> ?_) (fun hb=> ?_)<;>have h:=hb<;>(try simp only[wf_preprocess] at h)<;>simp -implicitDefEqProofs (disch:=omega) only[go_sem,hb,hk]<;>(repeat(with_reducible refine And.intro ?_ ?_;focus first|omega|rfl|assumption|exact⟨_,rfl,rfl⟩|(simp;omega)|(simp;done))))
   |(refine au (nO out t.fName (by omega)) ?_;simp -implicitDefEqProofs (disch:=omega) only[go_sem,hk];(repeat(with_reducible refine And.intro ?_ ?_;focus first|omega|rfl|assumption|exact⟨_,rfl,rfl⟩|(simp;omega)|(simp;done)))))
  all_goals first
   |(have ha:oN out t=out++[t.fName]:=if_pos ⟨by assumption,by assumption⟩)
   |(have ha:oN out t=out:=if_neg (fun x=>by have:=x.1;have:=x.2;contradiction))
  all_goals
   refine bn (ι:=Nat×List (List UInt8)) zmx rfl [1,2,5] (fun y=>[.c (.bM (1+l,j) (y.2.map encS)),.c (.ptr (0,0) 0),.c (.d (.i .i64 y.1))]) (fun y=>[.box [.d (.i .i64 t.aW),.d (.s t.fName),.d (.sl (t.fArgs.map ah.enc))]]::aP S (l,j) (.tok 1 (y.2.map encS)))
    (fun y=>y.1<=t.fArgs.length/\y.2.length+ah.dG (t.fArgs.drop y.1)<=1073741824/\og y.2 (t.fArgs.drop y.1)=gB out t) (fun y=>t.fArgs.length-y.1) (0,oN out t) (by first|(rw[ha,e0];rfl)|(rw[ha];rfl)) (by first|(simp only[ha,e0];done)|(simp only[ha,hS0];done)) ⟨ao _,by simp only[cQ];omega,by rw[fin];rfl⟩ ?_
   rintro⟨i,b⟩ ⟨p1,p2,p3⟩;simp only at p1 p2 p3;simp -implicitDefEqProofs (disch:=omega) only[go_sem]
   with_reducible refine aj (fun hb=> ?_) (fun hb=> ?_)<;>have h:=hb<;>(try simp only[wf_preprocess] at h)<;>simp -implicitDefEqProofs (disch:=omega) only[go_sem,hb]<;>(repeat(with_reducible refine And.intro ?_ ?_;focus first|omega|rfl|assumption|exact⟨_,rfl,rfl⟩|(simp;omega)|(simp;done)))
   ·have hi:i<t.fArgs.length:=by omega
    have hs:=be (ac hi);rw[CZ hi] at p3;rw[bh hi,ah.dG] at p2;have hlen:=vg t.fArgs[i] b
    (repeat(with_reducible refine And.intro ?_ ?_;focus first|omega|rfl|assumption|exact⟨_,rfl,rfl⟩|(simp;omega)|(simp;done)))
    refine bq rfl (ih t.fArgs[i] (by omega) (wE hi hsz).1 b (1+l) j _ (by rw[aQ];exact Fx _) (by omega)) ?_;simp -implicitDefEqProofs (disch:=omega) only[go_sem,bW];exact bU (i+1,gB b t.fArgs[i]) (by simp only;omega) rfl rfl ⟨by simp only;omega,by simp only;omega,p3⟩
   ·have hi:i=t.fArgs.length:=by omega
    rw[hi,cj] at p3;rw[<-p3];exact⟨rfl,rfl⟩
theorem Fy(t:ah)(hsz:t.sz<=4194304):aT prog 116 [t.v] (.c (.d (.sl ((gB [] t).map encS)))):=fun S=>by
 have hc:=iP t
 have h0:∀S,bK prog 138 [t.v,.c (.bF [])] S (fun r S'=>r=.c (.d (.sl ((gB [] t).map encS)))/\S'=S):=fun S=>by
  refine bK.WL 1 (es:=[]) (aM:=1) rfl (by simp) (Fw _ t (cg _) hsz [] 0 0 ([.tok 1 []]::S) rfl (by simp;omega)) ?_;rintro r fr S' ⟨rfl,h2⟩;injection h2 with h2 h3;exact⟨_,rfl,rfl,h3⟩
 refine zcx [.tmp 2] func116 ntmps116 ?_;simp -implicitDefEqProofs (disch:=omega) only[go_sem]
 (repeat(with_reducible refine And.intro ?_ ?_;focus first|omega|rfl|assumption|exact⟨_,rfl,rfl⟩|(simp;omega)|(simp;done)))
 refine dJ [true,true] rfl (h0 _) ?_;simp -implicitDefEqProofs (disch:=omega) only[go_sem]
theorem xO:∀n:Nat,∀t:ah,SizeOf.sizeOf t<n->t.sz<=4194304->aT prog 99 [t.v] (.c (.d (.b (lY t))))
 |0=>fun t h=>by omega
 |n+1=>by
  have ih:=xO n;intro t hn hsz S;have kH:=ah.gM t;have hts:=Bc hsz;refine zcx [.tmp 2] func99 ntmps99 ?_;simp -implicitDefEqProofs (disch:=omega) only[go_sem]
  refine bn (ι:=Nat) zmx rfl [1,3] (fun i=>[.c (.ptr (0,0) 0),.c (.d (.i .i64 i))]) (fun _=>[.box [.d (.i .i64 t.aW),.d (.s t.fName),.d (.sl (t.fArgs.map ah.enc))]]::S)
   (fun i=>i<=t.fArgs.length/\pG (t.fArgs.drop i)=pG t.fArgs) (fun i=>t.fArgs.length-i) 0 rfl rfl ⟨ao _,rfl⟩ ?_
  rintro i ⟨p1,p2⟩;simp -implicitDefEqProofs (disch:=omega) only[go_sem]
  with_reducible refine aj (fun hb=> ?_) (fun hb=> ?_)<;>have h:=hb<;>(try simp only[wf_preprocess] at h)<;>simp -implicitDefEqProofs (disch:=omega) only[go_sem,hb]<;>(repeat(with_reducible refine And.intro ?_ ?_;focus first|omega|rfl|assumption|exact⟨_,rfl,rfl⟩|(simp;omega)|(simp;done)))
  ·have hi:i<t.fArgs.length:=by omega
   rw[Jj hi] at p2
   (repeat(with_reducible refine And.intro ?_ ?_;focus first|omega|rfl|assumption|exact⟨_,rfl,rfl⟩|(simp;omega)|(simp;done)))
   refine au (ih t.fArgs[i] (by have:=be (ac hi);omega) (wE hi hsz).1) ?_;simp -implicitDefEqProofs (disch:=omega) only[go_sem]<;>(repeat(with_reducible refine And.intro ?_ ?_;focus first|omega|rfl|assumption|exact⟨_,rfl,rfl⟩|(simp;omega)|(simp;done)))
   with_reducible refine aj (fun hb=> ?_) (fun hb=> ?_)<;>have h:=hb<;>(try simp only[wf_preprocess] at h)<;>simp -implicitDefEqProofs (disch:=omega) only[go_sem,hb]<;>(repeat(with_reducible refine And.intro ?_ ?_;focus first|omega|rfl|assumption|exact⟨_,rfl,rfl⟩|(simp;omega)|(simp;done)))
   ·rw[zx,<-p2,h];simp
   ·exact bU (i+1) (by omega) rfl rfl ⟨by omega,by rw[<-p2,h];rfl⟩
  ·have hi:i=t.fArgs.length:=by omega
   rw[hi,cj] at p2;rw[zx,<-p2];exact ay (by simp[pG,kr])
theorem yO(t:ah)(hsz:t.sz<=4194304):aT prog 99 [t.v] (.c (.d (.b (lY t)))):=xO _ t (cg _) hsz
theorem Jk(rest:List Ab.Obj)(cs:List C)(S:Store):zn prog 89 [((0,1),0)] (fun b:Bool=>(.box cs:: .box [.d (.b b)]::rest)::S) (fun _ _=>True) (fun b u=>b||decide (u.aW=3)) ah.v (fun u=>u.sz<=4194304):=by
 intro n b u _ hu;refine⟨trivial,fun F=> ?_⟩;refine zcx [] func89 ntmps89 ?_;simp -implicitDefEqProofs (disch:=omega) only[go_sem]
 cases b with
 |true=>
  simp -implicitDefEqProofs (disch:=omega) only[go_sem];rfl
 |false=>
  simp -implicitDefEqProofs (disch:=omega) only[go_sem];rfl
theorem yP(t:ah)(hsz:t.sz<=4194304):aT prog 61 [t.v] (.c (.d (.b (lY t)))):=fun S=>by
 refine zcx [.tmp 2] func61 ntmps61 ?_;simp -implicitDefEqProofs (disch:=omega) only[go_sem]
 (repeat(with_reducible refine And.intro ?_ ?_;focus first|omega|rfl|assumption|exact⟨_,rfl,rfl⟩|(simp;omega)|(simp;done)))
 refine bq rfl (C8 hsz (Jk [] [.d (.i .i64 t.aW),.d (.s t.fName),.d (.sl (t.fArgs.map ah.enc))] S) 0 false trivial).2 ?_;simp -implicitDefEqProofs (disch:=omega) only[go_sem];rw[Lj];rfl
theorem mG{s:List UInt8}{xs:List (List UInt8)}(h:s∈xs):s.length<=aH (xs.map encS):=by
 have:=dK (bd (f:=encS) h);simpa [encS,aY,D.sz] using this
noncomputable def fU(xs:List (List UInt8)):Bool:=dec xs.Nodup&&xs.all validName
noncomputable def among(xs ys:List (List UInt8)):Bool:=xs.all fun s=>dec (s∈ys)
noncomputable def fH(vars:List (List UInt8))(t:ah):Bool:=kg t&&among (gB [] t) vars
noncomputable def ji(vars:List (List UInt8))(ts:List ah):Bool:=ts.all (fH vars)
theorem WX{s l:List UInt8}{m:List (List UInt8)}:s∈Aq l m<->s=l\/s∈m:=by
 unfold Aq;split
 ·rename_i h;exact⟨.inr,fun x=>x.elim (fun e=>e▸h) id⟩
 ·rw[cR,dt];exact Or.comm
theorem fC{α:Type}{xs:List α}{i:Nat}(hi:i<xs.length):xs.take (i+1)=xs.take i++[xs[i]]:=cE hi
theorem zy{α:Type}{xs:List α}{x:α}:(xs++[x]).Nodup<->xs.Nodup/\x∉xs:=by
 rw[List.nodup_append];constructor
 ·rintro⟨h1,_,h3⟩;exact⟨h1,fun hx=>h3 x hx x (by simp) rfl⟩
 ·rintro⟨h1,h2⟩;exact⟨h1,by simp,fun a ha b hb e=>by simp at hb;subst hb;exact h2 (e▸ha)⟩
theorem Iu{α:Type}{xs:List α}{i:Nat}(hi:i<xs.length)(h:xs[i]∈xs.take i):¬xs.Nodup:=fun hn=>by
 have h1:(xs.take (i+1)).Nodup:=hn.sublist (List.take_sublist _ _);rw[fC hi] at h1;exact(zy.1 h1).2 h
theorem jD(xs:List (List UInt8))(hl:xs.length<=1073741824):aT prog 21 [.c (.d (.sl (xs.map encS)))] (.c (.d (.b (dec xs.Nodup)))):=fun S=>by
 refine zcx [.tmp 2] func21 ntmps21 ?_;simp -implicitDefEqProofs (disch:=omega) only[go_sem,encS]
 (repeat(with_reducible refine And.intro ?_ ?_;focus first|omega|rfl|assumption|exact⟨_,rfl,rfl⟩|(simp;omega)|(simp;done)))
 refine bn (ι:=Nat×List (List UInt8)) zmx rfl [3,7,8,9] (fun y=>[.c (.mp (0,0)),.c (.d (.sl (xs.map encS))),.c (.d (.i .i64 xs.length)),.c (.d (.i .i64 y.1))]) (fun y=>[.mp y.2]::S)
  (fun y=>y.1<=xs.length/\(∀s,s∈y.2<->s∈xs.take y.1)/\(xs.take y.1).Nodup) (fun y=>xs.length-y.1) (0,[]) rfl rfl ⟨ao _,fun s=>by simp,by simp⟩ ?_
 rintro⟨i,m⟩ ⟨p1,p2,p3⟩;simp only at p1 p2 p3;simp -implicitDefEqProofs (disch:=omega) only[go_sem,encS]
 with_reducible refine aj (fun hb=> ?_) (fun hb=> ?_)<;>have h:=hb<;>(try simp only[wf_preprocess] at h)<;>simp -implicitDefEqProofs (disch:=omega) only[go_sem,hb,encS]<;>(repeat(with_reducible refine And.intro ?_ ?_;focus first|omega|rfl|assumption|exact⟨_,rfl,rfl⟩|(simp;omega)|(simp;done)))
 ·have hi:i<xs.length:=by omega
  (repeat(with_reducible refine And.intro ?_ ?_;focus first|omega|rfl|assumption|exact⟨_,rfl,rfl⟩|(simp;omega)|(simp;done)))
  with_reducible refine aj (fun hb=> ?_) (fun hb=> ?_)<;>have h:=hb<;>(try simp only[wf_preprocess] at h)<;>simp -implicitDefEqProofs (disch:=omega) only[go_sem,hb,encS]<;>(repeat(with_reducible refine And.intro ?_ ?_;focus first|omega|rfl|assumption|exact⟨_,rfl,rfl⟩|(simp;omega)|(simp;done)))
  ·exact ay (aI (Iu hi ((p2 _).1 h))).symm
  ·refine bU (i+1,Aq xs[i] m) (by simp only;omega) rfl rfl ⟨by simp only;omega,fun s=> ?_,?_⟩
   ·simp only
    rw[WX,fC hi,cR,dt,p2];exact Or.comm
   ·simp only
    rw[fC hi,zy];exact⟨p3,fun hx=>h ((p2 _).2 hx)⟩
 ·rw[bi (by omega)] at p3;exact ay (bg p3).symm
theorem kI(xs:List (List UInt8))(hl:xs.length<=1073741824):aT prog 45 [.c (.d (.sl (xs.map encS)))] (.c (.d (.b (dec xs.Nodup)))):=fun S=>by
 refine zcx [.tmp 2] func45 ntmps45 ?_;simp -implicitDefEqProofs (disch:=omega) only[go_sem,encS]
 refine bn (ι:=Nat) zmx rfl [0,3] (fun i=>[.c (.d (.sl (xs.map encS))),.c (.d (.i .i64 i))]) (fun _=>[]::S)
  (fun i=>i<=xs.length/\(xs.take i).Nodup) (fun i=>xs.length-i) 0 rfl rfl ⟨ao _,by simp⟩ ?_
 rintro i ⟨p1,p3⟩;simp -implicitDefEqProofs (disch:=omega) only[go_sem,encS]
 with_reducible refine aj (fun hb=> ?_) (fun hb=> ?_)<;>have h:=hb<;>(try simp only[wf_preprocess] at h)<;>simp -implicitDefEqProofs (disch:=omega) only[go_sem,hb,encS]<;>(repeat(with_reducible refine And.intro ?_ ?_;focus first|omega|rfl|assumption|exact⟨_,rfl,rfl⟩|(simp;omega)|(simp;done)))
 ·have hi:i<xs.length:=by omega
  have hc:∀y∈xs.map encS,y.length=1:=fun y hy=>by
   obtain⟨s,_,rfl⟩:=cp.1 hy;rfl
  have e:(xs.map encS).take i=(xs.take i).map encS:=List.map_take.symm;refine And.intro ⟨by omega,by omega,hc⟩ ?_
  (repeat(with_reducible refine And.intro ?_ ?_;focus first|omega|rfl|assumption|exact⟨_,rfl,rfl⟩|(simp;omega)|(simp;done)))
  simp -implicitDefEqProofs (disch:=omega) only[go_sem,Int.toNat_zero,e];refine au (nO (xs.take i) xs[i] (by simp;omega)) ?_;simp -implicitDefEqProofs (disch:=omega) only[go_sem]<;>(repeat(with_reducible refine And.intro ?_ ?_;focus first|omega|rfl|assumption|exact⟨_,rfl,rfl⟩|(simp;omega)|(simp;done)))
  with_reducible refine aj (fun hb=> ?_) (fun hb=> ?_)<;>have h:=hb<;>(try simp only[wf_preprocess] at h)<;>simp -implicitDefEqProofs (disch:=omega) only[go_sem,hb]<;>(repeat(with_reducible refine And.intro ?_ ?_;focus first|omega|rfl|assumption|exact⟨_,rfl,rfl⟩|(simp;omega)|(simp;done)))
  ·exact ay (aI (Iu hi h)).symm
  ·refine bU (i+1) (by omega) rfl rfl ⟨by omega,?_⟩;rw[fC hi,zy];exact⟨p3,h⟩
 ·rw[bi (by omega)] at p3;exact ay (bg p3).symm
theorem Fz(xs:List (List UInt8))(hl:xs.length<=1073741824)(hs:∀s∈xs,s.length<=4194304):aT prog 70 [.c (.d (.sl (xs.map encS)))] (.c (.d (.b (xs.all validName)))):=fun S=>by
 refine zcx [.tmp 2] func70 ntmps70 ?_;simp -implicitDefEqProofs (disch:=omega) only[go_sem,encS]
 refine bn (ι:=Nat) zmx rfl [0,3] (fun i=>[.c (.d (.sl (xs.map encS))),.c (.d (.i .i64 i))]) (fun _=>[]::S)
  (fun i=>i<=xs.length/\(xs.drop i).all validName=xs.all validName) (fun i=>xs.length-i) 0 rfl rfl ⟨ao _,rfl⟩ ?_
 rintro i ⟨p1,p2⟩;simp -implicitDefEqProofs (disch:=omega) only[go_sem,encS]
 with_reducible refine aj (fun hb=> ?_) (fun hb=> ?_)<;>have h:=hb<;>(try simp only[wf_preprocess] at h)<;>simp -implicitDefEqProofs (disch:=omega) only[go_sem,hb,encS]<;>(repeat(with_reducible refine And.intro ?_ ?_;focus first|omega|rfl|assumption|exact⟨_,rfl,rfl⟩|(simp;omega)|(simp;done)))
 ·have hi:i<xs.length:=by omega
  have hz:=hs _ (ac hi);rw[bh hi,ef] at p2
  (repeat(with_reducible refine And.intro ?_ ?_;focus first|omega|rfl|assumption|exact⟨_,rfl,rfl⟩|(simp;omega)|(simp;done)))
  refine au (fB xs[i] (by omega)) ?_;simp -implicitDefEqProofs (disch:=omega) only[go_sem]<;>(repeat(with_reducible refine And.intro ?_ ?_;focus first|omega|rfl|assumption|exact⟨_,rfl,rfl⟩|(simp;omega)|(simp;done)))
  with_reducible refine aj (fun hb=> ?_) (fun hb=> ?_)<;>have h:=hb<;>(try simp only[wf_preprocess] at h)<;>simp -implicitDefEqProofs (disch:=omega) only[go_sem,hb]<;>(repeat(with_reducible refine And.intro ?_ ?_;focus first|omega|rfl|assumption|exact⟨_,rfl,rfl⟩|(simp;omega)|(simp;done)))
  ·rw[<-p2,h];rfl
  ·exact bU (i+1) (by omega) rfl rfl ⟨by omega,by rw[<-p2,h];rfl⟩
 ·rw[bz (by omega)] at p2;rw[<-p2];rfl
theorem j5(xs:List (List UInt8))(hl:xs.length<=1073741824)(hs:∀s∈xs,s.length<=4194304):aT prog 31 [.c (.d (.sl (xs.map encS)))] (.c (.d (.b (fU xs)))):=fun S=>by
 have hcl:∀s∈xs,aT prog 55 [.c (.d (.s s))] (.c (.d (.b (!validName s)))):=fun s hx S=>by
  have:=hs s hx;refine zcx [.tmp 2] func55 ntmps55 ?_;simp -implicitDefEqProofs (disch:=omega) only[go_sem];refine au (fA s (by omega)) ?_;simp -implicitDefEqProofs (disch:=omega) only[go_sem]<;>(repeat(with_reducible refine And.intro ?_ ?_;focus first|omega|rfl|assumption|exact⟨_,rfl,rfl⟩|(simp;omega)|(simp;done)))
 have ha:(xs.any fun s=> !validName s)= !xs.all validName:=by rw[eb]
 refine zcx [.tmp 2] func31 ntmps31 ?_;simp -implicitDefEqProofs (disch:=omega) only[go_sem];refine au (jD xs hl) ?_;simp -implicitDefEqProofs (disch:=omega) only[go_sem]<;>(repeat(with_reducible refine And.intro ?_ ?_;focus first|omega|rfl|assumption|exact⟨_,rfl,rfl⟩|(simp;omega)|(simp;done)))
 with_reducible refine aj (fun hb=> ?_) (fun hb=> ?_)<;>have h:=hb<;>(try simp only[wf_preprocess] at h)<;>simp -implicitDefEqProofs (disch:=omega) only[go_sem,hb]<;>(repeat(with_reducible refine And.intro ?_ ?_;focus first|omega|rfl|assumption|exact⟨_,rfl,rfl⟩|(simp;omega)|(simp;done)))
 ·refine bq rfl (rz 55 [] _ xs (fun s=> !validName s) hl fun s hx=>jB.GL (hcl s hx)) ?_;simp -implicitDefEqProofs (disch:=omega) only[go_sem];rw[ha];exact ay (by unfold fU;rw[hb];simp)
 ·exact ay (by unfold fU;rw[hb];rfl)
theorem qH(xs ys:List (List UInt8))(hl:xs.length<=1073741824)(hl':ys.length<=1073741824):aT prog 20 [.c (.d (.sl (xs.map encS))),.c (.d (.sl (ys.map encS)))] (.c (.d (.b (among xs ys)))):=fun S=>by
 have ha:(xs.any fun s=> !dec (s∈ys))= !among xs ys:=by unfold among;rw[eb]
 have hcl:∀(rest:List Ab.Obj)(s:List UInt8),jB prog 39 [((0,0),0)] ((.box [.d (.sl (ys.map encS))]::rest)::S) [.c (.d (.s s))] (.c (.d (.b (!dec (s∈ys))))):=fun rest s F=>by
  refine zcx [.tmp 3] func39 ntmps39 ?_;simp -implicitDefEqProofs (disch:=omega) only[go_sem];refine au (pF ys s hl') ?_;simp -implicitDefEqProofs (disch:=omega) only[go_sem]<;>(repeat(with_reducible refine And.intro ?_ ?_;focus first|omega|rfl|assumption|exact⟨_,rfl,rfl⟩|(simp;omega)|(simp;done)))
 refine zcx [.tmp 4] func20 ntmps20 ?_;simp -implicitDefEqProofs (disch:=omega) only[go_sem];refine bq rfl (rz 39 [((0,0),0)] _ xs (fun s=> !dec (s∈ys)) hl fun s hx=>hcl [] s) ?_;simp -implicitDefEqProofs (disch:=omega) only[go_sem];rw[ha];exact ay (by simp)
theorem oh(t:ah)(vars:List (List UInt8))(hsz:t.sz<=4194304)(hv:vars.length<=1073741824):aT prog 60 [t.v,.c (.d (.sl (vars.map encS)))] (.c (.d (.b (fH vars t)))):=fun S=>by
 have h1:=vg t [];have h2:=iP t;refine zcx [.tmp 4] func60 ntmps60 ?_;simp -implicitDefEqProofs (disch:=omega) only[go_sem];refine au (qP t hsz) ?_;simp -implicitDefEqProofs (disch:=omega) only[go_sem]<;>(repeat(with_reducible refine And.intro ?_ ?_;focus first|omega|rfl|assumption|exact⟨_,rfl,rfl⟩|(simp;omega)|(simp;done)))
 with_reducible refine aj (fun hb=> ?_) (fun hb=> ?_)<;>have h:=hb<;>(try simp only[wf_preprocess] at h)<;>simp -implicitDefEqProofs (disch:=omega) only[go_sem,hb]<;>(repeat(with_reducible refine And.intro ?_ ?_;focus first|omega|rfl|assumption|exact⟨_,rfl,rfl⟩|(simp;omega)|(simp;done)))
 ·refine au (sI t hsz) ?_;simp -implicitDefEqProofs (disch:=omega) only[go_sem]<;>(repeat(with_reducible refine And.intro ?_ ?_;focus first|omega|rfl|assumption|exact⟨_,rfl,rfl⟩|(simp;omega)|(simp;done)));refine au (qH (gB [] t) vars (by simp at h1;omega) hv) ?_;simp -implicitDefEqProofs (disch:=omega) only[go_sem]<;>(repeat(with_reducible refine And.intro ?_ ?_;focus first|omega|rfl|assumption|exact⟨_,rfl,rfl⟩|(simp;omega)|(simp;done)));exact ay (by unfold fH;rw[hb];rfl)
 ·exact ay (by unfold fH;rw[hb];rfl)
theorem sJ(ts:List ah)(vars:List (List UInt8))(hl:ts.length<=1073741824)(hsz:∀t∈ts,t.sz<=4194304)(hv:vars.length<=1073741824):aT prog 59 [.c (.d (.sl (ts.map ah.enc))),.c (.d (.sl (vars.map encS)))] (.c (.d (.b (ji vars ts)))):=fun S=>by
 have ha:(ts.any fun t=> !fH vars t)= !ji vars ts:=by unfold ji;rw[eb]
 have hcl:∀(rest:List Ab.Obj)(t:ah),t.sz<=4194304->jB prog 86 [((0,0),0)] ((.box [.d (.sl (vars.map encS))]::rest)::S) [t.v] (.c (.d (.b (!fH vars t)))):=fun rest t ht F=>by
  refine zcx [.tmp 3] func86 ntmps86 ?_;simp -implicitDefEqProofs (disch:=omega) only[go_sem];refine au (oh t vars ht hv) ?_;simp -implicitDefEqProofs (disch:=omega) only[go_sem]<;>(repeat(with_reducible refine And.intro ?_ ?_;focus first|omega|rfl|assumption|exact⟨_,rfl,rfl⟩|(simp;omega)|(simp;done)))
 refine zcx [.tmp 4] func59 ntmps59 ?_;simp -implicitDefEqProofs (disch:=omega) only[go_sem];refine bq rfl (Aa 86 [((0,0),0)] _ ts (fun t=> !fH vars t) hl fun t hx=>hcl [] t (hsz t hx)) ?_;simp -implicitDefEqProofs (disch:=omega) only[go_sem];rw[ha];exact ay (by simp)
theorem iQ(xs:List (List UInt8))(most:Int)(hl:xs.length<=1073741824)(hs:∀s∈xs,s.length<=4194304):aT prog 43 [.c (.d (.sl (xs.map encS))),.c (.d (.i .i64 most))] (.c (.d (.b (dec ((xs.length:Int)<=most)&&fU xs)))):=fun S=>by
 refine zcx [.tmp 4] func43 ntmps43 ?_;simp -implicitDefEqProofs (disch:=omega) only[go_sem]
 with_reducible refine aj (fun hb=> ?_) (fun hb=> ?_)<;>have h:=hb<;>(try simp only[wf_preprocess] at h)<;>simp -implicitDefEqProofs (disch:=omega) only[go_sem,hb]<;>(repeat(with_reducible refine And.intro ?_ ?_;focus first|omega|rfl|assumption|exact⟨_,rfl,rfl⟩|(simp;omega)|(simp;done)))
 ·have h1:=h;refine au (Fz xs hl hs) ?_;simp -implicitDefEqProofs (disch:=omega) only[go_sem]<;>(repeat(with_reducible refine And.intro ?_ ?_;focus first|omega|rfl|assumption|exact⟨_,rfl,rfl⟩|(simp;omega)|(simp;done)))
  with_reducible refine aj (fun hb=> ?_) (fun hb=> ?_)<;>have h:=hb<;>(try simp only[wf_preprocess] at h)<;>simp -implicitDefEqProofs (disch:=omega) only[go_sem,hb]<;>(repeat(with_reducible refine And.intro ?_ ?_;focus first|omega|rfl|assumption|exact⟨_,rfl,rfl⟩|(simp;omega)|(simp;done)))
  ·refine au (kI xs hl) ?_;simp -implicitDefEqProofs (disch:=omega) only[go_sem]<;>(repeat(with_reducible refine And.intro ?_ ?_;focus first|omega|rfl|assumption|exact⟨_,rfl,rfl⟩|(simp;omega)|(simp;done)));exact ay (by rw[bg h1];unfold fU;rw[hb];simp)
  ·exact ay (by rw[bg h1];unfold fU;rw[hb];simp)
 ·exact ay (by rw[aI h];rfl)
theorem nP(t:ah)(vars:List (List UInt8))(hsz:t.sz<=4194304)(hv:vars.length<=1073741824):aT prog 98 [t.v,.c (.d (.sl (vars.map encS)))] (.c (.d (.b (fH vars t)))):=fun S=>by
 have h1:=vg t [];have h2:=iP t
 have hlen:(gB [] t).length<=1073741824:=by simp at h1;omega
 refine zcx [.tmp 4] func98 ntmps98 ?_;simp -implicitDefEqProofs (disch:=omega) only[go_sem];refine au (Fy t hsz) ?_;simp -implicitDefEqProofs (disch:=omega) only[go_sem]<;>(repeat(with_reducible refine And.intro ?_ ?_;focus first|omega|rfl|assumption|exact⟨_,rfl,rfl⟩|(simp;omega)|(simp;done)));generalize hxs:gB [] t=xs at hlen
 refine bn (ι:=Nat) zmx rfl [1,2,5,6] (fun i=>[.c (.d (.sl (vars.map encS))),.c (.ptr (0,0) 0),.c (.d (.sl (xs.map encS))),.c (.d (.i .i64 i))]) (fun _=>[.box [.d (.i .i64 t.aW),.d (.s t.fName),.d (.sl (t.fArgs.map ah.enc))]]::S)
  (fun i=>i<=xs.length/\among (xs.drop i) vars=among xs vars) (fun i=>xs.length-i) 0 rfl rfl ⟨ao _,rfl⟩ ?_
 rintro i ⟨p1,p2⟩;simp -implicitDefEqProofs (disch:=omega) only[go_sem,encS]
 with_reducible refine aj (fun hb=> ?_) (fun hb=> ?_)<;>have h:=hb<;>(try simp only[wf_preprocess] at h)<;>simp -implicitDefEqProofs (disch:=omega) only[go_sem,hb,encS]<;>(repeat(with_reducible refine And.intro ?_ ?_;focus first|omega|rfl|assumption|exact⟨_,rfl,rfl⟩|(simp;omega)|(simp;done)))
 ·have hi:i<xs.length:=by omega
  rw[bh hi] at p2;have p3:among xs vars=(dec (xs[i]∈vars)&&among (xs.drop (i+1)) vars):=p2.symm
  (repeat(with_reducible refine And.intro ?_ ?_;focus first|omega|rfl|assumption|exact⟨_,rfl,rfl⟩|(simp;omega)|(simp;done)))
  refine au (nO vars xs[i] hv) ?_;simp -implicitDefEqProofs (disch:=omega) only[go_sem]<;>(repeat(with_reducible refine And.intro ?_ ?_;focus first|omega|rfl|assumption|exact⟨_,rfl,rfl⟩|(simp;omega)|(simp;done)))
  with_reducible refine aj (fun hb=> ?_) (fun hb=> ?_)<;>have h:=hb<;>(try simp only[wf_preprocess] at h)<;>simp -implicitDefEqProofs (disch:=omega) only[go_sem,hb]<;>(repeat(with_reducible refine And.intro ?_ ?_;focus first|omega|rfl|assumption|exact⟨_,rfl,rfl⟩|(simp;omega)|(simp;done)))
  ·exact ay (by unfold fH;rw[hxs,p3,aI h];simp)
  ·exact bU (i+1) (by omega) rfl rfl ⟨by omega,by rw[p3,bg h];rfl⟩
 ·rw[bz (by omega)] at p2;have p3:among xs vars=true:=p2.symm
  (repeat(with_reducible refine And.intro ?_ ?_;focus first|omega|rfl|assumption|exact⟨_,rfl,rfl⟩|(simp;omega)|(simp;done)))
  refine au (qQ t hsz) ?_;simp -implicitDefEqProofs (disch:=omega) only[go_sem]<;>(repeat(with_reducible refine And.intro ?_ ?_;focus first|omega|rfl|assumption|exact⟨_,rfl,rfl⟩|(simp;omega)|(simp;done)));exact ay (by unfold fH;rw[hxs,p3];simp)
theorem Iw(ts:List ah)(vars:List (List UInt8))(hl:ts.length<=1073741824)(hsz:∀t∈ts,t.sz<=4194304)(hv:vars.length<=1073741824):aT prog 97 [.c (.d (.sl (ts.map ah.enc))),.c (.d (.sl (vars.map encS)))] (.c (.d (.b (ji vars ts)))):=fun S=>by
 refine zcx [.tmp 4] func97 ntmps97 ?_;simp -implicitDefEqProofs (disch:=omega) only[go_sem]
 refine bn (ι:=Nat) zmx rfl [0,1,5] (fun i=>[.c (.d (.sl (ts.map ah.enc))),.c (.d (.sl (vars.map encS))),.c (.d (.i .i64 i))]) (fun _=>[]::S)
  (fun i=>i<=ts.length/\ji vars (ts.drop i)=ji vars ts) (fun i=>ts.length-i) 0 rfl rfl ⟨ao _,rfl⟩ ?_
 rintro i ⟨p1,p2⟩;simp -implicitDefEqProofs (disch:=omega) only[go_sem]
 with_reducible refine aj (fun hb=> ?_) (fun hb=> ?_)<;>have h:=hb<;>(try simp only[wf_preprocess] at h)<;>simp -implicitDefEqProofs (disch:=omega) only[go_sem,hb]<;>(repeat(with_reducible refine And.intro ?_ ?_;focus first|omega|rfl|assumption|exact⟨_,rfl,rfl⟩|(simp;omega)|(simp;done)))
 ·have hi:i<ts.length:=by omega
  rw[bh hi] at p2;have p3:ji vars ts=(fH vars ts[i]&&ji vars (ts.drop (i+1))):=p2.symm
  (repeat(with_reducible refine And.intro ?_ ?_;focus first|omega|rfl|assumption|exact⟨_,rfl,rfl⟩|(simp;omega)|(simp;done)))
  refine au (nP ts[i] vars (hsz _ (ac hi)) hv) ?_;simp -implicitDefEqProofs (disch:=omega) only[go_sem]<;>(repeat(with_reducible refine And.intro ?_ ?_;focus first|omega|rfl|assumption|exact⟨_,rfl,rfl⟩|(simp;omega)|(simp;done)))
  with_reducible refine aj (fun hb=> ?_) (fun hb=> ?_)<;>have h:=hb<;>(try simp only[wf_preprocess] at h)<;>simp -implicitDefEqProofs (disch:=omega) only[go_sem,hb]<;>(repeat(with_reducible refine And.intro ?_ ?_;focus first|omega|rfl|assumption|exact⟨_,rfl,rfl⟩|(simp;omega)|(simp;done)))
  ·rw[p3,h];rfl
  ·exact bU (i+1) (by omega) rfl rfl ⟨by omega,by rw[p3,h];rfl⟩
 ·rw[bz (by omega)] at p2;rw[<-p2];rfl
def ops:List (List UInt8):=[[43],[45],[42],[60],[61]]
def sK(t:ah):Prop:=t.aW=0/\t.fName=[]/\t.fArgs.length=0
def oF(e:ak):Prop:=
 (1<=e.aW/\e.aW<=12)/\
 (if e.aW=5\/e.aW=11 then validName e.dP=true else e.dP=[])/\
 (if e.aW=3\/e.aW=4\/e.aW=5\/e.aW=6\/e.aW=8 then validName e.fName=true else if e.aW=10 then e.fName∈ops else e.fName=[])/\
 (if e.aW=1 then -999999<=e.fN/\e.fN<=999999 else if e.aW=2 then e.fN=0\/e.fN=1 else e.fN=0)/\
 (if e.aW=12 then kg e.fType=true else sK e.fType)/\
 (if e.aW=4\/e.aW=6 then True else if e.aW=5 then 1<=e.fArgs.length else if e.aW=7\/e.aW=11\/e.aW=12 then e.fArgs.length=1 else if e.aW=8\/e.aW=10 then e.fArgs.length=2 else if e.aW=9 then e.fArgs.length=3 else e.fArgs.length=0)/\
 (e.aW=7<->0<e.aX.length)
mutual
noncomputable def ku:ak->Bool
 | .mk k t n m ty a b=>dec (oF (.mk k t n m ty a b))&&(lF a&&om b)
noncomputable def lF:List ak->Bool
 |[]=>true
 |x::xs=>ku x&&lF xs
noncomputable def uH:aR->Bool
 | .mk c v b=>validName c&&(fU v&&ku b)
noncomputable def om:List aR->Bool
 |[]=>true
 |x::xs=>uH x&&om xs
end
theorem xP(x:ak):ku x=(dec (oF x)&&(lF x.fArgs&&om x.aX)):=by cases x;rw[ku];rfl
theorem pI(x:aR):uH x=(validName x.fO&&(fU x.aO&&ku x.fBody)):=by cases x;rw[uH];rfl
theorem Lm{xs:List ak}{i:Nat}(hi:i<xs.length):lF (xs.drop i)=(ku xs[i]&&lF (xs.drop (i+1))):=by rw[bh hi,lF]
theorem Np{xs:List aR}{i:Nat}(hi:i<xs.length):om (xs.drop i)=(uH xs[i]&&om (xs.drop (i+1))):=by rw[bh hi,om]
theorem C9:∀{xs:List ak},(xs.any fun t=> !ku t)= !lF xs
 |[]=>rfl
 |t::ts=>by rw[List.any_cons,C9 (xs:=ts),lF];simp
theorem FB:∀{xs:List aR},(xs.any fun t=> !uH t)= !om xs
 |[]=>rfl
 |t::ts=>by rw[List.any_cons,FB (xs:=ts),om];simp
noncomputable def pJ(e:ak):Bool:=dec (e.cnt<=300)&&ku e
def kC(l:Int)(c:Nat):Int:=if l<0 then -1 else if c<=l then l-c else -1
theorem zA{l:Int}{a b:Nat}:kC (kC l a) b=kC l (a+b):=by unfold kC;split<;>split<;>(try split)<;>(try split)<;>omega
theorem DI{l:Int}{a:Nat}(h:l<0):kC l a= -1:=if_pos h
theorem Bf{l:Int}(h: -1<=l):kC l 0=l:=by unfold kC;split<;>(try split)<;>omega
theorem GU{l:Int}{c:Nat}(h:0<=l): -1<=kC l c/\kC l c<=l:=by unfold kC;split<;>(try split)<;>omega
theorem WY{l:Int}{c:Nat}(h:0<=l):decide (kC l c>=0)=decide ((c:Int)<=l):=by unfold kC;rw[if_neg (by omega)];split<;>simp<;>omega
theorem Jl:validName []=false:=aI fun h=>by have:=h.1.1;simp at this
theorem aa8{s:List UInt8}(h:s∈ops):s.length=1:=by simp[ops] at h;rcases h with h|h|h|h|h<;>rw[h]<;>rfl
theorem Lp{s:List UInt8}(h:s∈ops):validName s=false:=aI fun x=>by
 have h1:=x.2.2 0 (by have:=x.1.1;omega);simp[ops] at h;rcases h with h|h|h|h|h<;>rw[h] at h1<;>simp[lowerB,nZ] at h1
theorem FC{t:ah}(h:sK t):kg t=false:=aI fun x=>by
 have h1:=x.1;rw[uZ,aq] at h1;have h2:=iD h1.1;rw[h.1] at h2;omega
structure Hold(p:Prop):Prop where
 out:p
theorem uh{P:Program}{N:Nat}{c:Code}{Q:Exit->St->Prop}{tm:List (Nat×V)}{st st':Store}(ts:List Nat)(vs:List V)(hv:ts.map (look tm)=vs)(hs:st=st')
 (h:AW P N c Q ⟨jl ts vs,st'⟩):AW P N c Q ⟨tm,st⟩:=by
 subst hs;refine lK h ?_;rw[<-hv];exact KF fun t=>tY _ ts t
theorem ZF(b:UInt8):decide (firstIdx ⟨[43,45,42,60,61].toArray⟩ b>=0)=dec ([b]∈ops):=by
 have h:∀n:Nat,n<256->decide (firstIdx ⟨[43,45,42,60,61].toArray⟩ (UInt8.ofNat n)>=0)=decide ([UInt8.ofNat n]∈ops):=by decide +kernel
 have h1:=h b.toNat (UInt8.toNat_lt b);rw[UInt8.ofNat_toNat] at h1;rw[h1];by_cases h2:[b]∈ops
 ·rw[bg h2];simp[h2]
 ·rw[aI h2];simp[h2]
def Qw(k:Int):Int:=if k=5\/k=7\/k=11\/k=12 then 1 else if k=8\/k=10 then 2 else if k=9 then 3 else 0
def Qx(k:Int):Int:=if k=4\/k=6\/k=5 then 300 else if k=7\/k=11\/k=12 then 1 else if k=8\/k=10 then 2 else if k=9 then 3 else 0
theorem Cy(l:List UInt8)(b:UInt8):Pb prog 166 [.c (.d (.s l)),.c (.d (.i .u8 b.toNat))] (.c (.d (.i .i64 (firstIdx ⟨l.toArray⟩ b)))):=by
 refine⟨_,Extern.BytealgIndexByte.indexByte,func166,by kernel_rfl,by kernel_rfl,by kernel_rfl,by kernel_rfl,fun w σ S β vs hS hv=> ?_⟩;obtain⟨hl,h⟩:=hv;obtain⟨v0,e0,h0,_⟩:=h 0 _ rfl;obtain⟨v1,e1,h1,_⟩:=h 1 _ rfl;cases h0;cases h1
 have hvs:vs=[.string ⟨l.toArray⟩,.int .u8 b.toNat]:=by
  match vs,hl,e0,e1 with
  |[x,y],_,e0,e1=>simp at e0 e1;rw[e0,e1]
 subst hvs;refine⟨_,run_indexByte_string _ _ w,?_,rfl⟩
 have hb:(b.toNat:Int).toNat.toUInt8=b:=by simp
 rw[hb];exact .i _ _
theorem Lr(l:List UInt8)(b:UInt8):aT prog 162 [.c (.d (.s l)),.c (.d (.i .u8 b.toNat))] (.c (.d (.i .i64 (firstIdx ⟨l.toArray⟩ b)))):=fun S=>by
 refine zcx [.tmp 4] func162 ntmps162 ?_;simp -implicitDefEqProofs (disch:=omega) only[go_sem];refine aaU (Cy l b) ?_;simp -implicitDefEqProofs (disch:=omega) only[go_sem]
theorem Nq(l:List UInt8)(b:UInt8)(hl:[b]≠l):aT prog 161 [.c (.d (.s l)),.c (.d (.s [b]))] (.c (.d (.i .i64 (firstIdx ⟨l.toArray⟩ b)))):=fun S=>by
 have c1:decide (((1:Nat):Int)=0)=false:=rfl;have c2:decide (((1:Nat):Int)=1)=true:=rfl;refine zcx [.tmp 4] func161 ntmps161 ?_;simp -implicitDefEqProofs (disch:=omega) only[go_sem,c1,c2]
 with_reducible refine aj (fun hb=> ?_) (fun hb=> ?_)<;>have h:=hb<;>(try simp only[wf_preprocess] at h)<;>simp -implicitDefEqProofs (disch:=omega) only[go_sem,hb,c1,c2]<;>(repeat(with_reducible refine And.intro ?_ ?_;focus first|omega|rfl|assumption|exact⟨_,rfl,rfl⟩|(simp;omega)|(simp;done)))
 ·exact absurd h hl
 refine au (Lr l b) ?_;simp -implicitDefEqProofs (disch:=omega) only[go_sem]<;>(repeat(with_reducible refine And.intro ?_ ?_;focus first|omega|rfl|assumption|exact⟨_,rfl,rfl⟩|(simp;omega)|(simp;done)))
theorem TY(l:List UInt8)(b:UInt8)(hl:[b]≠l):aT prog 160 [.c (.d (.s l)),.c (.d (.s [b]))] (.c (.d (.i .i64 (firstIdx ⟨l.toArray⟩ b)))):=fun S=>by
 refine zcx [.tmp 4] func160 ntmps160 ?_;simp -implicitDefEqProofs (disch:=omega) only[go_sem];refine au (Nq l b hl) ?_;simp -implicitDefEqProofs (disch:=omega) only[go_sem]<;>(repeat(with_reducible refine And.intro ?_ ?_;focus first|omega|rfl|assumption|exact⟨_,rfl,rfl⟩|(simp;omega)|(simp;done)))
theorem Ls(l:List UInt8)(b:UInt8)(hl:[b]≠l):aT prog 158 [.c (.d (.s l)),.c (.d (.s [b]))] (.c (.d (.b (decide (firstIdx ⟨l.toArray⟩ b>=0))))):=fun S=>by
 refine zcx [.tmp 4] func158 ntmps158 ?_;simp -implicitDefEqProofs (disch:=omega) only[go_sem];refine au (TY l b hl) ?_;simp -implicitDefEqProofs (disch:=omega) only[go_sem]<;>(repeat(with_reducible refine And.intro ?_ ?_;focus first|omega|rfl|assumption|exact⟨_,rfl,rfl⟩|(simp;omega)|(simp;done)))
theorem Jm(s:List UInt8):aT prog 148 [.c (.d (.s s))] (.c (.d (.b (dec (s∈ops))))):=fun S=>by
 refine zcx [.tmp 2] func148 ntmps148 ?_;simp -implicitDefEqProofs (disch:=omega) only[go_sem]
 with_reducible refine aj (fun hb=> ?_) (fun hb=> ?_)<;>have h:=hb<;>(try simp only[wf_preprocess] at h)<;>simp -implicitDefEqProofs (disch:=omega) only[go_sem,hb]<;>(repeat(with_reducible refine And.intro ?_ ?_;focus first|omega|rfl|assumption|exact⟨_,rfl,rfl⟩|(simp;omega)|(simp;done)))
 ·obtain⟨b,rfl⟩:=List.length_eq_one_iff.1 (show s.length=1 by omega);refine au (Ls [43,45,42,60,61] b (by intro x;cases x)) ?_;simp -implicitDefEqProofs (disch:=omega) only[go_sem]<;>(repeat(with_reducible refine And.intro ?_ ?_;focus first|omega|rfl|assumption|exact⟨_,rfl,rfl⟩|(simp;omega)|(simp;done)));exact ay (ZF b)
 ·exact ay (aI fun x=>h (by rw[aa8 x];rfl)).symm
theorem zY(t:ah):aT prog 64 [t.v] (.c (.d (.b (dec (sK t))))):=fun S=>by
 refine zcx [.tmp 2] func64 ntmps64 ?_;simp -implicitDefEqProofs (disch:=omega) only[go_sem]
 repeat' (first
  |with_reducible refine aj (fun hb=> ?_) (fun hb=> ?_)<;>have h:=hb<;>(try simp only[wf_preprocess] at h)<;>simp -implicitDefEqProofs (disch:=omega) only[go_sem,hb]<;>(repeat(with_reducible refine And.intro ?_ ?_;focus first|omega|rfl|assumption|exact⟨_,rfl,rfl⟩|(simp;omega)|(simp;done)))
  |(refine ay ?_;unfold sK;grind [bg,aI,iD,gK]))
theorem Da(k:Int):aT prog 147 [.c (.d (.i .i64 k))] (.gq [(false,[.d (.i .i64 (Qw k))]),(false,[.d (.i .i64 (Qx k))])]):=fun S=>by
 refine zcx [.tmp 2,.tmp 3] func147 ntmps147 ?_;simp -implicitDefEqProofs (disch:=omega) only[go_sem]
 repeat' (first
  |with_reducible refine aj (fun hb=> ?_) (fun hb=> ?_)<;>have h:=hb<;>(try simp only[wf_preprocess] at h)<;>simp -implicitDefEqProofs (disch:=omega) only[go_sem,hb]<;>(repeat(with_reducible refine And.intro ?_ ?_;focus first|omega|rfl|assumption|exact⟨_,rfl,rfl⟩|(simp;omega)|(simp;done)))
  |(unfold Qw Qx;grind))
theorem ak.bounds{x:ak}(h:x.sz<=4194304):x.dP.length<=4194304/\x.fName.length<=4194304/\x.fArgs.length<=4194304/\x.aX.length<=4194304/\x.fType.sz<=4194304:=by
 simp only[ak.sz,ak.aB,aY,bG,D.sz,al,ah.cB] at h;omega
theorem ak.arg_b{x:ak}{i:Nat}(hi:i<x.fArgs.length)(h:x.sz<=4194304):x.fArgs[i].sz<=4194304:=by
 have hx:x.fArgs[i].sz<=aH (x.fArgs.map ak.enc):=dK (bd (ac hi));simp only[ak.sz,ak.aB,aY,bG,D.sz,al] at h;omega
theorem ak.Jz{x:ak}{i:Nat}(hi:i<x.aX.length)(h:x.sz<=4194304):x.aX[i].sz<=4194304:=by
 have hx:x.aX[i].sz<=aH (x.aX.map aR.enc):=dK (bd (ac hi));simp only[ak.sz,ak.aB,aY,bG,D.sz,al] at h;omega
theorem aR.bounds{x:aR}(h:x.sz<=4194304):x.fO.length<=4194304/\x.aO.length<=4194304/\(∀s∈x.aO,s.length<=4194304)/\x.fBody.sz<=4194304:=by
 have hb:=aR.GQ x;simp only[aR.sz,aR.aB,aY,bG,D.sz,al] at h hb;refine⟨by omega,by omega,fun s hs=> ?_,by omega⟩;have:=mG hs;omega
theorem FD(k:Int):(k<1\/12<k)\/k=1\/k=2\/k=3\/k=4\/k=5\/k=6\/k=7\/k=8\/k=9\/k=10\/k=11\/k=12:=by omega
theorem Lu(x:ak)(hsz:x.sz<=4194304)(hc:x.fArgs.length<=300):aT prog 130 [x.v] (.c (.d (.b (dec (oF x))))):=fun S=>by
 have hb0:=ak.bounds hsz;have hz:sK x.fType->kg x.fType=false:=FC;rcases FD x.aW with hk|hk|hk|hk|hk|hk|hk|hk|hk|hk|hk|hk|hk
 ·have h1:¬oF x:=fun h=>by have:=h.1;omega
  refine zcx [.tmp 2] func130 ntmps130 ?_;simp -implicitDefEqProofs (disch:=omega) only[go_sem];refine au (Da x.aW) ?_;simp -implicitDefEqProofs (disch:=omega) only[go_sem]<;>(repeat(with_reducible refine And.intro ?_ ?_;focus first|omega|rfl|assumption|exact⟨_,rfl,rfl⟩|(simp;omega)|(simp;done)))
  with_reducible refine aj (fun hb=> ?_) (fun hb=> ?_)<;>have h:=hb<;>(try simp only[wf_preprocess] at h)<;>simp -implicitDefEqProofs (disch:=omega) only[go_sem,hb]<;>(repeat(with_reducible refine And.intro ?_ ?_;focus first|omega|rfl|assumption|exact⟨_,rfl,rfl⟩|(simp;omega)|(simp;done)))
  ·exact ay (aI h1).symm
  with_reducible refine aj (fun hb=> ?_) (fun hb=> ?_)<;>have h:=hb<;>(try simp only[wf_preprocess] at h)<;>simp -implicitDefEqProofs (disch:=omega) only[go_sem,hb]<;>(repeat(with_reducible refine And.intro ?_ ?_;focus first|omega|rfl|assumption|exact⟨_,rfl,rfl⟩|(simp;omega)|(simp;done)))
  ·exact ay (aI h1).symm
  ·omega
 all_goals
  refine zcx [.tmp 2] func130 ntmps130 ?_;simp -implicitDefEqProofs (disch:=omega) only[go_sem,hk];refine au (Da _) ?_;simp -implicitDefEqProofs (disch:=omega) only[go_sem,hk,Qw,Qx]
  repeat' (first
   |with_reducible refine aj (fun hb=> ?_) (fun hb=> ?_)<;>have h:=hb<;>(try simp only[wf_preprocess] at h)<;>simp -implicitDefEqProofs (disch:=omega) only[go_sem,hb,hk]<;>(repeat(with_reducible refine And.intro ?_ ?_;focus first|omega|rfl|assumption|exact⟨_,rfl,rfl⟩|(simp;omega)|(simp;done)))
   |((with_reducible show dQ _ _ 30 _ _ _ _);refine au (fA x.fName (by omega)) ?_;simp -implicitDefEqProofs (disch:=omega) only[go_sem,hk])
   |((with_reducible show dQ _ _ 30 _ _ _ _);refine au (fA x.dP (by omega)) ?_;simp -implicitDefEqProofs (disch:=omega) only[go_sem,hk])
   |((with_reducible show dQ _ _ 148 _ _ _ _);refine au (Jm x.fName) ?_;simp -implicitDefEqProofs (disch:=omega) only[go_sem,hk])
   |((with_reducible show dQ _ _ 64 _ _ _ _);refine au (zY x.fType) ?_;simp -implicitDefEqProofs (disch:=omega) only[go_sem,hk])
   |((with_reducible show dQ _ _ 87 _ _ _ _);refine au (qP x.fType (by omega)) ?_;simp -implicitDefEqProofs (disch:=omega) only[go_sem,hk])
   |(refine ay (eh.2 ?_);simp only[oD,oF,hk];grind [iD,gK,bg,aI]))
theorem ak.ZG{x:ak}{y:ak}(h:y∈x.fArgs):y.cnt+1<=x.cnt:=by
 rw[ak.kP x]
 have:∀xs:List ak,y∈xs->y.cnt<=ak.dG xs:=by
  intro xs
  induction xs with
  |nil=>intro h;cases h
  |cons z zs ih=>
   intro h;rw[ak.dG];rcases du.1 h with e|e
   ·subst e;omega
   ·have:=ih e;omega
 have:=this _ h;omega
theorem ak.ZH{x:ak}{y:aR}(h:y∈x.aX):y.fBody.cnt+1<=x.cnt:=by
 rw[ak.kP x]
 have:∀xs:List aR,y∈xs->y.fBody.cnt<=aR.dG xs:=by
  intro xs
  induction xs with
  |nil=>intro h;cases h
  |cons z zs ih=>
   intro h;rw[aR.dG];rcases du.1 h with e|e
   ·subst e;rw[aR.kP];omega
   ·have:=ih e;omega
 have:=this _ h;omega
theorem ak.ZI(x:ak):x.fArgs.length+1<=x.cnt:=by
 rw[ak.kP x]
 have:∀xs:List ak,xs.length<=ak.dG xs:=by
  intro xs
  induction xs with
  |nil=>simp
  |cons z zs ih=>rw[ak.dG,aa];have:=ak.kP z;omega
 have:=this x.fArgs;omega
def Qy(k:Int):Bool:=if k=5\/k=11 then true else false
def Qz(k:Int):Bool:=if k=3\/k=4\/k=6\/k=5\/k=8\/k=10 then true else false
def QA(k:Int):Bool:=if k=1\/k=2 then true else false
def QB(k:Int):Bool:=if k=1\/k=2\/k=3\/k=4\/k=6\/k=5\/k=7\/k=8\/k=10\/k=9\/k=11 then false else true
def QC(k:Int):Int:=if k=1\/k=2\/k=3 then 0 else if k=4\/k=6\/k=5 then -1 else if k=8\/k=10 then 2 else if k=9 then 3 else 1
def QD(k:Int):Bool:=if k=7 then true else false
theorem FE:∀n:Nat,∀x:ak,SizeOf.sizeOf x<n->x.sz<=4194304->x.cnt<=300->aT prog 113 [x.v] (.c (.d (.b (ku x))))
 |0=>fun x h=>by omega
 |n+1=>by
  have ih:=FE n;intro x hn hsz hc S;have hb0:=ak.bounds hsz;have kH:=ak.gM x;have zw:=ak.qZ x;have hl:=ak.ZI x
  have h1:∀y∈x.fArgs,aT prog 132 [y.v] (.c (.d (.b (!ku y)))):=fun y hy S=>by
   have hys:=be hy;have hyc:=ak.ZG hy
   have hyz:y.sz<=4194304:=by obtain⟨i,hi,e⟩:=bm hy;rw[<-e];exact ak.arg_b hi hsz
   refine zcx [.tmp 2] func132 ntmps132 ?_;simp -implicitDefEqProofs (disch:=omega) only[go_sem];refine au (ih y (by omega) hyz (by omega)) ?_;simp -implicitDefEqProofs (disch:=omega) only[go_sem]<;>(repeat(with_reducible refine And.intro ?_ ?_;focus first|omega|rfl|assumption|exact⟨_,rfl,rfl⟩|(simp;omega)|(simp;done)))
  have h2:∀y∈x.aX,aT prog 134 [y.v] (.c (.d (.b (!uH y)))):=fun y hy S=>by
   have hys:=be hy;have hyb:=aR.pX y;have hyc:=ak.ZH hy
   have hyz:y.sz<=4194304:=by obtain⟨i,hi,e⟩:=bm hy;rw[<-e];exact ak.Jz hi hsz
   have hyy:=aR.bounds hyz;refine zcx [.tmp 2] func134 ntmps134 ?_;simp -implicitDefEqProofs (disch:=omega) only[go_sem];refine au (fA y.fO (by omega)) ?_;simp -implicitDefEqProofs (disch:=omega) only[go_sem]<;>(repeat(with_reducible refine And.intro ?_ ?_;focus first|omega|rfl|assumption|exact⟨_,rfl,rfl⟩|(simp;omega)|(simp;done)))
   with_reducible refine aj (fun hb=> ?_) (fun hb=> ?_)<;>have h:=hb<;>(try simp only[wf_preprocess] at h)<;>simp -implicitDefEqProofs (disch:=omega) only[go_sem,hb]<;>(repeat(with_reducible refine And.intro ?_ ?_;focus first|omega|rfl|assumption|exact⟨_,rfl,rfl⟩|(simp;omega)|(simp;done)))
   ·exact ay (by rw[pI,h];rfl)
   have k1:=h;refine au (j5 y.aO (by omega) hyy.2.2.1) ?_;simp -implicitDefEqProofs (disch:=omega) only[go_sem]<;>(repeat(with_reducible refine And.intro ?_ ?_;focus first|omega|rfl|assumption|exact⟨_,rfl,rfl⟩|(simp;omega)|(simp;done)))
   with_reducible refine aj (fun hb=> ?_) (fun hb=> ?_)<;>have h:=hb<;>(try simp only[wf_preprocess] at h)<;>simp -implicitDefEqProofs (disch:=omega) only[go_sem,hb]<;>(repeat(with_reducible refine And.intro ?_ ?_;focus first|omega|rfl|assumption|exact⟨_,rfl,rfl⟩|(simp;omega)|(simp;done)))
   ·exact ay (by rw[pI,h];simp)
   have k2:=h;refine au (ih y.fBody (by omega) hyy.2.2.2 (by omega)) ?_;simp -implicitDefEqProofs (disch:=omega) only[go_sem]<;>(repeat(with_reducible refine And.intro ?_ ?_;focus first|omega|rfl|assumption|exact⟨_,rfl,rfl⟩|(simp;omega)|(simp;done)));exact ay (by rw[pI,k1,k2];simp)
  refine zcx [.tmp 2] func113 ntmps113 ?_;simp -implicitDefEqProofs (disch:=omega) only[go_sem];refine au (Lu x hsz (by omega)) ?_;simp -implicitDefEqProofs (disch:=omega) only[go_sem]<;>(repeat(with_reducible refine And.intro ?_ ?_;focus first|omega|rfl|assumption|exact⟨_,rfl,rfl⟩|(simp;omega)|(simp;done)))
  with_reducible refine aj (fun hb=> ?_) (fun hb=> ?_)<;>have h:=hb<;>(try simp only[wf_preprocess] at h)<;>simp -implicitDefEqProofs (disch:=omega) only[go_sem,hb]<;>(repeat(with_reducible refine And.intro ?_ ?_;focus first|omega|rfl|assumption|exact⟨_,rfl,rfl⟩|(simp;omega)|(simp;done)))
  ·exact ay (by rw[xP,aI h];rfl)
  have k1:=h
  (repeat(with_reducible refine And.intro ?_ ?_;focus first|omega|rfl|assumption|exact⟨_,rfl,rfl⟩|(simp;omega)|(simp;done)))
  refine bq rfl (Ac 132 [] _ x.fArgs (fun y=> !ku y) (by omega) fun y hy=>jB.GL (h1 y hy)) ?_;simp -implicitDefEqProofs (disch:=omega) only[go_sem];rw[C9]
  with_reducible refine aj (fun hb=> ?_) (fun hb=> ?_)<;>have h:=hb<;>(try simp only[wf_preprocess] at h)<;>simp -implicitDefEqProofs (disch:=omega) only[go_sem,hb]<;>(repeat(with_reducible refine And.intro ?_ ?_;focus first|omega|rfl|assumption|exact⟨_,rfl,rfl⟩|(simp;omega)|(simp;done)))
  ·exact ay (by rw[xP,h];simp)
  have k2:=h
  (repeat(with_reducible refine And.intro ?_ ?_;focus first|omega|rfl|assumption|exact⟨_,rfl,rfl⟩|(simp;omega)|(simp;done)))
  refine bq rfl (AZ 134 [] _ x.aX (fun y=> !uH y) (by omega) fun y hy=>jB.GL (h2 y hy)) ?_;simp -implicitDefEqProofs (disch:=omega) only[go_sem];rw[FB];exact ay (by rw[xP,bg k1,k2];simp)
theorem DJ(x:ak)(hsz:x.sz<=4194304):aT prog 94 [x.v] (.c (.d (.b (pJ x)))):=fun S=>by
 refine zcx [.tmp 2] func94 ntmps94 ?_;simp -implicitDefEqProofs (disch:=omega) only[go_sem];refine au (Fj x hsz) ?_;simp -implicitDefEqProofs (disch:=omega) only[go_sem]<;>(repeat(with_reducible refine And.intro ?_ ?_;focus first|omega|rfl|assumption|exact⟨_,rfl,rfl⟩|(simp;omega)|(simp;done)))
 with_reducible refine aj (fun hb=> ?_) (fun hb=> ?_)<;>have h:=hb<;>(try simp only[wf_preprocess] at h)<;>simp -implicitDefEqProofs (disch:=omega) only[go_sem,hb]<;>(repeat(with_reducible refine And.intro ?_ ?_;focus first|omega|rfl|assumption|exact⟨_,rfl,rfl⟩|(simp;omega)|(simp;done)))
 ·refine au (FE _ x (cg _) hsz (by omega)) ?_;simp -implicitDefEqProofs (disch:=omega) only[go_sem]<;>(repeat(with_reducible refine And.intro ?_ ?_;focus first|omega|rfl|assumption|exact⟨_,rfl,rfl⟩|(simp;omega)|(simp;done)));exact ay (by unfold pJ;rw[bg (by omega)];rfl)
 ·exact ay (by unfold pJ;rw[aI (by omega)];rfl)
theorem Iy(k:Int):aT prog 156 [.c (.d (.i .i64 k))] (.gq [(false,[.d (.b (Qy k))]),(false,[.d (.b (Qz k))]),(false,[.d (.b (QA k))]),(false,[.d (.b (QB k))]),(false,[.d (.i .i64 (QC k))]),(false,[.d (.b (QD k))])]):=fun S=>by
 refine zcx [.tmp 2,.tmp 3,.tmp 4,.tmp 5,.tmp 6,.tmp 7] func156 ntmps156 ?_;simp -implicitDefEqProofs (disch:=omega) only[go_sem]
 repeat' (first
  |with_reducible refine aj (fun hb=> ?_) (fun hb=> ?_)<;>have h:=hb<;>(try simp only[wf_preprocess] at h)<;>simp -implicitDefEqProofs (disch:=omega) only[go_sem,hb]<;>(repeat(with_reducible refine And.intro ?_ ?_;focus first|omega|rfl|assumption|exact⟨_,rfl,rfl⟩|(simp;omega)|(simp;done)))
  |(unfold Qy Qz QA QB QC QD;grind))
theorem FH(t:ah):aT prog 102 [t.v] (.c (.d (.b (dec (sK t))))):=fun S=>by
 refine zcx [.tmp 2] func102 ntmps102 ?_;simp -implicitDefEqProofs (disch:=omega) only[go_sem]
 repeat' (first
  |with_reducible refine aj (fun hb=> ?_) (fun hb=> ?_)<;>have h:=hb<;>(try simp only[wf_preprocess] at h)<;>simp -implicitDefEqProofs (disch:=omega) only[go_sem,hb]<;>(repeat(with_reducible refine And.intro ?_ ?_;focus first|omega|rfl|assumption|exact⟨_,rfl,rfl⟩|(simp;omega)|(simp;done)))
  |(refine ay ?_;unfold sK;grind [bg,aI,iD,gK]))
theorem QE(s:List UInt8):aT prog 157 [.c (.d (.s s))] (.c (.d (.b (dec (s∈ops))))):=fun S=>by
 refine zcx [.tmp 2] func157 ntmps157 ?_;simp -implicitDefEqProofs (disch:=omega) only[go_sem]
 (repeat(with_reducible refine And.intro ?_ ?_;focus first|omega|rfl|assumption|exact⟨_,rfl,rfl⟩|(simp;omega)|(simp;done)))
 refine au (nO ops s (by decide)) ?_;simp -implicitDefEqProofs (disch:=omega) only[go_sem]<;>(repeat(with_reducible refine And.intro ?_ ?_;focus first|omega|rfl|assumption|exact⟨_,rfl,rfl⟩|(simp;omega)|(simp;done)))
theorem Db:∀n:Nat,∀x:ak,SizeOf.sizeOf x<n->x.sz<=4194304->∀l:Int,0<=l->l<=1048576->aT prog 143 [x.v,.c (.d (.i .i64 l))] (.c (.d (.i .i64 (kC l x.cnt))))
 |0=>fun x h=>by omega
 |n+1=>by
  have ih:=Db n;intro x hn hsz l hl hl2 S;have hb0:=ak.bounds hsz;have kH:=ak.gM x;have zw:=ak.qZ x;have he:=ak.kP x;refine zcx [.tmp 4] func143 ntmps143 ?_;simp -implicitDefEqProofs (disch:=omega) only[go_sem]
  refine bn (ι:=Nat×Int) zmx rfl [1,2,5] (fun y=>[.c (.d (.i .i64 y.2)),.c (.ptr (0,0) 0),.c (.d (.i .i64 y.1))]) (fun y=>[.box (x.enc.map .d)]::S)
   (fun y=>y.1<=x.fArgs.length/\(-1<=y.2/\y.2<=1048576)/\kC y.2 (ak.dG (x.fArgs.drop y.1))=kC (l-1) (ak.dG x.fArgs)) (fun y=>x.fArgs.length-y.1) (0,l-1) rfl ?_ ⟨ao _,by simp only;omega,rfl⟩ ?_
  ·simp -implicitDefEqProofs (disch:=omega) only[go_sem]
  rintro⟨i,c⟩ ⟨p1,p2,p3⟩;simp only at p1 p2 p3
  have out:(i=x.fArgs.length\/c<0)->c=kC (l-1) (ak.dG x.fArgs):=fun h=>by
   rcases h with h|h
   ·rw[h,cj,ak.dG,Bf p2.1] at p3;exact p3
   ·rw[<-p3,DI h];omega
  have second:(i=x.fArgs.length\/c<0)->kC c (aR.dG x.aX)=kC l x.cnt:=fun h=>by
   rw[out h,zA,he];unfold kC;split<;>split<;>(try split)<;>omega
  simp -implicitDefEqProofs (disch:=omega) only[go_sem]
  with_reducible refine aj (fun hb=> ?_) (fun hb=> ?_)<;>have h:=hb<;>(try simp only[wf_preprocess] at h)<;>simp -implicitDefEqProofs (disch:=omega) only[go_sem,hb]<;>(repeat(with_reducible refine And.intro ?_ ?_;focus first|omega|rfl|assumption|exact⟨_,rfl,rfl⟩|(simp;omega)|(simp;done)))
  ·have hi:i<x.fArgs.length:=by omega
   with_reducible refine aj (fun hb=> ?_) (fun hb=> ?_)<;>have h:=hb<;>(try simp only[wf_preprocess] at h)<;>simp -implicitDefEqProofs (disch:=omega) only[go_sem,hb]<;>(repeat(with_reducible refine And.intro ?_ ?_;focus first|omega|rfl|assumption|exact⟨_,rfl,rfl⟩|(simp;omega)|(simp;done)))
   ·have hs:=be (ac hi);have hr:=GU (l:=c) (c:=x.fArgs[i].cnt) (by omega);rw[ak.jh hi,<-zA] at p3
    (repeat(with_reducible refine And.intro ?_ ?_;focus first|omega|rfl|assumption|exact⟨_,rfl,rfl⟩|(simp;omega)|(simp;done)))
    refine au (ih x.fArgs[i] (by omega) (ak.arg_b hi hsz) c (by omega) (by omega)) ?_;simp -implicitDefEqProofs (disch:=omega) only[go_sem]<;>(repeat(with_reducible refine And.intro ?_ ?_;focus first|omega|rfl|assumption|exact⟨_,rfl,rfl⟩|(simp;omega)|(simp;done)));exact bU (i+1,kC c x.fArgs[i].cnt) (by simp only;omega) rfl rfl ⟨by simp only;omega,by simp only;omega,p3⟩
   ·have p4:=second (.inr (by omega));clear second out p3
    refine bn (ι:=Nat×Int) zmx rfl [1,2,6] (fun y=>[.c (.d (.i .i64 y.2)),.c (.ptr (0,0) 0),.c (.d (.i .i64 y.1))]) (fun y=>[.box (x.enc.map .d)]::S)
     (fun y=>y.1<=x.aX.length/\(-1<=y.2/\y.2<=1048576)/\kC y.2 (aR.dG (x.aX.drop y.1))=kC l x.cnt) (fun y=>x.aX.length-y.1) (0,c) rfl ?_ ⟨ao _,by simp only;omega,p4⟩ ?_
    ·simp -implicitDefEqProofs (disch:=omega) only[go_sem]
    clear p1 p2 p4;rintro⟨i,d⟩ ⟨p1,p2,p3⟩;simp only at p1 p2 p3;simp -implicitDefEqProofs (disch:=omega) only[go_sem]
    with_reducible refine aj (fun hb=> ?_) (fun hb=> ?_)<;>have h:=hb<;>(try simp only[wf_preprocess] at h)<;>simp -implicitDefEqProofs (disch:=omega) only[go_sem,hb]<;>(repeat(with_reducible refine And.intro ?_ ?_;focus first|omega|rfl|assumption|exact⟨_,rfl,rfl⟩|(simp;omega)|(simp;done)))
    ·have hi:i<x.aX.length:=by omega
     with_reducible refine aj (fun hb=> ?_) (fun hb=> ?_)<;>have h:=hb<;>(try simp only[wf_preprocess] at h)<;>simp -implicitDefEqProofs (disch:=omega) only[go_sem,hb]<;>(repeat(with_reducible refine And.intro ?_ ?_;focus first|omega|rfl|assumption|exact⟨_,rfl,rfl⟩|(simp;omega)|(simp;done)))
     ·have hs:=be (ac hi);have hs':=aR.pX x.aX[i];have hr:=GU (l:=d) (c:=x.aX[i].fBody.cnt) (by omega);rw[aR.jh hi,<-zA] at p3
      (repeat(with_reducible refine And.intro ?_ ?_;focus first|omega|rfl|assumption|exact⟨_,rfl,rfl⟩|(simp;omega)|(simp;done)))
      refine au (ih x.aX[i].fBody (by omega) (aR.bounds (ak.Jz hi hsz)).2.2.2 d (by omega) (by omega)) ?_;simp -implicitDefEqProofs (disch:=omega) only[go_sem]<;>(repeat(with_reducible refine And.intro ?_ ?_;focus first|omega|rfl|assumption|exact⟨_,rfl,rfl⟩|(simp;omega)|(simp;done)));exact bU (i+1,kC d x.aX[i].fBody.cnt) (by simp only;omega) rfl rfl ⟨by simp only;omega,by simp only;omega,p3⟩
     ·rw[DI (by omega)] at p3;exact int_eq (by omega)
    ·have hi:i=x.aX.length:=by omega
     rw[hi,cj,aR.dG,Bf p2.1] at p3;exact int_eq (by omega)
  ·have p4:=second (.inl (by omega));clear second out p3
   refine bn (ι:=Nat×Int) zmx rfl [1,2,6] (fun y=>[.c (.d (.i .i64 y.2)),.c (.ptr (0,0) 0),.c (.d (.i .i64 y.1))]) (fun y=>[.box (x.enc.map .d)]::S)
    (fun y=>y.1<=x.aX.length/\(-1<=y.2/\y.2<=1048576)/\kC y.2 (aR.dG (x.aX.drop y.1))=kC l x.cnt) (fun y=>x.aX.length-y.1) (0,c) rfl ?_ ⟨ao _,by simp only;omega,p4⟩ ?_
   ·simp -implicitDefEqProofs (disch:=omega) only[go_sem]
   clear p1 p2 p4;rintro⟨i,d⟩ ⟨p1,p2,p3⟩;simp only at p1 p2 p3;simp -implicitDefEqProofs (disch:=omega) only[go_sem]
   with_reducible refine aj (fun hb=> ?_) (fun hb=> ?_)<;>have h:=hb<;>(try simp only[wf_preprocess] at h)<;>simp -implicitDefEqProofs (disch:=omega) only[go_sem,hb]<;>(repeat(with_reducible refine And.intro ?_ ?_;focus first|omega|rfl|assumption|exact⟨_,rfl,rfl⟩|(simp;omega)|(simp;done)))
   ·have hi:i<x.aX.length:=by omega
    with_reducible refine aj (fun hb=> ?_) (fun hb=> ?_)<;>have h:=hb<;>(try simp only[wf_preprocess] at h)<;>simp -implicitDefEqProofs (disch:=omega) only[go_sem,hb]<;>(repeat(with_reducible refine And.intro ?_ ?_;focus first|omega|rfl|assumption|exact⟨_,rfl,rfl⟩|(simp;omega)|(simp;done)))
    ·have hs:=be (ac hi);have hs':=aR.pX x.aX[i];have hr:=GU (l:=d) (c:=x.aX[i].fBody.cnt) (by omega);rw[aR.jh hi,<-zA] at p3
     (repeat(with_reducible refine And.intro ?_ ?_;focus first|omega|rfl|assumption|exact⟨_,rfl,rfl⟩|(simp;omega)|(simp;done)))
     refine au (ih x.aX[i].fBody (by omega) (aR.bounds (ak.Jz hi hsz)).2.2.2 d (by omega) (by omega)) ?_;simp -implicitDefEqProofs (disch:=omega) only[go_sem]<;>(repeat(with_reducible refine And.intro ?_ ?_;focus first|omega|rfl|assumption|exact⟨_,rfl,rfl⟩|(simp;omega)|(simp;done)));exact bU (i+1,kC d x.aX[i].fBody.cnt) (by simp only;omega) rfl rfl ⟨by simp only;omega,by simp only;omega,p3⟩
    ·rw[DI (by omega)] at p3;exact int_eq (by omega)
   ·have hi:i=x.aX.length:=by omega
    rw[hi,cj,aR.dG,Bf p2.1] at p3;exact int_eq (by omega)
theorem Nr:∀n:Nat,∀x:ak,SizeOf.sizeOf x<n->x.sz<=4194304->aT prog 144 [x.v] (.c (.d (.b (ku x)))):=by
 intro n
 induction n with
 |zero=>intro x h;omega
 |succ n ih=>
  intro x hn hsz S;have hb0:=ak.bounds hsz;have kH:=ak.gM x;have zw:=ak.qZ x;have he:=xP x;have hv0:=Jl;have hop:x.fName∈ops->validName x.fName=false:=Lp;refine(show(oF x-> ?T)->_ from fun tail=> ?main) ?tp
  case' main=>
   rcases FD x.aW with hk|hk|hk|hk|hk|hk|hk|hk|hk|hk|hk|hk|hk
   ·have h1:ku x=false:=by rw[he,aI (fun h=>by have:=h.1;omega)];rfl
    refine zcx [.tmp 2] func144 ntmps144 ?_;simp -implicitDefEqProofs (disch:=omega) only[go_sem];refine au (Iy _) ?_;simp -implicitDefEqProofs (disch:=omega) only[go_sem];refine au (ug _ _ _) ?_;simp -implicitDefEqProofs (disch:=omega) only[go_sem]
    with_reducible refine aj (fun hb=> ?_) (fun hb=> ?_)<;>have h:=hb<;>(try simp only[wf_preprocess] at h)<;>simp -implicitDefEqProofs (disch:=omega) only[go_sem,hb]<;>(repeat(with_reducible refine And.intro ?_ ?_;focus first|omega|rfl|assumption|exact⟨_,rfl,rfl⟩|(simp;omega)|(simp;done)))
    ·rw[h1]
    ·omega
   all_goals
    have hf0:¬oF x->V.c (.d (.b false))=V.c (.d (.b (ku x))):=fun h=>ay (by rw[he,aI h];rfl);refine zcx [.tmp 2] func144 ntmps144 ?_;simp -implicitDefEqProofs (disch:=omega) only[go_sem,hk];refine au (Iy _) ?_;simp -implicitDefEqProofs (disch:=omega) only[go_sem,hk,Qy,Qz,QA,QB,QC,QD,or_false,or_true,true_or,false_or];refine au (ug _ _ _) ?_;simp -implicitDefEqProofs (disch:=omega) only[go_sem,hk]
    repeat' (first
     |with_reducible refine aj (fun hb=> ?_) (fun hb=> ?_)<;>have h:=hb<;>(try simp only[wf_preprocess] at h)<;>simp -implicitDefEqProofs (disch:=omega) only[go_sem,hb,hk]<;>(repeat(with_reducible refine And.intro ?_ ?_;focus first|omega|rfl|assumption|exact⟨_,rfl,rfl⟩|(simp;omega)|(simp;done)))
     |((with_reducible show dQ _ _ 42 _ _ _ _);refine au (fB x.fName (by omega)) ?_;simp -implicitDefEqProofs (disch:=omega) only[go_sem,hk])
     |((with_reducible show dQ _ _ 42 _ _ _ _);refine au (fB x.dP (by omega)) ?_;simp -implicitDefEqProofs (disch:=omega) only[go_sem,hk])
     |((with_reducible show dQ _ _ 157 _ _ _ _);refine au (QE x.fName) ?_;simp -implicitDefEqProofs (disch:=omega) only[go_sem,hk])
     |((with_reducible show dQ _ _ 102 _ _ _ _);refine au (FH x.fType) ?_;simp -implicitDefEqProofs (disch:=omega) only[go_sem,hk])
     |((with_reducible show dQ _ _ 117 _ _ _ _);refine au (qQ x.fType (by omega)) ?_;simp -implicitDefEqProofs (disch:=omega) only[go_sem,hk])
     |((with_reducible show dQ _ _ 16 _ _ _ _);refine au (ug x.fN _ _) ?_;simp -implicitDefEqProofs (disch:=omega) only[go_sem,hk])
     |(refine hf0 fun hF=> ?_;simp only[oF,hk,or_false,or_true,true_or,false_or,and_true,true_and,if_true,if_false,↓reduceIte,Int.reduceEq,Int.reduceLT,Int.reduceLE] at hF;grind [iD,gK,bg,aI]))
   all_goals
    have hF:oF x:=by simp only[oF,hk,or_false,or_true,true_or,false_or,and_true,true_and,if_true,if_false,↓reduceIte,Int.reduceEq,Int.reduceLT,Int.reduceLE];grind [iD,gK,bg,aI]
    refine uh (st':=[.box (x.enc.map .d)]::S) [1,9] [.c (.ptr (0,0) 0),.c (.d (.i .i64 0))] rfl (by simp -implicitDefEqProofs (disch:=omega) only[go_sem,hk]) ?_;exact tail hF
  intro hF;rw[bg hF,bj] at he;clear hF hop hv0
  refine bn (ι:=Nat) zmx rfl [1,9] (fun i=>[.c (.ptr (0,0) 0),.c (.d (.i .i64 i))]) (fun _=>[.box (x.enc.map .d)]::S)
   (fun i=>i<=x.fArgs.length/\lF (x.fArgs.drop i)=lF x.fArgs) (fun i=>x.fArgs.length-i) 0 rfl ?_ ⟨ao _,rfl⟩ ?_
  ·simp -implicitDefEqProofs (disch:=omega) only[go_sem]
  rintro i ⟨p1,p2⟩;simp -implicitDefEqProofs (disch:=omega) only[go_sem]
  with_reducible refine aj (fun hb=> ?_) (fun hb=> ?_)<;>have h:=hb<;>(try simp only[wf_preprocess] at h)<;>simp -implicitDefEqProofs (disch:=omega) only[go_sem,hb]<;>(repeat(with_reducible refine And.intro ?_ ?_;focus first|omega|rfl|assumption|exact⟨_,rfl,rfl⟩|(simp;omega)|(simp;done)))
  ·have hi:i<x.fArgs.length:=by omega
   have hs:=be (ac hi);rw[Lm hi] at p2
   (repeat(with_reducible refine And.intro ?_ ?_;focus first|omega|rfl|assumption|exact⟨_,rfl,rfl⟩|(simp;omega)|(simp;done)))
   refine au (ih x.fArgs[i] (by omega) (ak.arg_b hi hsz)) ?_;simp -implicitDefEqProofs (disch:=omega) only[go_sem]<;>(repeat(with_reducible refine And.intro ?_ ?_;focus first|omega|rfl|assumption|exact⟨_,rfl,rfl⟩|(simp;omega)|(simp;done)))
   with_reducible refine aj (fun hb=> ?_) (fun hb=> ?_)<;>have h:=hb<;>(try simp only[wf_preprocess] at h)<;>simp -implicitDefEqProofs (disch:=omega) only[go_sem,hb]<;>(repeat(with_reducible refine And.intro ?_ ?_;focus first|omega|rfl|assumption|exact⟨_,rfl,rfl⟩|(simp;omega)|(simp;done)))
   ·exact ay (by rw[he,<-p2,h];rfl)
   ·exact bU (i+1) (by omega) rfl rfl ⟨by omega,by rw[<-p2,h];rfl⟩
  rw[bz (by omega)] at p2;have q:lF x.fArgs=true:=p2.symm;clear p2 p1
  refine bn (ι:=Nat) zmx rfl [1,10] (fun i=>[.c (.ptr (0,0) 0),.c (.d (.i .i64 i))]) (fun _=>[.box (x.enc.map .d)]::S)
   (fun i=>i<=x.aX.length/\om (x.aX.drop i)=om x.aX) (fun i=>x.aX.length-i) 0 rfl ?_ ⟨ao _,rfl⟩ ?_
  ·simp -implicitDefEqProofs (disch:=omega) only[go_sem]
  rintro i ⟨p1,p2⟩;simp -implicitDefEqProofs (disch:=omega) only[go_sem]
  with_reducible refine aj (fun hb=> ?_) (fun hb=> ?_)<;>have h:=hb<;>(try simp only[wf_preprocess] at h)<;>simp -implicitDefEqProofs (disch:=omega) only[go_sem,hb]<;>(repeat(with_reducible refine And.intro ?_ ?_;focus first|omega|rfl|assumption|exact⟨_,rfl,rfl⟩|(simp;omega)|(simp;done)))
  ·have hi:i<x.aX.length:=by omega
   have hs:=be (ac hi);have hs':=aR.pX x.aX[i];have hab:=aR.bounds (ak.Jz hi hsz);rw[Np hi] at p2;have no:uH x.aX[i]=false->V.c (.d (.b false))=V.c (.d (.b (ku x))):=fun h=>ay (by rw[he,<-p2,h];simp)
   (repeat(with_reducible refine And.intro ?_ ?_;focus first|omega|rfl|assumption|exact⟨_,rfl,rfl⟩|(simp;omega)|(simp;done)))
   refine au (fB x.aX[i].fO (by omega)) ?_;simp -implicitDefEqProofs (disch:=omega) only[go_sem]<;>(repeat(with_reducible refine And.intro ?_ ?_;focus first|omega|rfl|assumption|exact⟨_,rfl,rfl⟩|(simp;omega)|(simp;done)))
   with_reducible refine aj (fun hb=> ?_) (fun hb=> ?_)<;>have h:=hb<;>(try simp only[wf_preprocess] at h)<;>simp -implicitDefEqProofs (disch:=omega) only[go_sem,hb]<;>(repeat(with_reducible refine And.intro ?_ ?_;focus first|omega|rfl|assumption|exact⟨_,rfl,rfl⟩|(simp;omega)|(simp;done)))
   ·exact no (by rw[pI,h];rfl)
   have k1:=h
   (repeat(with_reducible refine And.intro ?_ ?_;focus first|omega|rfl|assumption|exact⟨_,rfl,rfl⟩|(simp;omega)|(simp;done)))
   refine au (Fz x.aX[i].aO (by omega) hab.2.2.1) ?_;simp -implicitDefEqProofs (disch:=omega) only[go_sem]<;>(repeat(with_reducible refine And.intro ?_ ?_;focus first|omega|rfl|assumption|exact⟨_,rfl,rfl⟩|(simp;omega)|(simp;done)))
   with_reducible refine aj (fun hb=> ?_) (fun hb=> ?_)<;>have h:=hb<;>(try simp only[wf_preprocess] at h)<;>simp -implicitDefEqProofs (disch:=omega) only[go_sem,hb]<;>(repeat(with_reducible refine And.intro ?_ ?_;focus first|omega|rfl|assumption|exact⟨_,rfl,rfl⟩|(simp;omega)|(simp;done)))
   ·exact no (by rw[pI];unfold fU;rw[h];simp)
   have k2:=h
   (repeat(with_reducible refine And.intro ?_ ?_;focus first|omega|rfl|assumption|exact⟨_,rfl,rfl⟩|(simp;omega)|(simp;done)))
   refine au (kI x.aX[i].aO (by omega)) ?_;simp -implicitDefEqProofs (disch:=omega) only[go_sem]<;>(repeat(with_reducible refine And.intro ?_ ?_;focus first|omega|rfl|assumption|exact⟨_,rfl,rfl⟩|(simp;omega)|(simp;done)))
   with_reducible refine aj (fun hb=> ?_) (fun hb=> ?_)<;>have h:=hb<;>(try simp only[wf_preprocess] at h)<;>simp -implicitDefEqProofs (disch:=omega) only[go_sem,hb]<;>(repeat(with_reducible refine And.intro ?_ ?_;focus first|omega|rfl|assumption|exact⟨_,rfl,rfl⟩|(simp;omega)|(simp;done)))
   ·exact no (by rw[pI];unfold fU;rw[aI h];simp)
   have k3:=h
   (repeat(with_reducible refine And.intro ?_ ?_;focus first|omega|rfl|assumption|exact⟨_,rfl,rfl⟩|(simp;omega)|(simp;done)))
   refine au (ih x.aX[i].fBody (by omega) hab.2.2.2) ?_;simp -implicitDefEqProofs (disch:=omega) only[go_sem]<;>(repeat(with_reducible refine And.intro ?_ ?_;focus first|omega|rfl|assumption|exact⟨_,rfl,rfl⟩|(simp;omega)|(simp;done)))
   with_reducible refine aj (fun hb=> ?_) (fun hb=> ?_)<;>have h:=hb<;>(try simp only[wf_preprocess] at h)<;>simp -implicitDefEqProofs (disch:=omega) only[go_sem,hb]<;>(repeat(with_reducible refine And.intro ?_ ?_;focus first|omega|rfl|assumption|exact⟨_,rfl,rfl⟩|(simp;omega)|(simp;done)))
   ·exact no (by rw[pI,h];simp)
   ·exact dL 1 (by decide) (i+1) (by omega) rfl rfl rfl rfl ⟨by omega,by rw[<-p2,pI,k1,h];unfold fU;rw[k2,bg k3];rfl⟩
  ·rw[bz (by omega)] at p2;exact ay (by rw[he,q,<-p2];rfl)
theorem DK(x:ak)(hsz:x.sz<=4194304):aT prog 121 [x.v] (.c (.d (.b (pJ x)))):=fun S=>by
 have hs:=WY (l:=300) (c:=x.cnt) (by omega);refine zcx [.tmp 2] func121 ntmps121 ?_;simp -implicitDefEqProofs (disch:=omega) only[go_sem];refine au (Db _ x (cg _) hsz 300 (by omega) (by omega)) ?_;simp -implicitDefEqProofs (disch:=omega) only[go_sem]<;>(repeat(with_reducible refine And.intro ?_ ?_;focus first|omega|rfl|assumption|exact⟨_,rfl,rfl⟩|(simp;omega)|(simp;done)));rw[hs]
 with_reducible refine aj (fun hb=> ?_) (fun hb=> ?_)<;>have h:=hb<;>(try simp only[wf_preprocess] at h)<;>simp -implicitDefEqProofs (disch:=omega) only[go_sem,hb]<;>(repeat(with_reducible refine And.intro ?_ ?_;focus first|omega|rfl|assumption|exact⟨_,rfl,rfl⟩|(simp;omega)|(simp;done)))
 ·refine au (Nr _ x (cg _) hsz) ?_;simp -implicitDefEqProofs (disch:=omega) only[go_sem]<;>(repeat(with_reducible refine And.intro ?_ ?_;focus first|omega|rfl|assumption|exact⟨_,rfl,rfl⟩|(simp;omega)|(simp;done)));exact ay (by unfold pJ;rw[bg (by omega)];rfl)
 ·exact ay (by unfold pJ;rw[aI (by omega)];rfl)
end Go.Ab