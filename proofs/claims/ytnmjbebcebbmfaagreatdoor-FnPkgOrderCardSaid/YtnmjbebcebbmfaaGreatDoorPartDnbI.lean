/-
  SEVERAL TEXTS IN ONE (merged by program): contracts and models, each with its own heading.
-/
import Derived.Test.YtnmjbebcebbmfaaGreatDoorPartDnbC
open Go.Proofs Go.Proofs.Tryz
set_option linter.unusedSimpArgs false
set_option linter.unusedVariables false
set_option maxRecDepth 4000
namespace Go.Ab
theorem ER:∀n:Nat,(∀x:ak,SizeOf.sizeOf x<n->∀y:ak,x.sz<=4194304->aD prog 255 [x.v,y.v] (.c (.d (.b (dec (x=y))))))/\
 (∀xs:List ak,SizeOf.sizeOf xs<n->∀ys:List ak,xs.length+aS (xs.map ak.enc)<=4194304->aD prog 264 [.c (.d (.sl (xs.map ak.enc))),.c (.d (.sl (ys.map ak.enc)))] (.c (.d (.b (dec (xs=ys))))))
 |0=>⟨fun x h=>gA,fun x h=>gA⟩
 |n+1=>by
  obtain⟨ih,qm⟩:=ER n;refine⟨fun x hn y hsz S=> ?_,fun xs hn ys hsz S=> ?_⟩
  ·have kL:=ak.jF x;simp only[ak.sz,ak.aC,bX,bT,D.sz,ab] at hsz;refine zcx [.tmp 4] func255 ntmps255 ?_;refine W1 ?_;refine S0 (fun hb h=>?_) fun hb h=>?_
   ·refine S0 (fun hb h=>?_) fun hb h=>?_
    ·refine W3 ?_;refine C1 (qm x.fArgs gA y.fArgs gA) ?_;refine aK (iJ ⟨fun e=> ?_,fun e=>by rw[e]⟩);exact ak.ext ‹x.aN=y.aN› h e
    ·exact aK (aO (fun e=>h (by rw[e]))).symm
   ·exact aK (aO (fun e=>h (by rw[e]))).symm
  ·refine zcx [.tmp 4] func264 ntmps264 ?_;refine W1 ?_;refine S0 (fun hb h=>?_) fun hb h=>?_
   ·exact aK (aO (fun e=>h (by rw[e]))).symm
   have hl:xs.length=ys.length:=gA
   refine aZ (ι:=Nat) zmx rfl [0,1,5] (fun y=>[.c (.d (.sl (xs.map ak.enc))),.c (.d (.sl (ys.map ak.enc))),.c (.d (.i .i64 y))]) (fun y=>[]::S)
    (fun i=>i<=xs.length/\∀j,j<i->xs[j]? =ys[j]?) (fun y=>xs.length-y) 0 rfl rfl ⟨an _,fun j h=>gA⟩ ?_
   rintro i ⟨p1,p2⟩;refine W1 ?_;refine S0 (fun hb h=>?_) fun hb h=>?_
   ·have hi:i<xs.length:=gA
    have hi':i<ys.length:=gA
    have hx:xs[i].sz<=aS (xs.map ak.enc):=dM (be (ac hi));refine W3 ?_;refine C1 (ih xs[i] (by have:=bh (ac hi);omega) ys[i] gA) ?_;refine S0 (fun hb h=>?_) fun hb h=>?_
    ·exact aK (aO (fun e=>h (by simp only[e]))).symm
    refine dH (i+1) gA rfl rfl ⟨gA,fun j hj=> ?_⟩;by_cases e:j=i
    ·subst e;rw[am hi,am hi',h]
    ·exact p2 j gA
   ·have hi:i=xs.length:=gA
    refine aK (bK (dl fun j=> ?_)).symm;by_cases hj:j<i
    ·exact p2 j hj
    ·rw[cn gA,cn gA]
theorem PW(x y:ak)(h:x.sz<=4194304):aD prog 255 [x.v,y.v] (.c (.d (.b (dec (x=y))))):=(ER _).1 x (cg _) y h
theorem ES:∀n:Nat,(∀x:ak,SizeOf.sizeOf x<n->∀y:ak,x.sz<=4194304->aD prog 223 [x.v,y.v] (.c (.d (.b (dec (x=y))))))/\
 (∀xs:List ak,SizeOf.sizeOf xs<n->∀ys:List ak,xs.length+aS (xs.map ak.enc)<=4194304->aD prog 249 [.c (.d (.sl (xs.map ak.enc))),.c (.d (.sl (ys.map ak.enc))),.c (.fn 223 [])] (.c (.d (.b (dec (xs=ys))))))
 |0=>⟨fun x h=>gA,fun x h=>gA⟩
 |n+1=>by
  obtain⟨ih,qm⟩:=ES n;refine⟨fun x hn y hsz S=> ?_,fun xs hn ys hsz S=> ?_⟩
  ·have kL:=ak.jF x;simp only[ak.sz,ak.aC,bX,bT,D.sz,ab] at hsz;refine zcx [.tmp 4] func223 ntmps223 ?_;refine W1 ?_;refine S0 (fun hb h=>?_) fun hb h=>?_
   ·refine S0 (fun hb h=>?_) fun hb h=>?_
    ·refine W3 ?_;refine C1 (qm x.fArgs gA y.fArgs gA) ?_;refine aK (iJ ⟨fun e=> ?_,fun e=>by rw[e]⟩);exact ak.ext ‹x.aN=y.aN› h e
    ·exact aK (aO (fun e=>h (by rw[e]))).symm
   ·exact aK (aO (fun e=>h (by rw[e]))).symm
  ·refine zcx [.tmp 6] func249 ntmps249 ?_;refine W1 ?_;refine S0 (fun hb h=>?_) fun hb h=>?_
   ·exact aK (aO (fun e=>h (by rw[e]))).symm
   have hl:xs.length=ys.length:=gA
   refine aZ (ι:=Nat) zmx rfl [1,2,15,16,17] (fun y=>[.c (.d (.sl (ys.map ak.enc))),.c (.fn 223 []),.c (.d (.sl (xs.map ak.enc))),.c (.d (.i .i64 xs.length)),.c (.d (.i .i64 y))]) (fun y=>[]::S)
    (fun i=>i<=xs.length/\∀j,j<i->xs[j]? =ys[j]?) (fun y=>xs.length-y) 0 rfl rfl ⟨an _,fun j h=>gA⟩ ?_
   rintro i ⟨p1,p2⟩;refine W1 ?_;refine S0 (fun hb h=>?_) fun hb h=>?_
   ·have hi:i<xs.length:=gA
    have hi':i<ys.length:=gA
    have hx:xs[i].sz<=aS (xs.map ak.enc):=dM (be (ac hi));refine W3 ?_;refine C1 (ih xs[i] (by have:=bh (ac hi);omega) ys[i] gA) ?_;refine S0 (fun hb h=>?_) fun hb h=>?_
    ·exact aK (aO (fun e=>h (by simp only[e]))).symm
    refine bR 0 gE (i+1) gA rfl rfl rfl rfl ⟨gA,fun j hj=> ?_⟩;by_cases e:j=i
    ·subst e;rw[am hi,am hi',h]
    ·exact p2 j gA
   ·have hi:i=xs.length:=gA
    refine aK (bK (dl fun j=> ?_)).symm;by_cases hj:j<i
    ·exact p2 j hj
    ·rw[cn gA,cn gA]
theorem PX(x y:ak)(h:x.sz<=4194304):aD prog 223 [x.v,y.v] (.c (.d (.b (dec (x=y))))):=(ES _).1 x (cg _) y h
theorem Rx:∀n:Nat,(∀x:ak,SizeOf.sizeOf x<n->x.sz<=4194304->aD prog 214 [x.v] x.v)/\
 (∀xs:List ak,SizeOf.sizeOf xs<n->xs.length+aS (xs.map ak.enc)<=4194304->aD prog 245 [.c (.d (.sl (xs.map ak.enc)))] (.c (.d (.sl (xs.map ak.enc)))))
 |0=>⟨fun x h=>gA,fun x h=>gA⟩
 |n+1=>by
  obtain⟨ih,qm⟩:=Rx n;refine⟨fun x hn hsz S=> ?_,fun xs hn hsz S=> ?_⟩
  ·have kL:=ak.jF x;simp only[ak.sz,ak.aC,bX,bT,D.sz,ab] at hsz;refine zcx [.cell 2 73] func214 ntmps214 ?_;refine W1 ?_;exact C3 (qm x.fArgs gA gA)
  ·refine zcx [.tmp 2] func245 ntmps245 ?_;refine W1 ?_;refine nu 3 3 [] rfl gL ?_
   refine aZ (ι:=Nat×List (List D)) zmx rfl [0,3,4] (fun y=>[.c (.d (.sl (xs.map ak.enc))),.c (.bJ (0,0) y.2),.c (.d (.i .i64 y.1))]) (fun y=>[.tok 3 y.2]::S)
    (fun y=>y.1<=xs.length/\y.2=(xs.map ak.enc).take y.1) (fun y=>xs.length-y.1) (0,[]) rfl rfl ⟨an _,rfl⟩ ?_
   rintro⟨i,es⟩ ⟨p1,p2⟩;simp only at p1 p2
   have pl:es.length<=xs.length:=by rw[p2];simp;omega
   refine W1 ?_;refine S0 (fun hb h=>?_) fun hb h=>?_
   ·have hi:i<xs.length:=gA
    have hx:xs[i].sz<=aS (xs.map ak.enc):=dM (be (ac hi));refine W3 ?_;refine C1 (ih xs[i] (by have:=bh (ac hi);omega) gA) ?_;refine W3 ?_;exact dH (i+1,_) gC rfl rfl ⟨gC,by rw[p2];simp[bu,hi,ak.aC]⟩
   ·have hi:i=xs.length:=gA
    rw[p2,aE (by rw[ab];omega)]
theorem ah0(x:ak)(h:x.sz<=4194304):aD prog 214 [x.v] x.v:=(Rx _).1 x (cg _) h
end Go.Ab