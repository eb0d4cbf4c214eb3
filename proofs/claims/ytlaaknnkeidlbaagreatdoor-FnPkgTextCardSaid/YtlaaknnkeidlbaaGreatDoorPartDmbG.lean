/-
  SEVERAL TEXTS IN ONE (merged by program): contracts and models, each with its own heading.
-/
import Derived.Test.YtlaaknnkeidlbaaGreatDoorPartDmbC
open Go.Proofs Go.Proofs.Tryz
set_option linter.unusedSimpArgs false
set_option linter.unusedVariables false
set_option maxRecDepth 4000
namespace Go.Ab
theorem CZ:∀n:Nat,(∀x:ak,SizeOf.sizeOf x<n->∀y:ak,x.sz<=4194304->aF prog 47 [x.v,y.v] (.c (.d (.b (dec (x=y))))))/\
 (∀xs:List ak,SizeOf.sizeOf xs<n->∀ys:List ak,xs.length+aP (xs.map ak.enc)<=4194304->aF prog 119 [.c (.d (.sl (xs.map ak.enc))),.c (.d (.sl (ys.map ak.enc)))] (.c (.d (.b (dec (xs=ys))))))
 |0=>⟨fun x h=>by omega,fun x h=>by omega⟩
 |n+1=>by
  obtain⟨ih,uM⟩:=CZ n;refine⟨fun x hn y hsz S=> ?_,fun xs hn ys hsz S=> ?_⟩
  ·have kV:=ak.iY x;simp only[ak.sz,ak.aJ,bQ,bP,D.sz,List.length_map] at hsz;refine zcx [.tmp 4] func47 ntmps47 ?_;refine W1 ?_;refine S0 (fun hb h=>?_) fun hb h=>?_
   ·refine S0 (fun hb h=>?_) fun hb h=>?_
    ·refine W3 ?_;refine C1 (uM x.fArgs (by omega) y.fArgs (by omega)) ?_;refine aI (iO ⟨fun e=> ?_,fun e=>by rw[e]⟩);exact ak.ext ‹x.aM=y.aM› h e
    ·exact aI (aR (fun e=>h (by rw[e]))).symm
   ·exact aI (aR (fun e=>h (by rw[e]))).symm
  ·refine zcx [.tmp 4] func119 ntmps119 ?_;refine W1 ?_;refine S0 (fun hb h=>?_) fun hb h=>?_
   ·exact aI (aR (fun e=>h (by rw[e]))).symm
   have hl:xs.length=ys.length:=by omega
   refine aZ (ι:=Nat) zmx rfl [0,1,5] (fun y=>[.c (.d (.sl (xs.map ak.enc))),.c (.d (.sl (ys.map ak.enc))),.c (.d (.i .i64 y))]) (fun y=>[]::S)
    (fun i=>i<=xs.length/\∀j,j<i->xs[j]? =ys[j]?) (fun y=>xs.length-y) 0 rfl rfl ⟨Nat.zero_le _,fun j h=>by omega⟩ ?_
   rintro i ⟨p1,p2⟩;refine W1 ?_;refine S0 (fun hb h=>?_) fun hb h=>?_
   ·have hi:i<xs.length:=by omega
    have hi':i<ys.length:=by omega
    have hx:xs[i].sz<=aP (xs.map ak.enc):=dz (List.mem_map_of_mem (List.getElem_mem hi));refine W3 ?_;refine C1 (ih xs[i] (by have:=List.sizeOf_lt_of_mem (List.getElem_mem hi);omega) ys[i] (by omega)) ?_;refine S0 (fun hb h=>?_) fun hb h=>?_
    ·exact aI (aR (fun e=>h (by simp only[e]))).symm
    refine dB (i+1) (by omega) rfl rfl ⟨by omega,fun j hj=> ?_⟩;by_cases e:j=i
    ·subst e;rw[List.getElem?_eq_getElem hi,List.getElem?_eq_getElem hi',h]
    ·exact p2 j (by omega)
   ·have hi:i=xs.length:=by omega
    refine aI (bM (List.ext_getElem? fun j=> ?_)).symm;by_cases hj:j<i
    ·exact p2 j hj
    ·rw[List.getElem?_eq_none (by omega),List.getElem?_eq_none (by omega)]
theorem Nc(x y:ak)(h:x.sz<=4194304):aF prog 47 [x.v,y.v] (.c (.d (.b (dec (x=y))))):=(CZ _).1 x (Nat.lt_succ_self _) y h
theorem C8:∀n:Nat,(∀x:ak,SizeOf.sizeOf x<n->∀y:ak,x.sz<=4194304->aF prog 271 [x.v,y.v] (.c (.d (.b (dec (x=y))))))/\
 (∀xs:List ak,SizeOf.sizeOf xs<n->∀ys:List ak,xs.length+aP (xs.map ak.enc)<=4194304->aF prog 293 [.c (.d (.sl (xs.map ak.enc))),.c (.d (.sl (ys.map ak.enc))),.c (.fn 271 [])] (.c (.d (.b (dec (xs=ys))))))
 |0=>⟨fun x h=>by omega,fun x h=>by omega⟩
 |n+1=>by
  obtain⟨ih,uM⟩:=C8 n;refine⟨fun x hn y hsz S=> ?_,fun xs hn ys hsz S=> ?_⟩
  ·have kV:=ak.iY x;simp only[ak.sz,ak.aJ,bQ,bP,D.sz,List.length_map] at hsz;refine zcx [.tmp 4] func271 ntmps271 ?_;refine W1 ?_;refine S0 (fun hb h=>?_) fun hb h=>?_
   ·refine S0 (fun hb h=>?_) fun hb h=>?_
    ·refine W3 ?_;refine C1 (uM x.fArgs (by omega) y.fArgs (by omega)) ?_;refine aI (iO ⟨fun e=> ?_,fun e=>by rw[e]⟩);exact ak.ext ‹x.aM=y.aM› h e
    ·exact aI (aR (fun e=>h (by rw[e]))).symm
   ·exact aI (aR (fun e=>h (by rw[e]))).symm
  ·refine zcx [.tmp 6] func293 ntmps293 ?_;refine W1 ?_;refine S0 (fun hb h=>?_) fun hb h=>?_
   ·exact aI (aR (fun e=>h (by rw[e]))).symm
   have hl:xs.length=ys.length:=by omega
   refine aZ (ι:=Nat) zmx rfl [1,2,15,16,17] (fun y=>[.c (.d (.sl (ys.map ak.enc))),.c (.fn 271 []),.c (.d (.sl (xs.map ak.enc))),.c (.d (.i .i64 xs.length)),.c (.d (.i .i64 y))]) (fun y=>[]::S)
    (fun i=>i<=xs.length/\∀j,j<i->xs[j]? =ys[j]?) (fun y=>xs.length-y) 0 rfl rfl ⟨Nat.zero_le _,fun j h=>by omega⟩ ?_
   rintro i ⟨p1,p2⟩;refine W1 ?_;refine S0 (fun hb h=>?_) fun hb h=>?_
   ·have hi:i<xs.length:=by omega
    have hi':i<ys.length:=by omega
    have hx:xs[i].sz<=aP (xs.map ak.enc):=dz (List.mem_map_of_mem (List.getElem_mem hi));refine W3 ?_;refine C1 (ih xs[i] (by have:=List.sizeOf_lt_of_mem (List.getElem_mem hi);omega) ys[i] (by omega)) ?_;refine S0 (fun hb h=>?_) fun hb h=>?_
    ·exact aI (aR (fun e=>h (by simp only[e]))).symm
    refine bT 0 (by decide) (i+1) (by omega) rfl rfl rfl rfl ⟨by omega,fun j hj=> ?_⟩;by_cases e:j=i
    ·subst e;rw[List.getElem?_eq_getElem hi,List.getElem?_eq_getElem hi',h]
    ·exact p2 j (by omega)
   ·have hi:i=xs.length:=by omega
    refine aI (bM (List.ext_getElem? fun j=> ?_)).symm;by_cases hj:j<i
    ·exact p2 j hj
    ·rw[List.getElem?_eq_none (by omega),List.getElem?_eq_none (by omega)]
theorem Nf(x y:ak)(h:x.sz<=4194304):aF prog 271 [x.v,y.v] (.c (.d (.b (dec (x=y))))):=(C8 _).1 x (Nat.lt_succ_self _) y h
theorem O5:∀n:Nat,(∀x:ak,SizeOf.sizeOf x<n->x.sz<=4194304->aF prog 270 [x.v] x.v)/\
 (∀xs:List ak,SizeOf.sizeOf xs<n->xs.length+aP (xs.map ak.enc)<=4194304->aF prog 292 [.c (.d (.sl (xs.map ak.enc)))] (.c (.d (.sl (xs.map ak.enc)))))
 |0=>⟨fun x h=>by omega,fun x h=>by omega⟩
 |n+1=>by
  obtain⟨ih,uM⟩:=O5 n;refine⟨fun x hn hsz S=> ?_,fun xs hn hsz S=> ?_⟩
  ·have kV:=ak.iY x;simp only[ak.sz,ak.aJ,bQ,bP,D.sz,List.length_map] at hsz;refine zcx [.cell 2 26] func270 ntmps270 ?_;refine W1 ?_;exact C3 (uM x.fArgs (by omega) (by omega))
  ·refine zcx [.tmp 2] func292 ntmps292 ?_;refine W1 ?_;refine qG 3 3 [] rfl (by simp) ?_
   refine aZ (ι:=Nat×List (List D)) zmx rfl [0,3,4] (fun y=>[.c (.d (.sl (xs.map ak.enc))),.c (.bI (0,0) y.2),.c (.d (.i .i64 y.1))]) (fun y=>[.tok 3 y.2]::S)
    (fun y=>y.1<=xs.length/\y.2=(xs.map ak.enc).take y.1) (fun y=>xs.length-y.1) (0,[]) rfl rfl ⟨Nat.zero_le _,rfl⟩ ?_
   rintro⟨i,es⟩ ⟨p1,p2⟩;simp only at p1 p2
   have pl:es.length<=xs.length:=by rw[p2];simp;omega
   refine W1 ?_;refine S0 (fun hb h=>?_) fun hb h=>?_
   ·have hi:i<xs.length:=by omega
    have hx:xs[i].sz<=aP (xs.map ak.enc):=dz (List.mem_map_of_mem (List.getElem_mem hi));refine W3 ?_;refine C1 (ih xs[i] (by have:=List.sizeOf_lt_of_mem (List.getElem_mem hi);omega) (by omega)) ?_;refine W3 ?_;exact dB (i+1,_) (by simp only;omega) rfl rfl ⟨by simp only;omega,by rw[p2];simp[List.take_succ_eq_append_getElem,hi,ak.aJ]⟩
   ·have hi:i=xs.length:=by omega
    rw[p2,List.take_of_length_le (by rw[List.length_map];omega)]
theorem aeU(x:ak)(h:x.sz<=4194304):aF prog 270 [x.v] x.v:=(O5 _).1 x (Nat.lt_succ_self _) h
end Go.Ab