/-
  SEVERAL TEXTS IN ONE (merged by program): contracts and models, each with its own heading.
-/
import Derived.Test.YtlmhknhlmicmeaaGreatDoorPartRobF
import Derived.Test.YtlmhknhlmicmeaaGreatDoorRows
import Derived.OpenShut
import Derived.LaidMore
import Derived.Stop.LaidErr
set_option linter.unusedSimpArgs false
set_option linter.unusedVariables false
set_option maxRecDepth 8000
set_option maxRecDepth 4000
namespace Go.Proofs.YtlmhknhlmicmeaaGreatDoor
open Go Go.Ab
theorem yU:∀n:Nat,(∀xs:List ay,SizeOf.sizeOf xs<n→∀(k:Int) (l j r:Nat) (p:List (Nat×Nat)) (S:Store) (rs:List (List (List D))),aV S (l,j)=some (.xf rs)→atR rs r p=some (xs.map ay.enc)→0≤k∧k+aB (xs.map ay.enc)≤4611686018427387904→bD Tryz.prog 114 [.c (.xp (l,j) r p),.c (.d (.i .i64 k))] S (fun res S'=>res=.c (.d (.i .i64 (k+aB (xs.map ay.enc))))∧S'=bf S (l,j) (.xf (dB rs r p (cu (xs.map ay.enc) k)))))∧
 (∀xs:List aJ,SizeOf.sizeOf xs<n→∀(k:Int) (l j r:Nat) (p:List (Nat×Nat)) (S:Store) (rs:List (List (List D))),aV S (l,j)=some (.xf rs)→atR rs r p=some (xs.map aJ.enc)→0≤k∧k+aB (xs.map aJ.enc)≤4611686018427387904→bD Tryz.prog 115 [.c (.xp (l,j) r p),.c (.d (.i .i64 k))] S (fun res S'=>res=.c (.d (.i .i64 (k+aB (xs.map aJ.enc))))∧S'=bf S (l,j) (.xf (dB rs r p (cu (xs.map aJ.enc) k)))))
 |0=>⟨fun xs h=>by omega,fun xs h=>by omega⟩
 |n+1=>by
  obtain⟨wI,Bp⟩:=yU n
  refine⟨fun xs hn k l j r p S rs hS hp hk=> ?_,fun xs hn k l j r p S rs hS hp hk=> ?_⟩
  ·have hlen:=nP (f:=ay.enc) (fun x=>by simp only[ay.aG,aj.aG,encS,encI,List.cons_append,List.nil_append,kM,kL];omega) xs
   obtain⟨rows,hr⟩:∃rows,rows=xs.map ay.enc:=⟨_,rfl⟩
   have hl:rows.length=xs.length:=by rw[hr,List.length_map]
   rw[←hr] at hp hk hlen ⊢
   have ht:∀x:Ab.Obj,aV (bf S (l,j) x) (l,j)=some x:=fun x=>bY _ _ _ _ hS
   have hA:∀new,atR (dB rs r p new) r p=some new:=fun new=>pF hp
   have hU:∀a b,dB (dB rs r p a) r p b=dB rs r p b:=fun a b=>oN hp
   refine aD (rs:=[.tmp 4]) Tryz.checked.mixed Tryz.func114 Tryz.ntmps114 rfl rfl rfl rfl rfl ?_
   simp -implicitDefEqProofs (disch:=omega) only[go_sem]
   refine aZ (ι:=Nat) Tryz.checked.mixed rfl [0,1,5] (fun i=>[.c (.xp (1+l,j) r p),.c (.d (.i .i64 (k+aB (rows.take i)))),.c (.d (.i .i64 i))])
    (fun i=>[]::bf S (l,j) (.xf (dB rs r p (ny rows k i)))) (fun i=>i≤xs.length) (fun i=>xs.length-i) 0 ?_ ?_ (Nat.zero_le _) ?_
   ·have z0:k+((aB (rows.take 0):Nat):Int)=k:=by simp[aB]
    rw[z0]
    rfl
   ·rw[qW,qV hp,lD _ _ hS]
   intro i hi
   simp -implicitDefEqProofs (disch:=omega) only[go_sem,ht,hA,jm,hl]
   with_reducible refine aA (fun hb=> ?_) (fun hb=> ?_)<;>have h:=hb<;>try simp only[wf_preprocess] at h
   ·have hi:i<xs.length:=by omega
    have hir:i<rows.length:=by omega
    obtain⟨x,hx⟩:∃x,x=xs[i]:=⟨_,rfl⟩
    have e1:rows[i]=[.i .i64 x.aH,.s x.aW,.s x.fName,.i .i64 x.fN,.i .i64 x.fType.aH,.s x.fType.fName,.sl (x.fType.fArgs.map aj.enc),.sl (x.fArgs.map ay.enc),.sl (x.aL.map aJ.enc)]:=by
     simp only[hr,List.getElem_map,←hx]
     simp only[ay.aG,aj.aG,encS,encI,List.cons_append,List.nil_append]
    have hm:=jJ hir
    have hle:=mO (rows:=rows) (i:=i+1)
    rw[hm,e1] at hle
    rw[e1] at hm
    simp only[kM,kL] at hle hm
    have hK:k+((aB (rows.take (i+1)):Nat):Int)=k+((aB (rows.take i):Nat):Int)+1+1+1+1+1+1+((aB (x.fType.fArgs.map aj.enc):Nat):Int)+((aB (x.fArgs.map ay.enc):Nat):Int)+((aB (x.aL.map aJ.enc):Nat):Int):=by rw[hm];omega
    have e2:=vF (k:=k) hir
    rw[e1] at e2
    have hC:∀row o,cellAt (jC rows k i row) i o=row[o]? :=fun row o=>nO hir
    have hG:∀row,(jC rows k i row).getD i []=row:=fun row=>qX hir
    simp -implicitDefEqProofs (disch:=omega) only[go_sem,hb,ht,hA,hU,e2,hC,hG,dG,bT,hl,bF,dD]
    (repeat(with_reducible refine And.intro ?_ ?_;focus first|omega|rfl|assumption|exact⟨_,rfl,rfl⟩|(simp;omega)|(simp;done)))
    refine au (dw (k+((aB (rows.take i):Nat):Int)+1) (by omega)) ?_
    simp -implicitDefEqProofs (disch:=omega) only[go_sem,hb,ht,hA,hU,e2,hC,hG,dG,bT,hl,bF,dD]
    (repeat(with_reducible refine And.intro ?_ ?_;focus first|omega|rfl|assumption|exact⟨_,rfl,rfl⟩|(simp;omega)|(simp;done)))
    refine au (dw (k+((aB (rows.take i):Nat):Int)+1+1) (by omega)) ?_
    simp -implicitDefEqProofs (disch:=omega) only[go_sem,hb,ht,hA,hU,e2,hC,hG,dG,bT,hl,bF,dD]
    (repeat(with_reducible refine And.intro ?_ ?_;focus first|omega|rfl|assumption|exact⟨_,rfl,rfl⟩|(simp;omega)|(simp;done)))
    refine au (dw (k+((aB (rows.take i):Nat):Int)+1+1+1+1+1) (by omega)) ?_
    simp -implicitDefEqProofs (disch:=omega) only[go_sem,hb,ht,hA,hU,e2,hC,hG,dG,bT,hl,bF,dD]
    (repeat(with_reducible refine And.intro ?_ ?_;focus first|omega|rfl|assumption|exact⟨_,rfl,rfl⟩|(simp;omega)|(simp;done)))
    refine bA rfl (nQ hS hp hir (by rfl) (fun S' rs' g1 g2=>rD x.fType.fArgs (k+((aB (rows.take i):Nat):Int)+1+1+1+1+1+1) (1+l) j r _ S' rs' g1 g2 (by omega))) ?_
    simp -implicitDefEqProofs (disch:=omega) only[go_sem,hb,ht,hA,hU,e2,hC,hG,dG,bT,hl,bF,dD]
    (repeat(with_reducible refine And.intro ?_ ?_;focus first|omega|rfl|assumption|exact⟨_,rfl,rfl⟩|(simp;omega)|(simp;done)))
    refine bA rfl (nQ hS hp hir (by rfl) (fun S' rs' g1 g2=>wI x.fArgs (by have:=List.sizeOf_lt_of_mem (List.getElem_mem hi);rw[←hx] at this;have:=ay.fF x;omega) (k+((aB (rows.take i):Nat):Int)+1+1+1+1+1+1+((aB (x.fType.fArgs.map aj.enc):Nat):Int)) (1+l) j r _ S' rs' g1 g2 (by omega))) ?_
    simp -implicitDefEqProofs (disch:=omega) only[go_sem,hb,ht,hA,hU,e2,hC,hG,dG,bT,hl,bF,dD]
    (repeat(with_reducible refine And.intro ?_ ?_;focus first|omega|rfl|assumption|exact⟨_,rfl,rfl⟩|(simp;omega)|(simp;done)))
    refine bA rfl (nQ hS hp hir (by rfl) (fun S' rs' g1 g2=>Bp x.aL (by have:=List.sizeOf_lt_of_mem (List.getElem_mem hi);rw[←hx] at this;have:=ay.mK x;omega) (k+((aB (rows.take i):Nat):Int)+1+1+1+1+1+1+((aB (x.fType.fArgs.map aj.enc):Nat):Int)+((aB (x.fArgs.map ay.enc):Nat):Int)) (1+l) j r _ S' rs' g1 g2 (by omega))) ?_
    simp -implicitDefEqProofs (disch:=omega) only[go_sem,hb,ht,hA,hU,e2,hC,hG,dG,bT,hl,bF,dD]
    (repeat(with_reducible refine And.intro ?_ ?_;focus first|omega|rfl|assumption|exact⟨_,rfl,rfl⟩|(simp;omega)|(simp;done)))
    refine bL (i+1) (by omega) (by rw[hK];rfl) ?_ (by omega)
    have h3:=vG (k:=k) hir
    rw[e1] at h3
    simp only[ng,zi] at h3
    rw[←h3]
    all_goals rfl
   ·simp -implicitDefEqProofs (disch:=omega) only[go_sem,hb]
    have hi:i=xs.length:=by omega
    rw[sQ (by omega),List.take_of_length_le (by omega)]
    all_goals (first|rfl|exact⟨rfl,rfl⟩)
  ·have hlen:=nP (f:=aJ.enc) (fun x=>by simp only[aJ.aG,ay.aG,aj.aG,encS,encI,List.cons_append,List.nil_append,kM,kL];omega) xs
   obtain⟨rows,hr⟩:∃rows,rows=xs.map aJ.enc:=⟨_,rfl⟩
   have hl:rows.length=xs.length:=by rw[hr,List.length_map]
   rw[←hr] at hp hk hlen ⊢
   have ht:∀x:Ab.Obj,aV (bf S (l,j) x) (l,j)=some x:=fun x=>bY _ _ _ _ hS
   have hA:∀new,atR (dB rs r p new) r p=some new:=fun new=>pF hp
   have hU:∀a b,dB (dB rs r p a) r p b=dB rs r p b:=fun a b=>oN hp
   refine aD (rs:=[.tmp 4]) Tryz.checked.mixed Tryz.func115 Tryz.ntmps115 rfl rfl rfl rfl rfl ?_
   simp -implicitDefEqProofs (disch:=omega) only[go_sem]
   refine aZ (ι:=Nat) Tryz.checked.mixed rfl [0,1,5] (fun i=>[.c (.xp (1+l,j) r p),.c (.d (.i .i64 (k+aB (rows.take i)))),.c (.d (.i .i64 i))])
    (fun i=>[]::bf S (l,j) (.xf (dB rs r p (ny rows k i)))) (fun i=>i≤xs.length) (fun i=>xs.length-i) 0 ?_ ?_ (Nat.zero_le _) ?_
   ·have z0:k+((aB (rows.take 0):Nat):Int)=k:=by simp[aB]
    rw[z0]
    rfl
   ·rw[qW,qV hp,lD _ _ hS]
   intro i hi
   simp -implicitDefEqProofs (disch:=omega) only[go_sem,ht,hA,jm,hl]
   with_reducible refine aA (fun hb=> ?_) (fun hb=> ?_)<;>have h:=hb<;>try simp only[wf_preprocess] at h
   ·have hi:i<xs.length:=by omega
    have hir:i<rows.length:=by omega
    obtain⟨x,hx⟩:∃x,x=xs[i]:=⟨_,rfl⟩
    have e1:rows[i]=[.s x.bR,.sl (x.aC.map encS),.i .i64 x.fBody.aH,.s x.fBody.aW,.s x.fBody.fName,.i .i64 x.fBody.fN,.i .i64 x.fBody.fType.aH,.s x.fBody.fType.fName,.sl (x.fBody.fType.fArgs.map aj.enc),.sl (x.fBody.fArgs.map ay.enc),.sl (x.fBody.aL.map aJ.enc)]:=by
     simp only[hr,List.getElem_map,←hx]
     simp only[aJ.aG,ay.aG,aj.aG,encS,encI,List.cons_append,List.nil_append]
    have hm:=jJ hir
    have hle:=mO (rows:=rows) (i:=i+1)
    rw[hm,e1] at hle
    rw[e1] at hm
    simp only[kM,kL] at hle hm
    have hK:k+((aB (rows.take (i+1)):Nat):Int)=k+((aB (rows.take i):Nat):Int)+1+((aB (x.aC.map encS):Nat):Int)+1+1+1+1+1+1+((aB (x.fBody.fType.fArgs.map aj.enc):Nat):Int)+((aB (x.fBody.fArgs.map ay.enc):Nat):Int)+((aB (x.fBody.aL.map aJ.enc):Nat):Int):=by rw[hm];omega
    have e2:=vF (k:=k) hir
    rw[e1] at e2
    have hC:∀row o,cellAt (jC rows k i row) i o=row[o]? :=fun row o=>nO hir
    have hG:∀row,(jC rows k i row).getD i []=row:=fun row=>qX hir
    simp -implicitDefEqProofs (disch:=omega) only[go_sem,hb,ht,hA,hU,e2,hC,hG,dG,bT,hl,bF,dD]
    (repeat(with_reducible refine And.intro ?_ ?_;focus first|omega|rfl|assumption|exact⟨_,rfl,rfl⟩|(simp;omega)|(simp;done)))
    refine au (dw (k+((aB (rows.take i):Nat):Int)) (by omega)) ?_
    simp -implicitDefEqProofs (disch:=omega) only[go_sem,hb,ht,hA,hU,e2,hC,hG,dG,bT,hl,bF,dD]
    (repeat(with_reducible refine And.intro ?_ ?_;focus first|omega|rfl|assumption|exact⟨_,rfl,rfl⟩|(simp;omega)|(simp;done)))
    refine bA rfl (nQ hS hp hir (by rfl) (fun S' rs' g1 g2=>vM x.aC (k+((aB (rows.take i):Nat):Int)+1) (1+l) j r _ S' rs' g1 g2 (by omega))) ?_
    simp -implicitDefEqProofs (disch:=omega) only[go_sem,hb,ht,hA,hU,e2,hC,hG,dG,bT,hl,bF,dD]
    (repeat(with_reducible refine And.intro ?_ ?_;focus first|omega|rfl|assumption|exact⟨_,rfl,rfl⟩|(simp;omega)|(simp;done)))
    refine au (dw (k+((aB (rows.take i):Nat):Int)+1+((aB (x.aC.map encS):Nat):Int)+1) (by omega)) ?_
    simp -implicitDefEqProofs (disch:=omega) only[go_sem,hb,ht,hA,hU,e2,hC,hG,dG,bT,hl,bF,dD]
    (repeat(with_reducible refine And.intro ?_ ?_;focus first|omega|rfl|assumption|exact⟨_,rfl,rfl⟩|(simp;omega)|(simp;done)))
    refine au (dw (k+((aB (rows.take i):Nat):Int)+1+((aB (x.aC.map encS):Nat):Int)+1+1) (by omega)) ?_
    simp -implicitDefEqProofs (disch:=omega) only[go_sem,hb,ht,hA,hU,e2,hC,hG,dG,bT,hl,bF,dD]
    (repeat(with_reducible refine And.intro ?_ ?_;focus first|omega|rfl|assumption|exact⟨_,rfl,rfl⟩|(simp;omega)|(simp;done)))
    refine au (dw (k+((aB (rows.take i):Nat):Int)+1+((aB (x.aC.map encS):Nat):Int)+1+1+1+1+1) (by omega)) ?_
    simp -implicitDefEqProofs (disch:=omega) only[go_sem,hb,ht,hA,hU,e2,hC,hG,dG,bT,hl,bF,dD]
    (repeat(with_reducible refine And.intro ?_ ?_;focus first|omega|rfl|assumption|exact⟨_,rfl,rfl⟩|(simp;omega)|(simp;done)))
    refine bA rfl (nQ hS hp hir (by rfl) (fun S' rs' g1 g2=>rD x.fBody.fType.fArgs (k+((aB (rows.take i):Nat):Int)+1+((aB (x.aC.map encS):Nat):Int)+1+1+1+1+1+1) (1+l) j r _ S' rs' g1 g2 (by omega))) ?_
    simp -implicitDefEqProofs (disch:=omega) only[go_sem,hb,ht,hA,hU,e2,hC,hG,dG,bT,hl,bF,dD]
    (repeat(with_reducible refine And.intro ?_ ?_;focus first|omega|rfl|assumption|exact⟨_,rfl,rfl⟩|(simp;omega)|(simp;done)))
    refine bA rfl (nQ hS hp hir (by rfl) (fun S' rs' g1 g2=>wI x.fBody.fArgs (by have:=List.sizeOf_lt_of_mem (List.getElem_mem hi);rw[←hx] at this;have:=aJ.lU x;have:=ay.fF x.fBody;omega) (k+((aB (rows.take i):Nat):Int)+1+((aB (x.aC.map encS):Nat):Int)+1+1+1+1+1+1+((aB (x.fBody.fType.fArgs.map aj.enc):Nat):Int)) (1+l) j r _ S' rs' g1 g2 (by omega))) ?_
    simp -implicitDefEqProofs (disch:=omega) only[go_sem,hb,ht,hA,hU,e2,hC,hG,dG,bT,hl,bF,dD]
    (repeat(with_reducible refine And.intro ?_ ?_;focus first|omega|rfl|assumption|exact⟨_,rfl,rfl⟩|(simp;omega)|(simp;done)))
    refine bA rfl (nQ hS hp hir (by rfl) (fun S' rs' g1 g2=>Bp x.fBody.aL (by have:=List.sizeOf_lt_of_mem (List.getElem_mem hi);rw[←hx] at this;have:=aJ.lU x;have:=ay.mK x.fBody;omega) (k+((aB (rows.take i):Nat):Int)+1+((aB (x.aC.map encS):Nat):Int)+1+1+1+1+1+1+((aB (x.fBody.fType.fArgs.map aj.enc):Nat):Int)+((aB (x.fBody.fArgs.map ay.enc):Nat):Int)) (1+l) j r _ S' rs' g1 g2 (by omega))) ?_
    simp -implicitDefEqProofs (disch:=omega) only[go_sem,hb,ht,hA,hU,e2,hC,hG,dG,bT,hl,bF,dD]
    (repeat(with_reducible refine And.intro ?_ ?_;focus first|omega|rfl|assumption|exact⟨_,rfl,rfl⟩|(simp;omega)|(simp;done)))
    refine bL (i+1) (by omega) (by rw[hK];rfl) ?_ (by omega)
    have h3:=vG (k:=k) hir
    rw[e1] at h3
    simp only[ng,zi] at h3
    rw[←h3]
    all_goals rfl
   ·simp -implicitDefEqProofs (disch:=omega) only[go_sem,hb]
    have hi:i=xs.length:=by omega
    rw[sQ (by omega),List.take_of_length_le (by omega)]
    all_goals (first|rfl|exact⟨rfl,rfl⟩)
theorem Ou(xs:List ay):∀(k:Int) (l j r:Nat) (p:List (Nat×Nat)) (S:Store) (rs:List (List (List D))),aV S (l,j)=some (.xf rs)→atR rs r p=some (xs.map ay.enc)→0≤k∧k+aB (xs.map ay.enc)≤4611686018427387904→bD Tryz.prog 114 [.c (.xp (l,j) r p),.c (.d (.i .i64 k))] S (fun res S'=>res=.c (.d (.i .i64 (k+aB (xs.map ay.enc))))∧S'=bf S (l,j) (.xf (dB rs r p (cu (xs.map ay.enc) k)))):=(yU _).1 xs (Nat.lt_succ_self _)
theorem P5(xs:List aJ):∀(k:Int) (l j r:Nat) (p:List (Nat×Nat)) (S:Store) (rs:List (List (List D))),aV S (l,j)=some (.xf rs)→atR rs r p=some (xs.map aJ.enc)→0≤k∧k+aB (xs.map aJ.enc)≤4611686018427387904→bD Tryz.prog 115 [.c (.xp (l,j) r p),.c (.d (.i .i64 k))] S (fun res S'=>res=.c (.d (.i .i64 (k+aB (xs.map aJ.enc))))∧S'=bf S (l,j) (.xf (dB rs r p (cu (xs.map aJ.enc) k)))):=(yU _).2 xs (Nat.lt_succ_self _)
theorem yV:∀n:Nat,(∀xs:List ay,SizeOf.sizeOf xs<n→∀(k:Int) (l j r:Nat) (p:List (Nat×Nat)) (S:Store) (rs:List (List (List D))),aV S (l,j)=some (.xf rs)→atR rs r p=some (cu (xs.map ay.enc) k)→0≤k∧k+aB (xs.map ay.enc)≤4611686018427387904→bD Tryz.prog 117 [.c (.xp (l,j) r p),.c (.d (.i .i64 k))] S (fun res S'=>res=.c (.d (.i .i64 (k+aB (xs.map ay.enc))))∧S'=S))∧
 (∀xs:List aJ,SizeOf.sizeOf xs<n→∀(k:Int) (l j r:Nat) (p:List (Nat×Nat)) (S:Store) (rs:List (List (List D))),aV S (l,j)=some (.xf rs)→atR rs r p=some (cu (xs.map aJ.enc) k)→0≤k∧k+aB (xs.map aJ.enc)≤4611686018427387904→bD Tryz.prog 118 [.c (.xp (l,j) r p),.c (.d (.i .i64 k))] S (fun res S'=>res=.c (.d (.i .i64 (k+aB (xs.map aJ.enc))))∧S'=S))
 |0=>⟨fun xs h=>by omega,fun xs h=>by omega⟩
 |n+1=>by
  obtain⟨wI,Bp⟩:=yV n
  refine⟨fun xs hn k l j r p S rs hS hp hk=> ?_,fun xs hn k l j r p S rs hS hp hk=> ?_⟩
  ·have hlen:=nP (f:=ay.enc) (fun x=>by simp only[ay.aG,aj.aG,encS,encI,List.cons_append,List.nil_append,kM,kL];omega) xs
   obtain⟨rows,hr⟩:∃rows,rows=xs.map ay.enc:=⟨_,rfl⟩
   have hl:rows.length=xs.length:=by rw[hr,List.length_map]
   rw[←hr] at hp hk hlen ⊢
   refine aD (rs:=[.tmp 4]) Tryz.checked.mixed Tryz.func117 Tryz.ntmps117 rfl rfl rfl rfl rfl ?_
   simp -implicitDefEqProofs (disch:=omega) only[go_sem]
   refine aZ (ι:=Nat) Tryz.checked.mixed rfl [0,1,5] (fun i=>[.c (.xp (1+l,j) r p),.c (.d (.i .i64 (k+aB (rows.take i)))),.c (.d (.i .i64 i))])
    (fun i=>[]::S) (fun i=>i≤xs.length) (fun i=>xs.length-i) 0 ?_ rfl (Nat.zero_le _) ?_
   ·have z0:k+((aB (rows.take 0):Nat):Int)=k:=by simp[aB]
    rw[z0]
    rfl
   intro i hi
   simp -implicitDefEqProofs (disch:=omega) only[go_sem,hS,hp,bB,hl]
   with_reducible refine aA (fun hb=> ?_) (fun hb=> ?_)<;>have h:=hb<;>try simp only[wf_preprocess] at h
   ·have hi:i<xs.length:=by omega
    have hir:i<rows.length:=by omega
    obtain⟨x,hx⟩:∃x,x=xs[i]:=⟨_,rfl⟩
    have e1:rows[i]=[.i .i64 x.aH,.s x.aW,.s x.fName,.i .i64 x.fN,.i .i64 x.fType.aH,.s x.fType.fName,.sl (x.fType.fArgs.map aj.enc),.sl (x.fArgs.map ay.enc),.sl (x.aL.map aJ.enc)]:=by
     simp only[hr,List.getElem_map,←hx]
     simp only[ay.aG,aj.aG,encS,encI,List.cons_append,List.nil_append]
    have hm:=jJ hir
    have hle:=mO (rows:=rows) (i:=i+1)
    rw[hm,e1] at hle
    rw[e1] at hm
    simp only[kM,kL] at hle hm
    have hK:k+((aB (rows.take (i+1)):Nat):Int)=k+((aB (rows.take i):Nat):Int)+1+1+1+1+1+1+((aB (x.fType.fArgs.map aj.enc):Nat):Int)+((aB (x.fArgs.map ay.enc):Nat):Int)+((aB (x.aL.map aJ.enc):Nat):Int):=by rw[hm];omega
    have e2:ng rows[i] (k+((aB (rows.take i):Nat):Int))=[.i .i64 (k+((aB (rows.take i):Nat):Int)),.s (gG (k+((aB (rows.take i):Nat):Int)+1)),.s (gG (k+((aB (rows.take i):Nat):Int)+1+1)),.i .i64 (k+((aB (rows.take i):Nat):Int)+1+1+1),.i .i64 (k+((aB (rows.take i):Nat):Int)+1+1+1+1),.s (gG (k+((aB (rows.take i):Nat):Int)+1+1+1+1+1)),.sl (cu (x.fType.fArgs.map aj.enc) (k+((aB (rows.take i):Nat):Int)+1+1+1+1+1+1)),.sl (cu (x.fArgs.map ay.enc) (k+((aB (rows.take i):Nat):Int)+1+1+1+1+1+1+((aB (x.fType.fArgs.map aj.enc):Nat):Int))),.sl (cu (x.aL.map aJ.enc) (k+((aB (rows.take i):Nat):Int)+1+1+1+1+1+1+((aB (x.fType.fArgs.map aj.enc):Nat):Int)+((aB (x.fArgs.map ay.enc):Nat):Int)))]:=by
     rw[e1]
     simp only[ng,zi]
     all_goals rfl
    have hC:∀o,cellAt (cu rows k) i o=([.i .i64 (k+((aB (rows.take i):Nat):Int)),.s (gG (k+((aB (rows.take i):Nat):Int)+1)),.s (gG (k+((aB (rows.take i):Nat):Int)+1+1)),.i .i64 (k+((aB (rows.take i):Nat):Int)+1+1+1),.i .i64 (k+((aB (rows.take i):Nat):Int)+1+1+1+1),.s (gG (k+((aB (rows.take i):Nat):Int)+1+1+1+1+1)),.sl (cu (x.fType.fArgs.map aj.enc) (k+((aB (rows.take i):Nat):Int)+1+1+1+1+1+1)),.sl (cu (x.fArgs.map ay.enc) (k+((aB (rows.take i):Nat):Int)+1+1+1+1+1+1+((aB (x.fType.fArgs.map aj.enc):Nat):Int))),.sl (cu (x.aL.map aJ.enc) (k+((aB (rows.take i):Nat):Int)+1+1+1+1+1+1+((aB (x.fType.fArgs.map aj.enc):Nat):Int)+((aB (x.fArgs.map ay.enc):Nat):Int)))]:List D)[o]? :=fun o=>by
     have h1:(cu rows k)[i]? =some (ng rows[i] (k+((aB (rows.take i):Nat):Int))):=by
      have h2:=kW (k:=k) hir
      have h3:i<(cu rows k).length:=by rw[bB];exact hir
      rw[List.getD_eq_getElem?_getD,List.getElem?_eq_getElem h3,Option.getD_some] at h2
      rw[List.getElem?_eq_getElem h3,h2]
     unfold cellAt
     rw[h1,Option.bind_some,e2]
    have hG:=kW (k:=k) hir
    rw[e2] at hG
    simp -implicitDefEqProofs (disch:=omega) only[go_sem,hb,hS,hp,hC,hG,bB,hl,dD]
    (repeat(with_reducible refine And.intro ?_ ?_;focus first|omega|rfl|assumption|exact⟨_,rfl,rfl⟩|(simp;omega)|(simp;done)))
    refine au (dw (k+((aB (rows.take i):Nat):Int)+1) (by omega)) ?_
    simp -implicitDefEqProofs (disch:=omega) only[go_sem,hb,hS,hp,hC,hG,bB,hl,dD]
    (repeat(with_reducible refine And.intro ?_ ?_;focus first|omega|rfl|assumption|exact⟨_,rfl,rfl⟩|(simp;omega)|(simp;done)))
    refine au (dw (k+((aB (rows.take i):Nat):Int)+1+1) (by omega)) ?_
    simp -implicitDefEqProofs (disch:=omega) only[go_sem,hb,hS,hp,hC,hG,bB,hl,dD]
    (repeat(with_reducible refine And.intro ?_ ?_;focus first|omega|rfl|assumption|exact⟨_,rfl,rfl⟩|(simp;omega)|(simp;done)))
    refine au (dw (k+((aB (rows.take i):Nat):Int)+1+1+1+1+1) (by omega)) ?_
    simp -implicitDefEqProofs (disch:=omega) only[go_sem,hb,hS,hp,hC,hG,bB,hl,dD]
    (repeat(with_reducible refine And.intro ?_ ?_;focus first|omega|rfl|assumption|exact⟨_,rfl,rfl⟩|(simp;omega)|(simp;done)))
    refine bA rfl (rE x.fType.fArgs (k+((aB (rows.take i):Nat):Int)+1+1+1+1+1+1) (1+l) j r _ _ _ (by rw[eY];exact hS) (jZ hp (by rw[hC];rfl)) (by omega)) ?_
    simp -implicitDefEqProofs (disch:=omega) only[go_sem,hb,hS,hp,hC,hG,bB,hl,dD,gU]
    (repeat(with_reducible refine And.intro ?_ ?_;focus first|omega|rfl|assumption|exact⟨_,rfl,rfl⟩|(simp;omega)|(simp;done)))
    refine bA rfl (wI x.fArgs (by have:=List.sizeOf_lt_of_mem (List.getElem_mem hi);rw[←hx] at this;have:=ay.fF x;omega) (k+((aB (rows.take i):Nat):Int)+1+1+1+1+1+1+((aB (x.fType.fArgs.map aj.enc):Nat):Int)) (1+l) j r _ _ _ (by rw[eY];exact hS) (jZ hp (by rw[hC];rfl)) (by omega)) ?_
    simp -implicitDefEqProofs (disch:=omega) only[go_sem,hb,hS,hp,hC,hG,bB,hl,dD,gU]
    (repeat(with_reducible refine And.intro ?_ ?_;focus first|omega|rfl|assumption|exact⟨_,rfl,rfl⟩|(simp;omega)|(simp;done)))
    refine bA rfl (Bp x.aL (by have:=List.sizeOf_lt_of_mem (List.getElem_mem hi);rw[←hx] at this;have:=ay.mK x;omega) (k+((aB (rows.take i):Nat):Int)+1+1+1+1+1+1+((aB (x.fType.fArgs.map aj.enc):Nat):Int)+((aB (x.fArgs.map ay.enc):Nat):Int)) (1+l) j r _ _ _ (by rw[eY];exact hS) (jZ hp (by rw[hC];rfl)) (by omega)) ?_
    simp -implicitDefEqProofs (disch:=omega) only[go_sem,hb,hS,hp,hC,hG,bB,hl,dD,gU]
    (repeat(with_reducible refine And.intro ?_ ?_;focus first|omega|rfl|assumption|exact⟨_,rfl,rfl⟩|(simp;omega)|(simp;done)))
    refine bL (i+1) (by omega) (by rw[hK];rfl) rfl (by omega)
   ·simp -implicitDefEqProofs (disch:=omega) only[go_sem,hb]
    have hi:i=xs.length:=by omega
    rw[List.take_of_length_le (by omega)]
    all_goals (first|rfl|exact⟨rfl,rfl⟩)
  ·have hlen:=nP (f:=aJ.enc) (fun x=>by simp only[aJ.aG,ay.aG,aj.aG,encS,encI,List.cons_append,List.nil_append,kM,kL];omega) xs
   obtain⟨rows,hr⟩:∃rows,rows=xs.map aJ.enc:=⟨_,rfl⟩
   have hl:rows.length=xs.length:=by rw[hr,List.length_map]
   rw[←hr] at hp hk hlen ⊢
   refine aD (rs:=[.tmp 4]) Tryz.checked.mixed Tryz.func118 Tryz.ntmps118 rfl rfl rfl rfl rfl ?_
   simp -implicitDefEqProofs (disch:=omega) only[go_sem]
   refine aZ (ι:=Nat) Tryz.checked.mixed rfl [0,1,5] (fun i=>[.c (.xp (1+l,j) r p),.c (.d (.i .i64 (k+aB (rows.take i)))),.c (.d (.i .i64 i))])
    (fun i=>[]::S) (fun i=>i≤xs.length) (fun i=>xs.length-i) 0 ?_ rfl (Nat.zero_le _) ?_
   ·have z0:k+((aB (rows.take 0):Nat):Int)=k:=by simp[aB]
    rw[z0]
    rfl
   intro i hi
   simp -implicitDefEqProofs (disch:=omega) only[go_sem,hS,hp,bB,hl]
   with_reducible refine aA (fun hb=> ?_) (fun hb=> ?_)<;>have h:=hb<;>try simp only[wf_preprocess] at h
   ·have hi:i<xs.length:=by omega
    have hir:i<rows.length:=by omega
    obtain⟨x,hx⟩:∃x,x=xs[i]:=⟨_,rfl⟩
    have e1:rows[i]=[.s x.bR,.sl (x.aC.map encS),.i .i64 x.fBody.aH,.s x.fBody.aW,.s x.fBody.fName,.i .i64 x.fBody.fN,.i .i64 x.fBody.fType.aH,.s x.fBody.fType.fName,.sl (x.fBody.fType.fArgs.map aj.enc),.sl (x.fBody.fArgs.map ay.enc),.sl (x.fBody.aL.map aJ.enc)]:=by
     simp only[hr,List.getElem_map,←hx]
     simp only[aJ.aG,ay.aG,aj.aG,encS,encI,List.cons_append,List.nil_append]
    have hm:=jJ hir
    have hle:=mO (rows:=rows) (i:=i+1)
    rw[hm,e1] at hle
    rw[e1] at hm
    simp only[kM,kL] at hle hm
    have hK:k+((aB (rows.take (i+1)):Nat):Int)=k+((aB (rows.take i):Nat):Int)+1+((aB (x.aC.map encS):Nat):Int)+1+1+1+1+1+1+((aB (x.fBody.fType.fArgs.map aj.enc):Nat):Int)+((aB (x.fBody.fArgs.map ay.enc):Nat):Int)+((aB (x.fBody.aL.map aJ.enc):Nat):Int):=by rw[hm];omega
    have e2:ng rows[i] (k+((aB (rows.take i):Nat):Int))=[.s (gG (k+((aB (rows.take i):Nat):Int))),.sl (cu (x.aC.map encS) (k+((aB (rows.take i):Nat):Int)+1)),.i .i64 (k+((aB (rows.take i):Nat):Int)+1+((aB (x.aC.map encS):Nat):Int)),.s (gG (k+((aB (rows.take i):Nat):Int)+1+((aB (x.aC.map encS):Nat):Int)+1)),.s (gG (k+((aB (rows.take i):Nat):Int)+1+((aB (x.aC.map encS):Nat):Int)+1+1)),.i .i64 (k+((aB (rows.take i):Nat):Int)+1+((aB (x.aC.map encS):Nat):Int)+1+1+1),.i .i64 (k+((aB (rows.take i):Nat):Int)+1+((aB (x.aC.map encS):Nat):Int)+1+1+1+1),.s (gG (k+((aB (rows.take i):Nat):Int)+1+((aB (x.aC.map encS):Nat):Int)+1+1+1+1+1)),.sl (cu (x.fBody.fType.fArgs.map aj.enc) (k+((aB (rows.take i):Nat):Int)+1+((aB (x.aC.map encS):Nat):Int)+1+1+1+1+1+1)),.sl (cu (x.fBody.fArgs.map ay.enc) (k+((aB (rows.take i):Nat):Int)+1+((aB (x.aC.map encS):Nat):Int)+1+1+1+1+1+1+((aB (x.fBody.fType.fArgs.map aj.enc):Nat):Int))),.sl (cu (x.fBody.aL.map aJ.enc) (k+((aB (rows.take i):Nat):Int)+1+((aB (x.aC.map encS):Nat):Int)+1+1+1+1+1+1+((aB (x.fBody.fType.fArgs.map aj.enc):Nat):Int)+((aB (x.fBody.fArgs.map ay.enc):Nat):Int)))]:=by
     rw[e1]
     simp only[ng,zi]
     all_goals rfl
    have hC:∀o,cellAt (cu rows k) i o=([.s (gG (k+((aB (rows.take i):Nat):Int))),.sl (cu (x.aC.map encS) (k+((aB (rows.take i):Nat):Int)+1)),.i .i64 (k+((aB (rows.take i):Nat):Int)+1+((aB (x.aC.map encS):Nat):Int)),.s (gG (k+((aB (rows.take i):Nat):Int)+1+((aB (x.aC.map encS):Nat):Int)+1)),.s (gG (k+((aB (rows.take i):Nat):Int)+1+((aB (x.aC.map encS):Nat):Int)+1+1)),.i .i64 (k+((aB (rows.take i):Nat):Int)+1+((aB (x.aC.map encS):Nat):Int)+1+1+1),.i .i64 (k+((aB (rows.take i):Nat):Int)+1+((aB (x.aC.map encS):Nat):Int)+1+1+1+1),.s (gG (k+((aB (rows.take i):Nat):Int)+1+((aB (x.aC.map encS):Nat):Int)+1+1+1+1+1)),.sl (cu (x.fBody.fType.fArgs.map aj.enc) (k+((aB (rows.take i):Nat):Int)+1+((aB (x.aC.map encS):Nat):Int)+1+1+1+1+1+1)),.sl (cu (x.fBody.fArgs.map ay.enc) (k+((aB (rows.take i):Nat):Int)+1+((aB (x.aC.map encS):Nat):Int)+1+1+1+1+1+1+((aB (x.fBody.fType.fArgs.map aj.enc):Nat):Int))),.sl (cu (x.fBody.aL.map aJ.enc) (k+((aB (rows.take i):Nat):Int)+1+((aB (x.aC.map encS):Nat):Int)+1+1+1+1+1+1+((aB (x.fBody.fType.fArgs.map aj.enc):Nat):Int)+((aB (x.fBody.fArgs.map ay.enc):Nat):Int)))]:List D)[o]? :=fun o=>by
     have h1:(cu rows k)[i]? =some (ng rows[i] (k+((aB (rows.take i):Nat):Int))):=by
      have h2:=kW (k:=k) hir
      have h3:i<(cu rows k).length:=by rw[bB];exact hir
      rw[List.getD_eq_getElem?_getD,List.getElem?_eq_getElem h3,Option.getD_some] at h2
      rw[List.getElem?_eq_getElem h3,h2]
     unfold cellAt
     rw[h1,Option.bind_some,e2]
    have hG:=kW (k:=k) hir
    rw[e2] at hG
    simp -implicitDefEqProofs (disch:=omega) only[go_sem,hb,hS,hp,hC,hG,bB,hl,dD]
    (repeat(with_reducible refine And.intro ?_ ?_;focus first|omega|rfl|assumption|exact⟨_,rfl,rfl⟩|(simp;omega)|(simp;done)))
    refine au (dw (k+((aB (rows.take i):Nat):Int)) (by omega)) ?_
    simp -implicitDefEqProofs (disch:=omega) only[go_sem,hb,hS,hp,hC,hG,bB,hl,dD]
    (repeat(with_reducible refine And.intro ?_ ?_;focus first|omega|rfl|assumption|exact⟨_,rfl,rfl⟩|(simp;omega)|(simp;done)))
    refine bA rfl (vN x.aC (k+((aB (rows.take i):Nat):Int)+1) (1+l) j r _ _ _ (by rw[eY];exact hS) (jZ hp (by rw[hC];rfl)) (by omega)) ?_
    simp -implicitDefEqProofs (disch:=omega) only[go_sem,hb,hS,hp,hC,hG,bB,hl,dD,gU]
    (repeat(with_reducible refine And.intro ?_ ?_;focus first|omega|rfl|assumption|exact⟨_,rfl,rfl⟩|(simp;omega)|(simp;done)))
    refine au (dw (k+((aB (rows.take i):Nat):Int)+1+((aB (x.aC.map encS):Nat):Int)+1) (by omega)) ?_
    simp -implicitDefEqProofs (disch:=omega) only[go_sem,hb,hS,hp,hC,hG,bB,hl,dD]
    (repeat(with_reducible refine And.intro ?_ ?_;focus first|omega|rfl|assumption|exact⟨_,rfl,rfl⟩|(simp;omega)|(simp;done)))
    refine au (dw (k+((aB (rows.take i):Nat):Int)+1+((aB (x.aC.map encS):Nat):Int)+1+1) (by omega)) ?_
    simp -implicitDefEqProofs (disch:=omega) only[go_sem,hb,hS,hp,hC,hG,bB,hl,dD]
    (repeat(with_reducible refine And.intro ?_ ?_;focus first|omega|rfl|assumption|exact⟨_,rfl,rfl⟩|(simp;omega)|(simp;done)))
    refine au (dw (k+((aB (rows.take i):Nat):Int)+1+((aB (x.aC.map encS):Nat):Int)+1+1+1+1+1) (by omega)) ?_
    simp -implicitDefEqProofs (disch:=omega) only[go_sem,hb,hS,hp,hC,hG,bB,hl,dD]
    (repeat(with_reducible refine And.intro ?_ ?_;focus first|omega|rfl|assumption|exact⟨_,rfl,rfl⟩|(simp;omega)|(simp;done)))
    refine bA rfl (rE x.fBody.fType.fArgs (k+((aB (rows.take i):Nat):Int)+1+((aB (x.aC.map encS):Nat):Int)+1+1+1+1+1+1) (1+l) j r _ _ _ (by rw[eY];exact hS) (jZ hp (by rw[hC];rfl)) (by omega)) ?_
    simp -implicitDefEqProofs (disch:=omega) only[go_sem,hb,hS,hp,hC,hG,bB,hl,dD,gU]
    (repeat(with_reducible refine And.intro ?_ ?_;focus first|omega|rfl|assumption|exact⟨_,rfl,rfl⟩|(simp;omega)|(simp;done)))
    refine bA rfl (wI x.fBody.fArgs (by have:=List.sizeOf_lt_of_mem (List.getElem_mem hi);rw[←hx] at this;have:=aJ.lU x;have:=ay.fF x.fBody;omega) (k+((aB (rows.take i):Nat):Int)+1+((aB (x.aC.map encS):Nat):Int)+1+1+1+1+1+1+((aB (x.fBody.fType.fArgs.map aj.enc):Nat):Int)) (1+l) j r _ _ _ (by rw[eY];exact hS) (jZ hp (by rw[hC];rfl)) (by omega)) ?_
    simp -implicitDefEqProofs (disch:=omega) only[go_sem,hb,hS,hp,hC,hG,bB,hl,dD,gU]
    (repeat(with_reducible refine And.intro ?_ ?_;focus first|omega|rfl|assumption|exact⟨_,rfl,rfl⟩|(simp;omega)|(simp;done)))
    refine bA rfl (Bp x.fBody.aL (by have:=List.sizeOf_lt_of_mem (List.getElem_mem hi);rw[←hx] at this;have:=aJ.lU x;have:=ay.mK x.fBody;omega) (k+((aB (rows.take i):Nat):Int)+1+((aB (x.aC.map encS):Nat):Int)+1+1+1+1+1+1+((aB (x.fBody.fType.fArgs.map aj.enc):Nat):Int)+((aB (x.fBody.fArgs.map ay.enc):Nat):Int)) (1+l) j r _ _ _ (by rw[eY];exact hS) (jZ hp (by rw[hC];rfl)) (by omega)) ?_
    simp -implicitDefEqProofs (disch:=omega) only[go_sem,hb,hS,hp,hC,hG,bB,hl,dD,gU]
    (repeat(with_reducible refine And.intro ?_ ?_;focus first|omega|rfl|assumption|exact⟨_,rfl,rfl⟩|(simp;omega)|(simp;done)))
    refine bL (i+1) (by omega) (by rw[hK];rfl) rfl (by omega)
   ·simp -implicitDefEqProofs (disch:=omega) only[go_sem,hb]
    have hi:i=xs.length:=by omega
    rw[List.take_of_length_le (by omega)]
    all_goals (first|rfl|exact⟨rfl,rfl⟩)
theorem Ov(xs:List ay):∀(k:Int) (l j r:Nat) (p:List (Nat×Nat)) (S:Store) (rs:List (List (List D))),aV S (l,j)=some (.xf rs)→atR rs r p=some (cu (xs.map ay.enc) k)→0≤k∧k+aB (xs.map ay.enc)≤4611686018427387904→bD Tryz.prog 117 [.c (.xp (l,j) r p),.c (.d (.i .i64 k))] S (fun res S'=>res=.c (.d (.i .i64 (k+aB (xs.map ay.enc))))∧S'=S):=(yV _).1 xs (Nat.lt_succ_self _)
theorem P6(xs:List aJ):∀(k:Int) (l j r:Nat) (p:List (Nat×Nat)) (S:Store) (rs:List (List (List D))),aV S (l,j)=some (.xf rs)→atR rs r p=some (cu (xs.map aJ.enc) k)→0≤k∧k+aB (xs.map aJ.enc)≤4611686018427387904→bD Tryz.prog 118 [.c (.xp (l,j) r p),.c (.d (.i .i64 k))] S (fun res S'=>res=.c (.d (.i .i64 (k+aB (xs.map aJ.enc))))∧S'=S):=(yV _).2 xs (Nat.lt_succ_self _)
end Go.Proofs.YtlmhknhlmicmeaaGreatDoor
namespace Go.Proofs.YtlmhknhlmicmeaaGreatDoor
open Go Go.Ab
theorem Ci:∀n:Nat,(∀xs:List ah,SizeOf.sizeOf xs<n→∀(k:Int) (l j r:Nat) (p:List (Nat×Nat)) (S:Store) (rs:List (List (List D))),aV S (l,j)=some (.xf rs)→atR rs r p=some (xs.map ah.enc)→0≤k∧k+aB (xs.map ah.enc)≤4611686018427387904→bD Tryz.prog 87 [.c (.xp (l,j) r p),.c (.d (.i .i64 k))] S (fun res S'=>res=.c (.d (.i .i64 (k+aB (xs.map ah.enc))))∧S'=bf S (l,j) (.xf (dB rs r p (cu (xs.map ah.enc) k)))))
 |0=>fun xs h=>by omega
 |n+1=>by
  have oH:=Ci n
  refine fun xs hn k l j r p S rs hS hp hk=> ?_
  ·have hlen:=nP (f:=ah.enc) (fun x=>by simp only[ah.aG,encS,encI,List.cons_append,List.nil_append,kM,kL];omega) xs
   obtain⟨rows,hr⟩:∃rows,rows=xs.map ah.enc:=⟨_,rfl⟩
   have hl:rows.length=xs.length:=by rw[hr,List.length_map]
   rw[←hr] at hp hk hlen ⊢
   have ht:∀x:Ab.Obj,aV (bf S (l,j) x) (l,j)=some x:=fun x=>bY _ _ _ _ hS
   have hA:∀new,atR (dB rs r p new) r p=some new:=fun new=>pF hp
   have hU:∀a b,dB (dB rs r p a) r p b=dB rs r p b:=fun a b=>oN hp
   refine aD (rs:=[.tmp 4]) Tryz.checked.mixed Tryz.func87 Tryz.ntmps87 rfl rfl rfl rfl rfl ?_
   simp -implicitDefEqProofs (disch:=omega) only[go_sem]
   refine aZ (ι:=Nat) Tryz.checked.mixed rfl [0,1,5] (fun i=>[.c (.xp (1+l,j) r p),.c (.d (.i .i64 (k+aB (rows.take i)))),.c (.d (.i .i64 i))])
    (fun i=>[]::bf S (l,j) (.xf (dB rs r p (ny rows k i)))) (fun i=>i≤xs.length) (fun i=>xs.length-i) 0 ?_ ?_ (Nat.zero_le _) ?_
   ·have z0:k+((aB (rows.take 0):Nat):Int)=k:=by simp[aB]
    rw[z0]
    rfl
   ·rw[qW,qV hp,lD _ _ hS]
   intro i hi
   simp -implicitDefEqProofs (disch:=omega) only[go_sem,ht,hA,jm,hl]
   with_reducible refine aA (fun hb=> ?_) (fun hb=> ?_)<;>have h:=hb<;>try simp only[wf_preprocess] at h
   ·have hi:i<xs.length:=by omega
    have hir:i<rows.length:=by omega
    obtain⟨x,hx⟩:∃x,x=xs[i]:=⟨_,rfl⟩
    have e1:rows[i]=[.s x.aU,.sl (x.ak.map ah.enc)]:=by
     simp only[hr,List.getElem_map,←hx]
     simp only[ah.aG,encS,encI,List.cons_append,List.nil_append]
    have hm:=jJ hir
    have hle:=mO (rows:=rows) (i:=i+1)
    rw[hm,e1] at hle
    rw[e1] at hm
    simp only[kM,kL] at hle hm
    have hK:k+((aB (rows.take (i+1)):Nat):Int)=k+((aB (rows.take i):Nat):Int)+1+((aB (x.ak.map ah.enc):Nat):Int):=by rw[hm];omega
    have e2:=vF (k:=k) hir
    rw[e1] at e2
    have hC:∀row o,cellAt (jC rows k i row) i o=row[o]? :=fun row o=>nO hir
    have hG:∀row,(jC rows k i row).getD i []=row:=fun row=>qX hir
    simp -implicitDefEqProofs (disch:=omega) only[go_sem,hb,ht,hA,hU,e2,hC,hG,dG,bT,hl,bF,dD]
    (repeat(with_reducible refine And.intro ?_ ?_;focus first|omega|rfl|assumption|exact⟨_,rfl,rfl⟩|(simp;omega)|(simp;done)))
    refine au (dw (k+((aB (rows.take i):Nat):Int)) (by omega)) ?_
    simp -implicitDefEqProofs (disch:=omega) only[go_sem,hb,ht,hA,hU,e2,hC,hG,dG,bT,hl,bF,dD]
    (repeat(with_reducible refine And.intro ?_ ?_;focus first|omega|rfl|assumption|exact⟨_,rfl,rfl⟩|(simp;omega)|(simp;done)))
    refine bA rfl (nQ hS hp hir (by rfl) (fun S' rs' g1 g2=>oH x.ak (by have:=List.sizeOf_lt_of_mem (List.getElem_mem hi);rw[←hx] at this;have:=ah.kV x;omega) (k+((aB (rows.take i):Nat):Int)+1) (1+l) j r _ S' rs' g1 g2 (by omega))) ?_
    simp -implicitDefEqProofs (disch:=omega) only[go_sem,hb,ht,hA,hU,e2,hC,hG,dG,bT,hl,bF,dD]
    (repeat(with_reducible refine And.intro ?_ ?_;focus first|omega|rfl|assumption|exact⟨_,rfl,rfl⟩|(simp;omega)|(simp;done)))
    refine bL (i+1) (by omega) (by rw[hK];rfl) ?_ (by omega)
    have h3:=vG (k:=k) hir
    rw[e1] at h3
    simp only[ng,zi] at h3
    rw[←h3]
    all_goals rfl
   ·simp -implicitDefEqProofs (disch:=omega) only[go_sem,hb]
    have hi:i=xs.length:=by omega
    rw[sQ (by omega),List.take_of_length_le (by omega)]
    all_goals (first|rfl|exact⟨rfl,rfl⟩)
theorem KY(xs:List ah):∀(k:Int) (l j r:Nat) (p:List (Nat×Nat)) (S:Store) (rs:List (List (List D))),aV S (l,j)=some (.xf rs)→atR rs r p=some (xs.map ah.enc)→0≤k∧k+aB (xs.map ah.enc)≤4611686018427387904→bD Tryz.prog 87 [.c (.xp (l,j) r p),.c (.d (.i .i64 k))] S (fun res S'=>res=.c (.d (.i .i64 (k+aB (xs.map ah.enc))))∧S'=bf S (l,j) (.xf (dB rs r p (cu (xs.map ah.enc) k)))):=(Ci _) xs (Nat.lt_succ_self _)
theorem Ow(x:ah)(k:Int)(l j b:Nat)(S:Store)(rs:List (List (List D)))(hS:aV S (l,j)=some (.xf rs))(h1:atR rs (b+1) []=some (x.ak.map ah.enc))(hk:0≤k∧k+((aB (x.ak.map ah.enc):Nat):Int)≤4611686018427387904):bD Tryz.prog 17 [.agg [.d (.s x.aU),.xp (l,j) (b+1) []],.c (.d (.i .i64 k))] S (fun res S'=>res=.c (.d (.i .i64 (k+((aB (x.ak.map ah.enc):Nat):Int))))∧S'=bf S (l,j) (.xf (dB (rs) (b+1) [] (cu (x.ak.map ah.enc) (k))))):=by
 have ht:∀x:Ab.Obj,aV (bf S (l,j) x) (l,j)=some x:=fun x=>bY _ _ _ _ hS
 refine aD (rs:=[.tmp 4]) Tryz.checked.mixed Tryz.func17 Tryz.ntmps17 rfl rfl rfl rfl rfl ?_
 simp -implicitDefEqProofs (disch:=omega) only[go_sem]
 refine bA rfl (KY x.ak (k) (1+l) j (b+1) [] _ _ (by rw[eY];first|exact hS|exact ht _) (by first|assumption|(simp(disch:=omega) only[ne_eq,oG];assumption)) (by omega)) ?_
 simp -implicitDefEqProofs (disch:=omega) only[go_sem,bF,pz]
 try exact⟨rfl,rfl⟩
end Go.Proofs.YtlmhknhlmicmeaaGreatDoor
namespace Go.Proofs.YtlmhknhlmicmeaaGreatDoor
open Go Go.Ab
end Go.Proofs.YtlmhknhlmicmeaaGreatDoor
namespace Go.Proofs.YtlmhknhlmicmeaaGreatDoor
open Go Go.Ab
end Go.Proofs.YtlmhknhlmicmeaaGreatDoor
namespace Go.Proofs.YtlmhknhlmicmeaaGreatDoor
open Go Go.Ab
end Go.Proofs.YtlmhknhlmicmeaaGreatDoor
namespace Go.Proofs.YtlmhknhlmicmeaaGreatDoor
open Go Go.Ab
end Go.Proofs.YtlmhknhlmicmeaaGreatDoor
namespace Go.Proofs.YtlmhknhlmicmeaaGreatDoor
open Go Go.Ab
set_option maxHeartbeats 4000000 in
theorem Jo(xs:List aS):∀(k:Int) (l j r:Nat) (p:List (Nat×Nat)) (S:Store) (rs:List (List (List D))),aV S (l,j)=some (.xf rs)→atR rs r p=some (xs.map aS.enc)→0≤k∧k+aB (xs.map aS.enc)≤4611686018427387904→bD Tryz.prog 145 [.c (.xp (l,j) r p),.c (.d (.i .i64 k))] S (fun res S'=>res=.c (.d (.i .i64 (k+aB (xs.map aS.enc))))∧S'=bf S (l,j) (.xf (dB rs r p (cu (xs.map aS.enc) k)))):=by
 intro k l j r p S rs hS hp hk
 have hlen:=nP (f:=aS.enc) (fun x=>by simp only[ay.aG,aS.aG,aj.aG,encS,encI,List.cons_append,List.nil_append,kM,kL];omega) xs
 obtain⟨rows,hr⟩:∃rows,rows=xs.map aS.enc:=⟨_,rfl⟩
 have hl:rows.length=xs.length:=by rw[hr,List.length_map]
 rw[←hr] at hp hk hlen ⊢
 have ht:∀x:Ab.Obj,aV (bf S (l,j) x) (l,j)=some x:=fun x=>bY _ _ _ _ hS
 have hA:∀new,atR (dB rs r p new) r p=some new:=fun new=>pF hp
 have hU:∀a b,dB (dB rs r p a) r p b=dB rs r p b:=fun a b=>oN hp
 refine aD (rs:=[.tmp 4]) Tryz.checked.mixed Tryz.func145 Tryz.ntmps145 rfl rfl rfl rfl rfl ?_
 simp -implicitDefEqProofs (disch:=omega) only[go_sem]
 refine aZ (ι:=Nat) Tryz.checked.mixed rfl [0,1,5] (fun i=>[.c (.xp (1+l,j) r p),.c (.d (.i .i64 (k+aB (rows.take i)))),.c (.d (.i .i64 i))])
  (fun i=>[]::bf S (l,j) (.xf (dB rs r p (ny rows k i)))) (fun i=>i≤xs.length) (fun i=>xs.length-i) 0 ?_ ?_ (Nat.zero_le _) ?_
 ·have z0:k+((aB (rows.take 0):Nat):Int)=k:=by simp[aB]
  rw[z0]
  rfl
 ·rw[qW,qV hp,lD _ _ hS]
 intro i hi
 simp -implicitDefEqProofs (disch:=omega) only[go_sem,ht,hA,jm,hl]
 with_reducible refine aA (fun hb=> ?_) (fun hb=> ?_)<;>have h:=hb<;>try simp only[wf_preprocess] at h
 ·have hi:i<xs.length:=by omega
  have hir:i<rows.length:=by omega
  obtain⟨x,hx⟩:∃x,x=xs[i]:=⟨_,rfl⟩
  have e1:rows[i]=[.s x.fName,.sl (x.aC.map encS),.i .i64 x.fBody.aH,.s x.fBody.aW,.s x.fBody.fName,.i .i64 x.fBody.fN,.i .i64 x.fBody.fType.aH,.s x.fBody.fType.fName,.sl (x.fBody.fType.fArgs.map aj.enc),.sl (x.fBody.fArgs.map ay.enc),.sl (x.fBody.aL.map aJ.enc)]:=by
   simp only[hr,List.getElem_map,←hx]
   simp only[ay.aG,aS.aG,aj.aG,encS,encI,List.cons_append,List.nil_append]
  have hm:=jJ hir
  have hle:=mO (rows:=rows) (i:=i+1)
  rw[hm,e1] at hle
  rw[e1] at hm
  simp only[kM,kL] at hle hm
  have hK:k+((aB (rows.take (i+1)):Nat):Int)=k+((aB (rows.take i):Nat):Int)+1+((aB (x.aC.map encS):Nat):Int)+1+1+1+1+1+1+((aB (x.fBody.fType.fArgs.map aj.enc):Nat):Int)+((aB (x.fBody.fArgs.map ay.enc):Nat):Int)+((aB (x.fBody.aL.map aJ.enc):Nat):Int):=by rw[hm];omega
  have e2:=vF (k:=k) hir
  rw[e1] at e2
  have hC:∀row o,cellAt (jC rows k i row) i o=row[o]? :=fun row o=>nO hir
  have hG:∀row,(jC rows k i row).getD i []=row:=fun row=>qX hir
  simp -implicitDefEqProofs (disch:=omega) only[go_sem,hb,ht,hA,hU,e2,hC,hG,dG,bT,hl,bF,dD]
  (repeat(with_reducible refine And.intro ?_ ?_;focus first|omega|rfl|assumption|exact⟨_,rfl,rfl⟩|(simp;omega)|(simp;done)))
  refine au (dw (k+((aB (rows.take i):Nat):Int)) (by omega)) ?_
  simp -implicitDefEqProofs (disch:=omega) only[go_sem,hb,ht,hA,hU,e2,hC,hG,dG,bT,hl,bF,dD]
  (repeat(with_reducible refine And.intro ?_ ?_;focus first|omega|rfl|assumption|exact⟨_,rfl,rfl⟩|(simp;omega)|(simp;done)))
  refine bA rfl (nQ hS hp hir (by rfl) (fun S' rs' g1 g2=>vM x.aC (k+((aB (rows.take i):Nat):Int)+1) (1+l) j r _ S' rs' g1 g2 (by omega))) ?_
  simp -implicitDefEqProofs (disch:=omega) only[go_sem,hb,ht,hA,hU,e2,hC,hG,dG,bT,hl,bF,dD]
  (repeat(with_reducible refine And.intro ?_ ?_;focus first|omega|rfl|assumption|exact⟨_,rfl,rfl⟩|(simp;omega)|(simp;done)))
  refine au (dw (k+((aB (rows.take i):Nat):Int)+1+((aB (x.aC.map encS):Nat):Int)+1) (by omega)) ?_
  simp -implicitDefEqProofs (disch:=omega) only[go_sem,hb,ht,hA,hU,e2,hC,hG,dG,bT,hl,bF,dD]
  (repeat(with_reducible refine And.intro ?_ ?_;focus first|omega|rfl|assumption|exact⟨_,rfl,rfl⟩|(simp;omega)|(simp;done)))
  refine au (dw (k+((aB (rows.take i):Nat):Int)+1+((aB (x.aC.map encS):Nat):Int)+1+1) (by omega)) ?_
  simp -implicitDefEqProofs (disch:=omega) only[go_sem,hb,ht,hA,hU,e2,hC,hG,dG,bT,hl,bF,dD]
  (repeat(with_reducible refine And.intro ?_ ?_;focus first|omega|rfl|assumption|exact⟨_,rfl,rfl⟩|(simp;omega)|(simp;done)))
  refine au (dw (k+((aB (rows.take i):Nat):Int)+1+((aB (x.aC.map encS):Nat):Int)+1+1+1+1+1) (by omega)) ?_
  simp -implicitDefEqProofs (disch:=omega) only[go_sem,hb,ht,hA,hU,e2,hC,hG,dG,bT,hl,bF,dD]
  (repeat(with_reducible refine And.intro ?_ ?_;focus first|omega|rfl|assumption|exact⟨_,rfl,rfl⟩|(simp;omega)|(simp;done)))
  refine bA rfl (nQ hS hp hir (by rfl) (fun S' rs' g1 g2=>rD x.fBody.fType.fArgs (k+((aB (rows.take i):Nat):Int)+1+((aB (x.aC.map encS):Nat):Int)+1+1+1+1+1+1) (1+l) j r _ S' rs' g1 g2 (by omega))) ?_
  simp -implicitDefEqProofs (disch:=omega) only[go_sem,hb,ht,hA,hU,e2,hC,hG,dG,bT,hl,bF,dD]
  (repeat(with_reducible refine And.intro ?_ ?_;focus first|omega|rfl|assumption|exact⟨_,rfl,rfl⟩|(simp;omega)|(simp;done)))
  refine bA rfl (nQ hS hp hir (by rfl) (fun S' rs' g1 g2=>Ou x.fBody.fArgs (k+((aB (rows.take i):Nat):Int)+1+((aB (x.aC.map encS):Nat):Int)+1+1+1+1+1+1+((aB (x.fBody.fType.fArgs.map aj.enc):Nat):Int)) (1+l) j r _ S' rs' g1 g2 (by omega))) ?_
  simp -implicitDefEqProofs (disch:=omega) only[go_sem,hb,ht,hA,hU,e2,hC,hG,dG,bT,hl,bF,dD]
  (repeat(with_reducible refine And.intro ?_ ?_;focus first|omega|rfl|assumption|exact⟨_,rfl,rfl⟩|(simp;omega)|(simp;done)))
  refine bA rfl (nQ hS hp hir (by rfl) (fun S' rs' g1 g2=>P5 x.fBody.aL (k+((aB (rows.take i):Nat):Int)+1+((aB (x.aC.map encS):Nat):Int)+1+1+1+1+1+1+((aB (x.fBody.fType.fArgs.map aj.enc):Nat):Int)+((aB (x.fBody.fArgs.map ay.enc):Nat):Int)) (1+l) j r _ S' rs' g1 g2 (by omega))) ?_
  simp -implicitDefEqProofs (disch:=omega) only[go_sem,hb,ht,hA,hU,e2,hC,hG,dG,bT,hl,bF,dD]
  (repeat(with_reducible refine And.intro ?_ ?_;focus first|omega|rfl|assumption|exact⟨_,rfl,rfl⟩|(simp;omega)|(simp;done)))
  refine bL (i+1) (by omega) (by rw[hK];rfl) ?_ (by omega)
  have h3:=vG (k:=k) hir
  rw[e1] at h3
  simp only[ng,zi] at h3
  rw[←h3]
  all_goals rfl
 ·simp -implicitDefEqProofs (disch:=omega) only[go_sem,hb]
  have hi:i=xs.length:=by omega
  rw[sQ (by omega),List.take_of_length_le (by omega)]
  all_goals (first|rfl|exact⟨rfl,rfl⟩)
set_option maxHeartbeats 4000000 in
theorem Jp(xs:List aS):∀(k:Int) (l j r:Nat) (p:List (Nat×Nat)) (S:Store) (rs:List (List (List D))),aV S (l,j)=some (.xf rs)→atR rs r p=some (cu (xs.map aS.enc) k)→0≤k∧k+aB (xs.map aS.enc)≤4611686018427387904→bD Tryz.prog 146 [.c (.xp (l,j) r p),.c (.d (.i .i64 k))] S (fun res S'=>res=.c (.d (.i .i64 (k+aB (xs.map aS.enc))))∧S'=S):=by
 intro k l j r p S rs hS hp hk
 have hlen:=nP (f:=aS.enc) (fun x=>by simp only[ay.aG,aS.aG,aj.aG,encS,encI,List.cons_append,List.nil_append,kM,kL];omega) xs
 obtain⟨rows,hr⟩:∃rows,rows=xs.map aS.enc:=⟨_,rfl⟩
 have hl:rows.length=xs.length:=by rw[hr,List.length_map]
 rw[←hr] at hp hk hlen ⊢
 refine aD (rs:=[.tmp 4]) Tryz.checked.mixed Tryz.func146 Tryz.ntmps146 rfl rfl rfl rfl rfl ?_
 simp -implicitDefEqProofs (disch:=omega) only[go_sem]
 refine aZ (ι:=Nat) Tryz.checked.mixed rfl [0,1,5] (fun i=>[.c (.xp (1+l,j) r p),.c (.d (.i .i64 (k+aB (rows.take i)))),.c (.d (.i .i64 i))])
  (fun i=>[]::S) (fun i=>i≤xs.length) (fun i=>xs.length-i) 0 ?_ rfl (Nat.zero_le _) ?_
 ·have z0:k+((aB (rows.take 0):Nat):Int)=k:=by simp[aB]
  rw[z0]
  rfl
 intro i hi
 simp -implicitDefEqProofs (disch:=omega) only[go_sem,hS,hp,bB,hl]
 with_reducible refine aA (fun hb=> ?_) (fun hb=> ?_)<;>have h:=hb<;>try simp only[wf_preprocess] at h
 ·have hi:i<xs.length:=by omega
  have hir:i<rows.length:=by omega
  obtain⟨x,hx⟩:∃x,x=xs[i]:=⟨_,rfl⟩
  have e1:rows[i]=[.s x.fName,.sl (x.aC.map encS),.i .i64 x.fBody.aH,.s x.fBody.aW,.s x.fBody.fName,.i .i64 x.fBody.fN,.i .i64 x.fBody.fType.aH,.s x.fBody.fType.fName,.sl (x.fBody.fType.fArgs.map aj.enc),.sl (x.fBody.fArgs.map ay.enc),.sl (x.fBody.aL.map aJ.enc)]:=by
   simp only[hr,List.getElem_map,←hx]
   simp only[ay.aG,aS.aG,aj.aG,encS,encI,List.cons_append,List.nil_append]
  have hm:=jJ hir
  have hle:=mO (rows:=rows) (i:=i+1)
  rw[hm,e1] at hle
  rw[e1] at hm
  simp only[kM,kL] at hle hm
  have hK:k+((aB (rows.take (i+1)):Nat):Int)=k+((aB (rows.take i):Nat):Int)+1+((aB (x.aC.map encS):Nat):Int)+1+1+1+1+1+1+((aB (x.fBody.fType.fArgs.map aj.enc):Nat):Int)+((aB (x.fBody.fArgs.map ay.enc):Nat):Int)+((aB (x.fBody.aL.map aJ.enc):Nat):Int):=by rw[hm];omega
  have e2:ng rows[i] (k+((aB (rows.take i):Nat):Int))=[.s (gG (k+((aB (rows.take i):Nat):Int))),.sl (cu (x.aC.map encS) (k+((aB (rows.take i):Nat):Int)+1)),.i .i64 (k+((aB (rows.take i):Nat):Int)+1+((aB (x.aC.map encS):Nat):Int)),.s (gG (k+((aB (rows.take i):Nat):Int)+1+((aB (x.aC.map encS):Nat):Int)+1)),.s (gG (k+((aB (rows.take i):Nat):Int)+1+((aB (x.aC.map encS):Nat):Int)+1+1)),.i .i64 (k+((aB (rows.take i):Nat):Int)+1+((aB (x.aC.map encS):Nat):Int)+1+1+1),.i .i64 (k+((aB (rows.take i):Nat):Int)+1+((aB (x.aC.map encS):Nat):Int)+1+1+1+1),.s (gG (k+((aB (rows.take i):Nat):Int)+1+((aB (x.aC.map encS):Nat):Int)+1+1+1+1+1)),.sl (cu (x.fBody.fType.fArgs.map aj.enc) (k+((aB (rows.take i):Nat):Int)+1+((aB (x.aC.map encS):Nat):Int)+1+1+1+1+1+1)),.sl (cu (x.fBody.fArgs.map ay.enc) (k+((aB (rows.take i):Nat):Int)+1+((aB (x.aC.map encS):Nat):Int)+1+1+1+1+1+1+((aB (x.fBody.fType.fArgs.map aj.enc):Nat):Int))),.sl (cu (x.fBody.aL.map aJ.enc) (k+((aB (rows.take i):Nat):Int)+1+((aB (x.aC.map encS):Nat):Int)+1+1+1+1+1+1+((aB (x.fBody.fType.fArgs.map aj.enc):Nat):Int)+((aB (x.fBody.fArgs.map ay.enc):Nat):Int)))]:=by
   rw[e1]
   simp only[ng,zi]
   all_goals rfl
  have hC:∀o,cellAt (cu rows k) i o=([.s (gG (k+((aB (rows.take i):Nat):Int))),.sl (cu (x.aC.map encS) (k+((aB (rows.take i):Nat):Int)+1)),.i .i64 (k+((aB (rows.take i):Nat):Int)+1+((aB (x.aC.map encS):Nat):Int)),.s (gG (k+((aB (rows.take i):Nat):Int)+1+((aB (x.aC.map encS):Nat):Int)+1)),.s (gG (k+((aB (rows.take i):Nat):Int)+1+((aB (x.aC.map encS):Nat):Int)+1+1)),.i .i64 (k+((aB (rows.take i):Nat):Int)+1+((aB (x.aC.map encS):Nat):Int)+1+1+1),.i .i64 (k+((aB (rows.take i):Nat):Int)+1+((aB (x.aC.map encS):Nat):Int)+1+1+1+1),.s (gG (k+((aB (rows.take i):Nat):Int)+1+((aB (x.aC.map encS):Nat):Int)+1+1+1+1+1)),.sl (cu (x.fBody.fType.fArgs.map aj.enc) (k+((aB (rows.take i):Nat):Int)+1+((aB (x.aC.map encS):Nat):Int)+1+1+1+1+1+1)),.sl (cu (x.fBody.fArgs.map ay.enc) (k+((aB (rows.take i):Nat):Int)+1+((aB (x.aC.map encS):Nat):Int)+1+1+1+1+1+1+((aB (x.fBody.fType.fArgs.map aj.enc):Nat):Int))),.sl (cu (x.fBody.aL.map aJ.enc) (k+((aB (rows.take i):Nat):Int)+1+((aB (x.aC.map encS):Nat):Int)+1+1+1+1+1+1+((aB (x.fBody.fType.fArgs.map aj.enc):Nat):Int)+((aB (x.fBody.fArgs.map ay.enc):Nat):Int)))]:List D)[o]? :=fun o=>by
   have h1:(cu rows k)[i]? =some (ng rows[i] (k+((aB (rows.take i):Nat):Int))):=by
    have h2:=kW (k:=k) hir
    have h3:i<(cu rows k).length:=by rw[bB];exact hir
    rw[List.getD_eq_getElem?_getD,List.getElem?_eq_getElem h3,Option.getD_some] at h2
    rw[List.getElem?_eq_getElem h3,h2]
   unfold cellAt
   rw[h1,Option.bind_some,e2]
  have hG:=kW (k:=k) hir
  rw[e2] at hG
  simp -implicitDefEqProofs (disch:=omega) only[go_sem,hb,hS,hp,hC,hG,bB,hl,dD]
  (repeat(with_reducible refine And.intro ?_ ?_;focus first|omega|rfl|assumption|exact⟨_,rfl,rfl⟩|(simp;omega)|(simp;done)))
  refine au (dw (k+((aB (rows.take i):Nat):Int)) (by omega)) ?_
  simp -implicitDefEqProofs (disch:=omega) only[go_sem,hb,hS,hp,hC,hG,bB,hl,dD]
  (repeat(with_reducible refine And.intro ?_ ?_;focus first|omega|rfl|assumption|exact⟨_,rfl,rfl⟩|(simp;omega)|(simp;done)))
  refine bA rfl (vN x.aC (k+((aB (rows.take i):Nat):Int)+1) (1+l) j r _ _ _ (by rw[eY];exact hS) (jZ hp (by rw[hC];rfl)) (by omega)) ?_
  simp -implicitDefEqProofs (disch:=omega) only[go_sem,hb,hS,hp,hC,hG,bB,hl,dD,gU]
  (repeat(with_reducible refine And.intro ?_ ?_;focus first|omega|rfl|assumption|exact⟨_,rfl,rfl⟩|(simp;omega)|(simp;done)))
  refine au (dw (k+((aB (rows.take i):Nat):Int)+1+((aB (x.aC.map encS):Nat):Int)+1) (by omega)) ?_
  simp -implicitDefEqProofs (disch:=omega) only[go_sem,hb,hS,hp,hC,hG,bB,hl,dD]
  (repeat(with_reducible refine And.intro ?_ ?_;focus first|omega|rfl|assumption|exact⟨_,rfl,rfl⟩|(simp;omega)|(simp;done)))
  refine au (dw (k+((aB (rows.take i):Nat):Int)+1+((aB (x.aC.map encS):Nat):Int)+1+1) (by omega)) ?_
  simp -implicitDefEqProofs (disch:=omega) only[go_sem,hb,hS,hp,hC,hG,bB,hl,dD]
  (repeat(with_reducible refine And.intro ?_ ?_;focus first|omega|rfl|assumption|exact⟨_,rfl,rfl⟩|(simp;omega)|(simp;done)))
  refine au (dw (k+((aB (rows.take i):Nat):Int)+1+((aB (x.aC.map encS):Nat):Int)+1+1+1+1+1) (by omega)) ?_
  simp -implicitDefEqProofs (disch:=omega) only[go_sem,hb,hS,hp,hC,hG,bB,hl,dD]
  (repeat(with_reducible refine And.intro ?_ ?_;focus first|omega|rfl|assumption|exact⟨_,rfl,rfl⟩|(simp;omega)|(simp;done)))
  refine bA rfl (rE x.fBody.fType.fArgs (k+((aB (rows.take i):Nat):Int)+1+((aB (x.aC.map encS):Nat):Int)+1+1+1+1+1+1) (1+l) j r _ _ _ (by rw[eY];exact hS) (jZ hp (by rw[hC];rfl)) (by omega)) ?_
  simp -implicitDefEqProofs (disch:=omega) only[go_sem,hb,hS,hp,hC,hG,bB,hl,dD,gU]
  (repeat(with_reducible refine And.intro ?_ ?_;focus first|omega|rfl|assumption|exact⟨_,rfl,rfl⟩|(simp;omega)|(simp;done)))
  refine bA rfl (Ov x.fBody.fArgs (k+((aB (rows.take i):Nat):Int)+1+((aB (x.aC.map encS):Nat):Int)+1+1+1+1+1+1+((aB (x.fBody.fType.fArgs.map aj.enc):Nat):Int)) (1+l) j r _ _ _ (by rw[eY];exact hS) (jZ hp (by rw[hC];rfl)) (by omega)) ?_
  simp -implicitDefEqProofs (disch:=omega) only[go_sem,hb,hS,hp,hC,hG,bB,hl,dD,gU]
  (repeat(with_reducible refine And.intro ?_ ?_;focus first|omega|rfl|assumption|exact⟨_,rfl,rfl⟩|(simp;omega)|(simp;done)))
  refine bA rfl (P6 x.fBody.aL (k+((aB (rows.take i):Nat):Int)+1+((aB (x.aC.map encS):Nat):Int)+1+1+1+1+1+1+((aB (x.fBody.fType.fArgs.map aj.enc):Nat):Int)+((aB (x.fBody.fArgs.map ay.enc):Nat):Int)) (1+l) j r _ _ _ (by rw[eY];exact hS) (jZ hp (by rw[hC];rfl)) (by omega)) ?_
  simp -implicitDefEqProofs (disch:=omega) only[go_sem,hb,hS,hp,hC,hG,bB,hl,dD,gU]
  (repeat(with_reducible refine And.intro ?_ ?_;focus first|omega|rfl|assumption|exact⟨_,rfl,rfl⟩|(simp;omega)|(simp;done)))
  refine bL (i+1) (by omega) (by rw[hK];rfl) rfl (by omega)
 ·simp -implicitDefEqProofs (disch:=omega) only[go_sem,hb]
  have hi:i=xs.length:=by omega
  rw[List.take_of_length_le (by omega)]
  all_goals (first|rfl|exact⟨rfl,rfl⟩)
end Go.Proofs.YtlmhknhlmicmeaaGreatDoor
namespace Go.Proofs.YtlmhknhlmicmeaaGreatDoor
open Go Go.Ab
theorem Iu(x:aT)(k:Int)(l j b:Nat)(S:Store)(rs:List (List (List D)))(hS:aV S (l,j)=some (.xf rs))(h1:atR rs (b+1) []=some (x.aC.map encS))(h4:atR rs (b+4) []=some (x.aX.fArgs.map aj.enc))(h5:atR rs (b+5) []=some (x.bE.map aO.enc))(h10:atR rs (b+10) []=some (x.aY.fArgs.map aj.enc))(h11:atR rs (b+11) []=some (x.aF.map aS.enc))(hk:0≤k∧k+((aB (x.aC.map encS):Nat):Int)+((aB (x.aX.fArgs.map aj.enc):Nat):Int)+((aB (x.bE.map aO.enc):Nat):Int)+((aB (x.aY.fArgs.map aj.enc):Nat):Int)+((aB (x.aF.map aS.enc):Nat):Int)≤4611686018427387904):bD Tryz.prog 45 [.agg [.d (.s x.aW),.xp (l,j) (b+1) [],.d (.i .i64 x.aX.aH),.d (.s x.aX.fName),.xp (l,j) (b+4) [],.xp (l,j) (b+5) [],.d (.b x.dW),.d (.b x.bX),.d (.i .i64 x.aY.aH),.d (.s x.aY.fName),.xp (l,j) (b+10) [],.xp (l,j) (b+11) []],.c (.d (.i .i64 k))] S (fun res S'=>res=.c (.d (.i .i64 (k+((aB (x.aC.map encS):Nat):Int)+((aB (x.aX.fArgs.map aj.enc):Nat):Int)+((aB (x.bE.map aO.enc):Nat):Int)+((aB (x.aY.fArgs.map aj.enc):Nat):Int)+((aB (x.aF.map aS.enc):Nat):Int))))∧S'=bf S (l,j) (.xf (dB (dB (dB (dB (dB (rs) (b+1) [] (cu (x.aC.map encS) (k))) (b+4) [] (cu (x.aX.fArgs.map aj.enc) (k+((aB (x.aC.map encS):Nat):Int)))) (b+5) [] (cu (x.bE.map aO.enc) (k+((aB (x.aC.map encS):Nat):Int)+((aB (x.aX.fArgs.map aj.enc):Nat):Int)))) (b+10) [] (cu (x.aY.fArgs.map aj.enc) (k+((aB (x.aC.map encS):Nat):Int)+((aB (x.aX.fArgs.map aj.enc):Nat):Int)+((aB (x.bE.map aO.enc):Nat):Int)))) (b+11) [] (cu (x.aF.map aS.enc) (k+((aB (x.aC.map encS):Nat):Int)+((aB (x.aX.fArgs.map aj.enc):Nat):Int)+((aB (x.bE.map aO.enc):Nat):Int)+((aB (x.aY.fArgs.map aj.enc):Nat):Int)))))):=by
 have ht:∀x:Ab.Obj,aV (bf S (l,j) x) (l,j)=some x:=fun x=>bY _ _ _ _ hS
 refine aD (rs:=[.tmp 4]) Tryz.checked.mixed Tryz.func45 Tryz.ntmps45 rfl rfl rfl rfl rfl ?_
 simp -implicitDefEqProofs (disch:=omega) only[go_sem]
 refine bA rfl (vM x.aC (k) (1+l) j (b+1) [] _ _ (by rw[eY];first|exact hS|exact ht _) (by first|assumption|(simp(disch:=omega) only[ne_eq,oG];assumption)) (by omega)) ?_
 simp -implicitDefEqProofs (disch:=omega) only[go_sem,bF,pz]
 refine bA rfl (E5 x.aX (k+((aB (x.aC.map encS):Nat):Int)) (1+l) j (b+2) _ _ (by rw[eY];first|exact hS|exact ht _) (by first|assumption|(simp(disch:=omega) only[ne_eq,oG];assumption)) (by omega)) ?_
 simp -implicitDefEqProofs (disch:=omega) only[go_sem,bF,pz,Nat.add_assoc,Nat.reduceAdd]
 refine bA rfl (KW x.bE (k+((aB (x.aC.map encS):Nat):Int)+((aB (x.aX.fArgs.map aj.enc):Nat):Int)) (1+l) j (b+5) [] _ _ (by rw[eY];first|exact hS|exact ht _) (by first|assumption|(simp(disch:=omega) only[ne_eq,oG];assumption)) (by omega)) ?_
 simp -implicitDefEqProofs (disch:=omega) only[go_sem,bF,pz]
 refine bA rfl (E5 x.aY (k+((aB (x.aC.map encS):Nat):Int)+((aB (x.aX.fArgs.map aj.enc):Nat):Int)+((aB (x.bE.map aO.enc):Nat):Int)) (1+l) j (b+8) _ _ (by rw[eY];first|exact hS|exact ht _) (by first|assumption|(simp(disch:=omega) only[ne_eq,oG];assumption)) (by omega)) ?_
 simp -implicitDefEqProofs (disch:=omega) only[go_sem,bF,pz,Nat.add_assoc,Nat.reduceAdd]
 refine bA rfl (Jo x.aF (k+((aB (x.aC.map encS):Nat):Int)+((aB (x.aX.fArgs.map aj.enc):Nat):Int)+((aB (x.bE.map aO.enc):Nat):Int)+((aB (x.aY.fArgs.map aj.enc):Nat):Int)) (1+l) j (b+11) [] _ _ (by rw[eY];first|exact hS|exact ht _) (by first|assumption|(simp(disch:=omega) only[ne_eq,oG];assumption)) (by omega)) ?_
 simp -implicitDefEqProofs (disch:=omega) only[go_sem,bF,pz]
 try exact⟨rfl,rfl⟩
theorem zF(x:aT)(k:Int)(l j b:Nat)(S:Store)(rs:List (List (List D)))(hS:aV S (l,j)=some (.xf rs))(h1:atR rs (b+1) []=some (cu (x.aC.map encS) (k)))(h4:atR rs (b+4) []=some (cu (x.aX.fArgs.map aj.enc) (k+((aB (x.aC.map encS):Nat):Int))))(h5:atR rs (b+5) []=some (cu (x.bE.map aO.enc) (k+((aB (x.aC.map encS):Nat):Int)+((aB (x.aX.fArgs.map aj.enc):Nat):Int))))(h10:atR rs (b+10) []=some (cu (x.aY.fArgs.map aj.enc) (k+((aB (x.aC.map encS):Nat):Int)+((aB (x.aX.fArgs.map aj.enc):Nat):Int)+((aB (x.bE.map aO.enc):Nat):Int))))(h11:atR rs (b+11) []=some (cu (x.aF.map aS.enc) (k+((aB (x.aC.map encS):Nat):Int)+((aB (x.aX.fArgs.map aj.enc):Nat):Int)+((aB (x.bE.map aO.enc):Nat):Int)+((aB (x.aY.fArgs.map aj.enc):Nat):Int))))(hk:0≤k∧k+((aB (x.aC.map encS):Nat):Int)+((aB (x.aX.fArgs.map aj.enc):Nat):Int)+((aB (x.bE.map aO.enc):Nat):Int)+((aB (x.aY.fArgs.map aj.enc):Nat):Int)+((aB (x.aF.map aS.enc):Nat):Int)≤4611686018427387904):bD Tryz.prog 46 [.agg [.d (.s x.aW),.xp (l,j) (b+1) [],.d (.i .i64 x.aX.aH),.d (.s x.aX.fName),.xp (l,j) (b+4) [],.xp (l,j) (b+5) [],.d (.b x.dW),.d (.b x.bX),.d (.i .i64 x.aY.aH),.d (.s x.aY.fName),.xp (l,j) (b+10) [],.xp (l,j) (b+11) []],.c (.d (.i .i64 k))] S (fun res S'=>res=.c (.d (.i .i64 (k+((aB (x.aC.map encS):Nat):Int)+((aB (x.aX.fArgs.map aj.enc):Nat):Int)+((aB (x.bE.map aO.enc):Nat):Int)+((aB (x.aY.fArgs.map aj.enc):Nat):Int)+((aB (x.aF.map aS.enc):Nat):Int))))∧S'=S):=by
 refine aD (rs:=[.tmp 4]) Tryz.checked.mixed Tryz.func46 Tryz.ntmps46 rfl rfl rfl rfl rfl ?_
 simp -implicitDefEqProofs (disch:=omega) only[go_sem]
 refine bA rfl (vN x.aC (k) (1+l) j (b+1) [] _ _ (by rw[eY];first|exact hS|exact ht _) (by first|assumption|(simp(disch:=omega) only[ne_eq,oG];assumption)) (by omega)) ?_
 simp -implicitDefEqProofs (disch:=omega) only[go_sem,gU]
 refine bA rfl (E8 x.aX (k+((aB (x.aC.map encS):Nat):Int)) (1+l) j (b+2) _ _ (by rw[eY];first|exact hS|exact ht _) (by first|assumption|(simp(disch:=omega) only[ne_eq,oG];assumption)) (by omega)) ?_
 simp -implicitDefEqProofs (disch:=omega) only[go_sem,gU]
 refine bA rfl (KX x.bE (k+((aB (x.aC.map encS):Nat):Int)+((aB (x.aX.fArgs.map aj.enc):Nat):Int)) (1+l) j (b+5) [] _ _ (by rw[eY];first|exact hS|exact ht _) (by first|assumption|(simp(disch:=omega) only[ne_eq,oG];assumption)) (by omega)) ?_
 simp -implicitDefEqProofs (disch:=omega) only[go_sem,gU]
 refine bA rfl (E8 x.aY (k+((aB (x.aC.map encS):Nat):Int)+((aB (x.aX.fArgs.map aj.enc):Nat):Int)+((aB (x.bE.map aO.enc):Nat):Int)) (1+l) j (b+8) _ _ (by rw[eY];first|exact hS|exact ht _) (by first|assumption|(simp(disch:=omega) only[ne_eq,oG];assumption)) (by omega)) ?_
 simp -implicitDefEqProofs (disch:=omega) only[go_sem,gU]
 refine bA rfl (Jp x.aF (k+((aB (x.aC.map encS):Nat):Int)+((aB (x.aX.fArgs.map aj.enc):Nat):Int)+((aB (x.bE.map aO.enc):Nat):Int)+((aB (x.aY.fArgs.map aj.enc):Nat):Int)) (1+l) j (b+11) [] _ _ (by rw[eY];first|exact hS|exact ht _) (by first|assumption|(simp(disch:=omega) only[ne_eq,oG];assumption)) (by omega)) ?_
 simp -implicitDefEqProofs (disch:=omega) only[go_sem,gU]
 try exact⟨rfl,rfl⟩
end Go.Proofs.YtlmhknhlmicmeaaGreatDoor
namespace Go.Proofs.YtlmhknhlmicmeaaGreatDoor.fnExactSExprToInstance
open Go Go.Ab
set_option maxHeartbeats 4000000 in
theorem law(x0:ah)(f0:rW x0.enc):bD Tryz.prog 9 [x0.v] [] (fun r _=>r=.c (.d (.b true))):=by
 have hmx:=GD x0.enc x0.eZ.2
 rw[ah.bH,ah.dP] at hmx
 simp only[ah.aG,List.cons_append,List.nil_append,kM,kL] at hmx
 refine aD (rs:=[.tmp 2]) Tryz.checked.mixed Tryz.func9 Tryz.ntmps9 rfl rfl rfl rfl rfl ?_
 simp -implicitDefEqProofs (disch:=omega) only[go_sem]
 refine au (Sy x0 _ (by omega) (by omega) f0) ?_
 simp -implicitDefEqProofs (disch:=omega) only[go_sem]<;>(repeat(with_reducible refine And.intro ?_ ?_;focus first|omega|rfl|assumption|exact⟨_,rfl,rfl⟩|(simp;omega)|(simp;done)))
 with_reducible refine aA (fun hb=> ?_) (fun hb=> ?_)<;>have h:=hb<;>(try simp only[wf_preprocess] at h)<;>simp -implicitDefEqProofs (disch:=omega) only[go_sem,hb]<;>(repeat(with_reducible refine And.intro ?_ ?_;focus first|omega|rfl|assumption|exact⟨_,rfl,rfl⟩|(simp;omega)|(simp;done)))
 have h0:=vw h
 have c1:=PY x0 (by omega)
 have c2:=fun n=>KV x0 n (by omega)
 have hd:(pY x0).sz≤1048576:=acg (by omega)
 obtain⟨X,hX⟩:∃X,X=pY x0:=⟨_,rfl⟩
 obtain⟨B,hB⟩:∃B,B=uS x0:=⟨_,rfl⟩
 rw[←hX] at hd
 simp only[←hX,←hB] at c1 c2
 have hmd:=GD X.enc X.eZ.2
 rw[aT.bH,aT.dP] at hmd
 simp only[aT.aG,aj.aG,List.cons_append,List.nil_append,kM,kL] at hmd
 have c3:aI Tryz.prog 43 [x0.v] (.d9 [(true,X.enc.map .d),(false,[.d (.b B)])]):=
  aI.less (c2 0) (VE fun w σ S β vs h=>U7 h)
 simp only[aT.aG,aj.aG,List.cons_append,List.nil_append,List.map_cons,List.map_nil] at c1 c3
 refine au (Bq x0 (by omega)) ?_
 simp -implicitDefEqProofs (disch:=omega) only[go_sem]<;>(repeat(with_reducible refine And.intro ?_ ?_;focus first|omega|rfl|assumption|exact⟨_,rfl,rfl⟩|(simp;omega)|(simp;done)))
 refine au c1 ?_
 simp -implicitDefEqProofs (disch:=omega) only[go_sem]
 refine bA rfl (bD.own (mk:=V.agg) (r:=x0.enc) Sm x0.eZ.1 (fun n=>PZ x0 n (by omega))) ?_
 simp -implicitDefEqProofs (disch:=omega) only[go_sem,ah.aG,List.cons_append,List.nil_append,zO,Lc,sG]
 refine bA rfl (bD.ae7 (k:=(0,2)) rfl (mk:=fun cs=>.d9 ((true,cs)::[C.d (.b B)].map fun x=>(false,[x]))) (r:=X.enc) (Sn [C.d (.b B)] rfl) X.eZ.1 (fun n=>c2 n)) ?_
 simp -implicitDefEqProofs (disch:=omega) only[go_sem,aT.aG,aj.aG,List.cons_append,List.nil_append,List.map_cons,List.map_nil,zO,Lc,sG]
 refine bA rfl (bD.lend (k:=(0,4)) rfl (Bl rfl) (xg X X (by omega))) ?_
 simp -implicitDefEqProofs (disch:=omega) only[go_sem,bK rfl,Bool.not_true]
 refine au (Bq x0 (by omega)) ?_
 simp -implicitDefEqProofs (disch:=omega) only[go_sem]<;>(repeat(with_reducible refine And.intro ?_ ?_;focus first|omega|rfl|assumption|exact⟨_,rfl,rfl⟩|(simp;omega)|(simp;done)))
 refine Um rfl (DS.refl _) (bD.lend (k:=(0,2)) rfl (Bl rfl) (Sz x0 x0 (by omega))) ?_
 simp -implicitDefEqProofs (disch:=omega) only[go_sem,bK rfl,Bool.not_true]
 refine bA rfl (Ow x0 1 0 2 0 _ _ rfl rfl ⟨by omega,by omega⟩) ?_
 simp -implicitDefEqProofs (disch:=omega) only[go_sem,gU]
 refine bA rfl (bD.lend (k:=(0,4)) rfl (Bl rfl) (xg X X (by omega))) ?_
 simp -implicitDefEqProofs (disch:=omega) only[go_sem,bK rfl,Bool.not_true]
 refine bA rfl (Iu X 1 0 4 0 _ _ rfl rfl rfl rfl rfl rfl ⟨by omega,by omega⟩) ?_
 simp -implicitDefEqProofs (disch:=omega) only[go_sem]
 refine bA rfl (zF X 1 0 4 0 _ _ rfl rfl rfl rfl rfl rfl ⟨by omega,by omega⟩) ?_
 simp -implicitDefEqProofs (disch:=omega) only[go_sem,gU,Bool.not_true]
 refine au (Bq x0 (by omega)) ?_
 simp -implicitDefEqProofs (disch:=omega) only[go_sem]<;>(repeat(with_reducible refine And.intro ?_ ?_;focus first|omega|rfl|assumption|exact⟨_,rfl,rfl⟩|(simp;omega)|(simp;done)))
 refine au c3 ?_
 simp -implicitDefEqProofs (disch:=omega) only[go_sem]
 refine au (xg X X (by omega)) ?_
 simp -implicitDefEqProofs (disch:=omega) only[go_sem,bK rfl,Bool.not_true]
 refine bA rfl (zF X 1 0 4 0 _ _ rfl rfl rfl rfl rfl rfl ⟨by omega,by omega⟩) ?_
 simp -implicitDefEqProofs (disch:=omega) only[go_sem,gU,Bool.not_true]
end Go.Proofs.YtlmhknhlmicmeaaGreatDoor.fnExactSExprToInstance
namespace Go.Ab
open Go
theorem KZ{H:Type}{enc:TypeId×Value→H}{P:Program}{w:World}{base:Nat}{sp:Nat→Bool}{held:Bool}{fuel n:Nat}{t e:TypeId}{k:IntKind}{cs:List Value}{ns:List Int}{p:List MemPlace}
 (ht:P.underlying t=some (.array n e)) (he:P.underlying e=some (.int k)) (ce:P.cellsOf e=1) (ct:P.cellsOf t=n)
 (h:DataW.trod enc P w base sp held fuel t cs=some (.agg (ns.map fun z=>.lit (.int k z)),p)):cs=ns.map (Value.int k ·):=by
 obtain⟨xs,m,_,ex,hlen,hl,hel⟩:=DataW.trod_array ht h
 rw[ct] at hlen
 have e3:=DataW.agg.inj (Prod.mk.inj ex).1
 have hns:ns.length=n:=by have:=congrArg List.length e3;simpa [hl] using this
 refine List.ext_getElem (by rw[hlen,List.length_map,hns]) fun i h1 h2=> ?_
 have k0:=hel i (by omega)
 rw[ce,Nat.mul_one] at k0
 have hd:(cs.drop i).take 1=[cs[i]]:=by
  rw[List.drop_eq_getElem_cons h1];rfl
 rw[hd,List.getElem?_eq_getElem (by omega)] at k0
 obtain⟨z,a,b,_⟩:=DataW.trod_int he k0
 have e4:(ns.map fun z=>(DataW.lit (Lit.int k z):DataW H))[i]'(by rw[List.length_map];omega)=(xs.map (·.1))[i]'(by rw[List.length_map];omega):=by simp only[e3]
 rw[List.getElem_map,List.getElem_map,b] at e4
 simp only[DataW.lit.injEq,Lit.int.injEq,true_and] at e4
 rw[List.getElem_map,e4]
 simpa using a
theorem DN{P:Program}{w:World}{n:String}{g:Nat}{cs:Array Value}(hg:P.globalNamed n=some g)(h:w.var? P n=some cs):∃t fz,w.heap[g]? =some (.cells cs t fz):=by
 unfold World.var? at h
 rw[hg] at h
 simp only[Option.bind_some] at h
 split at h
 ·rename_i c t fz hh
  cases h
  exact⟨t,fz,hh⟩
 ·cases h
end Go.Ab
namespace Go.Proofs.YtlmhknhlmicmeaaGreatDoor
open Go Go.Ab Go.ChangeShapes Go.RowKit
theorem gES:Tryz.prog.globalNamed "strconv.ErrSyntax" =some 0:=by kernel_rfl
theorem aaT:(Tryz.prog.globals[0]?).map (·.type)=some 286:=by kernel_rfl
theorem gER:Tryz.prog.globalNamed "strconv.ErrRange" =some 1:=by kernel_rfl
theorem aaU:(Tryz.prog.globals[1]?).map (·.type)=some 286:=by kernel_rfl
theorem cellsE:Tryz.prog.cellsOf 384=1:=by kernel_rfl
theorem cellsS:Tryz.prog.cellsOf 9=1:=by kernel_rfl
theorem Zk: "*" ++ "errors.errorString" = "*errors.errorString" :=by decide
theorem aci(u:TypeId)(h:Tryz.prog.typeName? 3 u=some "*errors.errorString"):u=382:=
 typeName_ptr_named (nm:= "errors.errorString") (by rw[Zk];kernel_rfl) (by kernel_rfl) (by decide) u (by rw[Zk];exact h)
theorem Ox{W:World}{r:List (String×DataW Unit)}(hr:(r.all fun x=>x.2.handleName?.isNone)=true)
 (h0:laidMetH Tryz.prog (("math/bits.deBruijn32tab",Rows.laid_math_bits_deBruijn32tab)::("math/bits.deBruijn64tab",Rows.laid_math_bits_deBruijn64tab)::("internal/strconv.uint64pow10",Rows.laid_internal_strconv_uint64pow10)::("strconv.ErrRange",Rows.laid_strconv_ErrRange)::("strconv.ErrSyntax",Rows.laid_strconv_ErrSyntax)::r) W):zG W (iQ W):=by
 rw[MakeChecks.laidMetH_plain _ _ _ (by
  rw[List.all_cons,List.all_cons,List.all_cons,List.all_cons,List.all_cons,hr];kernel_rfl)] at h0
 have hR:=h0.tail.tail.tail
 have hS:=hR.tail
 obtain⟨a1,s1,hv1,_,_,_⟩:=laid_sentinel hR gER aaU Tryz.underlying286 aci Tryz.underlying382 Tryz.underlying384 rfl rfl Tryz.underlying9 cellsE cellsS
 obtain⟨a2,s2,hv2,_,_,_⟩:=laid_sentinel hS gES aaT Tryz.underlying286 aci Tryz.underlying382 Tryz.underlying384 rfl rfl Tryz.underlying9 cellsE cellsS
 obtain⟨t1,Ew,BR⟩:=DN gER hv1
 obtain⟨t2,fz2,xu⟩:=DN gES hv2
 obtain⟨ps,⟨_,_,_,_,_,_,_,_,_,_,⟨_,_,_,_,_,_,_,_,_,_,⟨g,t,cs,fuel,p,q,hg,ht,hv,hd,_,_⟩,_⟩,_⟩,_,_⟩:=h0
 have hn:Tryz.prog.globalNamed "internal/strconv.uint64pow10" =some 2:=by kernel_rfl
 obtain rfl:=Option.some.inj (hn.symm.trans hg)
 obtain rfl:=Option.some.inj ((show(Tryz.prog.globals[2]?).map (·.type)=some 376 by kernel_rfl).symm.trans ht)
 have hl:(Rows.laid_internal_strconv_uint64pow10:DataW Unit)=.agg (((List.range 20).map fun i=>((10^i:Nat):Int)).map fun z=>.lit (.int .u64 z)):=by kernel_rfl
 rw[hl] at hd
 have e:=KZ Tryz.underlying376 Tryz.underlying359 (by kernel_rfl) (by kernel_rfl) hd
 obtain⟨t',fz,hh⟩:=DN hg hv
 intro g' p' hm
 have fast:∀{b:Nat} {c:Array Value} {t:TypeId} {fz:Nat×Nat},W.heap[b]? =some (.cells c t fz)→c.size≤iQ W b:=fun {b c t fz} hb=>by
  unfold iQ;rw[hb];exact Nat.le_refl _
 rcases List.mem_cons.1 hm with hm|hm
 ·cases hm
  refine⟨cs,t',fz,hh,?_,fast hh⟩
  show cs.toList=_
  rw[e,List.map_map];rfl
 rcases List.mem_cons.1 hm with hm|hm
 ·cases hm
  exact⟨_,t1,Ew,BR,⟨_,_,rfl⟩,fast BR⟩
 ·have hm':=List.eq_of_mem_singleton hm
  cases hm'
  exact⟨_,t2,fz2,xu,⟨_,_,rfl⟩,fast xu⟩
end Go.Proofs.YtlmhknhlmicmeaaGreatDoor
namespace Go.Ab
theorem Oy{P:Program}{n:Nat}{t:TypeId}{ds:List D}(h:WT P n t ds):∃m,n=m+1:=by
 cases n with
 |zero=>exact h.elim
 |succ m=>exact⟨m,rfl⟩
theorem Wh{P:Program}{n:Nat}{t:TypeId}{ds:List D}(ht:P.underlying t=some .string)(h:WT P n t ds):∃l,ds=[.s l]:=by
 obtain⟨m,rfl⟩:=Oy h
 simp only[WT,ht] at h;exact⟨h.choose,h.choose_spec.1⟩
theorem YW{P:Program}{n:Nat}{t e:TypeId}{ds:List D}(ht:P.underlying t=some (.slice e))(h:WT P n t ds):∃es m,m<n∧ds=[.sl es]∧∀x∈es,WT P m e x:=by
 obtain⟨m,rfl⟩:=Oy h
 simp only[WT,ht] at h
 obtain⟨es,h1,_,h2⟩:=h
 exact⟨es,m,by omega,h1,fun x hx=>(h2 x hx).2⟩
theorem Wi{P:Program}{n:Nat}{t:TypeId}{fs:Array Field}{ds:List D}(ht:P.underlying t=some (.struct fs))(h:WT P n t ds):∃m,m<n∧Ql P (WT P m) fs.toList ds:=by
 obtain⟨m,rfl⟩:=Oy h
 simp only[WT,ht] at h
 exact⟨m,by omega,h⟩
theorem Oz{α:Type}{enc:α→List D}:∀{es:List (List D)},(∀x∈es,∃m,x=enc m)→∃ms:List α,es=ms.map enc
 |[],_=>⟨[],rfl⟩
 |e::es,h=>by
  obtain⟨m,hm⟩:=h e (by simp)
  obtain⟨ms,hms⟩:=Oz (es:=es) fun x hx=>h x (by simp[hx])
  exact⟨m::ms,by rw[List.map_cons,←hm,←hms]⟩
theorem QG{P:Program}{W:TypeId→List D→Prop}(hW:∀t ds,W t ds→rW ds):∀(fs:List Field) (ds:List D),Ql P W fs ds→rW ds
 |[],ds,h=>by
  have h:ds=[]:=h
  rw[h];exact vv
 |f::fs,ds,h=>by
  obtain⟨a,b,rfl,_,h1,h2⟩:=h
  exact EA.2 ⟨hW _ _ h1,QG hW fs b h2⟩
theorem OA{P:Program}:∀(n:Nat) (t:TypeId) (ds:List D),WT P n t ds→rW ds
 |0,t,ds,h=>h.elim
 |n+1,t,ds,h=>by
  simp only[WT] at h
  split at h
  ·obtain⟨b,rfl⟩:=h;exact wF.2 ⟨.b _,vv⟩
  ·obtain⟨b,rfl,_⟩:=h;exact wF.2 ⟨.i _ _,vv⟩
  ·obtain⟨l,rfl,hl⟩:=h;exact wF.2 ⟨.s _ hl,vv⟩
  ·obtain⟨es,rfl,hl,hh⟩:=h
   exact wF.2 ⟨.sl _ hl fun e he d hd=>OA n _ e (hh e he).2 d hd,vv⟩
  ·exact QG (OA n) _ _ h
  ·exact h.elim
end Go.Ab
namespace Go.Proofs.YtlmhknhlmicmeaaGreatDoor
open Go Go.Ab
theorem YX:∀(n:Nat) (ds:List D),WT Tryz.prog n 68 ds→∃x:ah,ds=x.enc:=by
 intro n
 induction n using Nat.strongRecOn with
 |_ n ih=>
  intro ds h
  obtain⟨m,hm,h⟩:=Wi Tryz.underlying68 h
  simp only[Ql] at h
  obtain⟨a0,r0,rfl,l0,h0,a1,r1,rfl,l1,h1,rfl⟩:=h
  obtain⟨x0,rfl⟩:=Wh Tryz.underlying9 h0
  obtain⟨es1,m1,hm1,rfl,hs1⟩:=YW Tryz.underlying66 h1
  obtain⟨x1,rfl⟩:=Oz (enc:=ah.enc) fun y hy=>ih m1 (by omega) y (hs1 y hy)
  refine⟨ah.mk x0 x1,?_⟩
  rw[ah.aG]
  simp[ah.aU,ah.ak]
end Go.Proofs.YtlmhknhlmicmeaaGreatDoor
