/-
  SEVERAL TEXTS IN ONE (merged by program): contracts and models, each with its own heading.
-/
import Derived.Test.YtlmhknhlmicmeaaGreatDoorPartRnbF
import Derived.Test.YtlmhknhlmicmeaaGreatDoorRows
import Derived.OpenShut
import Derived.LaidMore
import Derived.Stop.LaidErr
set_option linter.unusedSimpArgs false
set_option linter.unusedVariables false
set_option maxRecDepth 8000
set_option maxRecDepth 4000
namespace Go.Proofs.YtlmhknhlmicmeaaGreatDoor
open Go Go.Ab
theorem yE:∀n:Nat,(∀xs:List au,SizeOf.sizeOf xs<n→∀(k:Int) (l j r:Nat) (p:List (Nat×Nat)) (S:Store) (rs:List (List (List D))),aU S (l,j)=some (.xf rs)→atR rs r p=some (xs.map au.enc)→0≤k∧k+aC (xs.map au.enc)≤4611686018427387904→bD Tryz.prog 114 [.c (.xp (l,j) r p),.c (.d (.i .i64 k))] S (fun res S'=>res=.c (.d (.i .i64 (k+aC (xs.map au.enc))))∧S'=aY S (l,j) (.xf (dN rs r p (cZ (xs.map au.enc) k)))))∧
 (∀xs:List aJ,SizeOf.sizeOf xs<n→∀(k:Int) (l j r:Nat) (p:List (Nat×Nat)) (S:Store) (rs:List (List (List D))),aU S (l,j)=some (.xf rs)→atR rs r p=some (xs.map aJ.enc)→0≤k∧k+aC (xs.map aJ.enc)≤4611686018427387904→bD Tryz.prog 115 [.c (.xp (l,j) r p),.c (.d (.i .i64 k))] S (fun res S'=>res=.c (.d (.i .i64 (k+aC (xs.map aJ.enc))))∧S'=aY S (l,j) (.xf (dN rs r p (cZ (xs.map aJ.enc) k)))))
 |0=>⟨fun xs h=>by omega,fun xs h=>by omega⟩
 |n+1=>by
  obtain⟨vR,AL⟩:=yE n
  refine⟨fun xs hn k l j r p S rs hS hp hk=> ?_,fun xs hn k l j r p S rs hS hp hk=> ?_⟩
  ·have hlen:=pq (f:=au.enc) (fun x=>by simp only[au.aH,aj.aH,encS,encI,List.cons_append,List.nil_append,lU,lT];omega) xs
   obtain⟨rows,hr⟩:∃rows,rows=xs.map au.enc:=⟨_,rfl⟩
   have hl:rows.length=xs.length:=by rw[hr,List.length_map]
   rw[←hr] at hp hk hlen ⊢
   have ht:∀x:Ab.Obj,aU (aY S (l,j) x) (l,j)=some x:=fun x=>bZ _ _ _ _ hS
   have hA:∀new,atR (dN rs r p new) r p=some new:=fun new=>qI hp
   have hU:∀a b,dN (dN rs r p a) r p b=dN rs r p b:=fun a b=>qJ hp
   refine aF (rs:=[.tmp 4]) Tryz.checked.mixed Tryz.func114 Tryz.ntmps114 rfl rfl rfl rfl rfl ?_
   simp -implicitDefEqProofs (disch:=omega) only[go_sem]
   refine aX (ι:=Nat) Tryz.checked.mixed rfl [0,1,5] (fun i=>[.c (.xp (1+l,j) r p),.c (.d (.i .i64 (k+aC (rows.take i)))),.c (.d (.i .i64 i))])
    (fun i=>[]::aY S (l,j) (.xf (dN rs r p (nH rows k i)))) (fun i=>i≤xs.length) (fun i=>xs.length-i) 0 ?_ ?_ (Nat.zero_le _) ?_
   ·have z0:k+((aC (rows.take 0):Nat):Int)=k:=by simp[aC]
    rw[z0]
    rfl
   ·rw[sO,sM hp,l7 _ _ hS]
   intro i hi
   simp -implicitDefEqProofs (disch:=omega) only[go_sem,ht,hA,jN,hl]
   with_reducible refine aA (fun hb=> ?_) (fun hb=> ?_)<;>have h:=hb<;>try simp only[wf_preprocess] at h
   ·have hi:i<xs.length:=by omega
    have hir:i<rows.length:=by omega
    obtain⟨x,hx⟩:∃x,x=xs[i]:=⟨_,rfl⟩
    have e1:rows[i]=[.i .i64 x.aM,.s x.bB,.s x.fName,.i .i64 x.fN,.i .i64 x.fType.aM,.s x.fType.fName,.sl (x.fType.fArgs.map aj.enc),.sl (x.fArgs.map au.enc),.sl (x.aK.map aJ.enc)]:=by
     simp only[hr,List.getElem_map,←hx]
     simp only[au.aH,aj.aH,encS,encI,List.cons_append,List.nil_append]
    have hm:=kY hir
    have hle:=nY (rows:=rows) (i:=i+1)
    rw[hm,e1] at hle
    rw[e1] at hm
    simp only[lU,lT] at hle hm
    have hK:k+((aC (rows.take (i+1)):Nat):Int)=k+((aC (rows.take i):Nat):Int)+1+1+1+1+1+1+((aC (x.fType.fArgs.map aj.enc):Nat):Int)+((aC (x.fArgs.map au.enc):Nat):Int)+((aC (x.aK.map aJ.enc):Nat):Int):=by rw[hm];omega
    have e2:=xu (k:=k) hir
    rw[e1] at e2
    have hC:∀row o,cellAt (jW rows k i row) i o=row[o]? :=fun row o=>oC hir
    have hG:∀row,(jW rows k i row).getD i []=row:=fun row=>rU hir
    simp -implicitDefEqProofs (disch:=omega) only[go_sem,hb,ht,hA,hU,e2,hC,hG,dJ,bS,hl,bK,dI]
    (repeat(with_reducible refine And.intro ?_ ?_;focus first|omega|rfl|assumption|exact⟨_,rfl,rfl⟩|(simp;omega)|(simp;done)))
    refine ay (dw (k+((aC (rows.take i):Nat):Int)+1) (by omega)) ?_
    simp -implicitDefEqProofs (disch:=omega) only[go_sem,hb,ht,hA,hU,e2,hC,hG,dJ,bS,hl,bK,dI]
    (repeat(with_reducible refine And.intro ?_ ?_;focus first|omega|rfl|assumption|exact⟨_,rfl,rfl⟩|(simp;omega)|(simp;done)))
    refine ay (dw (k+((aC (rows.take i):Nat):Int)+1+1) (by omega)) ?_
    simp -implicitDefEqProofs (disch:=omega) only[go_sem,hb,ht,hA,hU,e2,hC,hG,dJ,bS,hl,bK,dI]
    (repeat(with_reducible refine And.intro ?_ ?_;focus first|omega|rfl|assumption|exact⟨_,rfl,rfl⟩|(simp;omega)|(simp;done)))
    refine ay (dw (k+((aC (rows.take i):Nat):Int)+1+1+1+1+1) (by omega)) ?_
    simp -implicitDefEqProofs (disch:=omega) only[go_sem,hb,ht,hA,hU,e2,hC,hG,dJ,bS,hl,bK,dI]
    (repeat(with_reducible refine And.intro ?_ ?_;focus first|omega|rfl|assumption|exact⟨_,rfl,rfl⟩|(simp;omega)|(simp;done)))
    refine bq rfl (mI hS hp hir (by rfl) (fun S' rs' g1 g2=>qO x.fType.fArgs (k+((aC (rows.take i):Nat):Int)+1+1+1+1+1+1) (1+l) j r _ S' rs' g1 g2 (by omega))) ?_
    simp -implicitDefEqProofs (disch:=omega) only[go_sem,hb,ht,hA,hU,e2,hC,hG,dJ,bS,hl,bK,dI]
    (repeat(with_reducible refine And.intro ?_ ?_;focus first|omega|rfl|assumption|exact⟨_,rfl,rfl⟩|(simp;omega)|(simp;done)))
    refine bq rfl (mI hS hp hir (by rfl) (fun S' rs' g1 g2=>vR x.fArgs (by have:=List.sizeOf_lt_of_mem (List.getElem_mem hi);rw[←hx] at this;have:=au.fq x;omega) (k+((aC (rows.take i):Nat):Int)+1+1+1+1+1+1+((aC (x.fType.fArgs.map aj.enc):Nat):Int)) (1+l) j r _ S' rs' g1 g2 (by omega))) ?_
    simp -implicitDefEqProofs (disch:=omega) only[go_sem,hb,ht,hA,hU,e2,hC,hG,dJ,bS,hl,bK,dI]
    (repeat(with_reducible refine And.intro ?_ ?_;focus first|omega|rfl|assumption|exact⟨_,rfl,rfl⟩|(simp;omega)|(simp;done)))
    refine bq rfl (mI hS hp hir (by rfl) (fun S' rs' g1 g2=>AL x.aK (by have:=List.sizeOf_lt_of_mem (List.getElem_mem hi);rw[←hx] at this;have:=au.kJ x;omega) (k+((aC (rows.take i):Nat):Int)+1+1+1+1+1+1+((aC (x.fType.fArgs.map aj.enc):Nat):Int)+((aC (x.fArgs.map au.enc):Nat):Int)) (1+l) j r _ S' rs' g1 g2 (by omega))) ?_
    simp -implicitDefEqProofs (disch:=omega) only[go_sem,hb,ht,hA,hU,e2,hC,hG,dJ,bS,hl,bK,dI]
    (repeat(with_reducible refine And.intro ?_ ?_;focus first|omega|rfl|assumption|exact⟨_,rfl,rfl⟩|(simp;omega)|(simp;done)))
    refine bI (i+1) (by omega) (by rw[hK];rfl) ?_ (by omega)
    have h3:=xw (k:=k) hir
    rw[e1] at h3
    simp only[oz,Bv] at h3
    rw[←h3]
    all_goals rfl
   ·simp -implicitDefEqProofs (disch:=omega) only[go_sem,hb]
    have hi:i=xs.length:=by omega
    rw[uP (by omega),List.take_of_length_le (by omega)]
    all_goals (first|rfl|exact⟨rfl,rfl⟩)
  ·have hlen:=pq (f:=aJ.enc) (fun x=>by simp only[aJ.aH,au.aH,aj.aH,encS,encI,List.cons_append,List.nil_append,lU,lT];omega) xs
   obtain⟨rows,hr⟩:∃rows,rows=xs.map aJ.enc:=⟨_,rfl⟩
   have hl:rows.length=xs.length:=by rw[hr,List.length_map]
   rw[←hr] at hp hk hlen ⊢
   have ht:∀x:Ab.Obj,aU (aY S (l,j) x) (l,j)=some x:=fun x=>bZ _ _ _ _ hS
   have hA:∀new,atR (dN rs r p new) r p=some new:=fun new=>qI hp
   have hU:∀a b,dN (dN rs r p a) r p b=dN rs r p b:=fun a b=>qJ hp
   refine aF (rs:=[.tmp 4]) Tryz.checked.mixed Tryz.func115 Tryz.ntmps115 rfl rfl rfl rfl rfl ?_
   simp -implicitDefEqProofs (disch:=omega) only[go_sem]
   refine aX (ι:=Nat) Tryz.checked.mixed rfl [0,1,5] (fun i=>[.c (.xp (1+l,j) r p),.c (.d (.i .i64 (k+aC (rows.take i)))),.c (.d (.i .i64 i))])
    (fun i=>[]::aY S (l,j) (.xf (dN rs r p (nH rows k i)))) (fun i=>i≤xs.length) (fun i=>xs.length-i) 0 ?_ ?_ (Nat.zero_le _) ?_
   ·have z0:k+((aC (rows.take 0):Nat):Int)=k:=by simp[aC]
    rw[z0]
    rfl
   ·rw[sO,sM hp,l7 _ _ hS]
   intro i hi
   simp -implicitDefEqProofs (disch:=omega) only[go_sem,ht,hA,jN,hl]
   with_reducible refine aA (fun hb=> ?_) (fun hb=> ?_)<;>have h:=hb<;>try simp only[wf_preprocess] at h
   ·have hi:i<xs.length:=by omega
    have hir:i<rows.length:=by omega
    obtain⟨x,hx⟩:∃x,x=xs[i]:=⟨_,rfl⟩
    have e1:rows[i]=[.s x.bP,.sl (x.aN.map encS),.i .i64 x.fBody.aM,.s x.fBody.bB,.s x.fBody.fName,.i .i64 x.fBody.fN,.i .i64 x.fBody.fType.aM,.s x.fBody.fType.fName,.sl (x.fBody.fType.fArgs.map aj.enc),.sl (x.fBody.fArgs.map au.enc),.sl (x.fBody.aK.map aJ.enc)]:=by
     simp only[hr,List.getElem_map,←hx]
     simp only[aJ.aH,au.aH,aj.aH,encS,encI,List.cons_append,List.nil_append]
    have hm:=kY hir
    have hle:=nY (rows:=rows) (i:=i+1)
    rw[hm,e1] at hle
    rw[e1] at hm
    simp only[lU,lT] at hle hm
    have hK:k+((aC (rows.take (i+1)):Nat):Int)=k+((aC (rows.take i):Nat):Int)+1+((aC (x.aN.map encS):Nat):Int)+1+1+1+1+1+1+((aC (x.fBody.fType.fArgs.map aj.enc):Nat):Int)+((aC (x.fBody.fArgs.map au.enc):Nat):Int)+((aC (x.fBody.aK.map aJ.enc):Nat):Int):=by rw[hm];omega
    have e2:=xu (k:=k) hir
    rw[e1] at e2
    have hC:∀row o,cellAt (jW rows k i row) i o=row[o]? :=fun row o=>oC hir
    have hG:∀row,(jW rows k i row).getD i []=row:=fun row=>rU hir
    simp -implicitDefEqProofs (disch:=omega) only[go_sem,hb,ht,hA,hU,e2,hC,hG,dJ,bS,hl,bK,dI]
    (repeat(with_reducible refine And.intro ?_ ?_;focus first|omega|rfl|assumption|exact⟨_,rfl,rfl⟩|(simp;omega)|(simp;done)))
    refine ay (dw (k+((aC (rows.take i):Nat):Int)) (by omega)) ?_
    simp -implicitDefEqProofs (disch:=omega) only[go_sem,hb,ht,hA,hU,e2,hC,hG,dJ,bS,hl,bK,dI]
    (repeat(with_reducible refine And.intro ?_ ?_;focus first|omega|rfl|assumption|exact⟨_,rfl,rfl⟩|(simp;omega)|(simp;done)))
    refine bq rfl (mI hS hp hir (by rfl) (fun S' rs' g1 g2=>uW x.aN (k+((aC (rows.take i):Nat):Int)+1) (1+l) j r _ S' rs' g1 g2 (by omega))) ?_
    simp -implicitDefEqProofs (disch:=omega) only[go_sem,hb,ht,hA,hU,e2,hC,hG,dJ,bS,hl,bK,dI]
    (repeat(with_reducible refine And.intro ?_ ?_;focus first|omega|rfl|assumption|exact⟨_,rfl,rfl⟩|(simp;omega)|(simp;done)))
    refine ay (dw (k+((aC (rows.take i):Nat):Int)+1+((aC (x.aN.map encS):Nat):Int)+1) (by omega)) ?_
    simp -implicitDefEqProofs (disch:=omega) only[go_sem,hb,ht,hA,hU,e2,hC,hG,dJ,bS,hl,bK,dI]
    (repeat(with_reducible refine And.intro ?_ ?_;focus first|omega|rfl|assumption|exact⟨_,rfl,rfl⟩|(simp;omega)|(simp;done)))
    refine ay (dw (k+((aC (rows.take i):Nat):Int)+1+((aC (x.aN.map encS):Nat):Int)+1+1) (by omega)) ?_
    simp -implicitDefEqProofs (disch:=omega) only[go_sem,hb,ht,hA,hU,e2,hC,hG,dJ,bS,hl,bK,dI]
    (repeat(with_reducible refine And.intro ?_ ?_;focus first|omega|rfl|assumption|exact⟨_,rfl,rfl⟩|(simp;omega)|(simp;done)))
    refine ay (dw (k+((aC (rows.take i):Nat):Int)+1+((aC (x.aN.map encS):Nat):Int)+1+1+1+1+1) (by omega)) ?_
    simp -implicitDefEqProofs (disch:=omega) only[go_sem,hb,ht,hA,hU,e2,hC,hG,dJ,bS,hl,bK,dI]
    (repeat(with_reducible refine And.intro ?_ ?_;focus first|omega|rfl|assumption|exact⟨_,rfl,rfl⟩|(simp;omega)|(simp;done)))
    refine bq rfl (mI hS hp hir (by rfl) (fun S' rs' g1 g2=>qO x.fBody.fType.fArgs (k+((aC (rows.take i):Nat):Int)+1+((aC (x.aN.map encS):Nat):Int)+1+1+1+1+1+1) (1+l) j r _ S' rs' g1 g2 (by omega))) ?_
    simp -implicitDefEqProofs (disch:=omega) only[go_sem,hb,ht,hA,hU,e2,hC,hG,dJ,bS,hl,bK,dI]
    (repeat(with_reducible refine And.intro ?_ ?_;focus first|omega|rfl|assumption|exact⟨_,rfl,rfl⟩|(simp;omega)|(simp;done)))
    refine bq rfl (mI hS hp hir (by rfl) (fun S' rs' g1 g2=>vR x.fBody.fArgs (by have:=List.sizeOf_lt_of_mem (List.getElem_mem hi);rw[←hx] at this;have:=aJ.j3 x;have:=au.fq x.fBody;omega) (k+((aC (rows.take i):Nat):Int)+1+((aC (x.aN.map encS):Nat):Int)+1+1+1+1+1+1+((aC (x.fBody.fType.fArgs.map aj.enc):Nat):Int)) (1+l) j r _ S' rs' g1 g2 (by omega))) ?_
    simp -implicitDefEqProofs (disch:=omega) only[go_sem,hb,ht,hA,hU,e2,hC,hG,dJ,bS,hl,bK,dI]
    (repeat(with_reducible refine And.intro ?_ ?_;focus first|omega|rfl|assumption|exact⟨_,rfl,rfl⟩|(simp;omega)|(simp;done)))
    refine bq rfl (mI hS hp hir (by rfl) (fun S' rs' g1 g2=>AL x.fBody.aK (by have:=List.sizeOf_lt_of_mem (List.getElem_mem hi);rw[←hx] at this;have:=aJ.j3 x;have:=au.kJ x.fBody;omega) (k+((aC (rows.take i):Nat):Int)+1+((aC (x.aN.map encS):Nat):Int)+1+1+1+1+1+1+((aC (x.fBody.fType.fArgs.map aj.enc):Nat):Int)+((aC (x.fBody.fArgs.map au.enc):Nat):Int)) (1+l) j r _ S' rs' g1 g2 (by omega))) ?_
    simp -implicitDefEqProofs (disch:=omega) only[go_sem,hb,ht,hA,hU,e2,hC,hG,dJ,bS,hl,bK,dI]
    (repeat(with_reducible refine And.intro ?_ ?_;focus first|omega|rfl|assumption|exact⟨_,rfl,rfl⟩|(simp;omega)|(simp;done)))
    refine bI (i+1) (by omega) (by rw[hK];rfl) ?_ (by omega)
    have h3:=xw (k:=k) hir
    rw[e1] at h3
    simp only[oz,Bv] at h3
    rw[←h3]
    all_goals rfl
   ·simp -implicitDefEqProofs (disch:=omega) only[go_sem,hb]
    have hi:i=xs.length:=by omega
    rw[uP (by omega),List.take_of_length_le (by omega)]
    all_goals (first|rfl|exact⟨rfl,rfl⟩)
theorem NQ(xs:List au):∀(k:Int) (l j r:Nat) (p:List (Nat×Nat)) (S:Store) (rs:List (List (List D))),aU S (l,j)=some (.xf rs)→atR rs r p=some (xs.map au.enc)→0≤k∧k+aC (xs.map au.enc)≤4611686018427387904→bD Tryz.prog 114 [.c (.xp (l,j) r p),.c (.d (.i .i64 k))] S (fun res S'=>res=.c (.d (.i .i64 (k+aC (xs.map au.enc))))∧S'=aY S (l,j) (.xf (dN rs r p (cZ (xs.map au.enc) k)))):=(yE _).1 xs (Nat.lt_succ_self _)
theorem PD(xs:List aJ):∀(k:Int) (l j r:Nat) (p:List (Nat×Nat)) (S:Store) (rs:List (List (List D))),aU S (l,j)=some (.xf rs)→atR rs r p=some (xs.map aJ.enc)→0≤k∧k+aC (xs.map aJ.enc)≤4611686018427387904→bD Tryz.prog 115 [.c (.xp (l,j) r p),.c (.d (.i .i64 k))] S (fun res S'=>res=.c (.d (.i .i64 (k+aC (xs.map aJ.enc))))∧S'=aY S (l,j) (.xf (dN rs r p (cZ (xs.map aJ.enc) k)))):=(yE _).2 xs (Nat.lt_succ_self _)
theorem yF:∀n:Nat,(∀xs:List au,SizeOf.sizeOf xs<n→∀(k:Int) (l j r:Nat) (p:List (Nat×Nat)) (S:Store) (rs:List (List (List D))),aU S (l,j)=some (.xf rs)→atR rs r p=some (cZ (xs.map au.enc) k)→0≤k∧k+aC (xs.map au.enc)≤4611686018427387904→bD Tryz.prog 117 [.c (.xp (l,j) r p),.c (.d (.i .i64 k))] S (fun res S'=>res=.c (.d (.i .i64 (k+aC (xs.map au.enc))))∧S'=S))∧
 (∀xs:List aJ,SizeOf.sizeOf xs<n→∀(k:Int) (l j r:Nat) (p:List (Nat×Nat)) (S:Store) (rs:List (List (List D))),aU S (l,j)=some (.xf rs)→atR rs r p=some (cZ (xs.map aJ.enc) k)→0≤k∧k+aC (xs.map aJ.enc)≤4611686018427387904→bD Tryz.prog 118 [.c (.xp (l,j) r p),.c (.d (.i .i64 k))] S (fun res S'=>res=.c (.d (.i .i64 (k+aC (xs.map aJ.enc))))∧S'=S))
 |0=>⟨fun xs h=>by omega,fun xs h=>by omega⟩
 |n+1=>by
  obtain⟨vR,AL⟩:=yF n
  refine⟨fun xs hn k l j r p S rs hS hp hk=> ?_,fun xs hn k l j r p S rs hS hp hk=> ?_⟩
  ·have hlen:=pq (f:=au.enc) (fun x=>by simp only[au.aH,aj.aH,encS,encI,List.cons_append,List.nil_append,lU,lT];omega) xs
   obtain⟨rows,hr⟩:∃rows,rows=xs.map au.enc:=⟨_,rfl⟩
   have hl:rows.length=xs.length:=by rw[hr,List.length_map]
   rw[←hr] at hp hk hlen ⊢
   refine aF (rs:=[.tmp 4]) Tryz.checked.mixed Tryz.func117 Tryz.ntmps117 rfl rfl rfl rfl rfl ?_
   simp -implicitDefEqProofs (disch:=omega) only[go_sem]
   refine aX (ι:=Nat) Tryz.checked.mixed rfl [0,1,5] (fun i=>[.c (.xp (1+l,j) r p),.c (.d (.i .i64 (k+aC (rows.take i)))),.c (.d (.i .i64 i))])
    (fun i=>[]::S) (fun i=>i≤xs.length) (fun i=>xs.length-i) 0 ?_ rfl (Nat.zero_le _) ?_
   ·have z0:k+((aC (rows.take 0):Nat):Int)=k:=by simp[aC]
    rw[z0]
    rfl
   intro i hi
   simp -implicitDefEqProofs (disch:=omega) only[go_sem,hS,hp,bE,hl]
   with_reducible refine aA (fun hb=> ?_) (fun hb=> ?_)<;>have h:=hb<;>try simp only[wf_preprocess] at h
   ·have hi:i<xs.length:=by omega
    have hir:i<rows.length:=by omega
    obtain⟨x,hx⟩:∃x,x=xs[i]:=⟨_,rfl⟩
    have e1:rows[i]=[.i .i64 x.aM,.s x.bB,.s x.fName,.i .i64 x.fN,.i .i64 x.fType.aM,.s x.fType.fName,.sl (x.fType.fArgs.map aj.enc),.sl (x.fArgs.map au.enc),.sl (x.aK.map aJ.enc)]:=by
     simp only[hr,List.getElem_map,←hx]
     simp only[au.aH,aj.aH,encS,encI,List.cons_append,List.nil_append]
    have hm:=kY hir
    have hle:=nY (rows:=rows) (i:=i+1)
    rw[hm,e1] at hle
    rw[e1] at hm
    simp only[lU,lT] at hle hm
    have hK:k+((aC (rows.take (i+1)):Nat):Int)=k+((aC (rows.take i):Nat):Int)+1+1+1+1+1+1+((aC (x.fType.fArgs.map aj.enc):Nat):Int)+((aC (x.fArgs.map au.enc):Nat):Int)+((aC (x.aK.map aJ.enc):Nat):Int):=by rw[hm];omega
    have e2:oz rows[i] (k+((aC (rows.take i):Nat):Int))=[.i .i64 (k+((aC (rows.take i):Nat):Int)),.s (gN (k+((aC (rows.take i):Nat):Int)+1)),.s (gN (k+((aC (rows.take i):Nat):Int)+1+1)),.i .i64 (k+((aC (rows.take i):Nat):Int)+1+1+1),.i .i64 (k+((aC (rows.take i):Nat):Int)+1+1+1+1),.s (gN (k+((aC (rows.take i):Nat):Int)+1+1+1+1+1)),.sl (cZ (x.fType.fArgs.map aj.enc) (k+((aC (rows.take i):Nat):Int)+1+1+1+1+1+1)),.sl (cZ (x.fArgs.map au.enc) (k+((aC (rows.take i):Nat):Int)+1+1+1+1+1+1+((aC (x.fType.fArgs.map aj.enc):Nat):Int))),.sl (cZ (x.aK.map aJ.enc) (k+((aC (rows.take i):Nat):Int)+1+1+1+1+1+1+((aC (x.fType.fArgs.map aj.enc):Nat):Int)+((aC (x.fArgs.map au.enc):Nat):Int)))]:=by
     rw[e1]
     simp only[oz,Bv]
     all_goals rfl
    have hC:∀o,cellAt (cZ rows k) i o=([.i .i64 (k+((aC (rows.take i):Nat):Int)),.s (gN (k+((aC (rows.take i):Nat):Int)+1)),.s (gN (k+((aC (rows.take i):Nat):Int)+1+1)),.i .i64 (k+((aC (rows.take i):Nat):Int)+1+1+1),.i .i64 (k+((aC (rows.take i):Nat):Int)+1+1+1+1),.s (gN (k+((aC (rows.take i):Nat):Int)+1+1+1+1+1)),.sl (cZ (x.fType.fArgs.map aj.enc) (k+((aC (rows.take i):Nat):Int)+1+1+1+1+1+1)),.sl (cZ (x.fArgs.map au.enc) (k+((aC (rows.take i):Nat):Int)+1+1+1+1+1+1+((aC (x.fType.fArgs.map aj.enc):Nat):Int))),.sl (cZ (x.aK.map aJ.enc) (k+((aC (rows.take i):Nat):Int)+1+1+1+1+1+1+((aC (x.fType.fArgs.map aj.enc):Nat):Int)+((aC (x.fArgs.map au.enc):Nat):Int)))]:List D)[o]? :=fun o=>by
     have h1:(cZ rows k)[i]? =some (oz rows[i] (k+((aC (rows.take i):Nat):Int))):=by
      have h2:=mH (k:=k) hir
      have h3:i<(cZ rows k).length:=by rw[bE];exact hir
      rw[List.getD_eq_getElem?_getD,List.getElem?_eq_getElem h3,Option.getD_some] at h2
      rw[List.getElem?_eq_getElem h3,h2]
     unfold cellAt
     rw[h1,Option.bind_some,e2]
    have hG:=mH (k:=k) hir
    rw[e2] at hG
    simp -implicitDefEqProofs (disch:=omega) only[go_sem,hb,hS,hp,hC,hG,bE,hl,dI]
    (repeat(with_reducible refine And.intro ?_ ?_;focus first|omega|rfl|assumption|exact⟨_,rfl,rfl⟩|(simp;omega)|(simp;done)))
    refine ay (dw (k+((aC (rows.take i):Nat):Int)+1) (by omega)) ?_
    simp -implicitDefEqProofs (disch:=omega) only[go_sem,hb,hS,hp,hC,hG,bE,hl,dI]
    (repeat(with_reducible refine And.intro ?_ ?_;focus first|omega|rfl|assumption|exact⟨_,rfl,rfl⟩|(simp;omega)|(simp;done)))
    refine ay (dw (k+((aC (rows.take i):Nat):Int)+1+1) (by omega)) ?_
    simp -implicitDefEqProofs (disch:=omega) only[go_sem,hb,hS,hp,hC,hG,bE,hl,dI]
    (repeat(with_reducible refine And.intro ?_ ?_;focus first|omega|rfl|assumption|exact⟨_,rfl,rfl⟩|(simp;omega)|(simp;done)))
    refine ay (dw (k+((aC (rows.take i):Nat):Int)+1+1+1+1+1) (by omega)) ?_
    simp -implicitDefEqProofs (disch:=omega) only[go_sem,hb,hS,hp,hC,hG,bE,hl,dI]
    (repeat(with_reducible refine And.intro ?_ ?_;focus first|omega|rfl|assumption|exact⟨_,rfl,rfl⟩|(simp;omega)|(simp;done)))
    refine bq rfl (qP x.fType.fArgs (k+((aC (rows.take i):Nat):Int)+1+1+1+1+1+1) (1+l) j r _ _ _ (by rw[fV];exact hS) (jv hp (by rw[hC];rfl)) (by omega)) ?_
    simp -implicitDefEqProofs (disch:=omega) only[go_sem,hb,hS,hp,hC,hG,bE,hl,dI,iQ]
    (repeat(with_reducible refine And.intro ?_ ?_;focus first|omega|rfl|assumption|exact⟨_,rfl,rfl⟩|(simp;omega)|(simp;done)))
    refine bq rfl (vR x.fArgs (by have:=List.sizeOf_lt_of_mem (List.getElem_mem hi);rw[←hx] at this;have:=au.fq x;omega) (k+((aC (rows.take i):Nat):Int)+1+1+1+1+1+1+((aC (x.fType.fArgs.map aj.enc):Nat):Int)) (1+l) j r _ _ _ (by rw[fV];exact hS) (jv hp (by rw[hC];rfl)) (by omega)) ?_
    simp -implicitDefEqProofs (disch:=omega) only[go_sem,hb,hS,hp,hC,hG,bE,hl,dI,iQ]
    (repeat(with_reducible refine And.intro ?_ ?_;focus first|omega|rfl|assumption|exact⟨_,rfl,rfl⟩|(simp;omega)|(simp;done)))
    refine bq rfl (AL x.aK (by have:=List.sizeOf_lt_of_mem (List.getElem_mem hi);rw[←hx] at this;have:=au.kJ x;omega) (k+((aC (rows.take i):Nat):Int)+1+1+1+1+1+1+((aC (x.fType.fArgs.map aj.enc):Nat):Int)+((aC (x.fArgs.map au.enc):Nat):Int)) (1+l) j r _ _ _ (by rw[fV];exact hS) (jv hp (by rw[hC];rfl)) (by omega)) ?_
    simp -implicitDefEqProofs (disch:=omega) only[go_sem,hb,hS,hp,hC,hG,bE,hl,dI,iQ]
    (repeat(with_reducible refine And.intro ?_ ?_;focus first|omega|rfl|assumption|exact⟨_,rfl,rfl⟩|(simp;omega)|(simp;done)))
    refine bI (i+1) (by omega) (by rw[hK];rfl) rfl (by omega)
   ·simp -implicitDefEqProofs (disch:=omega) only[go_sem,hb]
    have hi:i=xs.length:=by omega
    rw[List.take_of_length_le (by omega)]
    all_goals (first|rfl|exact⟨rfl,rfl⟩)
  ·have hlen:=pq (f:=aJ.enc) (fun x=>by simp only[aJ.aH,au.aH,aj.aH,encS,encI,List.cons_append,List.nil_append,lU,lT];omega) xs
   obtain⟨rows,hr⟩:∃rows,rows=xs.map aJ.enc:=⟨_,rfl⟩
   have hl:rows.length=xs.length:=by rw[hr,List.length_map]
   rw[←hr] at hp hk hlen ⊢
   refine aF (rs:=[.tmp 4]) Tryz.checked.mixed Tryz.func118 Tryz.ntmps118 rfl rfl rfl rfl rfl ?_
   simp -implicitDefEqProofs (disch:=omega) only[go_sem]
   refine aX (ι:=Nat) Tryz.checked.mixed rfl [0,1,5] (fun i=>[.c (.xp (1+l,j) r p),.c (.d (.i .i64 (k+aC (rows.take i)))),.c (.d (.i .i64 i))])
    (fun i=>[]::S) (fun i=>i≤xs.length) (fun i=>xs.length-i) 0 ?_ rfl (Nat.zero_le _) ?_
   ·have z0:k+((aC (rows.take 0):Nat):Int)=k:=by simp[aC]
    rw[z0]
    rfl
   intro i hi
   simp -implicitDefEqProofs (disch:=omega) only[go_sem,hS,hp,bE,hl]
   with_reducible refine aA (fun hb=> ?_) (fun hb=> ?_)<;>have h:=hb<;>try simp only[wf_preprocess] at h
   ·have hi:i<xs.length:=by omega
    have hir:i<rows.length:=by omega
    obtain⟨x,hx⟩:∃x,x=xs[i]:=⟨_,rfl⟩
    have e1:rows[i]=[.s x.bP,.sl (x.aN.map encS),.i .i64 x.fBody.aM,.s x.fBody.bB,.s x.fBody.fName,.i .i64 x.fBody.fN,.i .i64 x.fBody.fType.aM,.s x.fBody.fType.fName,.sl (x.fBody.fType.fArgs.map aj.enc),.sl (x.fBody.fArgs.map au.enc),.sl (x.fBody.aK.map aJ.enc)]:=by
     simp only[hr,List.getElem_map,←hx]
     simp only[aJ.aH,au.aH,aj.aH,encS,encI,List.cons_append,List.nil_append]
    have hm:=kY hir
    have hle:=nY (rows:=rows) (i:=i+1)
    rw[hm,e1] at hle
    rw[e1] at hm
    simp only[lU,lT] at hle hm
    have hK:k+((aC (rows.take (i+1)):Nat):Int)=k+((aC (rows.take i):Nat):Int)+1+((aC (x.aN.map encS):Nat):Int)+1+1+1+1+1+1+((aC (x.fBody.fType.fArgs.map aj.enc):Nat):Int)+((aC (x.fBody.fArgs.map au.enc):Nat):Int)+((aC (x.fBody.aK.map aJ.enc):Nat):Int):=by rw[hm];omega
    have e2:oz rows[i] (k+((aC (rows.take i):Nat):Int))=[.s (gN (k+((aC (rows.take i):Nat):Int))),.sl (cZ (x.aN.map encS) (k+((aC (rows.take i):Nat):Int)+1)),.i .i64 (k+((aC (rows.take i):Nat):Int)+1+((aC (x.aN.map encS):Nat):Int)),.s (gN (k+((aC (rows.take i):Nat):Int)+1+((aC (x.aN.map encS):Nat):Int)+1)),.s (gN (k+((aC (rows.take i):Nat):Int)+1+((aC (x.aN.map encS):Nat):Int)+1+1)),.i .i64 (k+((aC (rows.take i):Nat):Int)+1+((aC (x.aN.map encS):Nat):Int)+1+1+1),.i .i64 (k+((aC (rows.take i):Nat):Int)+1+((aC (x.aN.map encS):Nat):Int)+1+1+1+1),.s (gN (k+((aC (rows.take i):Nat):Int)+1+((aC (x.aN.map encS):Nat):Int)+1+1+1+1+1)),.sl (cZ (x.fBody.fType.fArgs.map aj.enc) (k+((aC (rows.take i):Nat):Int)+1+((aC (x.aN.map encS):Nat):Int)+1+1+1+1+1+1)),.sl (cZ (x.fBody.fArgs.map au.enc) (k+((aC (rows.take i):Nat):Int)+1+((aC (x.aN.map encS):Nat):Int)+1+1+1+1+1+1+((aC (x.fBody.fType.fArgs.map aj.enc):Nat):Int))),.sl (cZ (x.fBody.aK.map aJ.enc) (k+((aC (rows.take i):Nat):Int)+1+((aC (x.aN.map encS):Nat):Int)+1+1+1+1+1+1+((aC (x.fBody.fType.fArgs.map aj.enc):Nat):Int)+((aC (x.fBody.fArgs.map au.enc):Nat):Int)))]:=by
     rw[e1]
     simp only[oz,Bv]
     all_goals rfl
    have hC:∀o,cellAt (cZ rows k) i o=([.s (gN (k+((aC (rows.take i):Nat):Int))),.sl (cZ (x.aN.map encS) (k+((aC (rows.take i):Nat):Int)+1)),.i .i64 (k+((aC (rows.take i):Nat):Int)+1+((aC (x.aN.map encS):Nat):Int)),.s (gN (k+((aC (rows.take i):Nat):Int)+1+((aC (x.aN.map encS):Nat):Int)+1)),.s (gN (k+((aC (rows.take i):Nat):Int)+1+((aC (x.aN.map encS):Nat):Int)+1+1)),.i .i64 (k+((aC (rows.take i):Nat):Int)+1+((aC (x.aN.map encS):Nat):Int)+1+1+1),.i .i64 (k+((aC (rows.take i):Nat):Int)+1+((aC (x.aN.map encS):Nat):Int)+1+1+1+1),.s (gN (k+((aC (rows.take i):Nat):Int)+1+((aC (x.aN.map encS):Nat):Int)+1+1+1+1+1)),.sl (cZ (x.fBody.fType.fArgs.map aj.enc) (k+((aC (rows.take i):Nat):Int)+1+((aC (x.aN.map encS):Nat):Int)+1+1+1+1+1+1)),.sl (cZ (x.fBody.fArgs.map au.enc) (k+((aC (rows.take i):Nat):Int)+1+((aC (x.aN.map encS):Nat):Int)+1+1+1+1+1+1+((aC (x.fBody.fType.fArgs.map aj.enc):Nat):Int))),.sl (cZ (x.fBody.aK.map aJ.enc) (k+((aC (rows.take i):Nat):Int)+1+((aC (x.aN.map encS):Nat):Int)+1+1+1+1+1+1+((aC (x.fBody.fType.fArgs.map aj.enc):Nat):Int)+((aC (x.fBody.fArgs.map au.enc):Nat):Int)))]:List D)[o]? :=fun o=>by
     have h1:(cZ rows k)[i]? =some (oz rows[i] (k+((aC (rows.take i):Nat):Int))):=by
      have h2:=mH (k:=k) hir
      have h3:i<(cZ rows k).length:=by rw[bE];exact hir
      rw[List.getD_eq_getElem?_getD,List.getElem?_eq_getElem h3,Option.getD_some] at h2
      rw[List.getElem?_eq_getElem h3,h2]
     unfold cellAt
     rw[h1,Option.bind_some,e2]
    have hG:=mH (k:=k) hir
    rw[e2] at hG
    simp -implicitDefEqProofs (disch:=omega) only[go_sem,hb,hS,hp,hC,hG,bE,hl,dI]
    (repeat(with_reducible refine And.intro ?_ ?_;focus first|omega|rfl|assumption|exact⟨_,rfl,rfl⟩|(simp;omega)|(simp;done)))
    refine ay (dw (k+((aC (rows.take i):Nat):Int)) (by omega)) ?_
    simp -implicitDefEqProofs (disch:=omega) only[go_sem,hb,hS,hp,hC,hG,bE,hl,dI]
    (repeat(with_reducible refine And.intro ?_ ?_;focus first|omega|rfl|assumption|exact⟨_,rfl,rfl⟩|(simp;omega)|(simp;done)))
    refine bq rfl (uX x.aN (k+((aC (rows.take i):Nat):Int)+1) (1+l) j r _ _ _ (by rw[fV];exact hS) (jv hp (by rw[hC];rfl)) (by omega)) ?_
    simp -implicitDefEqProofs (disch:=omega) only[go_sem,hb,hS,hp,hC,hG,bE,hl,dI,iQ]
    (repeat(with_reducible refine And.intro ?_ ?_;focus first|omega|rfl|assumption|exact⟨_,rfl,rfl⟩|(simp;omega)|(simp;done)))
    refine ay (dw (k+((aC (rows.take i):Nat):Int)+1+((aC (x.aN.map encS):Nat):Int)+1) (by omega)) ?_
    simp -implicitDefEqProofs (disch:=omega) only[go_sem,hb,hS,hp,hC,hG,bE,hl,dI]
    (repeat(with_reducible refine And.intro ?_ ?_;focus first|omega|rfl|assumption|exact⟨_,rfl,rfl⟩|(simp;omega)|(simp;done)))
    refine ay (dw (k+((aC (rows.take i):Nat):Int)+1+((aC (x.aN.map encS):Nat):Int)+1+1) (by omega)) ?_
    simp -implicitDefEqProofs (disch:=omega) only[go_sem,hb,hS,hp,hC,hG,bE,hl,dI]
    (repeat(with_reducible refine And.intro ?_ ?_;focus first|omega|rfl|assumption|exact⟨_,rfl,rfl⟩|(simp;omega)|(simp;done)))
    refine ay (dw (k+((aC (rows.take i):Nat):Int)+1+((aC (x.aN.map encS):Nat):Int)+1+1+1+1+1) (by omega)) ?_
    simp -implicitDefEqProofs (disch:=omega) only[go_sem,hb,hS,hp,hC,hG,bE,hl,dI]
    (repeat(with_reducible refine And.intro ?_ ?_;focus first|omega|rfl|assumption|exact⟨_,rfl,rfl⟩|(simp;omega)|(simp;done)))
    refine bq rfl (qP x.fBody.fType.fArgs (k+((aC (rows.take i):Nat):Int)+1+((aC (x.aN.map encS):Nat):Int)+1+1+1+1+1+1) (1+l) j r _ _ _ (by rw[fV];exact hS) (jv hp (by rw[hC];rfl)) (by omega)) ?_
    simp -implicitDefEqProofs (disch:=omega) only[go_sem,hb,hS,hp,hC,hG,bE,hl,dI,iQ]
    (repeat(with_reducible refine And.intro ?_ ?_;focus first|omega|rfl|assumption|exact⟨_,rfl,rfl⟩|(simp;omega)|(simp;done)))
    refine bq rfl (vR x.fBody.fArgs (by have:=List.sizeOf_lt_of_mem (List.getElem_mem hi);rw[←hx] at this;have:=aJ.j3 x;have:=au.fq x.fBody;omega) (k+((aC (rows.take i):Nat):Int)+1+((aC (x.aN.map encS):Nat):Int)+1+1+1+1+1+1+((aC (x.fBody.fType.fArgs.map aj.enc):Nat):Int)) (1+l) j r _ _ _ (by rw[fV];exact hS) (jv hp (by rw[hC];rfl)) (by omega)) ?_
    simp -implicitDefEqProofs (disch:=omega) only[go_sem,hb,hS,hp,hC,hG,bE,hl,dI,iQ]
    (repeat(with_reducible refine And.intro ?_ ?_;focus first|omega|rfl|assumption|exact⟨_,rfl,rfl⟩|(simp;omega)|(simp;done)))
    refine bq rfl (AL x.fBody.aK (by have:=List.sizeOf_lt_of_mem (List.getElem_mem hi);rw[←hx] at this;have:=aJ.j3 x;have:=au.kJ x.fBody;omega) (k+((aC (rows.take i):Nat):Int)+1+((aC (x.aN.map encS):Nat):Int)+1+1+1+1+1+1+((aC (x.fBody.fType.fArgs.map aj.enc):Nat):Int)+((aC (x.fBody.fArgs.map au.enc):Nat):Int)) (1+l) j r _ _ _ (by rw[fV];exact hS) (jv hp (by rw[hC];rfl)) (by omega)) ?_
    simp -implicitDefEqProofs (disch:=omega) only[go_sem,hb,hS,hp,hC,hG,bE,hl,dI,iQ]
    (repeat(with_reducible refine And.intro ?_ ?_;focus first|omega|rfl|assumption|exact⟨_,rfl,rfl⟩|(simp;omega)|(simp;done)))
    refine bI (i+1) (by omega) (by rw[hK];rfl) rfl (by omega)
   ·simp -implicitDefEqProofs (disch:=omega) only[go_sem,hb]
    have hi:i=xs.length:=by omega
    rw[List.take_of_length_le (by omega)]
    all_goals (first|rfl|exact⟨rfl,rfl⟩)
theorem NR(xs:List au):∀(k:Int) (l j r:Nat) (p:List (Nat×Nat)) (S:Store) (rs:List (List (List D))),aU S (l,j)=some (.xf rs)→atR rs r p=some (cZ (xs.map au.enc) k)→0≤k∧k+aC (xs.map au.enc)≤4611686018427387904→bD Tryz.prog 117 [.c (.xp (l,j) r p),.c (.d (.i .i64 k))] S (fun res S'=>res=.c (.d (.i .i64 (k+aC (xs.map au.enc))))∧S'=S):=(yF _).1 xs (Nat.lt_succ_self _)
theorem PE(xs:List aJ):∀(k:Int) (l j r:Nat) (p:List (Nat×Nat)) (S:Store) (rs:List (List (List D))),aU S (l,j)=some (.xf rs)→atR rs r p=some (cZ (xs.map aJ.enc) k)→0≤k∧k+aC (xs.map aJ.enc)≤4611686018427387904→bD Tryz.prog 118 [.c (.xp (l,j) r p),.c (.d (.i .i64 k))] S (fun res S'=>res=.c (.d (.i .i64 (k+aC (xs.map aJ.enc))))∧S'=S):=(yF _).2 xs (Nat.lt_succ_self _)
end Go.Proofs.YtlmhknhlmicmeaaGreatDoor
namespace Go.Proofs.YtlmhknhlmicmeaaGreatDoor
open Go Go.Ab
theorem BI:∀n:Nat,(∀xs:List ah,SizeOf.sizeOf xs<n→∀(k:Int) (l j r:Nat) (p:List (Nat×Nat)) (S:Store) (rs:List (List (List D))),aU S (l,j)=some (.xf rs)→atR rs r p=some (xs.map ah.enc)→0≤k∧k+aC (xs.map ah.enc)≤4611686018427387904→bD Tryz.prog 87 [.c (.xp (l,j) r p),.c (.d (.i .i64 k))] S (fun res S'=>res=.c (.d (.i .i64 (k+aC (xs.map ah.enc))))∧S'=aY S (l,j) (.xf (dN rs r p (cZ (xs.map ah.enc) k)))))
 |0=>fun xs h=>by omega
 |n+1=>by
  have nZ:=BI n
  refine fun xs hn k l j r p S rs hS hp hk=> ?_
  ·have hlen:=pq (f:=ah.enc) (fun x=>by simp only[ah.aH,encS,encI,List.cons_append,List.nil_append,lU,lT];omega) xs
   obtain⟨rows,hr⟩:∃rows,rows=xs.map ah.enc:=⟨_,rfl⟩
   have hl:rows.length=xs.length:=by rw[hr,List.length_map]
   rw[←hr] at hp hk hlen ⊢
   have ht:∀x:Ab.Obj,aU (aY S (l,j) x) (l,j)=some x:=fun x=>bZ _ _ _ _ hS
   have hA:∀new,atR (dN rs r p new) r p=some new:=fun new=>qI hp
   have hU:∀a b,dN (dN rs r p a) r p b=dN rs r p b:=fun a b=>qJ hp
   refine aF (rs:=[.tmp 4]) Tryz.checked.mixed Tryz.func87 Tryz.ntmps87 rfl rfl rfl rfl rfl ?_
   simp -implicitDefEqProofs (disch:=omega) only[go_sem]
   refine aX (ι:=Nat) Tryz.checked.mixed rfl [0,1,5] (fun i=>[.c (.xp (1+l,j) r p),.c (.d (.i .i64 (k+aC (rows.take i)))),.c (.d (.i .i64 i))])
    (fun i=>[]::aY S (l,j) (.xf (dN rs r p (nH rows k i)))) (fun i=>i≤xs.length) (fun i=>xs.length-i) 0 ?_ ?_ (Nat.zero_le _) ?_
   ·have z0:k+((aC (rows.take 0):Nat):Int)=k:=by simp[aC]
    rw[z0]
    rfl
   ·rw[sO,sM hp,l7 _ _ hS]
   intro i hi
   simp -implicitDefEqProofs (disch:=omega) only[go_sem,ht,hA,jN,hl]
   with_reducible refine aA (fun hb=> ?_) (fun hb=> ?_)<;>have h:=hb<;>try simp only[wf_preprocess] at h
   ·have hi:i<xs.length:=by omega
    have hir:i<rows.length:=by omega
    obtain⟨x,hx⟩:∃x,x=xs[i]:=⟨_,rfl⟩
    have e1:rows[i]=[.s x.aV,.sl (x.ak.map ah.enc)]:=by
     simp only[hr,List.getElem_map,←hx]
     simp only[ah.aH,encS,encI,List.cons_append,List.nil_append]
    have hm:=kY hir
    have hle:=nY (rows:=rows) (i:=i+1)
    rw[hm,e1] at hle
    rw[e1] at hm
    simp only[lU,lT] at hle hm
    have hK:k+((aC (rows.take (i+1)):Nat):Int)=k+((aC (rows.take i):Nat):Int)+1+((aC (x.ak.map ah.enc):Nat):Int):=by rw[hm];omega
    have e2:=xu (k:=k) hir
    rw[e1] at e2
    have hC:∀row o,cellAt (jW rows k i row) i o=row[o]? :=fun row o=>oC hir
    have hG:∀row,(jW rows k i row).getD i []=row:=fun row=>rU hir
    simp -implicitDefEqProofs (disch:=omega) only[go_sem,hb,ht,hA,hU,e2,hC,hG,dJ,bS,hl,bK,dI]
    (repeat(with_reducible refine And.intro ?_ ?_;focus first|omega|rfl|assumption|exact⟨_,rfl,rfl⟩|(simp;omega)|(simp;done)))
    refine ay (dw (k+((aC (rows.take i):Nat):Int)) (by omega)) ?_
    simp -implicitDefEqProofs (disch:=omega) only[go_sem,hb,ht,hA,hU,e2,hC,hG,dJ,bS,hl,bK,dI]
    (repeat(with_reducible refine And.intro ?_ ?_;focus first|omega|rfl|assumption|exact⟨_,rfl,rfl⟩|(simp;omega)|(simp;done)))
    refine bq rfl (mI hS hp hir (by rfl) (fun S' rs' g1 g2=>nZ x.ak (by have:=List.sizeOf_lt_of_mem (List.getElem_mem hi);rw[←hx] at this;have:=ah.kK x;omega) (k+((aC (rows.take i):Nat):Int)+1) (1+l) j r _ S' rs' g1 g2 (by omega))) ?_
    simp -implicitDefEqProofs (disch:=omega) only[go_sem,hb,ht,hA,hU,e2,hC,hG,dJ,bS,hl,bK,dI]
    (repeat(with_reducible refine And.intro ?_ ?_;focus first|omega|rfl|assumption|exact⟨_,rfl,rfl⟩|(simp;omega)|(simp;done)))
    refine bI (i+1) (by omega) (by rw[hK];rfl) ?_ (by omega)
    have h3:=xw (k:=k) hir
    rw[e1] at h3
    simp only[oz,Bv] at h3
    rw[←h3]
    all_goals rfl
   ·simp -implicitDefEqProofs (disch:=omega) only[go_sem,hb]
    have hi:i=xs.length:=by omega
    rw[uP (by omega),List.take_of_length_le (by omega)]
    all_goals (first|rfl|exact⟨rfl,rfl⟩)
theorem KL(xs:List ah):∀(k:Int) (l j r:Nat) (p:List (Nat×Nat)) (S:Store) (rs:List (List (List D))),aU S (l,j)=some (.xf rs)→atR rs r p=some (xs.map ah.enc)→0≤k∧k+aC (xs.map ah.enc)≤4611686018427387904→bD Tryz.prog 87 [.c (.xp (l,j) r p),.c (.d (.i .i64 k))] S (fun res S'=>res=.c (.d (.i .i64 (k+aC (xs.map ah.enc))))∧S'=aY S (l,j) (.xf (dN rs r p (cZ (xs.map ah.enc) k)))):=(BI _) xs (Nat.lt_succ_self _)
theorem NS(x:ah)(k:Int)(l j b:Nat)(S:Store)(rs:List (List (List D)))(hS:aU S (l,j)=some (.xf rs))(h1:atR rs (b+1) []=some (x.ak.map ah.enc))(hk:0≤k∧k+((aC (x.ak.map ah.enc):Nat):Int)≤4611686018427387904):bD Tryz.prog 17 [.agg [.d (.s x.aV),.xp (l,j) (b+1) []],.c (.d (.i .i64 k))] S (fun res S'=>res=.c (.d (.i .i64 (k+((aC (x.ak.map ah.enc):Nat):Int))))∧S'=aY S (l,j) (.xf (dN (rs) (b+1) [] (cZ (x.ak.map ah.enc) (k))))):=by
 have ht:∀x:Ab.Obj,aU (aY S (l,j) x) (l,j)=some x:=fun x=>bZ _ _ _ _ hS
 refine aF (rs:=[.tmp 4]) Tryz.checked.mixed Tryz.func17 Tryz.ntmps17 rfl rfl rfl rfl rfl ?_
 simp -implicitDefEqProofs (disch:=omega) only[go_sem]
 refine bq rfl (KL x.ak (k) (1+l) j (b+1) [] _ _ (by rw[fV];first|exact hS|exact ht _) (by first|assumption|(simp(disch:=omega) only[ne_eq,Cn];assumption)) (by omega)) ?_
 simp -implicitDefEqProofs (disch:=omega) only[go_sem,bK,xV]
 try exact⟨rfl,rfl⟩
end Go.Proofs.YtlmhknhlmicmeaaGreatDoor
namespace Go.Proofs.YtlmhknhlmicmeaaGreatDoor
open Go Go.Ab
set_option maxHeartbeats 4000000 in
theorem D7(xs:List aG):∀(k:Int) (l j r:Nat) (p:List (Nat×Nat)) (S:Store) (rs:List (List (List D))),aU S (l,j)=some (.xf rs)→atR rs r p=some (xs.map aG.enc)→0≤k∧k+aC (xs.map aG.enc)≤4611686018427387904→bD Tryz.prog 141 [.c (.xp (l,j) r p),.c (.d (.i .i64 k))] S (fun res S'=>res=.c (.d (.i .i64 (k+aC (xs.map aG.enc))))∧S'=aY S (l,j) (.xf (dN rs r p (cZ (xs.map aG.enc) k)))):=by
 intro k l j r p S rs hS hp hk
 have hlen:=pq (f:=aG.enc) (fun x=>by simp only[au.aH,aG.aH,aj.aH,encS,encI,List.cons_append,List.nil_append,lU,lT];omega) xs
 obtain⟨rows,hr⟩:∃rows,rows=xs.map aG.enc:=⟨_,rfl⟩
 have hl:rows.length=xs.length:=by rw[hr,List.length_map]
 rw[←hr] at hp hk hlen ⊢
 have ht:∀x:Ab.Obj,aU (aY S (l,j) x) (l,j)=some x:=fun x=>bZ _ _ _ _ hS
 have hA:∀new,atR (dN rs r p new) r p=some new:=fun new=>qI hp
 have hU:∀a b,dN (dN rs r p a) r p b=dN rs r p b:=fun a b=>qJ hp
 refine aF (rs:=[.tmp 4]) Tryz.checked.mixed Tryz.func141 Tryz.ntmps141 rfl rfl rfl rfl rfl ?_
 simp -implicitDefEqProofs (disch:=omega) only[go_sem]
 refine aX (ι:=Nat) Tryz.checked.mixed rfl [0,1,5] (fun i=>[.c (.xp (1+l,j) r p),.c (.d (.i .i64 (k+aC (rows.take i)))),.c (.d (.i .i64 i))])
  (fun i=>[]::aY S (l,j) (.xf (dN rs r p (nH rows k i)))) (fun i=>i≤xs.length) (fun i=>xs.length-i) 0 ?_ ?_ (Nat.zero_le _) ?_
 ·have z0:k+((aC (rows.take 0):Nat):Int)=k:=by simp[aC]
  rw[z0]
  rfl
 ·rw[sO,sM hp,l7 _ _ hS]
 intro i hi
 simp -implicitDefEqProofs (disch:=omega) only[go_sem,ht,hA,jN,hl]
 with_reducible refine aA (fun hb=> ?_) (fun hb=> ?_)<;>have h:=hb<;>try simp only[wf_preprocess] at h
 ·have hi:i<xs.length:=by omega
  have hir:i<rows.length:=by omega
  obtain⟨x,hx⟩:∃x,x=xs[i]:=⟨_,rfl⟩
  have e1:rows[i]=[.s x.fName,.sl (x.aT.map aj.enc),.i .i64 x.aW.aM,.s x.aW.fName,.sl (x.aW.fArgs.map aj.enc),.b x.eB,.sl (x.aN.map encS),.i .i64 x.fBody.aM,.s x.fBody.bB,.s x.fBody.fName,.i .i64 x.fBody.fN,.i .i64 x.fBody.fType.aM,.s x.fBody.fType.fName,.sl (x.fBody.fType.fArgs.map aj.enc),.sl (x.fBody.fArgs.map au.enc),.sl (x.fBody.aK.map aJ.enc)]:=by
   simp only[hr,List.getElem_map,←hx]
   simp only[au.aH,aG.aH,aj.aH,encS,encI,List.cons_append,List.nil_append]
  have hm:=kY hir
  have hle:=nY (rows:=rows) (i:=i+1)
  rw[hm,e1] at hle
  rw[e1] at hm
  simp only[lU,lT] at hle hm
  have hK:k+((aC (rows.take (i+1)):Nat):Int)=k+((aC (rows.take i):Nat):Int)+1+((aC (x.aT.map aj.enc):Nat):Int)+1+1+((aC (x.aW.fArgs.map aj.enc):Nat):Int)+1+((aC (x.aN.map encS):Nat):Int)+1+1+1+1+1+1+((aC (x.fBody.fType.fArgs.map aj.enc):Nat):Int)+((aC (x.fBody.fArgs.map au.enc):Nat):Int)+((aC (x.fBody.aK.map aJ.enc):Nat):Int):=by rw[hm];omega
  have e2:=xu (k:=k) hir
  rw[e1] at e2
  have hC:∀row o,cellAt (jW rows k i row) i o=row[o]? :=fun row o=>oC hir
  have hG:∀row,(jW rows k i row).getD i []=row:=fun row=>rU hir
  simp -implicitDefEqProofs (disch:=omega) only[go_sem,hb,ht,hA,hU,e2,hC,hG,dJ,bS,hl,bK,dI]
  (repeat(with_reducible refine And.intro ?_ ?_;focus first|omega|rfl|assumption|exact⟨_,rfl,rfl⟩|(simp;omega)|(simp;done)))
  refine ay (dw (k+((aC (rows.take i):Nat):Int)) (by omega)) ?_
  simp -implicitDefEqProofs (disch:=omega) only[go_sem,hb,ht,hA,hU,e2,hC,hG,dJ,bS,hl,bK,dI]
  (repeat(with_reducible refine And.intro ?_ ?_;focus first|omega|rfl|assumption|exact⟨_,rfl,rfl⟩|(simp;omega)|(simp;done)))
  refine bq rfl (mI hS hp hir (by rfl) (fun S' rs' g1 g2=>qO x.aT (k+((aC (rows.take i):Nat):Int)+1) (1+l) j r _ S' rs' g1 g2 (by omega))) ?_
  simp -implicitDefEqProofs (disch:=omega) only[go_sem,hb,ht,hA,hU,e2,hC,hG,dJ,bS,hl,bK,dI]
  (repeat(with_reducible refine And.intro ?_ ?_;focus first|omega|rfl|assumption|exact⟨_,rfl,rfl⟩|(simp;omega)|(simp;done)))
  refine ay (dw (k+((aC (rows.take i):Nat):Int)+1+((aC (x.aT.map aj.enc):Nat):Int)+1) (by omega)) ?_
  simp -implicitDefEqProofs (disch:=omega) only[go_sem,hb,ht,hA,hU,e2,hC,hG,dJ,bS,hl,bK,dI]
  (repeat(with_reducible refine And.intro ?_ ?_;focus first|omega|rfl|assumption|exact⟨_,rfl,rfl⟩|(simp;omega)|(simp;done)))
  refine bq rfl (mI hS hp hir (by rfl) (fun S' rs' g1 g2=>qO x.aW.fArgs (k+((aC (rows.take i):Nat):Int)+1+((aC (x.aT.map aj.enc):Nat):Int)+1+1) (1+l) j r _ S' rs' g1 g2 (by omega))) ?_
  simp -implicitDefEqProofs (disch:=omega) only[go_sem,hb,ht,hA,hU,e2,hC,hG,dJ,bS,hl,bK,dI]
  (repeat(with_reducible refine And.intro ?_ ?_;focus first|omega|rfl|assumption|exact⟨_,rfl,rfl⟩|(simp;omega)|(simp;done)))
  refine bq rfl (mI hS hp hir (by rfl) (fun S' rs' g1 g2=>uW x.aN (k+((aC (rows.take i):Nat):Int)+1+((aC (x.aT.map aj.enc):Nat):Int)+1+1+((aC (x.aW.fArgs.map aj.enc):Nat):Int)+1) (1+l) j r _ S' rs' g1 g2 (by omega))) ?_
  simp -implicitDefEqProofs (disch:=omega) only[go_sem,hb,ht,hA,hU,e2,hC,hG,dJ,bS,hl,bK,dI]
  (repeat(with_reducible refine And.intro ?_ ?_;focus first|omega|rfl|assumption|exact⟨_,rfl,rfl⟩|(simp;omega)|(simp;done)))
  refine ay (dw (k+((aC (rows.take i):Nat):Int)+1+((aC (x.aT.map aj.enc):Nat):Int)+1+1+((aC (x.aW.fArgs.map aj.enc):Nat):Int)+1+((aC (x.aN.map encS):Nat):Int)+1) (by omega)) ?_
  simp -implicitDefEqProofs (disch:=omega) only[go_sem,hb,ht,hA,hU,e2,hC,hG,dJ,bS,hl,bK,dI]
  (repeat(with_reducible refine And.intro ?_ ?_;focus first|omega|rfl|assumption|exact⟨_,rfl,rfl⟩|(simp;omega)|(simp;done)))
  refine ay (dw (k+((aC (rows.take i):Nat):Int)+1+((aC (x.aT.map aj.enc):Nat):Int)+1+1+((aC (x.aW.fArgs.map aj.enc):Nat):Int)+1+((aC (x.aN.map encS):Nat):Int)+1+1) (by omega)) ?_
  simp -implicitDefEqProofs (disch:=omega) only[go_sem,hb,ht,hA,hU,e2,hC,hG,dJ,bS,hl,bK,dI]
  (repeat(with_reducible refine And.intro ?_ ?_;focus first|omega|rfl|assumption|exact⟨_,rfl,rfl⟩|(simp;omega)|(simp;done)))
  refine ay (dw (k+((aC (rows.take i):Nat):Int)+1+((aC (x.aT.map aj.enc):Nat):Int)+1+1+((aC (x.aW.fArgs.map aj.enc):Nat):Int)+1+((aC (x.aN.map encS):Nat):Int)+1+1+1+1+1) (by omega)) ?_
  simp -implicitDefEqProofs (disch:=omega) only[go_sem,hb,ht,hA,hU,e2,hC,hG,dJ,bS,hl,bK,dI]
  (repeat(with_reducible refine And.intro ?_ ?_;focus first|omega|rfl|assumption|exact⟨_,rfl,rfl⟩|(simp;omega)|(simp;done)))
  refine bq rfl (mI hS hp hir (by rfl) (fun S' rs' g1 g2=>qO x.fBody.fType.fArgs (k+((aC (rows.take i):Nat):Int)+1+((aC (x.aT.map aj.enc):Nat):Int)+1+1+((aC (x.aW.fArgs.map aj.enc):Nat):Int)+1+((aC (x.aN.map encS):Nat):Int)+1+1+1+1+1+1) (1+l) j r _ S' rs' g1 g2 (by omega))) ?_
  simp -implicitDefEqProofs (disch:=omega) only[go_sem,hb,ht,hA,hU,e2,hC,hG,dJ,bS,hl,bK,dI]
  (repeat(with_reducible refine And.intro ?_ ?_;focus first|omega|rfl|assumption|exact⟨_,rfl,rfl⟩|(simp;omega)|(simp;done)))
  refine bq rfl (mI hS hp hir (by rfl) (fun S' rs' g1 g2=>NQ x.fBody.fArgs (k+((aC (rows.take i):Nat):Int)+1+((aC (x.aT.map aj.enc):Nat):Int)+1+1+((aC (x.aW.fArgs.map aj.enc):Nat):Int)+1+((aC (x.aN.map encS):Nat):Int)+1+1+1+1+1+1+((aC (x.fBody.fType.fArgs.map aj.enc):Nat):Int)) (1+l) j r _ S' rs' g1 g2 (by omega))) ?_
  simp -implicitDefEqProofs (disch:=omega) only[go_sem,hb,ht,hA,hU,e2,hC,hG,dJ,bS,hl,bK,dI]
  (repeat(with_reducible refine And.intro ?_ ?_;focus first|omega|rfl|assumption|exact⟨_,rfl,rfl⟩|(simp;omega)|(simp;done)))
  refine bq rfl (mI hS hp hir (by rfl) (fun S' rs' g1 g2=>PD x.fBody.aK (k+((aC (rows.take i):Nat):Int)+1+((aC (x.aT.map aj.enc):Nat):Int)+1+1+((aC (x.aW.fArgs.map aj.enc):Nat):Int)+1+((aC (x.aN.map encS):Nat):Int)+1+1+1+1+1+1+((aC (x.fBody.fType.fArgs.map aj.enc):Nat):Int)+((aC (x.fBody.fArgs.map au.enc):Nat):Int)) (1+l) j r _ S' rs' g1 g2 (by omega))) ?_
  simp -implicitDefEqProofs (disch:=omega) only[go_sem,hb,ht,hA,hU,e2,hC,hG,dJ,bS,hl,bK,dI]
  (repeat(with_reducible refine And.intro ?_ ?_;focus first|omega|rfl|assumption|exact⟨_,rfl,rfl⟩|(simp;omega)|(simp;done)))
  refine bI (i+1) (by omega) (by rw[hK];rfl) ?_ (by omega)
  have h3:=xw (k:=k) hir
  rw[e1] at h3
  simp only[oz,Bv] at h3
  rw[←h3]
  all_goals rfl
 ·simp -implicitDefEqProofs (disch:=omega) only[go_sem,hb]
  have hi:i=xs.length:=by omega
  rw[uP (by omega),List.take_of_length_le (by omega)]
  all_goals (first|rfl|exact⟨rfl,rfl⟩)
set_option maxHeartbeats 4000000 in
theorem D8(xs:List aG):∀(k:Int) (l j r:Nat) (p:List (Nat×Nat)) (S:Store) (rs:List (List (List D))),aU S (l,j)=some (.xf rs)→atR rs r p=some (cZ (xs.map aG.enc) k)→0≤k∧k+aC (xs.map aG.enc)≤4611686018427387904→bD Tryz.prog 142 [.c (.xp (l,j) r p),.c (.d (.i .i64 k))] S (fun res S'=>res=.c (.d (.i .i64 (k+aC (xs.map aG.enc))))∧S'=S):=by
 intro k l j r p S rs hS hp hk
 have hlen:=pq (f:=aG.enc) (fun x=>by simp only[au.aH,aG.aH,aj.aH,encS,encI,List.cons_append,List.nil_append,lU,lT];omega) xs
 obtain⟨rows,hr⟩:∃rows,rows=xs.map aG.enc:=⟨_,rfl⟩
 have hl:rows.length=xs.length:=by rw[hr,List.length_map]
 rw[←hr] at hp hk hlen ⊢
 refine aF (rs:=[.tmp 4]) Tryz.checked.mixed Tryz.func142 Tryz.ntmps142 rfl rfl rfl rfl rfl ?_
 simp -implicitDefEqProofs (disch:=omega) only[go_sem]
 refine aX (ι:=Nat) Tryz.checked.mixed rfl [0,1,5] (fun i=>[.c (.xp (1+l,j) r p),.c (.d (.i .i64 (k+aC (rows.take i)))),.c (.d (.i .i64 i))])
  (fun i=>[]::S) (fun i=>i≤xs.length) (fun i=>xs.length-i) 0 ?_ rfl (Nat.zero_le _) ?_
 ·have z0:k+((aC (rows.take 0):Nat):Int)=k:=by simp[aC]
  rw[z0]
  rfl
 intro i hi
 simp -implicitDefEqProofs (disch:=omega) only[go_sem,hS,hp,bE,hl]
 with_reducible refine aA (fun hb=> ?_) (fun hb=> ?_)<;>have h:=hb<;>try simp only[wf_preprocess] at h
 ·have hi:i<xs.length:=by omega
  have hir:i<rows.length:=by omega
  obtain⟨x,hx⟩:∃x,x=xs[i]:=⟨_,rfl⟩
  have e1:rows[i]=[.s x.fName,.sl (x.aT.map aj.enc),.i .i64 x.aW.aM,.s x.aW.fName,.sl (x.aW.fArgs.map aj.enc),.b x.eB,.sl (x.aN.map encS),.i .i64 x.fBody.aM,.s x.fBody.bB,.s x.fBody.fName,.i .i64 x.fBody.fN,.i .i64 x.fBody.fType.aM,.s x.fBody.fType.fName,.sl (x.fBody.fType.fArgs.map aj.enc),.sl (x.fBody.fArgs.map au.enc),.sl (x.fBody.aK.map aJ.enc)]:=by
   simp only[hr,List.getElem_map,←hx]
   simp only[au.aH,aG.aH,aj.aH,encS,encI,List.cons_append,List.nil_append]
  have hm:=kY hir
  have hle:=nY (rows:=rows) (i:=i+1)
  rw[hm,e1] at hle
  rw[e1] at hm
  simp only[lU,lT] at hle hm
  have hK:k+((aC (rows.take (i+1)):Nat):Int)=k+((aC (rows.take i):Nat):Int)+1+((aC (x.aT.map aj.enc):Nat):Int)+1+1+((aC (x.aW.fArgs.map aj.enc):Nat):Int)+1+((aC (x.aN.map encS):Nat):Int)+1+1+1+1+1+1+((aC (x.fBody.fType.fArgs.map aj.enc):Nat):Int)+((aC (x.fBody.fArgs.map au.enc):Nat):Int)+((aC (x.fBody.aK.map aJ.enc):Nat):Int):=by rw[hm];omega
  have e2:oz rows[i] (k+((aC (rows.take i):Nat):Int))=[.s (gN (k+((aC (rows.take i):Nat):Int))),.sl (cZ (x.aT.map aj.enc) (k+((aC (rows.take i):Nat):Int)+1)),.i .i64 (k+((aC (rows.take i):Nat):Int)+1+((aC (x.aT.map aj.enc):Nat):Int)),.s (gN (k+((aC (rows.take i):Nat):Int)+1+((aC (x.aT.map aj.enc):Nat):Int)+1)),.sl (cZ (x.aW.fArgs.map aj.enc) (k+((aC (rows.take i):Nat):Int)+1+((aC (x.aT.map aj.enc):Nat):Int)+1+1)),.b (decide ((k+((aC (rows.take i):Nat):Int)+1+((aC (x.aT.map aj.enc):Nat):Int)+1+1+((aC (x.aW.fArgs.map aj.enc):Nat):Int)).tmod 3=0)),.sl (cZ (x.aN.map encS) (k+((aC (rows.take i):Nat):Int)+1+((aC (x.aT.map aj.enc):Nat):Int)+1+1+((aC (x.aW.fArgs.map aj.enc):Nat):Int)+1)),.i .i64 (k+((aC (rows.take i):Nat):Int)+1+((aC (x.aT.map aj.enc):Nat):Int)+1+1+((aC (x.aW.fArgs.map aj.enc):Nat):Int)+1+((aC (x.aN.map encS):Nat):Int)),.s (gN (k+((aC (rows.take i):Nat):Int)+1+((aC (x.aT.map aj.enc):Nat):Int)+1+1+((aC (x.aW.fArgs.map aj.enc):Nat):Int)+1+((aC (x.aN.map encS):Nat):Int)+1)),.s (gN (k+((aC (rows.take i):Nat):Int)+1+((aC (x.aT.map aj.enc):Nat):Int)+1+1+((aC (x.aW.fArgs.map aj.enc):Nat):Int)+1+((aC (x.aN.map encS):Nat):Int)+1+1)),.i .i64 (k+((aC (rows.take i):Nat):Int)+1+((aC (x.aT.map aj.enc):Nat):Int)+1+1+((aC (x.aW.fArgs.map aj.enc):Nat):Int)+1+((aC (x.aN.map encS):Nat):Int)+1+1+1),.i .i64 (k+((aC (rows.take i):Nat):Int)+1+((aC (x.aT.map aj.enc):Nat):Int)+1+1+((aC (x.aW.fArgs.map aj.enc):Nat):Int)+1+((aC (x.aN.map encS):Nat):Int)+1+1+1+1),.s (gN (k+((aC (rows.take i):Nat):Int)+1+((aC (x.aT.map aj.enc):Nat):Int)+1+1+((aC (x.aW.fArgs.map aj.enc):Nat):Int)+1+((aC (x.aN.map encS):Nat):Int)+1+1+1+1+1)),.sl (cZ (x.fBody.fType.fArgs.map aj.enc) (k+((aC (rows.take i):Nat):Int)+1+((aC (x.aT.map aj.enc):Nat):Int)+1+1+((aC (x.aW.fArgs.map aj.enc):Nat):Int)+1+((aC (x.aN.map encS):Nat):Int)+1+1+1+1+1+1)),.sl (cZ (x.fBody.fArgs.map au.enc) (k+((aC (rows.take i):Nat):Int)+1+((aC (x.aT.map aj.enc):Nat):Int)+1+1+((aC (x.aW.fArgs.map aj.enc):Nat):Int)+1+((aC (x.aN.map encS):Nat):Int)+1+1+1+1+1+1+((aC (x.fBody.fType.fArgs.map aj.enc):Nat):Int))),.sl (cZ (x.fBody.aK.map aJ.enc) (k+((aC (rows.take i):Nat):Int)+1+((aC (x.aT.map aj.enc):Nat):Int)+1+1+((aC (x.aW.fArgs.map aj.enc):Nat):Int)+1+((aC (x.aN.map encS):Nat):Int)+1+1+1+1+1+1+((aC (x.fBody.fType.fArgs.map aj.enc):Nat):Int)+((aC (x.fBody.fArgs.map au.enc):Nat):Int)))]:=by
   rw[e1]
   simp only[oz,Bv]
   all_goals rfl
  have hC:∀o,cellAt (cZ rows k) i o=([.s (gN (k+((aC (rows.take i):Nat):Int))),.sl (cZ (x.aT.map aj.enc) (k+((aC (rows.take i):Nat):Int)+1)),.i .i64 (k+((aC (rows.take i):Nat):Int)+1+((aC (x.aT.map aj.enc):Nat):Int)),.s (gN (k+((aC (rows.take i):Nat):Int)+1+((aC (x.aT.map aj.enc):Nat):Int)+1)),.sl (cZ (x.aW.fArgs.map aj.enc) (k+((aC (rows.take i):Nat):Int)+1+((aC (x.aT.map aj.enc):Nat):Int)+1+1)),.b (decide ((k+((aC (rows.take i):Nat):Int)+1+((aC (x.aT.map aj.enc):Nat):Int)+1+1+((aC (x.aW.fArgs.map aj.enc):Nat):Int)).tmod 3=0)),.sl (cZ (x.aN.map encS) (k+((aC (rows.take i):Nat):Int)+1+((aC (x.aT.map aj.enc):Nat):Int)+1+1+((aC (x.aW.fArgs.map aj.enc):Nat):Int)+1)),.i .i64 (k+((aC (rows.take i):Nat):Int)+1+((aC (x.aT.map aj.enc):Nat):Int)+1+1+((aC (x.aW.fArgs.map aj.enc):Nat):Int)+1+((aC (x.aN.map encS):Nat):Int)),.s (gN (k+((aC (rows.take i):Nat):Int)+1+((aC (x.aT.map aj.enc):Nat):Int)+1+1+((aC (x.aW.fArgs.map aj.enc):Nat):Int)+1+((aC (x.aN.map encS):Nat):Int)+1)),.s (gN (k+((aC (rows.take i):Nat):Int)+1+((aC (x.aT.map aj.enc):Nat):Int)+1+1+((aC (x.aW.fArgs.map aj.enc):Nat):Int)+1+((aC (x.aN.map encS):Nat):Int)+1+1)),.i .i64 (k+((aC (rows.take i):Nat):Int)+1+((aC (x.aT.map aj.enc):Nat):Int)+1+1+((aC (x.aW.fArgs.map aj.enc):Nat):Int)+1+((aC (x.aN.map encS):Nat):Int)+1+1+1),.i .i64 (k+((aC (rows.take i):Nat):Int)+1+((aC (x.aT.map aj.enc):Nat):Int)+1+1+((aC (x.aW.fArgs.map aj.enc):Nat):Int)+1+((aC (x.aN.map encS):Nat):Int)+1+1+1+1),.s (gN (k+((aC (rows.take i):Nat):Int)+1+((aC (x.aT.map aj.enc):Nat):Int)+1+1+((aC (x.aW.fArgs.map aj.enc):Nat):Int)+1+((aC (x.aN.map encS):Nat):Int)+1+1+1+1+1)),.sl (cZ (x.fBody.fType.fArgs.map aj.enc) (k+((aC (rows.take i):Nat):Int)+1+((aC (x.aT.map aj.enc):Nat):Int)+1+1+((aC (x.aW.fArgs.map aj.enc):Nat):Int)+1+((aC (x.aN.map encS):Nat):Int)+1+1+1+1+1+1)),.sl (cZ (x.fBody.fArgs.map au.enc) (k+((aC (rows.take i):Nat):Int)+1+((aC (x.aT.map aj.enc):Nat):Int)+1+1+((aC (x.aW.fArgs.map aj.enc):Nat):Int)+1+((aC (x.aN.map encS):Nat):Int)+1+1+1+1+1+1+((aC (x.fBody.fType.fArgs.map aj.enc):Nat):Int))),.sl (cZ (x.fBody.aK.map aJ.enc) (k+((aC (rows.take i):Nat):Int)+1+((aC (x.aT.map aj.enc):Nat):Int)+1+1+((aC (x.aW.fArgs.map aj.enc):Nat):Int)+1+((aC (x.aN.map encS):Nat):Int)+1+1+1+1+1+1+((aC (x.fBody.fType.fArgs.map aj.enc):Nat):Int)+((aC (x.fBody.fArgs.map au.enc):Nat):Int)))]:List D)[o]? :=fun o=>by
   have h1:(cZ rows k)[i]? =some (oz rows[i] (k+((aC (rows.take i):Nat):Int))):=by
    have h2:=mH (k:=k) hir
    have h3:i<(cZ rows k).length:=by rw[bE];exact hir
    rw[List.getD_eq_getElem?_getD,List.getElem?_eq_getElem h3,Option.getD_some] at h2
    rw[List.getElem?_eq_getElem h3,h2]
   unfold cellAt
   rw[h1,Option.bind_some,e2]
  have hG:=mH (k:=k) hir
  rw[e2] at hG
  simp -implicitDefEqProofs (disch:=omega) only[go_sem,hb,hS,hp,hC,hG,bE,hl,dI]
  (repeat(with_reducible refine And.intro ?_ ?_;focus first|omega|rfl|assumption|exact⟨_,rfl,rfl⟩|(simp;omega)|(simp;done)))
  refine ay (dw (k+((aC (rows.take i):Nat):Int)) (by omega)) ?_
  simp -implicitDefEqProofs (disch:=omega) only[go_sem,hb,hS,hp,hC,hG,bE,hl,dI]
  (repeat(with_reducible refine And.intro ?_ ?_;focus first|omega|rfl|assumption|exact⟨_,rfl,rfl⟩|(simp;omega)|(simp;done)))
  refine bq rfl (qP x.aT (k+((aC (rows.take i):Nat):Int)+1) (1+l) j r _ _ _ (by rw[fV];exact hS) (jv hp (by rw[hC];rfl)) (by omega)) ?_
  simp -implicitDefEqProofs (disch:=omega) only[go_sem,hb,hS,hp,hC,hG,bE,hl,dI,iQ]
  (repeat(with_reducible refine And.intro ?_ ?_;focus first|omega|rfl|assumption|exact⟨_,rfl,rfl⟩|(simp;omega)|(simp;done)))
  refine ay (dw (k+((aC (rows.take i):Nat):Int)+1+((aC (x.aT.map aj.enc):Nat):Int)+1) (by omega)) ?_
  simp -implicitDefEqProofs (disch:=omega) only[go_sem,hb,hS,hp,hC,hG,bE,hl,dI]
  (repeat(with_reducible refine And.intro ?_ ?_;focus first|omega|rfl|assumption|exact⟨_,rfl,rfl⟩|(simp;omega)|(simp;done)))
  refine bq rfl (qP x.aW.fArgs (k+((aC (rows.take i):Nat):Int)+1+((aC (x.aT.map aj.enc):Nat):Int)+1+1) (1+l) j r _ _ _ (by rw[fV];exact hS) (jv hp (by rw[hC];rfl)) (by omega)) ?_
  simp -implicitDefEqProofs (disch:=omega) only[go_sem,hb,hS,hp,hC,hG,bE,hl,dI,iQ]
  (repeat(with_reducible refine And.intro ?_ ?_;focus first|omega|rfl|assumption|exact⟨_,rfl,rfl⟩|(simp;omega)|(simp;done)))
  refine bq rfl (uX x.aN (k+((aC (rows.take i):Nat):Int)+1+((aC (x.aT.map aj.enc):Nat):Int)+1+1+((aC (x.aW.fArgs.map aj.enc):Nat):Int)+1) (1+l) j r _ _ _ (by rw[fV];exact hS) (jv hp (by rw[hC];rfl)) (by omega)) ?_
  simp -implicitDefEqProofs (disch:=omega) only[go_sem,hb,hS,hp,hC,hG,bE,hl,dI,iQ]
  (repeat(with_reducible refine And.intro ?_ ?_;focus first|omega|rfl|assumption|exact⟨_,rfl,rfl⟩|(simp;omega)|(simp;done)))
  refine ay (dw (k+((aC (rows.take i):Nat):Int)+1+((aC (x.aT.map aj.enc):Nat):Int)+1+1+((aC (x.aW.fArgs.map aj.enc):Nat):Int)+1+((aC (x.aN.map encS):Nat):Int)+1) (by omega)) ?_
  simp -implicitDefEqProofs (disch:=omega) only[go_sem,hb,hS,hp,hC,hG,bE,hl,dI]
  (repeat(with_reducible refine And.intro ?_ ?_;focus first|omega|rfl|assumption|exact⟨_,rfl,rfl⟩|(simp;omega)|(simp;done)))
  refine ay (dw (k+((aC (rows.take i):Nat):Int)+1+((aC (x.aT.map aj.enc):Nat):Int)+1+1+((aC (x.aW.fArgs.map aj.enc):Nat):Int)+1+((aC (x.aN.map encS):Nat):Int)+1+1) (by omega)) ?_
  simp -implicitDefEqProofs (disch:=omega) only[go_sem,hb,hS,hp,hC,hG,bE,hl,dI]
  (repeat(with_reducible refine And.intro ?_ ?_;focus first|omega|rfl|assumption|exact⟨_,rfl,rfl⟩|(simp;omega)|(simp;done)))
  refine ay (dw (k+((aC (rows.take i):Nat):Int)+1+((aC (x.aT.map aj.enc):Nat):Int)+1+1+((aC (x.aW.fArgs.map aj.enc):Nat):Int)+1+((aC (x.aN.map encS):Nat):Int)+1+1+1+1+1) (by omega)) ?_
  simp -implicitDefEqProofs (disch:=omega) only[go_sem,hb,hS,hp,hC,hG,bE,hl,dI]
  (repeat(with_reducible refine And.intro ?_ ?_;focus first|omega|rfl|assumption|exact⟨_,rfl,rfl⟩|(simp;omega)|(simp;done)))
  refine bq rfl (qP x.fBody.fType.fArgs (k+((aC (rows.take i):Nat):Int)+1+((aC (x.aT.map aj.enc):Nat):Int)+1+1+((aC (x.aW.fArgs.map aj.enc):Nat):Int)+1+((aC (x.aN.map encS):Nat):Int)+1+1+1+1+1+1) (1+l) j r _ _ _ (by rw[fV];exact hS) (jv hp (by rw[hC];rfl)) (by omega)) ?_
  simp -implicitDefEqProofs (disch:=omega) only[go_sem,hb,hS,hp,hC,hG,bE,hl,dI,iQ]
  (repeat(with_reducible refine And.intro ?_ ?_;focus first|omega|rfl|assumption|exact⟨_,rfl,rfl⟩|(simp;omega)|(simp;done)))
  refine bq rfl (NR x.fBody.fArgs (k+((aC (rows.take i):Nat):Int)+1+((aC (x.aT.map aj.enc):Nat):Int)+1+1+((aC (x.aW.fArgs.map aj.enc):Nat):Int)+1+((aC (x.aN.map encS):Nat):Int)+1+1+1+1+1+1+((aC (x.fBody.fType.fArgs.map aj.enc):Nat):Int)) (1+l) j r _ _ _ (by rw[fV];exact hS) (jv hp (by rw[hC];rfl)) (by omega)) ?_
  simp -implicitDefEqProofs (disch:=omega) only[go_sem,hb,hS,hp,hC,hG,bE,hl,dI,iQ]
  (repeat(with_reducible refine And.intro ?_ ?_;focus first|omega|rfl|assumption|exact⟨_,rfl,rfl⟩|(simp;omega)|(simp;done)))
  refine bq rfl (PE x.fBody.aK (k+((aC (rows.take i):Nat):Int)+1+((aC (x.aT.map aj.enc):Nat):Int)+1+1+((aC (x.aW.fArgs.map aj.enc):Nat):Int)+1+((aC (x.aN.map encS):Nat):Int)+1+1+1+1+1+1+((aC (x.fBody.fType.fArgs.map aj.enc):Nat):Int)+((aC (x.fBody.fArgs.map au.enc):Nat):Int)) (1+l) j r _ _ _ (by rw[fV];exact hS) (jv hp (by rw[hC];rfl)) (by omega)) ?_
  simp -implicitDefEqProofs (disch:=omega) only[go_sem,hb,hS,hp,hC,hG,bE,hl,dI,iQ]
  (repeat(with_reducible refine And.intro ?_ ?_;focus first|omega|rfl|assumption|exact⟨_,rfl,rfl⟩|(simp;omega)|(simp;done)))
  refine bI (i+1) (by omega) (by rw[hK];rfl) rfl (by omega)
 ·simp -implicitDefEqProofs (disch:=omega) only[go_sem,hb]
  have hi:i=xs.length:=by omega
  rw[List.take_of_length_le (by omega)]
  all_goals (first|rfl|exact⟨rfl,rfl⟩)
end Go.Proofs.YtlmhknhlmicmeaaGreatDoor
namespace Go.Proofs.YtlmhknhlmicmeaaGreatDoor
open Go Go.Ab
theorem NT(x:aZ)(k:Int)(l j b:Nat)(S:Store)(rs:List (List (List D)))(hS:aU S (l,j)=some (.xf rs))(h1:atR rs (b+1) []=some (x.aR.map encS))(h4:atR rs (b+4) []=some (x.aB.map aG.enc))(hk:0≤k∧k+((aC (x.aR.map encS):Nat):Int)+((aC (x.aB.map aG.enc):Nat):Int)≤4611686018427387904):bD Tryz.prog 40 [.agg [.d (.s x.fName),.xp (l,j) (b+1) [],.d (.b x.iO),.d (.b x.eO),.xp (l,j) (b+4) []],.c (.d (.i .i64 k))] S (fun res S'=>res=.c (.d (.i .i64 (k+((aC (x.aR.map encS):Nat):Int)+((aC (x.aB.map aG.enc):Nat):Int))))∧S'=aY S (l,j) (.xf (dN (dN (rs) (b+1) [] (cZ (x.aR.map encS) (k))) (b+4) [] (cZ (x.aB.map aG.enc) (k+((aC (x.aR.map encS):Nat):Int)))))):=by
 have ht:∀x:Ab.Obj,aU (aY S (l,j) x) (l,j)=some x:=fun x=>bZ _ _ _ _ hS
 refine aF (rs:=[.tmp 4]) Tryz.checked.mixed Tryz.func40 Tryz.ntmps40 rfl rfl rfl rfl rfl ?_
 simp -implicitDefEqProofs (disch:=omega) only[go_sem]
 refine bq rfl (uW x.aR (k) (1+l) j (b+1) [] _ _ (by rw[fV];first|exact hS|exact ht _) (by first|assumption|(simp(disch:=omega) only[ne_eq,Cn];assumption)) (by omega)) ?_
 simp -implicitDefEqProofs (disch:=omega) only[go_sem,bK,xV]
 refine bq rfl (D7 x.aB (k+((aC (x.aR.map encS):Nat):Int)) (1+l) j (b+4) [] _ _ (by rw[fV];first|exact hS|exact ht _) (by first|assumption|(simp(disch:=omega) only[ne_eq,Cn];assumption)) (by omega)) ?_
 simp -implicitDefEqProofs (disch:=omega) only[go_sem,bK,xV]
 try exact⟨rfl,rfl⟩
theorem Dl(x:aZ)(k:Int)(l j b:Nat)(S:Store)(rs:List (List (List D)))(hS:aU S (l,j)=some (.xf rs))(h1:atR rs (b+1) []=some (cZ (x.aR.map encS) (k)))(h4:atR rs (b+4) []=some (cZ (x.aB.map aG.enc) (k+((aC (x.aR.map encS):Nat):Int))))(hk:0≤k∧k+((aC (x.aR.map encS):Nat):Int)+((aC (x.aB.map aG.enc):Nat):Int)≤4611686018427387904):bD Tryz.prog 41 [.agg [.d (.s x.fName),.xp (l,j) (b+1) [],.d (.b x.iO),.d (.b x.eO),.xp (l,j) (b+4) []],.c (.d (.i .i64 k))] S (fun res S'=>res=.c (.d (.i .i64 (k+((aC (x.aR.map encS):Nat):Int)+((aC (x.aB.map aG.enc):Nat):Int))))∧S'=S):=by
 refine aF (rs:=[.tmp 4]) Tryz.checked.mixed Tryz.func41 Tryz.ntmps41 rfl rfl rfl rfl rfl ?_
 simp -implicitDefEqProofs (disch:=omega) only[go_sem]
 refine bq rfl (uX x.aR (k) (1+l) j (b+1) [] _ _ (by rw[fV];first|exact hS|exact ht _) (by first|assumption|(simp(disch:=omega) only[ne_eq,Cn];assumption)) (by omega)) ?_
 simp -implicitDefEqProofs (disch:=omega) only[go_sem,iQ]
 refine bq rfl (D8 x.aB (k+((aC (x.aR.map encS):Nat):Int)) (1+l) j (b+4) [] _ _ (by rw[fV];first|exact hS|exact ht _) (by first|assumption|(simp(disch:=omega) only[ne_eq,Cn];assumption)) (by omega)) ?_
 simp -implicitDefEqProofs (disch:=omega) only[go_sem,iQ]
 try exact⟨rfl,rfl⟩
end Go.Proofs.YtlmhknhlmicmeaaGreatDoor
namespace Go.Proofs.YtlmhknhlmicmeaaGreatDoor.fnExactSExprToTrait
open Go Go.Ab
set_option maxHeartbeats 4000000 in
theorem law(x0:ah)(f0:q9 x0.enc):bD Tryz.prog 8 [x0.v] [] (fun r _=>r=.c (.d (.b true))):=by
 have hmx:=Gn x0.enc x0.eY.2
 rw[ah.bG,ah.dO] at hmx
 simp only[ah.aH,List.cons_append,List.nil_append,lU,lT] at hmx
 refine aF (rs:=[.tmp 2]) Tryz.checked.mixed Tryz.func8 Tryz.ntmps8 rfl rfl rfl rfl rfl ?_
 simp -implicitDefEqProofs (disch:=omega) only[go_sem]
 refine ay (R9 x0 _ (by omega) (by omega) f0) ?_
 simp -implicitDefEqProofs (disch:=omega) only[go_sem]<;>(repeat(with_reducible refine And.intro ?_ ?_;focus first|omega|rfl|assumption|exact⟨_,rfl,rfl⟩|(simp;omega)|(simp;done)))
 with_reducible refine aA (fun hb=> ?_) (fun hb=> ?_)<;>have h:=hb<;>(try simp only[wf_preprocess] at h)<;>simp -implicitDefEqProofs (disch:=omega) only[go_sem,hb]<;>(repeat(with_reducible refine And.intro ?_ ?_;focus first|omega|rfl|assumption|exact⟨_,rfl,rfl⟩|(simp;omega)|(simp;done)))
 have h0:=uJ h
 have c1:=NP x0 (by omega)
 have c2:=fun n=>Jf x0 n (by omega)
 have hd:(yD x0).sz≤1048576:=aav (by omega)
 obtain⟨X,hX⟩:∃X,X=yD x0:=⟨_,rfl⟩
 obtain⟨B,hB⟩:∃B,B=r9 x0:=⟨_,rfl⟩
 rw[←hX] at hd
 simp only[←hX,←hB] at c1 c2
 have hmd:=Gn X.enc X.eY.2
 rw[aZ.bG,aZ.dO] at hmd
 simp only[aZ.aH,List.cons_append,List.nil_append,lU,lT] at hmd
 have c3:aI Tryz.prog 38 [x0.v] (.d9 [(true,X.enc.map .d),(false,[.d (.b B)])]):=
  aI.less (c2 0) (Vq fun w σ S β vs h=>UQ h)
 simp only[aZ.aH,List.cons_append,List.nil_append,List.map_cons,List.map_nil] at c1 c3
 refine ay (AO x0 (by omega)) ?_
 simp -implicitDefEqProofs (disch:=omega) only[go_sem]<;>(repeat(with_reducible refine And.intro ?_ ?_;focus first|omega|rfl|assumption|exact⟨_,rfl,rfl⟩|(simp;omega)|(simp;done)))
 refine ay c1 ?_
 simp -implicitDefEqProofs (disch:=omega) only[go_sem]
 refine bq rfl (bD.own (mk:=V.agg) (r:=x0.enc) RZ x0.eY.1 (fun n=>Pz x0 n (by omega))) ?_
 simp -implicitDefEqProofs (disch:=omega) only[go_sem,ah.aH,List.cons_append,List.nil_append,zk,KX,rM]
 refine bq rfl (bD.aeM (k:=(0,2)) rfl (mk:=fun cs=>.d9 ((true,cs)::[C.d (.b B)].map fun x=>(false,[x]))) (r:=X.enc) (R3 [C.d (.b B)] rfl) X.eY.1 (fun n=>c2 n)) ?_
 simp -implicitDefEqProofs (disch:=omega) only[go_sem,aZ.aH,List.cons_append,List.nil_append,List.map_cons,List.map_nil,zk,KX,rM]
 refine bq rfl (bD.lend (k:=(0,4)) rfl (Ay rfl) (AP X X (by omega))) ?_
 simp -implicitDefEqProofs (disch:=omega) only[go_sem,bC rfl,Bool.not_true]
 refine ay (AO x0 (by omega)) ?_
 simp -implicitDefEqProofs (disch:=omega) only[go_sem]<;>(repeat(with_reducible refine And.intro ?_ ?_;focus first|omega|rfl|assumption|exact⟨_,rfl,rfl⟩|(simp;omega)|(simp;done)))
 refine T9 rfl (DS.refl _) (bD.lend (k:=(0,2)) rfl (Ay rfl) (Sb x0 x0 (by omega))) ?_
 simp -implicitDefEqProofs (disch:=omega) only[go_sem,bC rfl,Bool.not_true]
 refine bq rfl (NS x0 1 0 2 0 _ _ rfl rfl ⟨by omega,by omega⟩) ?_
 simp -implicitDefEqProofs (disch:=omega) only[go_sem,iQ]
 refine bq rfl (bD.lend (k:=(0,4)) rfl (Ay rfl) (AP X X (by omega))) ?_
 simp -implicitDefEqProofs (disch:=omega) only[go_sem,bC rfl,Bool.not_true]
 refine bq rfl (NT X 1 0 4 0 _ _ rfl rfl rfl ⟨by omega,by omega⟩) ?_
 simp -implicitDefEqProofs (disch:=omega) only[go_sem]
 refine bq rfl (Dl X 1 0 4 0 _ _ rfl rfl rfl ⟨by omega,by omega⟩) ?_
 simp -implicitDefEqProofs (disch:=omega) only[go_sem,iQ,Bool.not_true]
 refine ay (AO x0 (by omega)) ?_
 simp -implicitDefEqProofs (disch:=omega) only[go_sem]<;>(repeat(with_reducible refine And.intro ?_ ?_;focus first|omega|rfl|assumption|exact⟨_,rfl,rfl⟩|(simp;omega)|(simp;done)))
 refine ay c3 ?_
 simp -implicitDefEqProofs (disch:=omega) only[go_sem]
 refine ay (AP X X (by omega)) ?_
 simp -implicitDefEqProofs (disch:=omega) only[go_sem,bC rfl,Bool.not_true]
 refine bq rfl (Dl X 1 0 4 0 _ _ rfl rfl rfl ⟨by omega,by omega⟩) ?_
 simp -implicitDefEqProofs (disch:=omega) only[go_sem,iQ,Bool.not_true]
end Go.Proofs.YtlmhknhlmicmeaaGreatDoor.fnExactSExprToTrait
namespace Go.Ab
open Go
theorem KM{H:Type}{enc:TypeId×Value→H}{P:Program}{w:World}{base:Nat}{sp:Nat→Bool}{held:Bool}{fuel n:Nat}{t e:TypeId}{k:IntKind}{cs:List Value}{ns:List Int}{p:List MemPlace}
 (ht:P.underlying t=some (.array n e)) (he:P.underlying e=some (.int k)) (ce:P.cellsOf e=1) (ct:P.cellsOf t=n)
 (h:DataW.trod enc P w base sp held fuel t cs=some (.agg (ns.map fun z=>.lit (.int k z)),p)):cs=ns.map (Value.int k ·):=by
 obtain⟨xs,m,_,ex,hlen,hl,hel⟩:=DataW.trod_array ht h
 rw[ct] at hlen
 have e3:=DataW.agg.inj (Prod.mk.inj ex).1
 have hns:ns.length=n:=by have:=congrArg List.length e3;simpa [hl] using this
 refine List.ext_getElem (by rw[hlen,List.length_map,hns]) fun i h1 h2=> ?_
 have k0:=hel i (by omega)
 rw[ce,Nat.mul_one] at k0
 have hd:(cs.drop i).take 1=[cs[i]]:=by
  rw[List.drop_eq_getElem_cons h1];rfl
 rw[hd,List.getElem?_eq_getElem (by omega)] at k0
 obtain⟨z,a,b,_⟩:=DataW.trod_int he k0
 have e4:(ns.map fun z=>(DataW.lit (Lit.int k z):DataW H))[i]'(by rw[List.length_map];omega)=(xs.map (·.1))[i]'(by rw[List.length_map];omega):=by simp only[e3]
 rw[List.getElem_map,List.getElem_map,b] at e4
 simp only[DataW.lit.injEq,Lit.int.injEq,true_and] at e4
 rw[List.getElem_map,e4]
 simpa using a
theorem Dm{P:Program}{w:World}{n:String}{g:Nat}{cs:Array Value}(hg:P.globalNamed n=some g)(h:w.var? P n=some cs):∃t fz,w.heap[g]? =some (.cells cs t fz):=by
 unfold World.var? at h
 rw[hg] at h
 simp only[Option.bind_some] at h
 split at h
 ·rename_i c t fz hh
  cases h
  exact⟨t,fz,hh⟩
 ·cases h
end Go.Ab
namespace Go.Proofs.YtlmhknhlmicmeaaGreatDoor
open Go Go.Ab Go.ChangeShapes Go.RowKit
theorem gES:Tryz.prog.globalNamed "strconv.ErrSyntax" =some 0:=by kernel_rfl
theorem aax:(Tryz.prog.globals[0]?).map (·.type)=some 286:=by kernel_rfl
theorem gER:Tryz.prog.globalNamed "strconv.ErrRange" =some 1:=by kernel_rfl
theorem aay:(Tryz.prog.globals[1]?).map (·.type)=some 286:=by kernel_rfl
theorem cellsE:Tryz.prog.cellsOf 384=1:=by kernel_rfl
theorem cellsS:Tryz.prog.cellsOf 9=1:=by kernel_rfl
theorem Y3: "*" ++ "errors.errorString" = "*errors.errorString" :=by decide
theorem abS(u:TypeId)(h:Tryz.prog.typeName? 3 u=some "*errors.errorString"):u=382:=
 typeName_ptr_named (nm:= "errors.errorString") (by rw[Y3];kernel_rfl) (by kernel_rfl) (by decide) u (by rw[Y3];exact h)
theorem NU{W:World}{r:List (String×DataW Unit)}(hr:(r.all fun x=>x.2.handleName?.isNone)=true)
 (h0:laidMetH Tryz.prog (("math/bits.deBruijn32tab",Rows.laid_math_bits_deBruijn32tab)::("math/bits.deBruijn64tab",Rows.laid_math_bits_deBruijn64tab)::("internal/strconv.uint64pow10",Rows.laid_internal_strconv_uint64pow10)::("strconv.ErrRange",Rows.laid_strconv_ErrRange)::("strconv.ErrSyntax",Rows.laid_strconv_ErrSyntax)::r) W):y7 W (iM W):=by
 rw[MakeChecks.laidMetH_plain _ _ _ (by
  rw[List.all_cons,List.all_cons,List.all_cons,List.all_cons,List.all_cons,hr];kernel_rfl)] at h0
 have hR:=h0.tail.tail.tail
 have hS:=hR.tail
 obtain⟨a1,s1,hv1,_,_,_⟩:=laid_sentinel hR gER aay Tryz.underlying286 abS Tryz.underlying382 Tryz.underlying384 rfl rfl Tryz.underlying9 cellsE cellsS
 obtain⟨a2,s2,hv2,_,_,_⟩:=laid_sentinel hS gES aax Tryz.underlying286 abS Tryz.underlying382 Tryz.underlying384 rfl rfl Tryz.underlying9 cellsE cellsS
 obtain⟨t1,Ec,Bt⟩:=Dm gER hv1
 obtain⟨t2,fz2,wJ⟩:=Dm gES hv2
 obtain⟨ps,⟨_,_,_,_,_,_,_,_,_,_,⟨_,_,_,_,_,_,_,_,_,_,⟨g,t,cs,fuel,p,q,hg,ht,hv,hd,_,_⟩,_⟩,_⟩,_,_⟩:=h0
 have hn:Tryz.prog.globalNamed "internal/strconv.uint64pow10" =some 2:=by kernel_rfl
 obtain rfl:=Option.some.inj (hn.symm.trans hg)
 obtain rfl:=Option.some.inj ((show(Tryz.prog.globals[2]?).map (·.type)=some 376 by kernel_rfl).symm.trans ht)
 have hl:(Rows.laid_internal_strconv_uint64pow10:DataW Unit)=.agg (((List.range 20).map fun i=>((10^i:Nat):Int)).map fun z=>.lit (.int .u64 z)):=by kernel_rfl
 rw[hl] at hd
 have e:=KM Tryz.underlying376 Tryz.underlying359 (by kernel_rfl) (by kernel_rfl) hd
 obtain⟨t',fz,hh⟩:=Dm hg hv
 intro g' p' hm
 have fast:∀{b:Nat} {c:Array Value} {t:TypeId} {fz:Nat×Nat},W.heap[b]? =some (.cells c t fz)→c.size≤iM W b:=fun {b c t fz} hb=>by
  unfold iM;rw[hb];exact Nat.le_refl _
 rcases List.mem_cons.1 hm with hm|hm
 ·cases hm
  refine⟨cs,t',fz,hh,?_,fast hh⟩
  show cs.toList=_
  rw[e,List.map_map];rfl
 rcases List.mem_cons.1 hm with hm|hm
 ·cases hm
  exact⟨_,t1,Ec,Bt,⟨_,_,rfl⟩,fast Bt⟩
 ·have hm':=List.eq_of_mem_singleton hm
  cases hm'
  exact⟨_,t2,fz2,wJ,⟨_,_,rfl⟩,fast wJ⟩
end Go.Proofs.YtlmhknhlmicmeaaGreatDoor
namespace Go.Ab
theorem NW{P:Program}{n:Nat}{t:TypeId}{ds:List D}(h:WT P n t ds):∃m,n=m+1:=by
 cases n with
 |zero=>exact h.elim
 |succ m=>exact⟨m,rfl⟩
theorem VY{P:Program}{n:Nat}{t:TypeId}{ds:List D}(ht:P.underlying t=some .string)(h:WT P n t ds):∃l,ds=[.s l]:=by
 obtain⟨m,rfl⟩:=NW h
 simp only[WT,ht] at h;exact⟨h.choose,h.choose_spec.1⟩
theorem YC{P:Program}{n:Nat}{t e:TypeId}{ds:List D}(ht:P.underlying t=some (.slice e))(h:WT P n t ds):∃es m,m<n∧ds=[.sl es]∧∀x∈es,WT P m e x:=by
 obtain⟨m,rfl⟩:=NW h
 simp only[WT,ht] at h
 obtain⟨es,h1,_,h2⟩:=h
 exact⟨es,m,by omega,h1,fun x hx=>(h2 x hx).2⟩
theorem VZ{P:Program}{n:Nat}{t:TypeId}{fs:Array Field}{ds:List D}(ht:P.underlying t=some (.struct fs))(h:WT P n t ds):∃m,m<n∧P6 P (WT P m) fs.toList ds:=by
 obtain⟨m,rfl⟩:=NW h
 simp only[WT,ht] at h
 exact⟨m,by omega,h⟩
theorem NY{α:Type}{enc:α→List D}:∀{es:List (List D)},(∀x∈es,∃m,x=enc m)→∃ms:List α,es=ms.map enc
 |[],_=>⟨[],rfl⟩
 |e::es,h=>by
  obtain⟨m,hm⟩:=h e (by simp)
  obtain⟨ms,hms⟩:=NY (es:=es) fun x hx=>h x (by simp[hx])
  exact⟨m::ms,by rw[List.map_cons,←hm,←hms]⟩
theorem Qo{P:Program}{W:TypeId→List D→Prop}(hW:∀t ds,W t ds→q9 ds):∀(fs:List Field) (ds:List D),P6 P W fs ds→q9 ds
 |[],ds,h=>by
  have h:ds=[]:=h
  rw[h];exact uI
 |f::fs,ds,h=>by
  obtain⟨a,b,rfl,_,h1,h2⟩:=h
  exact Ef.2 ⟨hW _ _ h1,Qo hW fs b h2⟩
theorem NZ{P:Program}:∀(n:Nat) (t:TypeId) (ds:List D),WT P n t ds→q9 ds
 |0,t,ds,h=>h.elim
 |n+1,t,ds,h=>by
  simp only[WT] at h
  split at h
  ·obtain⟨b,rfl⟩:=h;exact vL.2 ⟨.b _,uI⟩
  ·obtain⟨b,rfl,_⟩:=h;exact vL.2 ⟨.i _ _,uI⟩
  ·obtain⟨l,rfl,hl⟩:=h;exact vL.2 ⟨.s _ hl,uI⟩
  ·obtain⟨es,rfl,hl,hh⟩:=h
   exact vL.2 ⟨.sl _ hl fun e he d hd=>NZ n _ e (hh e he).2 d hd,uI⟩
  ·exact Qo (NZ n) _ _ h
  ·exact h.elim
end Go.Ab
namespace Go.Proofs.YtlmhknhlmicmeaaGreatDoor
open Go Go.Ab
theorem YD:∀(n:Nat) (ds:List D),WT Tryz.prog n 68 ds→∃x:ah,ds=x.enc:=by
 intro n
 induction n using Nat.strongRecOn with
 |_ n ih=>
  intro ds h
  obtain⟨m,hm,h⟩:=VZ Tryz.underlying68 h
  simp only[P6] at h
  obtain⟨a0,r0,rfl,l0,h0,a1,r1,rfl,l1,h1,rfl⟩:=h
  obtain⟨x0,rfl⟩:=VY Tryz.underlying9 h0
  obtain⟨es1,m1,hm1,rfl,hs1⟩:=YC Tryz.underlying66 h1
  obtain⟨x1,rfl⟩:=NY (enc:=ah.enc) fun y hy=>ih m1 (by omega) y (hs1 y hy)
  refine⟨ah.mk x0 x1,?_⟩
  rw[ah.aH]
  simp[ah.aV,ah.ak]
end Go.Proofs.YtlmhknhlmicmeaaGreatDoor
