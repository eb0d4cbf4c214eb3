/-
  SEVERAL TEXTS IN ONE (merged by program): contracts and models, each with its own heading.
-/
import Derived.Test.YtocpgjlbagncjaaGreatDoorPartRvbF
import Derived.Test.YtocpgjlbagncjaaGreatDoorRows
import Derived.OpenShut
import Derived.LaidMore
import Derived.Stop.LaidErr
set_option linter.unusedSimpArgs false
set_option linter.unusedVariables false
set_option maxRecDepth 8000
set_option maxRecDepth 4000
namespace Go.Proofs.YtocpgjlbagncjaaGreatDoor
open Go Go.Ab
theorem Im:∀N:Nat,(∀x:aj,SizeOf.sizeOf x<N→∀n:Nat,x.sz≤1048576→aI Tryz.prog 9 [x.v] (.agg ((eX x.enc n).map .d)))∧
 (∀xs:List aj,SizeOf.sizeOf xs<N→∀n:Nat,xs.length+bD (xs.map aj.enc)≤1048576→aI Tryz.prog 34 [.c (.d (.sl (xs.map aj.enc)))] (.c (.d (lI (.sl (xs.map aj.enc)) n))))
 |0=>⟨fun x h=>by omega,fun x h=>by omega⟩
 |N+1=>by
  obtain⟨sW,xG⟩:=Im N
  refine⟨fun x hn n hsz=> ?_,fun xs hn n hsz=> ?_⟩
  ·intro S
   have Lu:=aj.oO x
   simp only[aj.sz,aj.aD,cu,bN,D.sz,List.length_map] at hsz
   refine aG (rs:=[.cell 2 37]) Tryz.checked.mixed Tryz.func9 Tryz.ntmps9 rfl rfl rfl rfl rfl ?_
   simp only[aj.aD,encS,encI,List.cons_append,List.nil_append,eX,lI,sU,ow,List.map_cons,List.map_nil,Nat.add_zero]
   refine W1 ?_
   refine aZ (xG x.ah (by omega) (n) (by omega)) ?_
   simp -implicitDefEqProofs (disch:=omega) only[go_sem,lI]
   all_goals (first|rfl|(simp only[Nat.add_assoc];done))
  ·obtain⟨T,hT⟩:∃T,T=eB (xs.map aj.enc) (n+1):=⟨_,rfl⟩
   have ig:T.length=xs.length:=by rw[hT,jN,List.length_map]
   show aI Tryz.prog 34 [.c (.d (.sl (xs.map aj.enc)))] (.c (.d (.ol n (eB (xs.map aj.enc) (n+1)))))
   rw[←hT]
   intro S
   refine kC (n) (rs:=[.tmp 2]) Tryz.checked.mixed Tryz.func34 Tryz.ntmps34 rfl rfl rfl rfl rfl ?_
   refine W1 ?_
   refine W3 ?_
   refine aT (ι:=Nat×List (List D)) Tryz.checked.mixed rfl [0,3,4] (fun y=>[.c (.d (.sl (xs.map aj.enc))),.c (.og (0,1)),.c (.d (.i .i64 y.1))]) (fun y=>[.seed n,.iH 2 y.2]::S)
    (fun y=>y.1≤xs.length∧vJ 2 y.1 y.2 T) (fun y=>xs.length-y.1) (0,_) rfl rfl ⟨Nat.zero_le _,vJ.start (by simp[ig]) rfl⟩ ?_
   rintro⟨i,R⟩ ⟨p1,p2⟩
   simp only at p1 p2
   refine W1 ?_
   refine S0 (fun hb h=>?_) fun hb h=>?_
   ·have hi:i<xs.length:=by omega
    have hir:i<(xs.map aj.enc).length:=by rw[List.length_map];exact hi
    have hR:=p2.1
    rw[ig] at hR
    have hTi:T[i]? =some (eX (aj.enc xs[i]) (n+1+iW ((xs.map aj.enc).take i))):=by
     rw[hT,Sl hir,List.getElem_map]
    have hx:xs[i].sz≤bD (xs.map aj.enc):=dA (List.mem_map_of_mem (List.getElem_mem hi))
    refine W3 ?_
    refine aZ (sW xs[i] (by have:=List.sizeOf_lt_of_mem (List.getElem_mem hi);omega) (n+1+iW ((xs.map aj.enc).take i)) (by omega)) ?_
    obtain⟨row,hrow⟩:∃row,row=eX (aj.enc xs[i]) (n+1+iW ((xs.map aj.enc).take i)):=⟨_,rfl⟩
    have hrl:row.length=2:=by rw[hrow,jg,aj.dn]
    rw[←hrow] at hTi ⊢
    simp -implicitDefEqProofs (disch:=omega) only[go_sem,hrl,Sm]
    refine W3 ?_
    refine bP (i+1,_) (by simp only;omega) rfl rfl ⟨by simp only;omega,p2.step hTi hrl⟩
   ·have hi:i=xs.length:=by omega
    rw[p2.done (by omega)]
theorem VJ(x:aj):∀n:Nat,x.sz≤1048576→aI Tryz.prog 9 [x.v] (.agg ((eX x.enc n).map .d)):=(Im _).1 x (Nat.lt_succ_self _)
end Go.Proofs.YtocpgjlbagncjaaGreatDoor
namespace Go.Proofs.YtocpgjlbagncjaaGreatDoor
open Go Go.Ab
theorem mZ(xs:List (List UInt8)):∀(k:Int) (l j r:Nat) (p:List (Nat×Nat)) (S:Store) (rs:List (List (List D))),bI S (l,j)=some (.xf rs)→atR rs r p=some (xs.map encS)→0≤k∧k+ak (xs.map encS)≤4611686018427387904→cB Tryz.prog 46 [.c (.xp (l,j) r p),.c (.d (.i .i64 k))] S (fun res S'=>res=.c (.d (.i .i64 (k+ak (xs.map encS))))∧S'=bQ S (l,j) (.xf (dG rs r p (bV (xs.map encS) k)))):=by
 intro k l j r p S rs hS hp hk
 have hlen:=jB (f:=encS) (fun x=>by simp only[encS,List.cons_append,List.nil_append,iQ,iP];omega) xs
 obtain⟨rows,hr⟩:∃rows,rows=xs.map encS:=⟨_,rfl⟩
 have hl:rows.length=xs.length:=by rw[hr,List.length_map]
 rw[←hr] at hp hk hlen ⊢
 have ht:∀x:Ab.Obj,bI (bQ S (l,j) x) (l,j)=some x:=fun x=>dK _ _ _ _ hS
 have hA:∀new,atR (dG rs r p new) r p=some new:=fun new=>lJ hp
 have hU:∀a b,dG (dG rs r p a) r p b=dG rs r p b:=fun a b=>kT hp
 refine aG (rs:=[.tmp 4]) Tryz.checked.mixed Tryz.func46 Tryz.ntmps46 rfl rfl rfl rfl rfl ?_
 refine W1 ?_
 refine aT (ι:=Nat) Tryz.checked.mixed rfl [0,1,5] (fun i=>[.c (.xp (1+l,j) r p),.c (.d (.i .i64 (k+ak (rows.take i)))),.c (.d (.i .i64 i))])
  (fun i=>[]::bQ S (l,j) (.xf (dG rs r p (nL rows k i)))) (fun i=>i≤xs.length) (fun i=>xs.length-i) 0 ?_ ?_ (Nat.zero_le _) ?_
 ·have z0:k+((ak (rows.take 0):Nat):Int)=k:=by simp[ak]
  rw[z0]
  rfl
 ·rw[lU,lT hp,jG _ _ hS]
 intro i hi
 simp -implicitDefEqProofs (disch:=omega) only[go_sem,ht,hA,iC,hl]
 with_reducible refine dU (fun hb=> ?_) (fun hb=> ?_)<;>have h:=hb<;>try simp only[wf_preprocess] at h
 ·have hi:i<xs.length:=by omega
  have hir:i<rows.length:=by omega
  obtain⟨x,hx⟩:∃x,x=xs[i]:=⟨_,rfl⟩
  have e1:rows[i]=[.s x]:=by
   simp only[hr,List.getElem_map,←hx]
   simp only[encS,List.cons_append,List.nil_append]
  have hm:=gI hir
  have hle:=iU (rows:=rows) (i:=i+1)
  rw[hm,e1] at hle
  rw[e1] at hm
  simp only[iQ,iP] at hle hm
  have hK:k+((ak (rows.take (i+1)):Nat):Int)=k+((ak (rows.take i):Nat):Int)+1:=by rw[hm];omega
  have e2:=qd (k:=k) hir
  rw[e1] at e2
  have hC:∀row o,cellAt (jk rows k i row) i o=row[o]? :=fun row o=>kD hir
  have hG:∀row,(jk rows k i row).getD i []=row:=fun row=>mM hir
  simp -implicitDefEqProofs (disch:=omega) only[go_sem,hb,ht,hA,hU,e2,hC,hG,bW,bG,hl,bq,bU]
  refine W3 ?_
  refine aZ (bR (k+((ak (rows.take i):Nat):Int)) (by omega)) ?_
  simp -implicitDefEqProofs (disch:=omega) only[go_sem,hb,ht,hA,hU,e2,hC,hG,bW,bG,hl,bq,bU]
  refine W3 ?_
  refine bP (i+1) (by omega) (by rw[hK];rfl) ?_ (by omega)
  have h3:=qg (k:=k) hir
  rw[e1] at h3
  simp only[jv,sJ] at h3
  rw[←h3]
  all_goals rfl
 ·simp -implicitDefEqProofs (disch:=omega) only[go_sem,hb]
  have hi:i=xs.length:=by omega
  rw[nM (by omega),List.take_of_length_le (by omega)]
  all_goals (first|rfl|exact⟨rfl,rfl⟩)
theorem ng(xs:List (List UInt8)):∀(k:Int) (l j r:Nat) (p:List (Nat×Nat)) (S:Store) (rs:List (List (List D))),bI S (l,j)=some (.xf rs)→atR rs r p=some (bV (xs.map encS) k)→0≤k∧k+ak (xs.map encS)≤4611686018427387904→cB Tryz.prog 51 [.c (.xp (l,j) r p),.c (.d (.i .i64 k))] S (fun res S'=>res=.c (.d (.i .i64 (k+ak (xs.map encS))))∧S'=S):=by
 intro k l j r p S rs hS hp hk
 have hlen:=jB (f:=encS) (fun x=>by simp only[encS,List.cons_append,List.nil_append,iQ,iP];omega) xs
 obtain⟨rows,hr⟩:∃rows,rows=xs.map encS:=⟨_,rfl⟩
 have hl:rows.length=xs.length:=by rw[hr,List.length_map]
 rw[←hr] at hp hk hlen ⊢
 refine aG (rs:=[.tmp 4]) Tryz.checked.mixed Tryz.func51 Tryz.ntmps51 rfl rfl rfl rfl rfl ?_
 refine W1 ?_
 refine aT (ι:=Nat) Tryz.checked.mixed rfl [0,1,5] (fun i=>[.c (.xp (1+l,j) r p),.c (.d (.i .i64 (k+ak (rows.take i)))),.c (.d (.i .i64 i))])
  (fun i=>[]::S) (fun i=>i≤xs.length) (fun i=>xs.length-i) 0 ?_ rfl (Nat.zero_le _) ?_
 ·have z0:k+((ak (rows.take 0):Nat):Int)=k:=by simp[ak]
  rw[z0]
  rfl
 intro i hi
 simp -implicitDefEqProofs (disch:=omega) only[go_sem,hS,hp,aW,hl]
 with_reducible refine dU (fun hb=> ?_) (fun hb=> ?_)<;>have h:=hb<;>try simp only[wf_preprocess] at h
 ·have hi:i<xs.length:=by omega
  have hir:i<rows.length:=by omega
  obtain⟨x,hx⟩:∃x,x=xs[i]:=⟨_,rfl⟩
  have e1:rows[i]=[.s x]:=by
   simp only[hr,List.getElem_map,←hx]
   simp only[encS,List.cons_append,List.nil_append]
  have hm:=gI hir
  have hle:=iU (rows:=rows) (i:=i+1)
  rw[hm,e1] at hle
  rw[e1] at hm
  simp only[iQ,iP] at hle hm
  have hK:k+((ak (rows.take (i+1)):Nat):Int)=k+((ak (rows.take i):Nat):Int)+1:=by rw[hm];omega
  have e2:jv rows[i] (k+((ak (rows.take i):Nat):Int))=[.s (eU (k+((ak (rows.take i):Nat):Int)))]:=by
   rw[e1]
   simp only[jv,sJ]
   all_goals rfl
  have hC:∀o,cellAt (bV rows k) i o=([.s (eU (k+((ak (rows.take i):Nat):Int)))]:List D)[o]? :=fun o=>by
   have h1:(bV rows k)[i]? =some (jv rows[i] (k+((ak (rows.take i):Nat):Int))):=by
    have h2:=gV (k:=k) hir
    have h3:i<(bV rows k).length:=by rw[aW];exact hir
    rw[List.getD_eq_getElem?_getD,List.getElem?_eq_getElem h3,Option.getD_some] at h2
    rw[List.getElem?_eq_getElem h3,h2]
   unfold cellAt
   rw[h1,Option.bind_some,e2]
  have hG:=gV (k:=k) hir
  rw[e2] at hG
  simp -implicitDefEqProofs (disch:=omega) only[go_sem,hb,hS,hp,hC,hG,aW,hl,bU]
  refine W3 ?_
  refine aZ (bR (k+((ak (rows.take i):Nat):Int)) (by omega)) ?_
  simp -implicitDefEqProofs (disch:=omega) only[go_sem,hb,hS,hp,hC,hG,aW,hl,bU]
  refine W3 ?_
  refine bP (i+1) (by omega) (by rw[hK];rfl) rfl (by omega)
 ·simp -implicitDefEqProofs (disch:=omega) only[go_sem,hb]
  have hi:i=xs.length:=by omega
  rw[List.take_of_length_le (by omega)]
  all_goals (first|rfl|exact⟨rfl,rfl⟩)
end Go.Proofs.YtocpgjlbagncjaaGreatDoor
namespace Go.Proofs.YtocpgjlbagncjaaGreatDoor
open Go Go.Ab
end Go.Proofs.YtocpgjlbagncjaaGreatDoor
namespace Go.Proofs.YtocpgjlbagncjaaGreatDoor
open Go Go.Ab
theorem Io:∀n:Nat,(∀xs:List au,SizeOf.sizeOf xs<n→∀(k:Int) (l j r:Nat) (p:List (Nat×Nat)) (S:Store) (rs:List (List (List D))),bI S (l,j)=some (.xf rs)→atR rs r p=some (xs.map au.enc)→0≤k∧k+ak (xs.map au.enc)≤4611686018427387904→cB Tryz.prog 109 [.c (.xp (l,j) r p),.c (.d (.i .i64 k))] S (fun res S'=>res=.c (.d (.i .i64 (k+ak (xs.map au.enc))))∧S'=bQ S (l,j) (.xf (dG rs r p (bV (xs.map au.enc) k)))))
 |0=>fun xs h=>by omega
 |n+1=>by
  have GV:=Io n
  refine fun xs hn k l j r p S rs hS hp hk=> ?_
  ·have hlen:=jB (f:=au.enc) (fun x=>by simp only[au.aD,encS,encI,List.cons_append,List.nil_append,iQ,iP];omega) xs
   obtain⟨rows,hr⟩:∃rows,rows=xs.map au.enc:=⟨_,rfl⟩
   have hl:rows.length=xs.length:=by rw[hr,List.length_map]
   rw[←hr] at hp hk hlen ⊢
   have ht:∀x:Ab.Obj,bI (bQ S (l,j) x) (l,j)=some x:=fun x=>dK _ _ _ _ hS
   have hA:∀new,atR (dG rs r p new) r p=some new:=fun new=>lJ hp
   have hU:∀a b,dG (dG rs r p a) r p b=dG rs r p b:=fun a b=>kT hp
   refine aG (rs:=[.tmp 4]) Tryz.checked.mixed Tryz.func109 Tryz.ntmps109 rfl rfl rfl rfl rfl ?_
   refine W1 ?_
   refine aT (ι:=Nat) Tryz.checked.mixed rfl [0,1,5] (fun i=>[.c (.xp (1+l,j) r p),.c (.d (.i .i64 (k+ak (rows.take i)))),.c (.d (.i .i64 i))])
    (fun i=>[]::bQ S (l,j) (.xf (dG rs r p (nL rows k i)))) (fun i=>i≤xs.length) (fun i=>xs.length-i) 0 ?_ ?_ (Nat.zero_le _) ?_
   ·have z0:k+((ak (rows.take 0):Nat):Int)=k:=by simp[ak]
    rw[z0]
    rfl
   ·rw[lU,lT hp,jG _ _ hS]
   intro i hi
   simp -implicitDefEqProofs (disch:=omega) only[go_sem,ht,hA,iC,hl]
   with_reducible refine dU (fun hb=> ?_) (fun hb=> ?_)<;>have h:=hb<;>try simp only[wf_preprocess] at h
   ·have hi:i<xs.length:=by omega
    have hir:i<rows.length:=by omega
    obtain⟨x,hx⟩:∃x,x=xs[i]:=⟨_,rfl⟩
    have e1:rows[i]=[.i .i64 x.aK,.s x.fName,.sl (x.fArgs.map au.enc)]:=by
     simp only[hr,List.getElem_map,←hx]
     simp only[au.aD,encS,encI,List.cons_append,List.nil_append]
    have hm:=gI hir
    have hle:=iU (rows:=rows) (i:=i+1)
    rw[hm,e1] at hle
    rw[e1] at hm
    simp only[iQ,iP] at hle hm
    have hK:k+((ak (rows.take (i+1)):Nat):Int)=k+((ak (rows.take i):Nat):Int)+1+1+((ak (x.fArgs.map au.enc):Nat):Int):=by rw[hm];omega
    have e2:=qd (k:=k) hir
    rw[e1] at e2
    have hC:∀row o,cellAt (jk rows k i row) i o=row[o]? :=fun row o=>kD hir
    have hG:∀row,(jk rows k i row).getD i []=row:=fun row=>mM hir
    simp -implicitDefEqProofs (disch:=omega) only[go_sem,hb,ht,hA,hU,e2,hC,hG,bW,bG,hl,bq,bU]
    refine W3 ?_
    refine aZ (bR (k+((ak (rows.take i):Nat):Int)+1) (by omega)) ?_
    simp -implicitDefEqProofs (disch:=omega) only[go_sem,hb,ht,hA,hU,e2,hC,hG,bW,bG,hl,bq,bU]
    refine W3 ?_
    refine bJ rfl (gQ hS hp hir (by rfl) (fun S' rs' g1 g2=>GV x.fArgs (by have:=List.sizeOf_lt_of_mem (List.getElem_mem hi);rw[←hx] at this;have:=au.gM x;omega) (k+((ak (rows.take i):Nat):Int)+1+1) (1+l) j r _ S' rs' g1 g2 (by omega))) ?_
    simp -implicitDefEqProofs (disch:=omega) only[go_sem,hb,ht,hA,hU,e2,hC,hG,bW,bG,hl,bq,bU]
    refine W3 ?_
    refine bP (i+1) (by omega) (by rw[hK];rfl) ?_ (by omega)
    have h3:=qg (k:=k) hir
    rw[e1] at h3
    simp only[jv,sJ] at h3
    rw[←h3]
    all_goals rfl
   ·simp -implicitDefEqProofs (disch:=omega) only[go_sem,hb]
    have hi:i=xs.length:=by omega
    rw[nM (by omega),List.take_of_length_le (by omega)]
    all_goals (first|rfl|exact⟨rfl,rfl⟩)
theorem jP(xs:List au):∀(k:Int) (l j r:Nat) (p:List (Nat×Nat)) (S:Store) (rs:List (List (List D))),bI S (l,j)=some (.xf rs)→atR rs r p=some (xs.map au.enc)→0≤k∧k+ak (xs.map au.enc)≤4611686018427387904→cB Tryz.prog 109 [.c (.xp (l,j) r p),.c (.d (.i .i64 k))] S (fun res S'=>res=.c (.d (.i .i64 (k+ak (xs.map au.enc))))∧S'=bQ S (l,j) (.xf (dG rs r p (bV (xs.map au.enc) k)))):=(Io _) xs (Nat.lt_succ_self _)
theorem Ip:∀n:Nat,(∀xs:List au,SizeOf.sizeOf xs<n→∀(k:Int) (l j r:Nat) (p:List (Nat×Nat)) (S:Store) (rs:List (List (List D))),bI S (l,j)=some (.xf rs)→atR rs r p=some (bV (xs.map au.enc) k)→0≤k∧k+ak (xs.map au.enc)≤4611686018427387904→cB Tryz.prog 115 [.c (.xp (l,j) r p),.c (.d (.i .i64 k))] S (fun res S'=>res=.c (.d (.i .i64 (k+ak (xs.map au.enc))))∧S'=S))
 |0=>fun xs h=>by omega
 |n+1=>by
  have GV:=Ip n
  refine fun xs hn k l j r p S rs hS hp hk=> ?_
  ·have hlen:=jB (f:=au.enc) (fun x=>by simp only[au.aD,encS,encI,List.cons_append,List.nil_append,iQ,iP];omega) xs
   obtain⟨rows,hr⟩:∃rows,rows=xs.map au.enc:=⟨_,rfl⟩
   have hl:rows.length=xs.length:=by rw[hr,List.length_map]
   rw[←hr] at hp hk hlen ⊢
   refine aG (rs:=[.tmp 4]) Tryz.checked.mixed Tryz.func115 Tryz.ntmps115 rfl rfl rfl rfl rfl ?_
   refine W1 ?_
   refine aT (ι:=Nat) Tryz.checked.mixed rfl [0,1,5] (fun i=>[.c (.xp (1+l,j) r p),.c (.d (.i .i64 (k+ak (rows.take i)))),.c (.d (.i .i64 i))])
    (fun i=>[]::S) (fun i=>i≤xs.length) (fun i=>xs.length-i) 0 ?_ rfl (Nat.zero_le _) ?_
   ·have z0:k+((ak (rows.take 0):Nat):Int)=k:=by simp[ak]
    rw[z0]
    rfl
   intro i hi
   simp -implicitDefEqProofs (disch:=omega) only[go_sem,hS,hp,aW,hl]
   with_reducible refine dU (fun hb=> ?_) (fun hb=> ?_)<;>have h:=hb<;>try simp only[wf_preprocess] at h
   ·have hi:i<xs.length:=by omega
    have hir:i<rows.length:=by omega
    obtain⟨x,hx⟩:∃x,x=xs[i]:=⟨_,rfl⟩
    have e1:rows[i]=[.i .i64 x.aK,.s x.fName,.sl (x.fArgs.map au.enc)]:=by
     simp only[hr,List.getElem_map,←hx]
     simp only[au.aD,encS,encI,List.cons_append,List.nil_append]
    have hm:=gI hir
    have hle:=iU (rows:=rows) (i:=i+1)
    rw[hm,e1] at hle
    rw[e1] at hm
    simp only[iQ,iP] at hle hm
    have hK:k+((ak (rows.take (i+1)):Nat):Int)=k+((ak (rows.take i):Nat):Int)+1+1+((ak (x.fArgs.map au.enc):Nat):Int):=by rw[hm];omega
    have e2:jv rows[i] (k+((ak (rows.take i):Nat):Int))=[.i .i64 (k+((ak (rows.take i):Nat):Int)),.s (eU (k+((ak (rows.take i):Nat):Int)+1)),.sl (bV (x.fArgs.map au.enc) (k+((ak (rows.take i):Nat):Int)+1+1))]:=by
     rw[e1]
     simp only[jv,sJ]
     all_goals rfl
    have hC:∀o,cellAt (bV rows k) i o=([.i .i64 (k+((ak (rows.take i):Nat):Int)),.s (eU (k+((ak (rows.take i):Nat):Int)+1)),.sl (bV (x.fArgs.map au.enc) (k+((ak (rows.take i):Nat):Int)+1+1))]:List D)[o]? :=fun o=>by
     have h1:(bV rows k)[i]? =some (jv rows[i] (k+((ak (rows.take i):Nat):Int))):=by
      have h2:=gV (k:=k) hir
      have h3:i<(bV rows k).length:=by rw[aW];exact hir
      rw[List.getD_eq_getElem?_getD,List.getElem?_eq_getElem h3,Option.getD_some] at h2
      rw[List.getElem?_eq_getElem h3,h2]
     unfold cellAt
     rw[h1,Option.bind_some,e2]
    have hG:=gV (k:=k) hir
    rw[e2] at hG
    simp -implicitDefEqProofs (disch:=omega) only[go_sem,hb,hS,hp,hC,hG,aW,hl,bU]
    refine W3 ?_
    refine aZ (bR (k+((ak (rows.take i):Nat):Int)+1) (by omega)) ?_
    simp -implicitDefEqProofs (disch:=omega) only[go_sem,hb,hS,hp,hC,hG,aW,hl,bU]
    refine W3 ?_
    refine bJ rfl (GV x.fArgs (by have:=List.sizeOf_lt_of_mem (List.getElem_mem hi);rw[←hx] at this;have:=au.gM x;omega) (k+((ak (rows.take i):Nat):Int)+1+1) (1+l) j r _ _ _ (by rw[dR];exact hS) (fI hp (by rw[hC];rfl)) (by omega)) ?_
    simp -implicitDefEqProofs (disch:=omega) only[go_sem,hb,hS,hp,hC,hG,aW,hl,bU,fC]
    refine W3 ?_
    refine bP (i+1) (by omega) (by rw[hK];rfl) rfl (by omega)
   ·simp -implicitDefEqProofs (disch:=omega) only[go_sem,hb]
    have hi:i=xs.length:=by omega
    rw[List.take_of_length_le (by omega)]
    all_goals (first|rfl|exact⟨rfl,rfl⟩)
theorem jQ(xs:List au):∀(k:Int) (l j r:Nat) (p:List (Nat×Nat)) (S:Store) (rs:List (List (List D))),bI S (l,j)=some (.xf rs)→atR rs r p=some (bV (xs.map au.enc) k)→0≤k∧k+ak (xs.map au.enc)≤4611686018427387904→cB Tryz.prog 115 [.c (.xp (l,j) r p),.c (.d (.i .i64 k))] S (fun res S'=>res=.c (.d (.i .i64 (k+ak (xs.map au.enc))))∧S'=S):=(Ip _) xs (Nat.lt_succ_self _)
end Go.Proofs.YtocpgjlbagncjaaGreatDoor
namespace Go.Proofs.YtocpgjlbagncjaaGreatDoor
open Go Go.Ab
end Go.Proofs.YtocpgjlbagncjaaGreatDoor
namespace Go.Proofs.YtocpgjlbagncjaaGreatDoor
open Go Go.Ab
set_option maxHeartbeats 4000000 in
theorem Gj(xs:List aO):∀(k:Int) (l j r:Nat) (p:List (Nat×Nat)) (S:Store) (rs:List (List (List D))),bI S (l,j)=some (.xf rs)→atR rs r p=some (xs.map aO.enc)→0≤k∧k+ak (xs.map aO.enc)≤4611686018427387904→cB Tryz.prog 110 [.c (.xp (l,j) r p),.c (.d (.i .i64 k))] S (fun res S'=>res=.c (.d (.i .i64 (k+ak (xs.map aO.enc))))∧S'=bQ S (l,j) (.xf (dG rs r p (bV (xs.map aO.enc) k)))):=by
 intro k l j r p S rs hS hp hk
 have hlen:=jB (f:=aO.enc) (fun x=>by simp only[aO.aD,au.aD,encS,encI,List.cons_append,List.nil_append,iQ,iP];omega) xs
 obtain⟨rows,hr⟩:∃rows,rows=xs.map aO.enc:=⟨_,rfl⟩
 have hl:rows.length=xs.length:=by rw[hr,List.length_map]
 rw[←hr] at hp hk hlen ⊢
 have ht:∀x:Ab.Obj,bI (bQ S (l,j) x) (l,j)=some x:=fun x=>dK _ _ _ _ hS
 have hA:∀new,atR (dG rs r p new) r p=some new:=fun new=>lJ hp
 have hU:∀a b,dG (dG rs r p a) r p b=dG rs r p b:=fun a b=>kT hp
 refine aG (rs:=[.tmp 4]) Tryz.checked.mixed Tryz.func110 Tryz.ntmps110 rfl rfl rfl rfl rfl ?_
 refine W1 ?_
 refine aT (ι:=Nat) Tryz.checked.mixed rfl [0,1,5] (fun i=>[.c (.xp (1+l,j) r p),.c (.d (.i .i64 (k+ak (rows.take i)))),.c (.d (.i .i64 i))])
  (fun i=>[]::bQ S (l,j) (.xf (dG rs r p (nL rows k i)))) (fun i=>i≤xs.length) (fun i=>xs.length-i) 0 ?_ ?_ (Nat.zero_le _) ?_
 ·have z0:k+((ak (rows.take 0):Nat):Int)=k:=by simp[ak]
  rw[z0]
  rfl
 ·rw[lU,lT hp,jG _ _ hS]
 intro i hi
 simp -implicitDefEqProofs (disch:=omega) only[go_sem,ht,hA,iC,hl]
 with_reducible refine dU (fun hb=> ?_) (fun hb=> ?_)<;>have h:=hb<;>try simp only[wf_preprocess] at h
 ·have hi:i<xs.length:=by omega
  have hir:i<rows.length:=by omega
  obtain⟨x,hx⟩:∃x,x=xs[i]:=⟨_,rfl⟩
  have e1:rows[i]=[.s x.bL,.i .i64 x.fType.aK,.s x.fType.fName,.sl (x.fType.fArgs.map au.enc)]:=by
   simp only[hr,List.getElem_map,←hx]
   simp only[aO.aD,au.aD,encS,encI,List.cons_append,List.nil_append]
  have hm:=gI hir
  have hle:=iU (rows:=rows) (i:=i+1)
  rw[hm,e1] at hle
  rw[e1] at hm
  simp only[iQ,iP] at hle hm
  have hK:k+((ak (rows.take (i+1)):Nat):Int)=k+((ak (rows.take i):Nat):Int)+1+1+1+((ak (x.fType.fArgs.map au.enc):Nat):Int):=by rw[hm];omega
  have e2:=qd (k:=k) hir
  rw[e1] at e2
  have hC:∀row o,cellAt (jk rows k i row) i o=row[o]? :=fun row o=>kD hir
  have hG:∀row,(jk rows k i row).getD i []=row:=fun row=>mM hir
  simp -implicitDefEqProofs (disch:=omega) only[go_sem,hb,ht,hA,hU,e2,hC,hG,bW,bG,hl,bq,bU]
  refine W3 ?_
  refine aZ (bR (k+((ak (rows.take i):Nat):Int)) (by omega)) ?_
  simp -implicitDefEqProofs (disch:=omega) only[go_sem,hb,ht,hA,hU,e2,hC,hG,bW,bG,hl,bq,bU]
  refine W3 ?_
  refine aZ (bR (k+((ak (rows.take i):Nat):Int)+1+1) (by omega)) ?_
  simp -implicitDefEqProofs (disch:=omega) only[go_sem,hb,ht,hA,hU,e2,hC,hG,bW,bG,hl,bq,bU]
  refine W3 ?_
  refine bJ rfl (gQ hS hp hir (by rfl) (fun S' rs' g1 g2=>jP x.fType.fArgs (k+((ak (rows.take i):Nat):Int)+1+1+1) (1+l) j r _ S' rs' g1 g2 (by omega))) ?_
  simp -implicitDefEqProofs (disch:=omega) only[go_sem,hb,ht,hA,hU,e2,hC,hG,bW,bG,hl,bq,bU]
  refine W3 ?_
  refine bP (i+1) (by omega) (by rw[hK];rfl) ?_ (by omega)
  have h3:=qg (k:=k) hir
  rw[e1] at h3
  simp only[jv,sJ] at h3
  rw[←h3]
  all_goals rfl
 ·simp -implicitDefEqProofs (disch:=omega) only[go_sem,hb]
  have hi:i=xs.length:=by omega
  rw[nM (by omega),List.take_of_length_le (by omega)]
  all_goals (first|rfl|exact⟨rfl,rfl⟩)
set_option maxHeartbeats 4000000 in
theorem Gl(xs:List aO):∀(k:Int) (l j r:Nat) (p:List (Nat×Nat)) (S:Store) (rs:List (List (List D))),bI S (l,j)=some (.xf rs)→atR rs r p=some (bV (xs.map aO.enc) k)→0≤k∧k+ak (xs.map aO.enc)≤4611686018427387904→cB Tryz.prog 116 [.c (.xp (l,j) r p),.c (.d (.i .i64 k))] S (fun res S'=>res=.c (.d (.i .i64 (k+ak (xs.map aO.enc))))∧S'=S):=by
 intro k l j r p S rs hS hp hk
 have hlen:=jB (f:=aO.enc) (fun x=>by simp only[aO.aD,au.aD,encS,encI,List.cons_append,List.nil_append,iQ,iP];omega) xs
 obtain⟨rows,hr⟩:∃rows,rows=xs.map aO.enc:=⟨_,rfl⟩
 have hl:rows.length=xs.length:=by rw[hr,List.length_map]
 rw[←hr] at hp hk hlen ⊢
 refine aG (rs:=[.tmp 4]) Tryz.checked.mixed Tryz.func116 Tryz.ntmps116 rfl rfl rfl rfl rfl ?_
 refine W1 ?_
 refine aT (ι:=Nat) Tryz.checked.mixed rfl [0,1,5] (fun i=>[.c (.xp (1+l,j) r p),.c (.d (.i .i64 (k+ak (rows.take i)))),.c (.d (.i .i64 i))])
  (fun i=>[]::S) (fun i=>i≤xs.length) (fun i=>xs.length-i) 0 ?_ rfl (Nat.zero_le _) ?_
 ·have z0:k+((ak (rows.take 0):Nat):Int)=k:=by simp[ak]
  rw[z0]
  rfl
 intro i hi
 simp -implicitDefEqProofs (disch:=omega) only[go_sem,hS,hp,aW,hl]
 with_reducible refine dU (fun hb=> ?_) (fun hb=> ?_)<;>have h:=hb<;>try simp only[wf_preprocess] at h
 ·have hi:i<xs.length:=by omega
  have hir:i<rows.length:=by omega
  obtain⟨x,hx⟩:∃x,x=xs[i]:=⟨_,rfl⟩
  have e1:rows[i]=[.s x.bL,.i .i64 x.fType.aK,.s x.fType.fName,.sl (x.fType.fArgs.map au.enc)]:=by
   simp only[hr,List.getElem_map,←hx]
   simp only[aO.aD,au.aD,encS,encI,List.cons_append,List.nil_append]
  have hm:=gI hir
  have hle:=iU (rows:=rows) (i:=i+1)
  rw[hm,e1] at hle
  rw[e1] at hm
  simp only[iQ,iP] at hle hm
  have hK:k+((ak (rows.take (i+1)):Nat):Int)=k+((ak (rows.take i):Nat):Int)+1+1+1+((ak (x.fType.fArgs.map au.enc):Nat):Int):=by rw[hm];omega
  have e2:jv rows[i] (k+((ak (rows.take i):Nat):Int))=[.s (eU (k+((ak (rows.take i):Nat):Int))),.i .i64 (k+((ak (rows.take i):Nat):Int)+1),.s (eU (k+((ak (rows.take i):Nat):Int)+1+1)),.sl (bV (x.fType.fArgs.map au.enc) (k+((ak (rows.take i):Nat):Int)+1+1+1))]:=by
   rw[e1]
   simp only[jv,sJ]
   all_goals rfl
  have hC:∀o,cellAt (bV rows k) i o=([.s (eU (k+((ak (rows.take i):Nat):Int))),.i .i64 (k+((ak (rows.take i):Nat):Int)+1),.s (eU (k+((ak (rows.take i):Nat):Int)+1+1)),.sl (bV (x.fType.fArgs.map au.enc) (k+((ak (rows.take i):Nat):Int)+1+1+1))]:List D)[o]? :=fun o=>by
   have h1:(bV rows k)[i]? =some (jv rows[i] (k+((ak (rows.take i):Nat):Int))):=by
    have h2:=gV (k:=k) hir
    have h3:i<(bV rows k).length:=by rw[aW];exact hir
    rw[List.getD_eq_getElem?_getD,List.getElem?_eq_getElem h3,Option.getD_some] at h2
    rw[List.getElem?_eq_getElem h3,h2]
   unfold cellAt
   rw[h1,Option.bind_some,e2]
  have hG:=gV (k:=k) hir
  rw[e2] at hG
  simp -implicitDefEqProofs (disch:=omega) only[go_sem,hb,hS,hp,hC,hG,aW,hl,bU]
  refine W3 ?_
  refine aZ (bR (k+((ak (rows.take i):Nat):Int)) (by omega)) ?_
  simp -implicitDefEqProofs (disch:=omega) only[go_sem,hb,hS,hp,hC,hG,aW,hl,bU]
  refine W3 ?_
  refine aZ (bR (k+((ak (rows.take i):Nat):Int)+1+1) (by omega)) ?_
  simp -implicitDefEqProofs (disch:=omega) only[go_sem,hb,hS,hp,hC,hG,aW,hl,bU]
  refine W3 ?_
  refine bJ rfl (jQ x.fType.fArgs (k+((ak (rows.take i):Nat):Int)+1+1+1) (1+l) j r _ _ _ (by rw[dR];exact hS) (fI hp (by rw[hC];rfl)) (by omega)) ?_
  simp -implicitDefEqProofs (disch:=omega) only[go_sem,hb,hS,hp,hC,hG,aW,hl,bU,fC]
  refine W3 ?_
  refine bP (i+1) (by omega) (by rw[hK];rfl) rfl (by omega)
 ·simp -implicitDefEqProofs (disch:=omega) only[go_sem,hb]
  have hi:i=xs.length:=by omega
  rw[List.take_of_length_le (by omega)]
  all_goals (first|rfl|exact⟨rfl,rfl⟩)
end Go.Proofs.YtocpgjlbagncjaaGreatDoor
namespace Go.Proofs.YtocpgjlbagncjaaGreatDoor
open Go Go.Ab
theorem CQ:∀n:Nat,(∀xs:List ay,SizeOf.sizeOf xs<n→∀(k:Int) (l j r:Nat) (p:List (Nat×Nat)) (S:Store) (rs:List (List (List D))),bI S (l,j)=some (.xf rs)→atR rs r p=some (xs.map ay.enc)→0≤k∧k+ak (xs.map ay.enc)≤4611686018427387904→cB Tryz.prog 64 [.c (.xp (l,j) r p),.c (.d (.i .i64 k))] S (fun res S'=>res=.c (.d (.i .i64 (k+ak (xs.map ay.enc))))∧S'=bQ S (l,j) (.xf (dG rs r p (bV (xs.map ay.enc) k)))))∧
 (∀xs:List aR,SizeOf.sizeOf xs<n→∀(k:Int) (l j r:Nat) (p:List (Nat×Nat)) (S:Store) (rs:List (List (List D))),bI S (l,j)=some (.xf rs)→atR rs r p=some (xs.map aR.enc)→0≤k∧k+ak (xs.map aR.enc)≤4611686018427387904→cB Tryz.prog 65 [.c (.xp (l,j) r p),.c (.d (.i .i64 k))] S (fun res S'=>res=.c (.d (.i .i64 (k+ak (xs.map aR.enc))))∧S'=bQ S (l,j) (.xf (dG rs r p (bV (xs.map aR.enc) k)))))
 |0=>⟨fun xs h=>by omega,fun xs h=>by omega⟩
 |n+1=>by
  obtain⟨Al,Fv⟩:=CQ n
  refine⟨fun xs hn k l j r p S rs hS hp hk=> ?_,fun xs hn k l j r p S rs hS hp hk=> ?_⟩
  ·have hlen:=jB (f:=ay.enc) (fun x=>by simp only[ay.aD,au.aD,encS,encI,List.cons_append,List.nil_append,iQ,iP];omega) xs
   obtain⟨rows,hr⟩:∃rows,rows=xs.map ay.enc:=⟨_,rfl⟩
   have hl:rows.length=xs.length:=by rw[hr,List.length_map]
   rw[←hr] at hp hk hlen ⊢
   have ht:∀x:Ab.Obj,bI (bQ S (l,j) x) (l,j)=some x:=fun x=>dK _ _ _ _ hS
   have hA:∀new,atR (dG rs r p new) r p=some new:=fun new=>lJ hp
   have hU:∀a b,dG (dG rs r p a) r p b=dG rs r p b:=fun a b=>kT hp
   refine aG (rs:=[.tmp 4]) Tryz.checked.mixed Tryz.func64 Tryz.ntmps64 rfl rfl rfl rfl rfl ?_
   refine W1 ?_
   refine aT (ι:=Nat) Tryz.checked.mixed rfl [0,1,5] (fun i=>[.c (.xp (1+l,j) r p),.c (.d (.i .i64 (k+ak (rows.take i)))),.c (.d (.i .i64 i))])
    (fun i=>[]::bQ S (l,j) (.xf (dG rs r p (nL rows k i)))) (fun i=>i≤xs.length) (fun i=>xs.length-i) 0 ?_ ?_ (Nat.zero_le _) ?_
   ·have z0:k+((ak (rows.take 0):Nat):Int)=k:=by simp[ak]
    rw[z0]
    rfl
   ·rw[lU,lT hp,jG _ _ hS]
   intro i hi
   simp -implicitDefEqProofs (disch:=omega) only[go_sem,ht,hA,iC,hl]
   with_reducible refine dU (fun hb=> ?_) (fun hb=> ?_)<;>have h:=hb<;>try simp only[wf_preprocess] at h
   ·have hi:i<xs.length:=by omega
    have hir:i<rows.length:=by omega
    obtain⟨x,hx⟩:∃x,x=xs[i]:=⟨_,rfl⟩
    have e1:rows[i]=[.i .i64 x.aK,.s x.bL,.s x.fName,.i .i64 x.fN,.i .i64 x.fType.aK,.s x.fType.fName,.sl (x.fType.fArgs.map au.enc),.sl (x.fArgs.map ay.enc),.sl (x.aP.map aR.enc)]:=by
     simp only[hr,List.getElem_map,←hx]
     simp only[ay.aD,au.aD,encS,encI,List.cons_append,List.nil_append]
    have hm:=gI hir
    have hle:=iU (rows:=rows) (i:=i+1)
    rw[hm,e1] at hle
    rw[e1] at hm
    simp only[iQ,iP] at hle hm
    have hK:k+((ak (rows.take (i+1)):Nat):Int)=k+((ak (rows.take i):Nat):Int)+1+1+1+1+1+1+((ak (x.fType.fArgs.map au.enc):Nat):Int)+((ak (x.fArgs.map ay.enc):Nat):Int)+((ak (x.aP.map aR.enc):Nat):Int):=by rw[hm];omega
    have e2:=qd (k:=k) hir
    rw[e1] at e2
    have hC:∀row o,cellAt (jk rows k i row) i o=row[o]? :=fun row o=>kD hir
    have hG:∀row,(jk rows k i row).getD i []=row:=fun row=>mM hir
    simp -implicitDefEqProofs (disch:=omega) only[go_sem,hb,ht,hA,hU,e2,hC,hG,bW,bG,hl,bq,bU]
    refine W3 ?_
    refine aZ (bR (k+((ak (rows.take i):Nat):Int)+1) (by omega)) ?_
    simp -implicitDefEqProofs (disch:=omega) only[go_sem,hb,ht,hA,hU,e2,hC,hG,bW,bG,hl,bq,bU]
    refine W3 ?_
    refine aZ (bR (k+((ak (rows.take i):Nat):Int)+1+1) (by omega)) ?_
    simp -implicitDefEqProofs (disch:=omega) only[go_sem,hb,ht,hA,hU,e2,hC,hG,bW,bG,hl,bq,bU]
    refine W3 ?_
    refine aZ (bR (k+((ak (rows.take i):Nat):Int)+1+1+1+1+1) (by omega)) ?_
    simp -implicitDefEqProofs (disch:=omega) only[go_sem,hb,ht,hA,hU,e2,hC,hG,bW,bG,hl,bq,bU]
    refine W3 ?_
    refine bJ rfl (gQ hS hp hir (by rfl) (fun S' rs' g1 g2=>jP x.fType.fArgs (k+((ak (rows.take i):Nat):Int)+1+1+1+1+1+1) (1+l) j r _ S' rs' g1 g2 (by omega))) ?_
    simp -implicitDefEqProofs (disch:=omega) only[go_sem,hb,ht,hA,hU,e2,hC,hG,bW,bG,hl,bq,bU]
    refine W3 ?_
    refine bJ rfl (gQ hS hp hir (by rfl) (fun S' rs' g1 g2=>Al x.fArgs (by have:=List.sizeOf_lt_of_mem (List.getElem_mem hi);rw[←hx] at this;have:=ay.gM x;omega) (k+((ak (rows.take i):Nat):Int)+1+1+1+1+1+1+((ak (x.fType.fArgs.map au.enc):Nat):Int)) (1+l) j r _ S' rs' g1 g2 (by omega))) ?_
    simp -implicitDefEqProofs (disch:=omega) only[go_sem,hb,ht,hA,hU,e2,hC,hG,bW,bG,hl,bq,bU]
    refine W3 ?_
    refine bJ rfl (gQ hS hp hir (by rfl) (fun S' rs' g1 g2=>Fv x.aP (by have:=List.sizeOf_lt_of_mem (List.getElem_mem hi);rw[←hx] at this;have:=ay.oN x;omega) (k+((ak (rows.take i):Nat):Int)+1+1+1+1+1+1+((ak (x.fType.fArgs.map au.enc):Nat):Int)+((ak (x.fArgs.map ay.enc):Nat):Int)) (1+l) j r _ S' rs' g1 g2 (by omega))) ?_
    simp -implicitDefEqProofs (disch:=omega) only[go_sem,hb,ht,hA,hU,e2,hC,hG,bW,bG,hl,bq,bU]
    refine W3 ?_
    refine bP (i+1) (by omega) (by rw[hK];rfl) ?_ (by omega)
    have h3:=qg (k:=k) hir
    rw[e1] at h3
    simp only[jv,sJ] at h3
    rw[←h3]
    all_goals rfl
   ·simp -implicitDefEqProofs (disch:=omega) only[go_sem,hb]
    have hi:i=xs.length:=by omega
    rw[nM (by omega),List.take_of_length_le (by omega)]
    all_goals (first|rfl|exact⟨rfl,rfl⟩)
  ·have hlen:=jB (f:=aR.enc) (fun x=>by simp only[aR.aD,ay.aD,au.aD,encS,encI,List.cons_append,List.nil_append,iQ,iP];omega) xs
   obtain⟨rows,hr⟩:∃rows,rows=xs.map aR.enc:=⟨_,rfl⟩
   have hl:rows.length=xs.length:=by rw[hr,List.length_map]
   rw[←hr] at hp hk hlen ⊢
   have ht:∀x:Ab.Obj,bI (bQ S (l,j) x) (l,j)=some x:=fun x=>dK _ _ _ _ hS
   have hA:∀new,atR (dG rs r p new) r p=some new:=fun new=>lJ hp
   have hU:∀a b,dG (dG rs r p a) r p b=dG rs r p b:=fun a b=>kT hp
   refine aG (rs:=[.tmp 4]) Tryz.checked.mixed Tryz.func65 Tryz.ntmps65 rfl rfl rfl rfl rfl ?_
   refine W1 ?_
   refine aT (ι:=Nat) Tryz.checked.mixed rfl [0,1,5] (fun i=>[.c (.xp (1+l,j) r p),.c (.d (.i .i64 (k+ak (rows.take i)))),.c (.d (.i .i64 i))])
    (fun i=>[]::bQ S (l,j) (.xf (dG rs r p (nL rows k i)))) (fun i=>i≤xs.length) (fun i=>xs.length-i) 0 ?_ ?_ (Nat.zero_le _) ?_
   ·have z0:k+((ak (rows.take 0):Nat):Int)=k:=by simp[ak]
    rw[z0]
    rfl
   ·rw[lU,lT hp,jG _ _ hS]
   intro i hi
   simp -implicitDefEqProofs (disch:=omega) only[go_sem,ht,hA,iC,hl]
   with_reducible refine dU (fun hb=> ?_) (fun hb=> ?_)<;>have h:=hb<;>try simp only[wf_preprocess] at h
   ·have hi:i<xs.length:=by omega
    have hir:i<rows.length:=by omega
    obtain⟨x,hx⟩:∃x,x=xs[i]:=⟨_,rfl⟩
    have e1:rows[i]=[.s x.dL,.sl (x.aA.map encS),.i .i64 x.fBody.aK,.s x.fBody.bL,.s x.fBody.fName,.i .i64 x.fBody.fN,.i .i64 x.fBody.fType.aK,.s x.fBody.fType.fName,.sl (x.fBody.fType.fArgs.map au.enc),.sl (x.fBody.fArgs.map ay.enc),.sl (x.fBody.aP.map aR.enc)]:=by
     simp only[hr,List.getElem_map,←hx]
     simp only[aR.aD,ay.aD,au.aD,encS,encI,List.cons_append,List.nil_append]
    have hm:=gI hir
    have hle:=iU (rows:=rows) (i:=i+1)
    rw[hm,e1] at hle
    rw[e1] at hm
    simp only[iQ,iP] at hle hm
    have hK:k+((ak (rows.take (i+1)):Nat):Int)=k+((ak (rows.take i):Nat):Int)+1+((ak (x.aA.map encS):Nat):Int)+1+1+1+1+1+1+((ak (x.fBody.fType.fArgs.map au.enc):Nat):Int)+((ak (x.fBody.fArgs.map ay.enc):Nat):Int)+((ak (x.fBody.aP.map aR.enc):Nat):Int):=by rw[hm];omega
    have e2:=qd (k:=k) hir
    rw[e1] at e2
    have hC:∀row o,cellAt (jk rows k i row) i o=row[o]? :=fun row o=>kD hir
    have hG:∀row,(jk rows k i row).getD i []=row:=fun row=>mM hir
    simp -implicitDefEqProofs (disch:=omega) only[go_sem,hb,ht,hA,hU,e2,hC,hG,bW,bG,hl,bq,bU]
    refine W3 ?_
    refine aZ (bR (k+((ak (rows.take i):Nat):Int)) (by omega)) ?_
    simp -implicitDefEqProofs (disch:=omega) only[go_sem,hb,ht,hA,hU,e2,hC,hG,bW,bG,hl,bq,bU]
    refine W3 ?_
    refine bJ rfl (gQ hS hp hir (by rfl) (fun S' rs' g1 g2=>mZ x.aA (k+((ak (rows.take i):Nat):Int)+1) (1+l) j r _ S' rs' g1 g2 (by omega))) ?_
    simp -implicitDefEqProofs (disch:=omega) only[go_sem,hb,ht,hA,hU,e2,hC,hG,bW,bG,hl,bq,bU]
    refine W3 ?_
    refine aZ (bR (k+((ak (rows.take i):Nat):Int)+1+((ak (x.aA.map encS):Nat):Int)+1) (by omega)) ?_
    simp -implicitDefEqProofs (disch:=omega) only[go_sem,hb,ht,hA,hU,e2,hC,hG,bW,bG,hl,bq,bU]
    refine W3 ?_
    refine aZ (bR (k+((ak (rows.take i):Nat):Int)+1+((ak (x.aA.map encS):Nat):Int)+1+1) (by omega)) ?_
    simp -implicitDefEqProofs (disch:=omega) only[go_sem,hb,ht,hA,hU,e2,hC,hG,bW,bG,hl,bq,bU]
    refine W3 ?_
    refine aZ (bR (k+((ak (rows.take i):Nat):Int)+1+((ak (x.aA.map encS):Nat):Int)+1+1+1+1+1) (by omega)) ?_
    simp -implicitDefEqProofs (disch:=omega) only[go_sem,hb,ht,hA,hU,e2,hC,hG,bW,bG,hl,bq,bU]
    refine W3 ?_
    refine bJ rfl (gQ hS hp hir (by rfl) (fun S' rs' g1 g2=>jP x.fBody.fType.fArgs (k+((ak (rows.take i):Nat):Int)+1+((ak (x.aA.map encS):Nat):Int)+1+1+1+1+1+1) (1+l) j r _ S' rs' g1 g2 (by omega))) ?_
    simp -implicitDefEqProofs (disch:=omega) only[go_sem,hb,ht,hA,hU,e2,hC,hG,bW,bG,hl,bq,bU]
    refine W3 ?_
    refine bJ rfl (gQ hS hp hir (by rfl) (fun S' rs' g1 g2=>Al x.fBody.fArgs (by have:=List.sizeOf_lt_of_mem (List.getElem_mem hi);rw[←hx] at this;have:=aR.nW x;have:=ay.gM x.fBody;omega) (k+((ak (rows.take i):Nat):Int)+1+((ak (x.aA.map encS):Nat):Int)+1+1+1+1+1+1+((ak (x.fBody.fType.fArgs.map au.enc):Nat):Int)) (1+l) j r _ S' rs' g1 g2 (by omega))) ?_
    simp -implicitDefEqProofs (disch:=omega) only[go_sem,hb,ht,hA,hU,e2,hC,hG,bW,bG,hl,bq,bU]
    refine W3 ?_
    refine bJ rfl (gQ hS hp hir (by rfl) (fun S' rs' g1 g2=>Fv x.fBody.aP (by have:=List.sizeOf_lt_of_mem (List.getElem_mem hi);rw[←hx] at this;have:=aR.nW x;have:=ay.oN x.fBody;omega) (k+((ak (rows.take i):Nat):Int)+1+((ak (x.aA.map encS):Nat):Int)+1+1+1+1+1+1+((ak (x.fBody.fType.fArgs.map au.enc):Nat):Int)+((ak (x.fBody.fArgs.map ay.enc):Nat):Int)) (1+l) j r _ S' rs' g1 g2 (by omega))) ?_
    simp -implicitDefEqProofs (disch:=omega) only[go_sem,hb,ht,hA,hU,e2,hC,hG,bW,bG,hl,bq,bU]
    refine W3 ?_
    refine bP (i+1) (by omega) (by rw[hK];rfl) ?_ (by omega)
    have h3:=qg (k:=k) hir
    rw[e1] at h3
    simp only[jv,sJ] at h3
    rw[←h3]
    all_goals rfl
   ·simp -implicitDefEqProofs (disch:=omega) only[go_sem,hb]
    have hi:i=xs.length:=by omega
    rw[nM (by omega),List.take_of_length_le (by omega)]
    all_goals (first|rfl|exact⟨rfl,rfl⟩)
theorem CR(xs:List ay):∀(k:Int) (l j r:Nat) (p:List (Nat×Nat)) (S:Store) (rs:List (List (List D))),bI S (l,j)=some (.xf rs)→atR rs r p=some (xs.map ay.enc)→0≤k∧k+ak (xs.map ay.enc)≤4611686018427387904→cB Tryz.prog 64 [.c (.xp (l,j) r p),.c (.d (.i .i64 k))] S (fun res S'=>res=.c (.d (.i .i64 (k+ak (xs.map ay.enc))))∧S'=bQ S (l,j) (.xf (dG rs r p (bV (xs.map ay.enc) k)))):=(CQ _).1 xs (Nat.lt_succ_self _)
theorem D6(xs:List aR):∀(k:Int) (l j r:Nat) (p:List (Nat×Nat)) (S:Store) (rs:List (List (List D))),bI S (l,j)=some (.xf rs)→atR rs r p=some (xs.map aR.enc)→0≤k∧k+ak (xs.map aR.enc)≤4611686018427387904→cB Tryz.prog 65 [.c (.xp (l,j) r p),.c (.d (.i .i64 k))] S (fun res S'=>res=.c (.d (.i .i64 (k+ak (xs.map aR.enc))))∧S'=bQ S (l,j) (.xf (dG rs r p (bV (xs.map aR.enc) k)))):=(CQ _).2 xs (Nat.lt_succ_self _)
theorem CS:∀n:Nat,(∀xs:List ay,SizeOf.sizeOf xs<n→∀(k:Int) (l j r:Nat) (p:List (Nat×Nat)) (S:Store) (rs:List (List (List D))),bI S (l,j)=some (.xf rs)→atR rs r p=some (bV (xs.map ay.enc) k)→0≤k∧k+ak (xs.map ay.enc)≤4611686018427387904→cB Tryz.prog 67 [.c (.xp (l,j) r p),.c (.d (.i .i64 k))] S (fun res S'=>res=.c (.d (.i .i64 (k+ak (xs.map ay.enc))))∧S'=S))∧
 (∀xs:List aR,SizeOf.sizeOf xs<n→∀(k:Int) (l j r:Nat) (p:List (Nat×Nat)) (S:Store) (rs:List (List (List D))),bI S (l,j)=some (.xf rs)→atR rs r p=some (bV (xs.map aR.enc) k)→0≤k∧k+ak (xs.map aR.enc)≤4611686018427387904→cB Tryz.prog 68 [.c (.xp (l,j) r p),.c (.d (.i .i64 k))] S (fun res S'=>res=.c (.d (.i .i64 (k+ak (xs.map aR.enc))))∧S'=S))
 |0=>⟨fun xs h=>by omega,fun xs h=>by omega⟩
 |n+1=>by
  obtain⟨Al,Fv⟩:=CS n
  refine⟨fun xs hn k l j r p S rs hS hp hk=> ?_,fun xs hn k l j r p S rs hS hp hk=> ?_⟩
  ·have hlen:=jB (f:=ay.enc) (fun x=>by simp only[ay.aD,au.aD,encS,encI,List.cons_append,List.nil_append,iQ,iP];omega) xs
   obtain⟨rows,hr⟩:∃rows,rows=xs.map ay.enc:=⟨_,rfl⟩
   have hl:rows.length=xs.length:=by rw[hr,List.length_map]
   rw[←hr] at hp hk hlen ⊢
   refine aG (rs:=[.tmp 4]) Tryz.checked.mixed Tryz.func67 Tryz.ntmps67 rfl rfl rfl rfl rfl ?_
   refine W1 ?_
   refine aT (ι:=Nat) Tryz.checked.mixed rfl [0,1,5] (fun i=>[.c (.xp (1+l,j) r p),.c (.d (.i .i64 (k+ak (rows.take i)))),.c (.d (.i .i64 i))])
    (fun i=>[]::S) (fun i=>i≤xs.length) (fun i=>xs.length-i) 0 ?_ rfl (Nat.zero_le _) ?_
   ·have z0:k+((ak (rows.take 0):Nat):Int)=k:=by simp[ak]
    rw[z0]
    rfl
   intro i hi
   simp -implicitDefEqProofs (disch:=omega) only[go_sem,hS,hp,aW,hl]
   with_reducible refine dU (fun hb=> ?_) (fun hb=> ?_)<;>have h:=hb<;>try simp only[wf_preprocess] at h
   ·have hi:i<xs.length:=by omega
    have hir:i<rows.length:=by omega
    obtain⟨x,hx⟩:∃x,x=xs[i]:=⟨_,rfl⟩
    have e1:rows[i]=[.i .i64 x.aK,.s x.bL,.s x.fName,.i .i64 x.fN,.i .i64 x.fType.aK,.s x.fType.fName,.sl (x.fType.fArgs.map au.enc),.sl (x.fArgs.map ay.enc),.sl (x.aP.map aR.enc)]:=by
     simp only[hr,List.getElem_map,←hx]
     simp only[ay.aD,au.aD,encS,encI,List.cons_append,List.nil_append]
    have hm:=gI hir
    have hle:=iU (rows:=rows) (i:=i+1)
    rw[hm,e1] at hle
    rw[e1] at hm
    simp only[iQ,iP] at hle hm
    have hK:k+((ak (rows.take (i+1)):Nat):Int)=k+((ak (rows.take i):Nat):Int)+1+1+1+1+1+1+((ak (x.fType.fArgs.map au.enc):Nat):Int)+((ak (x.fArgs.map ay.enc):Nat):Int)+((ak (x.aP.map aR.enc):Nat):Int):=by rw[hm];omega
    have e2:jv rows[i] (k+((ak (rows.take i):Nat):Int))=[.i .i64 (k+((ak (rows.take i):Nat):Int)),.s (eU (k+((ak (rows.take i):Nat):Int)+1)),.s (eU (k+((ak (rows.take i):Nat):Int)+1+1)),.i .i64 (k+((ak (rows.take i):Nat):Int)+1+1+1),.i .i64 (k+((ak (rows.take i):Nat):Int)+1+1+1+1),.s (eU (k+((ak (rows.take i):Nat):Int)+1+1+1+1+1)),.sl (bV (x.fType.fArgs.map au.enc) (k+((ak (rows.take i):Nat):Int)+1+1+1+1+1+1)),.sl (bV (x.fArgs.map ay.enc) (k+((ak (rows.take i):Nat):Int)+1+1+1+1+1+1+((ak (x.fType.fArgs.map au.enc):Nat):Int))),.sl (bV (x.aP.map aR.enc) (k+((ak (rows.take i):Nat):Int)+1+1+1+1+1+1+((ak (x.fType.fArgs.map au.enc):Nat):Int)+((ak (x.fArgs.map ay.enc):Nat):Int)))]:=by
     rw[e1]
     simp only[jv,sJ]
     all_goals rfl
    have hC:∀o,cellAt (bV rows k) i o=([.i .i64 (k+((ak (rows.take i):Nat):Int)),.s (eU (k+((ak (rows.take i):Nat):Int)+1)),.s (eU (k+((ak (rows.take i):Nat):Int)+1+1)),.i .i64 (k+((ak (rows.take i):Nat):Int)+1+1+1),.i .i64 (k+((ak (rows.take i):Nat):Int)+1+1+1+1),.s (eU (k+((ak (rows.take i):Nat):Int)+1+1+1+1+1)),.sl (bV (x.fType.fArgs.map au.enc) (k+((ak (rows.take i):Nat):Int)+1+1+1+1+1+1)),.sl (bV (x.fArgs.map ay.enc) (k+((ak (rows.take i):Nat):Int)+1+1+1+1+1+1+((ak (x.fType.fArgs.map au.enc):Nat):Int))),.sl (bV (x.aP.map aR.enc) (k+((ak (rows.take i):Nat):Int)+1+1+1+1+1+1+((ak (x.fType.fArgs.map au.enc):Nat):Int)+((ak (x.fArgs.map ay.enc):Nat):Int)))]:List D)[o]? :=fun o=>by
     have h1:(bV rows k)[i]? =some (jv rows[i] (k+((ak (rows.take i):Nat):Int))):=by
      have h2:=gV (k:=k) hir
      have h3:i<(bV rows k).length:=by rw[aW];exact hir
      rw[List.getD_eq_getElem?_getD,List.getElem?_eq_getElem h3,Option.getD_some] at h2
      rw[List.getElem?_eq_getElem h3,h2]
     unfold cellAt
     rw[h1,Option.bind_some,e2]
    have hG:=gV (k:=k) hir
    rw[e2] at hG
    simp -implicitDefEqProofs (disch:=omega) only[go_sem,hb,hS,hp,hC,hG,aW,hl,bU]
    refine W3 ?_
    refine aZ (bR (k+((ak (rows.take i):Nat):Int)+1) (by omega)) ?_
    simp -implicitDefEqProofs (disch:=omega) only[go_sem,hb,hS,hp,hC,hG,aW,hl,bU]
    refine W3 ?_
    refine aZ (bR (k+((ak (rows.take i):Nat):Int)+1+1) (by omega)) ?_
    simp -implicitDefEqProofs (disch:=omega) only[go_sem,hb,hS,hp,hC,hG,aW,hl,bU]
    refine W3 ?_
    refine aZ (bR (k+((ak (rows.take i):Nat):Int)+1+1+1+1+1) (by omega)) ?_
    simp -implicitDefEqProofs (disch:=omega) only[go_sem,hb,hS,hp,hC,hG,aW,hl,bU]
    refine W3 ?_
    refine bJ rfl (jQ x.fType.fArgs (k+((ak (rows.take i):Nat):Int)+1+1+1+1+1+1) (1+l) j r _ _ _ (by rw[dR];exact hS) (fI hp (by rw[hC];rfl)) (by omega)) ?_
    simp -implicitDefEqProofs (disch:=omega) only[go_sem,hb,hS,hp,hC,hG,aW,hl,bU,fC]
    refine W3 ?_
    refine bJ rfl (Al x.fArgs (by have:=List.sizeOf_lt_of_mem (List.getElem_mem hi);rw[←hx] at this;have:=ay.gM x;omega) (k+((ak (rows.take i):Nat):Int)+1+1+1+1+1+1+((ak (x.fType.fArgs.map au.enc):Nat):Int)) (1+l) j r _ _ _ (by rw[dR];exact hS) (fI hp (by rw[hC];rfl)) (by omega)) ?_
    simp -implicitDefEqProofs (disch:=omega) only[go_sem,hb,hS,hp,hC,hG,aW,hl,bU,fC]
    refine W3 ?_
    refine bJ rfl (Fv x.aP (by have:=List.sizeOf_lt_of_mem (List.getElem_mem hi);rw[←hx] at this;have:=ay.oN x;omega) (k+((ak (rows.take i):Nat):Int)+1+1+1+1+1+1+((ak (x.fType.fArgs.map au.enc):Nat):Int)+((ak (x.fArgs.map ay.enc):Nat):Int)) (1+l) j r _ _ _ (by rw[dR];exact hS) (fI hp (by rw[hC];rfl)) (by omega)) ?_
    simp -implicitDefEqProofs (disch:=omega) only[go_sem,hb,hS,hp,hC,hG,aW,hl,bU,fC]
    refine W3 ?_
    refine bP (i+1) (by omega) (by rw[hK];rfl) rfl (by omega)
   ·simp -implicitDefEqProofs (disch:=omega) only[go_sem,hb]
    have hi:i=xs.length:=by omega
    rw[List.take_of_length_le (by omega)]
    all_goals (first|rfl|exact⟨rfl,rfl⟩)
  ·have hlen:=jB (f:=aR.enc) (fun x=>by simp only[aR.aD,ay.aD,au.aD,encS,encI,List.cons_append,List.nil_append,iQ,iP];omega) xs
   obtain⟨rows,hr⟩:∃rows,rows=xs.map aR.enc:=⟨_,rfl⟩
   have hl:rows.length=xs.length:=by rw[hr,List.length_map]
   rw[←hr] at hp hk hlen ⊢
   refine aG (rs:=[.tmp 4]) Tryz.checked.mixed Tryz.func68 Tryz.ntmps68 rfl rfl rfl rfl rfl ?_
   refine W1 ?_
   refine aT (ι:=Nat) Tryz.checked.mixed rfl [0,1,5] (fun i=>[.c (.xp (1+l,j) r p),.c (.d (.i .i64 (k+ak (rows.take i)))),.c (.d (.i .i64 i))])
    (fun i=>[]::S) (fun i=>i≤xs.length) (fun i=>xs.length-i) 0 ?_ rfl (Nat.zero_le _) ?_
   ·have z0:k+((ak (rows.take 0):Nat):Int)=k:=by simp[ak]
    rw[z0]
    rfl
   intro i hi
   simp -implicitDefEqProofs (disch:=omega) only[go_sem,hS,hp,aW,hl]
   with_reducible refine dU (fun hb=> ?_) (fun hb=> ?_)<;>have h:=hb<;>try simp only[wf_preprocess] at h
   ·have hi:i<xs.length:=by omega
    have hir:i<rows.length:=by omega
    obtain⟨x,hx⟩:∃x,x=xs[i]:=⟨_,rfl⟩
    have e1:rows[i]=[.s x.dL,.sl (x.aA.map encS),.i .i64 x.fBody.aK,.s x.fBody.bL,.s x.fBody.fName,.i .i64 x.fBody.fN,.i .i64 x.fBody.fType.aK,.s x.fBody.fType.fName,.sl (x.fBody.fType.fArgs.map au.enc),.sl (x.fBody.fArgs.map ay.enc),.sl (x.fBody.aP.map aR.enc)]:=by
     simp only[hr,List.getElem_map,←hx]
     simp only[aR.aD,ay.aD,au.aD,encS,encI,List.cons_append,List.nil_append]
    have hm:=gI hir
    have hle:=iU (rows:=rows) (i:=i+1)
    rw[hm,e1] at hle
    rw[e1] at hm
    simp only[iQ,iP] at hle hm
    have hK:k+((ak (rows.take (i+1)):Nat):Int)=k+((ak (rows.take i):Nat):Int)+1+((ak (x.aA.map encS):Nat):Int)+1+1+1+1+1+1+((ak (x.fBody.fType.fArgs.map au.enc):Nat):Int)+((ak (x.fBody.fArgs.map ay.enc):Nat):Int)+((ak (x.fBody.aP.map aR.enc):Nat):Int):=by rw[hm];omega
    have e2:jv rows[i] (k+((ak (rows.take i):Nat):Int))=[.s (eU (k+((ak (rows.take i):Nat):Int))),.sl (bV (x.aA.map encS) (k+((ak (rows.take i):Nat):Int)+1)),.i .i64 (k+((ak (rows.take i):Nat):Int)+1+((ak (x.aA.map encS):Nat):Int)),.s (eU (k+((ak (rows.take i):Nat):Int)+1+((ak (x.aA.map encS):Nat):Int)+1)),.s (eU (k+((ak (rows.take i):Nat):Int)+1+((ak (x.aA.map encS):Nat):Int)+1+1)),.i .i64 (k+((ak (rows.take i):Nat):Int)+1+((ak (x.aA.map encS):Nat):Int)+1+1+1),.i .i64 (k+((ak (rows.take i):Nat):Int)+1+((ak (x.aA.map encS):Nat):Int)+1+1+1+1),.s (eU (k+((ak (rows.take i):Nat):Int)+1+((ak (x.aA.map encS):Nat):Int)+1+1+1+1+1)),.sl (bV (x.fBody.fType.fArgs.map au.enc) (k+((ak (rows.take i):Nat):Int)+1+((ak (x.aA.map encS):Nat):Int)+1+1+1+1+1+1)),.sl (bV (x.fBody.fArgs.map ay.enc) (k+((ak (rows.take i):Nat):Int)+1+((ak (x.aA.map encS):Nat):Int)+1+1+1+1+1+1+((ak (x.fBody.fType.fArgs.map au.enc):Nat):Int))),.sl (bV (x.fBody.aP.map aR.enc) (k+((ak (rows.take i):Nat):Int)+1+((ak (x.aA.map encS):Nat):Int)+1+1+1+1+1+1+((ak (x.fBody.fType.fArgs.map au.enc):Nat):Int)+((ak (x.fBody.fArgs.map ay.enc):Nat):Int)))]:=by
     rw[e1]
     simp only[jv,sJ]
     all_goals rfl
    have hC:∀o,cellAt (bV rows k) i o=([.s (eU (k+((ak (rows.take i):Nat):Int))),.sl (bV (x.aA.map encS) (k+((ak (rows.take i):Nat):Int)+1)),.i .i64 (k+((ak (rows.take i):Nat):Int)+1+((ak (x.aA.map encS):Nat):Int)),.s (eU (k+((ak (rows.take i):Nat):Int)+1+((ak (x.aA.map encS):Nat):Int)+1)),.s (eU (k+((ak (rows.take i):Nat):Int)+1+((ak (x.aA.map encS):Nat):Int)+1+1)),.i .i64 (k+((ak (rows.take i):Nat):Int)+1+((ak (x.aA.map encS):Nat):Int)+1+1+1),.i .i64 (k+((ak (rows.take i):Nat):Int)+1+((ak (x.aA.map encS):Nat):Int)+1+1+1+1),.s (eU (k+((ak (rows.take i):Nat):Int)+1+((ak (x.aA.map encS):Nat):Int)+1+1+1+1+1)),.sl (bV (x.fBody.fType.fArgs.map au.enc) (k+((ak (rows.take i):Nat):Int)+1+((ak (x.aA.map encS):Nat):Int)+1+1+1+1+1+1)),.sl (bV (x.fBody.fArgs.map ay.enc) (k+((ak (rows.take i):Nat):Int)+1+((ak (x.aA.map encS):Nat):Int)+1+1+1+1+1+1+((ak (x.fBody.fType.fArgs.map au.enc):Nat):Int))),.sl (bV (x.fBody.aP.map aR.enc) (k+((ak (rows.take i):Nat):Int)+1+((ak (x.aA.map encS):Nat):Int)+1+1+1+1+1+1+((ak (x.fBody.fType.fArgs.map au.enc):Nat):Int)+((ak (x.fBody.fArgs.map ay.enc):Nat):Int)))]:List D)[o]? :=fun o=>by
     have h1:(bV rows k)[i]? =some (jv rows[i] (k+((ak (rows.take i):Nat):Int))):=by
      have h2:=gV (k:=k) hir
      have h3:i<(bV rows k).length:=by rw[aW];exact hir
      rw[List.getD_eq_getElem?_getD,List.getElem?_eq_getElem h3,Option.getD_some] at h2
      rw[List.getElem?_eq_getElem h3,h2]
     unfold cellAt
     rw[h1,Option.bind_some,e2]
    have hG:=gV (k:=k) hir
    rw[e2] at hG
    simp -implicitDefEqProofs (disch:=omega) only[go_sem,hb,hS,hp,hC,hG,aW,hl,bU]
    refine W3 ?_
    refine aZ (bR (k+((ak (rows.take i):Nat):Int)) (by omega)) ?_
    simp -implicitDefEqProofs (disch:=omega) only[go_sem,hb,hS,hp,hC,hG,aW,hl,bU]
    refine W3 ?_
    refine bJ rfl (ng x.aA (k+((ak (rows.take i):Nat):Int)+1) (1+l) j r _ _ _ (by rw[dR];exact hS) (fI hp (by rw[hC];rfl)) (by omega)) ?_
    simp -implicitDefEqProofs (disch:=omega) only[go_sem,hb,hS,hp,hC,hG,aW,hl,bU,fC]
    refine W3 ?_
    refine aZ (bR (k+((ak (rows.take i):Nat):Int)+1+((ak (x.aA.map encS):Nat):Int)+1) (by omega)) ?_
    simp -implicitDefEqProofs (disch:=omega) only[go_sem,hb,hS,hp,hC,hG,aW,hl,bU]
    refine W3 ?_
    refine aZ (bR (k+((ak (rows.take i):Nat):Int)+1+((ak (x.aA.map encS):Nat):Int)+1+1) (by omega)) ?_
    simp -implicitDefEqProofs (disch:=omega) only[go_sem,hb,hS,hp,hC,hG,aW,hl,bU]
    refine W3 ?_
    refine aZ (bR (k+((ak (rows.take i):Nat):Int)+1+((ak (x.aA.map encS):Nat):Int)+1+1+1+1+1) (by omega)) ?_
    simp -implicitDefEqProofs (disch:=omega) only[go_sem,hb,hS,hp,hC,hG,aW,hl,bU]
    refine W3 ?_
    refine bJ rfl (jQ x.fBody.fType.fArgs (k+((ak (rows.take i):Nat):Int)+1+((ak (x.aA.map encS):Nat):Int)+1+1+1+1+1+1) (1+l) j r _ _ _ (by rw[dR];exact hS) (fI hp (by rw[hC];rfl)) (by omega)) ?_
    simp -implicitDefEqProofs (disch:=omega) only[go_sem,hb,hS,hp,hC,hG,aW,hl,bU,fC]
    refine W3 ?_
    refine bJ rfl (Al x.fBody.fArgs (by have:=List.sizeOf_lt_of_mem (List.getElem_mem hi);rw[←hx] at this;have:=aR.nW x;have:=ay.gM x.fBody;omega) (k+((ak (rows.take i):Nat):Int)+1+((ak (x.aA.map encS):Nat):Int)+1+1+1+1+1+1+((ak (x.fBody.fType.fArgs.map au.enc):Nat):Int)) (1+l) j r _ _ _ (by rw[dR];exact hS) (fI hp (by rw[hC];rfl)) (by omega)) ?_
    simp -implicitDefEqProofs (disch:=omega) only[go_sem,hb,hS,hp,hC,hG,aW,hl,bU,fC]
    refine W3 ?_
    refine bJ rfl (Fv x.fBody.aP (by have:=List.sizeOf_lt_of_mem (List.getElem_mem hi);rw[←hx] at this;have:=aR.nW x;have:=ay.oN x.fBody;omega) (k+((ak (rows.take i):Nat):Int)+1+((ak (x.aA.map encS):Nat):Int)+1+1+1+1+1+1+((ak (x.fBody.fType.fArgs.map au.enc):Nat):Int)+((ak (x.fBody.fArgs.map ay.enc):Nat):Int)) (1+l) j r _ _ _ (by rw[dR];exact hS) (fI hp (by rw[hC];rfl)) (by omega)) ?_
    simp -implicitDefEqProofs (disch:=omega) only[go_sem,hb,hS,hp,hC,hG,aW,hl,bU,fC]
    refine W3 ?_
    refine bP (i+1) (by omega) (by rw[hK];rfl) rfl (by omega)
   ·simp -implicitDefEqProofs (disch:=omega) only[go_sem,hb]
    have hi:i=xs.length:=by omega
    rw[List.take_of_length_le (by omega)]
    all_goals (first|rfl|exact⟨rfl,rfl⟩)
theorem CU(xs:List ay):∀(k:Int) (l j r:Nat) (p:List (Nat×Nat)) (S:Store) (rs:List (List (List D))),bI S (l,j)=some (.xf rs)→atR rs r p=some (bV (xs.map ay.enc) k)→0≤k∧k+ak (xs.map ay.enc)≤4611686018427387904→cB Tryz.prog 67 [.c (.xp (l,j) r p),.c (.d (.i .i64 k))] S (fun res S'=>res=.c (.d (.i .i64 (k+ak (xs.map ay.enc))))∧S'=S):=(CS _).1 xs (Nat.lt_succ_self _)
theorem D7(xs:List aR):∀(k:Int) (l j r:Nat) (p:List (Nat×Nat)) (S:Store) (rs:List (List (List D))),bI S (l,j)=some (.xf rs)→atR rs r p=some (bV (xs.map aR.enc) k)→0≤k∧k+ak (xs.map aR.enc)≤4611686018427387904→cB Tryz.prog 68 [.c (.xp (l,j) r p),.c (.d (.i .i64 k))] S (fun res S'=>res=.c (.d (.i .i64 (k+ak (xs.map aR.enc))))∧S'=S):=(CS _).2 xs (Nat.lt_succ_self _)
end Go.Proofs.YtocpgjlbagncjaaGreatDoor
namespace Go.Proofs.YtocpgjlbagncjaaGreatDoor
open Go Go.Ab
theorem Gm:∀n:Nat,(∀xs:List aj,SizeOf.sizeOf xs<n→∀(k:Int) (l j r:Nat) (p:List (Nat×Nat)) (S:Store) (rs:List (List (List D))),bI S (l,j)=some (.xf rs)→atR rs r p=some (xs.map aj.enc)→0≤k∧k+ak (xs.map aj.enc)≤4611686018427387904→cB Tryz.prog 45 [.c (.xp (l,j) r p),.c (.d (.i .i64 k))] S (fun res S'=>res=.c (.d (.i .i64 (k+ak (xs.map aj.enc))))∧S'=bQ S (l,j) (.xf (dG rs r p (bV (xs.map aj.enc) k)))))
 |0=>fun xs h=>by omega
 |n+1=>by
  have sW:=Gm n
  refine fun xs hn k l j r p S rs hS hp hk=> ?_
  ·have hlen:=jB (f:=aj.enc) (fun x=>by simp only[aj.aD,encS,encI,List.cons_append,List.nil_append,iQ,iP];omega) xs
   obtain⟨rows,hr⟩:∃rows,rows=xs.map aj.enc:=⟨_,rfl⟩
   have hl:rows.length=xs.length:=by rw[hr,List.length_map]
   rw[←hr] at hp hk hlen ⊢
   have ht:∀x:Ab.Obj,bI (bQ S (l,j) x) (l,j)=some x:=fun x=>dK _ _ _ _ hS
   have hA:∀new,atR (dG rs r p new) r p=some new:=fun new=>lJ hp
   have hU:∀a b,dG (dG rs r p a) r p b=dG rs r p b:=fun a b=>kT hp
   refine aG (rs:=[.tmp 4]) Tryz.checked.mixed Tryz.func45 Tryz.ntmps45 rfl rfl rfl rfl rfl ?_
   refine W1 ?_
   refine aT (ι:=Nat) Tryz.checked.mixed rfl [0,1,5] (fun i=>[.c (.xp (1+l,j) r p),.c (.d (.i .i64 (k+ak (rows.take i)))),.c (.d (.i .i64 i))])
    (fun i=>[]::bQ S (l,j) (.xf (dG rs r p (nL rows k i)))) (fun i=>i≤xs.length) (fun i=>xs.length-i) 0 ?_ ?_ (Nat.zero_le _) ?_
   ·have z0:k+((ak (rows.take 0):Nat):Int)=k:=by simp[ak]
    rw[z0]
    rfl
   ·rw[lU,lT hp,jG _ _ hS]
   intro i hi
   simp -implicitDefEqProofs (disch:=omega) only[go_sem,ht,hA,iC,hl]
   with_reducible refine dU (fun hb=> ?_) (fun hb=> ?_)<;>have h:=hb<;>try simp only[wf_preprocess] at h
   ·have hi:i<xs.length:=by omega
    have hir:i<rows.length:=by omega
    obtain⟨x,hx⟩:∃x,x=xs[i]:=⟨_,rfl⟩
    have e1:rows[i]=[.s x.bf,.sl (x.ah.map aj.enc)]:=by
     simp only[hr,List.getElem_map,←hx]
     simp only[aj.aD,encS,encI,List.cons_append,List.nil_append]
    have hm:=gI hir
    have hle:=iU (rows:=rows) (i:=i+1)
    rw[hm,e1] at hle
    rw[e1] at hm
    simp only[iQ,iP] at hle hm
    have hK:k+((ak (rows.take (i+1)):Nat):Int)=k+((ak (rows.take i):Nat):Int)+1+((ak (x.ah.map aj.enc):Nat):Int):=by rw[hm];omega
    have e2:=qd (k:=k) hir
    rw[e1] at e2
    have hC:∀row o,cellAt (jk rows k i row) i o=row[o]? :=fun row o=>kD hir
    have hG:∀row,(jk rows k i row).getD i []=row:=fun row=>mM hir
    simp -implicitDefEqProofs (disch:=omega) only[go_sem,hb,ht,hA,hU,e2,hC,hG,bW,bG,hl,bq,bU]
    refine W3 ?_
    refine aZ (bR (k+((ak (rows.take i):Nat):Int)) (by omega)) ?_
    simp -implicitDefEqProofs (disch:=omega) only[go_sem,hb,ht,hA,hU,e2,hC,hG,bW,bG,hl,bq,bU]
    refine W3 ?_
    refine bJ rfl (gQ hS hp hir (by rfl) (fun S' rs' g1 g2=>sW x.ah (by have:=List.sizeOf_lt_of_mem (List.getElem_mem hi);rw[←hx] at this;have:=aj.oO x;omega) (k+((ak (rows.take i):Nat):Int)+1) (1+l) j r _ S' rs' g1 g2 (by omega))) ?_
    simp -implicitDefEqProofs (disch:=omega) only[go_sem,hb,ht,hA,hU,e2,hC,hG,bW,bG,hl,bq,bU]
    refine W3 ?_
    refine bP (i+1) (by omega) (by rw[hK];rfl) ?_ (by omega)
    have h3:=qg (k:=k) hir
    rw[e1] at h3
    simp only[jv,sJ] at h3
    rw[←h3]
    all_goals rfl
   ·simp -implicitDefEqProofs (disch:=omega) only[go_sem,hb]
    have hi:i=xs.length:=by omega
    rw[nM (by omega),List.take_of_length_le (by omega)]
    all_goals (first|rfl|exact⟨rfl,rfl⟩)
theorem Qm(xs:List aj):∀(k:Int) (l j r:Nat) (p:List (Nat×Nat)) (S:Store) (rs:List (List (List D))),bI S (l,j)=some (.xf rs)→atR rs r p=some (xs.map aj.enc)→0≤k∧k+ak (xs.map aj.enc)≤4611686018427387904→cB Tryz.prog 45 [.c (.xp (l,j) r p),.c (.d (.i .i64 k))] S (fun res S'=>res=.c (.d (.i .i64 (k+ak (xs.map aj.enc))))∧S'=bQ S (l,j) (.xf (dG rs r p (bV (xs.map aj.enc) k)))):=(Gm _) xs (Nat.lt_succ_self _)
theorem Ug(x:aj)(k:Int)(l j b:Nat)(S:Store)(rs:List (List (List D)))(hS:bI S (l,j)=some (.xf rs))(h1:atR rs (b+1) []=some (x.ah.map aj.enc))(hk:0≤k∧k+((ak (x.ah.map aj.enc):Nat):Int)≤4611686018427387904):cB Tryz.prog 13 [.agg [.d (.s x.bf),.xp (l,j) (b+1) []],.c (.d (.i .i64 k))] S (fun res S'=>res=.c (.d (.i .i64 (k+((ak (x.ah.map aj.enc):Nat):Int))))∧S'=bQ S (l,j) (.xf (dG (rs) (b+1) [] (bV (x.ah.map aj.enc) (k))))):=by
 have ht:∀x:Ab.Obj,bI (bQ S (l,j) x) (l,j)=some x:=fun x=>dK _ _ _ _ hS
 refine aG (rs:=[.tmp 4]) Tryz.checked.mixed Tryz.func13 Tryz.ntmps13 rfl rfl rfl rfl rfl ?_
 refine W1 ?_
 refine bJ rfl (Qm x.ah (k) (1+l) j (b+1) [] _ _ (by rw[dR];first|exact hS|exact ht _) (by first|assumption|(simp(disch:=omega) only[ne_eq,vQ];assumption)) (by omega)) ?_
 simp -implicitDefEqProofs (disch:=omega) only[go_sem,bq,vI]
 try exact⟨rfl,rfl⟩
end Go.Proofs.YtocpgjlbagncjaaGreatDoor
namespace Go.Proofs.YtocpgjlbagncjaaGreatDoor
open Go Go.Ab
set_option maxHeartbeats 4000000 in
theorem Jd(xs:List aN):∀(k:Int) (l j r:Nat) (p:List (Nat×Nat)) (S:Store) (rs:List (List (List D))),bI S (l,j)=some (.xf rs)→atR rs r p=some (xs.map aN.enc)→0≤k∧k+ak (xs.map aN.enc)≤4611686018427387904→cB Tryz.prog 107 [.c (.xp (l,j) r p),.c (.d (.i .i64 k))] S (fun res S'=>res=.c (.d (.i .i64 (k+ak (xs.map aN.enc))))∧S'=bQ S (l,j) (.xf (dG rs r p (bV (xs.map aN.enc) k)))):=by
 intro k l j r p S rs hS hp hk
 have hlen:=jB (f:=aN.enc) (fun x=>by simp only[ay.aD,aN.aD,au.aD,encS,encI,List.cons_append,List.nil_append,iQ,iP];omega) xs
 obtain⟨rows,hr⟩:∃rows,rows=xs.map aN.enc:=⟨_,rfl⟩
 have hl:rows.length=xs.length:=by rw[hr,List.length_map]
 rw[←hr] at hp hk hlen ⊢
 have ht:∀x:Ab.Obj,bI (bQ S (l,j) x) (l,j)=some x:=fun x=>dK _ _ _ _ hS
 have hA:∀new,atR (dG rs r p new) r p=some new:=fun new=>lJ hp
 have hU:∀a b,dG (dG rs r p a) r p b=dG rs r p b:=fun a b=>kT hp
 refine aG (rs:=[.tmp 4]) Tryz.checked.mixed Tryz.func107 Tryz.ntmps107 rfl rfl rfl rfl rfl ?_
 refine W1 ?_
 refine aT (ι:=Nat) Tryz.checked.mixed rfl [0,1,5] (fun i=>[.c (.xp (1+l,j) r p),.c (.d (.i .i64 (k+ak (rows.take i)))),.c (.d (.i .i64 i))])
  (fun i=>[]::bQ S (l,j) (.xf (dG rs r p (nL rows k i)))) (fun i=>i≤xs.length) (fun i=>xs.length-i) 0 ?_ ?_ (Nat.zero_le _) ?_
 ·have z0:k+((ak (rows.take 0):Nat):Int)=k:=by simp[ak]
  rw[z0]
  rfl
 ·rw[lU,lT hp,jG _ _ hS]
 intro i hi
 simp -implicitDefEqProofs (disch:=omega) only[go_sem,ht,hA,iC,hl]
 with_reducible refine dU (fun hb=> ?_) (fun hb=> ?_)<;>have h:=hb<;>try simp only[wf_preprocess] at h
 ·have hi:i<xs.length:=by omega
  have hir:i<rows.length:=by omega
  obtain⟨x,hx⟩:∃x,x=xs[i]:=⟨_,rfl⟩
  have e1:rows[i]=[.s x.fName,.sl (x.aJ.map au.enc),.i .i64 x.aU.aK,.s x.aU.fName,.sl (x.aU.fArgs.map au.enc),.b x.gF,.sl (x.aA.map encS),.i .i64 x.fBody.aK,.s x.fBody.bL,.s x.fBody.fName,.i .i64 x.fBody.fN,.i .i64 x.fBody.fType.aK,.s x.fBody.fType.fName,.sl (x.fBody.fType.fArgs.map au.enc),.sl (x.fBody.fArgs.map ay.enc),.sl (x.fBody.aP.map aR.enc)]:=by
   simp only[hr,List.getElem_map,←hx]
   simp only[ay.aD,aN.aD,au.aD,encS,encI,List.cons_append,List.nil_append]
  have hm:=gI hir
  have hle:=iU (rows:=rows) (i:=i+1)
  rw[hm,e1] at hle
  rw[e1] at hm
  simp only[iQ,iP] at hle hm
  have hK:k+((ak (rows.take (i+1)):Nat):Int)=k+((ak (rows.take i):Nat):Int)+1+((ak (x.aJ.map au.enc):Nat):Int)+1+1+((ak (x.aU.fArgs.map au.enc):Nat):Int)+1+((ak (x.aA.map encS):Nat):Int)+1+1+1+1+1+1+((ak (x.fBody.fType.fArgs.map au.enc):Nat):Int)+((ak (x.fBody.fArgs.map ay.enc):Nat):Int)+((ak (x.fBody.aP.map aR.enc):Nat):Int):=by rw[hm];omega
  have e2:=qd (k:=k) hir
  rw[e1] at e2
  have hC:∀row o,cellAt (jk rows k i row) i o=row[o]? :=fun row o=>kD hir
  have hG:∀row,(jk rows k i row).getD i []=row:=fun row=>mM hir
  simp -implicitDefEqProofs (disch:=omega) only[go_sem,hb,ht,hA,hU,e2,hC,hG,bW,bG,hl,bq,bU]
  refine W3 ?_
  refine aZ (bR (k+((ak (rows.take i):Nat):Int)) (by omega)) ?_
  simp -implicitDefEqProofs (disch:=omega) only[go_sem,hb,ht,hA,hU,e2,hC,hG,bW,bG,hl,bq,bU]
  refine W3 ?_
  refine bJ rfl (gQ hS hp hir (by rfl) (fun S' rs' g1 g2=>jP x.aJ (k+((ak (rows.take i):Nat):Int)+1) (1+l) j r _ S' rs' g1 g2 (by omega))) ?_
  simp -implicitDefEqProofs (disch:=omega) only[go_sem,hb,ht,hA,hU,e2,hC,hG,bW,bG,hl,bq,bU]
  refine W3 ?_
  refine aZ (bR (k+((ak (rows.take i):Nat):Int)+1+((ak (x.aJ.map au.enc):Nat):Int)+1) (by omega)) ?_
  simp -implicitDefEqProofs (disch:=omega) only[go_sem,hb,ht,hA,hU,e2,hC,hG,bW,bG,hl,bq,bU]
  refine W3 ?_
  refine bJ rfl (gQ hS hp hir (by rfl) (fun S' rs' g1 g2=>jP x.aU.fArgs (k+((ak (rows.take i):Nat):Int)+1+((ak (x.aJ.map au.enc):Nat):Int)+1+1) (1+l) j r _ S' rs' g1 g2 (by omega))) ?_
  simp -implicitDefEqProofs (disch:=omega) only[go_sem,hb,ht,hA,hU,e2,hC,hG,bW,bG,hl,bq,bU]
  refine W3 ?_
  refine bJ rfl (gQ hS hp hir (by rfl) (fun S' rs' g1 g2=>mZ x.aA (k+((ak (rows.take i):Nat):Int)+1+((ak (x.aJ.map au.enc):Nat):Int)+1+1+((ak (x.aU.fArgs.map au.enc):Nat):Int)+1) (1+l) j r _ S' rs' g1 g2 (by omega))) ?_
  simp -implicitDefEqProofs (disch:=omega) only[go_sem,hb,ht,hA,hU,e2,hC,hG,bW,bG,hl,bq,bU]
  refine W3 ?_
  refine aZ (bR (k+((ak (rows.take i):Nat):Int)+1+((ak (x.aJ.map au.enc):Nat):Int)+1+1+((ak (x.aU.fArgs.map au.enc):Nat):Int)+1+((ak (x.aA.map encS):Nat):Int)+1) (by omega)) ?_
  simp -implicitDefEqProofs (disch:=omega) only[go_sem,hb,ht,hA,hU,e2,hC,hG,bW,bG,hl,bq,bU]
  refine W3 ?_
  refine aZ (bR (k+((ak (rows.take i):Nat):Int)+1+((ak (x.aJ.map au.enc):Nat):Int)+1+1+((ak (x.aU.fArgs.map au.enc):Nat):Int)+1+((ak (x.aA.map encS):Nat):Int)+1+1) (by omega)) ?_
  simp -implicitDefEqProofs (disch:=omega) only[go_sem,hb,ht,hA,hU,e2,hC,hG,bW,bG,hl,bq,bU]
  refine W3 ?_
  refine aZ (bR (k+((ak (rows.take i):Nat):Int)+1+((ak (x.aJ.map au.enc):Nat):Int)+1+1+((ak (x.aU.fArgs.map au.enc):Nat):Int)+1+((ak (x.aA.map encS):Nat):Int)+1+1+1+1+1) (by omega)) ?_
  simp -implicitDefEqProofs (disch:=omega) only[go_sem,hb,ht,hA,hU,e2,hC,hG,bW,bG,hl,bq,bU]
  refine W3 ?_
  refine bJ rfl (gQ hS hp hir (by rfl) (fun S' rs' g1 g2=>jP x.fBody.fType.fArgs (k+((ak (rows.take i):Nat):Int)+1+((ak (x.aJ.map au.enc):Nat):Int)+1+1+((ak (x.aU.fArgs.map au.enc):Nat):Int)+1+((ak (x.aA.map encS):Nat):Int)+1+1+1+1+1+1) (1+l) j r _ S' rs' g1 g2 (by omega))) ?_
  simp -implicitDefEqProofs (disch:=omega) only[go_sem,hb,ht,hA,hU,e2,hC,hG,bW,bG,hl,bq,bU]
  refine W3 ?_
  refine bJ rfl (gQ hS hp hir (by rfl) (fun S' rs' g1 g2=>CR x.fBody.fArgs (k+((ak (rows.take i):Nat):Int)+1+((ak (x.aJ.map au.enc):Nat):Int)+1+1+((ak (x.aU.fArgs.map au.enc):Nat):Int)+1+((ak (x.aA.map encS):Nat):Int)+1+1+1+1+1+1+((ak (x.fBody.fType.fArgs.map au.enc):Nat):Int)) (1+l) j r _ S' rs' g1 g2 (by omega))) ?_
  simp -implicitDefEqProofs (disch:=omega) only[go_sem,hb,ht,hA,hU,e2,hC,hG,bW,bG,hl,bq,bU]
  refine W3 ?_
  refine bJ rfl (gQ hS hp hir (by rfl) (fun S' rs' g1 g2=>D6 x.fBody.aP (k+((ak (rows.take i):Nat):Int)+1+((ak (x.aJ.map au.enc):Nat):Int)+1+1+((ak (x.aU.fArgs.map au.enc):Nat):Int)+1+((ak (x.aA.map encS):Nat):Int)+1+1+1+1+1+1+((ak (x.fBody.fType.fArgs.map au.enc):Nat):Int)+((ak (x.fBody.fArgs.map ay.enc):Nat):Int)) (1+l) j r _ S' rs' g1 g2 (by omega))) ?_
  simp -implicitDefEqProofs (disch:=omega) only[go_sem,hb,ht,hA,hU,e2,hC,hG,bW,bG,hl,bq,bU]
  refine W3 ?_
  refine bP (i+1) (by omega) (by rw[hK];rfl) ?_ (by omega)
  have h3:=qg (k:=k) hir
  rw[e1] at h3
  simp only[jv,sJ] at h3
  rw[←h3]
  all_goals rfl
 ·simp -implicitDefEqProofs (disch:=omega) only[go_sem,hb]
  have hi:i=xs.length:=by omega
  rw[nM (by omega),List.take_of_length_le (by omega)]
  all_goals (first|rfl|exact⟨rfl,rfl⟩)
set_option maxHeartbeats 4000000 in
theorem Je(xs:List aN):∀(k:Int) (l j r:Nat) (p:List (Nat×Nat)) (S:Store) (rs:List (List (List D))),bI S (l,j)=some (.xf rs)→atR rs r p=some (bV (xs.map aN.enc) k)→0≤k∧k+ak (xs.map aN.enc)≤4611686018427387904→cB Tryz.prog 113 [.c (.xp (l,j) r p),.c (.d (.i .i64 k))] S (fun res S'=>res=.c (.d (.i .i64 (k+ak (xs.map aN.enc))))∧S'=S):=by
 intro k l j r p S rs hS hp hk
 have hlen:=jB (f:=aN.enc) (fun x=>by simp only[ay.aD,aN.aD,au.aD,encS,encI,List.cons_append,List.nil_append,iQ,iP];omega) xs
 obtain⟨rows,hr⟩:∃rows,rows=xs.map aN.enc:=⟨_,rfl⟩
 have hl:rows.length=xs.length:=by rw[hr,List.length_map]
 rw[←hr] at hp hk hlen ⊢
 refine aG (rs:=[.tmp 4]) Tryz.checked.mixed Tryz.func113 Tryz.ntmps113 rfl rfl rfl rfl rfl ?_
 refine W1 ?_
 refine aT (ι:=Nat) Tryz.checked.mixed rfl [0,1,5] (fun i=>[.c (.xp (1+l,j) r p),.c (.d (.i .i64 (k+ak (rows.take i)))),.c (.d (.i .i64 i))])
  (fun i=>[]::S) (fun i=>i≤xs.length) (fun i=>xs.length-i) 0 ?_ rfl (Nat.zero_le _) ?_
 ·have z0:k+((ak (rows.take 0):Nat):Int)=k:=by simp[ak]
  rw[z0]
  rfl
 intro i hi
 simp -implicitDefEqProofs (disch:=omega) only[go_sem,hS,hp,aW,hl]
 with_reducible refine dU (fun hb=> ?_) (fun hb=> ?_)<;>have h:=hb<;>try simp only[wf_preprocess] at h
 ·have hi:i<xs.length:=by omega
  have hir:i<rows.length:=by omega
  obtain⟨x,hx⟩:∃x,x=xs[i]:=⟨_,rfl⟩
  have e1:rows[i]=[.s x.fName,.sl (x.aJ.map au.enc),.i .i64 x.aU.aK,.s x.aU.fName,.sl (x.aU.fArgs.map au.enc),.b x.gF,.sl (x.aA.map encS),.i .i64 x.fBody.aK,.s x.fBody.bL,.s x.fBody.fName,.i .i64 x.fBody.fN,.i .i64 x.fBody.fType.aK,.s x.fBody.fType.fName,.sl (x.fBody.fType.fArgs.map au.enc),.sl (x.fBody.fArgs.map ay.enc),.sl (x.fBody.aP.map aR.enc)]:=by
   simp only[hr,List.getElem_map,←hx]
   simp only[ay.aD,aN.aD,au.aD,encS,encI,List.cons_append,List.nil_append]
  have hm:=gI hir
  have hle:=iU (rows:=rows) (i:=i+1)
  rw[hm,e1] at hle
  rw[e1] at hm
  simp only[iQ,iP] at hle hm
  have hK:k+((ak (rows.take (i+1)):Nat):Int)=k+((ak (rows.take i):Nat):Int)+1+((ak (x.aJ.map au.enc):Nat):Int)+1+1+((ak (x.aU.fArgs.map au.enc):Nat):Int)+1+((ak (x.aA.map encS):Nat):Int)+1+1+1+1+1+1+((ak (x.fBody.fType.fArgs.map au.enc):Nat):Int)+((ak (x.fBody.fArgs.map ay.enc):Nat):Int)+((ak (x.fBody.aP.map aR.enc):Nat):Int):=by rw[hm];omega
  have e2:jv rows[i] (k+((ak (rows.take i):Nat):Int))=[.s (eU (k+((ak (rows.take i):Nat):Int))),.sl (bV (x.aJ.map au.enc) (k+((ak (rows.take i):Nat):Int)+1)),.i .i64 (k+((ak (rows.take i):Nat):Int)+1+((ak (x.aJ.map au.enc):Nat):Int)),.s (eU (k+((ak (rows.take i):Nat):Int)+1+((ak (x.aJ.map au.enc):Nat):Int)+1)),.sl (bV (x.aU.fArgs.map au.enc) (k+((ak (rows.take i):Nat):Int)+1+((ak (x.aJ.map au.enc):Nat):Int)+1+1)),.b (decide ((k+((ak (rows.take i):Nat):Int)+1+((ak (x.aJ.map au.enc):Nat):Int)+1+1+((ak (x.aU.fArgs.map au.enc):Nat):Int)).tmod 3=0)),.sl (bV (x.aA.map encS) (k+((ak (rows.take i):Nat):Int)+1+((ak (x.aJ.map au.enc):Nat):Int)+1+1+((ak (x.aU.fArgs.map au.enc):Nat):Int)+1)),.i .i64 (k+((ak (rows.take i):Nat):Int)+1+((ak (x.aJ.map au.enc):Nat):Int)+1+1+((ak (x.aU.fArgs.map au.enc):Nat):Int)+1+((ak (x.aA.map encS):Nat):Int)),.s (eU (k+((ak (rows.take i):Nat):Int)+1+((ak (x.aJ.map au.enc):Nat):Int)+1+1+((ak (x.aU.fArgs.map au.enc):Nat):Int)+1+((ak (x.aA.map encS):Nat):Int)+1)),.s (eU (k+((ak (rows.take i):Nat):Int)+1+((ak (x.aJ.map au.enc):Nat):Int)+1+1+((ak (x.aU.fArgs.map au.enc):Nat):Int)+1+((ak (x.aA.map encS):Nat):Int)+1+1)),.i .i64 (k+((ak (rows.take i):Nat):Int)+1+((ak (x.aJ.map au.enc):Nat):Int)+1+1+((ak (x.aU.fArgs.map au.enc):Nat):Int)+1+((ak (x.aA.map encS):Nat):Int)+1+1+1),.i .i64 (k+((ak (rows.take i):Nat):Int)+1+((ak (x.aJ.map au.enc):Nat):Int)+1+1+((ak (x.aU.fArgs.map au.enc):Nat):Int)+1+((ak (x.aA.map encS):Nat):Int)+1+1+1+1),.s (eU (k+((ak (rows.take i):Nat):Int)+1+((ak (x.aJ.map au.enc):Nat):Int)+1+1+((ak (x.aU.fArgs.map au.enc):Nat):Int)+1+((ak (x.aA.map encS):Nat):Int)+1+1+1+1+1)),.sl (bV (x.fBody.fType.fArgs.map au.enc) (k+((ak (rows.take i):Nat):Int)+1+((ak (x.aJ.map au.enc):Nat):Int)+1+1+((ak (x.aU.fArgs.map au.enc):Nat):Int)+1+((ak (x.aA.map encS):Nat):Int)+1+1+1+1+1+1)),.sl (bV (x.fBody.fArgs.map ay.enc) (k+((ak (rows.take i):Nat):Int)+1+((ak (x.aJ.map au.enc):Nat):Int)+1+1+((ak (x.aU.fArgs.map au.enc):Nat):Int)+1+((ak (x.aA.map encS):Nat):Int)+1+1+1+1+1+1+((ak (x.fBody.fType.fArgs.map au.enc):Nat):Int))),.sl (bV (x.fBody.aP.map aR.enc) (k+((ak (rows.take i):Nat):Int)+1+((ak (x.aJ.map au.enc):Nat):Int)+1+1+((ak (x.aU.fArgs.map au.enc):Nat):Int)+1+((ak (x.aA.map encS):Nat):Int)+1+1+1+1+1+1+((ak (x.fBody.fType.fArgs.map au.enc):Nat):Int)+((ak (x.fBody.fArgs.map ay.enc):Nat):Int)))]:=by
   rw[e1]
   simp only[jv,sJ]
   all_goals rfl
  have hC:∀o,cellAt (bV rows k) i o=([.s (eU (k+((ak (rows.take i):Nat):Int))),.sl (bV (x.aJ.map au.enc) (k+((ak (rows.take i):Nat):Int)+1)),.i .i64 (k+((ak (rows.take i):Nat):Int)+1+((ak (x.aJ.map au.enc):Nat):Int)),.s (eU (k+((ak (rows.take i):Nat):Int)+1+((ak (x.aJ.map au.enc):Nat):Int)+1)),.sl (bV (x.aU.fArgs.map au.enc) (k+((ak (rows.take i):Nat):Int)+1+((ak (x.aJ.map au.enc):Nat):Int)+1+1)),.b (decide ((k+((ak (rows.take i):Nat):Int)+1+((ak (x.aJ.map au.enc):Nat):Int)+1+1+((ak (x.aU.fArgs.map au.enc):Nat):Int)).tmod 3=0)),.sl (bV (x.aA.map encS) (k+((ak (rows.take i):Nat):Int)+1+((ak (x.aJ.map au.enc):Nat):Int)+1+1+((ak (x.aU.fArgs.map au.enc):Nat):Int)+1)),.i .i64 (k+((ak (rows.take i):Nat):Int)+1+((ak (x.aJ.map au.enc):Nat):Int)+1+1+((ak (x.aU.fArgs.map au.enc):Nat):Int)+1+((ak (x.aA.map encS):Nat):Int)),.s (eU (k+((ak (rows.take i):Nat):Int)+1+((ak (x.aJ.map au.enc):Nat):Int)+1+1+((ak (x.aU.fArgs.map au.enc):Nat):Int)+1+((ak (x.aA.map encS):Nat):Int)+1)),.s (eU (k+((ak (rows.take i):Nat):Int)+1+((ak (x.aJ.map au.enc):Nat):Int)+1+1+((ak (x.aU.fArgs.map au.enc):Nat):Int)+1+((ak (x.aA.map encS):Nat):Int)+1+1)),.i .i64 (k+((ak (rows.take i):Nat):Int)+1+((ak (x.aJ.map au.enc):Nat):Int)+1+1+((ak (x.aU.fArgs.map au.enc):Nat):Int)+1+((ak (x.aA.map encS):Nat):Int)+1+1+1),.i .i64 (k+((ak (rows.take i):Nat):Int)+1+((ak (x.aJ.map au.enc):Nat):Int)+1+1+((ak (x.aU.fArgs.map au.enc):Nat):Int)+1+((ak (x.aA.map encS):Nat):Int)+1+1+1+1),.s (eU (k+((ak (rows.take i):Nat):Int)+1+((ak (x.aJ.map au.enc):Nat):Int)+1+1+((ak (x.aU.fArgs.map au.enc):Nat):Int)+1+((ak (x.aA.map encS):Nat):Int)+1+1+1+1+1)),.sl (bV (x.fBody.fType.fArgs.map au.enc) (k+((ak (rows.take i):Nat):Int)+1+((ak (x.aJ.map au.enc):Nat):Int)+1+1+((ak (x.aU.fArgs.map au.enc):Nat):Int)+1+((ak (x.aA.map encS):Nat):Int)+1+1+1+1+1+1)),.sl (bV (x.fBody.fArgs.map ay.enc) (k+((ak (rows.take i):Nat):Int)+1+((ak (x.aJ.map au.enc):Nat):Int)+1+1+((ak (x.aU.fArgs.map au.enc):Nat):Int)+1+((ak (x.aA.map encS):Nat):Int)+1+1+1+1+1+1+((ak (x.fBody.fType.fArgs.map au.enc):Nat):Int))),.sl (bV (x.fBody.aP.map aR.enc) (k+((ak (rows.take i):Nat):Int)+1+((ak (x.aJ.map au.enc):Nat):Int)+1+1+((ak (x.aU.fArgs.map au.enc):Nat):Int)+1+((ak (x.aA.map encS):Nat):Int)+1+1+1+1+1+1+((ak (x.fBody.fType.fArgs.map au.enc):Nat):Int)+((ak (x.fBody.fArgs.map ay.enc):Nat):Int)))]:List D)[o]? :=fun o=>by
   have h1:(bV rows k)[i]? =some (jv rows[i] (k+((ak (rows.take i):Nat):Int))):=by
    have h2:=gV (k:=k) hir
    have h3:i<(bV rows k).length:=by rw[aW];exact hir
    rw[List.getD_eq_getElem?_getD,List.getElem?_eq_getElem h3,Option.getD_some] at h2
    rw[List.getElem?_eq_getElem h3,h2]
   unfold cellAt
   rw[h1,Option.bind_some,e2]
  have hG:=gV (k:=k) hir
  rw[e2] at hG
  simp -implicitDefEqProofs (disch:=omega) only[go_sem,hb,hS,hp,hC,hG,aW,hl,bU]
  refine W3 ?_
  refine aZ (bR (k+((ak (rows.take i):Nat):Int)) (by omega)) ?_
  simp -implicitDefEqProofs (disch:=omega) only[go_sem,hb,hS,hp,hC,hG,aW,hl,bU]
  refine W3 ?_
  refine bJ rfl (jQ x.aJ (k+((ak (rows.take i):Nat):Int)+1) (1+l) j r _ _ _ (by rw[dR];exact hS) (fI hp (by rw[hC];rfl)) (by omega)) ?_
  simp -implicitDefEqProofs (disch:=omega) only[go_sem,hb,hS,hp,hC,hG,aW,hl,bU,fC]
  refine W3 ?_
  refine aZ (bR (k+((ak (rows.take i):Nat):Int)+1+((ak (x.aJ.map au.enc):Nat):Int)+1) (by omega)) ?_
  simp -implicitDefEqProofs (disch:=omega) only[go_sem,hb,hS,hp,hC,hG,aW,hl,bU]
  refine W3 ?_
  refine bJ rfl (jQ x.aU.fArgs (k+((ak (rows.take i):Nat):Int)+1+((ak (x.aJ.map au.enc):Nat):Int)+1+1) (1+l) j r _ _ _ (by rw[dR];exact hS) (fI hp (by rw[hC];rfl)) (by omega)) ?_
  simp -implicitDefEqProofs (disch:=omega) only[go_sem,hb,hS,hp,hC,hG,aW,hl,bU,fC]
  refine W3 ?_
  refine bJ rfl (ng x.aA (k+((ak (rows.take i):Nat):Int)+1+((ak (x.aJ.map au.enc):Nat):Int)+1+1+((ak (x.aU.fArgs.map au.enc):Nat):Int)+1) (1+l) j r _ _ _ (by rw[dR];exact hS) (fI hp (by rw[hC];rfl)) (by omega)) ?_
  simp -implicitDefEqProofs (disch:=omega) only[go_sem,hb,hS,hp,hC,hG,aW,hl,bU,fC]
  refine W3 ?_
  refine aZ (bR (k+((ak (rows.take i):Nat):Int)+1+((ak (x.aJ.map au.enc):Nat):Int)+1+1+((ak (x.aU.fArgs.map au.enc):Nat):Int)+1+((ak (x.aA.map encS):Nat):Int)+1) (by omega)) ?_
  simp -implicitDefEqProofs (disch:=omega) only[go_sem,hb,hS,hp,hC,hG,aW,hl,bU]
  refine W3 ?_
  refine aZ (bR (k+((ak (rows.take i):Nat):Int)+1+((ak (x.aJ.map au.enc):Nat):Int)+1+1+((ak (x.aU.fArgs.map au.enc):Nat):Int)+1+((ak (x.aA.map encS):Nat):Int)+1+1) (by omega)) ?_
  simp -implicitDefEqProofs (disch:=omega) only[go_sem,hb,hS,hp,hC,hG,aW,hl,bU]
  refine W3 ?_
  refine aZ (bR (k+((ak (rows.take i):Nat):Int)+1+((ak (x.aJ.map au.enc):Nat):Int)+1+1+((ak (x.aU.fArgs.map au.enc):Nat):Int)+1+((ak (x.aA.map encS):Nat):Int)+1+1+1+1+1) (by omega)) ?_
  simp -implicitDefEqProofs (disch:=omega) only[go_sem,hb,hS,hp,hC,hG,aW,hl,bU]
  refine W3 ?_
  refine bJ rfl (jQ x.fBody.fType.fArgs (k+((ak (rows.take i):Nat):Int)+1+((ak (x.aJ.map au.enc):Nat):Int)+1+1+((ak (x.aU.fArgs.map au.enc):Nat):Int)+1+((ak (x.aA.map encS):Nat):Int)+1+1+1+1+1+1) (1+l) j r _ _ _ (by rw[dR];exact hS) (fI hp (by rw[hC];rfl)) (by omega)) ?_
  simp -implicitDefEqProofs (disch:=omega) only[go_sem,hb,hS,hp,hC,hG,aW,hl,bU,fC]
  refine W3 ?_
  refine bJ rfl (CU x.fBody.fArgs (k+((ak (rows.take i):Nat):Int)+1+((ak (x.aJ.map au.enc):Nat):Int)+1+1+((ak (x.aU.fArgs.map au.enc):Nat):Int)+1+((ak (x.aA.map encS):Nat):Int)+1+1+1+1+1+1+((ak (x.fBody.fType.fArgs.map au.enc):Nat):Int)) (1+l) j r _ _ _ (by rw[dR];exact hS) (fI hp (by rw[hC];rfl)) (by omega)) ?_
  simp -implicitDefEqProofs (disch:=omega) only[go_sem,hb,hS,hp,hC,hG,aW,hl,bU,fC]
  refine W3 ?_
  refine bJ rfl (D7 x.fBody.aP (k+((ak (rows.take i):Nat):Int)+1+((ak (x.aJ.map au.enc):Nat):Int)+1+1+((ak (x.aU.fArgs.map au.enc):Nat):Int)+1+((ak (x.aA.map encS):Nat):Int)+1+1+1+1+1+1+((ak (x.fBody.fType.fArgs.map au.enc):Nat):Int)+((ak (x.fBody.fArgs.map ay.enc):Nat):Int)) (1+l) j r _ _ _ (by rw[dR];exact hS) (fI hp (by rw[hC];rfl)) (by omega)) ?_
  simp -implicitDefEqProofs (disch:=omega) only[go_sem,hb,hS,hp,hC,hG,aW,hl,bU,fC]
  refine W3 ?_
  refine bP (i+1) (by omega) (by rw[hK];rfl) rfl (by omega)
 ·simp -implicitDefEqProofs (disch:=omega) only[go_sem,hb]
  have hi:i=xs.length:=by omega
  rw[List.take_of_length_le (by omega)]
  all_goals (first|rfl|exact⟨rfl,rfl⟩)
end Go.Proofs.YtocpgjlbagncjaaGreatDoor
namespace Go.Proofs.YtocpgjlbagncjaaGreatDoor
open Go Go.Ab
set_option maxHeartbeats 4000000 in
theorem Qn(xs:List bC):∀(k:Int) (l j r:Nat) (p:List (Nat×Nat)) (S:Store) (rs:List (List (List D))),bI S (l,j)=some (.xf rs)→atR rs r p=some (xs.map bC.enc)→0≤k∧k+ak (xs.map bC.enc)≤4611686018427387904→cB Tryz.prog 47 [.c (.xp (l,j) r p),.c (.d (.i .i64 k))] S (fun res S'=>res=.c (.d (.i .i64 (k+ak (xs.map bC.enc))))∧S'=bQ S (l,j) (.xf (dG rs r p (bV (xs.map bC.enc) k)))):=by
 intro k l j r p S rs hS hp hk
 have hlen:=jB (f:=bC.enc) (fun x=>by simp only[bC.aD,encS,encI,List.cons_append,List.nil_append,iQ,iP];omega) xs
 obtain⟨rows,hr⟩:∃rows,rows=xs.map bC.enc:=⟨_,rfl⟩
 have hl:rows.length=xs.length:=by rw[hr,List.length_map]
 rw[←hr] at hp hk hlen ⊢
 have ht:∀x:Ab.Obj,bI (bQ S (l,j) x) (l,j)=some x:=fun x=>dK _ _ _ _ hS
 have hA:∀new,atR (dG rs r p new) r p=some new:=fun new=>lJ hp
 have hU:∀a b,dG (dG rs r p a) r p b=dG rs r p b:=fun a b=>kT hp
 refine aG (rs:=[.tmp 4]) Tryz.checked.mixed Tryz.func47 Tryz.ntmps47 rfl rfl rfl rfl rfl ?_
 refine W1 ?_
 refine aT (ι:=Nat) Tryz.checked.mixed rfl [0,1,5] (fun i=>[.c (.xp (1+l,j) r p),.c (.d (.i .i64 (k+ak (rows.take i)))),.c (.d (.i .i64 i))])
  (fun i=>[]::bQ S (l,j) (.xf (dG rs r p (nL rows k i)))) (fun i=>i≤xs.length) (fun i=>xs.length-i) 0 ?_ ?_ (Nat.zero_le _) ?_
 ·have z0:k+((ak (rows.take 0):Nat):Int)=k:=by simp[ak]
  rw[z0]
  rfl
 ·rw[lU,lT hp,jG _ _ hS]
 intro i hi
 simp -implicitDefEqProofs (disch:=omega) only[go_sem,ht,hA,iC,hl]
 with_reducible refine dU (fun hb=> ?_) (fun hb=> ?_)<;>have h:=hb<;>try simp only[wf_preprocess] at h
 ·have hi:i<xs.length:=by omega
  have hir:i<rows.length:=by omega
  obtain⟨x,hx⟩:∃x,x=xs[i]:=⟨_,rfl⟩
  have e1:rows[i]=[.s x.fName,.sl (x.bF.map encS),.b x.kY,.b x.bK,.sl (x.aC.map aN.enc)]:=by
   simp only[hr,List.getElem_map,←hx]
   simp only[bC.aD,encS,encI,List.cons_append,List.nil_append]
  have hm:=gI hir
  have hle:=iU (rows:=rows) (i:=i+1)
  rw[hm,e1] at hle
  rw[e1] at hm
  simp only[iQ,iP] at hle hm
  have hK:k+((ak (rows.take (i+1)):Nat):Int)=k+((ak (rows.take i):Nat):Int)+1+((ak (x.bF.map encS):Nat):Int)+1+1+((ak (x.aC.map aN.enc):Nat):Int):=by rw[hm];omega
  have e2:=qd (k:=k) hir
  rw[e1] at e2
  have hC:∀row o,cellAt (jk rows k i row) i o=row[o]? :=fun row o=>kD hir
  have hG:∀row,(jk rows k i row).getD i []=row:=fun row=>mM hir
  simp -implicitDefEqProofs (disch:=omega) only[go_sem,hb,ht,hA,hU,e2,hC,hG,bW,bG,hl,bq,bU]
  refine W3 ?_
  refine aZ (bR (k+((ak (rows.take i):Nat):Int)) (by omega)) ?_
  simp -implicitDefEqProofs (disch:=omega) only[go_sem,hb,ht,hA,hU,e2,hC,hG,bW,bG,hl,bq,bU]
  refine W3 ?_
  refine bJ rfl (gQ hS hp hir (by rfl) (fun S' rs' g1 g2=>mZ x.bF (k+((ak (rows.take i):Nat):Int)+1) (1+l) j r _ S' rs' g1 g2 (by omega))) ?_
  simp -implicitDefEqProofs (disch:=omega) only[go_sem,hb,ht,hA,hU,e2,hC,hG,bW,bG,hl,bq,bU]
  refine W3 ?_
  refine bJ rfl (gQ hS hp hir (by rfl) (fun S' rs' g1 g2=>Jd x.aC (k+((ak (rows.take i):Nat):Int)+1+((ak (x.bF.map encS):Nat):Int)+1+1) (1+l) j r _ S' rs' g1 g2 (by omega))) ?_
  simp -implicitDefEqProofs (disch:=omega) only[go_sem,hb,ht,hA,hU,e2,hC,hG,bW,bG,hl,bq,bU]
  refine W3 ?_
  refine bP (i+1) (by omega) (by rw[hK];rfl) ?_ (by omega)
  have h3:=qg (k:=k) hir
  rw[e1] at h3
  simp only[jv,sJ] at h3
  rw[←h3]
  all_goals rfl
 ·simp -implicitDefEqProofs (disch:=omega) only[go_sem,hb]
  have hi:i=xs.length:=by omega
  rw[nM (by omega),List.take_of_length_le (by omega)]
  all_goals (first|rfl|exact⟨rfl,rfl⟩)
set_option maxHeartbeats 4000000 in
theorem Qo(xs:List bC):∀(k:Int) (l j r:Nat) (p:List (Nat×Nat)) (S:Store) (rs:List (List (List D))),bI S (l,j)=some (.xf rs)→atR rs r p=some (bV (xs.map bC.enc) k)→0≤k∧k+ak (xs.map bC.enc)≤4611686018427387904→cB Tryz.prog 52 [.c (.xp (l,j) r p),.c (.d (.i .i64 k))] S (fun res S'=>res=.c (.d (.i .i64 (k+ak (xs.map bC.enc))))∧S'=S):=by
 intro k l j r p S rs hS hp hk
 have hlen:=jB (f:=bC.enc) (fun x=>by simp only[bC.aD,encS,encI,List.cons_append,List.nil_append,iQ,iP];omega) xs
 obtain⟨rows,hr⟩:∃rows,rows=xs.map bC.enc:=⟨_,rfl⟩
 have hl:rows.length=xs.length:=by rw[hr,List.length_map]
 rw[←hr] at hp hk hlen ⊢
 refine aG (rs:=[.tmp 4]) Tryz.checked.mixed Tryz.func52 Tryz.ntmps52 rfl rfl rfl rfl rfl ?_
 refine W1 ?_
 refine aT (ι:=Nat) Tryz.checked.mixed rfl [0,1,5] (fun i=>[.c (.xp (1+l,j) r p),.c (.d (.i .i64 (k+ak (rows.take i)))),.c (.d (.i .i64 i))])
  (fun i=>[]::S) (fun i=>i≤xs.length) (fun i=>xs.length-i) 0 ?_ rfl (Nat.zero_le _) ?_
 ·have z0:k+((ak (rows.take 0):Nat):Int)=k:=by simp[ak]
  rw[z0]
  rfl
 intro i hi
 simp -implicitDefEqProofs (disch:=omega) only[go_sem,hS,hp,aW,hl]
 with_reducible refine dU (fun hb=> ?_) (fun hb=> ?_)<;>have h:=hb<;>try simp only[wf_preprocess] at h
 ·have hi:i<xs.length:=by omega
  have hir:i<rows.length:=by omega
  obtain⟨x,hx⟩:∃x,x=xs[i]:=⟨_,rfl⟩
  have e1:rows[i]=[.s x.fName,.sl (x.bF.map encS),.b x.kY,.b x.bK,.sl (x.aC.map aN.enc)]:=by
   simp only[hr,List.getElem_map,←hx]
   simp only[bC.aD,encS,encI,List.cons_append,List.nil_append]
  have hm:=gI hir
  have hle:=iU (rows:=rows) (i:=i+1)
  rw[hm,e1] at hle
  rw[e1] at hm
  simp only[iQ,iP] at hle hm
  have hK:k+((ak (rows.take (i+1)):Nat):Int)=k+((ak (rows.take i):Nat):Int)+1+((ak (x.bF.map encS):Nat):Int)+1+1+((ak (x.aC.map aN.enc):Nat):Int):=by rw[hm];omega
  have e2:jv rows[i] (k+((ak (rows.take i):Nat):Int))=[.s (eU (k+((ak (rows.take i):Nat):Int))),.sl (bV (x.bF.map encS) (k+((ak (rows.take i):Nat):Int)+1)),.b (decide ((k+((ak (rows.take i):Nat):Int)+1+((ak (x.bF.map encS):Nat):Int)).tmod 3=0)),.b (decide ((k+((ak (rows.take i):Nat):Int)+1+((ak (x.bF.map encS):Nat):Int)+1).tmod 3=0)),.sl (bV (x.aC.map aN.enc) (k+((ak (rows.take i):Nat):Int)+1+((ak (x.bF.map encS):Nat):Int)+1+1))]:=by
   rw[e1]
   simp only[jv,sJ]
   all_goals rfl
  have hC:∀o,cellAt (bV rows k) i o=([.s (eU (k+((ak (rows.take i):Nat):Int))),.sl (bV (x.bF.map encS) (k+((ak (rows.take i):Nat):Int)+1)),.b (decide ((k+((ak (rows.take i):Nat):Int)+1+((ak (x.bF.map encS):Nat):Int)).tmod 3=0)),.b (decide ((k+((ak (rows.take i):Nat):Int)+1+((ak (x.bF.map encS):Nat):Int)+1).tmod 3=0)),.sl (bV (x.aC.map aN.enc) (k+((ak (rows.take i):Nat):Int)+1+((ak (x.bF.map encS):Nat):Int)+1+1))]:List D)[o]? :=fun o=>by
   have h1:(bV rows k)[i]? =some (jv rows[i] (k+((ak (rows.take i):Nat):Int))):=by
    have h2:=gV (k:=k) hir
    have h3:i<(bV rows k).length:=by rw[aW];exact hir
    rw[List.getD_eq_getElem?_getD,List.getElem?_eq_getElem h3,Option.getD_some] at h2
    rw[List.getElem?_eq_getElem h3,h2]
   unfold cellAt
   rw[h1,Option.bind_some,e2]
  have hG:=gV (k:=k) hir
  rw[e2] at hG
  simp -implicitDefEqProofs (disch:=omega) only[go_sem,hb,hS,hp,hC,hG,aW,hl,bU]
  refine W3 ?_
  refine aZ (bR (k+((ak (rows.take i):Nat):Int)) (by omega)) ?_
  simp -implicitDefEqProofs (disch:=omega) only[go_sem,hb,hS,hp,hC,hG,aW,hl,bU]
  refine W3 ?_
  refine bJ rfl (ng x.bF (k+((ak (rows.take i):Nat):Int)+1) (1+l) j r _ _ _ (by rw[dR];exact hS) (fI hp (by rw[hC];rfl)) (by omega)) ?_
  simp -implicitDefEqProofs (disch:=omega) only[go_sem,hb,hS,hp,hC,hG,aW,hl,bU,fC]
  refine W3 ?_
  refine bJ rfl (Je x.aC (k+((ak (rows.take i):Nat):Int)+1+((ak (x.bF.map encS):Nat):Int)+1+1) (1+l) j r _ _ _ (by rw[dR];exact hS) (fI hp (by rw[hC];rfl)) (by omega)) ?_
  simp -implicitDefEqProofs (disch:=omega) only[go_sem,hb,hS,hp,hC,hG,aW,hl,bU,fC]
  refine W3 ?_
  refine bP (i+1) (by omega) (by rw[hK];rfl) rfl (by omega)
 ·simp -implicitDefEqProofs (disch:=omega) only[go_sem,hb]
  have hi:i=xs.length:=by omega
  rw[List.take_of_length_le (by omega)]
  all_goals (first|rfl|exact⟨rfl,rfl⟩)
end Go.Proofs.YtocpgjlbagncjaaGreatDoor
namespace Go.Proofs.YtocpgjlbagncjaaGreatDoor
open Go Go.Ab
set_option maxHeartbeats 4000000 in
theorem Gq(xs:List aM):∀(k:Int) (l j r:Nat) (p:List (Nat×Nat)) (S:Store) (rs:List (List (List D))),bI S (l,j)=some (.xf rs)→atR rs r p=some (xs.map aM.enc)→0≤k∧k+ak (xs.map aM.enc)≤4611686018427387904→cB Tryz.prog 108 [.c (.xp (l,j) r p),.c (.d (.i .i64 k))] S (fun res S'=>res=.c (.d (.i .i64 (k+ak (xs.map aM.enc))))∧S'=bQ S (l,j) (.xf (dG rs r p (bV (xs.map aM.enc) k)))):=by
 intro k l j r p S rs hS hp hk
 have hlen:=jB (f:=aM.enc) (fun x=>by simp only[aM.aD,encS,encI,List.cons_append,List.nil_append,iQ,iP];omega) xs
 obtain⟨rows,hr⟩:∃rows,rows=xs.map aM.enc:=⟨_,rfl⟩
 have hl:rows.length=xs.length:=by rw[hr,List.length_map]
 rw[←hr] at hp hk hlen ⊢
 have ht:∀x:Ab.Obj,bI (bQ S (l,j) x) (l,j)=some x:=fun x=>dK _ _ _ _ hS
 have hA:∀new,atR (dG rs r p new) r p=some new:=fun new=>lJ hp
 have hU:∀a b,dG (dG rs r p a) r p b=dG rs r p b:=fun a b=>kT hp
 refine aG (rs:=[.tmp 4]) Tryz.checked.mixed Tryz.func108 Tryz.ntmps108 rfl rfl rfl rfl rfl ?_
 refine W1 ?_
 refine aT (ι:=Nat) Tryz.checked.mixed rfl [0,1,5] (fun i=>[.c (.xp (1+l,j) r p),.c (.d (.i .i64 (k+ak (rows.take i)))),.c (.d (.i .i64 i))])
  (fun i=>[]::bQ S (l,j) (.xf (dG rs r p (nL rows k i)))) (fun i=>i≤xs.length) (fun i=>xs.length-i) 0 ?_ ?_ (Nat.zero_le _) ?_
 ·have z0:k+((ak (rows.take 0):Nat):Int)=k:=by simp[ak]
  rw[z0]
  rfl
 ·rw[lU,lT hp,jG _ _ hS]
 intro i hi
 simp -implicitDefEqProofs (disch:=omega) only[go_sem,ht,hA,iC,hl]
 with_reducible refine dU (fun hb=> ?_) (fun hb=> ?_)<;>have h:=hb<;>try simp only[wf_preprocess] at h
 ·have hi:i<xs.length:=by omega
  have hir:i<rows.length:=by omega
  obtain⟨x,hx⟩:∃x,x=xs[i]:=⟨_,rfl⟩
  have e1:rows[i]=[.s x.fName,.sl (x.fG.map au.enc)]:=by
   simp only[hr,List.getElem_map,←hx]
   simp only[aM.aD,encS,encI,List.cons_append,List.nil_append]
  have hm:=gI hir
  have hle:=iU (rows:=rows) (i:=i+1)
  rw[hm,e1] at hle
  rw[e1] at hm
  simp only[iQ,iP] at hle hm
  have hK:k+((ak (rows.take (i+1)):Nat):Int)=k+((ak (rows.take i):Nat):Int)+1+((ak (x.fG.map au.enc):Nat):Int):=by rw[hm];omega
  have e2:=qd (k:=k) hir
  rw[e1] at e2
  have hC:∀row o,cellAt (jk rows k i row) i o=row[o]? :=fun row o=>kD hir
  have hG:∀row,(jk rows k i row).getD i []=row:=fun row=>mM hir
  simp -implicitDefEqProofs (disch:=omega) only[go_sem,hb,ht,hA,hU,e2,hC,hG,bW,bG,hl,bq,bU]
  refine W3 ?_
  refine aZ (bR (k+((ak (rows.take i):Nat):Int)) (by omega)) ?_
  simp -implicitDefEqProofs (disch:=omega) only[go_sem,hb,ht,hA,hU,e2,hC,hG,bW,bG,hl,bq,bU]
  refine W3 ?_
  refine bJ rfl (gQ hS hp hir (by rfl) (fun S' rs' g1 g2=>jP x.fG (k+((ak (rows.take i):Nat):Int)+1) (1+l) j r _ S' rs' g1 g2 (by omega))) ?_
  simp -implicitDefEqProofs (disch:=omega) only[go_sem,hb,ht,hA,hU,e2,hC,hG,bW,bG,hl,bq,bU]
  refine W3 ?_
  refine bP (i+1) (by omega) (by rw[hK];rfl) ?_ (by omega)
  have h3:=qg (k:=k) hir
  rw[e1] at h3
  simp only[jv,sJ] at h3
  rw[←h3]
  all_goals rfl
 ·simp -implicitDefEqProofs (disch:=omega) only[go_sem,hb]
  have hi:i=xs.length:=by omega
  rw[nM (by omega),List.take_of_length_le (by omega)]
  all_goals (first|rfl|exact⟨rfl,rfl⟩)
set_option maxHeartbeats 4000000 in
theorem Gs(xs:List aM):∀(k:Int) (l j r:Nat) (p:List (Nat×Nat)) (S:Store) (rs:List (List (List D))),bI S (l,j)=some (.xf rs)→atR rs r p=some (bV (xs.map aM.enc) k)→0≤k∧k+ak (xs.map aM.enc)≤4611686018427387904→cB Tryz.prog 114 [.c (.xp (l,j) r p),.c (.d (.i .i64 k))] S (fun res S'=>res=.c (.d (.i .i64 (k+ak (xs.map aM.enc))))∧S'=S):=by
 intro k l j r p S rs hS hp hk
 have hlen:=jB (f:=aM.enc) (fun x=>by simp only[aM.aD,encS,encI,List.cons_append,List.nil_append,iQ,iP];omega) xs
 obtain⟨rows,hr⟩:∃rows,rows=xs.map aM.enc:=⟨_,rfl⟩
 have hl:rows.length=xs.length:=by rw[hr,List.length_map]
 rw[←hr] at hp hk hlen ⊢
 refine aG (rs:=[.tmp 4]) Tryz.checked.mixed Tryz.func114 Tryz.ntmps114 rfl rfl rfl rfl rfl ?_
 refine W1 ?_
 refine aT (ι:=Nat) Tryz.checked.mixed rfl [0,1,5] (fun i=>[.c (.xp (1+l,j) r p),.c (.d (.i .i64 (k+ak (rows.take i)))),.c (.d (.i .i64 i))])
  (fun i=>[]::S) (fun i=>i≤xs.length) (fun i=>xs.length-i) 0 ?_ rfl (Nat.zero_le _) ?_
 ·have z0:k+((ak (rows.take 0):Nat):Int)=k:=by simp[ak]
  rw[z0]
  rfl
 intro i hi
 simp -implicitDefEqProofs (disch:=omega) only[go_sem,hS,hp,aW,hl]
 with_reducible refine dU (fun hb=> ?_) (fun hb=> ?_)<;>have h:=hb<;>try simp only[wf_preprocess] at h
 ·have hi:i<xs.length:=by omega
  have hir:i<rows.length:=by omega
  obtain⟨x,hx⟩:∃x,x=xs[i]:=⟨_,rfl⟩
  have e1:rows[i]=[.s x.fName,.sl (x.fG.map au.enc)]:=by
   simp only[hr,List.getElem_map,←hx]
   simp only[aM.aD,encS,encI,List.cons_append,List.nil_append]
  have hm:=gI hir
  have hle:=iU (rows:=rows) (i:=i+1)
  rw[hm,e1] at hle
  rw[e1] at hm
  simp only[iQ,iP] at hle hm
  have hK:k+((ak (rows.take (i+1)):Nat):Int)=k+((ak (rows.take i):Nat):Int)+1+((ak (x.fG.map au.enc):Nat):Int):=by rw[hm];omega
  have e2:jv rows[i] (k+((ak (rows.take i):Nat):Int))=[.s (eU (k+((ak (rows.take i):Nat):Int))),.sl (bV (x.fG.map au.enc) (k+((ak (rows.take i):Nat):Int)+1))]:=by
   rw[e1]
   simp only[jv,sJ]
   all_goals rfl
  have hC:∀o,cellAt (bV rows k) i o=([.s (eU (k+((ak (rows.take i):Nat):Int))),.sl (bV (x.fG.map au.enc) (k+((ak (rows.take i):Nat):Int)+1))]:List D)[o]? :=fun o=>by
   have h1:(bV rows k)[i]? =some (jv rows[i] (k+((ak (rows.take i):Nat):Int))):=by
    have h2:=gV (k:=k) hir
    have h3:i<(bV rows k).length:=by rw[aW];exact hir
    rw[List.getD_eq_getElem?_getD,List.getElem?_eq_getElem h3,Option.getD_some] at h2
    rw[List.getElem?_eq_getElem h3,h2]
   unfold cellAt
   rw[h1,Option.bind_some,e2]
  have hG:=gV (k:=k) hir
  rw[e2] at hG
  simp -implicitDefEqProofs (disch:=omega) only[go_sem,hb,hS,hp,hC,hG,aW,hl,bU]
  refine W3 ?_
  refine aZ (bR (k+((ak (rows.take i):Nat):Int)) (by omega)) ?_
  simp -implicitDefEqProofs (disch:=omega) only[go_sem,hb,hS,hp,hC,hG,aW,hl,bU]
  refine W3 ?_
  refine bJ rfl (jQ x.fG (k+((ak (rows.take i):Nat):Int)+1) (1+l) j r _ _ _ (by rw[dR];exact hS) (fI hp (by rw[hC];rfl)) (by omega)) ?_
  simp -implicitDefEqProofs (disch:=omega) only[go_sem,hb,hS,hp,hC,hG,aW,hl,bU,fC]
  refine W3 ?_
  refine bP (i+1) (by omega) (by rw[hK];rfl) rfl (by omega)
 ·simp -implicitDefEqProofs (disch:=omega) only[go_sem,hb]
  have hi:i=xs.length:=by omega
  rw[List.take_of_length_le (by omega)]
  all_goals (first|rfl|exact⟨rfl,rfl⟩)
end Go.Proofs.YtocpgjlbagncjaaGreatDoor
namespace Go.Proofs.YtocpgjlbagncjaaGreatDoor
open Go Go.Ab
set_option maxHeartbeats 4000000 in
theorem Kv(xs:List aS):∀(k:Int) (l j r:Nat) (p:List (Nat×Nat)) (S:Store) (rs:List (List (List D))),bI S (l,j)=some (.xf rs)→atR rs r p=some (xs.map aS.enc)→0≤k∧k+ak (xs.map aS.enc)≤4611686018427387904→cB Tryz.prog 48 [.c (.xp (l,j) r p),.c (.d (.i .i64 k))] S (fun res S'=>res=.c (.d (.i .i64 (k+ak (xs.map aS.enc))))∧S'=bQ S (l,j) (.xf (dG rs r p (bV (xs.map aS.enc) k)))):=by
 intro k l j r p S rs hS hp hk
 have hlen:=jB (f:=aS.enc) (fun x=>by simp only[aS.aD,encS,encI,List.cons_append,List.nil_append,iQ,iP];omega) xs
 obtain⟨rows,hr⟩:∃rows,rows=xs.map aS.enc:=⟨_,rfl⟩
 have hl:rows.length=xs.length:=by rw[hr,List.length_map]
 rw[←hr] at hp hk hlen ⊢
 have ht:∀x:Ab.Obj,bI (bQ S (l,j) x) (l,j)=some x:=fun x=>dK _ _ _ _ hS
 have hA:∀new,atR (dG rs r p new) r p=some new:=fun new=>lJ hp
 have hU:∀a b,dG (dG rs r p a) r p b=dG rs r p b:=fun a b=>kT hp
 refine aG (rs:=[.tmp 4]) Tryz.checked.mixed Tryz.func48 Tryz.ntmps48 rfl rfl rfl rfl rfl ?_
 refine W1 ?_
 refine aT (ι:=Nat) Tryz.checked.mixed rfl [0,1,5] (fun i=>[.c (.xp (1+l,j) r p),.c (.d (.i .i64 (k+ak (rows.take i)))),.c (.d (.i .i64 i))])
  (fun i=>[]::bQ S (l,j) (.xf (dG rs r p (nL rows k i)))) (fun i=>i≤xs.length) (fun i=>xs.length-i) 0 ?_ ?_ (Nat.zero_le _) ?_
 ·have z0:k+((ak (rows.take 0):Nat):Int)=k:=by simp[ak]
  rw[z0]
  rfl
 ·rw[lU,lT hp,jG _ _ hS]
 intro i hi
 simp -implicitDefEqProofs (disch:=omega) only[go_sem,ht,hA,iC,hl]
 with_reducible refine dU (fun hb=> ?_) (fun hb=> ?_)<;>have h:=hb<;>try simp only[wf_preprocess] at h
 ·have hi:i<xs.length:=by omega
  have hir:i<rows.length:=by omega
  obtain⟨x,hx⟩:∃x,x=xs[i]:=⟨_,rfl⟩
  have e1:rows[i]=[.s x.fName,.sl (x.aA.map encS),.sl (x.aH.map aM.enc)]:=by
   simp only[hr,List.getElem_map,←hx]
   simp only[aS.aD,encS,encI,List.cons_append,List.nil_append]
  have hm:=gI hir
  have hle:=iU (rows:=rows) (i:=i+1)
  rw[hm,e1] at hle
  rw[e1] at hm
  simp only[iQ,iP] at hle hm
  have hK:k+((ak (rows.take (i+1)):Nat):Int)=k+((ak (rows.take i):Nat):Int)+1+((ak (x.aA.map encS):Nat):Int)+((ak (x.aH.map aM.enc):Nat):Int):=by rw[hm];omega
  have e2:=qd (k:=k) hir
  rw[e1] at e2
  have hC:∀row o,cellAt (jk rows k i row) i o=row[o]? :=fun row o=>kD hir
  have hG:∀row,(jk rows k i row).getD i []=row:=fun row=>mM hir
  simp -implicitDefEqProofs (disch:=omega) only[go_sem,hb,ht,hA,hU,e2,hC,hG,bW,bG,hl,bq,bU]
  refine W3 ?_
  refine aZ (bR (k+((ak (rows.take i):Nat):Int)) (by omega)) ?_
  simp -implicitDefEqProofs (disch:=omega) only[go_sem,hb,ht,hA,hU,e2,hC,hG,bW,bG,hl,bq,bU]
  refine W3 ?_
  refine bJ rfl (gQ hS hp hir (by rfl) (fun S' rs' g1 g2=>mZ x.aA (k+((ak (rows.take i):Nat):Int)+1) (1+l) j r _ S' rs' g1 g2 (by omega))) ?_
  simp -implicitDefEqProofs (disch:=omega) only[go_sem,hb,ht,hA,hU,e2,hC,hG,bW,bG,hl,bq,bU]
  refine W3 ?_
  refine bJ rfl (gQ hS hp hir (by rfl) (fun S' rs' g1 g2=>Gq x.aH (k+((ak (rows.take i):Nat):Int)+1+((ak (x.aA.map encS):Nat):Int)) (1+l) j r _ S' rs' g1 g2 (by omega))) ?_
  simp -implicitDefEqProofs (disch:=omega) only[go_sem,hb,ht,hA,hU,e2,hC,hG,bW,bG,hl,bq,bU]
  refine W3 ?_
  refine bP (i+1) (by omega) (by rw[hK];rfl) ?_ (by omega)
  have h3:=qg (k:=k) hir
  rw[e1] at h3
  simp only[jv,sJ] at h3
  rw[←h3]
  all_goals rfl
 ·simp -implicitDefEqProofs (disch:=omega) only[go_sem,hb]
  have hi:i=xs.length:=by omega
  rw[nM (by omega),List.take_of_length_le (by omega)]
  all_goals (first|rfl|exact⟨rfl,rfl⟩)
set_option maxHeartbeats 4000000 in
theorem Kw(xs:List aS):∀(k:Int) (l j r:Nat) (p:List (Nat×Nat)) (S:Store) (rs:List (List (List D))),bI S (l,j)=some (.xf rs)→atR rs r p=some (bV (xs.map aS.enc) k)→0≤k∧k+ak (xs.map aS.enc)≤4611686018427387904→cB Tryz.prog 53 [.c (.xp (l,j) r p),.c (.d (.i .i64 k))] S (fun res S'=>res=.c (.d (.i .i64 (k+ak (xs.map aS.enc))))∧S'=S):=by
 intro k l j r p S rs hS hp hk
 have hlen:=jB (f:=aS.enc) (fun x=>by simp only[aS.aD,encS,encI,List.cons_append,List.nil_append,iQ,iP];omega) xs
 obtain⟨rows,hr⟩:∃rows,rows=xs.map aS.enc:=⟨_,rfl⟩
 have hl:rows.length=xs.length:=by rw[hr,List.length_map]
 rw[←hr] at hp hk hlen ⊢
 refine aG (rs:=[.tmp 4]) Tryz.checked.mixed Tryz.func53 Tryz.ntmps53 rfl rfl rfl rfl rfl ?_
 refine W1 ?_
 refine aT (ι:=Nat) Tryz.checked.mixed rfl [0,1,5] (fun i=>[.c (.xp (1+l,j) r p),.c (.d (.i .i64 (k+ak (rows.take i)))),.c (.d (.i .i64 i))])
  (fun i=>[]::S) (fun i=>i≤xs.length) (fun i=>xs.length-i) 0 ?_ rfl (Nat.zero_le _) ?_
 ·have z0:k+((ak (rows.take 0):Nat):Int)=k:=by simp[ak]
  rw[z0]
  rfl
 intro i hi
 simp -implicitDefEqProofs (disch:=omega) only[go_sem,hS,hp,aW,hl]
 with_reducible refine dU (fun hb=> ?_) (fun hb=> ?_)<;>have h:=hb<;>try simp only[wf_preprocess] at h
 ·have hi:i<xs.length:=by omega
  have hir:i<rows.length:=by omega
  obtain⟨x,hx⟩:∃x,x=xs[i]:=⟨_,rfl⟩
  have e1:rows[i]=[.s x.fName,.sl (x.aA.map encS),.sl (x.aH.map aM.enc)]:=by
   simp only[hr,List.getElem_map,←hx]
   simp only[aS.aD,encS,encI,List.cons_append,List.nil_append]
  have hm:=gI hir
  have hle:=iU (rows:=rows) (i:=i+1)
  rw[hm,e1] at hle
  rw[e1] at hm
  simp only[iQ,iP] at hle hm
  have hK:k+((ak (rows.take (i+1)):Nat):Int)=k+((ak (rows.take i):Nat):Int)+1+((ak (x.aA.map encS):Nat):Int)+((ak (x.aH.map aM.enc):Nat):Int):=by rw[hm];omega
  have e2:jv rows[i] (k+((ak (rows.take i):Nat):Int))=[.s (eU (k+((ak (rows.take i):Nat):Int))),.sl (bV (x.aA.map encS) (k+((ak (rows.take i):Nat):Int)+1)),.sl (bV (x.aH.map aM.enc) (k+((ak (rows.take i):Nat):Int)+1+((ak (x.aA.map encS):Nat):Int)))]:=by
   rw[e1]
   simp only[jv,sJ]
   all_goals rfl
  have hC:∀o,cellAt (bV rows k) i o=([.s (eU (k+((ak (rows.take i):Nat):Int))),.sl (bV (x.aA.map encS) (k+((ak (rows.take i):Nat):Int)+1)),.sl (bV (x.aH.map aM.enc) (k+((ak (rows.take i):Nat):Int)+1+((ak (x.aA.map encS):Nat):Int)))]:List D)[o]? :=fun o=>by
   have h1:(bV rows k)[i]? =some (jv rows[i] (k+((ak (rows.take i):Nat):Int))):=by
    have h2:=gV (k:=k) hir
    have h3:i<(bV rows k).length:=by rw[aW];exact hir
    rw[List.getD_eq_getElem?_getD,List.getElem?_eq_getElem h3,Option.getD_some] at h2
    rw[List.getElem?_eq_getElem h3,h2]
   unfold cellAt
   rw[h1,Option.bind_some,e2]
  have hG:=gV (k:=k) hir
  rw[e2] at hG
  simp -implicitDefEqProofs (disch:=omega) only[go_sem,hb,hS,hp,hC,hG,aW,hl,bU]
  refine W3 ?_
  refine aZ (bR (k+((ak (rows.take i):Nat):Int)) (by omega)) ?_
  simp -implicitDefEqProofs (disch:=omega) only[go_sem,hb,hS,hp,hC,hG,aW,hl,bU]
  refine W3 ?_
  refine bJ rfl (ng x.aA (k+((ak (rows.take i):Nat):Int)+1) (1+l) j r _ _ _ (by rw[dR];exact hS) (fI hp (by rw[hC];rfl)) (by omega)) ?_
  simp -implicitDefEqProofs (disch:=omega) only[go_sem,hb,hS,hp,hC,hG,aW,hl,bU,fC]
  refine W3 ?_
  refine bJ rfl (Gs x.aH (k+((ak (rows.take i):Nat):Int)+1+((ak (x.aA.map encS):Nat):Int)) (1+l) j r _ _ _ (by rw[dR];exact hS) (fI hp (by rw[hC];rfl)) (by omega)) ?_
  simp -implicitDefEqProofs (disch:=omega) only[go_sem,hb,hS,hp,hC,hG,aW,hl,bU,fC]
  refine W3 ?_
  refine bP (i+1) (by omega) (by rw[hK];rfl) rfl (by omega)
 ·simp -implicitDefEqProofs (disch:=omega) only[go_sem,hb]
  have hi:i=xs.length:=by omega
  rw[List.take_of_length_le (by omega)]
  all_goals (first|rfl|exact⟨rfl,rfl⟩)
end Go.Proofs.YtocpgjlbagncjaaGreatDoor
namespace Go.Proofs.YtocpgjlbagncjaaGreatDoor
open Go Go.Ab
set_option maxHeartbeats 4000000 in
theorem Ob(xs:List bH):∀(k:Int) (l j r:Nat) (p:List (Nat×Nat)) (S:Store) (rs:List (List (List D))),bI S (l,j)=some (.xf rs)→atR rs r p=some (xs.map bH.enc)→0≤k∧k+ak (xs.map bH.enc)≤4611686018427387904→cB Tryz.prog 111 [.c (.xp (l,j) r p),.c (.d (.i .i64 k))] S (fun res S'=>res=.c (.d (.i .i64 (k+ak (xs.map bH.enc))))∧S'=bQ S (l,j) (.xf (dG rs r p (bV (xs.map bH.enc) k)))):=by
 intro k l j r p S rs hS hp hk
 have hlen:=jB (f:=bH.enc) (fun x=>by simp only[ay.aD,bH.aD,au.aD,encS,encI,List.cons_append,List.nil_append,iQ,iP];omega) xs
 obtain⟨rows,hr⟩:∃rows,rows=xs.map bH.enc:=⟨_,rfl⟩
 have hl:rows.length=xs.length:=by rw[hr,List.length_map]
 rw[←hr] at hp hk hlen ⊢
 have ht:∀x:Ab.Obj,bI (bQ S (l,j) x) (l,j)=some x:=fun x=>dK _ _ _ _ hS
 have hA:∀new,atR (dG rs r p new) r p=some new:=fun new=>lJ hp
 have hU:∀a b,dG (dG rs r p a) r p b=dG rs r p b:=fun a b=>kT hp
 refine aG (rs:=[.tmp 4]) Tryz.checked.mixed Tryz.func111 Tryz.ntmps111 rfl rfl rfl rfl rfl ?_
 refine W1 ?_
 refine aT (ι:=Nat) Tryz.checked.mixed rfl [0,1,5] (fun i=>[.c (.xp (1+l,j) r p),.c (.d (.i .i64 (k+ak (rows.take i)))),.c (.d (.i .i64 i))])
  (fun i=>[]::bQ S (l,j) (.xf (dG rs r p (nL rows k i)))) (fun i=>i≤xs.length) (fun i=>xs.length-i) 0 ?_ ?_ (Nat.zero_le _) ?_
 ·have z0:k+((ak (rows.take 0):Nat):Int)=k:=by simp[ak]
  rw[z0]
  rfl
 ·rw[lU,lT hp,jG _ _ hS]
 intro i hi
 simp -implicitDefEqProofs (disch:=omega) only[go_sem,ht,hA,iC,hl]
 with_reducible refine dU (fun hb=> ?_) (fun hb=> ?_)<;>have h:=hb<;>try simp only[wf_preprocess] at h
 ·have hi:i<xs.length:=by omega
  have hir:i<rows.length:=by omega
  obtain⟨x,hx⟩:∃x,x=xs[i]:=⟨_,rfl⟩
  have e1:rows[i]=[.s x.fName,.sl (x.aA.map encS),.i .i64 x.fBody.aK,.s x.fBody.bL,.s x.fBody.fName,.i .i64 x.fBody.fN,.i .i64 x.fBody.fType.aK,.s x.fBody.fType.fName,.sl (x.fBody.fType.fArgs.map au.enc),.sl (x.fBody.fArgs.map ay.enc),.sl (x.fBody.aP.map aR.enc)]:=by
   simp only[hr,List.getElem_map,←hx]
   simp only[ay.aD,bH.aD,au.aD,encS,encI,List.cons_append,List.nil_append]
  have hm:=gI hir
  have hle:=iU (rows:=rows) (i:=i+1)
  rw[hm,e1] at hle
  rw[e1] at hm
  simp only[iQ,iP] at hle hm
  have hK:k+((ak (rows.take (i+1)):Nat):Int)=k+((ak (rows.take i):Nat):Int)+1+((ak (x.aA.map encS):Nat):Int)+1+1+1+1+1+1+((ak (x.fBody.fType.fArgs.map au.enc):Nat):Int)+((ak (x.fBody.fArgs.map ay.enc):Nat):Int)+((ak (x.fBody.aP.map aR.enc):Nat):Int):=by rw[hm];omega
  have e2:=qd (k:=k) hir
  rw[e1] at e2
  have hC:∀row o,cellAt (jk rows k i row) i o=row[o]? :=fun row o=>kD hir
  have hG:∀row,(jk rows k i row).getD i []=row:=fun row=>mM hir
  simp -implicitDefEqProofs (disch:=omega) only[go_sem,hb,ht,hA,hU,e2,hC,hG,bW,bG,hl,bq,bU]
  refine W3 ?_
  refine aZ (bR (k+((ak (rows.take i):Nat):Int)) (by omega)) ?_
  simp -implicitDefEqProofs (disch:=omega) only[go_sem,hb,ht,hA,hU,e2,hC,hG,bW,bG,hl,bq,bU]
  refine W3 ?_
  refine bJ rfl (gQ hS hp hir (by rfl) (fun S' rs' g1 g2=>mZ x.aA (k+((ak (rows.take i):Nat):Int)+1) (1+l) j r _ S' rs' g1 g2 (by omega))) ?_
  simp -implicitDefEqProofs (disch:=omega) only[go_sem,hb,ht,hA,hU,e2,hC,hG,bW,bG,hl,bq,bU]
  refine W3 ?_
  refine aZ (bR (k+((ak (rows.take i):Nat):Int)+1+((ak (x.aA.map encS):Nat):Int)+1) (by omega)) ?_
  simp -implicitDefEqProofs (disch:=omega) only[go_sem,hb,ht,hA,hU,e2,hC,hG,bW,bG,hl,bq,bU]
  refine W3 ?_
  refine aZ (bR (k+((ak (rows.take i):Nat):Int)+1+((ak (x.aA.map encS):Nat):Int)+1+1) (by omega)) ?_
  simp -implicitDefEqProofs (disch:=omega) only[go_sem,hb,ht,hA,hU,e2,hC,hG,bW,bG,hl,bq,bU]
  refine W3 ?_
  refine aZ (bR (k+((ak (rows.take i):Nat):Int)+1+((ak (x.aA.map encS):Nat):Int)+1+1+1+1+1) (by omega)) ?_
  simp -implicitDefEqProofs (disch:=omega) only[go_sem,hb,ht,hA,hU,e2,hC,hG,bW,bG,hl,bq,bU]
  refine W3 ?_
  refine bJ rfl (gQ hS hp hir (by rfl) (fun S' rs' g1 g2=>jP x.fBody.fType.fArgs (k+((ak (rows.take i):Nat):Int)+1+((ak (x.aA.map encS):Nat):Int)+1+1+1+1+1+1) (1+l) j r _ S' rs' g1 g2 (by omega))) ?_
  simp -implicitDefEqProofs (disch:=omega) only[go_sem,hb,ht,hA,hU,e2,hC,hG,bW,bG,hl,bq,bU]
  refine W3 ?_
  refine bJ rfl (gQ hS hp hir (by rfl) (fun S' rs' g1 g2=>CR x.fBody.fArgs (k+((ak (rows.take i):Nat):Int)+1+((ak (x.aA.map encS):Nat):Int)+1+1+1+1+1+1+((ak (x.fBody.fType.fArgs.map au.enc):Nat):Int)) (1+l) j r _ S' rs' g1 g2 (by omega))) ?_
  simp -implicitDefEqProofs (disch:=omega) only[go_sem,hb,ht,hA,hU,e2,hC,hG,bW,bG,hl,bq,bU]
  refine W3 ?_
  refine bJ rfl (gQ hS hp hir (by rfl) (fun S' rs' g1 g2=>D6 x.fBody.aP (k+((ak (rows.take i):Nat):Int)+1+((ak (x.aA.map encS):Nat):Int)+1+1+1+1+1+1+((ak (x.fBody.fType.fArgs.map au.enc):Nat):Int)+((ak (x.fBody.fArgs.map ay.enc):Nat):Int)) (1+l) j r _ S' rs' g1 g2 (by omega))) ?_
  simp -implicitDefEqProofs (disch:=omega) only[go_sem,hb,ht,hA,hU,e2,hC,hG,bW,bG,hl,bq,bU]
  refine W3 ?_
  refine bP (i+1) (by omega) (by rw[hK];rfl) ?_ (by omega)
  have h3:=qg (k:=k) hir
  rw[e1] at h3
  simp only[jv,sJ] at h3
  rw[←h3]
  all_goals rfl
 ·simp -implicitDefEqProofs (disch:=omega) only[go_sem,hb]
  have hi:i=xs.length:=by omega
  rw[nM (by omega),List.take_of_length_le (by omega)]
  all_goals (first|rfl|exact⟨rfl,rfl⟩)
set_option maxHeartbeats 4000000 in
theorem Oc(xs:List bH):∀(k:Int) (l j r:Nat) (p:List (Nat×Nat)) (S:Store) (rs:List (List (List D))),bI S (l,j)=some (.xf rs)→atR rs r p=some (bV (xs.map bH.enc) k)→0≤k∧k+ak (xs.map bH.enc)≤4611686018427387904→cB Tryz.prog 117 [.c (.xp (l,j) r p),.c (.d (.i .i64 k))] S (fun res S'=>res=.c (.d (.i .i64 (k+ak (xs.map bH.enc))))∧S'=S):=by
 intro k l j r p S rs hS hp hk
 have hlen:=jB (f:=bH.enc) (fun x=>by simp only[ay.aD,bH.aD,au.aD,encS,encI,List.cons_append,List.nil_append,iQ,iP];omega) xs
 obtain⟨rows,hr⟩:∃rows,rows=xs.map bH.enc:=⟨_,rfl⟩
 have hl:rows.length=xs.length:=by rw[hr,List.length_map]
 rw[←hr] at hp hk hlen ⊢
 refine aG (rs:=[.tmp 4]) Tryz.checked.mixed Tryz.func117 Tryz.ntmps117 rfl rfl rfl rfl rfl ?_
 refine W1 ?_
 refine aT (ι:=Nat) Tryz.checked.mixed rfl [0,1,5] (fun i=>[.c (.xp (1+l,j) r p),.c (.d (.i .i64 (k+ak (rows.take i)))),.c (.d (.i .i64 i))])
  (fun i=>[]::S) (fun i=>i≤xs.length) (fun i=>xs.length-i) 0 ?_ rfl (Nat.zero_le _) ?_
 ·have z0:k+((ak (rows.take 0):Nat):Int)=k:=by simp[ak]
  rw[z0]
  rfl
 intro i hi
 simp -implicitDefEqProofs (disch:=omega) only[go_sem,hS,hp,aW,hl]
 with_reducible refine dU (fun hb=> ?_) (fun hb=> ?_)<;>have h:=hb<;>try simp only[wf_preprocess] at h
 ·have hi:i<xs.length:=by omega
  have hir:i<rows.length:=by omega
  obtain⟨x,hx⟩:∃x,x=xs[i]:=⟨_,rfl⟩
  have e1:rows[i]=[.s x.fName,.sl (x.aA.map encS),.i .i64 x.fBody.aK,.s x.fBody.bL,.s x.fBody.fName,.i .i64 x.fBody.fN,.i .i64 x.fBody.fType.aK,.s x.fBody.fType.fName,.sl (x.fBody.fType.fArgs.map au.enc),.sl (x.fBody.fArgs.map ay.enc),.sl (x.fBody.aP.map aR.enc)]:=by
   simp only[hr,List.getElem_map,←hx]
   simp only[ay.aD,bH.aD,au.aD,encS,encI,List.cons_append,List.nil_append]
  have hm:=gI hir
  have hle:=iU (rows:=rows) (i:=i+1)
  rw[hm,e1] at hle
  rw[e1] at hm
  simp only[iQ,iP] at hle hm
  have hK:k+((ak (rows.take (i+1)):Nat):Int)=k+((ak (rows.take i):Nat):Int)+1+((ak (x.aA.map encS):Nat):Int)+1+1+1+1+1+1+((ak (x.fBody.fType.fArgs.map au.enc):Nat):Int)+((ak (x.fBody.fArgs.map ay.enc):Nat):Int)+((ak (x.fBody.aP.map aR.enc):Nat):Int):=by rw[hm];omega
  have e2:jv rows[i] (k+((ak (rows.take i):Nat):Int))=[.s (eU (k+((ak (rows.take i):Nat):Int))),.sl (bV (x.aA.map encS) (k+((ak (rows.take i):Nat):Int)+1)),.i .i64 (k+((ak (rows.take i):Nat):Int)+1+((ak (x.aA.map encS):Nat):Int)),.s (eU (k+((ak (rows.take i):Nat):Int)+1+((ak (x.aA.map encS):Nat):Int)+1)),.s (eU (k+((ak (rows.take i):Nat):Int)+1+((ak (x.aA.map encS):Nat):Int)+1+1)),.i .i64 (k+((ak (rows.take i):Nat):Int)+1+((ak (x.aA.map encS):Nat):Int)+1+1+1),.i .i64 (k+((ak (rows.take i):Nat):Int)+1+((ak (x.aA.map encS):Nat):Int)+1+1+1+1),.s (eU (k+((ak (rows.take i):Nat):Int)+1+((ak (x.aA.map encS):Nat):Int)+1+1+1+1+1)),.sl (bV (x.fBody.fType.fArgs.map au.enc) (k+((ak (rows.take i):Nat):Int)+1+((ak (x.aA.map encS):Nat):Int)+1+1+1+1+1+1)),.sl (bV (x.fBody.fArgs.map ay.enc) (k+((ak (rows.take i):Nat):Int)+1+((ak (x.aA.map encS):Nat):Int)+1+1+1+1+1+1+((ak (x.fBody.fType.fArgs.map au.enc):Nat):Int))),.sl (bV (x.fBody.aP.map aR.enc) (k+((ak (rows.take i):Nat):Int)+1+((ak (x.aA.map encS):Nat):Int)+1+1+1+1+1+1+((ak (x.fBody.fType.fArgs.map au.enc):Nat):Int)+((ak (x.fBody.fArgs.map ay.enc):Nat):Int)))]:=by
   rw[e1]
   simp only[jv,sJ]
   all_goals rfl
  have hC:∀o,cellAt (bV rows k) i o=([.s (eU (k+((ak (rows.take i):Nat):Int))),.sl (bV (x.aA.map encS) (k+((ak (rows.take i):Nat):Int)+1)),.i .i64 (k+((ak (rows.take i):Nat):Int)+1+((ak (x.aA.map encS):Nat):Int)),.s (eU (k+((ak (rows.take i):Nat):Int)+1+((ak (x.aA.map encS):Nat):Int)+1)),.s (eU (k+((ak (rows.take i):Nat):Int)+1+((ak (x.aA.map encS):Nat):Int)+1+1)),.i .i64 (k+((ak (rows.take i):Nat):Int)+1+((ak (x.aA.map encS):Nat):Int)+1+1+1),.i .i64 (k+((ak (rows.take i):Nat):Int)+1+((ak (x.aA.map encS):Nat):Int)+1+1+1+1),.s (eU (k+((ak (rows.take i):Nat):Int)+1+((ak (x.aA.map encS):Nat):Int)+1+1+1+1+1)),.sl (bV (x.fBody.fType.fArgs.map au.enc) (k+((ak (rows.take i):Nat):Int)+1+((ak (x.aA.map encS):Nat):Int)+1+1+1+1+1+1)),.sl (bV (x.fBody.fArgs.map ay.enc) (k+((ak (rows.take i):Nat):Int)+1+((ak (x.aA.map encS):Nat):Int)+1+1+1+1+1+1+((ak (x.fBody.fType.fArgs.map au.enc):Nat):Int))),.sl (bV (x.fBody.aP.map aR.enc) (k+((ak (rows.take i):Nat):Int)+1+((ak (x.aA.map encS):Nat):Int)+1+1+1+1+1+1+((ak (x.fBody.fType.fArgs.map au.enc):Nat):Int)+((ak (x.fBody.fArgs.map ay.enc):Nat):Int)))]:List D)[o]? :=fun o=>by
   have h1:(bV rows k)[i]? =some (jv rows[i] (k+((ak (rows.take i):Nat):Int))):=by
    have h2:=gV (k:=k) hir
    have h3:i<(bV rows k).length:=by rw[aW];exact hir
    rw[List.getD_eq_getElem?_getD,List.getElem?_eq_getElem h3,Option.getD_some] at h2
    rw[List.getElem?_eq_getElem h3,h2]
   unfold cellAt
   rw[h1,Option.bind_some,e2]
  have hG:=gV (k:=k) hir
  rw[e2] at hG
  simp -implicitDefEqProofs (disch:=omega) only[go_sem,hb,hS,hp,hC,hG,aW,hl,bU]
  refine W3 ?_
  refine aZ (bR (k+((ak (rows.take i):Nat):Int)) (by omega)) ?_
  simp -implicitDefEqProofs (disch:=omega) only[go_sem,hb,hS,hp,hC,hG,aW,hl,bU]
  refine W3 ?_
  refine bJ rfl (ng x.aA (k+((ak (rows.take i):Nat):Int)+1) (1+l) j r _ _ _ (by rw[dR];exact hS) (fI hp (by rw[hC];rfl)) (by omega)) ?_
  simp -implicitDefEqProofs (disch:=omega) only[go_sem,hb,hS,hp,hC,hG,aW,hl,bU,fC]
  refine W3 ?_
  refine aZ (bR (k+((ak (rows.take i):Nat):Int)+1+((ak (x.aA.map encS):Nat):Int)+1) (by omega)) ?_
  simp -implicitDefEqProofs (disch:=omega) only[go_sem,hb,hS,hp,hC,hG,aW,hl,bU]
  refine W3 ?_
  refine aZ (bR (k+((ak (rows.take i):Nat):Int)+1+((ak (x.aA.map encS):Nat):Int)+1+1) (by omega)) ?_
  simp -implicitDefEqProofs (disch:=omega) only[go_sem,hb,hS,hp,hC,hG,aW,hl,bU]
  refine W3 ?_
  refine aZ (bR (k+((ak (rows.take i):Nat):Int)+1+((ak (x.aA.map encS):Nat):Int)+1+1+1+1+1) (by omega)) ?_
  simp -implicitDefEqProofs (disch:=omega) only[go_sem,hb,hS,hp,hC,hG,aW,hl,bU]
  refine W3 ?_
  refine bJ rfl (jQ x.fBody.fType.fArgs (k+((ak (rows.take i):Nat):Int)+1+((ak (x.aA.map encS):Nat):Int)+1+1+1+1+1+1) (1+l) j r _ _ _ (by rw[dR];exact hS) (fI hp (by rw[hC];rfl)) (by omega)) ?_
  simp -implicitDefEqProofs (disch:=omega) only[go_sem,hb,hS,hp,hC,hG,aW,hl,bU,fC]
  refine W3 ?_
  refine bJ rfl (CU x.fBody.fArgs (k+((ak (rows.take i):Nat):Int)+1+((ak (x.aA.map encS):Nat):Int)+1+1+1+1+1+1+((ak (x.fBody.fType.fArgs.map au.enc):Nat):Int)) (1+l) j r _ _ _ (by rw[dR];exact hS) (fI hp (by rw[hC];rfl)) (by omega)) ?_
  simp -implicitDefEqProofs (disch:=omega) only[go_sem,hb,hS,hp,hC,hG,aW,hl,bU,fC]
  refine W3 ?_
  refine bJ rfl (D7 x.fBody.aP (k+((ak (rows.take i):Nat):Int)+1+((ak (x.aA.map encS):Nat):Int)+1+1+1+1+1+1+((ak (x.fBody.fType.fArgs.map au.enc):Nat):Int)+((ak (x.fBody.fArgs.map ay.enc):Nat):Int)) (1+l) j r _ _ _ (by rw[dR];exact hS) (fI hp (by rw[hC];rfl)) (by omega)) ?_
  simp -implicitDefEqProofs (disch:=omega) only[go_sem,hb,hS,hp,hC,hG,aW,hl,bU,fC]
  refine W3 ?_
  refine bP (i+1) (by omega) (by rw[hK];rfl) rfl (by omega)
 ·simp -implicitDefEqProofs (disch:=omega) only[go_sem,hb]
  have hi:i=xs.length:=by omega
  rw[List.take_of_length_le (by omega)]
  all_goals (first|rfl|exact⟨rfl,rfl⟩)
end Go.Proofs.YtocpgjlbagncjaaGreatDoor
namespace Go.Proofs.YtocpgjlbagncjaaGreatDoor
open Go Go.Ab
set_option maxHeartbeats 4000000 in
theorem Ky(xs:List aQ):∀(k:Int) (l j r:Nat) (p:List (Nat×Nat)) (S:Store) (rs:List (List (List D))),bI S (l,j)=some (.xf rs)→atR rs r p=some (xs.map aQ.enc)→0≤k∧k+ak (xs.map aQ.enc)≤4611686018427387904→cB Tryz.prog 49 [.c (.xp (l,j) r p),.c (.d (.i .i64 k))] S (fun res S'=>res=.c (.d (.i .i64 (k+ak (xs.map aQ.enc))))∧S'=bQ S (l,j) (.xf (dG rs r p (bV (xs.map aQ.enc) k)))):=by
 intro k l j r p S rs hS hp hk
 have hlen:=jB (f:=aQ.enc) (fun x=>by simp only[aQ.aD,au.aD,encS,encI,List.cons_append,List.nil_append,iQ,iP];omega) xs
 obtain⟨rows,hr⟩:∃rows,rows=xs.map aQ.enc:=⟨_,rfl⟩
 have hl:rows.length=xs.length:=by rw[hr,List.length_map]
 rw[←hr] at hp hk hlen ⊢
 have ht:∀x:Ab.Obj,bI (bQ S (l,j) x) (l,j)=some x:=fun x=>dK _ _ _ _ hS
 have hA:∀new,atR (dG rs r p new) r p=some new:=fun new=>lJ hp
 have hU:∀a b,dG (dG rs r p a) r p b=dG rs r p b:=fun a b=>kT hp
 refine aG (rs:=[.tmp 4]) Tryz.checked.mixed Tryz.func49 Tryz.ntmps49 rfl rfl rfl rfl rfl ?_
 refine W1 ?_
 refine aT (ι:=Nat) Tryz.checked.mixed rfl [0,1,5] (fun i=>[.c (.xp (1+l,j) r p),.c (.d (.i .i64 (k+ak (rows.take i)))),.c (.d (.i .i64 i))])
  (fun i=>[]::bQ S (l,j) (.xf (dG rs r p (nL rows k i)))) (fun i=>i≤xs.length) (fun i=>xs.length-i) 0 ?_ ?_ (Nat.zero_le _) ?_
 ·have z0:k+((ak (rows.take 0):Nat):Int)=k:=by simp[ak]
  rw[z0]
  rfl
 ·rw[lU,lT hp,jG _ _ hS]
 intro i hi
 simp -implicitDefEqProofs (disch:=omega) only[go_sem,ht,hA,iC,hl]
 with_reducible refine dU (fun hb=> ?_) (fun hb=> ?_)<;>have h:=hb<;>try simp only[wf_preprocess] at h
 ·have hi:i<xs.length:=by omega
  have hir:i<rows.length:=by omega
  obtain⟨x,hx⟩:∃x,x=xs[i]:=⟨_,rfl⟩
  have e1:rows[i]=[.s x.bL,.sl (x.aA.map encS),.i .i64 x.bM.aK,.s x.bM.fName,.sl (x.bM.fArgs.map au.enc),.sl (x.bn.map aO.enc),.b x.gy,.b x.dW,.i .i64 x.bK.aK,.s x.bK.fName,.sl (x.bK.fArgs.map au.enc),.sl (x.aL.map bH.enc)]:=by
   simp only[hr,List.getElem_map,←hx]
   simp only[aQ.aD,au.aD,encS,encI,List.cons_append,List.nil_append]
  have hm:=gI hir
  have hle:=iU (rows:=rows) (i:=i+1)
  rw[hm,e1] at hle
  rw[e1] at hm
  simp only[iQ,iP] at hle hm
  have hK:k+((ak (rows.take (i+1)):Nat):Int)=k+((ak (rows.take i):Nat):Int)+1+((ak (x.aA.map encS):Nat):Int)+1+1+((ak (x.bM.fArgs.map au.enc):Nat):Int)+((ak (x.bn.map aO.enc):Nat):Int)+1+1+1+1+((ak (x.bK.fArgs.map au.enc):Nat):Int)+((ak (x.aL.map bH.enc):Nat):Int):=by rw[hm];omega
  have e2:=qd (k:=k) hir
  rw[e1] at e2
  have hC:∀row o,cellAt (jk rows k i row) i o=row[o]? :=fun row o=>kD hir
  have hG:∀row,(jk rows k i row).getD i []=row:=fun row=>mM hir
  simp -implicitDefEqProofs (disch:=omega) only[go_sem,hb,ht,hA,hU,e2,hC,hG,bW,bG,hl,bq,bU]
  refine W3 ?_
  refine aZ (bR (k+((ak (rows.take i):Nat):Int)) (by omega)) ?_
  simp -implicitDefEqProofs (disch:=omega) only[go_sem,hb,ht,hA,hU,e2,hC,hG,bW,bG,hl,bq,bU]
  refine W3 ?_
  refine bJ rfl (gQ hS hp hir (by rfl) (fun S' rs' g1 g2=>mZ x.aA (k+((ak (rows.take i):Nat):Int)+1) (1+l) j r _ S' rs' g1 g2 (by omega))) ?_
  simp -implicitDefEqProofs (disch:=omega) only[go_sem,hb,ht,hA,hU,e2,hC,hG,bW,bG,hl,bq,bU]
  refine W3 ?_
  refine aZ (bR (k+((ak (rows.take i):Nat):Int)+1+((ak (x.aA.map encS):Nat):Int)+1) (by omega)) ?_
  simp -implicitDefEqProofs (disch:=omega) only[go_sem,hb,ht,hA,hU,e2,hC,hG,bW,bG,hl,bq,bU]
  refine W3 ?_
  refine bJ rfl (gQ hS hp hir (by rfl) (fun S' rs' g1 g2=>jP x.bM.fArgs (k+((ak (rows.take i):Nat):Int)+1+((ak (x.aA.map encS):Nat):Int)+1+1) (1+l) j r _ S' rs' g1 g2 (by omega))) ?_
  simp -implicitDefEqProofs (disch:=omega) only[go_sem,hb,ht,hA,hU,e2,hC,hG,bW,bG,hl,bq,bU]
  refine W3 ?_
  refine bJ rfl (gQ hS hp hir (by rfl) (fun S' rs' g1 g2=>Gj x.bn (k+((ak (rows.take i):Nat):Int)+1+((ak (x.aA.map encS):Nat):Int)+1+1+((ak (x.bM.fArgs.map au.enc):Nat):Int)) (1+l) j r _ S' rs' g1 g2 (by omega))) ?_
  simp -implicitDefEqProofs (disch:=omega) only[go_sem,hb,ht,hA,hU,e2,hC,hG,bW,bG,hl,bq,bU]
  refine W3 ?_
  refine aZ (bR (k+((ak (rows.take i):Nat):Int)+1+((ak (x.aA.map encS):Nat):Int)+1+1+((ak (x.bM.fArgs.map au.enc):Nat):Int)+((ak (x.bn.map aO.enc):Nat):Int)+1+1+1) (by omega)) ?_
  simp -implicitDefEqProofs (disch:=omega) only[go_sem,hb,ht,hA,hU,e2,hC,hG,bW,bG,hl,bq,bU]
  refine W3 ?_
  refine bJ rfl (gQ hS hp hir (by rfl) (fun S' rs' g1 g2=>jP x.bK.fArgs (k+((ak (rows.take i):Nat):Int)+1+((ak (x.aA.map encS):Nat):Int)+1+1+((ak (x.bM.fArgs.map au.enc):Nat):Int)+((ak (x.bn.map aO.enc):Nat):Int)+1+1+1+1) (1+l) j r _ S' rs' g1 g2 (by omega))) ?_
  simp -implicitDefEqProofs (disch:=omega) only[go_sem,hb,ht,hA,hU,e2,hC,hG,bW,bG,hl,bq,bU]
  refine W3 ?_
  refine bJ rfl (gQ hS hp hir (by rfl) (fun S' rs' g1 g2=>Ob x.aL (k+((ak (rows.take i):Nat):Int)+1+((ak (x.aA.map encS):Nat):Int)+1+1+((ak (x.bM.fArgs.map au.enc):Nat):Int)+((ak (x.bn.map aO.enc):Nat):Int)+1+1+1+1+((ak (x.bK.fArgs.map au.enc):Nat):Int)) (1+l) j r _ S' rs' g1 g2 (by omega))) ?_
  simp -implicitDefEqProofs (disch:=omega) only[go_sem,hb,ht,hA,hU,e2,hC,hG,bW,bG,hl,bq,bU]
  refine W3 ?_
  refine bP (i+1) (by omega) (by rw[hK];rfl) ?_ (by omega)
  have h3:=qg (k:=k) hir
  rw[e1] at h3
  simp only[jv,sJ] at h3
  rw[←h3]
  all_goals rfl
 ·simp -implicitDefEqProofs (disch:=omega) only[go_sem,hb]
  have hi:i=xs.length:=by omega
  rw[nM (by omega),List.take_of_length_le (by omega)]
  all_goals (first|rfl|exact⟨rfl,rfl⟩)
set_option maxHeartbeats 4000000 in
theorem Kz(xs:List aQ):∀(k:Int) (l j r:Nat) (p:List (Nat×Nat)) (S:Store) (rs:List (List (List D))),bI S (l,j)=some (.xf rs)→atR rs r p=some (bV (xs.map aQ.enc) k)→0≤k∧k+ak (xs.map aQ.enc)≤4611686018427387904→cB Tryz.prog 54 [.c (.xp (l,j) r p),.c (.d (.i .i64 k))] S (fun res S'=>res=.c (.d (.i .i64 (k+ak (xs.map aQ.enc))))∧S'=S):=by
 intro k l j r p S rs hS hp hk
 have hlen:=jB (f:=aQ.enc) (fun x=>by simp only[aQ.aD,au.aD,encS,encI,List.cons_append,List.nil_append,iQ,iP];omega) xs
 obtain⟨rows,hr⟩:∃rows,rows=xs.map aQ.enc:=⟨_,rfl⟩
 have hl:rows.length=xs.length:=by rw[hr,List.length_map]
 rw[←hr] at hp hk hlen ⊢
 refine aG (rs:=[.tmp 4]) Tryz.checked.mixed Tryz.func54 Tryz.ntmps54 rfl rfl rfl rfl rfl ?_
 refine W1 ?_
 refine aT (ι:=Nat) Tryz.checked.mixed rfl [0,1,5] (fun i=>[.c (.xp (1+l,j) r p),.c (.d (.i .i64 (k+ak (rows.take i)))),.c (.d (.i .i64 i))])
  (fun i=>[]::S) (fun i=>i≤xs.length) (fun i=>xs.length-i) 0 ?_ rfl (Nat.zero_le _) ?_
 ·have z0:k+((ak (rows.take 0):Nat):Int)=k:=by simp[ak]
  rw[z0]
  rfl
 intro i hi
 simp -implicitDefEqProofs (disch:=omega) only[go_sem,hS,hp,aW,hl]
 with_reducible refine dU (fun hb=> ?_) (fun hb=> ?_)<;>have h:=hb<;>try simp only[wf_preprocess] at h
 ·have hi:i<xs.length:=by omega
  have hir:i<rows.length:=by omega
  obtain⟨x,hx⟩:∃x,x=xs[i]:=⟨_,rfl⟩
  have e1:rows[i]=[.s x.bL,.sl (x.aA.map encS),.i .i64 x.bM.aK,.s x.bM.fName,.sl (x.bM.fArgs.map au.enc),.sl (x.bn.map aO.enc),.b x.gy,.b x.dW,.i .i64 x.bK.aK,.s x.bK.fName,.sl (x.bK.fArgs.map au.enc),.sl (x.aL.map bH.enc)]:=by
   simp only[hr,List.getElem_map,←hx]
   simp only[aQ.aD,au.aD,encS,encI,List.cons_append,List.nil_append]
  have hm:=gI hir
  have hle:=iU (rows:=rows) (i:=i+1)
  rw[hm,e1] at hle
  rw[e1] at hm
  simp only[iQ,iP] at hle hm
  have hK:k+((ak (rows.take (i+1)):Nat):Int)=k+((ak (rows.take i):Nat):Int)+1+((ak (x.aA.map encS):Nat):Int)+1+1+((ak (x.bM.fArgs.map au.enc):Nat):Int)+((ak (x.bn.map aO.enc):Nat):Int)+1+1+1+1+((ak (x.bK.fArgs.map au.enc):Nat):Int)+((ak (x.aL.map bH.enc):Nat):Int):=by rw[hm];omega
  have e2:jv rows[i] (k+((ak (rows.take i):Nat):Int))=[.s (eU (k+((ak (rows.take i):Nat):Int))),.sl (bV (x.aA.map encS) (k+((ak (rows.take i):Nat):Int)+1)),.i .i64 (k+((ak (rows.take i):Nat):Int)+1+((ak (x.aA.map encS):Nat):Int)),.s (eU (k+((ak (rows.take i):Nat):Int)+1+((ak (x.aA.map encS):Nat):Int)+1)),.sl (bV (x.bM.fArgs.map au.enc) (k+((ak (rows.take i):Nat):Int)+1+((ak (x.aA.map encS):Nat):Int)+1+1)),.sl (bV (x.bn.map aO.enc) (k+((ak (rows.take i):Nat):Int)+1+((ak (x.aA.map encS):Nat):Int)+1+1+((ak (x.bM.fArgs.map au.enc):Nat):Int))),.b (decide ((k+((ak (rows.take i):Nat):Int)+1+((ak (x.aA.map encS):Nat):Int)+1+1+((ak (x.bM.fArgs.map au.enc):Nat):Int)+((ak (x.bn.map aO.enc):Nat):Int)).tmod 3=0)),.b (decide ((k+((ak (rows.take i):Nat):Int)+1+((ak (x.aA.map encS):Nat):Int)+1+1+((ak (x.bM.fArgs.map au.enc):Nat):Int)+((ak (x.bn.map aO.enc):Nat):Int)+1).tmod 3=0)),.i .i64 (k+((ak (rows.take i):Nat):Int)+1+((ak (x.aA.map encS):Nat):Int)+1+1+((ak (x.bM.fArgs.map au.enc):Nat):Int)+((ak (x.bn.map aO.enc):Nat):Int)+1+1),.s (eU (k+((ak (rows.take i):Nat):Int)+1+((ak (x.aA.map encS):Nat):Int)+1+1+((ak (x.bM.fArgs.map au.enc):Nat):Int)+((ak (x.bn.map aO.enc):Nat):Int)+1+1+1)),.sl (bV (x.bK.fArgs.map au.enc) (k+((ak (rows.take i):Nat):Int)+1+((ak (x.aA.map encS):Nat):Int)+1+1+((ak (x.bM.fArgs.map au.enc):Nat):Int)+((ak (x.bn.map aO.enc):Nat):Int)+1+1+1+1)),.sl (bV (x.aL.map bH.enc) (k+((ak (rows.take i):Nat):Int)+1+((ak (x.aA.map encS):Nat):Int)+1+1+((ak (x.bM.fArgs.map au.enc):Nat):Int)+((ak (x.bn.map aO.enc):Nat):Int)+1+1+1+1+((ak (x.bK.fArgs.map au.enc):Nat):Int)))]:=by
   rw[e1]
   simp only[jv,sJ]
   all_goals rfl
  have hC:∀o,cellAt (bV rows k) i o=([.s (eU (k+((ak (rows.take i):Nat):Int))),.sl (bV (x.aA.map encS) (k+((ak (rows.take i):Nat):Int)+1)),.i .i64 (k+((ak (rows.take i):Nat):Int)+1+((ak (x.aA.map encS):Nat):Int)),.s (eU (k+((ak (rows.take i):Nat):Int)+1+((ak (x.aA.map encS):Nat):Int)+1)),.sl (bV (x.bM.fArgs.map au.enc) (k+((ak (rows.take i):Nat):Int)+1+((ak (x.aA.map encS):Nat):Int)+1+1)),.sl (bV (x.bn.map aO.enc) (k+((ak (rows.take i):Nat):Int)+1+((ak (x.aA.map encS):Nat):Int)+1+1+((ak (x.bM.fArgs.map au.enc):Nat):Int))),.b (decide ((k+((ak (rows.take i):Nat):Int)+1+((ak (x.aA.map encS):Nat):Int)+1+1+((ak (x.bM.fArgs.map au.enc):Nat):Int)+((ak (x.bn.map aO.enc):Nat):Int)).tmod 3=0)),.b (decide ((k+((ak (rows.take i):Nat):Int)+1+((ak (x.aA.map encS):Nat):Int)+1+1+((ak (x.bM.fArgs.map au.enc):Nat):Int)+((ak (x.bn.map aO.enc):Nat):Int)+1).tmod 3=0)),.i .i64 (k+((ak (rows.take i):Nat):Int)+1+((ak (x.aA.map encS):Nat):Int)+1+1+((ak (x.bM.fArgs.map au.enc):Nat):Int)+((ak (x.bn.map aO.enc):Nat):Int)+1+1),.s (eU (k+((ak (rows.take i):Nat):Int)+1+((ak (x.aA.map encS):Nat):Int)+1+1+((ak (x.bM.fArgs.map au.enc):Nat):Int)+((ak (x.bn.map aO.enc):Nat):Int)+1+1+1)),.sl (bV (x.bK.fArgs.map au.enc) (k+((ak (rows.take i):Nat):Int)+1+((ak (x.aA.map encS):Nat):Int)+1+1+((ak (x.bM.fArgs.map au.enc):Nat):Int)+((ak (x.bn.map aO.enc):Nat):Int)+1+1+1+1)),.sl (bV (x.aL.map bH.enc) (k+((ak (rows.take i):Nat):Int)+1+((ak (x.aA.map encS):Nat):Int)+1+1+((ak (x.bM.fArgs.map au.enc):Nat):Int)+((ak (x.bn.map aO.enc):Nat):Int)+1+1+1+1+((ak (x.bK.fArgs.map au.enc):Nat):Int)))]:List D)[o]? :=fun o=>by
   have h1:(bV rows k)[i]? =some (jv rows[i] (k+((ak (rows.take i):Nat):Int))):=by
    have h2:=gV (k:=k) hir
    have h3:i<(bV rows k).length:=by rw[aW];exact hir
    rw[List.getD_eq_getElem?_getD,List.getElem?_eq_getElem h3,Option.getD_some] at h2
    rw[List.getElem?_eq_getElem h3,h2]
   unfold cellAt
   rw[h1,Option.bind_some,e2]
  have hG:=gV (k:=k) hir
  rw[e2] at hG
  simp -implicitDefEqProofs (disch:=omega) only[go_sem,hb,hS,hp,hC,hG,aW,hl,bU]
  refine W3 ?_
  refine aZ (bR (k+((ak (rows.take i):Nat):Int)) (by omega)) ?_
  simp -implicitDefEqProofs (disch:=omega) only[go_sem,hb,hS,hp,hC,hG,aW,hl,bU]
  refine W3 ?_
  refine bJ rfl (ng x.aA (k+((ak (rows.take i):Nat):Int)+1) (1+l) j r _ _ _ (by rw[dR];exact hS) (fI hp (by rw[hC];rfl)) (by omega)) ?_
  simp -implicitDefEqProofs (disch:=omega) only[go_sem,hb,hS,hp,hC,hG,aW,hl,bU,fC]
  refine W3 ?_
  refine aZ (bR (k+((ak (rows.take i):Nat):Int)+1+((ak (x.aA.map encS):Nat):Int)+1) (by omega)) ?_
  simp -implicitDefEqProofs (disch:=omega) only[go_sem,hb,hS,hp,hC,hG,aW,hl,bU]
  refine W3 ?_
  refine bJ rfl (jQ x.bM.fArgs (k+((ak (rows.take i):Nat):Int)+1+((ak (x.aA.map encS):Nat):Int)+1+1) (1+l) j r _ _ _ (by rw[dR];exact hS) (fI hp (by rw[hC];rfl)) (by omega)) ?_
  simp -implicitDefEqProofs (disch:=omega) only[go_sem,hb,hS,hp,hC,hG,aW,hl,bU,fC]
  refine W3 ?_
  refine bJ rfl (Gl x.bn (k+((ak (rows.take i):Nat):Int)+1+((ak (x.aA.map encS):Nat):Int)+1+1+((ak (x.bM.fArgs.map au.enc):Nat):Int)) (1+l) j r _ _ _ (by rw[dR];exact hS) (fI hp (by rw[hC];rfl)) (by omega)) ?_
  simp -implicitDefEqProofs (disch:=omega) only[go_sem,hb,hS,hp,hC,hG,aW,hl,bU,fC]
  refine W3 ?_
  refine aZ (bR (k+((ak (rows.take i):Nat):Int)+1+((ak (x.aA.map encS):Nat):Int)+1+1+((ak (x.bM.fArgs.map au.enc):Nat):Int)+((ak (x.bn.map aO.enc):Nat):Int)+1+1+1) (by omega)) ?_
  simp -implicitDefEqProofs (disch:=omega) only[go_sem,hb,hS,hp,hC,hG,aW,hl,bU]
  refine W3 ?_
  refine bJ rfl (jQ x.bK.fArgs (k+((ak (rows.take i):Nat):Int)+1+((ak (x.aA.map encS):Nat):Int)+1+1+((ak (x.bM.fArgs.map au.enc):Nat):Int)+((ak (x.bn.map aO.enc):Nat):Int)+1+1+1+1) (1+l) j r _ _ _ (by rw[dR];exact hS) (fI hp (by rw[hC];rfl)) (by omega)) ?_
  simp -implicitDefEqProofs (disch:=omega) only[go_sem,hb,hS,hp,hC,hG,aW,hl,bU,fC]
  refine W3 ?_
  refine bJ rfl (Oc x.aL (k+((ak (rows.take i):Nat):Int)+1+((ak (x.aA.map encS):Nat):Int)+1+1+((ak (x.bM.fArgs.map au.enc):Nat):Int)+((ak (x.bn.map aO.enc):Nat):Int)+1+1+1+1+((ak (x.bK.fArgs.map au.enc):Nat):Int)) (1+l) j r _ _ _ (by rw[dR];exact hS) (fI hp (by rw[hC];rfl)) (by omega)) ?_
  simp -implicitDefEqProofs (disch:=omega) only[go_sem,hb,hS,hp,hC,hG,aW,hl,bU,fC]
  refine W3 ?_
  refine bP (i+1) (by omega) (by rw[hK];rfl) rfl (by omega)
 ·simp -implicitDefEqProofs (disch:=omega) only[go_sem,hb]
  have hi:i=xs.length:=by omega
  rw[List.take_of_length_le (by omega)]
  all_goals (first|rfl|exact⟨rfl,rfl⟩)
end Go.Proofs.YtocpgjlbagncjaaGreatDoor
namespace Go.Proofs.YtocpgjlbagncjaaGreatDoor
open Go Go.Ab
set_option maxHeartbeats 4000000 in
theorem Qp(xs:List bg):∀(k:Int) (l j r:Nat) (p:List (Nat×Nat)) (S:Store) (rs:List (List (List D))),bI S (l,j)=some (.xf rs)→atR rs r p=some (xs.map bg.enc)→0≤k∧k+ak (xs.map bg.enc)≤4611686018427387904→cB Tryz.prog 112 [.c (.xp (l,j) r p),.c (.d (.i .i64 k))] S (fun res S'=>res=.c (.d (.i .i64 (k+ak (xs.map bg.enc))))∧S'=bQ S (l,j) (.xf (dG rs r p (bV (xs.map bg.enc) k)))):=by
 intro k l j r p S rs hS hp hk
 have hlen:=jB (f:=bg.enc) (fun x=>by simp only[bg.aD,au.aD,encS,encI,List.cons_append,List.nil_append,iQ,iP];omega) xs
 obtain⟨rows,hr⟩:∃rows,rows=xs.map bg.enc:=⟨_,rfl⟩
 have hl:rows.length=xs.length:=by rw[hr,List.length_map]
 rw[←hr] at hp hk hlen ⊢
 have ht:∀x:Ab.Obj,bI (bQ S (l,j) x) (l,j)=some x:=fun x=>dK _ _ _ _ hS
 have hA:∀new,atR (dG rs r p new) r p=some new:=fun new=>lJ hp
 have hU:∀a b,dG (dG rs r p a) r p b=dG rs r p b:=fun a b=>kT hp
 refine aG (rs:=[.tmp 4]) Tryz.checked.mixed Tryz.func112 Tryz.ntmps112 rfl rfl rfl rfl rfl ?_
 refine W1 ?_
 refine aT (ι:=Nat) Tryz.checked.mixed rfl [0,1,5] (fun i=>[.c (.xp (1+l,j) r p),.c (.d (.i .i64 (k+ak (rows.take i)))),.c (.d (.i .i64 i))])
  (fun i=>[]::bQ S (l,j) (.xf (dG rs r p (nL rows k i)))) (fun i=>i≤xs.length) (fun i=>xs.length-i) 0 ?_ ?_ (Nat.zero_le _) ?_
 ·have z0:k+((ak (rows.take 0):Nat):Int)=k:=by simp[ak]
  rw[z0]
  rfl
 ·rw[lU,lT hp,jG _ _ hS]
 intro i hi
 simp -implicitDefEqProofs (disch:=omega) only[go_sem,ht,hA,iC,hl]
 with_reducible refine dU (fun hb=> ?_) (fun hb=> ?_)<;>have h:=hb<;>try simp only[wf_preprocess] at h
 ·have hi:i<xs.length:=by omega
  have hir:i<rows.length:=by omega
  obtain⟨x,hx⟩:∃x,x=xs[i]:=⟨_,rfl⟩
  have e1:rows[i]=[.s x.fName,.i .i64 x.fType.aK,.s x.fType.fName,.sl (x.fType.fArgs.map au.enc)]:=by
   simp only[hr,List.getElem_map,←hx]
   simp only[bg.aD,au.aD,encS,encI,List.cons_append,List.nil_append]
  have hm:=gI hir
  have hle:=iU (rows:=rows) (i:=i+1)
  rw[hm,e1] at hle
  rw[e1] at hm
  simp only[iQ,iP] at hle hm
  have hK:k+((ak (rows.take (i+1)):Nat):Int)=k+((ak (rows.take i):Nat):Int)+1+1+1+((ak (x.fType.fArgs.map au.enc):Nat):Int):=by rw[hm];omega
  have e2:=qd (k:=k) hir
  rw[e1] at e2
  have hC:∀row o,cellAt (jk rows k i row) i o=row[o]? :=fun row o=>kD hir
  have hG:∀row,(jk rows k i row).getD i []=row:=fun row=>mM hir
  simp -implicitDefEqProofs (disch:=omega) only[go_sem,hb,ht,hA,hU,e2,hC,hG,bW,bG,hl,bq,bU]
  refine W3 ?_
  refine aZ (bR (k+((ak (rows.take i):Nat):Int)) (by omega)) ?_
  simp -implicitDefEqProofs (disch:=omega) only[go_sem,hb,ht,hA,hU,e2,hC,hG,bW,bG,hl,bq,bU]
  refine W3 ?_
  refine aZ (bR (k+((ak (rows.take i):Nat):Int)+1+1) (by omega)) ?_
  simp -implicitDefEqProofs (disch:=omega) only[go_sem,hb,ht,hA,hU,e2,hC,hG,bW,bG,hl,bq,bU]
  refine W3 ?_
  refine bJ rfl (gQ hS hp hir (by rfl) (fun S' rs' g1 g2=>jP x.fType.fArgs (k+((ak (rows.take i):Nat):Int)+1+1+1) (1+l) j r _ S' rs' g1 g2 (by omega))) ?_
  simp -implicitDefEqProofs (disch:=omega) only[go_sem,hb,ht,hA,hU,e2,hC,hG,bW,bG,hl,bq,bU]
  refine W3 ?_
  refine bP (i+1) (by omega) (by rw[hK];rfl) ?_ (by omega)
  have h3:=qg (k:=k) hir
  rw[e1] at h3
  simp only[jv,sJ] at h3
  rw[←h3]
  all_goals rfl
 ·simp -implicitDefEqProofs (disch:=omega) only[go_sem,hb]
  have hi:i=xs.length:=by omega
  rw[nM (by omega),List.take_of_length_le (by omega)]
  all_goals (first|rfl|exact⟨rfl,rfl⟩)
set_option maxHeartbeats 4000000 in
theorem Qq(xs:List bg):∀(k:Int) (l j r:Nat) (p:List (Nat×Nat)) (S:Store) (rs:List (List (List D))),bI S (l,j)=some (.xf rs)→atR rs r p=some (bV (xs.map bg.enc) k)→0≤k∧k+ak (xs.map bg.enc)≤4611686018427387904→cB Tryz.prog 118 [.c (.xp (l,j) r p),.c (.d (.i .i64 k))] S (fun res S'=>res=.c (.d (.i .i64 (k+ak (xs.map bg.enc))))∧S'=S):=by
 intro k l j r p S rs hS hp hk
 have hlen:=jB (f:=bg.enc) (fun x=>by simp only[bg.aD,au.aD,encS,encI,List.cons_append,List.nil_append,iQ,iP];omega) xs
 obtain⟨rows,hr⟩:∃rows,rows=xs.map bg.enc:=⟨_,rfl⟩
 have hl:rows.length=xs.length:=by rw[hr,List.length_map]
 rw[←hr] at hp hk hlen ⊢
 refine aG (rs:=[.tmp 4]) Tryz.checked.mixed Tryz.func118 Tryz.ntmps118 rfl rfl rfl rfl rfl ?_
 refine W1 ?_
 refine aT (ι:=Nat) Tryz.checked.mixed rfl [0,1,5] (fun i=>[.c (.xp (1+l,j) r p),.c (.d (.i .i64 (k+ak (rows.take i)))),.c (.d (.i .i64 i))])
  (fun i=>[]::S) (fun i=>i≤xs.length) (fun i=>xs.length-i) 0 ?_ rfl (Nat.zero_le _) ?_
 ·have z0:k+((ak (rows.take 0):Nat):Int)=k:=by simp[ak]
  rw[z0]
  rfl
 intro i hi
 simp -implicitDefEqProofs (disch:=omega) only[go_sem,hS,hp,aW,hl]
 with_reducible refine dU (fun hb=> ?_) (fun hb=> ?_)<;>have h:=hb<;>try simp only[wf_preprocess] at h
 ·have hi:i<xs.length:=by omega
  have hir:i<rows.length:=by omega
  obtain⟨x,hx⟩:∃x,x=xs[i]:=⟨_,rfl⟩
  have e1:rows[i]=[.s x.fName,.i .i64 x.fType.aK,.s x.fType.fName,.sl (x.fType.fArgs.map au.enc)]:=by
   simp only[hr,List.getElem_map,←hx]
   simp only[bg.aD,au.aD,encS,encI,List.cons_append,List.nil_append]
  have hm:=gI hir
  have hle:=iU (rows:=rows) (i:=i+1)
  rw[hm,e1] at hle
  rw[e1] at hm
  simp only[iQ,iP] at hle hm
  have hK:k+((ak (rows.take (i+1)):Nat):Int)=k+((ak (rows.take i):Nat):Int)+1+1+1+((ak (x.fType.fArgs.map au.enc):Nat):Int):=by rw[hm];omega
  have e2:jv rows[i] (k+((ak (rows.take i):Nat):Int))=[.s (eU (k+((ak (rows.take i):Nat):Int))),.i .i64 (k+((ak (rows.take i):Nat):Int)+1),.s (eU (k+((ak (rows.take i):Nat):Int)+1+1)),.sl (bV (x.fType.fArgs.map au.enc) (k+((ak (rows.take i):Nat):Int)+1+1+1))]:=by
   rw[e1]
   simp only[jv,sJ]
   all_goals rfl
  have hC:∀o,cellAt (bV rows k) i o=([.s (eU (k+((ak (rows.take i):Nat):Int))),.i .i64 (k+((ak (rows.take i):Nat):Int)+1),.s (eU (k+((ak (rows.take i):Nat):Int)+1+1)),.sl (bV (x.fType.fArgs.map au.enc) (k+((ak (rows.take i):Nat):Int)+1+1+1))]:List D)[o]? :=fun o=>by
   have h1:(bV rows k)[i]? =some (jv rows[i] (k+((ak (rows.take i):Nat):Int))):=by
    have h2:=gV (k:=k) hir
    have h3:i<(bV rows k).length:=by rw[aW];exact hir
    rw[List.getD_eq_getElem?_getD,List.getElem?_eq_getElem h3,Option.getD_some] at h2
    rw[List.getElem?_eq_getElem h3,h2]
   unfold cellAt
   rw[h1,Option.bind_some,e2]
  have hG:=gV (k:=k) hir
  rw[e2] at hG
  simp -implicitDefEqProofs (disch:=omega) only[go_sem,hb,hS,hp,hC,hG,aW,hl,bU]
  refine W3 ?_
  refine aZ (bR (k+((ak (rows.take i):Nat):Int)) (by omega)) ?_
  simp -implicitDefEqProofs (disch:=omega) only[go_sem,hb,hS,hp,hC,hG,aW,hl,bU]
  refine W3 ?_
  refine aZ (bR (k+((ak (rows.take i):Nat):Int)+1+1) (by omega)) ?_
  simp -implicitDefEqProofs (disch:=omega) only[go_sem,hb,hS,hp,hC,hG,aW,hl,bU]
  refine W3 ?_
  refine bJ rfl (jQ x.fType.fArgs (k+((ak (rows.take i):Nat):Int)+1+1+1) (1+l) j r _ _ _ (by rw[dR];exact hS) (fI hp (by rw[hC];rfl)) (by omega)) ?_
  simp -implicitDefEqProofs (disch:=omega) only[go_sem,hb,hS,hp,hC,hG,aW,hl,bU,fC]
  refine W3 ?_
  refine bP (i+1) (by omega) (by rw[hK];rfl) rfl (by omega)
 ·simp -implicitDefEqProofs (disch:=omega) only[go_sem,hb]
  have hi:i=xs.length:=by omega
  rw[List.take_of_length_le (by omega)]
  all_goals (first|rfl|exact⟨rfl,rfl⟩)
end Go.Proofs.YtocpgjlbagncjaaGreatDoor
namespace Go.Proofs.YtocpgjlbagncjaaGreatDoor
open Go Go.Ab
set_option maxHeartbeats 4000000 in
theorem KA(xs:List aY):∀(k:Int) (l j r:Nat) (p:List (Nat×Nat)) (S:Store) (rs:List (List (List D))),bI S (l,j)=some (.xf rs)→atR rs r p=some (xs.map aY.enc)→0≤k∧k+ak (xs.map aY.enc)≤4611686018427387904→cB Tryz.prog 50 [.c (.xp (l,j) r p),.c (.d (.i .i64 k))] S (fun res S'=>res=.c (.d (.i .i64 (k+ak (xs.map aY.enc))))∧S'=bQ S (l,j) (.xf (dG rs r p (bV (xs.map aY.enc) k)))):=by
 intro k l j r p S rs hS hp hk
 have hlen:=jB (f:=aY.enc) (fun x=>by simp only[ay.aD,aY.aD,au.aD,encS,encI,List.cons_append,List.nil_append,iQ,iP];omega) xs
 obtain⟨rows,hr⟩:∃rows,rows=xs.map aY.enc:=⟨_,rfl⟩
 have hl:rows.length=xs.length:=by rw[hr,List.length_map]
 rw[←hr] at hp hk hlen ⊢
 have ht:∀x:Ab.Obj,bI (bQ S (l,j) x) (l,j)=some x:=fun x=>dK _ _ _ _ hS
 have hA:∀new,atR (dG rs r p new) r p=some new:=fun new=>lJ hp
 have hU:∀a b,dG (dG rs r p a) r p b=dG rs r p b:=fun a b=>kT hp
 refine aG (rs:=[.tmp 4]) Tryz.checked.mixed Tryz.func50 Tryz.ntmps50 rfl rfl rfl rfl rfl ?_
 refine W1 ?_
 refine aT (ι:=Nat) Tryz.checked.mixed rfl [0,1,5] (fun i=>[.c (.xp (1+l,j) r p),.c (.d (.i .i64 (k+ak (rows.take i)))),.c (.d (.i .i64 i))])
  (fun i=>[]::bQ S (l,j) (.xf (dG rs r p (nL rows k i)))) (fun i=>i≤xs.length) (fun i=>xs.length-i) 0 ?_ ?_ (Nat.zero_le _) ?_
 ·have z0:k+((ak (rows.take 0):Nat):Int)=k:=by simp[ak]
  rw[z0]
  rfl
 ·rw[lU,lT hp,jG _ _ hS]
 intro i hi
 simp -implicitDefEqProofs (disch:=omega) only[go_sem,ht,hA,iC,hl]
 with_reducible refine dU (fun hb=> ?_) (fun hb=> ?_)<;>have h:=hb<;>try simp only[wf_preprocess] at h
 ·have hi:i<xs.length:=by omega
  have hir:i<rows.length:=by omega
  obtain⟨x,hx⟩:∃x,x=xs[i]:=⟨_,rfl⟩
  have e1:rows[i]=[.s x.fName,.sl (x.aA.map encS),.sl (x.bn.map aO.enc),.sl (x.aJ.map bg.enc),.i .i64 x.aU.aK,.s x.aU.fName,.sl (x.aU.fArgs.map au.enc),.i .i64 x.fBody.aK,.s x.fBody.bL,.s x.fBody.fName,.i .i64 x.fBody.fN,.i .i64 x.fBody.fType.aK,.s x.fBody.fType.fName,.sl (x.fBody.fType.fArgs.map au.enc),.sl (x.fBody.fArgs.map ay.enc),.sl (x.fBody.aP.map aR.enc)]:=by
   simp only[hr,List.getElem_map,←hx]
   simp only[ay.aD,aY.aD,au.aD,encS,encI,List.cons_append,List.nil_append]
  have hm:=gI hir
  have hle:=iU (rows:=rows) (i:=i+1)
  rw[hm,e1] at hle
  rw[e1] at hm
  simp only[iQ,iP] at hle hm
  have hK:k+((ak (rows.take (i+1)):Nat):Int)=k+((ak (rows.take i):Nat):Int)+1+((ak (x.aA.map encS):Nat):Int)+((ak (x.bn.map aO.enc):Nat):Int)+((ak (x.aJ.map bg.enc):Nat):Int)+1+1+((ak (x.aU.fArgs.map au.enc):Nat):Int)+1+1+1+1+1+1+((ak (x.fBody.fType.fArgs.map au.enc):Nat):Int)+((ak (x.fBody.fArgs.map ay.enc):Nat):Int)+((ak (x.fBody.aP.map aR.enc):Nat):Int):=by rw[hm];omega
  have e2:=qd (k:=k) hir
  rw[e1] at e2
  have hC:∀row o,cellAt (jk rows k i row) i o=row[o]? :=fun row o=>kD hir
  have hG:∀row,(jk rows k i row).getD i []=row:=fun row=>mM hir
  simp -implicitDefEqProofs (disch:=omega) only[go_sem,hb,ht,hA,hU,e2,hC,hG,bW,bG,hl,bq,bU]
  refine W3 ?_
  refine aZ (bR (k+((ak (rows.take i):Nat):Int)) (by omega)) ?_
  simp -implicitDefEqProofs (disch:=omega) only[go_sem,hb,ht,hA,hU,e2,hC,hG,bW,bG,hl,bq,bU]
  refine W3 ?_
  refine bJ rfl (gQ hS hp hir (by rfl) (fun S' rs' g1 g2=>mZ x.aA (k+((ak (rows.take i):Nat):Int)+1) (1+l) j r _ S' rs' g1 g2 (by omega))) ?_
  simp -implicitDefEqProofs (disch:=omega) only[go_sem,hb,ht,hA,hU,e2,hC,hG,bW,bG,hl,bq,bU]
  refine W3 ?_
  refine bJ rfl (gQ hS hp hir (by rfl) (fun S' rs' g1 g2=>Gj x.bn (k+((ak (rows.take i):Nat):Int)+1+((ak (x.aA.map encS):Nat):Int)) (1+l) j r _ S' rs' g1 g2 (by omega))) ?_
  simp -implicitDefEqProofs (disch:=omega) only[go_sem,hb,ht,hA,hU,e2,hC,hG,bW,bG,hl,bq,bU]
  refine W3 ?_
  refine bJ rfl (gQ hS hp hir (by rfl) (fun S' rs' g1 g2=>Qp x.aJ (k+((ak (rows.take i):Nat):Int)+1+((ak (x.aA.map encS):Nat):Int)+((ak (x.bn.map aO.enc):Nat):Int)) (1+l) j r _ S' rs' g1 g2 (by omega))) ?_
  simp -implicitDefEqProofs (disch:=omega) only[go_sem,hb,ht,hA,hU,e2,hC,hG,bW,bG,hl,bq,bU]
  refine W3 ?_
  refine aZ (bR (k+((ak (rows.take i):Nat):Int)+1+((ak (x.aA.map encS):Nat):Int)+((ak (x.bn.map aO.enc):Nat):Int)+((ak (x.aJ.map bg.enc):Nat):Int)+1) (by omega)) ?_
  simp -implicitDefEqProofs (disch:=omega) only[go_sem,hb,ht,hA,hU,e2,hC,hG,bW,bG,hl,bq,bU]
  refine W3 ?_
  refine bJ rfl (gQ hS hp hir (by rfl) (fun S' rs' g1 g2=>jP x.aU.fArgs (k+((ak (rows.take i):Nat):Int)+1+((ak (x.aA.map encS):Nat):Int)+((ak (x.bn.map aO.enc):Nat):Int)+((ak (x.aJ.map bg.enc):Nat):Int)+1+1) (1+l) j r _ S' rs' g1 g2 (by omega))) ?_
  simp -implicitDefEqProofs (disch:=omega) only[go_sem,hb,ht,hA,hU,e2,hC,hG,bW,bG,hl,bq,bU]
  refine W3 ?_
  refine aZ (bR (k+((ak (rows.take i):Nat):Int)+1+((ak (x.aA.map encS):Nat):Int)+((ak (x.bn.map aO.enc):Nat):Int)+((ak (x.aJ.map bg.enc):Nat):Int)+1+1+((ak (x.aU.fArgs.map au.enc):Nat):Int)+1) (by omega)) ?_
  simp -implicitDefEqProofs (disch:=omega) only[go_sem,hb,ht,hA,hU,e2,hC,hG,bW,bG,hl,bq,bU]
  refine W3 ?_
  refine aZ (bR (k+((ak (rows.take i):Nat):Int)+1+((ak (x.aA.map encS):Nat):Int)+((ak (x.bn.map aO.enc):Nat):Int)+((ak (x.aJ.map bg.enc):Nat):Int)+1+1+((ak (x.aU.fArgs.map au.enc):Nat):Int)+1+1) (by omega)) ?_
  simp -implicitDefEqProofs (disch:=omega) only[go_sem,hb,ht,hA,hU,e2,hC,hG,bW,bG,hl,bq,bU]
  refine W3 ?_
  refine aZ (bR (k+((ak (rows.take i):Nat):Int)+1+((ak (x.aA.map encS):Nat):Int)+((ak (x.bn.map aO.enc):Nat):Int)+((ak (x.aJ.map bg.enc):Nat):Int)+1+1+((ak (x.aU.fArgs.map au.enc):Nat):Int)+1+1+1+1+1) (by omega)) ?_
  simp -implicitDefEqProofs (disch:=omega) only[go_sem,hb,ht,hA,hU,e2,hC,hG,bW,bG,hl,bq,bU]
  refine W3 ?_
  refine bJ rfl (gQ hS hp hir (by rfl) (fun S' rs' g1 g2=>jP x.fBody.fType.fArgs (k+((ak (rows.take i):Nat):Int)+1+((ak (x.aA.map encS):Nat):Int)+((ak (x.bn.map aO.enc):Nat):Int)+((ak (x.aJ.map bg.enc):Nat):Int)+1+1+((ak (x.aU.fArgs.map au.enc):Nat):Int)+1+1+1+1+1+1) (1+l) j r _ S' rs' g1 g2 (by omega))) ?_
  simp -implicitDefEqProofs (disch:=omega) only[go_sem,hb,ht,hA,hU,e2,hC,hG,bW,bG,hl,bq,bU]
  refine W3 ?_
  refine bJ rfl (gQ hS hp hir (by rfl) (fun S' rs' g1 g2=>CR x.fBody.fArgs (k+((ak (rows.take i):Nat):Int)+1+((ak (x.aA.map encS):Nat):Int)+((ak (x.bn.map aO.enc):Nat):Int)+((ak (x.aJ.map bg.enc):Nat):Int)+1+1+((ak (x.aU.fArgs.map au.enc):Nat):Int)+1+1+1+1+1+1+((ak (x.fBody.fType.fArgs.map au.enc):Nat):Int)) (1+l) j r _ S' rs' g1 g2 (by omega))) ?_
  simp -implicitDefEqProofs (disch:=omega) only[go_sem,hb,ht,hA,hU,e2,hC,hG,bW,bG,hl,bq,bU]
  refine W3 ?_
  refine bJ rfl (gQ hS hp hir (by rfl) (fun S' rs' g1 g2=>D6 x.fBody.aP (k+((ak (rows.take i):Nat):Int)+1+((ak (x.aA.map encS):Nat):Int)+((ak (x.bn.map aO.enc):Nat):Int)+((ak (x.aJ.map bg.enc):Nat):Int)+1+1+((ak (x.aU.fArgs.map au.enc):Nat):Int)+1+1+1+1+1+1+((ak (x.fBody.fType.fArgs.map au.enc):Nat):Int)+((ak (x.fBody.fArgs.map ay.enc):Nat):Int)) (1+l) j r _ S' rs' g1 g2 (by omega))) ?_
  simp -implicitDefEqProofs (disch:=omega) only[go_sem,hb,ht,hA,hU,e2,hC,hG,bW,bG,hl,bq,bU]
  refine W3 ?_
  refine bP (i+1) (by omega) (by rw[hK];rfl) ?_ (by omega)
  have h3:=qg (k:=k) hir
  rw[e1] at h3
  simp only[jv,sJ] at h3
  rw[←h3]
  all_goals rfl
 ·simp -implicitDefEqProofs (disch:=omega) only[go_sem,hb]
  have hi:i=xs.length:=by omega
  rw[nM (by omega),List.take_of_length_le (by omega)]
  all_goals (first|rfl|exact⟨rfl,rfl⟩)
set_option maxHeartbeats 4000000 in
theorem KC(xs:List aY):∀(k:Int) (l j r:Nat) (p:List (Nat×Nat)) (S:Store) (rs:List (List (List D))),bI S (l,j)=some (.xf rs)→atR rs r p=some (bV (xs.map aY.enc) k)→0≤k∧k+ak (xs.map aY.enc)≤4611686018427387904→cB Tryz.prog 55 [.c (.xp (l,j) r p),.c (.d (.i .i64 k))] S (fun res S'=>res=.c (.d (.i .i64 (k+ak (xs.map aY.enc))))∧S'=S):=by
 intro k l j r p S rs hS hp hk
 have hlen:=jB (f:=aY.enc) (fun x=>by simp only[ay.aD,aY.aD,au.aD,encS,encI,List.cons_append,List.nil_append,iQ,iP];omega) xs
 obtain⟨rows,hr⟩:∃rows,rows=xs.map aY.enc:=⟨_,rfl⟩
 have hl:rows.length=xs.length:=by rw[hr,List.length_map]
 rw[←hr] at hp hk hlen ⊢
 refine aG (rs:=[.tmp 4]) Tryz.checked.mixed Tryz.func55 Tryz.ntmps55 rfl rfl rfl rfl rfl ?_
 refine W1 ?_
 refine aT (ι:=Nat) Tryz.checked.mixed rfl [0,1,5] (fun i=>[.c (.xp (1+l,j) r p),.c (.d (.i .i64 (k+ak (rows.take i)))),.c (.d (.i .i64 i))])
  (fun i=>[]::S) (fun i=>i≤xs.length) (fun i=>xs.length-i) 0 ?_ rfl (Nat.zero_le _) ?_
 ·have z0:k+((ak (rows.take 0):Nat):Int)=k:=by simp[ak]
  rw[z0]
  rfl
 intro i hi
 simp -implicitDefEqProofs (disch:=omega) only[go_sem,hS,hp,aW,hl]
 with_reducible refine dU (fun hb=> ?_) (fun hb=> ?_)<;>have h:=hb<;>try simp only[wf_preprocess] at h
 ·have hi:i<xs.length:=by omega
  have hir:i<rows.length:=by omega
  obtain⟨x,hx⟩:∃x,x=xs[i]:=⟨_,rfl⟩
  have e1:rows[i]=[.s x.fName,.sl (x.aA.map encS),.sl (x.bn.map aO.enc),.sl (x.aJ.map bg.enc),.i .i64 x.aU.aK,.s x.aU.fName,.sl (x.aU.fArgs.map au.enc),.i .i64 x.fBody.aK,.s x.fBody.bL,.s x.fBody.fName,.i .i64 x.fBody.fN,.i .i64 x.fBody.fType.aK,.s x.fBody.fType.fName,.sl (x.fBody.fType.fArgs.map au.enc),.sl (x.fBody.fArgs.map ay.enc),.sl (x.fBody.aP.map aR.enc)]:=by
   simp only[hr,List.getElem_map,←hx]
   simp only[ay.aD,aY.aD,au.aD,encS,encI,List.cons_append,List.nil_append]
  have hm:=gI hir
  have hle:=iU (rows:=rows) (i:=i+1)
  rw[hm,e1] at hle
  rw[e1] at hm
  simp only[iQ,iP] at hle hm
  have hK:k+((ak (rows.take (i+1)):Nat):Int)=k+((ak (rows.take i):Nat):Int)+1+((ak (x.aA.map encS):Nat):Int)+((ak (x.bn.map aO.enc):Nat):Int)+((ak (x.aJ.map bg.enc):Nat):Int)+1+1+((ak (x.aU.fArgs.map au.enc):Nat):Int)+1+1+1+1+1+1+((ak (x.fBody.fType.fArgs.map au.enc):Nat):Int)+((ak (x.fBody.fArgs.map ay.enc):Nat):Int)+((ak (x.fBody.aP.map aR.enc):Nat):Int):=by rw[hm];omega
  have e2:jv rows[i] (k+((ak (rows.take i):Nat):Int))=[.s (eU (k+((ak (rows.take i):Nat):Int))),.sl (bV (x.aA.map encS) (k+((ak (rows.take i):Nat):Int)+1)),.sl (bV (x.bn.map aO.enc) (k+((ak (rows.take i):Nat):Int)+1+((ak (x.aA.map encS):Nat):Int))),.sl (bV (x.aJ.map bg.enc) (k+((ak (rows.take i):Nat):Int)+1+((ak (x.aA.map encS):Nat):Int)+((ak (x.bn.map aO.enc):Nat):Int))),.i .i64 (k+((ak (rows.take i):Nat):Int)+1+((ak (x.aA.map encS):Nat):Int)+((ak (x.bn.map aO.enc):Nat):Int)+((ak (x.aJ.map bg.enc):Nat):Int)),.s (eU (k+((ak (rows.take i):Nat):Int)+1+((ak (x.aA.map encS):Nat):Int)+((ak (x.bn.map aO.enc):Nat):Int)+((ak (x.aJ.map bg.enc):Nat):Int)+1)),.sl (bV (x.aU.fArgs.map au.enc) (k+((ak (rows.take i):Nat):Int)+1+((ak (x.aA.map encS):Nat):Int)+((ak (x.bn.map aO.enc):Nat):Int)+((ak (x.aJ.map bg.enc):Nat):Int)+1+1)),.i .i64 (k+((ak (rows.take i):Nat):Int)+1+((ak (x.aA.map encS):Nat):Int)+((ak (x.bn.map aO.enc):Nat):Int)+((ak (x.aJ.map bg.enc):Nat):Int)+1+1+((ak (x.aU.fArgs.map au.enc):Nat):Int)),.s (eU (k+((ak (rows.take i):Nat):Int)+1+((ak (x.aA.map encS):Nat):Int)+((ak (x.bn.map aO.enc):Nat):Int)+((ak (x.aJ.map bg.enc):Nat):Int)+1+1+((ak (x.aU.fArgs.map au.enc):Nat):Int)+1)),.s (eU (k+((ak (rows.take i):Nat):Int)+1+((ak (x.aA.map encS):Nat):Int)+((ak (x.bn.map aO.enc):Nat):Int)+((ak (x.aJ.map bg.enc):Nat):Int)+1+1+((ak (x.aU.fArgs.map au.enc):Nat):Int)+1+1)),.i .i64 (k+((ak (rows.take i):Nat):Int)+1+((ak (x.aA.map encS):Nat):Int)+((ak (x.bn.map aO.enc):Nat):Int)+((ak (x.aJ.map bg.enc):Nat):Int)+1+1+((ak (x.aU.fArgs.map au.enc):Nat):Int)+1+1+1),.i .i64 (k+((ak (rows.take i):Nat):Int)+1+((ak (x.aA.map encS):Nat):Int)+((ak (x.bn.map aO.enc):Nat):Int)+((ak (x.aJ.map bg.enc):Nat):Int)+1+1+((ak (x.aU.fArgs.map au.enc):Nat):Int)+1+1+1+1),.s (eU (k+((ak (rows.take i):Nat):Int)+1+((ak (x.aA.map encS):Nat):Int)+((ak (x.bn.map aO.enc):Nat):Int)+((ak (x.aJ.map bg.enc):Nat):Int)+1+1+((ak (x.aU.fArgs.map au.enc):Nat):Int)+1+1+1+1+1)),.sl (bV (x.fBody.fType.fArgs.map au.enc) (k+((ak (rows.take i):Nat):Int)+1+((ak (x.aA.map encS):Nat):Int)+((ak (x.bn.map aO.enc):Nat):Int)+((ak (x.aJ.map bg.enc):Nat):Int)+1+1+((ak (x.aU.fArgs.map au.enc):Nat):Int)+1+1+1+1+1+1)),.sl (bV (x.fBody.fArgs.map ay.enc) (k+((ak (rows.take i):Nat):Int)+1+((ak (x.aA.map encS):Nat):Int)+((ak (x.bn.map aO.enc):Nat):Int)+((ak (x.aJ.map bg.enc):Nat):Int)+1+1+((ak (x.aU.fArgs.map au.enc):Nat):Int)+1+1+1+1+1+1+((ak (x.fBody.fType.fArgs.map au.enc):Nat):Int))),.sl (bV (x.fBody.aP.map aR.enc) (k+((ak (rows.take i):Nat):Int)+1+((ak (x.aA.map encS):Nat):Int)+((ak (x.bn.map aO.enc):Nat):Int)+((ak (x.aJ.map bg.enc):Nat):Int)+1+1+((ak (x.aU.fArgs.map au.enc):Nat):Int)+1+1+1+1+1+1+((ak (x.fBody.fType.fArgs.map au.enc):Nat):Int)+((ak (x.fBody.fArgs.map ay.enc):Nat):Int)))]:=by
   rw[e1]
   simp only[jv,sJ]
   all_goals rfl
  have hC:∀o,cellAt (bV rows k) i o=([.s (eU (k+((ak (rows.take i):Nat):Int))),.sl (bV (x.aA.map encS) (k+((ak (rows.take i):Nat):Int)+1)),.sl (bV (x.bn.map aO.enc) (k+((ak (rows.take i):Nat):Int)+1+((ak (x.aA.map encS):Nat):Int))),.sl (bV (x.aJ.map bg.enc) (k+((ak (rows.take i):Nat):Int)+1+((ak (x.aA.map encS):Nat):Int)+((ak (x.bn.map aO.enc):Nat):Int))),.i .i64 (k+((ak (rows.take i):Nat):Int)+1+((ak (x.aA.map encS):Nat):Int)+((ak (x.bn.map aO.enc):Nat):Int)+((ak (x.aJ.map bg.enc):Nat):Int)),.s (eU (k+((ak (rows.take i):Nat):Int)+1+((ak (x.aA.map encS):Nat):Int)+((ak (x.bn.map aO.enc):Nat):Int)+((ak (x.aJ.map bg.enc):Nat):Int)+1)),.sl (bV (x.aU.fArgs.map au.enc) (k+((ak (rows.take i):Nat):Int)+1+((ak (x.aA.map encS):Nat):Int)+((ak (x.bn.map aO.enc):Nat):Int)+((ak (x.aJ.map bg.enc):Nat):Int)+1+1)),.i .i64 (k+((ak (rows.take i):Nat):Int)+1+((ak (x.aA.map encS):Nat):Int)+((ak (x.bn.map aO.enc):Nat):Int)+((ak (x.aJ.map bg.enc):Nat):Int)+1+1+((ak (x.aU.fArgs.map au.enc):Nat):Int)),.s (eU (k+((ak (rows.take i):Nat):Int)+1+((ak (x.aA.map encS):Nat):Int)+((ak (x.bn.map aO.enc):Nat):Int)+((ak (x.aJ.map bg.enc):Nat):Int)+1+1+((ak (x.aU.fArgs.map au.enc):Nat):Int)+1)),.s (eU (k+((ak (rows.take i):Nat):Int)+1+((ak (x.aA.map encS):Nat):Int)+((ak (x.bn.map aO.enc):Nat):Int)+((ak (x.aJ.map bg.enc):Nat):Int)+1+1+((ak (x.aU.fArgs.map au.enc):Nat):Int)+1+1)),.i .i64 (k+((ak (rows.take i):Nat):Int)+1+((ak (x.aA.map encS):Nat):Int)+((ak (x.bn.map aO.enc):Nat):Int)+((ak (x.aJ.map bg.enc):Nat):Int)+1+1+((ak (x.aU.fArgs.map au.enc):Nat):Int)+1+1+1),.i .i64 (k+((ak (rows.take i):Nat):Int)+1+((ak (x.aA.map encS):Nat):Int)+((ak (x.bn.map aO.enc):Nat):Int)+((ak (x.aJ.map bg.enc):Nat):Int)+1+1+((ak (x.aU.fArgs.map au.enc):Nat):Int)+1+1+1+1),.s (eU (k+((ak (rows.take i):Nat):Int)+1+((ak (x.aA.map encS):Nat):Int)+((ak (x.bn.map aO.enc):Nat):Int)+((ak (x.aJ.map bg.enc):Nat):Int)+1+1+((ak (x.aU.fArgs.map au.enc):Nat):Int)+1+1+1+1+1)),.sl (bV (x.fBody.fType.fArgs.map au.enc) (k+((ak (rows.take i):Nat):Int)+1+((ak (x.aA.map encS):Nat):Int)+((ak (x.bn.map aO.enc):Nat):Int)+((ak (x.aJ.map bg.enc):Nat):Int)+1+1+((ak (x.aU.fArgs.map au.enc):Nat):Int)+1+1+1+1+1+1)),.sl (bV (x.fBody.fArgs.map ay.enc) (k+((ak (rows.take i):Nat):Int)+1+((ak (x.aA.map encS):Nat):Int)+((ak (x.bn.map aO.enc):Nat):Int)+((ak (x.aJ.map bg.enc):Nat):Int)+1+1+((ak (x.aU.fArgs.map au.enc):Nat):Int)+1+1+1+1+1+1+((ak (x.fBody.fType.fArgs.map au.enc):Nat):Int))),.sl (bV (x.fBody.aP.map aR.enc) (k+((ak (rows.take i):Nat):Int)+1+((ak (x.aA.map encS):Nat):Int)+((ak (x.bn.map aO.enc):Nat):Int)+((ak (x.aJ.map bg.enc):Nat):Int)+1+1+((ak (x.aU.fArgs.map au.enc):Nat):Int)+1+1+1+1+1+1+((ak (x.fBody.fType.fArgs.map au.enc):Nat):Int)+((ak (x.fBody.fArgs.map ay.enc):Nat):Int)))]:List D)[o]? :=fun o=>by
   have h1:(bV rows k)[i]? =some (jv rows[i] (k+((ak (rows.take i):Nat):Int))):=by
    have h2:=gV (k:=k) hir
    have h3:i<(bV rows k).length:=by rw[aW];exact hir
    rw[List.getD_eq_getElem?_getD,List.getElem?_eq_getElem h3,Option.getD_some] at h2
    rw[List.getElem?_eq_getElem h3,h2]
   unfold cellAt
   rw[h1,Option.bind_some,e2]
  have hG:=gV (k:=k) hir
  rw[e2] at hG
  simp -implicitDefEqProofs (disch:=omega) only[go_sem,hb,hS,hp,hC,hG,aW,hl,bU]
  refine W3 ?_
  refine aZ (bR (k+((ak (rows.take i):Nat):Int)) (by omega)) ?_
  simp -implicitDefEqProofs (disch:=omega) only[go_sem,hb,hS,hp,hC,hG,aW,hl,bU]
  refine W3 ?_
  refine bJ rfl (ng x.aA (k+((ak (rows.take i):Nat):Int)+1) (1+l) j r _ _ _ (by rw[dR];exact hS) (fI hp (by rw[hC];rfl)) (by omega)) ?_
  simp -implicitDefEqProofs (disch:=omega) only[go_sem,hb,hS,hp,hC,hG,aW,hl,bU,fC]
  refine W3 ?_
  refine bJ rfl (Gl x.bn (k+((ak (rows.take i):Nat):Int)+1+((ak (x.aA.map encS):Nat):Int)) (1+l) j r _ _ _ (by rw[dR];exact hS) (fI hp (by rw[hC];rfl)) (by omega)) ?_
  simp -implicitDefEqProofs (disch:=omega) only[go_sem,hb,hS,hp,hC,hG,aW,hl,bU,fC]
  refine W3 ?_
  refine bJ rfl (Qq x.aJ (k+((ak (rows.take i):Nat):Int)+1+((ak (x.aA.map encS):Nat):Int)+((ak (x.bn.map aO.enc):Nat):Int)) (1+l) j r _ _ _ (by rw[dR];exact hS) (fI hp (by rw[hC];rfl)) (by omega)) ?_
  simp -implicitDefEqProofs (disch:=omega) only[go_sem,hb,hS,hp,hC,hG,aW,hl,bU,fC]
  refine W3 ?_
  refine aZ (bR (k+((ak (rows.take i):Nat):Int)+1+((ak (x.aA.map encS):Nat):Int)+((ak (x.bn.map aO.enc):Nat):Int)+((ak (x.aJ.map bg.enc):Nat):Int)+1) (by omega)) ?_
  simp -implicitDefEqProofs (disch:=omega) only[go_sem,hb,hS,hp,hC,hG,aW,hl,bU]
  refine W3 ?_
  refine bJ rfl (jQ x.aU.fArgs (k+((ak (rows.take i):Nat):Int)+1+((ak (x.aA.map encS):Nat):Int)+((ak (x.bn.map aO.enc):Nat):Int)+((ak (x.aJ.map bg.enc):Nat):Int)+1+1) (1+l) j r _ _ _ (by rw[dR];exact hS) (fI hp (by rw[hC];rfl)) (by omega)) ?_
  simp -implicitDefEqProofs (disch:=omega) only[go_sem,hb,hS,hp,hC,hG,aW,hl,bU,fC]
  refine W3 ?_
  refine aZ (bR (k+((ak (rows.take i):Nat):Int)+1+((ak (x.aA.map encS):Nat):Int)+((ak (x.bn.map aO.enc):Nat):Int)+((ak (x.aJ.map bg.enc):Nat):Int)+1+1+((ak (x.aU.fArgs.map au.enc):Nat):Int)+1) (by omega)) ?_
  simp -implicitDefEqProofs (disch:=omega) only[go_sem,hb,hS,hp,hC,hG,aW,hl,bU]
  refine W3 ?_
  refine aZ (bR (k+((ak (rows.take i):Nat):Int)+1+((ak (x.aA.map encS):Nat):Int)+((ak (x.bn.map aO.enc):Nat):Int)+((ak (x.aJ.map bg.enc):Nat):Int)+1+1+((ak (x.aU.fArgs.map au.enc):Nat):Int)+1+1) (by omega)) ?_
  simp -implicitDefEqProofs (disch:=omega) only[go_sem,hb,hS,hp,hC,hG,aW,hl,bU]
  refine W3 ?_
  refine aZ (bR (k+((ak (rows.take i):Nat):Int)+1+((ak (x.aA.map encS):Nat):Int)+((ak (x.bn.map aO.enc):Nat):Int)+((ak (x.aJ.map bg.enc):Nat):Int)+1+1+((ak (x.aU.fArgs.map au.enc):Nat):Int)+1+1+1+1+1) (by omega)) ?_
  simp -implicitDefEqProofs (disch:=omega) only[go_sem,hb,hS,hp,hC,hG,aW,hl,bU]
  refine W3 ?_
  refine bJ rfl (jQ x.fBody.fType.fArgs (k+((ak (rows.take i):Nat):Int)+1+((ak (x.aA.map encS):Nat):Int)+((ak (x.bn.map aO.enc):Nat):Int)+((ak (x.aJ.map bg.enc):Nat):Int)+1+1+((ak (x.aU.fArgs.map au.enc):Nat):Int)+1+1+1+1+1+1) (1+l) j r _ _ _ (by rw[dR];exact hS) (fI hp (by rw[hC];rfl)) (by omega)) ?_
  simp -implicitDefEqProofs (disch:=omega) only[go_sem,hb,hS,hp,hC,hG,aW,hl,bU,fC]
  refine W3 ?_
  refine bJ rfl (CU x.fBody.fArgs (k+((ak (rows.take i):Nat):Int)+1+((ak (x.aA.map encS):Nat):Int)+((ak (x.bn.map aO.enc):Nat):Int)+((ak (x.aJ.map bg.enc):Nat):Int)+1+1+((ak (x.aU.fArgs.map au.enc):Nat):Int)+1+1+1+1+1+1+((ak (x.fBody.fType.fArgs.map au.enc):Nat):Int)) (1+l) j r _ _ _ (by rw[dR];exact hS) (fI hp (by rw[hC];rfl)) (by omega)) ?_
  simp -implicitDefEqProofs (disch:=omega) only[go_sem,hb,hS,hp,hC,hG,aW,hl,bU,fC]
  refine W3 ?_
  refine bJ rfl (D7 x.fBody.aP (k+((ak (rows.take i):Nat):Int)+1+((ak (x.aA.map encS):Nat):Int)+((ak (x.bn.map aO.enc):Nat):Int)+((ak (x.aJ.map bg.enc):Nat):Int)+1+1+((ak (x.aU.fArgs.map au.enc):Nat):Int)+1+1+1+1+1+1+((ak (x.fBody.fType.fArgs.map au.enc):Nat):Int)+((ak (x.fBody.fArgs.map ay.enc):Nat):Int)) (1+l) j r _ _ _ (by rw[dR];exact hS) (fI hp (by rw[hC];rfl)) (by omega)) ?_
  simp -implicitDefEqProofs (disch:=omega) only[go_sem,hb,hS,hp,hC,hG,aW,hl,bU,fC]
  refine W3 ?_
  refine bP (i+1) (by omega) (by rw[hK];rfl) rfl (by omega)
 ·simp -implicitDefEqProofs (disch:=omega) only[go_sem,hb]
  have hi:i=xs.length:=by omega
  rw[List.take_of_length_le (by omega)]
  all_goals (first|rfl|exact⟨rfl,rfl⟩)
end Go.Proofs.YtocpgjlbagncjaaGreatDoor
namespace Go.Proofs.YtocpgjlbagncjaaGreatDoor
open Go Go.Ab
theorem Od(x:bB)(k:Int)(l j b:Nat)(S:Store)(rs:List (List (List D)))(hS:bI S (l,j)=some (.xf rs))(h1:atR rs (b+1) []=some (x.fU.map encS))(h2:atR rs (b+2) []=some (x.dz.map bC.enc))(h3:atR rs (b+3) []=some (x.aX.map aS.enc))(h4:atR rs (b+4) []=some (x.dx.map aQ.enc))(h5:atR rs (b+5) []=some (x.cZ.map aY.enc))(hk:0≤k∧k+((ak (x.fU.map encS):Nat):Int)+((ak (x.dz.map bC.enc):Nat):Int)+((ak (x.aX.map aS.enc):Nat):Int)+((ak (x.dx.map aQ.enc):Nat):Int)+((ak (x.cZ.map aY.enc):Nat):Int)≤4611686018427387904):cB Tryz.prog 14 [.agg [.d (.s x.fName),.xp (l,j) (b+1) [],.xp (l,j) (b+2) [],.xp (l,j) (b+3) [],.xp (l,j) (b+4) [],.xp (l,j) (b+5) []],.c (.d (.i .i64 k))] S (fun res S'=>res=.c (.d (.i .i64 (k+((ak (x.fU.map encS):Nat):Int)+((ak (x.dz.map bC.enc):Nat):Int)+((ak (x.aX.map aS.enc):Nat):Int)+((ak (x.dx.map aQ.enc):Nat):Int)+((ak (x.cZ.map aY.enc):Nat):Int))))∧S'=bQ S (l,j) (.xf (dG (dG (dG (dG (dG (rs) (b+1) [] (bV (x.fU.map encS) (k))) (b+2) [] (bV (x.dz.map bC.enc) (k+((ak (x.fU.map encS):Nat):Int)))) (b+3) [] (bV (x.aX.map aS.enc) (k+((ak (x.fU.map encS):Nat):Int)+((ak (x.dz.map bC.enc):Nat):Int)))) (b+4) [] (bV (x.dx.map aQ.enc) (k+((ak (x.fU.map encS):Nat):Int)+((ak (x.dz.map bC.enc):Nat):Int)+((ak (x.aX.map aS.enc):Nat):Int)))) (b+5) [] (bV (x.cZ.map aY.enc) (k+((ak (x.fU.map encS):Nat):Int)+((ak (x.dz.map bC.enc):Nat):Int)+((ak (x.aX.map aS.enc):Nat):Int)+((ak (x.dx.map aQ.enc):Nat):Int)))))):=by
 have ht:∀x:Ab.Obj,bI (bQ S (l,j) x) (l,j)=some x:=fun x=>dK _ _ _ _ hS
 refine aG (rs:=[.tmp 4]) Tryz.checked.mixed Tryz.func14 Tryz.ntmps14 rfl rfl rfl rfl rfl ?_
 refine W1 ?_
 refine bJ rfl (mZ x.fU (k) (1+l) j (b+1) [] _ _ (by rw[dR];first|exact hS|exact ht _) (by first|assumption|(simp(disch:=omega) only[ne_eq,vQ];assumption)) (by omega)) ?_
 simp -implicitDefEqProofs (disch:=omega) only[go_sem,bq,vI]
 refine bJ rfl (Qn x.dz (k+((ak (x.fU.map encS):Nat):Int)) (1+l) j (b+2) [] _ _ (by rw[dR];first|exact hS|exact ht _) (by first|assumption|(simp(disch:=omega) only[ne_eq,vQ];assumption)) (by omega)) ?_
 simp -implicitDefEqProofs (disch:=omega) only[go_sem,bq,vI]
 refine bJ rfl (Kv x.aX (k+((ak (x.fU.map encS):Nat):Int)+((ak (x.dz.map bC.enc):Nat):Int)) (1+l) j (b+3) [] _ _ (by rw[dR];first|exact hS|exact ht _) (by first|assumption|(simp(disch:=omega) only[ne_eq,vQ];assumption)) (by omega)) ?_
 simp -implicitDefEqProofs (disch:=omega) only[go_sem,bq,vI]
 refine bJ rfl (Ky x.dx (k+((ak (x.fU.map encS):Nat):Int)+((ak (x.dz.map bC.enc):Nat):Int)+((ak (x.aX.map aS.enc):Nat):Int)) (1+l) j (b+4) [] _ _ (by rw[dR];first|exact hS|exact ht _) (by first|assumption|(simp(disch:=omega) only[ne_eq,vQ];assumption)) (by omega)) ?_
 simp -implicitDefEqProofs (disch:=omega) only[go_sem,bq,vI]
 refine bJ rfl (KA x.cZ (k+((ak (x.fU.map encS):Nat):Int)+((ak (x.dz.map bC.enc):Nat):Int)+((ak (x.aX.map aS.enc):Nat):Int)+((ak (x.dx.map aQ.enc):Nat):Int)) (1+l) j (b+5) [] _ _ (by rw[dR];first|exact hS|exact ht _) (by first|assumption|(simp(disch:=omega) only[ne_eq,vQ];assumption)) (by omega)) ?_
 simp -implicitDefEqProofs (disch:=omega) only[go_sem,bq,vI]
 try exact⟨rfl,rfl⟩
theorem EK(x:bB)(k:Int)(l j b:Nat)(S:Store)(rs:List (List (List D)))(hS:bI S (l,j)=some (.xf rs))(h1:atR rs (b+1) []=some (bV (x.fU.map encS) (k)))(h2:atR rs (b+2) []=some (bV (x.dz.map bC.enc) (k+((ak (x.fU.map encS):Nat):Int))))(h3:atR rs (b+3) []=some (bV (x.aX.map aS.enc) (k+((ak (x.fU.map encS):Nat):Int)+((ak (x.dz.map bC.enc):Nat):Int))))(h4:atR rs (b+4) []=some (bV (x.dx.map aQ.enc) (k+((ak (x.fU.map encS):Nat):Int)+((ak (x.dz.map bC.enc):Nat):Int)+((ak (x.aX.map aS.enc):Nat):Int))))(h5:atR rs (b+5) []=some (bV (x.cZ.map aY.enc) (k+((ak (x.fU.map encS):Nat):Int)+((ak (x.dz.map bC.enc):Nat):Int)+((ak (x.aX.map aS.enc):Nat):Int)+((ak (x.dx.map aQ.enc):Nat):Int))))(hk:0≤k∧k+((ak (x.fU.map encS):Nat):Int)+((ak (x.dz.map bC.enc):Nat):Int)+((ak (x.aX.map aS.enc):Nat):Int)+((ak (x.dx.map aQ.enc):Nat):Int)+((ak (x.cZ.map aY.enc):Nat):Int)≤4611686018427387904):cB Tryz.prog 15 [.agg [.d (.s x.fName),.xp (l,j) (b+1) [],.xp (l,j) (b+2) [],.xp (l,j) (b+3) [],.xp (l,j) (b+4) [],.xp (l,j) (b+5) []],.c (.d (.i .i64 k))] S (fun res S'=>res=.c (.d (.i .i64 (k+((ak (x.fU.map encS):Nat):Int)+((ak (x.dz.map bC.enc):Nat):Int)+((ak (x.aX.map aS.enc):Nat):Int)+((ak (x.dx.map aQ.enc):Nat):Int)+((ak (x.cZ.map aY.enc):Nat):Int))))∧S'=S):=by
 refine aG (rs:=[.tmp 4]) Tryz.checked.mixed Tryz.func15 Tryz.ntmps15 rfl rfl rfl rfl rfl ?_
 refine W1 ?_
 refine bJ rfl (ng x.fU (k) (1+l) j (b+1) [] _ _ (by rw[dR];first|exact hS|exact ht _) (by first|assumption|(simp(disch:=omega) only[ne_eq,vQ];assumption)) (by omega)) ?_
 simp -implicitDefEqProofs (disch:=omega) only[go_sem,fC]
 refine bJ rfl (Qo x.dz (k+((ak (x.fU.map encS):Nat):Int)) (1+l) j (b+2) [] _ _ (by rw[dR];first|exact hS|exact ht _) (by first|assumption|(simp(disch:=omega) only[ne_eq,vQ];assumption)) (by omega)) ?_
 simp -implicitDefEqProofs (disch:=omega) only[go_sem,fC]
 refine bJ rfl (Kw x.aX (k+((ak (x.fU.map encS):Nat):Int)+((ak (x.dz.map bC.enc):Nat):Int)) (1+l) j (b+3) [] _ _ (by rw[dR];first|exact hS|exact ht _) (by first|assumption|(simp(disch:=omega) only[ne_eq,vQ];assumption)) (by omega)) ?_
 simp -implicitDefEqProofs (disch:=omega) only[go_sem,fC]
 refine bJ rfl (Kz x.dx (k+((ak (x.fU.map encS):Nat):Int)+((ak (x.dz.map bC.enc):Nat):Int)+((ak (x.aX.map aS.enc):Nat):Int)) (1+l) j (b+4) [] _ _ (by rw[dR];first|exact hS|exact ht _) (by first|assumption|(simp(disch:=omega) only[ne_eq,vQ];assumption)) (by omega)) ?_
 simp -implicitDefEqProofs (disch:=omega) only[go_sem,fC]
 refine bJ rfl (KC x.cZ (k+((ak (x.fU.map encS):Nat):Int)+((ak (x.dz.map bC.enc):Nat):Int)+((ak (x.aX.map aS.enc):Nat):Int)+((ak (x.dx.map aQ.enc):Nat):Int)) (1+l) j (b+5) [] _ _ (by rw[dR];first|exact hS|exact ht _) (by first|assumption|(simp(disch:=omega) only[ne_eq,vQ];assumption)) (by omega)) ?_
 simp -implicitDefEqProofs (disch:=omega) only[go_sem,fC]
 try exact⟨rfl,rfl⟩
end Go.Proofs.YtocpgjlbagncjaaGreatDoor
namespace Go.Proofs.YtocpgjlbagncjaaGreatDoor.fnExactSExprToPackage
open Go Go.Ab
set_option maxHeartbeats 4000000 in
theorem law(x0:aj)(f0:wO x0.enc):cB Tryz.prog 3 [x0.v] [] (fun r _=>r=.c (.d (.b true))):=by
 have hmx:=Lp x0.enc x0.gP.2
 rw[aj.dn,aj.dZ] at hmx
 simp only[aj.aD,List.cons_append,List.nil_append,iQ,iP] at hmx
 refine aG (rs:=[.tmp 2]) Tryz.checked.mixed Tryz.func3 Tryz.ntmps3 rfl rfl rfl rfl rfl ?_
 refine W1 ?_
 refine C2 (Yn x0 _ (by omega) (by omega) f0) ?_
 refine S1 fun hb h=>?_
 have h0:=zm h
 have c1:=VH x0 (by omega)
 have c2:=fun n=>Ql x0 n (by omega)
 have hd:(Ig x0).sz≤1048576:=aif x0
 obtain⟨X,hX⟩:∃X,X=Ig x0:=⟨_,rfl⟩
 obtain⟨B,hB⟩:∃B,B=Dp x0:=⟨_,rfl⟩
 rw[←hX] at hd
 simp only[←hX,←hB] at c1 c2
 have hmd:=Lp X.enc X.gP.2
 rw[bB.dn,bB.dZ] at hmd
 simp only[bB.aD,List.cons_append,List.nil_append,iQ,iP] at hmd
 have c3:aI Tryz.prog 10 [x0.v] (.dY [(true,X.enc.map .d),(false,[.d (.b B)])]):=
  aI.less (c2 0) (abn fun w σ S β vs h=>aar h)
 simp only[bB.cv,bB.aD,List.cons_append,List.nil_append,List.map_cons,List.map_nil] at c1 c3
 refine C2 (Fx x0 (by omega)) ?_
 refine aZ c1 ?_
 refine W1 ?_
 refine bJ rfl (cB.own (mk:=V.agg) (r:=x0.enc) Yi x0.gP.1 (fun n=>VJ x0 n (by omega))) ?_
 simp -implicitDefEqProofs (disch:=omega) only[go_sem,aj.aD,List.cons_append,List.nil_append,DN,QB,xk]
 refine bJ rfl (cB.aky (k:=(0,2)) rfl (mk:=fun cs=>.dY ((true,cs)::[C.d (.b B)].map fun x=>(false,[x]))) (r:=X.enc) (Yj [C.d (.b B)] rfl) X.gP.1 (fun n=>c2 n)) ?_
 simp -implicitDefEqProofs (disch:=omega) only[go_sem,bB.aD,List.cons_append,List.nil_append,List.map_cons,List.map_nil,DN,QB,xk]
 refine bJ rfl (cB.lend (k:=(0,4)) rfl (Fp rfl) (CJ X X (by omega))) ?_
 simp -implicitDefEqProofs (disch:=omega) only[go_sem,bA rfl,Bool.not_true]
 refine C2 (Fx x0 (by omega)) ?_
 refine ZH rfl (DS.refl _) (cB.lend (k:=(0,2)) rfl (Fp rfl) (Yo x0 x0 (by omega))) ?_
 simp -implicitDefEqProofs (disch:=omega) only[go_sem,bA rfl,Bool.not_true]
 refine bJ rfl (Ug x0 1 0 2 0 _ _ rfl rfl ⟨by omega,by omega⟩) ?_
 simp -implicitDefEqProofs (disch:=omega) only[go_sem,fC]
 refine bJ rfl (cB.lend (k:=(0,4)) rfl (Fp rfl) (CJ X X (by omega))) ?_
 simp -implicitDefEqProofs (disch:=omega) only[go_sem,bA rfl,Bool.not_true]
 refine bJ rfl (Od X 1 0 4 0 _ _ rfl rfl rfl rfl rfl rfl ⟨by omega,by omega⟩) ?_
 refine W1 ?_
 refine bJ rfl (EK X 1 0 4 0 _ _ rfl rfl rfl rfl rfl rfl ⟨by omega,by omega⟩) ?_
 simp -implicitDefEqProofs (disch:=omega) only[go_sem,fC,Bool.not_true]
 refine C2 (Fx x0 (by omega)) ?_
 refine aZ c3 ?_
 refine W1 ?_
 refine aZ (CJ X X (by omega)) ?_
 simp -implicitDefEqProofs (disch:=omega) only[go_sem,bA rfl,Bool.not_true]
 refine bJ rfl (EK X 1 0 4 0 _ _ rfl rfl rfl rfl rfl rfl ⟨by omega,by omega⟩) ?_
 simp -implicitDefEqProofs (disch:=omega) only[go_sem,fC,Bool.not_true]
end Go.Proofs.YtocpgjlbagncjaaGreatDoor.fnExactSExprToPackage
namespace Go.Ab
open Go
theorem Qr{H:Type}{enc:TypeId×Value→H}{P:Program}{w:World}{base:Nat}{sp:Nat→Bool}{held:Bool}{fuel n:Nat}{t e:TypeId}{k:IntKind}{cs:List Value}{ns:List Int}{p:List MemPlace}
 (ht:P.underlying t=some (.array n e)) (he:P.underlying e=some (.int k)) (ce:P.cellsOf e=1) (ct:P.cellsOf t=n)
 (h:DataW.trod enc P w base sp held fuel t cs=some (.agg (ns.map fun z=>.lit (.int k z)),p)):cs=ns.map (Value.int k ·):=by
 obtain⟨xs,m,_,ex,hlen,hl,hel⟩:=DataW.trod_array ht h
 rw[ct] at hlen
 have e3:=DataW.agg.inj (Prod.mk.inj ex).1
 have hns:ns.length=n:=by have:=congrArg List.length e3;simpa [hl] using this
 refine List.ext_getElem (by rw[hlen,List.length_map,hns]) fun i h1 h2=> ?_
 have k0:=hel i (by omega)
 rw[ce,Nat.mul_one] at k0
 have hd:(cs.drop i).take 1=[cs[i]]:=by
  rw[List.drop_eq_getElem_cons h1];rfl
 rw[hd,List.getElem?_eq_getElem (by omega)] at k0
 obtain⟨z,a,b,_⟩:=DataW.trod_int he k0
 have e4:(ns.map fun z=>(DataW.lit (Lit.int k z):DataW H))[i]'(by rw[List.length_map];omega)=(xs.map (·.1))[i]'(by rw[List.length_map];omega):=by simp only[e3]
 rw[List.getElem_map,List.getElem_map,b] at e4
 simp only[DataW.lit.injEq,Lit.int.injEq,true_and] at e4
 rw[List.getElem_map,e4]
 simpa using a
theorem Iq{P:Program}{w:World}{n:String}{g:Nat}{cs:Array Value}(hg:P.globalNamed n=some g)(h:w.var? P n=some cs):∃t fz,w.heap[g]? =some (.cells cs t fz):=by
 unfold World.var? at h
 rw[hg] at h
 simp only[Option.bind_some] at h
 split at h
 ·rename_i c t fz hh
  cases h
  exact⟨t,fz,hh⟩
 ·cases h
end Go.Ab
namespace Go.Proofs.YtocpgjlbagncjaaGreatDoor
open Go Go.Ab Go.ChangeShapes Go.RowKit
theorem gES:Tryz.prog.globalNamed "strconv.ErrSyntax" =some 3:=by kernel_rfl
theorem agN:(Tryz.prog.globals[3]?).map (·.type)=some 267:=by kernel_rfl
theorem gER:Tryz.prog.globalNamed "strconv.ErrRange" =some 4:=by kernel_rfl
theorem agO:(Tryz.prog.globals[4]?).map (·.type)=some 267:=by kernel_rfl
theorem cellsE:Tryz.prog.cellsOf 324=1:=by kernel_rfl
theorem cellsS:Tryz.prog.cellsOf 9=1:=by kernel_rfl
theorem ae7: "*" ++ "errors.errorString" = "*errors.errorString" :=by decide
theorem aii(u:TypeId)(h:Tryz.prog.typeName? 3 u=some "*errors.errorString"):u=322:=
 typeName_ptr_named (nm:= "errors.errorString") (by rw[ae7];kernel_rfl) (by kernel_rfl) (by decide) u (by rw[ae7];exact h)
theorem Uh{W:World}{r:List (String×DataW Unit)}(hr:(r.all fun x=>x.2.handleName?.isNone)=true)
 (h0:laidMetH Tryz.prog (("math/bits.deBruijn32tab",Rows.laid_math_bits_deBruijn32tab)::("math/bits.deBruijn64tab",Rows.laid_math_bits_deBruijn64tab)::("internal/strconv.uint64pow10",Rows.laid_internal_strconv_uint64pow10)::("strconv.ErrRange",Rows.laid_strconv_ErrRange)::("strconv.ErrSyntax",Rows.laid_strconv_ErrSyntax)::r) W):DC W (kX W):=by
 rw[MakeChecks.laidMetH_plain _ _ _ (by
  rw[List.all_cons,List.all_cons,List.all_cons,List.all_cons,List.all_cons,hr];kernel_rfl)] at h0
 have hR:=h0.tail.tail.tail
 have hS:=hR.tail
 obtain⟨a1,s1,hv1,_,_,_⟩:=laid_sentinel hR gER agO Tryz.underlying267 aii Tryz.underlying322 Tryz.underlying324 rfl rfl Tryz.underlying9 cellsE cellsS
 obtain⟨a2,s2,hv2,_,_,_⟩:=laid_sentinel hS gES agN Tryz.underlying267 aii Tryz.underlying322 Tryz.underlying324 rfl rfl Tryz.underlying9 cellsE cellsS
 obtain⟨t1,Ji,F6⟩:=Iq gER hv1
 obtain⟨t2,fz2,AZ⟩:=Iq gES hv2
 obtain⟨ps,⟨_,_,_,_,_,_,_,_,_,_,⟨_,_,_,_,_,_,_,_,_,_,⟨g,t,cs,fuel,p,q,hg,ht,hv,hd,_,_⟩,_⟩,_⟩,_,_⟩:=h0
 have hn:Tryz.prog.globalNamed "internal/strconv.uint64pow10" =some 5:=by kernel_rfl
 obtain rfl:=Option.some.inj (hn.symm.trans hg)
 obtain rfl:=Option.some.inj ((show(Tryz.prog.globals[5]?).map (·.type)=some 316 by kernel_rfl).symm.trans ht)
 have hl:(Rows.laid_internal_strconv_uint64pow10:DataW Unit)=.agg (((List.range 20).map fun i=>((10^i:Nat):Int)).map fun z=>.lit (.int .u64 z)):=by kernel_rfl
 rw[hl] at hd
 have e:=Qr Tryz.underlying316 Tryz.underlying301 (by kernel_rfl) (by kernel_rfl) hd
 obtain⟨t',fz,hh⟩:=Iq hg hv
 intro g' p' hm
 have fast:∀{b:Nat} {c:Array Value} {t:TypeId} {fz:Nat×Nat},W.heap[b]? =some (.cells c t fz)→c.size≤kX W b:=fun {b c t fz} hb=>by
  unfold kX;rw[hb];exact Nat.le_refl _
 rcases List.mem_cons.1 hm with hm|hm
 ·cases hm
  refine⟨cs,t',fz,hh,?_,fast hh⟩
  show cs.toList=_
  rw[e,List.map_map];rfl
 rcases List.mem_cons.1 hm with hm|hm
 ·cases hm
  exact⟨_,t1,Ji,F6,⟨_,_,rfl⟩,fast F6⟩
 ·have hm':=List.eq_of_mem_singleton hm
  cases hm'
  exact⟨_,t2,fz2,AZ,⟨_,_,rfl⟩,fast AZ⟩
end Go.Proofs.YtocpgjlbagncjaaGreatDoor
namespace Go.Ab
theorem Ui{P:Program}{n:Nat}{t:TypeId}{ds:List D}(h:WT P n t ds):∃m,n=m+1:=by
 cases n with
 |zero=>exact h.elim
 |succ m=>exact⟨m,rfl⟩
theorem abN{P:Program}{n:Nat}{t:TypeId}{ds:List D}(ht:P.underlying t=some .string)(h:WT P n t ds):∃l,ds=[.s l]:=by
 obtain⟨m,rfl⟩:=Ui h
 simp only[WT,ht] at h;exact⟨h.choose,h.choose_spec.1⟩
theorem aez{P:Program}{n:Nat}{t e:TypeId}{ds:List D}(ht:P.underlying t=some (.slice e))(h:WT P n t ds):∃es m,m<n∧ds=[.sl es]∧∀x∈es,WT P m e x:=by
 obtain⟨m,rfl⟩:=Ui h
 simp only[WT,ht] at h
 obtain⟨es,h1,_,h2⟩:=h
 exact⟨es,m,by omega,h1,fun x hx=>(h2 x hx).2⟩
theorem abO{P:Program}{n:Nat}{t:TypeId}{fs:Array Field}{ds:List D}(ht:P.underlying t=some (.struct fs))(h:WT P n t ds):∃m,m<n∧V4 P (WT P m) fs.toList ds:=by
 obtain⟨m,rfl⟩:=Ui h
 simp only[WT,ht] at h
 exact⟨m,by omega,h⟩
theorem Uj{α:Type}{enc:α→List D}:∀{es:List (List D)},(∀x∈es,∃m,x=enc m)→∃ms:List α,es=ms.map enc
 |[],_=>⟨[],rfl⟩
 |e::es,h=>by
  obtain⟨m,hm⟩:=h e (by simp)
  obtain⟨ms,hms⟩:=Uj (es:=es) fun x hx=>h x (by simp[hx])
  exact⟨m::ms,by rw[List.map_cons,←hm,←hms]⟩
theorem WJ{P:Program}{W:TypeId→List D→Prop}(hW:∀t ds,W t ds→wO ds):∀(fs:List Field) (ds:List D),V4 P W fs ds→wO ds
 |[],ds,h=>by
  have h:ds=[]:=h
  rw[h];exact zl
 |f::fs,ds,h=>by
  obtain⟨a,b,rfl,_,h1,h2⟩:=h
  exact Jl.2 ⟨hW _ _ h1,WJ hW fs b h2⟩
theorem Uk{P:Program}:∀(n:Nat) (t:TypeId) (ds:List D),WT P n t ds→wO ds
 |0,t,ds,h=>h.elim
 |n+1,t,ds,h=>by
  simp only[WT] at h
  split at h
  ·obtain⟨b,rfl⟩:=h;exact Ah.2 ⟨.b _,zl⟩
  ·obtain⟨b,rfl,_⟩:=h;exact Ah.2 ⟨.i _ _,zl⟩
  ·obtain⟨l,rfl,hl⟩:=h;exact Ah.2 ⟨.s _ hl,zl⟩
  ·obtain⟨es,rfl,hl,hh⟩:=h
   exact Ah.2 ⟨.sl _ hl fun e he d hd=>Uk n _ e (hh e he).2 d hd,zl⟩
  ·exact WJ (Uk n) _ _ h
  ·exact h.elim
end Go.Ab
namespace Go.Proofs.YtocpgjlbagncjaaGreatDoor
open Go Go.Ab
theorem aeA:∀(n:Nat) (ds:List D),WT Tryz.prog n 24 ds→∃x:aj,ds=x.enc:=by
 intro n
 induction n using Nat.strongRecOn with
 |_ n ih=>
  intro ds h
  obtain⟨m,hm,h⟩:=abO Tryz.underlying24 h
  simp only[V4] at h
  obtain⟨a0,r0,rfl,l0,h0,a1,r1,rfl,l1,h1,rfl⟩:=h
  obtain⟨x0,rfl⟩:=abN Tryz.underlying9 h0
  obtain⟨es1,m1,hm1,rfl,hs1⟩:=aez Tryz.underlying22 h1
  obtain⟨x1,rfl⟩:=Uj (enc:=aj.enc) fun y hy=>ih m1 (by omega) y (hs1 y hy)
  refine⟨aj.mk x0 x1,?_⟩
  rw[aj.aD]
  simp[aj.bf,aj.ah]
end Go.Proofs.YtocpgjlbagncjaaGreatDoor
