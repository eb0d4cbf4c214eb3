/-
  SEVERAL TEXTS IN ONE (merged by program): contracts and models, each with its own heading.
-/
import Derived.Test.YtlmhknhlmicmeaaGreatDoorPartUsbF
import Derived.Test.YtlmhknhlmicmeaaGreatDoorRows
import Derived.OpenShut
import Derived.LaidMore
set_option linter.unusedSimpArgs false
set_option linter.unusedVariables false
set_option maxRecDepth 8000
set_option maxRecDepth 4000
namespace Go.Proofs.YtlmhknhlmicmeaaGreatDoor
open Go Go.Ab
theorem Fu:∀N:Nat,(∀x:au,SizeOf.sizeOf x<N→∀n:Nat,x.sz≤1048576→aG Tryz.prog 21 [x.v] (.agg ((dR x.enc n).map .d)))∧
 (∀xs:List au,SizeOf.sizeOf xs<N→∀n:Nat,xs.length+aI (xs.map au.enc)≤1048576→aG Tryz.prog 95 [.c (.d (.sl (xs.map au.enc)))] (.c (.d (eU (.sl (xs.map au.enc)) n))))∧
 (∀x:aW,SizeOf.sizeOf x<N→∀n:Nat,x.sz≤1048576→aG Tryz.prog 188 [x.v] (.agg ((dR x.enc n).map .d)))∧
 (∀xs:List aW,SizeOf.sizeOf xs<N→∀n:Nat,xs.length+aI (xs.map aW.enc)≤1048576→aG Tryz.prog 96 [.c (.d (.sl (xs.map aW.enc)))] (.c (.d (eU (.sl (xs.map aW.enc)) n))))
 |0=>⟨fun x h=>by omega,fun x h=>by omega,fun x h=>by omega,fun x h=>by omega⟩
 |N+1=>by
  obtain⟨pF,oI,wT,ze⟩:=Fu N
  refine⟨fun x hn n hsz=> ?_,fun xs hn n hsz=> ?_,fun x hn n hsz=> ?_,fun xs hn n hsz=> ?_⟩
  ·intro S
   have jf:=au.fI x
   have tu:=au.mo x
   simp only[au.sz,au.aC,bP,bA,D.sz,List.length_map,aj.dw] at hsz
   refine aA (rs:=[.cell 2 61]) Tryz.checked.mixed Tryz.func21 Tryz.ntmps21 rfl rfl rfl rfl rfl ?_
   simp only[au.aC,aj.aC,encS,encI,List.cons_append,List.nil_append,dR,eU,jq,jy,List.map_cons,List.map_nil,Nat.add_zero]
   simp -implicitDefEqProofs (disch:=omega) only[go_sem]
   refine ah (qV x.fType (n) (by omega)) ?_
   simp -implicitDefEqProofs (disch:=omega) only[go_sem,aj.aC,encS,encI,List.cons_append,List.nil_append,dR,eU,jq,jy,List.map_cons,List.map_nil,Nat.add_zero]
   refine ah (oI x.fArgs (by omega) (n+(dG (x.fType.fArgs.map aj.enc)+1)) (by omega)) ?_
   simp -implicitDefEqProofs (disch:=omega) only[go_sem,eU]
   refine ah (ze x.aZ (by omega) (n+(dG (x.fType.fArgs.map aj.enc)+1)+(dG (x.fArgs.map au.enc)+1)) (by omega)) ?_
   simp -implicitDefEqProofs (disch:=omega) only[go_sem,eU]
   all_goals (first|rfl|(simp only[Nat.add_assoc];done))
  ·obtain⟨T,hT⟩:∃T,T=fu (xs.map au.enc) (n+1):=⟨_,rfl⟩
   have eO:T.length=xs.length:=by rw[hT,gB,List.length_map]
   show aG Tryz.prog 95 [.c (.d (.sl (xs.map au.enc)))] (.c (.d (.ol n (fu (xs.map au.enc) (n+1)))))
   rw[←hT]
   intro S
   refine jk (n) (rs:=[.tmp 2]) Tryz.checked.mixed Tryz.func95 Tryz.ntmps95 rfl rfl rfl rfl rfl ?_
   simp -implicitDefEqProofs (disch:=omega) only[go_sem]
   (repeat(with_reducible refine And.intro ?_ ?_;focus first|omega|rfl|assumption|exact⟨_,rfl,rfl⟩|(simp;omega)|(simp;done)))
   refine aV (ι:=Nat×List (List D)) Tryz.checked.mixed rfl [0,3,4] (fun y=>[.c (.d (.sl (xs.map au.enc))),.c (.iy (0,1)),.c (.d (.i .i64 y.1))]) (fun y=>[.seed n,.eZ 9 y.2]::S)
    (fun y=>y.1≤xs.length∧eD 9 y.1 y.2 T) (fun y=>xs.length-y.1) (0,_) rfl rfl ⟨Nat.zero_le _,eD.start (by simp[eO]) rfl⟩ ?_
   rintro⟨i,R⟩ ⟨p1,p2⟩
   simp only at p1 p2
   simp -implicitDefEqProofs (disch:=omega) only[go_sem]
   with_reducible refine aS (fun hb=> ?_) (fun hb=> ?_)<;>have h:=hb<;>(try simp only[wf_preprocess] at h)<;>simp -implicitDefEqProofs (disch:=omega) only[go_sem,hb]<;>(repeat(with_reducible refine And.intro ?_ ?_;focus first|omega|rfl|assumption|exact⟨_,rfl,rfl⟩|(simp;omega)|(simp;done)))
   ·have hi:i<xs.length:=by omega
    have hir:i<(xs.map au.enc).length:=by rw[List.length_map];exact hi
    have hR:=p2.1
    rw[eO] at hR
    have mJ:T[i]? =some (dR (au.enc xs[i]) (n+1+dG ((xs.map au.enc).take i))):=by
     rw[hT,lZ hir,List.getElem_map]
    have hx:xs[i].sz≤aI (xs.map au.enc):=bI (List.mem_map_of_mem (List.getElem_mem hi))
    (repeat(with_reducible refine And.intro ?_ ?_;focus first|omega|rfl|assumption|exact⟨_,rfl,rfl⟩|(simp;omega)|(simp;done)))
    refine ah (pF xs[i] (by have:=List.sizeOf_lt_of_mem (List.getElem_mem hi);omega) (n+1+dG ((xs.map au.enc).take i)) (by omega)) ?_
    obtain⟨row,hrow⟩:∃row,row=dR (au.enc xs[i]) (n+1+dG ((xs.map au.enc).take i)):=⟨_,rfl⟩
    have hrl:row.length=9:=by rw[hrow,eY,au.cK]
    rw[←hrow] at mJ ⊢
    simp -implicitDefEqProofs (disch:=omega) only[go_sem,hrl,mY]
    (repeat(with_reducible refine And.intro ?_ ?_;focus first|omega|rfl|assumption|exact⟨_,rfl,rfl⟩|(simp;omega)|(simp;done)))
    refine bL (i+1,_) (by simp only;omega) rfl rfl ⟨by simp only;omega,p2.step mJ hrl⟩
   ·have hi:i=xs.length:=by omega
    rw[p2.done (by omega)]
  ·intro S
   have Hy:=aW.kW x
   simp only[aW.sz,aW.aC,bP,bA,D.sz,List.length_map,au.dw] at hsz
   refine aA (rs:=[.cell 2 223]) Tryz.checked.mixed Tryz.func188 Tryz.ntmps188 rfl rfl rfl rfl rfl ?_
   simp only[aW.aC,au.aC,aj.aC,encS,encI,List.cons_append,List.nil_append,dR,eU,jq,jy,List.map_cons,List.map_nil,Nat.add_zero]
   simp -implicitDefEqProofs (disch:=omega) only[go_sem]
   refine ah (mI x.aF (n) (by omega)) ?_
   simp -implicitDefEqProofs (disch:=omega) only[go_sem,eU]
   refine ah (pF x.fBody (by omega) (n+(dG (x.aF.map encS)+1)) (by omega)) ?_
   simp -implicitDefEqProofs (disch:=omega) only[go_sem,au.aC,aj.aC,encS,encI,List.cons_append,List.nil_append,dR,eU,jq,jy,List.map_cons,List.map_nil,Nat.add_zero]
   all_goals (first|rfl|(simp only[Nat.add_assoc];done))
  ·obtain⟨T,hT⟩:∃T,T=fu (xs.map aW.enc) (n+1):=⟨_,rfl⟩
   have eO:T.length=xs.length:=by rw[hT,gB,List.length_map]
   show aG Tryz.prog 96 [.c (.d (.sl (xs.map aW.enc)))] (.c (.d (.ol n (fu (xs.map aW.enc) (n+1)))))
   rw[←hT]
   intro S
   refine jk (n) (rs:=[.tmp 2]) Tryz.checked.mixed Tryz.func96 Tryz.ntmps96 rfl rfl rfl rfl rfl ?_
   simp -implicitDefEqProofs (disch:=omega) only[go_sem]
   (repeat(with_reducible refine And.intro ?_ ?_;focus first|omega|rfl|assumption|exact⟨_,rfl,rfl⟩|(simp;omega)|(simp;done)))
   refine aV (ι:=Nat×List (List D)) Tryz.checked.mixed rfl [0,3,4] (fun y=>[.c (.d (.sl (xs.map aW.enc))),.c (.iy (0,1)),.c (.d (.i .i64 y.1))]) (fun y=>[.seed n,.eZ 11 y.2]::S)
    (fun y=>y.1≤xs.length∧eD 11 y.1 y.2 T) (fun y=>xs.length-y.1) (0,_) rfl rfl ⟨Nat.zero_le _,eD.start (by simp[eO]) rfl⟩ ?_
   rintro⟨i,R⟩ ⟨p1,p2⟩
   simp only at p1 p2
   simp -implicitDefEqProofs (disch:=omega) only[go_sem]
   with_reducible refine aS (fun hb=> ?_) (fun hb=> ?_)<;>have h:=hb<;>(try simp only[wf_preprocess] at h)<;>simp -implicitDefEqProofs (disch:=omega) only[go_sem,hb]<;>(repeat(with_reducible refine And.intro ?_ ?_;focus first|omega|rfl|assumption|exact⟨_,rfl,rfl⟩|(simp;omega)|(simp;done)))
   ·have hi:i<xs.length:=by omega
    have hir:i<(xs.map aW.enc).length:=by rw[List.length_map];exact hi
    have hR:=p2.1
    rw[eO] at hR
    have mJ:T[i]? =some (dR (aW.enc xs[i]) (n+1+dG ((xs.map aW.enc).take i))):=by
     rw[hT,lZ hir,List.getElem_map]
    have hx:xs[i].sz≤aI (xs.map aW.enc):=bI (List.mem_map_of_mem (List.getElem_mem hi))
    (repeat(with_reducible refine And.intro ?_ ?_;focus first|omega|rfl|assumption|exact⟨_,rfl,rfl⟩|(simp;omega)|(simp;done)))
    refine ah (wT xs[i] (by have:=List.sizeOf_lt_of_mem (List.getElem_mem hi);omega) (n+1+dG ((xs.map aW.enc).take i)) (by omega)) ?_
    obtain⟨row,hrow⟩:∃row,row=dR (aW.enc xs[i]) (n+1+dG ((xs.map aW.enc).take i)):=⟨_,rfl⟩
    have hrl:row.length=11:=by rw[hrow,eY,aW.cK]
    rw[←hrow] at mJ ⊢
    simp -implicitDefEqProofs (disch:=omega) only[go_sem,hrl,mY]
    (repeat(with_reducible refine And.intro ?_ ?_;focus first|omega|rfl|assumption|exact⟨_,rfl,rfl⟩|(simp;omega)|(simp;done)))
    refine bL (i+1,_) (by simp only;omega) rfl rfl ⟨by simp only;omega,p2.step mJ hrl⟩
   ·have hi:i=xs.length:=by omega
    rw[p2.done (by omega)]
theorem Cb(x:au):∀n:Nat,x.sz≤1048576→aG Tryz.prog 21 [x.v] (.agg ((dR x.enc n).map .d)):=(Fu _).1 x (Nat.lt_succ_self _)
end Go.Proofs.YtlmhknhlmicmeaaGreatDoor
namespace Go.Proofs.YtlmhknhlmicmeaaGreatDoor
open Go Go.Ab
end Go.Proofs.YtlmhknhlmicmeaaGreatDoor
namespace Go.Proofs.YtlmhknhlmicmeaaGreatDoor
open Go Go.Ab
theorem Je(x:aR):∀n:Nat,x.sz≤1048576→aG Tryz.prog 312 [x.v] (.agg ((dR x.enc n).map .d)):=by
 intro n hsz S
 simp only[aR.sz,aR.aC,bP,bA,D.sz,List.length_map,au.dw,aj.dw] at hsz
 refine aA (rs:=[.cell 2 166]) Tryz.checked.mixed Tryz.func312 Tryz.ntmps312 rfl rfl rfl rfl rfl ?_
 simp only[au.aC,aR.aC,aj.aC,encS,encI,List.cons_append,List.nil_append,dR,eU,jq,jy,List.map_cons,List.map_nil,Nat.add_zero]
 first|refine W1 ?_|exact Z1
 refine ah (Fq x.aY (n) (by omega)) ?_
 simp -implicitDefEqProofs (disch:=omega) only[go_sem,eU]
 refine ah (qV x.bO (n+(dG (x.aY.map aj.enc)+1)) (by omega)) ?_
 simp -implicitDefEqProofs (disch:=omega) only[go_sem,aj.aC,encS,encI,List.cons_append,List.nil_append,dR,eU,jq,jy,List.map_cons,List.map_nil,Nat.add_zero]
 refine ah (mI x.aF (n+(dG (x.aY.map aj.enc)+1)+(dG (x.bO.fArgs.map aj.enc)+1)) (by omega)) ?_
 simp -implicitDefEqProofs (disch:=omega) only[go_sem,eU]
 refine ah (Cb x.fBody (n+(dG (x.aY.map aj.enc)+1)+(dG (x.bO.fArgs.map aj.enc)+1)+(dG (x.aF.map encS)+1)) (by omega)) ?_
 simp -implicitDefEqProofs (disch:=omega) only[go_sem,au.aC,aj.aC,encS,encI,List.cons_append,List.nil_append,dR,eU,jq,jy,List.map_cons,List.map_nil,Nat.add_zero]
 all_goals (first|rfl|(simp only[Nat.add_assoc];done))
theorem Gh(xs:List aR):∀n:Nat,xs.length+aI (xs.map aR.enc)≤1048576→aG Tryz.prog 256 [.c (.d (.sl (xs.map aR.enc)))] (.c (.d (eU (.sl (xs.map aR.enc)) n))):=by
 intro n hsz
 obtain⟨T,hT⟩:∃T,T=fu (xs.map aR.enc) (n+1):=⟨_,rfl⟩
 have eO:T.length=xs.length:=by rw[hT,gB,List.length_map]
 show aG Tryz.prog 256 [.c (.d (.sl (xs.map aR.enc)))] (.c (.d (.ol n (fu (xs.map aR.enc) (n+1)))))
 rw[←hT]
 intro S
 refine jk (n) (rs:=[.tmp 2]) Tryz.checked.mixed Tryz.func256 Tryz.ntmps256 rfl rfl rfl rfl rfl ?_
 first|refine W1 ?_|exact Z1
 (repeat(with_reducible refine And.intro ?_ ?_;focus first|omega|rfl|assumption|exact⟨_,rfl,rfl⟩|(simp;omega)|(simp;done)))
 refine aV (ι:=Nat×List (List D)) Tryz.checked.mixed rfl [0,3,4] (fun y=>[.c (.d (.sl (xs.map aR.enc))),.c (.iy (0,1)),.c (.d (.i .i64 y.1))]) (fun y=>[.seed n,.eZ 16 y.2]::S)
  (fun y=>y.1≤xs.length∧eD 16 y.1 y.2 T) (fun y=>xs.length-y.1) (0,_) rfl rfl ⟨Nat.zero_le _,eD.start (by simp[eO]) rfl⟩ ?_
 rintro⟨i,R⟩ ⟨p1,p2⟩
 simp only at p1 p2
 first|refine W1 ?_|exact Z1
 with_reducible refine aS (fun hb=> ?_) (fun hb=> ?_)<;>have h:=hb<;>(try simp only[wf_preprocess] at h)<;>simp -implicitDefEqProofs (disch:=omega) only[go_sem,hb]<;>(repeat(with_reducible refine And.intro ?_ ?_;focus first|omega|rfl|assumption|exact⟨_,rfl,rfl⟩|(simp;omega)|(simp;done)))
 ·have hi:i<xs.length:=by omega
  have hir:i<(xs.map aR.enc).length:=by rw[List.length_map];exact hi
  have hR:=p2.1
  rw[eO] at hR
  have mJ:T[i]? =some (dR (aR.enc xs[i]) (n+1+dG ((xs.map aR.enc).take i))):=by
   rw[hT,lZ hir,List.getElem_map]
  have hx:xs[i].sz≤aI (xs.map aR.enc):=bI (List.mem_map_of_mem (List.getElem_mem hi))
  refine W3 ?_
  refine ah (Je xs[i] (n+1+dG ((xs.map aR.enc).take i)) (by omega)) ?_
  obtain⟨row,hrow⟩:∃row,row=dR (aR.enc xs[i]) (n+1+dG ((xs.map aR.enc).take i)):=⟨_,rfl⟩
  have hrl:row.length=16:=by rw[hrow,eY,aR.cK]
  rw[←hrow] at mJ ⊢
  simp -implicitDefEqProofs (disch:=omega) only[go_sem,hrl,mY]
  (repeat(with_reducible refine And.intro ?_ ?_;focus first|omega|rfl|assumption|exact⟨_,rfl,rfl⟩|(simp;omega)|(simp;done)))
  refine bL (i+1,_) (by simp only;omega) rfl rfl ⟨by simp only;omega,p2.step mJ hrl⟩
 ·have hi:i=xs.length:=by omega
  rw[p2.done (by omega)]
end Go.Proofs.YtlmhknhlmicmeaaGreatDoor
namespace Go.Proofs.YtlmhknhlmicmeaaGreatDoor
open Go Go.Ab
theorem Q0(x:bn):∀n:Nat,x.sz≤1048576→aG Tryz.prog 164 [x.v] (.agg ((dR x.enc n).map .d)):=by
 intro n hsz S
 simp only[bn.sz,bn.aC,bP,bA,D.sz,List.length_map] at hsz
 refine aA (rs:=[.cell 2 85]) Tryz.checked.mixed Tryz.func164 Tryz.ntmps164 rfl rfl rfl rfl rfl ?_
 simp only[bn.aC,encS,encI,List.cons_append,List.nil_append,dR,eU,jq,jy,List.map_cons,List.map_nil,Nat.add_zero]
 first|refine W1 ?_|exact Z1
 refine ah (mI x.bN (n) (by omega)) ?_
 simp -implicitDefEqProofs (disch:=omega) only[go_sem,eU]
 refine ah (Gh x.aD (n+(dG (x.bN.map encS)+1)) (by omega)) ?_
 simp -implicitDefEqProofs (disch:=omega) only[go_sem,eU]
 all_goals (first|rfl|(simp only[Nat.add_assoc];done))
theorem Pq(xs:List bn):∀n:Nat,xs.length+aI (xs.map bn.enc)≤1048576→aG Tryz.prog 62 [.c (.d (.sl (xs.map bn.enc)))] (.c (.d (eU (.sl (xs.map bn.enc)) n))):=by
 intro n hsz
 obtain⟨T,hT⟩:∃T,T=fu (xs.map bn.enc) (n+1):=⟨_,rfl⟩
 have eO:T.length=xs.length:=by rw[hT,gB,List.length_map]
 show aG Tryz.prog 62 [.c (.d (.sl (xs.map bn.enc)))] (.c (.d (.ol n (fu (xs.map bn.enc) (n+1)))))
 rw[←hT]
 intro S
 refine jk (n) (rs:=[.tmp 2]) Tryz.checked.mixed Tryz.func62 Tryz.ntmps62 rfl rfl rfl rfl rfl ?_
 first|refine W1 ?_|exact Z1
 (repeat(with_reducible refine And.intro ?_ ?_;focus first|omega|rfl|assumption|exact⟨_,rfl,rfl⟩|(simp;omega)|(simp;done)))
 refine aV (ι:=Nat×List (List D)) Tryz.checked.mixed rfl [0,3,4] (fun y=>[.c (.d (.sl (xs.map bn.enc))),.c (.iy (0,1)),.c (.d (.i .i64 y.1))]) (fun y=>[.seed n,.eZ 5 y.2]::S)
  (fun y=>y.1≤xs.length∧eD 5 y.1 y.2 T) (fun y=>xs.length-y.1) (0,_) rfl rfl ⟨Nat.zero_le _,eD.start (by simp[eO]) rfl⟩ ?_
 rintro⟨i,R⟩ ⟨p1,p2⟩
 simp only at p1 p2
 first|refine W1 ?_|exact Z1
 with_reducible refine aS (fun hb=> ?_) (fun hb=> ?_)<;>have h:=hb<;>(try simp only[wf_preprocess] at h)<;>simp -implicitDefEqProofs (disch:=omega) only[go_sem,hb]<;>(repeat(with_reducible refine And.intro ?_ ?_;focus first|omega|rfl|assumption|exact⟨_,rfl,rfl⟩|(simp;omega)|(simp;done)))
 ·have hi:i<xs.length:=by omega
  have hir:i<(xs.map bn.enc).length:=by rw[List.length_map];exact hi
  have hR:=p2.1
  rw[eO] at hR
  have mJ:T[i]? =some (dR (bn.enc xs[i]) (n+1+dG ((xs.map bn.enc).take i))):=by
   rw[hT,lZ hir,List.getElem_map]
  have hx:xs[i].sz≤aI (xs.map bn.enc):=bI (List.mem_map_of_mem (List.getElem_mem hi))
  refine W3 ?_
  refine ah (Q0 xs[i] (n+1+dG ((xs.map bn.enc).take i)) (by omega)) ?_
  obtain⟨row,hrow⟩:∃row,row=dR (bn.enc xs[i]) (n+1+dG ((xs.map bn.enc).take i)):=⟨_,rfl⟩
  have hrl:row.length=5:=by rw[hrow,eY,bn.cK]
  rw[←hrow] at mJ ⊢
  simp -implicitDefEqProofs (disch:=omega) only[go_sem,hrl,mY]
  (repeat(with_reducible refine And.intro ?_ ?_;focus first|omega|rfl|assumption|exact⟨_,rfl,rfl⟩|(simp;omega)|(simp;done)))
  refine bL (i+1,_) (by simp only;omega) rfl rfl ⟨by simp only;omega,p2.step mJ hrl⟩
 ·have hi:i=xs.length:=by omega
  rw[p2.done (by omega)]
end Go.Proofs.YtlmhknhlmicmeaaGreatDoor
namespace Go.Proofs.YtlmhknhlmicmeaaGreatDoor
open Go Go.Ab
theorem EI(x:aK):∀n:Nat,x.sz≤1048576→aG Tryz.prog 313 [x.v] (.agg ((dR x.enc n).map .d)):=by
 intro n hsz S
 simp only[aK.sz,aK.aC,bP,bA,D.sz,List.length_map] at hsz
 refine aA (rs:=[.cell 2 202]) Tryz.checked.mixed Tryz.func313 Tryz.ntmps313 rfl rfl rfl rfl rfl ?_
 simp only[aK.aC,encS,encI,List.cons_append,List.nil_append,dR,eU,jq,jy,List.map_cons,List.map_nil,Nat.add_zero]
 first|refine W1 ?_|exact Z1
 refine ah (Fq x.fA (n) (by omega)) ?_
 simp -implicitDefEqProofs (disch:=omega) only[go_sem,eU]
 all_goals (first|rfl|(simp only[Nat.add_assoc];done))
theorem DZ(xs:List aK):∀n:Nat,xs.length+aI (xs.map aK.enc)≤1048576→aG Tryz.prog 257 [.c (.d (.sl (xs.map aK.enc)))] (.c (.d (eU (.sl (xs.map aK.enc)) n))):=by
 intro n hsz
 obtain⟨T,hT⟩:∃T,T=fu (xs.map aK.enc) (n+1):=⟨_,rfl⟩
 have eO:T.length=xs.length:=by rw[hT,gB,List.length_map]
 show aG Tryz.prog 257 [.c (.d (.sl (xs.map aK.enc)))] (.c (.d (.ol n (fu (xs.map aK.enc) (n+1)))))
 rw[←hT]
 intro S
 refine jk (n) (rs:=[.tmp 2]) Tryz.checked.mixed Tryz.func257 Tryz.ntmps257 rfl rfl rfl rfl rfl ?_
 first|refine W1 ?_|exact Z1
 (repeat(with_reducible refine And.intro ?_ ?_;focus first|omega|rfl|assumption|exact⟨_,rfl,rfl⟩|(simp;omega)|(simp;done)))
 refine aV (ι:=Nat×List (List D)) Tryz.checked.mixed rfl [0,3,4] (fun y=>[.c (.d (.sl (xs.map aK.enc))),.c (.iy (0,1)),.c (.d (.i .i64 y.1))]) (fun y=>[.seed n,.eZ 2 y.2]::S)
  (fun y=>y.1≤xs.length∧eD 2 y.1 y.2 T) (fun y=>xs.length-y.1) (0,_) rfl rfl ⟨Nat.zero_le _,eD.start (by simp[eO]) rfl⟩ ?_
 rintro⟨i,R⟩ ⟨p1,p2⟩
 simp only at p1 p2
 first|refine W1 ?_|exact Z1
 with_reducible refine aS (fun hb=> ?_) (fun hb=> ?_)<;>have h:=hb<;>(try simp only[wf_preprocess] at h)<;>simp -implicitDefEqProofs (disch:=omega) only[go_sem,hb]<;>(repeat(with_reducible refine And.intro ?_ ?_;focus first|omega|rfl|assumption|exact⟨_,rfl,rfl⟩|(simp;omega)|(simp;done)))
 ·have hi:i<xs.length:=by omega
  have hir:i<(xs.map aK.enc).length:=by rw[List.length_map];exact hi
  have hR:=p2.1
  rw[eO] at hR
  have mJ:T[i]? =some (dR (aK.enc xs[i]) (n+1+dG ((xs.map aK.enc).take i))):=by
   rw[hT,lZ hir,List.getElem_map]
  have hx:xs[i].sz≤aI (xs.map aK.enc):=bI (List.mem_map_of_mem (List.getElem_mem hi))
  refine W3 ?_
  refine ah (EI xs[i] (n+1+dG ((xs.map aK.enc).take i)) (by omega)) ?_
  obtain⟨row,hrow⟩:∃row,row=dR (aK.enc xs[i]) (n+1+dG ((xs.map aK.enc).take i)):=⟨_,rfl⟩
  have hrl:row.length=2:=by rw[hrow,eY,aK.cK]
  rw[←hrow] at mJ ⊢
  simp -implicitDefEqProofs (disch:=omega) only[go_sem,hrl,mY]
  (repeat(with_reducible refine And.intro ?_ ?_;focus first|omega|rfl|assumption|exact⟨_,rfl,rfl⟩|(simp;omega)|(simp;done)))
  refine bL (i+1,_) (by simp only;omega) rfl rfl ⟨by simp only;omega,p2.step mJ hrl⟩
 ·have hi:i=xs.length:=by omega
  rw[p2.done (by omega)]
end Go.Proofs.YtlmhknhlmicmeaaGreatDoor
namespace Go.Proofs.YtlmhknhlmicmeaaGreatDoor
open Go Go.Ab
theorem Kk(x:aL):∀n:Nat,x.sz≤1048576→aG Tryz.prog 165 [x.v] (.agg ((dR x.enc n).map .d)):=by
 intro n hsz S
 simp only[aL.sz,aL.aC,bP,bA,D.sz,List.length_map] at hsz
 refine aA (rs:=[.cell 2 110]) Tryz.checked.mixed Tryz.func165 Tryz.ntmps165 rfl rfl rfl rfl rfl ?_
 simp only[aL.aC,encS,encI,List.cons_append,List.nil_append,dR,eU,jq,jy,List.map_cons,List.map_nil,Nat.add_zero]
 first|refine W1 ?_|exact Z1
 refine ah (mI x.aF (n) (by omega)) ?_
 simp -implicitDefEqProofs (disch:=omega) only[go_sem,eU]
 refine ah (DZ x.aJ (n+(dG (x.aF.map encS)+1)) (by omega)) ?_
 simp -implicitDefEqProofs (disch:=omega) only[go_sem,eU]
 all_goals (first|rfl|(simp only[Nat.add_assoc];done))
theorem Jf(xs:List aL):∀n:Nat,xs.length+aI (xs.map aL.enc)≤1048576→aG Tryz.prog 63 [.c (.d (.sl (xs.map aL.enc)))] (.c (.d (eU (.sl (xs.map aL.enc)) n))):=by
 intro n hsz
 obtain⟨T,hT⟩:∃T,T=fu (xs.map aL.enc) (n+1):=⟨_,rfl⟩
 have eO:T.length=xs.length:=by rw[hT,gB,List.length_map]
 show aG Tryz.prog 63 [.c (.d (.sl (xs.map aL.enc)))] (.c (.d (.ol n (fu (xs.map aL.enc) (n+1)))))
 rw[←hT]
 intro S
 refine jk (n) (rs:=[.tmp 2]) Tryz.checked.mixed Tryz.func63 Tryz.ntmps63 rfl rfl rfl rfl rfl ?_
 first|refine W1 ?_|exact Z1
 (repeat(with_reducible refine And.intro ?_ ?_;focus first|omega|rfl|assumption|exact⟨_,rfl,rfl⟩|(simp;omega)|(simp;done)))
 refine aV (ι:=Nat×List (List D)) Tryz.checked.mixed rfl [0,3,4] (fun y=>[.c (.d (.sl (xs.map aL.enc))),.c (.iy (0,1)),.c (.d (.i .i64 y.1))]) (fun y=>[.seed n,.eZ 3 y.2]::S)
  (fun y=>y.1≤xs.length∧eD 3 y.1 y.2 T) (fun y=>xs.length-y.1) (0,_) rfl rfl ⟨Nat.zero_le _,eD.start (by simp[eO]) rfl⟩ ?_
 rintro⟨i,R⟩ ⟨p1,p2⟩
 simp only at p1 p2
 first|refine W1 ?_|exact Z1
 with_reducible refine aS (fun hb=> ?_) (fun hb=> ?_)<;>have h:=hb<;>(try simp only[wf_preprocess] at h)<;>simp -implicitDefEqProofs (disch:=omega) only[go_sem,hb]<;>(repeat(with_reducible refine And.intro ?_ ?_;focus first|omega|rfl|assumption|exact⟨_,rfl,rfl⟩|(simp;omega)|(simp;done)))
 ·have hi:i<xs.length:=by omega
  have hir:i<(xs.map aL.enc).length:=by rw[List.length_map];exact hi
  have hR:=p2.1
  rw[eO] at hR
  have mJ:T[i]? =some (dR (aL.enc xs[i]) (n+1+dG ((xs.map aL.enc).take i))):=by
   rw[hT,lZ hir,List.getElem_map]
  have hx:xs[i].sz≤aI (xs.map aL.enc):=bI (List.mem_map_of_mem (List.getElem_mem hi))
  refine W3 ?_
  refine ah (Kk xs[i] (n+1+dG ((xs.map aL.enc).take i)) (by omega)) ?_
  obtain⟨row,hrow⟩:∃row,row=dR (aL.enc xs[i]) (n+1+dG ((xs.map aL.enc).take i)):=⟨_,rfl⟩
  have hrl:row.length=3:=by rw[hrow,eY,aL.cK]
  rw[←hrow] at mJ ⊢
  simp -implicitDefEqProofs (disch:=omega) only[go_sem,hrl,mY]
  (repeat(with_reducible refine And.intro ?_ ?_;focus first|omega|rfl|assumption|exact⟨_,rfl,rfl⟩|(simp;omega)|(simp;done)))
  refine bL (i+1,_) (by simp only;omega) rfl rfl ⟨by simp only;omega,p2.step mJ hrl⟩
 ·have hi:i=xs.length:=by omega
  rw[p2.done (by omega)]
end Go.Proofs.YtlmhknhlmicmeaaGreatDoor
namespace Go.Proofs.YtlmhknhlmicmeaaGreatDoor
open Go Go.Ab
theorem Pt(x:bB):∀n:Nat,x.sz≤1048576→aG Tryz.prog 315 [x.v] (.agg ((dR x.enc n).map .d)):=by
 intro n hsz S
 simp only[bB.sz,bB.aC,bP,bA,D.sz,List.length_map,au.dw] at hsz
 refine aA (rs:=[.cell 2 172]) Tryz.checked.mixed Tryz.func315 Tryz.ntmps315 rfl rfl rfl rfl rfl ?_
 simp only[au.aC,bB.aC,aj.aC,encS,encI,List.cons_append,List.nil_append,dR,eU,jq,jy,List.map_cons,List.map_nil,Nat.add_zero]
 first|refine W1 ?_|exact Z1
 refine ah (mI x.aF (n) (by omega)) ?_
 simp -implicitDefEqProofs (disch:=omega) only[go_sem,eU]
 refine ah (Cb x.fBody (n+(dG (x.aF.map encS)+1)) (by omega)) ?_
 simp -implicitDefEqProofs (disch:=omega) only[go_sem,au.aC,aj.aC,encS,encI,List.cons_append,List.nil_append,dR,eU,jq,jy,List.map_cons,List.map_nil,Nat.add_zero]
 all_goals (first|rfl|(simp only[Nat.add_assoc];done))
theorem Ms(xs:List bB):∀n:Nat,xs.length+aI (xs.map bB.enc)≤1048576→aG Tryz.prog 259 [.c (.d (.sl (xs.map bB.enc)))] (.c (.d (eU (.sl (xs.map bB.enc)) n))):=by
 intro n hsz
 obtain⟨T,hT⟩:∃T,T=fu (xs.map bB.enc) (n+1):=⟨_,rfl⟩
 have eO:T.length=xs.length:=by rw[hT,gB,List.length_map]
 show aG Tryz.prog 259 [.c (.d (.sl (xs.map bB.enc)))] (.c (.d (.ol n (fu (xs.map bB.enc) (n+1)))))
 rw[←hT]
 intro S
 refine jk (n) (rs:=[.tmp 2]) Tryz.checked.mixed Tryz.func259 Tryz.ntmps259 rfl rfl rfl rfl rfl ?_
 first|refine W1 ?_|exact Z1
 (repeat(with_reducible refine And.intro ?_ ?_;focus first|omega|rfl|assumption|exact⟨_,rfl,rfl⟩|(simp;omega)|(simp;done)))
 refine aV (ι:=Nat×List (List D)) Tryz.checked.mixed rfl [0,3,4] (fun y=>[.c (.d (.sl (xs.map bB.enc))),.c (.iy (0,1)),.c (.d (.i .i64 y.1))]) (fun y=>[.seed n,.eZ 11 y.2]::S)
  (fun y=>y.1≤xs.length∧eD 11 y.1 y.2 T) (fun y=>xs.length-y.1) (0,_) rfl rfl ⟨Nat.zero_le _,eD.start (by simp[eO]) rfl⟩ ?_
 rintro⟨i,R⟩ ⟨p1,p2⟩
 simp only at p1 p2
 first|refine W1 ?_|exact Z1
 with_reducible refine aS (fun hb=> ?_) (fun hb=> ?_)<;>have h:=hb<;>(try simp only[wf_preprocess] at h)<;>simp -implicitDefEqProofs (disch:=omega) only[go_sem,hb]<;>(repeat(with_reducible refine And.intro ?_ ?_;focus first|omega|rfl|assumption|exact⟨_,rfl,rfl⟩|(simp;omega)|(simp;done)))
 ·have hi:i<xs.length:=by omega
  have hir:i<(xs.map bB.enc).length:=by rw[List.length_map];exact hi
  have hR:=p2.1
  rw[eO] at hR
  have mJ:T[i]? =some (dR (bB.enc xs[i]) (n+1+dG ((xs.map bB.enc).take i))):=by
   rw[hT,lZ hir,List.getElem_map]
  have hx:xs[i].sz≤aI (xs.map bB.enc):=bI (List.mem_map_of_mem (List.getElem_mem hi))
  refine W3 ?_
  refine ah (Pt xs[i] (n+1+dG ((xs.map bB.enc).take i)) (by omega)) ?_
  obtain⟨row,hrow⟩:∃row,row=dR (bB.enc xs[i]) (n+1+dG ((xs.map bB.enc).take i)):=⟨_,rfl⟩
  have hrl:row.length=11:=by rw[hrow,eY,bB.cK]
  rw[←hrow] at mJ ⊢
  simp -implicitDefEqProofs (disch:=omega) only[go_sem,hrl,mY]
  (repeat(with_reducible refine And.intro ?_ ?_;focus first|omega|rfl|assumption|exact⟨_,rfl,rfl⟩|(simp;omega)|(simp;done)))
  refine bL (i+1,_) (by simp only;omega) rfl rfl ⟨by simp only;omega,p2.step mJ hrl⟩
 ·have hi:i=xs.length:=by omega
  rw[p2.done (by omega)]
end Go.Proofs.YtlmhknhlmicmeaaGreatDoor
namespace Go.Proofs.YtlmhknhlmicmeaaGreatDoor
open Go Go.Ab
theorem Kl(x:aN):∀n:Nat,x.sz≤1048576→aG Tryz.prog 166 [x.v] (.agg ((dR x.enc n).map .d)):=by
 intro n hsz S
 simp only[aN.sz,aN.aC,bP,bA,D.sz,List.length_map,aj.dw] at hsz
 refine aA (rs:=[.cell 2 92]) Tryz.checked.mixed Tryz.func166 Tryz.ntmps166 rfl rfl rfl rfl rfl ?_
 simp only[aN.aC,aj.aC,encS,encI,List.cons_append,List.nil_append,dR,eU,jq,jy,List.map_cons,List.map_nil,Nat.add_zero]
 first|refine W1 ?_|exact Z1
 refine ah (mI x.aF (n) (by omega)) ?_
 simp -implicitDefEqProofs (disch:=omega) only[go_sem,eU]
 refine ah (qV x.bZ (n+(dG (x.aF.map encS)+1)) (by omega)) ?_
 simp -implicitDefEqProofs (disch:=omega) only[go_sem,aj.aC,encS,encI,List.cons_append,List.nil_append,dR,eU,jq,jy,List.map_cons,List.map_nil,Nat.add_zero]
 refine ah (DY x.bX (n+(dG (x.aF.map encS)+1)+(dG (x.bZ.fArgs.map aj.enc)+1)) (by omega)) ?_
 simp -implicitDefEqProofs (disch:=omega) only[go_sem,eU]
 refine ah (qV x.bY (n+(dG (x.aF.map encS)+1)+(dG (x.bZ.fArgs.map aj.enc)+1)+(dG (x.bX.map bq.enc)+1)) (by omega)) ?_
 simp -implicitDefEqProofs (disch:=omega) only[go_sem,aj.aC,encS,encI,List.cons_append,List.nil_append,dR,eU,jq,jy,List.map_cons,List.map_nil,Nat.add_zero]
 refine ah (Ms x.aT (n+(dG (x.aF.map encS)+1)+(dG (x.bZ.fArgs.map aj.enc)+1)+(dG (x.bX.map bq.enc)+1)+(dG (x.bY.fArgs.map aj.enc)+1)) (by omega)) ?_
 simp -implicitDefEqProofs (disch:=omega) only[go_sem,eU]
 all_goals (first|rfl|(simp only[Nat.add_assoc];done))
theorem Jg(xs:List aN):∀n:Nat,xs.length+aI (xs.map aN.enc)≤1048576→aG Tryz.prog 64 [.c (.d (.sl (xs.map aN.enc)))] (.c (.d (eU (.sl (xs.map aN.enc)) n))):=by
 intro n hsz
 obtain⟨T,hT⟩:∃T,T=fu (xs.map aN.enc) (n+1):=⟨_,rfl⟩
 have eO:T.length=xs.length:=by rw[hT,gB,List.length_map]
 show aG Tryz.prog 64 [.c (.d (.sl (xs.map aN.enc)))] (.c (.d (.ol n (fu (xs.map aN.enc) (n+1)))))
 rw[←hT]
 intro S
 refine jk (n) (rs:=[.tmp 2]) Tryz.checked.mixed Tryz.func64 Tryz.ntmps64 rfl rfl rfl rfl rfl ?_
 first|refine W1 ?_|exact Z1
 (repeat(with_reducible refine And.intro ?_ ?_;focus first|omega|rfl|assumption|exact⟨_,rfl,rfl⟩|(simp;omega)|(simp;done)))
 refine aV (ι:=Nat×List (List D)) Tryz.checked.mixed rfl [0,3,4] (fun y=>[.c (.d (.sl (xs.map aN.enc))),.c (.iy (0,1)),.c (.d (.i .i64 y.1))]) (fun y=>[.seed n,.eZ 12 y.2]::S)
  (fun y=>y.1≤xs.length∧eD 12 y.1 y.2 T) (fun y=>xs.length-y.1) (0,_) rfl rfl ⟨Nat.zero_le _,eD.start (by simp[eO]) rfl⟩ ?_
 rintro⟨i,R⟩ ⟨p1,p2⟩
 simp only at p1 p2
 first|refine W1 ?_|exact Z1
 with_reducible refine aS (fun hb=> ?_) (fun hb=> ?_)<;>have h:=hb<;>(try simp only[wf_preprocess] at h)<;>simp -implicitDefEqProofs (disch:=omega) only[go_sem,hb]<;>(repeat(with_reducible refine And.intro ?_ ?_;focus first|omega|rfl|assumption|exact⟨_,rfl,rfl⟩|(simp;omega)|(simp;done)))
 ·have hi:i<xs.length:=by omega
  have hir:i<(xs.map aN.enc).length:=by rw[List.length_map];exact hi
  have hR:=p2.1
  rw[eO] at hR
  have mJ:T[i]? =some (dR (aN.enc xs[i]) (n+1+dG ((xs.map aN.enc).take i))):=by
   rw[hT,lZ hir,List.getElem_map]
  have hx:xs[i].sz≤aI (xs.map aN.enc):=bI (List.mem_map_of_mem (List.getElem_mem hi))
  refine W3 ?_
  refine ah (Kl xs[i] (n+1+dG ((xs.map aN.enc).take i)) (by omega)) ?_
  obtain⟨row,hrow⟩:∃row,row=dR (aN.enc xs[i]) (n+1+dG ((xs.map aN.enc).take i)):=⟨_,rfl⟩
  have hrl:row.length=12:=by rw[hrow,eY,aN.cK]
  rw[←hrow] at mJ ⊢
  simp -implicitDefEqProofs (disch:=omega) only[go_sem,hrl,mY]
  (repeat(with_reducible refine And.intro ?_ ?_;focus first|omega|rfl|assumption|exact⟨_,rfl,rfl⟩|(simp;omega)|(simp;done)))
  refine bL (i+1,_) (by simp only;omega) rfl rfl ⟨by simp only;omega,p2.step mJ hrl⟩
 ·have hi:i=xs.length:=by omega
  rw[p2.done (by omega)]
end Go.Proofs.YtlmhknhlmicmeaaGreatDoor
namespace Go.Proofs.YtlmhknhlmicmeaaGreatDoor
open Go Go.Ab
theorem Q5(x:bG):∀n:Nat,x.sz≤1048576→aG Tryz.prog 316 [x.v] (.agg ((dR x.enc n).map .d)):=by
 intro n hsz S
 simp only[bG.sz,bG.aC,bP,bA,D.sz,List.length_map,aj.dw] at hsz
 refine aA (rs:=[.cell 2 155]) Tryz.checked.mixed Tryz.func316 Tryz.ntmps316 rfl rfl rfl rfl rfl ?_
 simp only[bG.aC,aj.aC,encS,encI,List.cons_append,List.nil_append,dR,eU,jq,jy,List.map_cons,List.map_nil,Nat.add_zero]
 first|refine W1 ?_|exact Z1
 refine ah (qV x.fType (n) (by omega)) ?_
 simp -implicitDefEqProofs (disch:=omega) only[go_sem,aj.aC,encS,encI,List.cons_append,List.nil_append,dR,eU,jq,jy,List.map_cons,List.map_nil,Nat.add_zero]
 all_goals (first|rfl|(simp only[Nat.add_assoc];done))
theorem Pv(xs:List bG):∀n:Nat,xs.length+aI (xs.map bG.enc)≤1048576→aG Tryz.prog 260 [.c (.d (.sl (xs.map bG.enc)))] (.c (.d (eU (.sl (xs.map bG.enc)) n))):=by
 intro n hsz
 obtain⟨T,hT⟩:∃T,T=fu (xs.map bG.enc) (n+1):=⟨_,rfl⟩
 have eO:T.length=xs.length:=by rw[hT,gB,List.length_map]
 show aG Tryz.prog 260 [.c (.d (.sl (xs.map bG.enc)))] (.c (.d (.ol n (fu (xs.map bG.enc) (n+1)))))
 rw[←hT]
 intro S
 refine jk (n) (rs:=[.tmp 2]) Tryz.checked.mixed Tryz.func260 Tryz.ntmps260 rfl rfl rfl rfl rfl ?_
 first|refine W1 ?_|exact Z1
 (repeat(with_reducible refine And.intro ?_ ?_;focus first|omega|rfl|assumption|exact⟨_,rfl,rfl⟩|(simp;omega)|(simp;done)))
 refine aV (ι:=Nat×List (List D)) Tryz.checked.mixed rfl [0,3,4] (fun y=>[.c (.d (.sl (xs.map bG.enc))),.c (.iy (0,1)),.c (.d (.i .i64 y.1))]) (fun y=>[.seed n,.eZ 4 y.2]::S)
  (fun y=>y.1≤xs.length∧eD 4 y.1 y.2 T) (fun y=>xs.length-y.1) (0,_) rfl rfl ⟨Nat.zero_le _,eD.start (by simp[eO]) rfl⟩ ?_
 rintro⟨i,R⟩ ⟨p1,p2⟩
 simp only at p1 p2
 first|refine W1 ?_|exact Z1
 with_reducible refine aS (fun hb=> ?_) (fun hb=> ?_)<;>have h:=hb<;>(try simp only[wf_preprocess] at h)<;>simp -implicitDefEqProofs (disch:=omega) only[go_sem,hb]<;>(repeat(with_reducible refine And.intro ?_ ?_;focus first|omega|rfl|assumption|exact⟨_,rfl,rfl⟩|(simp;omega)|(simp;done)))
 ·have hi:i<xs.length:=by omega
  have hir:i<(xs.map bG.enc).length:=by rw[List.length_map];exact hi
  have hR:=p2.1
  rw[eO] at hR
  have mJ:T[i]? =some (dR (bG.enc xs[i]) (n+1+dG ((xs.map bG.enc).take i))):=by
   rw[hT,lZ hir,List.getElem_map]
  have hx:xs[i].sz≤aI (xs.map bG.enc):=bI (List.mem_map_of_mem (List.getElem_mem hi))
  refine W3 ?_
  refine ah (Q5 xs[i] (n+1+dG ((xs.map bG.enc).take i)) (by omega)) ?_
  obtain⟨row,hrow⟩:∃row,row=dR (bG.enc xs[i]) (n+1+dG ((xs.map bG.enc).take i)):=⟨_,rfl⟩
  have hrl:row.length=4:=by rw[hrow,eY,bG.cK]
  rw[←hrow] at mJ ⊢
  simp -implicitDefEqProofs (disch:=omega) only[go_sem,hrl,mY]
  (repeat(with_reducible refine And.intro ?_ ?_;focus first|omega|rfl|assumption|exact⟨_,rfl,rfl⟩|(simp;omega)|(simp;done)))
  refine bL (i+1,_) (by simp only;omega) rfl rfl ⟨by simp only;omega,p2.step mJ hrl⟩
 ·have hi:i=xs.length:=by omega
  rw[p2.done (by omega)]
end Go.Proofs.YtlmhknhlmicmeaaGreatDoor
namespace Go.Proofs.YtlmhknhlmicmeaaGreatDoor
open Go Go.Ab
theorem Km(x:aQ):∀n:Nat,x.sz≤1048576→aG Tryz.prog 167 [x.v] (.agg ((dR x.enc n).map .d)):=by
 intro n hsz S
 simp only[aQ.sz,aQ.aC,bP,bA,D.sz,List.length_map,au.dw,aj.dw] at hsz
 refine aA (rs:=[.cell 2 78]) Tryz.checked.mixed Tryz.func167 Tryz.ntmps167 rfl rfl rfl rfl rfl ?_
 simp only[au.aC,aQ.aC,aj.aC,encS,encI,List.cons_append,List.nil_append,dR,eU,jq,jy,List.map_cons,List.map_nil,Nat.add_zero]
 first|refine W1 ?_|exact Z1
 refine ah (mI x.aF (n) (by omega)) ?_
 simp -implicitDefEqProofs (disch:=omega) only[go_sem,eU]
 refine ah (DY x.bX (n+(dG (x.aF.map encS)+1)) (by omega)) ?_
 simp -implicitDefEqProofs (disch:=omega) only[go_sem,eU]
 refine ah (Pv x.aY (n+(dG (x.aF.map encS)+1)+(dG (x.bX.map bq.enc)+1)) (by omega)) ?_
 simp -implicitDefEqProofs (disch:=omega) only[go_sem,eU]
 refine ah (qV x.bO (n+(dG (x.aF.map encS)+1)+(dG (x.bX.map bq.enc)+1)+(dG (x.aY.map bG.enc)+1)) (by omega)) ?_
 simp -implicitDefEqProofs (disch:=omega) only[go_sem,aj.aC,encS,encI,List.cons_append,List.nil_append,dR,eU,jq,jy,List.map_cons,List.map_nil,Nat.add_zero]
 refine ah (Cb x.fBody (n+(dG (x.aF.map encS)+1)+(dG (x.bX.map bq.enc)+1)+(dG (x.aY.map bG.enc)+1)+(dG (x.bO.fArgs.map aj.enc)+1)) (by omega)) ?_
 simp -implicitDefEqProofs (disch:=omega) only[go_sem,au.aC,aj.aC,encS,encI,List.cons_append,List.nil_append,dR,eU,jq,jy,List.map_cons,List.map_nil,Nat.add_zero]
 all_goals (first|rfl|(simp only[Nat.add_assoc];done))
theorem Jh(xs:List aQ):∀n:Nat,xs.length+aI (xs.map aQ.enc)≤1048576→aG Tryz.prog 65 [.c (.d (.sl (xs.map aQ.enc)))] (.c (.d (eU (.sl (xs.map aQ.enc)) n))):=by
 intro n hsz
 obtain⟨T,hT⟩:∃T,T=fu (xs.map aQ.enc) (n+1):=⟨_,rfl⟩
 have eO:T.length=xs.length:=by rw[hT,gB,List.length_map]
 show aG Tryz.prog 65 [.c (.d (.sl (xs.map aQ.enc)))] (.c (.d (.ol n (fu (xs.map aQ.enc) (n+1)))))
 rw[←hT]
 intro S
 refine jk (n) (rs:=[.tmp 2]) Tryz.checked.mixed Tryz.func65 Tryz.ntmps65 rfl rfl rfl rfl rfl ?_
 first|refine W1 ?_|exact Z1
 (repeat(with_reducible refine And.intro ?_ ?_;focus first|omega|rfl|assumption|exact⟨_,rfl,rfl⟩|(simp;omega)|(simp;done)))
 refine aV (ι:=Nat×List (List D)) Tryz.checked.mixed rfl [0,3,4] (fun y=>[.c (.d (.sl (xs.map aQ.enc))),.c (.iy (0,1)),.c (.d (.i .i64 y.1))]) (fun y=>[.seed n,.eZ 16 y.2]::S)
  (fun y=>y.1≤xs.length∧eD 16 y.1 y.2 T) (fun y=>xs.length-y.1) (0,_) rfl rfl ⟨Nat.zero_le _,eD.start (by simp[eO]) rfl⟩ ?_
 rintro⟨i,R⟩ ⟨p1,p2⟩
 simp only at p1 p2
 first|refine W1 ?_|exact Z1
 with_reducible refine aS (fun hb=> ?_) (fun hb=> ?_)<;>have h:=hb<;>(try simp only[wf_preprocess] at h)<;>simp -implicitDefEqProofs (disch:=omega) only[go_sem,hb]<;>(repeat(with_reducible refine And.intro ?_ ?_;focus first|omega|rfl|assumption|exact⟨_,rfl,rfl⟩|(simp;omega)|(simp;done)))
 ·have hi:i<xs.length:=by omega
  have hir:i<(xs.map aQ.enc).length:=by rw[List.length_map];exact hi
  have hR:=p2.1
  rw[eO] at hR
  have mJ:T[i]? =some (dR (aQ.enc xs[i]) (n+1+dG ((xs.map aQ.enc).take i))):=by
   rw[hT,lZ hir,List.getElem_map]
  have hx:xs[i].sz≤aI (xs.map aQ.enc):=bI (List.mem_map_of_mem (List.getElem_mem hi))
  refine W3 ?_
  refine ah (Km xs[i] (n+1+dG ((xs.map aQ.enc).take i)) (by omega)) ?_
  obtain⟨row,hrow⟩:∃row,row=dR (aQ.enc xs[i]) (n+1+dG ((xs.map aQ.enc).take i)):=⟨_,rfl⟩
  have hrl:row.length=16:=by rw[hrow,eY,aQ.cK]
  rw[←hrow] at mJ ⊢
  simp -implicitDefEqProofs (disch:=omega) only[go_sem,hrl,mY]
  (repeat(with_reducible refine And.intro ?_ ?_;focus first|omega|rfl|assumption|exact⟨_,rfl,rfl⟩|(simp;omega)|(simp;done)))
  refine bL (i+1,_) (by simp only;omega) rfl rfl ⟨by simp only;omega,p2.step mJ hrl⟩
 ·have hi:i=xs.length:=by omega
  rw[p2.done (by omega)]
end Go.Proofs.YtlmhknhlmicmeaaGreatDoor
namespace Go.Proofs.YtlmhknhlmicmeaaGreatDoor
open Go Go.Ab
theorem Mt(x:bg):∀n:Nat,x.sz≤1048576→aG Tryz.prog 12 [x.v] (.agg ((dR x.enc n).map .d)):=by
 intro n hsz S
 simp only[bg.sz,bg.aC,bP,bA,D.sz,List.length_map] at hsz
 refine aA (rs:=[.cell 2 39]) Tryz.checked.mixed Tryz.func12 Tryz.ntmps12 rfl rfl rfl rfl rfl ?_
 simp only[bg.aC,encS,encI,List.cons_append,List.nil_append,dR,eU,jq,jy,List.map_cons,List.map_nil,Nat.add_zero]
 first|refine W1 ?_|exact Z1
 refine ah (mI x.dP (n) (by omega)) ?_
 simp -implicitDefEqProofs (disch:=omega) only[go_sem,eU]
 refine ah (Pq x.aO (n+(dG (x.dP.map encS)+1)) (by omega)) ?_
 simp -implicitDefEqProofs (disch:=omega) only[go_sem,eU]
 refine ah (Jf x.ay (n+(dG (x.dP.map encS)+1)+(dG (x.aO.map bn.enc)+1)) (by omega)) ?_
 simp -implicitDefEqProofs (disch:=omega) only[go_sem,eU]
 refine ah (Jg x.aM (n+(dG (x.dP.map encS)+1)+(dG (x.aO.map bn.enc)+1)+(dG (x.ay.map aL.enc)+1)) (by omega)) ?_
 simp -implicitDefEqProofs (disch:=omega) only[go_sem,eU]
 refine ah (Jh x.aU (n+(dG (x.dP.map encS)+1)+(dG (x.aO.map bn.enc)+1)+(dG (x.ay.map aL.enc)+1)+(dG (x.aM.map aN.enc)+1)) (by omega)) ?_
 simp -implicitDefEqProofs (disch:=omega) only[go_sem,eU]
 all_goals (first|rfl|(simp only[Nat.add_assoc];done))
end Go.Proofs.YtlmhknhlmicmeaaGreatDoor
namespace Go.Proofs.YtlmhknhlmicmeaaGreatDoor
open Go Go.Ab
theorem lC(xs:List (List UInt8)):∀(k:Int) (l j r:Nat) (p:List (Nat×Nat)) (S:Store) (rs:List (List (List D))),bM S (l,j)=some (.xf rs)→atR rs r p=some (xs.map encS)→0≤k∧k+aP (xs.map encS)≤4611686018427387904→dh Tryz.prog 82 [.c (.xp (l,j) r p),.c (.d (.i .i64 k))] S (fun res S'=>res=.c (.d (.i .i64 (k+aP (xs.map encS))))∧S'=bQ S (l,j) (.xf (dB rs r p (gQ (xs.map encS) k)))):=by
 intro k l j r p S rs hS hp hk
 have hlen:=oh (f:=encS) (fun x=>by simp only[encS,List.cons_append,List.nil_append,lg,kZ];omega) xs
 obtain⟨rows,hr⟩:∃rows,rows=xs.map encS:=⟨_,rfl⟩
 have hl:rows.length=xs.length:=by rw[hr,List.length_map]
 rw[←hr] at hp hk hlen ⊢
 have ht:∀x:Ab.Obj,bM (bQ S (l,j) x) (l,j)=some x:=fun x=>dN _ _ _ _ hS
 have hA:∀new,atR (dB rs r p new) r p=some new:=fun new=>jZ hp
 have hU:∀a b,dB (dB rs r p a) r p b=dB rs r p b:=fun a b=>jO hp
 refine aA (rs:=[.tmp 4]) Tryz.checked.mixed Tryz.func82 Tryz.ntmps82 rfl rfl rfl rfl rfl ?_
 first|refine W1 ?_|exact Z1
 refine aV (ι:=Nat) Tryz.checked.mixed rfl [0,1,5] (fun i=>[.c (.xp (1+l,j) r p),.c (.d (.i .i64 (k+aP (rows.take i)))),.c (.d (.i .i64 i))])
  (fun i=>[]::bQ S (l,j) (.xf (dB rs r p (lX rows k i)))) (fun i=>i≤xs.length) (fun i=>xs.length-i) 0 ?_ ?_ (Nat.zero_le _) ?_
 ·have z0:k+((aP (rows.take 0):Nat):Int)=k:=by simp[aP]
  rw[z0]
  rfl
 ·rw[ku,kr hp,iQ _ _ hS]
 intro i hi
 simp -implicitDefEqProofs (disch:=omega) only[go_sem,ht,hA,gI,hl]
 with_reducible refine aS (fun hb=> ?_) (fun hb=> ?_)<;>have h:=hb<;>try simp only[wf_preprocess] at h
 ·have hi:i<xs.length:=by omega
  have hir:i<rows.length:=by omega
  obtain⟨x,hx⟩:∃x,x=xs[i]:=⟨_,rfl⟩
  have e1:rows[i]=[.s x]:=by
   simp only[hr,List.getElem_map,←hx]
   simp only[encS,List.cons_append,List.nil_append]
  have hm:=jP hir
  have hle:=mX (rows:=rows) (i:=i+1)
  rw[hm,e1] at hle
  rw[e1] at hm
  simp only[lg,kZ] at hle hm
  have hK:k+((aP (rows.take (i+1)):Nat):Int)=k+((aP (rows.take i):Nat):Int)+1:=by rw[hm];omega
  have e2:=nR (k:=k) hir
  rw[e1] at e2
  have hC:∀row o,cellAt (iG rows k i row) i o=row[o]? :=fun row o=>jC hir
  have hG:∀row,(iG rows k i row).getD i []=row:=fun row=>kS hir
  simp -implicitDefEqProofs (disch:=omega) only[go_sem,hb,ht,hA,hU,e2,hC,hG,bS,bH,hl,bC,dW]
  refine W3 ?_
  refine ah (dS (k+((aP (rows.take i):Nat):Int)) (by omega)) ?_
  simp -implicitDefEqProofs (disch:=omega) only[go_sem,hb,ht,hA,hU,e2,hC,hG,bS,bH,hl,bC,dW]
  (repeat(with_reducible refine And.intro ?_ ?_;focus first|omega|rfl|assumption|exact⟨_,rfl,rfl⟩|(simp;omega)|(simp;done)))
  refine bL (i+1) (by omega) (by rw[hK];rfl) ?_ (by omega)
  have h3:=nS (k:=k) hir
  rw[e1] at h3
  simp only[tN,xW] at h3
  rw[←h3]
  all_goals rfl
 ·simp -implicitDefEqProofs (disch:=omega) only[go_sem,hb]
  have hi:i=xs.length:=by omega
  rw[lY (by omega),List.take_of_length_le (by omega)]
  all_goals (first|rfl|exact⟨rfl,rfl⟩)
end Go.Proofs.YtlmhknhlmicmeaaGreatDoor
namespace Go.Proofs.YtlmhknhlmicmeaaGreatDoor
open Go Go.Ab
end Go.Proofs.YtlmhknhlmicmeaaGreatDoor
namespace Go.Proofs.YtlmhknhlmicmeaaGreatDoor
open Go Go.Ab
theorem D5:∀n:Nat,(∀xs:List aj,SizeOf.sizeOf xs<n→∀(k:Int) (l j r:Nat) (p:List (Nat×Nat)) (S:Store) (rs:List (List (List D))),bM S (l,j)=some (.xf rs)→atR rs r p=some (xs.map aj.enc)→0≤k∧k+aP (xs.map aj.enc)≤4611686018427387904→dh Tryz.prog 183 [.c (.xp (l,j) r p),.c (.d (.i .i64 k))] S (fun res S'=>res=.c (.d (.i .i64 (k+aP (xs.map aj.enc))))∧S'=bQ S (l,j) (.xf (dB rs r p (gQ (xs.map aj.enc) k)))))
 |0=>fun xs h=>by omega
 |n+1=>by
  have vE:=D5 n
  refine fun xs hn k l j r p S rs hS hp hk=> ?_
  ·have hlen:=oh (f:=aj.enc) (fun x=>by simp only[aj.aC,encS,encI,List.cons_append,List.nil_append,lg,kZ];omega) xs
   obtain⟨rows,hr⟩:∃rows,rows=xs.map aj.enc:=⟨_,rfl⟩
   have hl:rows.length=xs.length:=by rw[hr,List.length_map]
   rw[←hr] at hp hk hlen ⊢
   have ht:∀x:Ab.Obj,bM (bQ S (l,j) x) (l,j)=some x:=fun x=>dN _ _ _ _ hS
   have hA:∀new,atR (dB rs r p new) r p=some new:=fun new=>jZ hp
   have hU:∀a b,dB (dB rs r p a) r p b=dB rs r p b:=fun a b=>jO hp
   refine aA (rs:=[.tmp 4]) Tryz.checked.mixed Tryz.func183 Tryz.ntmps183 rfl rfl rfl rfl rfl ?_
   first|refine W1 ?_|exact Z1
   refine aV (ι:=Nat) Tryz.checked.mixed rfl [0,1,5] (fun i=>[.c (.xp (1+l,j) r p),.c (.d (.i .i64 (k+aP (rows.take i)))),.c (.d (.i .i64 i))])
    (fun i=>[]::bQ S (l,j) (.xf (dB rs r p (lX rows k i)))) (fun i=>i≤xs.length) (fun i=>xs.length-i) 0 ?_ ?_ (Nat.zero_le _) ?_
   ·have z0:k+((aP (rows.take 0):Nat):Int)=k:=by simp[aP]
    rw[z0]
    rfl
   ·rw[ku,kr hp,iQ _ _ hS]
   intro i hi
   simp -implicitDefEqProofs (disch:=omega) only[go_sem,ht,hA,gI,hl]
   with_reducible refine aS (fun hb=> ?_) (fun hb=> ?_)<;>have h:=hb<;>try simp only[wf_preprocess] at h
   ·have hi:i<xs.length:=by omega
    have hir:i<rows.length:=by omega
    obtain⟨x,hx⟩:∃x,x=xs[i]:=⟨_,rfl⟩
    have e1:rows[i]=[.i .i64 x.aX,.s x.fName,.sl (x.fArgs.map aj.enc)]:=by
     simp only[hr,List.getElem_map,←hx]
     simp only[aj.aC,encS,encI,List.cons_append,List.nil_append]
    have hm:=jP hir
    have hle:=mX (rows:=rows) (i:=i+1)
    rw[hm,e1] at hle
    rw[e1] at hm
    simp only[lg,kZ] at hle hm
    have hK:k+((aP (rows.take (i+1)):Nat):Int)=k+((aP (rows.take i):Nat):Int)+1+1+((aP (x.fArgs.map aj.enc):Nat):Int):=by rw[hm];omega
    have e2:=nR (k:=k) hir
    rw[e1] at e2
    have hC:∀row o,cellAt (iG rows k i row) i o=row[o]? :=fun row o=>jC hir
    have hG:∀row,(iG rows k i row).getD i []=row:=fun row=>kS hir
    simp -implicitDefEqProofs (disch:=omega) only[go_sem,hb,ht,hA,hU,e2,hC,hG,bS,bH,hl,bC,dW]
    (repeat(with_reducible refine And.intro ?_ ?_;focus first|omega|rfl|assumption|exact⟨_,rfl,rfl⟩|(simp;omega)|(simp;done)))
    refine ah (dS (k+((aP (rows.take i):Nat):Int)+1) (by omega)) ?_
    simp -implicitDefEqProofs (disch:=omega) only[go_sem,hb,ht,hA,hU,e2,hC,hG,bS,bH,hl,bC,dW]
    (repeat(with_reducible refine And.intro ?_ ?_;focus first|omega|rfl|assumption|exact⟨_,rfl,rfl⟩|(simp;omega)|(simp;done)))
    refine bV rfl (fT hS hp hir (by rfl) (fun S' rs' g1 g2=>vE x.fArgs (by have:=List.sizeOf_lt_of_mem (List.getElem_mem hi);rw[←hx] at this;have:=aj.fI x;omega) (k+((aP (rows.take i):Nat):Int)+1+1) (1+l) j r _ S' rs' g1 g2 (by omega))) ?_
    simp -implicitDefEqProofs (disch:=omega) only[go_sem,hb,ht,hA,hU,e2,hC,hG,bS,bH,hl,bC,dW]
    refine W3 ?_
    refine bL (i+1) (by omega) (by rw[hK];rfl) ?_ (by omega)
    have h3:=nS (k:=k) hir
    rw[e1] at h3
    simp only[tN,xW] at h3
    rw[←h3]
    all_goals rfl
   ·simp -implicitDefEqProofs (disch:=omega) only[go_sem,hb]
    have hi:i=xs.length:=by omega
    rw[lY (by omega),List.take_of_length_le (by omega)]
    all_goals (first|rfl|exact⟨rfl,rfl⟩)
theorem jc(xs:List aj):∀(k:Int) (l j r:Nat) (p:List (Nat×Nat)) (S:Store) (rs:List (List (List D))),bM S (l,j)=some (.xf rs)→atR rs r p=some (xs.map aj.enc)→0≤k∧k+aP (xs.map aj.enc)≤4611686018427387904→dh Tryz.prog 183 [.c (.xp (l,j) r p),.c (.d (.i .i64 k))] S (fun res S'=>res=.c (.d (.i .i64 (k+aP (xs.map aj.enc))))∧S'=bQ S (l,j) (.xf (dB rs r p (gQ (xs.map aj.enc) k)))):=(D5 _) xs (Nat.lt_succ_self _)
end Go.Proofs.YtlmhknhlmicmeaaGreatDoor
namespace Go.Proofs.YtlmhknhlmicmeaaGreatDoor
open Go Go.Ab
end Go.Proofs.YtlmhknhlmicmeaaGreatDoor
namespace Go.Proofs.YtlmhknhlmicmeaaGreatDoor
open Go Go.Ab
set_option maxHeartbeats 4000000 in
theorem Cu(xs:List bq):∀(k:Int) (l j r:Nat) (p:List (Nat×Nat)) (S:Store) (rs:List (List (List D))),bM S (l,j)=some (.xf rs)→atR rs r p=some (xs.map bq.enc)→0≤k∧k+aP (xs.map bq.enc)≤4611686018427387904→dh Tryz.prog 130 [.c (.xp (l,j) r p),.c (.d (.i .i64 k))] S (fun res S'=>res=.c (.d (.i .i64 (k+aP (xs.map bq.enc))))∧S'=bQ S (l,j) (.xf (dB rs r p (gQ (xs.map bq.enc) k)))):=by
 intro k l j r p S rs hS hp hk
 have hlen:=oh (f:=bq.enc) (fun x=>by simp only[bq.aC,aj.aC,encS,encI,List.cons_append,List.nil_append,lg,kZ];omega) xs
 obtain⟨rows,hr⟩:∃rows,rows=xs.map bq.enc:=⟨_,rfl⟩
 have hl:rows.length=xs.length:=by rw[hr,List.length_map]
 rw[←hr] at hp hk hlen ⊢
 have ht:∀x:Ab.Obj,bM (bQ S (l,j) x) (l,j)=some x:=fun x=>dN _ _ _ _ hS
 have hA:∀new,atR (dB rs r p new) r p=some new:=fun new=>jZ hp
 have hU:∀a b,dB (dB rs r p a) r p b=dB rs r p b:=fun a b=>jO hp
 refine aA (rs:=[.tmp 4]) Tryz.checked.mixed Tryz.func130 Tryz.ntmps130 rfl rfl rfl rfl rfl ?_
 first|refine W1 ?_|exact Z1
 refine aV (ι:=Nat) Tryz.checked.mixed rfl [0,1,5] (fun i=>[.c (.xp (1+l,j) r p),.c (.d (.i .i64 (k+aP (rows.take i)))),.c (.d (.i .i64 i))])
  (fun i=>[]::bQ S (l,j) (.xf (dB rs r p (lX rows k i)))) (fun i=>i≤xs.length) (fun i=>xs.length-i) 0 ?_ ?_ (Nat.zero_le _) ?_
 ·have z0:k+((aP (rows.take 0):Nat):Int)=k:=by simp[aP]
  rw[z0]
  rfl
 ·rw[ku,kr hp,iQ _ _ hS]
 intro i hi
 simp -implicitDefEqProofs (disch:=omega) only[go_sem,ht,hA,gI,hl]
 with_reducible refine aS (fun hb=> ?_) (fun hb=> ?_)<;>have h:=hb<;>try simp only[wf_preprocess] at h
 ·have hi:i<xs.length:=by omega
  have hir:i<rows.length:=by omega
  obtain⟨x,hx⟩:∃x,x=xs[i]:=⟨_,rfl⟩
  have e1:rows[i]=[.s x.bR,.i .i64 x.fType.aX,.s x.fType.fName,.sl (x.fType.fArgs.map aj.enc)]:=by
   simp only[hr,List.getElem_map,←hx]
   simp only[bq.aC,aj.aC,encS,encI,List.cons_append,List.nil_append]
  have hm:=jP hir
  have hle:=mX (rows:=rows) (i:=i+1)
  rw[hm,e1] at hle
  rw[e1] at hm
  simp only[lg,kZ] at hle hm
  have hK:k+((aP (rows.take (i+1)):Nat):Int)=k+((aP (rows.take i):Nat):Int)+1+1+1+((aP (x.fType.fArgs.map aj.enc):Nat):Int):=by rw[hm];omega
  have e2:=nR (k:=k) hir
  rw[e1] at e2
  have hC:∀row o,cellAt (iG rows k i row) i o=row[o]? :=fun row o=>jC hir
  have hG:∀row,(iG rows k i row).getD i []=row:=fun row=>kS hir
  simp -implicitDefEqProofs (disch:=omega) only[go_sem,hb,ht,hA,hU,e2,hC,hG,bS,bH,hl,bC,dW]
  refine W3 ?_
  refine ah (dS (k+((aP (rows.take i):Nat):Int)) (by omega)) ?_
  simp -implicitDefEqProofs (disch:=omega) only[go_sem,hb,ht,hA,hU,e2,hC,hG,bS,bH,hl,bC,dW]
  (repeat(with_reducible refine And.intro ?_ ?_;focus first|omega|rfl|assumption|exact⟨_,rfl,rfl⟩|(simp;omega)|(simp;done)))
  refine ah (dS (k+((aP (rows.take i):Nat):Int)+1+1) (by omega)) ?_
  simp -implicitDefEqProofs (disch:=omega) only[go_sem,hb,ht,hA,hU,e2,hC,hG,bS,bH,hl,bC,dW]
  (repeat(with_reducible refine And.intro ?_ ?_;focus first|omega|rfl|assumption|exact⟨_,rfl,rfl⟩|(simp;omega)|(simp;done)))
  refine bV rfl (fT hS hp hir (by rfl) (fun S' rs' g1 g2=>jc x.fType.fArgs (k+((aP (rows.take i):Nat):Int)+1+1+1) (1+l) j r _ S' rs' g1 g2 (by omega))) ?_
  simp -implicitDefEqProofs (disch:=omega) only[go_sem,hb,ht,hA,hU,e2,hC,hG,bS,bH,hl,bC,dW]
  refine W3 ?_
  refine bL (i+1) (by omega) (by rw[hK];rfl) ?_ (by omega)
  have h3:=nS (k:=k) hir
  rw[e1] at h3
  simp only[tN,xW] at h3
  rw[←h3]
  all_goals rfl
 ·simp -implicitDefEqProofs (disch:=omega) only[go_sem,hb]
  have hi:i=xs.length:=by omega
  rw[lY (by omega),List.take_of_length_le (by omega)]
  all_goals (first|rfl|exact⟨rfl,rfl⟩)
end Go.Proofs.YtlmhknhlmicmeaaGreatDoor
namespace Go.Proofs.YtlmhknhlmicmeaaGreatDoor
open Go Go.Ab
theorem zx:∀n:Nat,(∀xs:List au,SizeOf.sizeOf xs<n→∀(k:Int) (l j r:Nat) (p:List (Nat×Nat)) (S:Store) (rs:List (List (List D))),bM S (l,j)=some (.xf rs)→atR rs r p=some (xs.map au.enc)→0≤k∧k+aP (xs.map au.enc)≤4611686018427387904→dh Tryz.prog 114 [.c (.xp (l,j) r p),.c (.d (.i .i64 k))] S (fun res S'=>res=.c (.d (.i .i64 (k+aP (xs.map au.enc))))∧S'=bQ S (l,j) (.xf (dB rs r p (gQ (xs.map au.enc) k)))))∧
 (∀xs:List aW,SizeOf.sizeOf xs<n→∀(k:Int) (l j r:Nat) (p:List (Nat×Nat)) (S:Store) (rs:List (List (List D))),bM S (l,j)=some (.xf rs)→atR rs r p=some (xs.map aW.enc)→0≤k∧k+aP (xs.map aW.enc)≤4611686018427387904→dh Tryz.prog 115 [.c (.xp (l,j) r p),.c (.d (.i .i64 k))] S (fun res S'=>res=.c (.d (.i .i64 (k+aP (xs.map aW.enc))))∧S'=bQ S (l,j) (.xf (dB rs r p (gQ (xs.map aW.enc) k)))))
 |0=>⟨fun xs h=>by omega,fun xs h=>by omega⟩
 |n+1=>by
  obtain⟨pF,wT⟩:=zx n
  refine⟨fun xs hn k l j r p S rs hS hp hk=> ?_,fun xs hn k l j r p S rs hS hp hk=> ?_⟩
  ·have hlen:=oh (f:=au.enc) (fun x=>by simp only[au.aC,aj.aC,encS,encI,List.cons_append,List.nil_append,lg,kZ];omega) xs
   obtain⟨rows,hr⟩:∃rows,rows=xs.map au.enc:=⟨_,rfl⟩
   have hl:rows.length=xs.length:=by rw[hr,List.length_map]
   rw[←hr] at hp hk hlen ⊢
   have ht:∀x:Ab.Obj,bM (bQ S (l,j) x) (l,j)=some x:=fun x=>dN _ _ _ _ hS
   have hA:∀new,atR (dB rs r p new) r p=some new:=fun new=>jZ hp
   have hU:∀a b,dB (dB rs r p a) r p b=dB rs r p b:=fun a b=>jO hp
   refine aA (rs:=[.tmp 4]) Tryz.checked.mixed Tryz.func114 Tryz.ntmps114 rfl rfl rfl rfl rfl ?_
   simp -implicitDefEqProofs (disch:=omega) only[go_sem]
   refine aV (ι:=Nat) Tryz.checked.mixed rfl [0,1,5] (fun i=>[.c (.xp (1+l,j) r p),.c (.d (.i .i64 (k+aP (rows.take i)))),.c (.d (.i .i64 i))])
    (fun i=>[]::bQ S (l,j) (.xf (dB rs r p (lX rows k i)))) (fun i=>i≤xs.length) (fun i=>xs.length-i) 0 ?_ ?_ (Nat.zero_le _) ?_
   ·have z0:k+((aP (rows.take 0):Nat):Int)=k:=by simp[aP]
    rw[z0]
    rfl
   ·rw[ku,kr hp,iQ _ _ hS]
   intro i hi
   simp -implicitDefEqProofs (disch:=omega) only[go_sem,ht,hA,gI,hl]
   with_reducible refine aS (fun hb=> ?_) (fun hb=> ?_)<;>have h:=hb<;>try simp only[wf_preprocess] at h
   ·have hi:i<xs.length:=by omega
    have hir:i<rows.length:=by omega
    obtain⟨x,hx⟩:∃x,x=xs[i]:=⟨_,rfl⟩
    have e1:rows[i]=[.i .i64 x.aX,.s x.bR,.s x.fName,.i .i64 x.fN,.i .i64 x.fType.aX,.s x.fType.fName,.sl (x.fType.fArgs.map aj.enc),.sl (x.fArgs.map au.enc),.sl (x.aZ.map aW.enc)]:=by
     simp only[hr,List.getElem_map,←hx]
     simp only[au.aC,aj.aC,encS,encI,List.cons_append,List.nil_append]
    have hm:=jP hir
    have hle:=mX (rows:=rows) (i:=i+1)
    rw[hm,e1] at hle
    rw[e1] at hm
    simp only[lg,kZ] at hle hm
    have hK:k+((aP (rows.take (i+1)):Nat):Int)=k+((aP (rows.take i):Nat):Int)+1+1+1+1+1+1+((aP (x.fType.fArgs.map aj.enc):Nat):Int)+((aP (x.fArgs.map au.enc):Nat):Int)+((aP (x.aZ.map aW.enc):Nat):Int):=by rw[hm];omega
    have e2:=nR (k:=k) hir
    rw[e1] at e2
    have hC:∀row o,cellAt (iG rows k i row) i o=row[o]? :=fun row o=>jC hir
    have hG:∀row,(iG rows k i row).getD i []=row:=fun row=>kS hir
    simp -implicitDefEqProofs (disch:=omega) only[go_sem,hb,ht,hA,hU,e2,hC,hG,bS,bH,hl,bC,dW]
    (repeat(with_reducible refine And.intro ?_ ?_;focus first|omega|rfl|assumption|exact⟨_,rfl,rfl⟩|(simp;omega)|(simp;done)))
    refine ah (dS (k+((aP (rows.take i):Nat):Int)+1) (by omega)) ?_
    simp -implicitDefEqProofs (disch:=omega) only[go_sem,hb,ht,hA,hU,e2,hC,hG,bS,bH,hl,bC,dW]
    (repeat(with_reducible refine And.intro ?_ ?_;focus first|omega|rfl|assumption|exact⟨_,rfl,rfl⟩|(simp;omega)|(simp;done)))
    refine ah (dS (k+((aP (rows.take i):Nat):Int)+1+1) (by omega)) ?_
    simp -implicitDefEqProofs (disch:=omega) only[go_sem,hb,ht,hA,hU,e2,hC,hG,bS,bH,hl,bC,dW]
    (repeat(with_reducible refine And.intro ?_ ?_;focus first|omega|rfl|assumption|exact⟨_,rfl,rfl⟩|(simp;omega)|(simp;done)))
    refine ah (dS (k+((aP (rows.take i):Nat):Int)+1+1+1+1+1) (by omega)) ?_
    simp -implicitDefEqProofs (disch:=omega) only[go_sem,hb,ht,hA,hU,e2,hC,hG,bS,bH,hl,bC,dW]
    (repeat(with_reducible refine And.intro ?_ ?_;focus first|omega|rfl|assumption|exact⟨_,rfl,rfl⟩|(simp;omega)|(simp;done)))
    refine bV rfl (fT hS hp hir (by rfl) (fun S' rs' g1 g2=>jc x.fType.fArgs (k+((aP (rows.take i):Nat):Int)+1+1+1+1+1+1) (1+l) j r _ S' rs' g1 g2 (by omega))) ?_
    simp -implicitDefEqProofs (disch:=omega) only[go_sem,hb,ht,hA,hU,e2,hC,hG,bS,bH,hl,bC,dW]
    (repeat(with_reducible refine And.intro ?_ ?_;focus first|omega|rfl|assumption|exact⟨_,rfl,rfl⟩|(simp;omega)|(simp;done)))
    refine bV rfl (fT hS hp hir (by rfl) (fun S' rs' g1 g2=>pF x.fArgs (by have:=List.sizeOf_lt_of_mem (List.getElem_mem hi);rw[←hx] at this;have:=au.fI x;omega) (k+((aP (rows.take i):Nat):Int)+1+1+1+1+1+1+((aP (x.fType.fArgs.map aj.enc):Nat):Int)) (1+l) j r _ S' rs' g1 g2 (by omega))) ?_
    simp -implicitDefEqProofs (disch:=omega) only[go_sem,hb,ht,hA,hU,e2,hC,hG,bS,bH,hl,bC,dW]
    (repeat(with_reducible refine And.intro ?_ ?_;focus first|omega|rfl|assumption|exact⟨_,rfl,rfl⟩|(simp;omega)|(simp;done)))
    refine bV rfl (fT hS hp hir (by rfl) (fun S' rs' g1 g2=>wT x.aZ (by have:=List.sizeOf_lt_of_mem (List.getElem_mem hi);rw[←hx] at this;have:=au.mo x;omega) (k+((aP (rows.take i):Nat):Int)+1+1+1+1+1+1+((aP (x.fType.fArgs.map aj.enc):Nat):Int)+((aP (x.fArgs.map au.enc):Nat):Int)) (1+l) j r _ S' rs' g1 g2 (by omega))) ?_
    simp -implicitDefEqProofs (disch:=omega) only[go_sem,hb,ht,hA,hU,e2,hC,hG,bS,bH,hl,bC,dW]
    (repeat(with_reducible refine And.intro ?_ ?_;focus first|omega|rfl|assumption|exact⟨_,rfl,rfl⟩|(simp;omega)|(simp;done)))
    refine bL (i+1) (by omega) (by rw[hK];rfl) ?_ (by omega)
    have h3:=nS (k:=k) hir
    rw[e1] at h3
    simp only[tN,xW] at h3
    rw[←h3]
    all_goals rfl
   ·simp -implicitDefEqProofs (disch:=omega) only[go_sem,hb]
    have hi:i=xs.length:=by omega
    rw[lY (by omega),List.take_of_length_le (by omega)]
    all_goals (first|rfl|exact⟨rfl,rfl⟩)
  ·have hlen:=oh (f:=aW.enc) (fun x=>by simp only[aW.aC,au.aC,aj.aC,encS,encI,List.cons_append,List.nil_append,lg,kZ];omega) xs
   obtain⟨rows,hr⟩:∃rows,rows=xs.map aW.enc:=⟨_,rfl⟩
   have hl:rows.length=xs.length:=by rw[hr,List.length_map]
   rw[←hr] at hp hk hlen ⊢
   have ht:∀x:Ab.Obj,bM (bQ S (l,j) x) (l,j)=some x:=fun x=>dN _ _ _ _ hS
   have hA:∀new,atR (dB rs r p new) r p=some new:=fun new=>jZ hp
   have hU:∀a b,dB (dB rs r p a) r p b=dB rs r p b:=fun a b=>jO hp
   refine aA (rs:=[.tmp 4]) Tryz.checked.mixed Tryz.func115 Tryz.ntmps115 rfl rfl rfl rfl rfl ?_
   simp -implicitDefEqProofs (disch:=omega) only[go_sem]
   refine aV (ι:=Nat) Tryz.checked.mixed rfl [0,1,5] (fun i=>[.c (.xp (1+l,j) r p),.c (.d (.i .i64 (k+aP (rows.take i)))),.c (.d (.i .i64 i))])
    (fun i=>[]::bQ S (l,j) (.xf (dB rs r p (lX rows k i)))) (fun i=>i≤xs.length) (fun i=>xs.length-i) 0 ?_ ?_ (Nat.zero_le _) ?_
   ·have z0:k+((aP (rows.take 0):Nat):Int)=k:=by simp[aP]
    rw[z0]
    rfl
   ·rw[ku,kr hp,iQ _ _ hS]
   intro i hi
   simp -implicitDefEqProofs (disch:=omega) only[go_sem,ht,hA,gI,hl]
   with_reducible refine aS (fun hb=> ?_) (fun hb=> ?_)<;>have h:=hb<;>try simp only[wf_preprocess] at h
   ·have hi:i<xs.length:=by omega
    have hir:i<rows.length:=by omega
    obtain⟨x,hx⟩:∃x,x=xs[i]:=⟨_,rfl⟩
    have e1:rows[i]=[.s x.dK,.sl (x.aF.map encS),.i .i64 x.fBody.aX,.s x.fBody.bR,.s x.fBody.fName,.i .i64 x.fBody.fN,.i .i64 x.fBody.fType.aX,.s x.fBody.fType.fName,.sl (x.fBody.fType.fArgs.map aj.enc),.sl (x.fBody.fArgs.map au.enc),.sl (x.fBody.aZ.map aW.enc)]:=by
     simp only[hr,List.getElem_map,←hx]
     simp only[aW.aC,au.aC,aj.aC,encS,encI,List.cons_append,List.nil_append]
    have hm:=jP hir
    have hle:=mX (rows:=rows) (i:=i+1)
    rw[hm,e1] at hle
    rw[e1] at hm
    simp only[lg,kZ] at hle hm
    have hK:k+((aP (rows.take (i+1)):Nat):Int)=k+((aP (rows.take i):Nat):Int)+1+((aP (x.aF.map encS):Nat):Int)+1+1+1+1+1+1+((aP (x.fBody.fType.fArgs.map aj.enc):Nat):Int)+((aP (x.fBody.fArgs.map au.enc):Nat):Int)+((aP (x.fBody.aZ.map aW.enc):Nat):Int):=by rw[hm];omega
    have e2:=nR (k:=k) hir
    rw[e1] at e2
    have hC:∀row o,cellAt (iG rows k i row) i o=row[o]? :=fun row o=>jC hir
    have hG:∀row,(iG rows k i row).getD i []=row:=fun row=>kS hir
    simp -implicitDefEqProofs (disch:=omega) only[go_sem,hb,ht,hA,hU,e2,hC,hG,bS,bH,hl,bC,dW]
    (repeat(with_reducible refine And.intro ?_ ?_;focus first|omega|rfl|assumption|exact⟨_,rfl,rfl⟩|(simp;omega)|(simp;done)))
    refine ah (dS (k+((aP (rows.take i):Nat):Int)) (by omega)) ?_
    simp -implicitDefEqProofs (disch:=omega) only[go_sem,hb,ht,hA,hU,e2,hC,hG,bS,bH,hl,bC,dW]
    (repeat(with_reducible refine And.intro ?_ ?_;focus first|omega|rfl|assumption|exact⟨_,rfl,rfl⟩|(simp;omega)|(simp;done)))
    refine bV rfl (fT hS hp hir (by rfl) (fun S' rs' g1 g2=>lC x.aF (k+((aP (rows.take i):Nat):Int)+1) (1+l) j r _ S' rs' g1 g2 (by omega))) ?_
    simp -implicitDefEqProofs (disch:=omega) only[go_sem,hb,ht,hA,hU,e2,hC,hG,bS,bH,hl,bC,dW]
    (repeat(with_reducible refine And.intro ?_ ?_;focus first|omega|rfl|assumption|exact⟨_,rfl,rfl⟩|(simp;omega)|(simp;done)))
    refine ah (dS (k+((aP (rows.take i):Nat):Int)+1+((aP (x.aF.map encS):Nat):Int)+1) (by omega)) ?_
    simp -implicitDefEqProofs (disch:=omega) only[go_sem,hb,ht,hA,hU,e2,hC,hG,bS,bH,hl,bC,dW]
    (repeat(with_reducible refine And.intro ?_ ?_;focus first|omega|rfl|assumption|exact⟨_,rfl,rfl⟩|(simp;omega)|(simp;done)))
    refine ah (dS (k+((aP (rows.take i):Nat):Int)+1+((aP (x.aF.map encS):Nat):Int)+1+1) (by omega)) ?_
    simp -implicitDefEqProofs (disch:=omega) only[go_sem,hb,ht,hA,hU,e2,hC,hG,bS,bH,hl,bC,dW]
    (repeat(with_reducible refine And.intro ?_ ?_;focus first|omega|rfl|assumption|exact⟨_,rfl,rfl⟩|(simp;omega)|(simp;done)))
    refine ah (dS (k+((aP (rows.take i):Nat):Int)+1+((aP (x.aF.map encS):Nat):Int)+1+1+1+1+1) (by omega)) ?_
    simp -implicitDefEqProofs (disch:=omega) only[go_sem,hb,ht,hA,hU,e2,hC,hG,bS,bH,hl,bC,dW]
    (repeat(with_reducible refine And.intro ?_ ?_;focus first|omega|rfl|assumption|exact⟨_,rfl,rfl⟩|(simp;omega)|(simp;done)))
    refine bV rfl (fT hS hp hir (by rfl) (fun S' rs' g1 g2=>jc x.fBody.fType.fArgs (k+((aP (rows.take i):Nat):Int)+1+((aP (x.aF.map encS):Nat):Int)+1+1+1+1+1+1) (1+l) j r _ S' rs' g1 g2 (by omega))) ?_
    simp -implicitDefEqProofs (disch:=omega) only[go_sem,hb,ht,hA,hU,e2,hC,hG,bS,bH,hl,bC,dW]
    (repeat(with_reducible refine And.intro ?_ ?_;focus first|omega|rfl|assumption|exact⟨_,rfl,rfl⟩|(simp;omega)|(simp;done)))
    refine bV rfl (fT hS hp hir (by rfl) (fun S' rs' g1 g2=>pF x.fBody.fArgs (by have:=List.sizeOf_lt_of_mem (List.getElem_mem hi);rw[←hx] at this;have:=aW.kW x;have:=au.fI x.fBody;omega) (k+((aP (rows.take i):Nat):Int)+1+((aP (x.aF.map encS):Nat):Int)+1+1+1+1+1+1+((aP (x.fBody.fType.fArgs.map aj.enc):Nat):Int)) (1+l) j r _ S' rs' g1 g2 (by omega))) ?_
    simp -implicitDefEqProofs (disch:=omega) only[go_sem,hb,ht,hA,hU,e2,hC,hG,bS,bH,hl,bC,dW]
    (repeat(with_reducible refine And.intro ?_ ?_;focus first|omega|rfl|assumption|exact⟨_,rfl,rfl⟩|(simp;omega)|(simp;done)))
    refine bV rfl (fT hS hp hir (by rfl) (fun S' rs' g1 g2=>wT x.fBody.aZ (by have:=List.sizeOf_lt_of_mem (List.getElem_mem hi);rw[←hx] at this;have:=aW.kW x;have:=au.mo x.fBody;omega) (k+((aP (rows.take i):Nat):Int)+1+((aP (x.aF.map encS):Nat):Int)+1+1+1+1+1+1+((aP (x.fBody.fType.fArgs.map aj.enc):Nat):Int)+((aP (x.fBody.fArgs.map au.enc):Nat):Int)) (1+l) j r _ S' rs' g1 g2 (by omega))) ?_
    simp -implicitDefEqProofs (disch:=omega) only[go_sem,hb,ht,hA,hU,e2,hC,hG,bS,bH,hl,bC,dW]
    (repeat(with_reducible refine And.intro ?_ ?_;focus first|omega|rfl|assumption|exact⟨_,rfl,rfl⟩|(simp;omega)|(simp;done)))
    refine bL (i+1) (by omega) (by rw[hK];rfl) ?_ (by omega)
    have h3:=nS (k:=k) hir
    rw[e1] at h3
    simp only[tN,xW] at h3
    rw[←h3]
    all_goals rfl
   ·simp -implicitDefEqProofs (disch:=omega) only[go_sem,hb]
    have hi:i=xs.length:=by omega
    rw[lY (by omega),List.take_of_length_le (by omega)]
    all_goals (first|rfl|exact⟨rfl,rfl⟩)
theorem zy(xs:List au):∀(k:Int) (l j r:Nat) (p:List (Nat×Nat)) (S:Store) (rs:List (List (List D))),bM S (l,j)=some (.xf rs)→atR rs r p=some (xs.map au.enc)→0≤k∧k+aP (xs.map au.enc)≤4611686018427387904→dh Tryz.prog 114 [.c (.xp (l,j) r p),.c (.d (.i .i64 k))] S (fun res S'=>res=.c (.d (.i .i64 (k+aP (xs.map au.enc))))∧S'=bQ S (l,j) (.xf (dB rs r p (gQ (xs.map au.enc) k)))):=(zx _).1 xs (Nat.lt_succ_self _)
theorem Ag(xs:List aW):∀(k:Int) (l j r:Nat) (p:List (Nat×Nat)) (S:Store) (rs:List (List (List D))),bM S (l,j)=some (.xf rs)→atR rs r p=some (xs.map aW.enc)→0≤k∧k+aP (xs.map aW.enc)≤4611686018427387904→dh Tryz.prog 115 [.c (.xp (l,j) r p),.c (.d (.i .i64 k))] S (fun res S'=>res=.c (.d (.i .i64 (k+aP (xs.map aW.enc))))∧S'=bQ S (l,j) (.xf (dB rs r p (gQ (xs.map aW.enc) k)))):=(zx _).2 xs (Nat.lt_succ_self _)
end Go.Proofs.YtlmhknhlmicmeaaGreatDoor
namespace Go.Proofs.YtlmhknhlmicmeaaGreatDoor
open Go Go.Ab
theorem Cv:∀n:Nat,(∀xs:List ak,SizeOf.sizeOf xs<n→∀(k:Int) (l j r:Nat) (p:List (Nat×Nat)) (S:Store) (rs:List (List (List D))),bM S (l,j)=some (.xf rs)→atR rs r p=some (xs.map ak.enc)→0≤k∧k+aP (xs.map ak.enc)≤4611686018427387904→dh Tryz.prog 87 [.c (.xp (l,j) r p),.c (.d (.i .i64 k))] S (fun res S'=>res=.c (.d (.i .i64 (k+aP (xs.map ak.enc))))∧S'=bQ S (l,j) (.xf (dB rs r p (gQ (xs.map ak.enc) k)))))
 |0=>fun xs h=>by omega
 |n+1=>by
  have oI:=Cv n
  refine fun xs hn k l j r p S rs hS hp hk=> ?_
  ·have hlen:=oh (f:=ak.enc) (fun x=>by simp only[ak.aC,encS,encI,List.cons_append,List.nil_append,lg,kZ];omega) xs
   obtain⟨rows,hr⟩:∃rows,rows=xs.map ak.enc:=⟨_,rfl⟩
   have hl:rows.length=xs.length:=by rw[hr,List.length_map]
   rw[←hr] at hp hk hlen ⊢
   have ht:∀x:Ab.Obj,bM (bQ S (l,j) x) (l,j)=some x:=fun x=>dN _ _ _ _ hS
   have hA:∀new,atR (dB rs r p new) r p=some new:=fun new=>jZ hp
   have hU:∀a b,dB (dB rs r p a) r p b=dB rs r p b:=fun a b=>jO hp
   refine aA (rs:=[.tmp 4]) Tryz.checked.mixed Tryz.func87 Tryz.ntmps87 rfl rfl rfl rfl rfl ?_
   first|refine W1 ?_|exact Z1
   refine aV (ι:=Nat) Tryz.checked.mixed rfl [0,1,5] (fun i=>[.c (.xp (1+l,j) r p),.c (.d (.i .i64 (k+aP (rows.take i)))),.c (.d (.i .i64 i))])
    (fun i=>[]::bQ S (l,j) (.xf (dB rs r p (lX rows k i)))) (fun i=>i≤xs.length) (fun i=>xs.length-i) 0 ?_ ?_ (Nat.zero_le _) ?_
   ·have z0:k+((aP (rows.take 0):Nat):Int)=k:=by simp[aP]
    rw[z0]
    rfl
   ·rw[ku,kr hp,iQ _ _ hS]
   intro i hi
   simp -implicitDefEqProofs (disch:=omega) only[go_sem,ht,hA,gI,hl]
   with_reducible refine aS (fun hb=> ?_) (fun hb=> ?_)<;>have h:=hb<;>try simp only[wf_preprocess] at h
   ·have hi:i<xs.length:=by omega
    have hir:i<rows.length:=by omega
    obtain⟨x,hx⟩:∃x,x=xs[i]:=⟨_,rfl⟩
    have e1:rows[i]=[.s x.dI,.sl (x.bF.map ak.enc)]:=by
     simp only[hr,List.getElem_map,←hx]
     simp only[ak.aC,encS,encI,List.cons_append,List.nil_append]
    have hm:=jP hir
    have hle:=mX (rows:=rows) (i:=i+1)
    rw[hm,e1] at hle
    rw[e1] at hm
    simp only[lg,kZ] at hle hm
    have hK:k+((aP (rows.take (i+1)):Nat):Int)=k+((aP (rows.take i):Nat):Int)+1+((aP (x.bF.map ak.enc):Nat):Int):=by rw[hm];omega
    have e2:=nR (k:=k) hir
    rw[e1] at e2
    have hC:∀row o,cellAt (iG rows k i row) i o=row[o]? :=fun row o=>jC hir
    have hG:∀row,(iG rows k i row).getD i []=row:=fun row=>kS hir
    simp -implicitDefEqProofs (disch:=omega) only[go_sem,hb,ht,hA,hU,e2,hC,hG,bS,bH,hl,bC,dW]
    refine W3 ?_
    refine ah (dS (k+((aP (rows.take i):Nat):Int)) (by omega)) ?_
    simp -implicitDefEqProofs (disch:=omega) only[go_sem,hb,ht,hA,hU,e2,hC,hG,bS,bH,hl,bC,dW]
    (repeat(with_reducible refine And.intro ?_ ?_;focus first|omega|rfl|assumption|exact⟨_,rfl,rfl⟩|(simp;omega)|(simp;done)))
    refine bV rfl (fT hS hp hir (by rfl) (fun S' rs' g1 g2=>oI x.bF (by have:=List.sizeOf_lt_of_mem (List.getElem_mem hi);rw[←hx] at this;have:=ak.Av x;omega) (k+((aP (rows.take i):Nat):Int)+1) (1+l) j r _ S' rs' g1 g2 (by omega))) ?_
    simp -implicitDefEqProofs (disch:=omega) only[go_sem,hb,ht,hA,hU,e2,hC,hG,bS,bH,hl,bC,dW]
    refine W3 ?_
    refine bL (i+1) (by omega) (by rw[hK];rfl) ?_ (by omega)
    have h3:=nS (k:=k) hir
    rw[e1] at h3
    simp only[tN,xW] at h3
    rw[←h3]
    all_goals rfl
   ·simp -implicitDefEqProofs (disch:=omega) only[go_sem,hb]
    have hi:i=xs.length:=by omega
    rw[lY (by omega),List.take_of_length_le (by omega)]
    all_goals (first|rfl|exact⟨rfl,rfl⟩)
theorem Mv(xs:List ak):∀(k:Int) (l j r:Nat) (p:List (Nat×Nat)) (S:Store) (rs:List (List (List D))),bM S (l,j)=some (.xf rs)→atR rs r p=some (xs.map ak.enc)→0≤k∧k+aP (xs.map ak.enc)≤4611686018427387904→dh Tryz.prog 87 [.c (.xp (l,j) r p),.c (.d (.i .i64 k))] S (fun res S'=>res=.c (.d (.i .i64 (k+aP (xs.map ak.enc))))∧S'=bQ S (l,j) (.xf (dB rs r p (gQ (xs.map ak.enc) k)))):=(Cv _) xs (Nat.lt_succ_self _)
theorem Pw(x:ak)(k:Int)(l j b:Nat)(S:Store)(rs:List (List (List D)))(hS:bM S (l,j)=some (.xf rs))(h1:atR rs (b+1) []=some (x.bF.map ak.enc))(hk:0≤k∧k+((aP (x.bF.map ak.enc):Nat):Int)≤4611686018427387904):dh Tryz.prog 17 [.agg [.d (.s x.dI),.xp (l,j) (b+1) []],.c (.d (.i .i64 k))] S (fun res S'=>res=.c (.d (.i .i64 (k+((aP (x.bF.map ak.enc):Nat):Int))))∧S'=bQ S (l,j) (.xf (dB (rs) (b+1) [] (gQ (x.bF.map ak.enc) (k))))):=by
 have ht:∀x:Ab.Obj,bM (bQ S (l,j) x) (l,j)=some x:=fun x=>dN _ _ _ _ hS
 refine aA (rs:=[.tmp 4]) Tryz.checked.mixed Tryz.func17 Tryz.ntmps17 rfl rfl rfl rfl rfl ?_
 first|refine W1 ?_|exact Z1
 refine bV rfl (Mv x.bF (k) (1+l) j (b+1) [] _ _ (by rw[oM];first|exact hS|exact ht _) (by first|assumption|(simp(disch:=omega) only[ne_eq,zk];assumption)) (by omega)) ?_
 simp -implicitDefEqProofs (disch:=omega) only[go_sem,bC,sF]
 try exact⟨rfl,rfl⟩
theorem Cw:∀n:Nat,(∀xs:List ak,SizeOf.sizeOf xs<n→∀(k:Int) (l j r:Nat) (p:List (Nat×Nat)) (S:Store) (rs:List (List (List D))),bM S (l,j)=some (.xf rs)→atR rs r p=some (gQ (xs.map ak.enc) k)→0≤k∧k+aP (xs.map ak.enc)≤4611686018427387904→dh Tryz.prog 88 [.c (.xp (l,j) r p),.c (.d (.i .i64 k))] S (fun res S'=>res=.c (.d (.i .i64 (k+aP (xs.map ak.enc))))∧S'=S))
 |0=>fun xs h=>by omega
 |n+1=>by
  have oI:=Cw n
  refine fun xs hn k l j r p S rs hS hp hk=> ?_
  ·have hlen:=oh (f:=ak.enc) (fun x=>by simp only[ak.aC,encS,encI,List.cons_append,List.nil_append,lg,kZ];omega) xs
   obtain⟨rows,hr⟩:∃rows,rows=xs.map ak.enc:=⟨_,rfl⟩
   have hl:rows.length=xs.length:=by rw[hr,List.length_map]
   rw[←hr] at hp hk hlen ⊢
   refine aA (rs:=[.tmp 4]) Tryz.checked.mixed Tryz.func88 Tryz.ntmps88 rfl rfl rfl rfl rfl ?_
   first|refine W1 ?_|exact Z1
   refine aV (ι:=Nat) Tryz.checked.mixed rfl [0,1,5] (fun i=>[.c (.xp (1+l,j) r p),.c (.d (.i .i64 (k+aP (rows.take i)))),.c (.d (.i .i64 i))])
    (fun i=>[]::S) (fun i=>i≤xs.length) (fun i=>xs.length-i) 0 ?_ rfl (Nat.zero_le _) ?_
   ·have z0:k+((aP (rows.take 0):Nat):Int)=k:=by simp[aP]
    rw[z0]
    rfl
   intro i hi
   simp -implicitDefEqProofs (disch:=omega) only[go_sem,hS,hp,lK,hl]
   with_reducible refine aS (fun hb=> ?_) (fun hb=> ?_)<;>have h:=hb<;>try simp only[wf_preprocess] at h
   ·have hi:i<xs.length:=by omega
    have hir:i<rows.length:=by omega
    obtain⟨x,hx⟩:∃x,x=xs[i]:=⟨_,rfl⟩
    have e1:rows[i]=[.s x.dI,.sl (x.bF.map ak.enc)]:=by
     simp only[hr,List.getElem_map,←hx]
     simp only[ak.aC,encS,encI,List.cons_append,List.nil_append]
    have hm:=jP hir
    have hle:=mX (rows:=rows) (i:=i+1)
    rw[hm,e1] at hle
    rw[e1] at hm
    simp only[lg,kZ] at hle hm
    have hK:k+((aP (rows.take (i+1)):Nat):Int)=k+((aP (rows.take i):Nat):Int)+1+((aP (x.bF.map ak.enc):Nat):Int):=by rw[hm];omega
    have e2:tN rows[i] (k+((aP (rows.take i):Nat):Int))=[.s (Ep (k+((aP (rows.take i):Nat):Int))),.sl (gQ (x.bF.map ak.enc) (k+((aP (rows.take i):Nat):Int)+1))]:=by
     rw[e1]
     simp only[tN,xW]
     all_goals rfl
    have hC:∀o,cellAt (gQ rows k) i o=([.s (Ep (k+((aP (rows.take i):Nat):Int))),.sl (gQ (x.bF.map ak.enc) (k+((aP (rows.take i):Nat):Int)+1))]:List D)[o]? :=fun o=>by
     have h1:(gQ rows k)[i]? =some (tN rows[i] (k+((aP (rows.take i):Nat):Int))):=by
      have h2:=FV (k:=k) hir
      have h3:i<(gQ rows k).length:=by rw[lK];exact hir
      rw[List.getD_eq_getElem?_getD,List.getElem?_eq_getElem h3,Option.getD_some] at h2
      rw[List.getElem?_eq_getElem h3,h2]
     unfold cellAt
     rw[h1,Option.bind_some,e2]
    have hG:=FV (k:=k) hir
    rw[e2] at hG
    simp -implicitDefEqProofs (disch:=omega) only[go_sem,hb,hS,hp,hC,hG,lK,hl,dW]
    (repeat(with_reducible refine And.intro ?_ ?_;focus first|omega|rfl|assumption|exact⟨_,rfl,rfl⟩|(simp;omega)|(simp;done)))
    refine ah (dS (k+((aP (rows.take i):Nat):Int)) (by omega)) ?_
    simp -implicitDefEqProofs (disch:=omega) only[go_sem,hb,hS,hp,hC,hG,lK,hl,dW]
    (repeat(with_reducible refine And.intro ?_ ?_;focus first|omega|rfl|assumption|exact⟨_,rfl,rfl⟩|(simp;omega)|(simp;done)))
    refine bV rfl (oI x.bF (by have:=List.sizeOf_lt_of_mem (List.getElem_mem hi);rw[←hx] at this;have:=ak.Av x;omega) (k+((aP (rows.take i):Nat):Int)+1) (1+l) j r _ _ _ (by rw[oM];exact hS) (OQ hp (by rw[hC];rfl)) (by omega)) ?_
    simp -implicitDefEqProofs (disch:=omega) only[go_sem,hb,hS,hp,hC,hG,lK,hl,dW,AJ]
    refine W3 ?_
    refine bL (i+1) (by omega) (by rw[hK];rfl) rfl (by omega)
   ·simp -implicitDefEqProofs (disch:=omega) only[go_sem,hb]
    have hi:i=xs.length:=by omega
    rw[List.take_of_length_le (by omega)]
    all_goals (first|rfl|exact⟨rfl,rfl⟩)
theorem Mw(xs:List ak):∀(k:Int) (l j r:Nat) (p:List (Nat×Nat)) (S:Store) (rs:List (List (List D))),bM S (l,j)=some (.xf rs)→atR rs r p=some (gQ (xs.map ak.enc) k)→0≤k∧k+aP (xs.map ak.enc)≤4611686018427387904→dh Tryz.prog 88 [.c (.xp (l,j) r p),.c (.d (.i .i64 k))] S (fun res S'=>res=.c (.d (.i .i64 (k+aP (xs.map ak.enc))))∧S'=S):=(Cw _) xs (Nat.lt_succ_self _)
theorem D6(x:ak)(k:Int)(l j b:Nat)(S:Store)(rs:List (List (List D)))(hS:bM S (l,j)=some (.xf rs))(h1:atR rs (b+1) []=some (gQ (x.bF.map ak.enc) (k)))(hk:0≤k∧k+((aP (x.bF.map ak.enc):Nat):Int)≤4611686018427387904):dh Tryz.prog 18 [.agg [.d (.s x.dI),.xp (l,j) (b+1) []],.c (.d (.i .i64 k))] S (fun res S'=>res=.c (.d (.i .i64 (k+((aP (x.bF.map ak.enc):Nat):Int))))∧S'=S):=by
 refine aA (rs:=[.tmp 4]) Tryz.checked.mixed Tryz.func18 Tryz.ntmps18 rfl rfl rfl rfl rfl ?_
 first|refine W1 ?_|exact Z1
 refine bV rfl (Mw x.bF (k) (1+l) j (b+1) [] _ _ (by rw[oM];first|exact hS|exact ht _) (by first|assumption|(simp(disch:=omega) only[ne_eq,zk];assumption)) (by omega)) ?_
 simp -implicitDefEqProofs (disch:=omega) only[go_sem,AJ]
 try exact⟨rfl,rfl⟩
end Go.Proofs.YtlmhknhlmicmeaaGreatDoor
namespace Go.Proofs.YtlmhknhlmicmeaaGreatDoor
open Go Go.Ab
set_option maxHeartbeats 4000000 in
theorem EJ(xs:List aR):∀(k:Int) (l j r:Nat) (p:List (Nat×Nat)) (S:Store) (rs:List (List (List D))),bM S (l,j)=some (.xf rs)→atR rs r p=some (xs.map aR.enc)→0≤k∧k+aP (xs.map aR.enc)≤4611686018427387904→dh Tryz.prog 141 [.c (.xp (l,j) r p),.c (.d (.i .i64 k))] S (fun res S'=>res=.c (.d (.i .i64 (k+aP (xs.map aR.enc))))∧S'=bQ S (l,j) (.xf (dB rs r p (gQ (xs.map aR.enc) k)))):=by
 intro k l j r p S rs hS hp hk
 have hlen:=oh (f:=aR.enc) (fun x=>by simp only[au.aC,aR.aC,aj.aC,encS,encI,List.cons_append,List.nil_append,lg,kZ];omega) xs
 obtain⟨rows,hr⟩:∃rows,rows=xs.map aR.enc:=⟨_,rfl⟩
 have hl:rows.length=xs.length:=by rw[hr,List.length_map]
 rw[←hr] at hp hk hlen ⊢
 have ht:∀x:Ab.Obj,bM (bQ S (l,j) x) (l,j)=some x:=fun x=>dN _ _ _ _ hS
 have hA:∀new,atR (dB rs r p new) r p=some new:=fun new=>jZ hp
 have hU:∀a b,dB (dB rs r p a) r p b=dB rs r p b:=fun a b=>jO hp
 refine aA (rs:=[.tmp 4]) Tryz.checked.mixed Tryz.func141 Tryz.ntmps141 rfl rfl rfl rfl rfl ?_
 simp -implicitDefEqProofs (disch:=omega) only[go_sem]
 refine aV (ι:=Nat) Tryz.checked.mixed rfl [0,1,5] (fun i=>[.c (.xp (1+l,j) r p),.c (.d (.i .i64 (k+aP (rows.take i)))),.c (.d (.i .i64 i))])
  (fun i=>[]::bQ S (l,j) (.xf (dB rs r p (lX rows k i)))) (fun i=>i≤xs.length) (fun i=>xs.length-i) 0 ?_ ?_ (Nat.zero_le _) ?_
 ·have z0:k+((aP (rows.take 0):Nat):Int)=k:=by simp[aP]
  rw[z0]
  rfl
 ·rw[ku,kr hp,iQ _ _ hS]
 intro i hi
 simp -implicitDefEqProofs (disch:=omega) only[go_sem,ht,hA,gI,hl]
 with_reducible refine aS (fun hb=> ?_) (fun hb=> ?_)<;>have h:=hb<;>try simp only[wf_preprocess] at h
 ·have hi:i<xs.length:=by omega
  have hir:i<rows.length:=by omega
  obtain⟨x,hx⟩:∃x,x=xs[i]:=⟨_,rfl⟩
  have e1:rows[i]=[.s x.fName,.sl (x.aY.map aj.enc),.i .i64 x.bO.aX,.s x.bO.fName,.sl (x.bO.fArgs.map aj.enc),.b x.iD,.sl (x.aF.map encS),.i .i64 x.fBody.aX,.s x.fBody.bR,.s x.fBody.fName,.i .i64 x.fBody.fN,.i .i64 x.fBody.fType.aX,.s x.fBody.fType.fName,.sl (x.fBody.fType.fArgs.map aj.enc),.sl (x.fBody.fArgs.map au.enc),.sl (x.fBody.aZ.map aW.enc)]:=by
   simp only[hr,List.getElem_map,←hx]
   simp only[au.aC,aR.aC,aj.aC,encS,encI,List.cons_append,List.nil_append]
  have hm:=jP hir
  have hle:=mX (rows:=rows) (i:=i+1)
  rw[hm,e1] at hle
  rw[e1] at hm
  simp only[lg,kZ] at hle hm
  have hK:k+((aP (rows.take (i+1)):Nat):Int)=k+((aP (rows.take i):Nat):Int)+1+((aP (x.aY.map aj.enc):Nat):Int)+1+1+((aP (x.bO.fArgs.map aj.enc):Nat):Int)+1+((aP (x.aF.map encS):Nat):Int)+1+1+1+1+1+1+((aP (x.fBody.fType.fArgs.map aj.enc):Nat):Int)+((aP (x.fBody.fArgs.map au.enc):Nat):Int)+((aP (x.fBody.aZ.map aW.enc):Nat):Int):=by rw[hm];omega
  have e2:=nR (k:=k) hir
  rw[e1] at e2
  have hC:∀row o,cellAt (iG rows k i row) i o=row[o]? :=fun row o=>jC hir
  have hG:∀row,(iG rows k i row).getD i []=row:=fun row=>kS hir
  simp -implicitDefEqProofs (disch:=omega) only[go_sem,hb,ht,hA,hU,e2,hC,hG,bS,bH,hl,bC,dW]
  (repeat(with_reducible refine And.intro ?_ ?_;focus first|omega|rfl|assumption|exact⟨_,rfl,rfl⟩|(simp;omega)|(simp;done)))
  refine ah (dS (k+((aP (rows.take i):Nat):Int)) (by omega)) ?_
  simp -implicitDefEqProofs (disch:=omega) only[go_sem,hb,ht,hA,hU,e2,hC,hG,bS,bH,hl,bC,dW]
  (repeat(with_reducible refine And.intro ?_ ?_;focus first|omega|rfl|assumption|exact⟨_,rfl,rfl⟩|(simp;omega)|(simp;done)))
  refine bV rfl (fT hS hp hir (by rfl) (fun S' rs' g1 g2=>jc x.aY (k+((aP (rows.take i):Nat):Int)+1) (1+l) j r _ S' rs' g1 g2 (by omega))) ?_
  simp -implicitDefEqProofs (disch:=omega) only[go_sem,hb,ht,hA,hU,e2,hC,hG,bS,bH,hl,bC,dW]
  (repeat(with_reducible refine And.intro ?_ ?_;focus first|omega|rfl|assumption|exact⟨_,rfl,rfl⟩|(simp;omega)|(simp;done)))
  refine ah (dS (k+((aP (rows.take i):Nat):Int)+1+((aP (x.aY.map aj.enc):Nat):Int)+1) (by omega)) ?_
  simp -implicitDefEqProofs (disch:=omega) only[go_sem,hb,ht,hA,hU,e2,hC,hG,bS,bH,hl,bC,dW]
  (repeat(with_reducible refine And.intro ?_ ?_;focus first|omega|rfl|assumption|exact⟨_,rfl,rfl⟩|(simp;omega)|(simp;done)))
  refine bV rfl (fT hS hp hir (by rfl) (fun S' rs' g1 g2=>jc x.bO.fArgs (k+((aP (rows.take i):Nat):Int)+1+((aP (x.aY.map aj.enc):Nat):Int)+1+1) (1+l) j r _ S' rs' g1 g2 (by omega))) ?_
  simp -implicitDefEqProofs (disch:=omega) only[go_sem,hb,ht,hA,hU,e2,hC,hG,bS,bH,hl,bC,dW]
  (repeat(with_reducible refine And.intro ?_ ?_;focus first|omega|rfl|assumption|exact⟨_,rfl,rfl⟩|(simp;omega)|(simp;done)))
  refine bV rfl (fT hS hp hir (by rfl) (fun S' rs' g1 g2=>lC x.aF (k+((aP (rows.take i):Nat):Int)+1+((aP (x.aY.map aj.enc):Nat):Int)+1+1+((aP (x.bO.fArgs.map aj.enc):Nat):Int)+1) (1+l) j r _ S' rs' g1 g2 (by omega))) ?_
  simp -implicitDefEqProofs (disch:=omega) only[go_sem,hb,ht,hA,hU,e2,hC,hG,bS,bH,hl,bC,dW]
  (repeat(with_reducible refine And.intro ?_ ?_;focus first|omega|rfl|assumption|exact⟨_,rfl,rfl⟩|(simp;omega)|(simp;done)))
  refine ah (dS (k+((aP (rows.take i):Nat):Int)+1+((aP (x.aY.map aj.enc):Nat):Int)+1+1+((aP (x.bO.fArgs.map aj.enc):Nat):Int)+1+((aP (x.aF.map encS):Nat):Int)+1) (by omega)) ?_
  simp -implicitDefEqProofs (disch:=omega) only[go_sem,hb,ht,hA,hU,e2,hC,hG,bS,bH,hl,bC,dW]
  (repeat(with_reducible refine And.intro ?_ ?_;focus first|omega|rfl|assumption|exact⟨_,rfl,rfl⟩|(simp;omega)|(simp;done)))
  refine ah (dS (k+((aP (rows.take i):Nat):Int)+1+((aP (x.aY.map aj.enc):Nat):Int)+1+1+((aP (x.bO.fArgs.map aj.enc):Nat):Int)+1+((aP (x.aF.map encS):Nat):Int)+1+1) (by omega)) ?_
  simp -implicitDefEqProofs (disch:=omega) only[go_sem,hb,ht,hA,hU,e2,hC,hG,bS,bH,hl,bC,dW]
  (repeat(with_reducible refine And.intro ?_ ?_;focus first|omega|rfl|assumption|exact⟨_,rfl,rfl⟩|(simp;omega)|(simp;done)))
  refine ah (dS (k+((aP (rows.take i):Nat):Int)+1+((aP (x.aY.map aj.enc):Nat):Int)+1+1+((aP (x.bO.fArgs.map aj.enc):Nat):Int)+1+((aP (x.aF.map encS):Nat):Int)+1+1+1+1+1) (by omega)) ?_
  simp -implicitDefEqProofs (disch:=omega) only[go_sem,hb,ht,hA,hU,e2,hC,hG,bS,bH,hl,bC,dW]
  (repeat(with_reducible refine And.intro ?_ ?_;focus first|omega|rfl|assumption|exact⟨_,rfl,rfl⟩|(simp;omega)|(simp;done)))
  refine bV rfl (fT hS hp hir (by rfl) (fun S' rs' g1 g2=>jc x.fBody.fType.fArgs (k+((aP (rows.take i):Nat):Int)+1+((aP (x.aY.map aj.enc):Nat):Int)+1+1+((aP (x.bO.fArgs.map aj.enc):Nat):Int)+1+((aP (x.aF.map encS):Nat):Int)+1+1+1+1+1+1) (1+l) j r _ S' rs' g1 g2 (by omega))) ?_
  simp -implicitDefEqProofs (disch:=omega) only[go_sem,hb,ht,hA,hU,e2,hC,hG,bS,bH,hl,bC,dW]
  (repeat(with_reducible refine And.intro ?_ ?_;focus first|omega|rfl|assumption|exact⟨_,rfl,rfl⟩|(simp;omega)|(simp;done)))
  refine bV rfl (fT hS hp hir (by rfl) (fun S' rs' g1 g2=>zy x.fBody.fArgs (k+((aP (rows.take i):Nat):Int)+1+((aP (x.aY.map aj.enc):Nat):Int)+1+1+((aP (x.bO.fArgs.map aj.enc):Nat):Int)+1+((aP (x.aF.map encS):Nat):Int)+1+1+1+1+1+1+((aP (x.fBody.fType.fArgs.map aj.enc):Nat):Int)) (1+l) j r _ S' rs' g1 g2 (by omega))) ?_
  simp -implicitDefEqProofs (disch:=omega) only[go_sem,hb,ht,hA,hU,e2,hC,hG,bS,bH,hl,bC,dW]
  (repeat(with_reducible refine And.intro ?_ ?_;focus first|omega|rfl|assumption|exact⟨_,rfl,rfl⟩|(simp;omega)|(simp;done)))
  refine bV rfl (fT hS hp hir (by rfl) (fun S' rs' g1 g2=>Ag x.fBody.aZ (k+((aP (rows.take i):Nat):Int)+1+((aP (x.aY.map aj.enc):Nat):Int)+1+1+((aP (x.bO.fArgs.map aj.enc):Nat):Int)+1+((aP (x.aF.map encS):Nat):Int)+1+1+1+1+1+1+((aP (x.fBody.fType.fArgs.map aj.enc):Nat):Int)+((aP (x.fBody.fArgs.map au.enc):Nat):Int)) (1+l) j r _ S' rs' g1 g2 (by omega))) ?_
  simp -implicitDefEqProofs (disch:=omega) only[go_sem,hb,ht,hA,hU,e2,hC,hG,bS,bH,hl,bC,dW]
  (repeat(with_reducible refine And.intro ?_ ?_;focus first|omega|rfl|assumption|exact⟨_,rfl,rfl⟩|(simp;omega)|(simp;done)))
  refine bL (i+1) (by omega) (by rw[hK];rfl) ?_ (by omega)
  have h3:=nS (k:=k) hir
  rw[e1] at h3
  simp only[tN,xW] at h3
  rw[←h3]
  all_goals rfl
 ·simp -implicitDefEqProofs (disch:=omega) only[go_sem,hb]
  have hi:i=xs.length:=by omega
  rw[lY (by omega),List.take_of_length_le (by omega)]
  all_goals (first|rfl|exact⟨rfl,rfl⟩)
end Go.Proofs.YtlmhknhlmicmeaaGreatDoor
namespace Go.Proofs.YtlmhknhlmicmeaaGreatDoor
open Go Go.Ab
set_option maxHeartbeats 4000000 in
theorem Mx(xs:List bn):∀(k:Int) (l j r:Nat) (p:List (Nat×Nat)) (S:Store) (rs:List (List (List D))),bM S (l,j)=some (.xf rs)→atR rs r p=some (xs.map bn.enc)→0≤k∧k+aP (xs.map bn.enc)≤4611686018427387904→dh Tryz.prog 83 [.c (.xp (l,j) r p),.c (.d (.i .i64 k))] S (fun res S'=>res=.c (.d (.i .i64 (k+aP (xs.map bn.enc))))∧S'=bQ S (l,j) (.xf (dB rs r p (gQ (xs.map bn.enc) k)))):=by
 intro k l j r p S rs hS hp hk
 have hlen:=oh (f:=bn.enc) (fun x=>by simp only[bn.aC,encS,encI,List.cons_append,List.nil_append,lg,kZ];omega) xs
 obtain⟨rows,hr⟩:∃rows,rows=xs.map bn.enc:=⟨_,rfl⟩
 have hl:rows.length=xs.length:=by rw[hr,List.length_map]
 rw[←hr] at hp hk hlen ⊢
 have ht:∀x:Ab.Obj,bM (bQ S (l,j) x) (l,j)=some x:=fun x=>dN _ _ _ _ hS
 have hA:∀new,atR (dB rs r p new) r p=some new:=fun new=>jZ hp
 have hU:∀a b,dB (dB rs r p a) r p b=dB rs r p b:=fun a b=>jO hp
 refine aA (rs:=[.tmp 4]) Tryz.checked.mixed Tryz.func83 Tryz.ntmps83 rfl rfl rfl rfl rfl ?_
 first|refine W1 ?_|exact Z1
 refine aV (ι:=Nat) Tryz.checked.mixed rfl [0,1,5] (fun i=>[.c (.xp (1+l,j) r p),.c (.d (.i .i64 (k+aP (rows.take i)))),.c (.d (.i .i64 i))])
  (fun i=>[]::bQ S (l,j) (.xf (dB rs r p (lX rows k i)))) (fun i=>i≤xs.length) (fun i=>xs.length-i) 0 ?_ ?_ (Nat.zero_le _) ?_
 ·have z0:k+((aP (rows.take 0):Nat):Int)=k:=by simp[aP]
  rw[z0]
  rfl
 ·rw[ku,kr hp,iQ _ _ hS]
 intro i hi
 simp -implicitDefEqProofs (disch:=omega) only[go_sem,ht,hA,gI,hl]
 with_reducible refine aS (fun hb=> ?_) (fun hb=> ?_)<;>have h:=hb<;>try simp only[wf_preprocess] at h
 ·have hi:i<xs.length:=by omega
  have hir:i<rows.length:=by omega
  obtain⟨x,hx⟩:∃x,x=xs[i]:=⟨_,rfl⟩
  have e1:rows[i]=[.s x.fName,.sl (x.bN.map encS),.b x.ou,.b x.bY,.sl (x.aD.map aR.enc)]:=by
   simp only[hr,List.getElem_map,←hx]
   simp only[bn.aC,encS,encI,List.cons_append,List.nil_append]
  have hm:=jP hir
  have hle:=mX (rows:=rows) (i:=i+1)
  rw[hm,e1] at hle
  rw[e1] at hm
  simp only[lg,kZ] at hle hm
  have hK:k+((aP (rows.take (i+1)):Nat):Int)=k+((aP (rows.take i):Nat):Int)+1+((aP (x.bN.map encS):Nat):Int)+1+1+((aP (x.aD.map aR.enc):Nat):Int):=by rw[hm];omega
  have e2:=nR (k:=k) hir
  rw[e1] at e2
  have hC:∀row o,cellAt (iG rows k i row) i o=row[o]? :=fun row o=>jC hir
  have hG:∀row,(iG rows k i row).getD i []=row:=fun row=>kS hir
  simp -implicitDefEqProofs (disch:=omega) only[go_sem,hb,ht,hA,hU,e2,hC,hG,bS,bH,hl,bC,dW]
  refine W3 ?_
  refine ah (dS (k+((aP (rows.take i):Nat):Int)) (by omega)) ?_
  simp -implicitDefEqProofs (disch:=omega) only[go_sem,hb,ht,hA,hU,e2,hC,hG,bS,bH,hl,bC,dW]
  (repeat(with_reducible refine And.intro ?_ ?_;focus first|omega|rfl|assumption|exact⟨_,rfl,rfl⟩|(simp;omega)|(simp;done)))
  refine bV rfl (fT hS hp hir (by rfl) (fun S' rs' g1 g2=>lC x.bN (k+((aP (rows.take i):Nat):Int)+1) (1+l) j r _ S' rs' g1 g2 (by omega))) ?_
  simp -implicitDefEqProofs (disch:=omega) only[go_sem,hb,ht,hA,hU,e2,hC,hG,bS,bH,hl,bC,dW]
  (repeat(with_reducible refine And.intro ?_ ?_;focus first|omega|rfl|assumption|exact⟨_,rfl,rfl⟩|(simp;omega)|(simp;done)))
  refine bV rfl (fT hS hp hir (by rfl) (fun S' rs' g1 g2=>EJ x.aD (k+((aP (rows.take i):Nat):Int)+1+((aP (x.bN.map encS):Nat):Int)+1+1) (1+l) j r _ S' rs' g1 g2 (by omega))) ?_
  simp -implicitDefEqProofs (disch:=omega) only[go_sem,hb,ht,hA,hU,e2,hC,hG,bS,bH,hl,bC,dW]
  refine W3 ?_
  refine bL (i+1) (by omega) (by rw[hK];rfl) ?_ (by omega)
  have h3:=nS (k:=k) hir
  rw[e1] at h3
  simp only[tN,xW] at h3
  rw[←h3]
  all_goals rfl
 ·simp -implicitDefEqProofs (disch:=omega) only[go_sem,hb]
  have hi:i=xs.length:=by omega
  rw[lY (by omega),List.take_of_length_le (by omega)]
  all_goals (first|rfl|exact⟨rfl,rfl⟩)
end Go.Proofs.YtlmhknhlmicmeaaGreatDoor
namespace Go.Proofs.YtlmhknhlmicmeaaGreatDoor
open Go Go.Ab
set_option maxHeartbeats 4000000 in
theorem Cz(xs:List aK):∀(k:Int) (l j r:Nat) (p:List (Nat×Nat)) (S:Store) (rs:List (List (List D))),bM S (l,j)=some (.xf rs)→atR rs r p=some (xs.map aK.enc)→0≤k∧k+aP (xs.map aK.enc)≤4611686018427387904→dh Tryz.prog 182 [.c (.xp (l,j) r p),.c (.d (.i .i64 k))] S (fun res S'=>res=.c (.d (.i .i64 (k+aP (xs.map aK.enc))))∧S'=bQ S (l,j) (.xf (dB rs r p (gQ (xs.map aK.enc) k)))):=by
 intro k l j r p S rs hS hp hk
 have hlen:=oh (f:=aK.enc) (fun x=>by simp only[aK.aC,encS,encI,List.cons_append,List.nil_append,lg,kZ];omega) xs
 obtain⟨rows,hr⟩:∃rows,rows=xs.map aK.enc:=⟨_,rfl⟩
 have hl:rows.length=xs.length:=by rw[hr,List.length_map]
 rw[←hr] at hp hk hlen ⊢
 have ht:∀x:Ab.Obj,bM (bQ S (l,j) x) (l,j)=some x:=fun x=>dN _ _ _ _ hS
 have hA:∀new,atR (dB rs r p new) r p=some new:=fun new=>jZ hp
 have hU:∀a b,dB (dB rs r p a) r p b=dB rs r p b:=fun a b=>jO hp
 refine aA (rs:=[.tmp 4]) Tryz.checked.mixed Tryz.func182 Tryz.ntmps182 rfl rfl rfl rfl rfl ?_
 first|refine W1 ?_|exact Z1
 refine aV (ι:=Nat) Tryz.checked.mixed rfl [0,1,5] (fun i=>[.c (.xp (1+l,j) r p),.c (.d (.i .i64 (k+aP (rows.take i)))),.c (.d (.i .i64 i))])
  (fun i=>[]::bQ S (l,j) (.xf (dB rs r p (lX rows k i)))) (fun i=>i≤xs.length) (fun i=>xs.length-i) 0 ?_ ?_ (Nat.zero_le _) ?_
 ·have z0:k+((aP (rows.take 0):Nat):Int)=k:=by simp[aP]
  rw[z0]
  rfl
 ·rw[ku,kr hp,iQ _ _ hS]
 intro i hi
 simp -implicitDefEqProofs (disch:=omega) only[go_sem,ht,hA,gI,hl]
 with_reducible refine aS (fun hb=> ?_) (fun hb=> ?_)<;>have h:=hb<;>try simp only[wf_preprocess] at h
 ·have hi:i<xs.length:=by omega
  have hir:i<rows.length:=by omega
  obtain⟨x,hx⟩:∃x,x=xs[i]:=⟨_,rfl⟩
  have e1:rows[i]=[.s x.fName,.sl (x.fA.map aj.enc)]:=by
   simp only[hr,List.getElem_map,←hx]
   simp only[aK.aC,encS,encI,List.cons_append,List.nil_append]
  have hm:=jP hir
  have hle:=mX (rows:=rows) (i:=i+1)
  rw[hm,e1] at hle
  rw[e1] at hm
  simp only[lg,kZ] at hle hm
  have hK:k+((aP (rows.take (i+1)):Nat):Int)=k+((aP (rows.take i):Nat):Int)+1+((aP (x.fA.map aj.enc):Nat):Int):=by rw[hm];omega
  have e2:=nR (k:=k) hir
  rw[e1] at e2
  have hC:∀row o,cellAt (iG rows k i row) i o=row[o]? :=fun row o=>jC hir
  have hG:∀row,(iG rows k i row).getD i []=row:=fun row=>kS hir
  simp -implicitDefEqProofs (disch:=omega) only[go_sem,hb,ht,hA,hU,e2,hC,hG,bS,bH,hl,bC,dW]
  refine W3 ?_
  refine ah (dS (k+((aP (rows.take i):Nat):Int)) (by omega)) ?_
  simp -implicitDefEqProofs (disch:=omega) only[go_sem,hb,ht,hA,hU,e2,hC,hG,bS,bH,hl,bC,dW]
  (repeat(with_reducible refine And.intro ?_ ?_;focus first|omega|rfl|assumption|exact⟨_,rfl,rfl⟩|(simp;omega)|(simp;done)))
  refine bV rfl (fT hS hp hir (by rfl) (fun S' rs' g1 g2=>jc x.fA (k+((aP (rows.take i):Nat):Int)+1) (1+l) j r _ S' rs' g1 g2 (by omega))) ?_
  simp -implicitDefEqProofs (disch:=omega) only[go_sem,hb,ht,hA,hU,e2,hC,hG,bS,bH,hl,bC,dW]
  refine W3 ?_
  refine bL (i+1) (by omega) (by rw[hK];rfl) ?_ (by omega)
  have h3:=nS (k:=k) hir
  rw[e1] at h3
  simp only[tN,xW] at h3
  rw[←h3]
  all_goals rfl
 ·simp -implicitDefEqProofs (disch:=omega) only[go_sem,hb]
  have hi:i=xs.length:=by omega
  rw[lY (by omega),List.take_of_length_le (by omega)]
  all_goals (first|rfl|exact⟨rfl,rfl⟩)
end Go.Proofs.YtlmhknhlmicmeaaGreatDoor
namespace Go.Proofs.YtlmhknhlmicmeaaGreatDoor
open Go Go.Ab
set_option maxHeartbeats 4000000 in
theorem Gi(xs:List aL):∀(k:Int) (l j r:Nat) (p:List (Nat×Nat)) (S:Store) (rs:List (List (List D))),bM S (l,j)=some (.xf rs)→atR rs r p=some (xs.map aL.enc)→0≤k∧k+aP (xs.map aL.enc)≤4611686018427387904→dh Tryz.prog 84 [.c (.xp (l,j) r p),.c (.d (.i .i64 k))] S (fun res S'=>res=.c (.d (.i .i64 (k+aP (xs.map aL.enc))))∧S'=bQ S (l,j) (.xf (dB rs r p (gQ (xs.map aL.enc) k)))):=by
 intro k l j r p S rs hS hp hk
 have hlen:=oh (f:=aL.enc) (fun x=>by simp only[aL.aC,encS,encI,List.cons_append,List.nil_append,lg,kZ];omega) xs
 obtain⟨rows,hr⟩:∃rows,rows=xs.map aL.enc:=⟨_,rfl⟩
 have hl:rows.length=xs.length:=by rw[hr,List.length_map]
 rw[←hr] at hp hk hlen ⊢
 have ht:∀x:Ab.Obj,bM (bQ S (l,j) x) (l,j)=some x:=fun x=>dN _ _ _ _ hS
 have hA:∀new,atR (dB rs r p new) r p=some new:=fun new=>jZ hp
 have hU:∀a b,dB (dB rs r p a) r p b=dB rs r p b:=fun a b=>jO hp
 refine aA (rs:=[.tmp 4]) Tryz.checked.mixed Tryz.func84 Tryz.ntmps84 rfl rfl rfl rfl rfl ?_
 first|refine W1 ?_|exact Z1
 refine aV (ι:=Nat) Tryz.checked.mixed rfl [0,1,5] (fun i=>[.c (.xp (1+l,j) r p),.c (.d (.i .i64 (k+aP (rows.take i)))),.c (.d (.i .i64 i))])
  (fun i=>[]::bQ S (l,j) (.xf (dB rs r p (lX rows k i)))) (fun i=>i≤xs.length) (fun i=>xs.length-i) 0 ?_ ?_ (Nat.zero_le _) ?_
 ·have z0:k+((aP (rows.take 0):Nat):Int)=k:=by simp[aP]
  rw[z0]
  rfl
 ·rw[ku,kr hp,iQ _ _ hS]
 intro i hi
 simp -implicitDefEqProofs (disch:=omega) only[go_sem,ht,hA,gI,hl]
 with_reducible refine aS (fun hb=> ?_) (fun hb=> ?_)<;>have h:=hb<;>try simp only[wf_preprocess] at h
 ·have hi:i<xs.length:=by omega
  have hir:i<rows.length:=by omega
  obtain⟨x,hx⟩:∃x,x=xs[i]:=⟨_,rfl⟩
  have e1:rows[i]=[.s x.fName,.sl (x.aF.map encS),.sl (x.aJ.map aK.enc)]:=by
   simp only[hr,List.getElem_map,←hx]
   simp only[aL.aC,encS,encI,List.cons_append,List.nil_append]
  have hm:=jP hir
  have hle:=mX (rows:=rows) (i:=i+1)
  rw[hm,e1] at hle
  rw[e1] at hm
  simp only[lg,kZ] at hle hm
  have hK:k+((aP (rows.take (i+1)):Nat):Int)=k+((aP (rows.take i):Nat):Int)+1+((aP (x.aF.map encS):Nat):Int)+((aP (x.aJ.map aK.enc):Nat):Int):=by rw[hm];omega
  have e2:=nR (k:=k) hir
  rw[e1] at e2
  have hC:∀row o,cellAt (iG rows k i row) i o=row[o]? :=fun row o=>jC hir
  have hG:∀row,(iG rows k i row).getD i []=row:=fun row=>kS hir
  simp -implicitDefEqProofs (disch:=omega) only[go_sem,hb,ht,hA,hU,e2,hC,hG,bS,bH,hl,bC,dW]
  refine W3 ?_
  refine ah (dS (k+((aP (rows.take i):Nat):Int)) (by omega)) ?_
  simp -implicitDefEqProofs (disch:=omega) only[go_sem,hb,ht,hA,hU,e2,hC,hG,bS,bH,hl,bC,dW]
  (repeat(with_reducible refine And.intro ?_ ?_;focus first|omega|rfl|assumption|exact⟨_,rfl,rfl⟩|(simp;omega)|(simp;done)))
  refine bV rfl (fT hS hp hir (by rfl) (fun S' rs' g1 g2=>lC x.aF (k+((aP (rows.take i):Nat):Int)+1) (1+l) j r _ S' rs' g1 g2 (by omega))) ?_
  simp -implicitDefEqProofs (disch:=omega) only[go_sem,hb,ht,hA,hU,e2,hC,hG,bS,bH,hl,bC,dW]
  (repeat(with_reducible refine And.intro ?_ ?_;focus first|omega|rfl|assumption|exact⟨_,rfl,rfl⟩|(simp;omega)|(simp;done)))
  refine bV rfl (fT hS hp hir (by rfl) (fun S' rs' g1 g2=>Cz x.aJ (k+((aP (rows.take i):Nat):Int)+1+((aP (x.aF.map encS):Nat):Int)) (1+l) j r _ S' rs' g1 g2 (by omega))) ?_
  simp -implicitDefEqProofs (disch:=omega) only[go_sem,hb,ht,hA,hU,e2,hC,hG,bS,bH,hl,bC,dW]
  refine W3 ?_
  refine bL (i+1) (by omega) (by rw[hK];rfl) ?_ (by omega)
  have h3:=nS (k:=k) hir
  rw[e1] at h3
  simp only[tN,xW] at h3
  rw[←h3]
  all_goals rfl
 ·simp -implicitDefEqProofs (disch:=omega) only[go_sem,hb]
  have hi:i=xs.length:=by omega
  rw[lY (by omega),List.take_of_length_le (by omega)]
  all_goals (first|rfl|exact⟨rfl,rfl⟩)
end Go.Proofs.YtlmhknhlmicmeaaGreatDoor
namespace Go.Proofs.YtlmhknhlmicmeaaGreatDoor
open Go Go.Ab
set_option maxHeartbeats 4000000 in
theorem Kn(xs:List bB):∀(k:Int) (l j r:Nat) (p:List (Nat×Nat)) (S:Store) (rs:List (List (List D))),bM S (l,j)=some (.xf rs)→atR rs r p=some (xs.map bB.enc)→0≤k∧k+aP (xs.map bB.enc)≤4611686018427387904→dh Tryz.prog 145 [.c (.xp (l,j) r p),.c (.d (.i .i64 k))] S (fun res S'=>res=.c (.d (.i .i64 (k+aP (xs.map bB.enc))))∧S'=bQ S (l,j) (.xf (dB rs r p (gQ (xs.map bB.enc) k)))):=by
 intro k l j r p S rs hS hp hk
 have hlen:=oh (f:=bB.enc) (fun x=>by simp only[au.aC,bB.aC,aj.aC,encS,encI,List.cons_append,List.nil_append,lg,kZ];omega) xs
 obtain⟨rows,hr⟩:∃rows,rows=xs.map bB.enc:=⟨_,rfl⟩
 have hl:rows.length=xs.length:=by rw[hr,List.length_map]
 rw[←hr] at hp hk hlen ⊢
 have ht:∀x:Ab.Obj,bM (bQ S (l,j) x) (l,j)=some x:=fun x=>dN _ _ _ _ hS
 have hA:∀new,atR (dB rs r p new) r p=some new:=fun new=>jZ hp
 have hU:∀a b,dB (dB rs r p a) r p b=dB rs r p b:=fun a b=>jO hp
 refine aA (rs:=[.tmp 4]) Tryz.checked.mixed Tryz.func145 Tryz.ntmps145 rfl rfl rfl rfl rfl ?_
 simp -implicitDefEqProofs (disch:=omega) only[go_sem]
 refine aV (ι:=Nat) Tryz.checked.mixed rfl [0,1,5] (fun i=>[.c (.xp (1+l,j) r p),.c (.d (.i .i64 (k+aP (rows.take i)))),.c (.d (.i .i64 i))])
  (fun i=>[]::bQ S (l,j) (.xf (dB rs r p (lX rows k i)))) (fun i=>i≤xs.length) (fun i=>xs.length-i) 0 ?_ ?_ (Nat.zero_le _) ?_
 ·have z0:k+((aP (rows.take 0):Nat):Int)=k:=by simp[aP]
  rw[z0]
  rfl
 ·rw[ku,kr hp,iQ _ _ hS]
 intro i hi
 simp -implicitDefEqProofs (disch:=omega) only[go_sem,ht,hA,gI,hl]
 with_reducible refine aS (fun hb=> ?_) (fun hb=> ?_)<;>have h:=hb<;>try simp only[wf_preprocess] at h
 ·have hi:i<xs.length:=by omega
  have hir:i<rows.length:=by omega
  obtain⟨x,hx⟩:∃x,x=xs[i]:=⟨_,rfl⟩
  have e1:rows[i]=[.s x.fName,.sl (x.aF.map encS),.i .i64 x.fBody.aX,.s x.fBody.bR,.s x.fBody.fName,.i .i64 x.fBody.fN,.i .i64 x.fBody.fType.aX,.s x.fBody.fType.fName,.sl (x.fBody.fType.fArgs.map aj.enc),.sl (x.fBody.fArgs.map au.enc),.sl (x.fBody.aZ.map aW.enc)]:=by
   simp only[hr,List.getElem_map,←hx]
   simp only[au.aC,bB.aC,aj.aC,encS,encI,List.cons_append,List.nil_append]
  have hm:=jP hir
  have hle:=mX (rows:=rows) (i:=i+1)
  rw[hm,e1] at hle
  rw[e1] at hm
  simp only[lg,kZ] at hle hm
  have hK:k+((aP (rows.take (i+1)):Nat):Int)=k+((aP (rows.take i):Nat):Int)+1+((aP (x.aF.map encS):Nat):Int)+1+1+1+1+1+1+((aP (x.fBody.fType.fArgs.map aj.enc):Nat):Int)+((aP (x.fBody.fArgs.map au.enc):Nat):Int)+((aP (x.fBody.aZ.map aW.enc):Nat):Int):=by rw[hm];omega
  have e2:=nR (k:=k) hir
  rw[e1] at e2
  have hC:∀row o,cellAt (iG rows k i row) i o=row[o]? :=fun row o=>jC hir
  have hG:∀row,(iG rows k i row).getD i []=row:=fun row=>kS hir
  simp -implicitDefEqProofs (disch:=omega) only[go_sem,hb,ht,hA,hU,e2,hC,hG,bS,bH,hl,bC,dW]
  (repeat(with_reducible refine And.intro ?_ ?_;focus first|omega|rfl|assumption|exact⟨_,rfl,rfl⟩|(simp;omega)|(simp;done)))
  refine ah (dS (k+((aP (rows.take i):Nat):Int)) (by omega)) ?_
  simp -implicitDefEqProofs (disch:=omega) only[go_sem,hb,ht,hA,hU,e2,hC,hG,bS,bH,hl,bC,dW]
  (repeat(with_reducible refine And.intro ?_ ?_;focus first|omega|rfl|assumption|exact⟨_,rfl,rfl⟩|(simp;omega)|(simp;done)))
  refine bV rfl (fT hS hp hir (by rfl) (fun S' rs' g1 g2=>lC x.aF (k+((aP (rows.take i):Nat):Int)+1) (1+l) j r _ S' rs' g1 g2 (by omega))) ?_
  simp -implicitDefEqProofs (disch:=omega) only[go_sem,hb,ht,hA,hU,e2,hC,hG,bS,bH,hl,bC,dW]
  (repeat(with_reducible refine And.intro ?_ ?_;focus first|omega|rfl|assumption|exact⟨_,rfl,rfl⟩|(simp;omega)|(simp;done)))
  refine ah (dS (k+((aP (rows.take i):Nat):Int)+1+((aP (x.aF.map encS):Nat):Int)+1) (by omega)) ?_
  simp -implicitDefEqProofs (disch:=omega) only[go_sem,hb,ht,hA,hU,e2,hC,hG,bS,bH,hl,bC,dW]
  (repeat(with_reducible refine And.intro ?_ ?_;focus first|omega|rfl|assumption|exact⟨_,rfl,rfl⟩|(simp;omega)|(simp;done)))
  refine ah (dS (k+((aP (rows.take i):Nat):Int)+1+((aP (x.aF.map encS):Nat):Int)+1+1) (by omega)) ?_
  simp -implicitDefEqProofs (disch:=omega) only[go_sem,hb,ht,hA,hU,e2,hC,hG,bS,bH,hl,bC,dW]
  (repeat(with_reducible refine And.intro ?_ ?_;focus first|omega|rfl|assumption|exact⟨_,rfl,rfl⟩|(simp;omega)|(simp;done)))
  refine ah (dS (k+((aP (rows.take i):Nat):Int)+1+((aP (x.aF.map encS):Nat):Int)+1+1+1+1+1) (by omega)) ?_
  simp -implicitDefEqProofs (disch:=omega) only[go_sem,hb,ht,hA,hU,e2,hC,hG,bS,bH,hl,bC,dW]
  (repeat(with_reducible refine And.intro ?_ ?_;focus first|omega|rfl|assumption|exact⟨_,rfl,rfl⟩|(simp;omega)|(simp;done)))
  refine bV rfl (fT hS hp hir (by rfl) (fun S' rs' g1 g2=>jc x.fBody.fType.fArgs (k+((aP (rows.take i):Nat):Int)+1+((aP (x.aF.map encS):Nat):Int)+1+1+1+1+1+1) (1+l) j r _ S' rs' g1 g2 (by omega))) ?_
  simp -implicitDefEqProofs (disch:=omega) only[go_sem,hb,ht,hA,hU,e2,hC,hG,bS,bH,hl,bC,dW]
  (repeat(with_reducible refine And.intro ?_ ?_;focus first|omega|rfl|assumption|exact⟨_,rfl,rfl⟩|(simp;omega)|(simp;done)))
  refine bV rfl (fT hS hp hir (by rfl) (fun S' rs' g1 g2=>zy x.fBody.fArgs (k+((aP (rows.take i):Nat):Int)+1+((aP (x.aF.map encS):Nat):Int)+1+1+1+1+1+1+((aP (x.fBody.fType.fArgs.map aj.enc):Nat):Int)) (1+l) j r _ S' rs' g1 g2 (by omega))) ?_
  simp -implicitDefEqProofs (disch:=omega) only[go_sem,hb,ht,hA,hU,e2,hC,hG,bS,bH,hl,bC,dW]
  (repeat(with_reducible refine And.intro ?_ ?_;focus first|omega|rfl|assumption|exact⟨_,rfl,rfl⟩|(simp;omega)|(simp;done)))
  refine bV rfl (fT hS hp hir (by rfl) (fun S' rs' g1 g2=>Ag x.fBody.aZ (k+((aP (rows.take i):Nat):Int)+1+((aP (x.aF.map encS):Nat):Int)+1+1+1+1+1+1+((aP (x.fBody.fType.fArgs.map aj.enc):Nat):Int)+((aP (x.fBody.fArgs.map au.enc):Nat):Int)) (1+l) j r _ S' rs' g1 g2 (by omega))) ?_
  simp -implicitDefEqProofs (disch:=omega) only[go_sem,hb,ht,hA,hU,e2,hC,hG,bS,bH,hl,bC,dW]
  (repeat(with_reducible refine And.intro ?_ ?_;focus first|omega|rfl|assumption|exact⟨_,rfl,rfl⟩|(simp;omega)|(simp;done)))
  refine bL (i+1) (by omega) (by rw[hK];rfl) ?_ (by omega)
  have h3:=nS (k:=k) hir
  rw[e1] at h3
  simp only[tN,xW] at h3
  rw[←h3]
  all_goals rfl
 ·simp -implicitDefEqProofs (disch:=omega) only[go_sem,hb]
  have hi:i=xs.length:=by omega
  rw[lY (by omega),List.take_of_length_le (by omega)]
  all_goals (first|rfl|exact⟨rfl,rfl⟩)
end Go.Proofs.YtlmhknhlmicmeaaGreatDoor
namespace Go.Proofs.YtlmhknhlmicmeaaGreatDoor
open Go Go.Ab
set_option maxHeartbeats 4000000 in
theorem Gj(xs:List aN):∀(k:Int) (l j r:Nat) (p:List (Nat×Nat)) (S:Store) (rs:List (List (List D))),bM S (l,j)=some (.xf rs)→atR rs r p=some (xs.map aN.enc)→0≤k∧k+aP (xs.map aN.enc)≤4611686018427387904→dh Tryz.prog 85 [.c (.xp (l,j) r p),.c (.d (.i .i64 k))] S (fun res S'=>res=.c (.d (.i .i64 (k+aP (xs.map aN.enc))))∧S'=bQ S (l,j) (.xf (dB rs r p (gQ (xs.map aN.enc) k)))):=by
 intro k l j r p S rs hS hp hk
 have hlen:=oh (f:=aN.enc) (fun x=>by simp only[aN.aC,aj.aC,encS,encI,List.cons_append,List.nil_append,lg,kZ];omega) xs
 obtain⟨rows,hr⟩:∃rows,rows=xs.map aN.enc:=⟨_,rfl⟩
 have hl:rows.length=xs.length:=by rw[hr,List.length_map]
 rw[←hr] at hp hk hlen ⊢
 have ht:∀x:Ab.Obj,bM (bQ S (l,j) x) (l,j)=some x:=fun x=>dN _ _ _ _ hS
 have hA:∀new,atR (dB rs r p new) r p=some new:=fun new=>jZ hp
 have hU:∀a b,dB (dB rs r p a) r p b=dB rs r p b:=fun a b=>jO hp
 refine aA (rs:=[.tmp 4]) Tryz.checked.mixed Tryz.func85 Tryz.ntmps85 rfl rfl rfl rfl rfl ?_
 simp -implicitDefEqProofs (disch:=omega) only[go_sem]
 refine aV (ι:=Nat) Tryz.checked.mixed rfl [0,1,5] (fun i=>[.c (.xp (1+l,j) r p),.c (.d (.i .i64 (k+aP (rows.take i)))),.c (.d (.i .i64 i))])
  (fun i=>[]::bQ S (l,j) (.xf (dB rs r p (lX rows k i)))) (fun i=>i≤xs.length) (fun i=>xs.length-i) 0 ?_ ?_ (Nat.zero_le _) ?_
 ·have z0:k+((aP (rows.take 0):Nat):Int)=k:=by simp[aP]
  rw[z0]
  rfl
 ·rw[ku,kr hp,iQ _ _ hS]
 intro i hi
 simp -implicitDefEqProofs (disch:=omega) only[go_sem,ht,hA,gI,hl]
 with_reducible refine aS (fun hb=> ?_) (fun hb=> ?_)<;>have h:=hb<;>try simp only[wf_preprocess] at h
 ·have hi:i<xs.length:=by omega
  have hir:i<rows.length:=by omega
  obtain⟨x,hx⟩:∃x,x=xs[i]:=⟨_,rfl⟩
  have e1:rows[i]=[.s x.bR,.sl (x.aF.map encS),.i .i64 x.bZ.aX,.s x.bZ.fName,.sl (x.bZ.fArgs.map aj.enc),.sl (x.bX.map bq.enc),.b x.iX,.b x.fO,.i .i64 x.bY.aX,.s x.bY.fName,.sl (x.bY.fArgs.map aj.enc),.sl (x.aT.map bB.enc)]:=by
   simp only[hr,List.getElem_map,←hx]
   simp only[aN.aC,aj.aC,encS,encI,List.cons_append,List.nil_append]
  have hm:=jP hir
  have hle:=mX (rows:=rows) (i:=i+1)
  rw[hm,e1] at hle
  rw[e1] at hm
  simp only[lg,kZ] at hle hm
  have hK:k+((aP (rows.take (i+1)):Nat):Int)=k+((aP (rows.take i):Nat):Int)+1+((aP (x.aF.map encS):Nat):Int)+1+1+((aP (x.bZ.fArgs.map aj.enc):Nat):Int)+((aP (x.bX.map bq.enc):Nat):Int)+1+1+1+1+((aP (x.bY.fArgs.map aj.enc):Nat):Int)+((aP (x.aT.map bB.enc):Nat):Int):=by rw[hm];omega
  have e2:=nR (k:=k) hir
  rw[e1] at e2
  have hC:∀row o,cellAt (iG rows k i row) i o=row[o]? :=fun row o=>jC hir
  have hG:∀row,(iG rows k i row).getD i []=row:=fun row=>kS hir
  simp -implicitDefEqProofs (disch:=omega) only[go_sem,hb,ht,hA,hU,e2,hC,hG,bS,bH,hl,bC,dW]
  (repeat(with_reducible refine And.intro ?_ ?_;focus first|omega|rfl|assumption|exact⟨_,rfl,rfl⟩|(simp;omega)|(simp;done)))
  refine ah (dS (k+((aP (rows.take i):Nat):Int)) (by omega)) ?_
  simp -implicitDefEqProofs (disch:=omega) only[go_sem,hb,ht,hA,hU,e2,hC,hG,bS,bH,hl,bC,dW]
  (repeat(with_reducible refine And.intro ?_ ?_;focus first|omega|rfl|assumption|exact⟨_,rfl,rfl⟩|(simp;omega)|(simp;done)))
  refine bV rfl (fT hS hp hir (by rfl) (fun S' rs' g1 g2=>lC x.aF (k+((aP (rows.take i):Nat):Int)+1) (1+l) j r _ S' rs' g1 g2 (by omega))) ?_
  simp -implicitDefEqProofs (disch:=omega) only[go_sem,hb,ht,hA,hU,e2,hC,hG,bS,bH,hl,bC,dW]
  (repeat(with_reducible refine And.intro ?_ ?_;focus first|omega|rfl|assumption|exact⟨_,rfl,rfl⟩|(simp;omega)|(simp;done)))
  refine ah (dS (k+((aP (rows.take i):Nat):Int)+1+((aP (x.aF.map encS):Nat):Int)+1) (by omega)) ?_
  simp -implicitDefEqProofs (disch:=omega) only[go_sem,hb,ht,hA,hU,e2,hC,hG,bS,bH,hl,bC,dW]
  (repeat(with_reducible refine And.intro ?_ ?_;focus first|omega|rfl|assumption|exact⟨_,rfl,rfl⟩|(simp;omega)|(simp;done)))
  refine bV rfl (fT hS hp hir (by rfl) (fun S' rs' g1 g2=>jc x.bZ.fArgs (k+((aP (rows.take i):Nat):Int)+1+((aP (x.aF.map encS):Nat):Int)+1+1) (1+l) j r _ S' rs' g1 g2 (by omega))) ?_
  simp -implicitDefEqProofs (disch:=omega) only[go_sem,hb,ht,hA,hU,e2,hC,hG,bS,bH,hl,bC,dW]
  (repeat(with_reducible refine And.intro ?_ ?_;focus first|omega|rfl|assumption|exact⟨_,rfl,rfl⟩|(simp;omega)|(simp;done)))
  refine bV rfl (fT hS hp hir (by rfl) (fun S' rs' g1 g2=>Cu x.bX (k+((aP (rows.take i):Nat):Int)+1+((aP (x.aF.map encS):Nat):Int)+1+1+((aP (x.bZ.fArgs.map aj.enc):Nat):Int)) (1+l) j r _ S' rs' g1 g2 (by omega))) ?_
  simp -implicitDefEqProofs (disch:=omega) only[go_sem,hb,ht,hA,hU,e2,hC,hG,bS,bH,hl,bC,dW]
  (repeat(with_reducible refine And.intro ?_ ?_;focus first|omega|rfl|assumption|exact⟨_,rfl,rfl⟩|(simp;omega)|(simp;done)))
  refine ah (dS (k+((aP (rows.take i):Nat):Int)+1+((aP (x.aF.map encS):Nat):Int)+1+1+((aP (x.bZ.fArgs.map aj.enc):Nat):Int)+((aP (x.bX.map bq.enc):Nat):Int)+1+1+1) (by omega)) ?_
  simp -implicitDefEqProofs (disch:=omega) only[go_sem,hb,ht,hA,hU,e2,hC,hG,bS,bH,hl,bC,dW]
  (repeat(with_reducible refine And.intro ?_ ?_;focus first|omega|rfl|assumption|exact⟨_,rfl,rfl⟩|(simp;omega)|(simp;done)))
  refine bV rfl (fT hS hp hir (by rfl) (fun S' rs' g1 g2=>jc x.bY.fArgs (k+((aP (rows.take i):Nat):Int)+1+((aP (x.aF.map encS):Nat):Int)+1+1+((aP (x.bZ.fArgs.map aj.enc):Nat):Int)+((aP (x.bX.map bq.enc):Nat):Int)+1+1+1+1) (1+l) j r _ S' rs' g1 g2 (by omega))) ?_
  simp -implicitDefEqProofs (disch:=omega) only[go_sem,hb,ht,hA,hU,e2,hC,hG,bS,bH,hl,bC,dW]
  (repeat(with_reducible refine And.intro ?_ ?_;focus first|omega|rfl|assumption|exact⟨_,rfl,rfl⟩|(simp;omega)|(simp;done)))
  refine bV rfl (fT hS hp hir (by rfl) (fun S' rs' g1 g2=>Kn x.aT (k+((aP (rows.take i):Nat):Int)+1+((aP (x.aF.map encS):Nat):Int)+1+1+((aP (x.bZ.fArgs.map aj.enc):Nat):Int)+((aP (x.bX.map bq.enc):Nat):Int)+1+1+1+1+((aP (x.bY.fArgs.map aj.enc):Nat):Int)) (1+l) j r _ S' rs' g1 g2 (by omega))) ?_
  simp -implicitDefEqProofs (disch:=omega) only[go_sem,hb,ht,hA,hU,e2,hC,hG,bS,bH,hl,bC,dW]
  (repeat(with_reducible refine And.intro ?_ ?_;focus first|omega|rfl|assumption|exact⟨_,rfl,rfl⟩|(simp;omega)|(simp;done)))
  refine bL (i+1) (by omega) (by rw[hK];rfl) ?_ (by omega)
  have h3:=nS (k:=k) hir
  rw[e1] at h3
  simp only[tN,xW] at h3
  rw[←h3]
  all_goals rfl
 ·simp -implicitDefEqProofs (disch:=omega) only[go_sem,hb]
  have hi:i=xs.length:=by omega
  rw[lY (by omega),List.take_of_length_le (by omega)]
  all_goals (first|rfl|exact⟨rfl,rfl⟩)
end Go.Proofs.YtlmhknhlmicmeaaGreatDoor
namespace Go.Proofs.YtlmhknhlmicmeaaGreatDoor
open Go Go.Ab
set_option maxHeartbeats 4000000 in
theorem MB(xs:List bG):∀(k:Int) (l j r:Nat) (p:List (Nat×Nat)) (S:Store) (rs:List (List (List D))),bM S (l,j)=some (.xf rs)→atR rs r p=some (xs.map bG.enc)→0≤k∧k+aP (xs.map bG.enc)≤4611686018427387904→dh Tryz.prog 131 [.c (.xp (l,j) r p),.c (.d (.i .i64 k))] S (fun res S'=>res=.c (.d (.i .i64 (k+aP (xs.map bG.enc))))∧S'=bQ S (l,j) (.xf (dB rs r p (gQ (xs.map bG.enc) k)))):=by
 intro k l j r p S rs hS hp hk
 have hlen:=oh (f:=bG.enc) (fun x=>by simp only[bG.aC,aj.aC,encS,encI,List.cons_append,List.nil_append,lg,kZ];omega) xs
 obtain⟨rows,hr⟩:∃rows,rows=xs.map bG.enc:=⟨_,rfl⟩
 have hl:rows.length=xs.length:=by rw[hr,List.length_map]
 rw[←hr] at hp hk hlen ⊢
 have ht:∀x:Ab.Obj,bM (bQ S (l,j) x) (l,j)=some x:=fun x=>dN _ _ _ _ hS
 have hA:∀new,atR (dB rs r p new) r p=some new:=fun new=>jZ hp
 have hU:∀a b,dB (dB rs r p a) r p b=dB rs r p b:=fun a b=>jO hp
 refine aA (rs:=[.tmp 4]) Tryz.checked.mixed Tryz.func131 Tryz.ntmps131 rfl rfl rfl rfl rfl ?_
 first|refine W1 ?_|exact Z1
 refine aV (ι:=Nat) Tryz.checked.mixed rfl [0,1,5] (fun i=>[.c (.xp (1+l,j) r p),.c (.d (.i .i64 (k+aP (rows.take i)))),.c (.d (.i .i64 i))])
  (fun i=>[]::bQ S (l,j) (.xf (dB rs r p (lX rows k i)))) (fun i=>i≤xs.length) (fun i=>xs.length-i) 0 ?_ ?_ (Nat.zero_le _) ?_
 ·have z0:k+((aP (rows.take 0):Nat):Int)=k:=by simp[aP]
  rw[z0]
  rfl
 ·rw[ku,kr hp,iQ _ _ hS]
 intro i hi
 simp -implicitDefEqProofs (disch:=omega) only[go_sem,ht,hA,gI,hl]
 with_reducible refine aS (fun hb=> ?_) (fun hb=> ?_)<;>have h:=hb<;>try simp only[wf_preprocess] at h
 ·have hi:i<xs.length:=by omega
  have hir:i<rows.length:=by omega
  obtain⟨x,hx⟩:∃x,x=xs[i]:=⟨_,rfl⟩
  have e1:rows[i]=[.s x.fName,.i .i64 x.fType.aX,.s x.fType.fName,.sl (x.fType.fArgs.map aj.enc)]:=by
   simp only[hr,List.getElem_map,←hx]
   simp only[bG.aC,aj.aC,encS,encI,List.cons_append,List.nil_append]
  have hm:=jP hir
  have hle:=mX (rows:=rows) (i:=i+1)
  rw[hm,e1] at hle
  rw[e1] at hm
  simp only[lg,kZ] at hle hm
  have hK:k+((aP (rows.take (i+1)):Nat):Int)=k+((aP (rows.take i):Nat):Int)+1+1+1+((aP (x.fType.fArgs.map aj.enc):Nat):Int):=by rw[hm];omega
  have e2:=nR (k:=k) hir
  rw[e1] at e2
  have hC:∀row o,cellAt (iG rows k i row) i o=row[o]? :=fun row o=>jC hir
  have hG:∀row,(iG rows k i row).getD i []=row:=fun row=>kS hir
  simp -implicitDefEqProofs (disch:=omega) only[go_sem,hb,ht,hA,hU,e2,hC,hG,bS,bH,hl,bC,dW]
  refine W3 ?_
  refine ah (dS (k+((aP (rows.take i):Nat):Int)) (by omega)) ?_
  simp -implicitDefEqProofs (disch:=omega) only[go_sem,hb,ht,hA,hU,e2,hC,hG,bS,bH,hl,bC,dW]
  (repeat(with_reducible refine And.intro ?_ ?_;focus first|omega|rfl|assumption|exact⟨_,rfl,rfl⟩|(simp;omega)|(simp;done)))
  refine ah (dS (k+((aP (rows.take i):Nat):Int)+1+1) (by omega)) ?_
  simp -implicitDefEqProofs (disch:=omega) only[go_sem,hb,ht,hA,hU,e2,hC,hG,bS,bH,hl,bC,dW]
  (repeat(with_reducible refine And.intro ?_ ?_;focus first|omega|rfl|assumption|exact⟨_,rfl,rfl⟩|(simp;omega)|(simp;done)))
  refine bV rfl (fT hS hp hir (by rfl) (fun S' rs' g1 g2=>jc x.fType.fArgs (k+((aP (rows.take i):Nat):Int)+1+1+1) (1+l) j r _ S' rs' g1 g2 (by omega))) ?_
  simp -implicitDefEqProofs (disch:=omega) only[go_sem,hb,ht,hA,hU,e2,hC,hG,bS,bH,hl,bC,dW]
  refine W3 ?_
  refine bL (i+1) (by omega) (by rw[hK];rfl) ?_ (by omega)
  have h3:=nS (k:=k) hir
  rw[e1] at h3
  simp only[tN,xW] at h3
  rw[←h3]
  all_goals rfl
 ·simp -implicitDefEqProofs (disch:=omega) only[go_sem,hb]
  have hi:i=xs.length:=by omega
  rw[lY (by omega),List.take_of_length_le (by omega)]
  all_goals (first|rfl|exact⟨rfl,rfl⟩)
end Go.Proofs.YtlmhknhlmicmeaaGreatDoor
namespace Go.Proofs.YtlmhknhlmicmeaaGreatDoor
open Go Go.Ab
set_option maxHeartbeats 4000000 in
theorem Gl(xs:List aQ):∀(k:Int) (l j r:Nat) (p:List (Nat×Nat)) (S:Store) (rs:List (List (List D))),bM S (l,j)=some (.xf rs)→atR rs r p=some (xs.map aQ.enc)→0≤k∧k+aP (xs.map aQ.enc)≤4611686018427387904→dh Tryz.prog 86 [.c (.xp (l,j) r p),.c (.d (.i .i64 k))] S (fun res S'=>res=.c (.d (.i .i64 (k+aP (xs.map aQ.enc))))∧S'=bQ S (l,j) (.xf (dB rs r p (gQ (xs.map aQ.enc) k)))):=by
 intro k l j r p S rs hS hp hk
 have hlen:=oh (f:=aQ.enc) (fun x=>by simp only[au.aC,aQ.aC,aj.aC,encS,encI,List.cons_append,List.nil_append,lg,kZ];omega) xs
 obtain⟨rows,hr⟩:∃rows,rows=xs.map aQ.enc:=⟨_,rfl⟩
 have hl:rows.length=xs.length:=by rw[hr,List.length_map]
 rw[←hr] at hp hk hlen ⊢
 have ht:∀x:Ab.Obj,bM (bQ S (l,j) x) (l,j)=some x:=fun x=>dN _ _ _ _ hS
 have hA:∀new,atR (dB rs r p new) r p=some new:=fun new=>jZ hp
 have hU:∀a b,dB (dB rs r p a) r p b=dB rs r p b:=fun a b=>jO hp
 refine aA (rs:=[.tmp 4]) Tryz.checked.mixed Tryz.func86 Tryz.ntmps86 rfl rfl rfl rfl rfl ?_
 simp -implicitDefEqProofs (disch:=omega) only[go_sem]
 refine aV (ι:=Nat) Tryz.checked.mixed rfl [0,1,5] (fun i=>[.c (.xp (1+l,j) r p),.c (.d (.i .i64 (k+aP (rows.take i)))),.c (.d (.i .i64 i))])
  (fun i=>[]::bQ S (l,j) (.xf (dB rs r p (lX rows k i)))) (fun i=>i≤xs.length) (fun i=>xs.length-i) 0 ?_ ?_ (Nat.zero_le _) ?_
 ·have z0:k+((aP (rows.take 0):Nat):Int)=k:=by simp[aP]
  rw[z0]
  rfl
 ·rw[ku,kr hp,iQ _ _ hS]
 intro i hi
 simp -implicitDefEqProofs (disch:=omega) only[go_sem,ht,hA,gI,hl]
 with_reducible refine aS (fun hb=> ?_) (fun hb=> ?_)<;>have h:=hb<;>try simp only[wf_preprocess] at h
 ·have hi:i<xs.length:=by omega
  have hir:i<rows.length:=by omega
  obtain⟨x,hx⟩:∃x,x=xs[i]:=⟨_,rfl⟩
  have e1:rows[i]=[.s x.fName,.sl (x.aF.map encS),.sl (x.bX.map bq.enc),.sl (x.aY.map bG.enc),.i .i64 x.bO.aX,.s x.bO.fName,.sl (x.bO.fArgs.map aj.enc),.i .i64 x.fBody.aX,.s x.fBody.bR,.s x.fBody.fName,.i .i64 x.fBody.fN,.i .i64 x.fBody.fType.aX,.s x.fBody.fType.fName,.sl (x.fBody.fType.fArgs.map aj.enc),.sl (x.fBody.fArgs.map au.enc),.sl (x.fBody.aZ.map aW.enc)]:=by
   simp only[hr,List.getElem_map,←hx]
   simp only[au.aC,aQ.aC,aj.aC,encS,encI,List.cons_append,List.nil_append]
  have hm:=jP hir
  have hle:=mX (rows:=rows) (i:=i+1)
  rw[hm,e1] at hle
  rw[e1] at hm
  simp only[lg,kZ] at hle hm
  have hK:k+((aP (rows.take (i+1)):Nat):Int)=k+((aP (rows.take i):Nat):Int)+1+((aP (x.aF.map encS):Nat):Int)+((aP (x.bX.map bq.enc):Nat):Int)+((aP (x.aY.map bG.enc):Nat):Int)+1+1+((aP (x.bO.fArgs.map aj.enc):Nat):Int)+1+1+1+1+1+1+((aP (x.fBody.fType.fArgs.map aj.enc):Nat):Int)+((aP (x.fBody.fArgs.map au.enc):Nat):Int)+((aP (x.fBody.aZ.map aW.enc):Nat):Int):=by rw[hm];omega
  have e2:=nR (k:=k) hir
  rw[e1] at e2
  have hC:∀row o,cellAt (iG rows k i row) i o=row[o]? :=fun row o=>jC hir
  have hG:∀row,(iG rows k i row).getD i []=row:=fun row=>kS hir
  simp -implicitDefEqProofs (disch:=omega) only[go_sem,hb,ht,hA,hU,e2,hC,hG,bS,bH,hl,bC,dW]
  (repeat(with_reducible refine And.intro ?_ ?_;focus first|omega|rfl|assumption|exact⟨_,rfl,rfl⟩|(simp;omega)|(simp;done)))
  refine ah (dS (k+((aP (rows.take i):Nat):Int)) (by omega)) ?_
  simp -implicitDefEqProofs (disch:=omega) only[go_sem,hb,ht,hA,hU,e2,hC,hG,bS,bH,hl,bC,dW]
  (repeat(with_reducible refine And.intro ?_ ?_;focus first|omega|rfl|assumption|exact⟨_,rfl,rfl⟩|(simp;omega)|(simp;done)))
  refine bV rfl (fT hS hp hir (by rfl) (fun S' rs' g1 g2=>lC x.aF (k+((aP (rows.take i):Nat):Int)+1) (1+l) j r _ S' rs' g1 g2 (by omega))) ?_
  simp -implicitDefEqProofs (disch:=omega) only[go_sem,hb,ht,hA,hU,e2,hC,hG,bS,bH,hl,bC,dW]
  (repeat(with_reducible refine And.intro ?_ ?_;focus first|omega|rfl|assumption|exact⟨_,rfl,rfl⟩|(simp;omega)|(simp;done)))
  refine bV rfl (fT hS hp hir (by rfl) (fun S' rs' g1 g2=>Cu x.bX (k+((aP (rows.take i):Nat):Int)+1+((aP (x.aF.map encS):Nat):Int)) (1+l) j r _ S' rs' g1 g2 (by omega))) ?_
  simp -implicitDefEqProofs (disch:=omega) only[go_sem,hb,ht,hA,hU,e2,hC,hG,bS,bH,hl,bC,dW]
  (repeat(with_reducible refine And.intro ?_ ?_;focus first|omega|rfl|assumption|exact⟨_,rfl,rfl⟩|(simp;omega)|(simp;done)))
  refine bV rfl (fT hS hp hir (by rfl) (fun S' rs' g1 g2=>MB x.aY (k+((aP (rows.take i):Nat):Int)+1+((aP (x.aF.map encS):Nat):Int)+((aP (x.bX.map bq.enc):Nat):Int)) (1+l) j r _ S' rs' g1 g2 (by omega))) ?_
  simp -implicitDefEqProofs (disch:=omega) only[go_sem,hb,ht,hA,hU,e2,hC,hG,bS,bH,hl,bC,dW]
  (repeat(with_reducible refine And.intro ?_ ?_;focus first|omega|rfl|assumption|exact⟨_,rfl,rfl⟩|(simp;omega)|(simp;done)))
  refine ah (dS (k+((aP (rows.take i):Nat):Int)+1+((aP (x.aF.map encS):Nat):Int)+((aP (x.bX.map bq.enc):Nat):Int)+((aP (x.aY.map bG.enc):Nat):Int)+1) (by omega)) ?_
  simp -implicitDefEqProofs (disch:=omega) only[go_sem,hb,ht,hA,hU,e2,hC,hG,bS,bH,hl,bC,dW]
  (repeat(with_reducible refine And.intro ?_ ?_;focus first|omega|rfl|assumption|exact⟨_,rfl,rfl⟩|(simp;omega)|(simp;done)))
  refine bV rfl (fT hS hp hir (by rfl) (fun S' rs' g1 g2=>jc x.bO.fArgs (k+((aP (rows.take i):Nat):Int)+1+((aP (x.aF.map encS):Nat):Int)+((aP (x.bX.map bq.enc):Nat):Int)+((aP (x.aY.map bG.enc):Nat):Int)+1+1) (1+l) j r _ S' rs' g1 g2 (by omega))) ?_
  simp -implicitDefEqProofs (disch:=omega) only[go_sem,hb,ht,hA,hU,e2,hC,hG,bS,bH,hl,bC,dW]
  (repeat(with_reducible refine And.intro ?_ ?_;focus first|omega|rfl|assumption|exact⟨_,rfl,rfl⟩|(simp;omega)|(simp;done)))
  refine ah (dS (k+((aP (rows.take i):Nat):Int)+1+((aP (x.aF.map encS):Nat):Int)+((aP (x.bX.map bq.enc):Nat):Int)+((aP (x.aY.map bG.enc):Nat):Int)+1+1+((aP (x.bO.fArgs.map aj.enc):Nat):Int)+1) (by omega)) ?_
  simp -implicitDefEqProofs (disch:=omega) only[go_sem,hb,ht,hA,hU,e2,hC,hG,bS,bH,hl,bC,dW]
  (repeat(with_reducible refine And.intro ?_ ?_;focus first|omega|rfl|assumption|exact⟨_,rfl,rfl⟩|(simp;omega)|(simp;done)))
  refine ah (dS (k+((aP (rows.take i):Nat):Int)+1+((aP (x.aF.map encS):Nat):Int)+((aP (x.bX.map bq.enc):Nat):Int)+((aP (x.aY.map bG.enc):Nat):Int)+1+1+((aP (x.bO.fArgs.map aj.enc):Nat):Int)+1+1) (by omega)) ?_
  simp -implicitDefEqProofs (disch:=omega) only[go_sem,hb,ht,hA,hU,e2,hC,hG,bS,bH,hl,bC,dW]
  (repeat(with_reducible refine And.intro ?_ ?_;focus first|omega|rfl|assumption|exact⟨_,rfl,rfl⟩|(simp;omega)|(simp;done)))
  refine ah (dS (k+((aP (rows.take i):Nat):Int)+1+((aP (x.aF.map encS):Nat):Int)+((aP (x.bX.map bq.enc):Nat):Int)+((aP (x.aY.map bG.enc):Nat):Int)+1+1+((aP (x.bO.fArgs.map aj.enc):Nat):Int)+1+1+1+1+1) (by omega)) ?_
  simp -implicitDefEqProofs (disch:=omega) only[go_sem,hb,ht,hA,hU,e2,hC,hG,bS,bH,hl,bC,dW]
  (repeat(with_reducible refine And.intro ?_ ?_;focus first|omega|rfl|assumption|exact⟨_,rfl,rfl⟩|(simp;omega)|(simp;done)))
  refine bV rfl (fT hS hp hir (by rfl) (fun S' rs' g1 g2=>jc x.fBody.fType.fArgs (k+((aP (rows.take i):Nat):Int)+1+((aP (x.aF.map encS):Nat):Int)+((aP (x.bX.map bq.enc):Nat):Int)+((aP (x.aY.map bG.enc):Nat):Int)+1+1+((aP (x.bO.fArgs.map aj.enc):Nat):Int)+1+1+1+1+1+1) (1+l) j r _ S' rs' g1 g2 (by omega))) ?_
  simp -implicitDefEqProofs (disch:=omega) only[go_sem,hb,ht,hA,hU,e2,hC,hG,bS,bH,hl,bC,dW]
  (repeat(with_reducible refine And.intro ?_ ?_;focus first|omega|rfl|assumption|exact⟨_,rfl,rfl⟩|(simp;omega)|(simp;done)))
  refine bV rfl (fT hS hp hir (by rfl) (fun S' rs' g1 g2=>zy x.fBody.fArgs (k+((aP (rows.take i):Nat):Int)+1+((aP (x.aF.map encS):Nat):Int)+((aP (x.bX.map bq.enc):Nat):Int)+((aP (x.aY.map bG.enc):Nat):Int)+1+1+((aP (x.bO.fArgs.map aj.enc):Nat):Int)+1+1+1+1+1+1+((aP (x.fBody.fType.fArgs.map aj.enc):Nat):Int)) (1+l) j r _ S' rs' g1 g2 (by omega))) ?_
  simp -implicitDefEqProofs (disch:=omega) only[go_sem,hb,ht,hA,hU,e2,hC,hG,bS,bH,hl,bC,dW]
  (repeat(with_reducible refine And.intro ?_ ?_;focus first|omega|rfl|assumption|exact⟨_,rfl,rfl⟩|(simp;omega)|(simp;done)))
  refine bV rfl (fT hS hp hir (by rfl) (fun S' rs' g1 g2=>Ag x.fBody.aZ (k+((aP (rows.take i):Nat):Int)+1+((aP (x.aF.map encS):Nat):Int)+((aP (x.bX.map bq.enc):Nat):Int)+((aP (x.aY.map bG.enc):Nat):Int)+1+1+((aP (x.bO.fArgs.map aj.enc):Nat):Int)+1+1+1+1+1+1+((aP (x.fBody.fType.fArgs.map aj.enc):Nat):Int)+((aP (x.fBody.fArgs.map au.enc):Nat):Int)) (1+l) j r _ S' rs' g1 g2 (by omega))) ?_
  simp -implicitDefEqProofs (disch:=omega) only[go_sem,hb,ht,hA,hU,e2,hC,hG,bS,bH,hl,bC,dW]
  (repeat(with_reducible refine And.intro ?_ ?_;focus first|omega|rfl|assumption|exact⟨_,rfl,rfl⟩|(simp;omega)|(simp;done)))
  refine bL (i+1) (by omega) (by rw[hK];rfl) ?_ (by omega)
  have h3:=nS (k:=k) hir
  rw[e1] at h3
  simp only[tN,xW] at h3
  rw[←h3]
  all_goals rfl
 ·simp -implicitDefEqProofs (disch:=omega) only[go_sem,hb]
  have hi:i=xs.length:=by omega
  rw[lY (by omega),List.take_of_length_le (by omega)]
  all_goals (first|rfl|exact⟨rfl,rfl⟩)
end Go.Proofs.YtlmhknhlmicmeaaGreatDoor
namespace Go.Proofs.YtlmhknhlmicmeaaGreatDoor
open Go Go.Ab
theorem Ko(x:bg)(k:Int)(l j b:Nat)(S:Store)(rs:List (List (List D)))(hS:bM S (l,j)=some (.xf rs))(h1:atR rs (b+1) []=some (x.dP.map encS))(h2:atR rs (b+2) []=some (x.aO.map bn.enc))(h3:atR rs (b+3) []=some (x.ay.map aL.enc))(h4:atR rs (b+4) []=some (x.aM.map aN.enc))(h5:atR rs (b+5) []=some (x.aU.map aQ.enc))(hk:0≤k∧k+((aP (x.dP.map encS):Nat):Int)+((aP (x.aO.map bn.enc):Nat):Int)+((aP (x.ay.map aL.enc):Nat):Int)+((aP (x.aM.map aN.enc):Nat):Int)+((aP (x.aU.map aQ.enc):Nat):Int)≤4611686018427387904):dh Tryz.prog 16 [.agg [.d (.s x.fName),.xp (l,j) (b+1) [],.xp (l,j) (b+2) [],.xp (l,j) (b+3) [],.xp (l,j) (b+4) [],.xp (l,j) (b+5) []],.c (.d (.i .i64 k))] S (fun res S'=>res=.c (.d (.i .i64 (k+((aP (x.dP.map encS):Nat):Int)+((aP (x.aO.map bn.enc):Nat):Int)+((aP (x.ay.map aL.enc):Nat):Int)+((aP (x.aM.map aN.enc):Nat):Int)+((aP (x.aU.map aQ.enc):Nat):Int))))∧S'=bQ S (l,j) (.xf (dB (dB (dB (dB (dB (rs) (b+1) [] (gQ (x.dP.map encS) (k))) (b+2) [] (gQ (x.aO.map bn.enc) (k+((aP (x.dP.map encS):Nat):Int)))) (b+3) [] (gQ (x.ay.map aL.enc) (k+((aP (x.dP.map encS):Nat):Int)+((aP (x.aO.map bn.enc):Nat):Int)))) (b+4) [] (gQ (x.aM.map aN.enc) (k+((aP (x.dP.map encS):Nat):Int)+((aP (x.aO.map bn.enc):Nat):Int)+((aP (x.ay.map aL.enc):Nat):Int)))) (b+5) [] (gQ (x.aU.map aQ.enc) (k+((aP (x.dP.map encS):Nat):Int)+((aP (x.aO.map bn.enc):Nat):Int)+((aP (x.ay.map aL.enc):Nat):Int)+((aP (x.aM.map aN.enc):Nat):Int)))))):=by
 have ht:∀x:Ab.Obj,bM (bQ S (l,j) x) (l,j)=some x:=fun x=>dN _ _ _ _ hS
 refine aA (rs:=[.tmp 4]) Tryz.checked.mixed Tryz.func16 Tryz.ntmps16 rfl rfl rfl rfl rfl ?_
 first|refine W1 ?_|exact Z1
 refine bV rfl (lC x.dP (k) (1+l) j (b+1) [] _ _ (by rw[oM];first|exact hS|exact ht _) (by first|assumption|(simp(disch:=omega) only[ne_eq,zk];assumption)) (by omega)) ?_
 simp -implicitDefEqProofs (disch:=omega) only[go_sem,bC,sF]
 refine bV rfl (Mx x.aO (k+((aP (x.dP.map encS):Nat):Int)) (1+l) j (b+2) [] _ _ (by rw[oM];first|exact hS|exact ht _) (by first|assumption|(simp(disch:=omega) only[ne_eq,zk];assumption)) (by omega)) ?_
 simp -implicitDefEqProofs (disch:=omega) only[go_sem,bC,sF]
 refine bV rfl (Gi x.ay (k+((aP (x.dP.map encS):Nat):Int)+((aP (x.aO.map bn.enc):Nat):Int)) (1+l) j (b+3) [] _ _ (by rw[oM];first|exact hS|exact ht _) (by first|assumption|(simp(disch:=omega) only[ne_eq,zk];assumption)) (by omega)) ?_
 simp -implicitDefEqProofs (disch:=omega) only[go_sem,bC,sF]
 refine bV rfl (Gj x.aM (k+((aP (x.dP.map encS):Nat):Int)+((aP (x.aO.map bn.enc):Nat):Int)+((aP (x.ay.map aL.enc):Nat):Int)) (1+l) j (b+4) [] _ _ (by rw[oM];first|exact hS|exact ht _) (by first|assumption|(simp(disch:=omega) only[ne_eq,zk];assumption)) (by omega)) ?_
 simp -implicitDefEqProofs (disch:=omega) only[go_sem,bC,sF]
 refine bV rfl (Gl x.aU (k+((aP (x.dP.map encS):Nat):Int)+((aP (x.aO.map bn.enc):Nat):Int)+((aP (x.ay.map aL.enc):Nat):Int)+((aP (x.aM.map aN.enc):Nat):Int)) (1+l) j (b+5) [] _ _ (by rw[oM];first|exact hS|exact ht _) (by first|assumption|(simp(disch:=omega) only[ne_eq,zk];assumption)) (by omega)) ?_
 simp -implicitDefEqProofs (disch:=omega) only[go_sem,bC,sF]
 try exact⟨rfl,rfl⟩
end Go.Proofs.YtlmhknhlmicmeaaGreatDoor
namespace Go.Proofs.YtlmhknhlmicmeaaGreatDoor.fnExactPackageToSExpr
open Go Go.Ab
set_option maxHeartbeats 4000000 in
theorem law(x0:bg)(f0:lU x0.enc):dh Tryz.prog 3 [x0.v] [] (fun r _=>r=.c (.d (.b true))):=by
 have hmx:=Iw x0.enc x0.fQ.2
 rw[bg.cK,bg.dw] at hmx
 simp only[bg.aC,List.cons_append,List.nil_append,lg,kZ] at hmx
 refine aA (rs:=[.tmp 2]) Tryz.checked.mixed Tryz.func3 Tryz.ntmps3 rfl rfl rfl rfl rfl ?_
 first|refine W1 ?_|exact Z1
 refine ah (Pn x0 _ (by omega) (by omega) f0) ?_
 first|refine W2 ?_|exact Z2
 first|refine S0 (fun hb h=>?_) (fun hb h=>?_)|refine S1 fun hb h=>?_|refine S2 fun hb h=>?_|exact S3
 have h0:=eu h
 have c1:=UC x0 (by omega)
 have c2:=fun n=>QY x0 n (by omega)
 have hd:(DX x0).sz≤1048576:=aa9 (by omega)
 obtain⟨X,hX⟩:∃X,X=DX x0:=⟨_,rfl⟩
 rw[←hX] at hd c1
 simp only[←hX] at c2
 have hmd:=Iw X.enc X.fQ.2
 rw[ak.cK,ak.dw] at hmd
 simp only[ak.aC,List.cons_append,List.nil_append,lg,kZ] at hmd
 have c2':∀n,aG Tryz.prog 13 [x0.v] (.agg ((dR X.enc n).map .d)):=fun n=>by
  have:=c2 n
  first|exact this|(rw[iM];exact this)
 have c3:aG Tryz.prog 13 [x0.v] X.v:=by
  have:=aG.less (c2' 0) OE
  rw[ak.qL] at this
  exact this
 refine ah (zq x0 (by omega)) ?_
 first|refine W2 ?_|exact Z2
 refine ah c1 ?_
 first|refine W1 ?_|exact Z1
 refine bV rfl (dh.own (mk:=V.agg) (r:=x0.enc) Ir x0.fQ.1 (fun n=>Mt x0 n (by omega))) ?_
 simp -implicitDefEqProofs (disch:=omega) only[go_sem,bg.aC,List.cons_append,List.nil_append,zX,MO,um]
 refine bV rfl (dh.agr (k:=(0,2)) rfl (mk:=V.agg) (r:=X.enc) Ir X.fQ.1 (fun n=>c2' n)) ?_
 simp -implicitDefEqProofs (disch:=omega) only[go_sem,ak.aC,List.cons_append,List.nil_append,zX,MO,um]
 refine bV rfl (dh.lend (k:=(0,4)) rfl (BM rfl) (BO X X (by omega))) ?_
 simp -implicitDefEqProofs (disch:=omega) only[go_sem,bJ rfl,Bool.not_true]
 refine ah (zq x0 (by omega)) ?_
 first|refine W2 ?_|exact Z2
 refine Vh rfl (DS.refl _) (dh.lend (k:=(0,2)) rfl (BM rfl) (Po x0 x0 (by omega))) ?_
 simp -implicitDefEqProofs (disch:=omega) only[go_sem,bJ rfl,Bool.not_true]
 refine bV rfl (Ko x0 1 0 2 0 _ _ rfl rfl rfl rfl rfl rfl ⟨by omega,by omega⟩) ?_
 simp -implicitDefEqProofs (disch:=omega) only[go_sem,AJ]
 refine bV rfl (dh.lend (k:=(0,4)) rfl (BM rfl) (BO X X (by omega))) ?_
 simp -implicitDefEqProofs (disch:=omega) only[go_sem,bJ rfl,Bool.not_true]
 refine bV rfl (Pw X 1 0 4 0 _ _ rfl rfl ⟨by omega,by omega⟩) ?_
 first|refine W1 ?_|exact Z1
 refine bV rfl (D6 X 1 0 4 0 _ _ rfl rfl ⟨by omega,by omega⟩) ?_
 simp -implicitDefEqProofs (disch:=omega) only[go_sem,AJ,Bool.not_true]
 refine ah (zq x0 (by omega)) ?_
 first|refine W2 ?_|exact Z2
 refine ah c3 ?_
 first|refine W1 ?_|exact Z1
 refine ah (BO X X (by omega)) ?_
 simp -implicitDefEqProofs (disch:=omega) only[go_sem,bJ rfl,Bool.not_true]
 refine bV rfl (D6 X 1 0 4 0 _ _ rfl rfl ⟨by omega,by omega⟩) ?_
 simp -implicitDefEqProofs (disch:=omega) only[go_sem,AJ,Bool.not_true]
end Go.Proofs.YtlmhknhlmicmeaaGreatDoor.fnExactPackageToSExpr
namespace Go.Ab
open Go
theorem MC{H:Type}{enc:TypeId×Value→H}{P:Program}{w:World}{base:Nat}{sp:Nat→Bool}{held:Bool}{fuel n:Nat}{t e:TypeId}{k:IntKind}{cs:List Value}{ns:List Int}{p:List MemPlace}
 (ht:P.underlying t=some (.array n e)) (he:P.underlying e=some (.int k)) (ce:P.cellsOf e=1) (ct:P.cellsOf t=n)
 (h:DataW.trod enc P w base sp held fuel t cs=some (.agg (ns.map fun z=>.lit (.int k z)),p)):cs=ns.map (Value.int k ·):=by
 obtain⟨xs,m,_,ex,hlen,hl,hel⟩:=DataW.trod_array ht h
 rw[ct] at hlen
 have e3:=DataW.agg.inj (Prod.mk.inj ex).1
 have hns:ns.length=n:=by have:=congrArg List.length e3;simpa [hl] using this
 refine List.ext_getElem (by rw[hlen,List.length_map,hns]) fun i h1 h2=> ?_
 have k0:=hel i (by omega)
 rw[ce,Nat.mul_one] at k0
 have hd:(cs.drop i).take 1=[cs[i]]:=by
  rw[List.drop_eq_getElem_cons h1];rfl
 rw[hd,List.getElem?_eq_getElem (by omega)] at k0
 obtain⟨z,a,b,_⟩:=DataW.trod_int he k0
 have e4:(ns.map fun z=>(DataW.lit (Lit.int k z):DataW H))[i]'(by rw[List.length_map];omega)=(xs.map (·.1))[i]'(by rw[List.length_map];omega):=by simp only[e3]
 rw[List.getElem_map,List.getElem_map,b] at e4
 simp only[DataW.lit.injEq,Lit.int.injEq,true_and] at e4
 rw[List.getElem_map,e4]
 simpa using a
theorem WV{P:Program}{w:World}{n:String}{g:Nat}{cs:Array Value}(hg:P.globalNamed n=some g)(h:w.var? P n=some cs):∃t fz,w.heap[g]? =some (.cells cs t fz):=by
 unfold World.var? at h
 rw[hg] at h
 simp only[Option.bind_some] at h
 split at h
 ·rename_i c t fz hh
  cases h
  exact⟨t,fz,hh⟩
 ·cases h
end Go.Ab
namespace Go.Proofs.YtlmhknhlmicmeaaGreatDoor
open Go Go.Ab
theorem Px{W:World}{r:List (String×DataW Unit)}(hr:(r.all fun x=>x.2.handleName?.isNone)=true)
 (h:laidMetH Tryz.prog (("math/bits.deBruijn32tab",Rows.laid_math_bits_deBruijn32tab)::("math/bits.deBruijn64tab",Rows.laid_math_bits_deBruijn64tab)::("internal/strconv.uint64pow10",Rows.laid_internal_strconv_uint64pow10)::r) W):AY W (kG W):=by
 rw[MakeChecks.laidMetH_plain _ _ _ (by
  rw[List.all_cons,List.all_cons,List.all_cons,hr];kernel_rfl)] at h
 obtain⟨ps,⟨_,_,_,_,_,_,_,_,_,_,⟨_,_,_,_,_,_,_,_,_,_,⟨g,t,cs,fuel,p,q,hg,ht,hv,hd,_,_⟩,_⟩,_⟩,_,_⟩:=h
 have hn:Tryz.prog.globalNamed "internal/strconv.uint64pow10" =some 2:=by kernel_rfl
 obtain rfl:=Option.some.inj (hn.symm.trans hg)
 obtain rfl:=Option.some.inj ((show(Tryz.prog.globals[2]?).map (·.type)=some 376 by kernel_rfl).symm.trans ht)
 have hl:(Rows.laid_internal_strconv_uint64pow10:DataW Unit)=.agg (((List.range 20).map fun i=>((10^i:Nat):Int)).map fun z=>.lit (.int .u64 z)):=by kernel_rfl
 rw[hl] at hd
 have e:=MC Tryz.underlying376 Tryz.underlying359 (by kernel_rfl) (by kernel_rfl) hd
 obtain⟨t',fz,hh⟩:=WV hg hv
 intro g' p' hm
 have hm':=List.eq_of_mem_singleton hm
 cases hm'
 refine⟨cs,t',fz,hh,?_,?_⟩
 ·show cs.toList=_
  rw[e,List.map_map];rfl
 ·unfold kG;rw[hh]
  exact Nat.le_refl _
end Go.Proofs.YtlmhknhlmicmeaaGreatDoor
namespace Go.Ab
theorem D7{P:Program}{n:Nat}{t:TypeId}{ds:List D}(h:WT P n t ds):∃m,n=m+1:=by
 cases n with
 |zero=>exact h.elim
 |succ m=>exact⟨m,rfl⟩
theorem AX{P:Program}{n:Nat}{t:TypeId}{ds:List D}(ht:P.underlying t=some .bool)(h:WT P n t ds):∃b,ds=[.b b]:=by
 obtain⟨m,rfl⟩:=D7 h
 simp only[WT,ht] at h;exact h
theorem Py{P:Program}{n:Nat}{t:TypeId}{k:IntKind}{ds:List D}(ht:P.underlying t=some (.int k))(h:WT P n t ds):∃x,ds=[.i k x]∧(Lit.int k x).wf=true:=by
 obtain⟨m,rfl⟩:=D7 h
 simp only[WT,ht] at h;exact h
theorem gL{P:Program}{n:Nat}{t:TypeId}{ds:List D}(ht:P.underlying t=some .string)(h:WT P n t ds):∃l,ds=[.s l]:=by
 obtain⟨m,rfl⟩:=D7 h
 simp only[WT,ht] at h;exact⟨h.choose,h.choose_spec.1⟩
theorem gX{P:Program}{n:Nat}{t e:TypeId}{ds:List D}(ht:P.underlying t=some (.slice e))(h:WT P n t ds):∃es m,m<n∧ds=[.sl es]∧∀x∈es,WT P m e x:=by
 obtain⟨m,rfl⟩:=D7 h
 simp only[WT,ht] at h
 obtain⟨es,h1,_,h2⟩:=h
 exact⟨es,m,by omega,h1,fun x hx=>(h2 x hx).2⟩
theorem lD{P:Program}{n:Nat}{t:TypeId}{fs:Array Field}{ds:List D}(ht:P.underlying t=some (.struct fs))(h:WT P n t ds):∃m,m<n∧vS P (WT P m) fs.toList ds:=by
 obtain⟨m,rfl⟩:=D7 h
 simp only[WT,ht] at h
 exact⟨m,by omega,h⟩
theorem gU{α:Type}{enc:α→List D}:∀{es:List (List D)},(∀x∈es,∃m,x=enc m)→∃ms:List α,es=ms.map enc
 |[],_=>⟨[],rfl⟩
 |e::es,h=>by
  obtain⟨m,hm⟩:=h e (by simp)
  obtain⟨ms,hms⟩:=gU (es:=es) fun x hx=>h x (by simp[hx])
  exact⟨m::ms,by rw[List.map_cons,←hm,←hms]⟩
theorem RB{P:Program}{W:TypeId→List D→Prop}(hW:∀t ds,W t ds→lU ds):∀(fs:List Field) (ds:List D),vS P W fs ds→lU ds
 |[],ds,h=>by
  have h:ds=[]:=h
  rw[h];exact wz
 |f::fs,ds,h=>by
  obtain⟨a,b,rfl,_,h1,h2⟩:=h
  exact je.2 ⟨hW _ _ h1,RB hW fs b h2⟩
theorem Pz{P:Program}:∀(n:Nat) (t:TypeId) (ds:List D),WT P n t ds→lU ds
 |0,t,ds,h=>h.elim
 |n+1,t,ds,h=>by
  simp only[WT] at h
  split at h
  ·obtain⟨b,rfl⟩:=h;exact jh.2 ⟨.b _,wz⟩
  ·obtain⟨b,rfl,_⟩:=h;exact jh.2 ⟨.i _ _,wz⟩
  ·obtain⟨l,rfl,hl⟩:=h;exact jh.2 ⟨.s _ hl,wz⟩
  ·obtain⟨es,rfl,hl,hh⟩:=h
   exact jh.2 ⟨.sl _ hl fun e he d hd=>Pz n _ e (hh e he).2 d hd,wz⟩
  ·exact RB (Pz n) _ _ h
  ·exact h.elim
end Go.Ab
namespace Go.Proofs.YtlmhknhlmicmeaaGreatDoor
open Go Go.Ab
theorem tK:∀(n:Nat) (ds:List D),WT Tryz.prog n 48 ds→∃x:aj,ds=x.enc:=by
 intro n
 induction n using Nat.strongRecOn with
 |_ n ih=>
  intro ds h
  obtain⟨m,hm,h⟩:=lD Tryz.underlying48 h
  simp only[vS] at h
  obtain⟨a0,r0,rfl,l0,h0,a1,r1,rfl,l1,h1,a2,r2,rfl,l2,h2,rfl⟩:=h
  obtain⟨x0,rfl,_⟩:=Py Tryz.underlying3 h0
  obtain⟨x1,rfl⟩:=gL Tryz.underlying9 h1
  obtain⟨es2,m2,hm2,rfl,hs2⟩:=gX Tryz.underlying46 h2
  obtain⟨x2,rfl⟩:=gU (enc:=aj.enc) fun y hy=>ih m2 (by omega) y (hs2 y hy)
  refine⟨aj.mk x0 x1 x2,?_⟩
  rw[aj.aC]
  simp[aj.aX,aj.fName,aj.fArgs]
theorem PD:∀(n:Nat) (ds:List D),WT Tryz.prog n 316 ds→∃x:bq,ds=x.enc:=by
 intro n
 induction n using Nat.strongRecOn with
 |_ n ih=>
  intro ds h
  obtain⟨m,hm,h⟩:=lD Tryz.underlying316 h
  simp only[vS] at h
  obtain⟨a0,r0,rfl,l0,h0,a1,r1,rfl,l1,h1,rfl⟩:=h
  obtain⟨x0,rfl⟩:=gL Tryz.underlying9 h0
  obtain⟨x1,rfl⟩:=tK m a1 h1
  refine⟨bq.mk x0 x1,?_⟩
  rw[bq.aC]
  simp
theorem UD:∀(n:Nat),(∀ds:List D,WT Tryz.prog n 52 ds→∃x:au,ds=x.enc)∧(∀ds:List D,WT Tryz.prog n 220 ds→∃x:aW,ds=x.enc):=by
 intro n
 induction n using Nat.strongRecOn with
 |_ n ih=>
  refine⟨fun ds h=> ?_,fun ds h=> ?_⟩
  ·obtain⟨m,hm,h⟩:=lD Tryz.underlying52 h
   simp only[vS] at h
   obtain⟨a0,r0,rfl,l0,h0,a1,r1,rfl,l1,h1,a2,r2,rfl,l2,h2,a3,r3,rfl,l3,h3,a4,r4,rfl,l4,h4,a5,r5,rfl,l5,h5,a6,r6,rfl,l6,h6,rfl⟩:=h
   obtain⟨x0,rfl,_⟩:=Py Tryz.underlying3 h0
   obtain⟨x1,rfl⟩:=gL Tryz.underlying9 h1
   obtain⟨x2,rfl⟩:=gL Tryz.underlying9 h2
   obtain⟨x3,rfl,_⟩:=Py Tryz.underlying3 h3
   obtain⟨x4,rfl⟩:=tK m a4 h4
   obtain⟨es5,m5,hm5,rfl,hs5⟩:=gX Tryz.underlying49 h5
   obtain⟨x5,rfl⟩:=gU (enc:=au.enc) fun y hy=>(ih m5 (by omega)).1 y (hs5 y hy)
   obtain⟨es6,m6,hm6,rfl,hs6⟩:=gX Tryz.underlying50 h6
   obtain⟨x6,rfl⟩:=gU (enc:=aW.enc) fun y hy=>(ih m6 (by omega)).2 y (hs6 y hy)
   refine⟨au.mk x0 x1 x2 x3 x4 x5 x6,?_⟩
   rw[au.aC]
   simp[au.aX,au.bR,au.fName,au.fN,au.fType,au.fArgs,au.aZ]
  ·obtain⟨m,hm,h⟩:=lD Tryz.underlying220 h
   simp only[vS] at h
   obtain⟨a0,r0,rfl,l0,h0,a1,r1,rfl,l1,h1,a2,r2,rfl,l2,h2,rfl⟩:=h
   obtain⟨x0,rfl⟩:=gL Tryz.underlying9 h0
   obtain⟨es1,m1,hm1,rfl,hs1⟩:=gX Tryz.underlying22 h1
   obtain⟨x1,rfl⟩:=gU (enc:=encS) fun y hy=>gL Tryz.underlying9 (hs1 y hy)
   obtain⟨x2,rfl⟩:=(ih m (by omega)).1 a2 h2
   refine⟨aW.mk x0 x1 x2,?_⟩
   rw[aW.aC]
   simp[aW.dK,aW.aF,aW.fBody]
theorem Kt(n:Nat)(ds:List D)(h:WT Tryz.prog n 52 ds):∃x:au,ds=x.enc:=(UD n).1 ds h
theorem PE:∀(n:Nat) (ds:List D),WT Tryz.prog n 310 ds→∃x:aR,ds=x.enc:=by
 intro n
 induction n using Nat.strongRecOn with
 |_ n ih=>
  intro ds h
  obtain⟨m,hm,h⟩:=lD Tryz.underlying310 h
  simp only[vS] at h
  obtain⟨a0,r0,rfl,l0,h0,a1,r1,rfl,l1,h1,a2,r2,rfl,l2,h2,a3,r3,rfl,l3,h3,a4,r4,rfl,l4,h4,a5,r5,rfl,l5,h5,rfl⟩:=h
  obtain⟨x0,rfl⟩:=gL Tryz.underlying9 h0
  obtain⟨es1,m1,hm1,rfl,hs1⟩:=gX Tryz.underlying46 h1
  obtain⟨x1,rfl⟩:=gU (enc:=aj.enc) fun y hy=>tK m1 y (hs1 y hy)
  obtain⟨x2,rfl⟩:=tK m a2 h2
  obtain⟨x3,rfl⟩:=AX Tryz.underlying4 h3
  obtain⟨es4,m4,hm4,rfl,hs4⟩:=gX Tryz.underlying22 h4
  obtain⟨x4,rfl⟩:=gU (enc:=encS) fun y hy=>gL Tryz.underlying9 (hs4 y hy)
  obtain⟨x5,rfl⟩:=Kt m a5 h5
  refine⟨aR.mk x0 x1 x2 x3 x4 x5,?_⟩
  rw[aR.aC]
  simp
theorem Zq:∀(n:Nat) (ds:List D),WT Tryz.prog n 179 ds→∃x:bn,ds=x.enc:=by
 intro n
 induction n using Nat.strongRecOn with
 |_ n ih=>
  intro ds h
  obtain⟨m,hm,h⟩:=lD Tryz.underlying179 h
  simp only[vS] at h
  obtain⟨a0,r0,rfl,l0,h0,a1,r1,rfl,l1,h1,a2,r2,rfl,l2,h2,a3,r3,rfl,l3,h3,a4,r4,rfl,l4,h4,rfl⟩:=h
  obtain⟨x0,rfl⟩:=gL Tryz.underlying9 h0
  obtain⟨es1,m1,hm1,rfl,hs1⟩:=gX Tryz.underlying22 h1
  obtain⟨x1,rfl⟩:=gU (enc:=encS) fun y hy=>gL Tryz.underlying9 (hs1 y hy)
  obtain⟨x2,rfl⟩:=AX Tryz.underlying4 h2
  obtain⟨x3,rfl⟩:=AX Tryz.underlying4 h3
  obtain⟨es4,m4,hm4,rfl,hs4⟩:=gX Tryz.underlying177 h4
  obtain⟨x4,rfl⟩:=gU (enc:=aR.enc) fun y hy=>PE m4 y (hs4 y hy)
  refine⟨bn.mk x0 x1 x2 x3 x4,?_⟩
  rw[bn.aC]
  simp
theorem Ku:∀(n:Nat) (ds:List D),WT Tryz.prog n 313 ds→∃x:aK,ds=x.enc:=by
 intro n
 induction n using Nat.strongRecOn with
 |_ n ih=>
  intro ds h
  obtain⟨m,hm,h⟩:=lD Tryz.underlying313 h
  simp only[vS] at h
  obtain⟨a0,r0,rfl,l0,h0,a1,r1,rfl,l1,h1,rfl⟩:=h
  obtain⟨x0,rfl⟩:=gL Tryz.underlying9 h0
  obtain⟨es1,m1,hm1,rfl,hs1⟩:=gX Tryz.underlying46 h1
  obtain⟨x1,rfl⟩:=gU (enc:=aj.enc) fun y hy=>tK m1 y (hs1 y hy)
  refine⟨aK.mk x0 x1,?_⟩
  rw[aK.aC]
  simp
theorem Q6:∀(n:Nat) (ds:List D),WT Tryz.prog n 183 ds→∃x:aL,ds=x.enc:=by
 intro n
 induction n using Nat.strongRecOn with
 |_ n ih=>
  intro ds h
  obtain⟨m,hm,h⟩:=lD Tryz.underlying183 h
  simp only[vS] at h
  obtain⟨a0,r0,rfl,l0,h0,a1,r1,rfl,l1,h1,a2,r2,rfl,l2,h2,rfl⟩:=h
  obtain⟨x0,rfl⟩:=gL Tryz.underlying9 h0
  obtain⟨es1,m1,hm1,rfl,hs1⟩:=gX Tryz.underlying22 h1
  obtain⟨x1,rfl⟩:=gU (enc:=encS) fun y hy=>gL Tryz.underlying9 (hs1 y hy)
  obtain⟨es2,m2,hm2,rfl,hs2⟩:=gX Tryz.underlying181 h2
  obtain⟨x2,rfl⟩:=gU (enc:=aK.enc) fun y hy=>Ku m2 y (hs2 y hy)
  refine⟨aL.mk x0 x1 x2,?_⟩
  rw[aL.aC]
  simp
theorem WW:∀(n:Nat) (ds:List D),WT Tryz.prog n 319 ds→∃x:bB,ds=x.enc:=by
 intro n
 induction n using Nat.strongRecOn with
 |_ n ih=>
  intro ds h
  obtain⟨m,hm,h⟩:=lD Tryz.underlying319 h
  simp only[vS] at h
  obtain⟨a0,r0,rfl,l0,h0,a1,r1,rfl,l1,h1,a2,r2,rfl,l2,h2,rfl⟩:=h
  obtain⟨x0,rfl⟩:=gL Tryz.underlying9 h0
  obtain⟨es1,m1,hm1,rfl,hs1⟩:=gX Tryz.underlying22 h1
  obtain⟨x1,rfl⟩:=gU (enc:=encS) fun y hy=>gL Tryz.underlying9 (hs1 y hy)
  obtain⟨x2,rfl⟩:=Kt m a2 h2
  refine⟨bB.mk x0 x1 x2,?_⟩
  rw[bB.aC]
  simp
theorem Q7:∀(n:Nat) (ds:List D),WT Tryz.prog n 188 ds→∃x:aN,ds=x.enc:=by
 intro n
 induction n using Nat.strongRecOn with
 |_ n ih=>
  intro ds h
  obtain⟨m,hm,h⟩:=lD Tryz.underlying188 h
  simp only[vS] at h
  obtain⟨a0,r0,rfl,l0,h0,a1,r1,rfl,l1,h1,a2,r2,rfl,l2,h2,a3,r3,rfl,l3,h3,a4,r4,rfl,l4,h4,a5,r5,rfl,l5,h5,a6,r6,rfl,l6,h6,a7,r7,rfl,l7,h7,rfl⟩:=h
  obtain⟨x0,rfl⟩:=gL Tryz.underlying9 h0
  obtain⟨es1,m1,hm1,rfl,hs1⟩:=gX Tryz.underlying22 h1
  obtain⟨x1,rfl⟩:=gU (enc:=encS) fun y hy=>gL Tryz.underlying9 (hs1 y hy)
  obtain⟨x2,rfl⟩:=tK m a2 h2
  obtain⟨es3,m3,ZM,rfl,hs3⟩:=gX Tryz.underlying185 h3
  obtain⟨x3,rfl⟩:=gU (enc:=bq.enc) fun y hy=>PD m3 y (hs3 y hy)
  obtain⟨x4,rfl⟩:=AX Tryz.underlying4 h4
  obtain⟨x5,rfl⟩:=AX Tryz.underlying4 h5
  obtain⟨x6,rfl⟩:=tK m a6 h6
  obtain⟨es7,m7,hm7,rfl,hs7⟩:=gX Tryz.underlying186 h7
  obtain⟨x7,rfl⟩:=gU (enc:=bB.enc) fun y hy=>WW m7 y (hs7 y hy)
  refine⟨aN.mk x0 x1 x2 x3 x4 x5 x6 x7,?_⟩
  rw[aN.aC]
  simp
theorem Zr:∀(n:Nat) (ds:List D),WT Tryz.prog n 322 ds→∃x:bG,ds=x.enc:=by
 intro n
 induction n using Nat.strongRecOn with
 |_ n ih=>
  intro ds h
  obtain⟨m,hm,h⟩:=lD Tryz.underlying322 h
  simp only[vS] at h
  obtain⟨a0,r0,rfl,l0,h0,a1,r1,rfl,l1,h1,rfl⟩:=h
  obtain⟨x0,rfl⟩:=gL Tryz.underlying9 h0
  obtain⟨x1,rfl⟩:=tK m a1 h1
  refine⟨bG.mk x0 x1,?_⟩
  rw[bG.aC]
  simp
theorem Q8:∀(n:Nat) (ds:List D),WT Tryz.prog n 192 ds→∃x:aQ,ds=x.enc:=by
 intro n
 induction n using Nat.strongRecOn with
 |_ n ih=>
  intro ds h
  obtain⟨m,hm,h⟩:=lD Tryz.underlying192 h
  simp only[vS] at h
  obtain⟨a0,r0,rfl,l0,h0,a1,r1,rfl,l1,h1,a2,r2,rfl,l2,h2,a3,r3,rfl,l3,h3,a4,r4,rfl,l4,h4,a5,r5,rfl,l5,h5,rfl⟩:=h
  obtain⟨x0,rfl⟩:=gL Tryz.underlying9 h0
  obtain⟨es1,m1,hm1,rfl,hs1⟩:=gX Tryz.underlying22 h1
  obtain⟨x1,rfl⟩:=gU (enc:=encS) fun y hy=>gL Tryz.underlying9 (hs1 y hy)
  obtain⟨es2,m2,hm2,rfl,hs2⟩:=gX Tryz.underlying185 h2
  obtain⟨x2,rfl⟩:=gU (enc:=bq.enc) fun y hy=>PD m2 y (hs2 y hy)
  obtain⟨es3,m3,ZM,rfl,hs3⟩:=gX Tryz.underlying190 h3
  obtain⟨x3,rfl⟩:=gU (enc:=bG.enc) fun y hy=>Zr m3 y (hs3 y hy)
  obtain⟨x4,rfl⟩:=tK m a4 h4
  obtain⟨x5,rfl⟩:=Kt m a5 h5
  refine⟨aQ.mk x0 x1 x2 x3 x4 x5,?_⟩
  rw[aQ.aC]
  simp
theorem UE:∀(n:Nat) (ds:List D),WT Tryz.prog n 28 ds→∃x:bg,ds=x.enc:=by
 intro n
 induction n using Nat.strongRecOn with
 |_ n ih=>
  intro ds h
  obtain⟨m,hm,h⟩:=lD Tryz.underlying28 h
  simp only[vS] at h
  obtain⟨a0,r0,rfl,l0,h0,a1,r1,rfl,l1,h1,a2,r2,rfl,l2,h2,a3,r3,rfl,l3,h3,a4,r4,rfl,l4,h4,a5,r5,rfl,l5,h5,rfl⟩:=h
  obtain⟨x0,rfl⟩:=gL Tryz.underlying9 h0
  obtain⟨es1,m1,hm1,rfl,hs1⟩:=gX Tryz.underlying22 h1
  obtain⟨x1,rfl⟩:=gU (enc:=encS) fun y hy=>gL Tryz.underlying9 (hs1 y hy)
  obtain⟨es2,m2,hm2,rfl,hs2⟩:=gX Tryz.underlying23 h2
  obtain⟨x2,rfl⟩:=gU (enc:=bn.enc) fun y hy=>Zq m2 y (hs2 y hy)
  obtain⟨es3,m3,ZM,rfl,hs3⟩:=gX Tryz.underlying24 h3
  obtain⟨x3,rfl⟩:=gU (enc:=aL.enc) fun y hy=>Q6 m3 y (hs3 y hy)
  obtain⟨es4,m4,hm4,rfl,hs4⟩:=gX Tryz.underlying25 h4
  obtain⟨x4,rfl⟩:=gU (enc:=aN.enc) fun y hy=>Q7 m4 y (hs4 y hy)
  obtain⟨es5,m5,hm5,rfl,hs5⟩:=gX Tryz.underlying26 h5
  obtain⟨x5,rfl⟩:=gU (enc:=aQ.enc) fun y hy=>Q8 m5 y (hs5 y hy)
  refine⟨bg.mk x0 x1 x2 x3 x4 x5,?_⟩
  rw[bg.aC]
  simp
end Go.Proofs.YtlmhknhlmicmeaaGreatDoor
