/-
  SEVERAL TEXTS IN ONE (merged by program): contracts and models, each with its own heading.
-/
import Derived.Test.YtlmhknhlmicmeaaGreatDoorPartRmbE
set_option linter.unusedSimpArgs false
set_option linter.unusedVariables false
set_option maxRecDepth 4000
set_option maxRecDepth 8000
namespace Go.Proofs.YtlmhknhlmicmeaaGreatDoor
open Go Go.Ab
set_option maxHeartbeats 8000000 in
theorem OY:∀n:Nat,∀x:au,SizeOf.sizeOf x<n→x.sz≤4194304→aH Tryz.prog 204 [x.v] (.c (.d (.b (fT x)))):=by
 intro n
 induction n with
 |zero=>intro x h;omega
 |succ n ih=>
  intro x hn hsz S
  have hb0:=au.bounds hsz
  have iA:=au.fA x
  have yh:=au.lN x
  have he:=sG x
  have hv0:=JX
  have hop:x.fName∈ops→validName x.fName=false:=ML
  refine(show(oP x→ ?T)→_ from fun tail=> ?main) ?tp
  case' main=>
   rcases GI x.aG with hk|hk|hk|hk|hk|hk|hk|hk|hk|hk|hk|hk|hk
   ·have h1:fT x=false:=by rw[he,aQ (fun h=>by have:=h.1;omega)];rfl
    refine aC (rs:=[.tmp 2]) Tryz.checked.mixed Tryz.func204 Tryz.ntmps204 rfl rfl rfl rfl rfl ?_
    simp -implicitDefEqProofs (disch:=omega) only[go_sem]
    refine ay (JF _) ?_
    simp -implicitDefEqProofs (disch:=omega) only[go_sem]
    refine ay (zm _ _ _) ?_
    simp -implicitDefEqProofs (disch:=omega) only[go_sem]
    with_reducible refine aA (fun hb=> ?_) (fun hb=> ?_)<;>have h:=hb<;>(try simp only[wf_preprocess] at h)<;>simp -implicitDefEqProofs (disch:=omega) only[go_sem,hb]<;>(repeat(with_reducible refine And.intro ?_ ?_;focus first|omega|rfl|assumption|exact⟨_,rfl,rfl⟩|(simp;omega)|(simp;done)))
    ·rw[h1]
    ·omega
   all_goals
    have hf0:¬oP x→V.c (.d (.b false))=V.c (.d (.b (fT x))):=fun h=>aJ (by rw[he,aQ h];rfl)
    refine aC (rs:=[.tmp 2]) Tryz.checked.mixed Tryz.func204 Tryz.ntmps204 rfl rfl rfl rfl rfl ?_
    simp -implicitDefEqProofs (disch:=omega) only[go_sem,hk]
    refine ay (JF _) ?_
    simp -implicitDefEqProofs (disch:=omega) only[go_sem,hk,Sz,SA,SB,SC,SE,SF,or_false,or_true,true_or,false_or]
    refine ay (zm _ _ _) ?_
    simp -implicitDefEqProofs (disch:=omega) only[go_sem,hk]
    repeat' (first
     |with_reducible refine aA (fun hb=> ?_) (fun hb=> ?_)<;>have h:=hb<;>(try simp only[wf_preprocess] at h)<;>simp -implicitDefEqProofs (disch:=omega) only[go_sem,hb,hk]<;>(repeat(with_reducible refine And.intro ?_ ?_;focus first|omega|rfl|assumption|exact⟨_,rfl,rfl⟩|(simp;omega)|(simp;done)))
     |((with_reducible show fO _ _ 152 _ _ _ _);refine ay (iZ x.fName (by omega)) ?_;simp -implicitDefEqProofs (disch:=omega) only[go_sem,hk])
     |((with_reducible show fO _ _ 152 _ _ _ _);refine ay (iZ x.aY (by omega)) ?_;simp -implicitDefEqProofs (disch:=omega) only[go_sem,hk])
     |((with_reducible show fO _ _ 279 _ _ _ _);refine ay (SH x.fName) ?_;simp -implicitDefEqProofs (disch:=omega) only[go_sem,hk])
     |((with_reducible show fO _ _ 254 _ _ _ _);refine ay (SG x.fType) ?_;simp -implicitDefEqProofs (disch:=omega) only[go_sem,hk])
     |((with_reducible show fO _ _ 280 _ _ _ _);refine ay (rJ x.fType (by omega)) ?_;simp -implicitDefEqProofs (disch:=omega) only[go_sem,hk])
     |((with_reducible show fO _ _ 245 _ _ _ _);refine ay (zm x.fN _ _) ?_;simp -implicitDefEqProofs (disch:=omega) only[go_sem,hk])
     |(refine hf0 fun hF=> ?_;simp only[oP,hk,or_false,or_true,true_or,false_or,and_true,true_and,if_true,if_false,↓reduceIte,Int.reduceEq,Int.reduceLT,Int.reduceLE] at hF;grind [iB,lW,bR,aQ]))
   all_goals
    have hF:oP x:=by simp only[oP,hk,or_false,or_true,true_or,false_or,and_true,true_and,if_true,if_false,↓reduceIte,Int.reduceEq,Int.reduceLT,Int.reduceLE];grind [iB,lW,bR,aQ]
    refine Ev (st':=[.box (x.enc.map .d)]::S) [1,9] [.c (.ptr (0,0) 0),.c (.d (.i .i64 0))] rfl (by simp -implicitDefEqProofs (disch:=omega) only[go_sem,hk]) ?_
    exact tail hF
  intro hF
  rw[bR hF,Bool.true_and] at he
  clear hF hop hv0
  refine aV (ι:=Nat) Tryz.checked.mixed rfl [1,9] (fun i=>[.c (.ptr (0,0) 0),.c (.d (.i .i64 i))]) (fun _=>[.box (x.enc.map .d)]::S)
   (fun i=>i≤x.fArgs.length∧iI (x.fArgs.drop i)=iI x.fArgs) (fun i=>x.fArgs.length-i) 0 rfl ?_ ⟨Nat.zero_le _,rfl⟩ ?_
  ·simp -implicitDefEqProofs (disch:=omega) only[go_sem]
  rintro i ⟨p1,p2⟩
  simp -implicitDefEqProofs (disch:=omega) only[go_sem]
  with_reducible refine aA (fun hb=> ?_) (fun hb=> ?_)<;>have h:=hb<;>(try simp only[wf_preprocess] at h)<;>simp -implicitDefEqProofs (disch:=omega) only[go_sem,hb]<;>(repeat(with_reducible refine And.intro ?_ ?_;focus first|omega|rfl|assumption|exact⟨_,rfl,rfl⟩|(simp;omega)|(simp;done)))
  ·have hi:i<x.fArgs.length:=by omega
   have hs:=List.sizeOf_lt_of_mem (List.getElem_mem hi)
   rw[MK hi] at p2
   (repeat(with_reducible refine And.intro ?_ ?_;focus first|omega|rfl|assumption|exact⟨_,rfl,rfl⟩|(simp;omega)|(simp;done)))
   refine ay (ih x.fArgs[i] (by omega) (au.arg_b hi hsz)) ?_
   simp -implicitDefEqProofs (disch:=omega) only[go_sem]<;>(repeat(with_reducible refine And.intro ?_ ?_;focus first|omega|rfl|assumption|exact⟨_,rfl,rfl⟩|(simp;omega)|(simp;done)))
   with_reducible refine aA (fun hb=> ?_) (fun hb=> ?_)<;>have h:=hb<;>(try simp only[wf_preprocess] at h)<;>simp -implicitDefEqProofs (disch:=omega) only[go_sem,hb]<;>(repeat(with_reducible refine And.intro ?_ ?_;focus first|omega|rfl|assumption|exact⟨_,rfl,rfl⟩|(simp;omega)|(simp;done)))
   ·exact aJ (by rw[he,←p2,h];rfl)
   ·exact bH (i+1) (by omega) rfl rfl ⟨by omega,by rw[←p2,h];rfl⟩
  rw[List.drop_of_length_le (by omega)] at p2
  have q:iI x.fArgs=true:=p2.symm
  clear p2 p1
  refine aV (ι:=Nat) Tryz.checked.mixed rfl [1,10] (fun i=>[.c (.ptr (0,0) 0),.c (.d (.i .i64 i))]) (fun _=>[.box (x.enc.map .d)]::S)
   (fun i=>i≤x.aI.length∧kN (x.aI.drop i)=kN x.aI) (fun i=>x.aI.length-i) 0 rfl ?_ ⟨Nat.zero_le _,rfl⟩ ?_
  ·simp -implicitDefEqProofs (disch:=omega) only[go_sem]
  rintro i ⟨p1,p2⟩
  simp -implicitDefEqProofs (disch:=omega) only[go_sem]
  with_reducible refine aA (fun hb=> ?_) (fun hb=> ?_)<;>have h:=hb<;>(try simp only[wf_preprocess] at h)<;>simp -implicitDefEqProofs (disch:=omega) only[go_sem,hb]<;>(repeat(with_reducible refine And.intro ?_ ?_;focus first|omega|rfl|assumption|exact⟨_,rfl,rfl⟩|(simp;omega)|(simp;done)))
  ·have hi:i<x.aI.length:=by omega
   have hs:=List.sizeOf_lt_of_mem (List.getElem_mem hi)
   have hs':=aF.kS x.aI[i]
   have hab:=aF.bounds (au.KE hi hsz)
   rw[OC hi] at p2
   have no:qI x.aI[i]=false→V.c (.d (.b false))=V.c (.d (.b (fT x))):=fun h=>aJ (by rw[he,←p2,h];simp)
   (repeat(with_reducible refine And.intro ?_ ?_;focus first|omega|rfl|assumption|exact⟨_,rfl,rfl⟩|(simp;omega)|(simp;done)))
   refine ay (iZ x.aI[i].bL (by omega)) ?_
   simp -implicitDefEqProofs (disch:=omega) only[go_sem]<;>(repeat(with_reducible refine And.intro ?_ ?_;focus first|omega|rfl|assumption|exact⟨_,rfl,rfl⟩|(simp;omega)|(simp;done)))
   with_reducible refine aA (fun hb=> ?_) (fun hb=> ?_)<;>have h:=hb<;>(try simp only[wf_preprocess] at h)<;>simp -implicitDefEqProofs (disch:=omega) only[go_sem,hb]<;>(repeat(with_reducible refine And.intro ?_ ?_;focus first|omega|rfl|assumption|exact⟨_,rfl,rfl⟩|(simp;omega)|(simp;done)))
   ·exact no (by rw[ng,h];rfl)
   have k1:=h
   (repeat(with_reducible refine And.intro ?_ ?_;focus first|omega|rfl|assumption|exact⟨_,rfl,rfl⟩|(simp;omega)|(simp;done)))
   refine ay (Ga x.aI[i].aK (by omega) hab.2.2.1) ?_
   simp -implicitDefEqProofs (disch:=omega) only[go_sem]<;>(repeat(with_reducible refine And.intro ?_ ?_;focus first|omega|rfl|assumption|exact⟨_,rfl,rfl⟩|(simp;omega)|(simp;done)))
   with_reducible refine aA (fun hb=> ?_) (fun hb=> ?_)<;>have h:=hb<;>(try simp only[wf_preprocess] at h)<;>simp -implicitDefEqProofs (disch:=omega) only[go_sem,hb]<;>(repeat(with_reducible refine And.intro ?_ ?_;focus first|omega|rfl|assumption|exact⟨_,rfl,rfl⟩|(simp;omega)|(simp;done)))
   ·exact no (by rw[ng];unfold jW;rw[h];simp)
   have k2:=h
   (repeat(with_reducible refine And.intro ?_ ?_;focus first|omega|rfl|assumption|exact⟨_,rfl,rfl⟩|(simp;omega)|(simp;done)))
   refine ay (yx x.aI[i].aK (by omega)) ?_
   simp -implicitDefEqProofs (disch:=omega) only[go_sem]<;>(repeat(with_reducible refine And.intro ?_ ?_;focus first|omega|rfl|assumption|exact⟨_,rfl,rfl⟩|(simp;omega)|(simp;done)))
   with_reducible refine aA (fun hb=> ?_) (fun hb=> ?_)<;>have h:=hb<;>(try simp only[wf_preprocess] at h)<;>simp -implicitDefEqProofs (disch:=omega) only[go_sem,hb]<;>(repeat(with_reducible refine And.intro ?_ ?_;focus first|omega|rfl|assumption|exact⟨_,rfl,rfl⟩|(simp;omega)|(simp;done)))
   ·exact no (by rw[ng];unfold jW;rw[aQ h];simp)
   have k3:=h
   (repeat(with_reducible refine And.intro ?_ ?_;focus first|omega|rfl|assumption|exact⟨_,rfl,rfl⟩|(simp;omega)|(simp;done)))
   refine ay (ih x.aI[i].fBody (by omega) hab.2.2.2) ?_
   simp -implicitDefEqProofs (disch:=omega) only[go_sem]<;>(repeat(with_reducible refine And.intro ?_ ?_;focus first|omega|rfl|assumption|exact⟨_,rfl,rfl⟩|(simp;omega)|(simp;done)))
   with_reducible refine aA (fun hb=> ?_) (fun hb=> ?_)<;>have h:=hb<;>(try simp only[wf_preprocess] at h)<;>simp -implicitDefEqProofs (disch:=omega) only[go_sem,hb]<;>(repeat(with_reducible refine And.intro ?_ ?_;focus first|omega|rfl|assumption|exact⟨_,rfl,rfl⟩|(simp;omega)|(simp;done)))
   ·exact no (by rw[ng,h];simp)
   ·exact dV 1 (by decide) (i+1) (by omega) rfl rfl rfl rfl ⟨by omega,by rw[←p2,ng,k1,h];unfold jW;rw[k2,bR k3];rfl⟩
  ·rw[List.drop_of_length_le (by omega)] at p2
   exact aJ (by rw[he,q,←p2];rfl)
theorem EI(x:au)(hsz:x.sz≤4194304):aH Tryz.prog 106 [x.v] (.c (.d (.b (mP x)))):=fun S=>by
 have hs:=XZ (l:=300) (c:=x.cnt) (by omega)
 refine aC (rs:=[.tmp 2]) Tryz.checked.mixed Tryz.func106 Tryz.ntmps106 rfl rfl rfl rfl rfl ?_
 simp -implicitDefEqProofs (disch:=omega) only[go_sem]
 refine ay (D9 _ x (Nat.lt_succ_self _) hsz 300 (by omega) (by omega)) ?_
 simp -implicitDefEqProofs (disch:=omega) only[go_sem]<;>(repeat(with_reducible refine And.intro ?_ ?_;focus first|omega|rfl|assumption|exact⟨_,rfl,rfl⟩|(simp;omega)|(simp;done)))
 rw[hs]
 with_reducible refine aA (fun hb=> ?_) (fun hb=> ?_)<;>have h:=hb<;>(try simp only[wf_preprocess] at h)<;>simp -implicitDefEqProofs (disch:=omega) only[go_sem,hb]<;>(repeat(with_reducible refine And.intro ?_ ?_;focus first|omega|rfl|assumption|exact⟨_,rfl,rfl⟩|(simp;omega)|(simp;done)))
 ·refine ay (OY _ x (Nat.lt_succ_self _) hsz) ?_
  simp -implicitDefEqProofs (disch:=omega) only[go_sem]<;>(repeat(with_reducible refine And.intro ?_ ?_;focus first|omega|rfl|assumption|exact⟨_,rfl,rfl⟩|(simp;omega)|(simp;done)))
  exact aJ (by unfold mP;rw[bR (by omega)];rfl)
 ·exact aJ (by unfold mP;rw[aQ (by omega)];rfl)
end Go.Proofs.YtlmhknhlmicmeaaGreatDoor
namespace Go.Ab
theorem Nk{x:au}(h:mP x=true):fT x=true:=by rw[mP,Bool.and_eq_true] at h;exact h.2
end Go.Ab
namespace Go.Proofs.YtlmhknhlmicmeaaGreatDoor
open Go Go.Ab
end Go.Proofs.YtlmhknhlmicmeaaGreatDoor
namespace Go.Ab
abbrev au.cv (x:au):List C:=[.d (.i .i64 x.aG),.d (.s x.aY),.d (.s x.fName),.d (.i .i64 x.fN),.d (.i .i64 x.fType.aG),.d (.s x.fType.fName),.d (.sl (x.fType.fArgs.map aj.enc)),.d (.sl (x.fArgs.map au.enc)),.d (.sl (x.aI.map aF.enc))]
abbrev au.cl (x:au) (n:Nat):List C:=[.d (.i .i64 x.aG),.d (.s x.aY),.d (.s x.fName),.d (.i .i64 x.fN),.d (.i .i64 x.fType.aG),.d (.s x.fType.fName),.d (.ol n (lt x.fType.fArgs (n+1))),
 .d (.ol (n+(fD x.fType.fArgs+1)) (lE x.fArgs (n+(fD x.fType.fArgs+1)+1))),.d (.ol (n+(fD x.fType.fArgs+1)+(jN x.fArgs+1)) (lM x.aI (n+(fD x.fType.fArgs+1)+(jN x.fArgs+1)+1)))]
abbrev agp:List C:=[.d (.i .i64 0),.d (.s []),.d (.s []),.d (.i .i64 0),.d (.i .i64 0),.d (.s []),.aL [],.aL [],.aL []]
end Go.Ab
namespace Go.Proofs.YtlmhknhlmicmeaaGreatDoor
open Go Go.Ab
end Go.Proofs.YtlmhknhlmicmeaaGreatDoor
namespace Go.Ab
noncomputable def vS(k:Int)(n:List UInt8)(bound out:List (List UInt8)):List (List UInt8):=if k=3∧n∉bound∧n∉out then out++[n] else out
mutual
noncomputable def gU:au→List (List UInt8)→List (List UInt8)→List (List UInt8)
 | .mk k _ n _ _ a b,bound,out=>qJ b bound (nE a k n 0 bound (vS k n bound out))
noncomputable def nE:List au→Int→List UInt8→Nat→List (List UInt8)→List (List UInt8)→List (List UInt8)
 |[],_,_,_,_,out=>out
 |x::xs,k,n,i,bound,out=>nE xs k n (i+1) bound (gU x (if k=8∧i=1 then bound++[n] else bound) out)
noncomputable def qJ:List aF→List (List UInt8)→List (List UInt8)→List (List UInt8)
 |[],_,out=>out
 |x::xs,bound,out=>qJ xs bound (Az x bound out)
noncomputable def Az:aF→List (List UInt8)→List (List UInt8)→List (List UInt8)
 | .mk _ v b,bound,out=>gU b (bound++v) out
end
theorem Nl(x:au)(bound out:List (List UInt8)):gU x bound out=qJ x.aI bound (nE x.fArgs x.aG x.fName 0 bound (vS x.aG x.fName bound out)):=by cases x;rw[gU];rfl
theorem Nn(x:aF)(bound out:List (List UInt8)):Az x bound out=gU x.fBody (bound++x.aK) out:=by cases x;rw[Az];rfl
theorem GK{xs:List au}{k:Int}{n:List UInt8}{i:Nat}{bound out:List (List UInt8)}(hi:i<xs.length):nE (xs.drop i) k n i bound out=nE (xs.drop (i+1)) k n (i+1) bound (gU xs[i] (if k=8∧i=1 then bound++[n] else bound) out):=by
 rw[List.drop_eq_getElem_cons hi,nE]
theorem GL{xs:List aF}{i:Nat}{bound out:List (List UInt8)}(hi:i<xs.length):qJ (xs.drop i) bound out=qJ (xs.drop (i+1)) bound (Az xs[i] bound out):=by
 rw[List.drop_eq_getElem_cons hi,qJ]
theorem EJ(k:Int)(n:List UInt8)(bound out:List (List UInt8)):(vS k n bound out).length≤out.length+1:=by
 unfold vS;split<;>simp
mutual
theorem qD:∀(x:au) (bound out:List (List UInt8)),(gU x bound out).length≤out.length+x.cnt
 | .mk k t n m ty a b,bound,out=>by
   have h1:=EJ k n bound out
   have h2:=JG a k n 0 bound (vS k n bound out)
   have h3:=JH b bound (nE a k n 0 bound (vS k n bound out))
   rw[gU,au.cnt];omega
theorem JG:∀(xs:List au) (k:Int) (n:List UInt8) (i:Nat) (bound out:List (List UInt8)),(nE xs k n i bound out).length≤out.length+au.cu xs
 |[],k,n,i,bound,out=>by rw[nE,au.cu];omega
 |x::xs,k,n,i,bound,out=>by
  have h1:=qD x (if k=8∧i=1 then bound++[n] else bound) out
  have h2:=JG xs k n (i+1) bound (gU x (if k=8∧i=1 then bound++[n] else bound) out)
  rw[nE,au.cu];omega
theorem JH:∀(xs:List aF) (bound out:List (List UInt8)),(qJ xs bound out).length≤out.length+aF.cu xs
 |[],bound,out=>by rw[qJ,aF.cu];omega
 |x::xs,bound,out=>by
  have h1:=Vv x bound out
  have h2:=JH xs bound (Az x bound out)
  rw[qJ,aF.cu];omega
theorem Vv:∀(x:aF) (bound out:List (List UInt8)),(Az x bound out).length≤out.length+x.cnt
 | .mk c v b,bound,out=>by
   have h1:=qD b (bound++v) out
   rw[Az,aF.cnt];omega
end
theorem au.qw{x:au}{i:Nat}(hi:i<x.fArgs.length):x.fArgs[i].sz+x.fArgs.length≤x.sz:=by
 have hx:x.fArgs[i].sz≤bG (x.fArgs.map au.enc):=dY (List.mem_map_of_mem (List.getElem_mem hi))
 have:=au.xD x
 omega
theorem au.Vw{x:au}{i:Nat}(hi:i<x.aI.length):x.aI[i].sz+x.aI.length≤x.sz:=by
 have hx:x.aI[i].sz≤bG (x.aI.map aF.enc):=dY (List.mem_map_of_mem (List.getElem_mem hi))
 have:=au.xD x
 omega
theorem aF.PY(x:aF):x.aK.length+x.fBody.sz≤x.sz:=by
 simp only[aF.sz,aF.aD,au.sz,bM,bN,D.sz,List.length_map]
 omega
theorem Dc(xs:List (List UInt8))(s:List UInt8):xs.map encS++[[D.s s]]=(xs++[s]).map encS:=by simp[encS]
end Go.Ab
namespace Go.Proofs.YtlmhknhlmicmeaaGreatDoor
open Go Go.Ab
set_option maxHeartbeats 2000000 in
theorem Cw:∀N:Nat,∀x:au,SizeOf.sizeOf x<N→x.sz≤4194304→∀(bound out:List (List UInt8)) (l j:Nat) (S:Store),aR S (l,j)=some (.tok 1 (out.map encS))→out.length+x.cnt≤1073741824→bound.length+x.sz≤1073741824→
 bA Tryz.prog 338 [.c (.bK (l,j) (out.map encS)),x.v,.c (.d (.sl (bound.map encS)))] S (fun r S'=>r=.c (.bK (l,j) ((gU x bound out).map encS))∧S'=aW S (l,j) (.tok 1 ((gU x bound out).map encS)))
 |0=>fun x h=>by omega
 |N+1=>by
  have ih:=Cw N
  intro x hn hsz bound out l j S hk hc hbd
  have hb0:=au.xD x
  have iA:=au.fA x
  have yh:=au.lN x
  have hcn:=au.lq x
  have F5:∀y:Ab.Obj,aR (aW S (l,j) y) (l,j)=some y:=fun y=>bS _ _ _ _ hk
  have hS0:aW S (l,j) (.tok 1 (out.map encS))=S:=kE _ _ hk
  have fin:=Nl x bound out
  have hal:=EJ x.aG x.fName bound out
  obtain⟨o1,ho1⟩:∃o1,vS x.aG x.fName bound out=o1:=⟨_,rfl⟩
  rw[ho1] at fin hal
  refine(show Hold ?T→_ from fun tail=> ?main) ?tp
  case' main=>
   refine aC (rs:=[.tmp 6]) Tryz.checked.mixed Tryz.func338 Tryz.ntmps338 rfl rfl rfl rfl rfl ?_
   simp -implicitDefEqProofs (disch:=omega) only[go_sem,hk]
   repeat' (first
    |(with_reducible refine aA (fun hb=> ?_) (fun hb=> ?_)<;>have h:=hb<;>(try simp only[wf_preprocess] at h)<;>simp -implicitDefEqProofs (disch:=omega) only[go_sem,hb,hk]<;>(repeat(with_reducible refine And.intro ?_ ?_;focus first|omega|rfl|assumption|exact⟨_,rfl,rfl⟩|(simp;omega)|(simp;done))))
    |(refine ay (qp bound x.fName (by omega)) ?_;simp -implicitDefEqProofs (disch:=omega) only[go_sem,hk];(repeat(with_reducible refine And.intro ?_ ?_;focus first|omega|rfl|assumption|exact⟨_,rfl,rfl⟩|(simp;omega)|(simp;done))))
    |(refine ay (qp out x.fName (by omega)) ?_;simp -implicitDefEqProofs (disch:=omega) only[go_sem,hk];(repeat(with_reducible refine And.intro ?_ ?_;focus first|omega|rfl|assumption|exact⟨_,rfl,rfl⟩|(simp;omega)|(simp;done)))))
   all_goals first
    |(have ha:vS x.aG x.fName bound out=out++[x.fName]:=if_pos ⟨by assumption,by assumption,by assumption⟩)
    |(have ha:vS x.aG x.fName bound out=out:=if_neg (fun y=>by have:=y.1;have:=y.2.1;have:=y.2.2;contradiction))
   all_goals
    refine Ev (st':=[.box (x.enc.map .d)]::aW S (l,j) (.tok 1 (o1.map encS))) [0,2,4,34,35,36] [.c (.bK (1+l,j) (o1.map encS)),.c (.d (.sl (bound.map encS))),.c (.ptr (0,0) 0),.c (.d (.sl (x.fArgs.map au.enc))),.c (.d (.i .i64 x.fArgs.length)),.c (.d (.i .i64 0))] ?_ ?_ ?_
    ·first|(rw[←ho1,ha];rfl)|(rw[←ho1,ha,←Dc];rfl)
    ·first|(rw[←ho1,ha,hS0];simp -implicitDefEqProofs (disch:=omega) only[go_sem];done)|(rw[←ho1,ha,←Dc];simp -implicitDefEqProofs (disch:=omega) only[go_sem];done)
    ·exact tail.out
  refine⟨?_⟩
  clear ho1
  refine aV (ι:=Nat×List (List UInt8)) Tryz.checked.mixed rfl [0,2,4,34,35,36] (fun y=>[.c (.bK (1+l,j) (y.2.map encS)),.c (.d (.sl (bound.map encS))),.c (.ptr (0,0) 0),.c (.d (.sl (x.fArgs.map au.enc))),.c (.d (.i .i64 x.fArgs.length)),.c (.d (.i .i64 y.1))]) (fun y=>[.box (x.enc.map .d)]::aW S (l,j) (.tok 1 (y.2.map encS)))
   (fun y=>y.1≤x.fArgs.length∧y.2.length+au.cu (x.fArgs.drop y.1)+aF.cu x.aI≤1073741824∧nE (x.fArgs.drop y.1) x.aG x.fName y.1 bound y.2=nE x.fArgs x.aG x.fName 0 bound o1) (fun y=>x.fArgs.length-y.1) (0,o1) rfl rfl ⟨Nat.zero_le _,by simp only[List.drop_zero];omega,rfl⟩ ?_
  rintro⟨i,o⟩ ⟨p1,p2,p3⟩
  have refs:∀{a b},lg 1 (iq [0,2,4,34,35,36] [.c (.bK (1+l,j) a),.c (.d (.sl (bound.map encS))),.c (.ptr (0,0) 0),.c (.d (.sl (x.fArgs.map au.enc))),.c (.d (.i .i64 x.fArgs.length)),.c (.d (.i .i64 b))])=true:=fun {a b}=>by simp[lg,iq,V.refs,C.refs,mh];omega
  simp only at p1 p2 p3
  simp -implicitDefEqProofs (disch:=omega) only[go_sem]
  with_reducible refine aA (fun hb=> ?_) (fun hb=> ?_)<;>have h:=hb<;>(try simp only[wf_preprocess] at h)<;>simp -implicitDefEqProofs (disch:=omega) only[go_sem,hb]<;>(repeat(with_reducible refine And.intro ?_ ?_;focus first|omega|rfl|assumption|exact⟨_,rfl,rfl⟩|(simp;omega)|(simp;done)))
  ·have hi:i<x.fArgs.length:=by omega
   have hs:=List.sizeOf_lt_of_mem (List.getElem_mem hi)
   have hz:=au.qw hi
   rw[GK hi] at p3
   rw[au.jh hi] at p2
   have hlo:=qD x.fArgs[i] (if x.aG=8∧i=1 then bound++[x.fName] else bound) o
   (repeat(with_reducible refine And.intro ?_ ?_;focus first|omega|rfl|assumption|exact⟨_,rfl,rfl⟩|(simp;omega)|(simp;done)))
   have two:x.fArgs[i].sz+(bound.length+1)≤1073741824:=by omega
   repeat' (first|with_reducible refine aA (fun hb=> ?_) (fun hb=> ?_)<;>have h:=hb<;>(try simp only[wf_preprocess] at h)<;>simp -implicitDefEqProofs (disch:=omega) only[go_sem,hb]<;>(repeat(with_reducible refine And.intro ?_ ?_;focus first|omega|rfl|assumption|exact⟨_,rfl,rfl⟩|(simp;omega)|(simp;done))))
   ·
    have e1:x.aG=8∧i=1:=⟨by omega,by omega⟩
    rw[if_pos e1] at p3 hlo
    refine TL rfl DS.push (Vr bound (by omega) _ _) ?_
    simp -implicitDefEqProofs (disch:=omega) only[go_sem]
    (repeat(with_reducible refine And.intro ?_ ?_;focus first|omega|rfl|assumption|exact⟨_,rfl,rfl⟩|(simp;omega)|(simp;done)))
    rw[Dc]
    refine zi [true,true,false] rfl (ih x.fArgs[i] (by omega) (by omega) (bound++[x.fName]) o (1+l) j _ (by simp -implicitDefEqProofs (disch:=omega) only[go_sem];exact F5 _) (by omega) (by simp only[List.length_append,List.length_cons,List.length_nil];omega)) ?_
    simp -implicitDefEqProofs (disch:=omega) only[go_sem,bD]
    exact dV 1 (by decide) (i+1,gU x.fArgs[i] (bound++[x.fName]) o) (by simp only;omega) rfl rfl refs rfl ⟨by simp only;omega,by simp only;omega,p3⟩
   all_goals
    have e1:¬(x.aG=8∧i=1):=fun h=>by omega
    rw[if_neg e1] at p3 hlo
    refine bf rfl (ih x.fArgs[i] (by omega) (by omega) bound o (1+l) j _ (by simp -implicitDefEqProofs (disch:=omega) only[go_sem];exact F5 _) (by omega) (by omega)) ?_
    simp -implicitDefEqProofs (disch:=omega) only[go_sem,bD]
    exact dV 1 (by decide) (i+1,gU x.fArgs[i] bound o) (by simp only;omega) rfl rfl refs rfl ⟨by simp only;omega,by simp only;omega,p3⟩
  have hi:i=x.fArgs.length:=by omega
  rw[hi,List.drop_length] at p2 p3
  rw[au.cu] at p2
  rw[nE] at p3
  rw[←p3] at fin
  clear p3 refs
  refine aV (ι:=Nat×List (List UInt8)) Tryz.checked.mixed rfl [0,2,63,64,65] (fun y=>[.c (.bK (1+l,j) (y.2.map encS)),.c (.d (.sl (bound.map encS))),.c (.d (.sl (x.aI.map aF.enc))),.c (.d (.i .i64 x.aI.length)),.c (.d (.i .i64 y.1))]) (fun y=>[.box (x.enc.map .d)]::aW S (l,j) (.tok 1 (y.2.map encS)))
   (fun y=>y.1≤x.aI.length∧y.2.length+aF.cu (x.aI.drop y.1)≤1073741824∧qJ (x.aI.drop y.1) bound y.2=gU x bound out) (fun y=>x.aI.length-y.1) (0,o) rfl ?_ ⟨Nat.zero_le _,by simp only[List.drop_zero];omega,fin.symm⟩ ?_
  ·simp -implicitDefEqProofs (disch:=omega) only[go_sem]
  clear p1 p2 fin hal
  rintro⟨i,o⟩ ⟨p1,p2,p3⟩
  have refs:∀a b,lg 1 (iq [0,2,63,64,65] [.c (.bK (1+l,j) a),.c (.d (.sl (bound.map encS))),.c (.d (.sl (x.aI.map aF.enc))),.c (.d (.i .i64 x.aI.length)),.c (.d (.i .i64 b))])=true:=fun a b=>by simp[lg,iq,V.refs,C.refs,mh];omega
  simp only at p1 p2 p3
  simp -implicitDefEqProofs (disch:=omega) only[go_sem]
  with_reducible refine aA (fun hb=> ?_) (fun hb=> ?_)<;>have h:=hb<;>(try simp only[wf_preprocess] at h)<;>simp -implicitDefEqProofs (disch:=omega) only[go_sem,hb]<;>(repeat(with_reducible refine And.intro ?_ ?_;focus first|omega|rfl|assumption|exact⟨_,rfl,rfl⟩|(simp;omega)|(simp;done)))
  ·have hi:i<x.aI.length:=by omega
   have hs:=List.sizeOf_lt_of_mem (List.getElem_mem hi)
   have hs':=aF.kS x.aI[i]
   have hz:=au.Vw hi
   have hz':=aF.PY x.aI[i]
   rw[GL hi,Nn] at p3
   rw[aF.jh hi] at p2
   have hlo:=qD x.aI[i].fBody (bound++x.aI[i].aK) o
   have hcc:=Sq [bound,x.aI[i].aK] (by simp) (by simp only[List.flatten_cons,List.flatten_nil,List.append_nil,List.length_append];omega)
   simp only[List.map_cons,List.map_nil,List.flatten_cons,List.flatten_nil,List.append_nil] at hcc
   (repeat(with_reducible refine And.intro ?_ ?_;focus first|omega|rfl|assumption|exact⟨_,rfl,rfl⟩|(simp;omega)|(simp;done)))
   refine ay hcc ?_
   simp -implicitDefEqProofs (disch:=omega) only[go_sem]
   refine bf rfl (ih x.aI[i].fBody (by omega) (by omega) (bound++x.aI[i].aK) o (1+l) j _ (by simp -implicitDefEqProofs (disch:=omega) only[go_sem];exact F5 _) (by omega) (by simp only[List.length_append];omega)) ?_
   simp -implicitDefEqProofs (disch:=omega) only[go_sem,bD]
   exact dV 1 (by decide) (i+1,gU x.aI[i].fBody (bound++x.aI[i].aK) o) (by simp only;omega) rfl rfl (refs _ _) rfl ⟨by simp only;omega,by simp only;omega,p3⟩
  ·have hi:i=x.aI.length:=by omega
   rw[hi,List.drop_length,qJ] at p3
   rw[←p3]
   exact⟨rfl,rfl⟩
theorem GN(x:au)(hsz:x.sz≤4194304):aH Tryz.prog 296 [x.v] (.c (.d (.sl ((gU x [] []).map encS)))):=fun S=>by
 have hc:=au.jf x
 have h0:∀S,bA Tryz.prog 338 [.c (.aL []),x.v,.c (.d (.sl []))] S (fun r S'=>r=.c (.d (.sl ((gU x [] []).map encS)))∧S'=S):=fun S=>by
  refine bA.Xn 0 (es:=[]) (aO:=1) rfl (by simp) (Cw _ x (Nat.lt_succ_self _) hsz [] [] 0 0 ([.tok 1 []]::S) rfl (by simp;omega) (by simp;omega)) ?_
  rintro r fr S' ⟨rfl,h2⟩
  injection h2 with h2 h3
  exact⟨_,rfl,rfl,h3⟩
 refine aC (rs:=[.tmp 2]) Tryz.checked.mixed Tryz.func296 Tryz.ntmps296 rfl rfl rfl rfl rfl ?_
 simp -implicitDefEqProofs (disch:=omega) only[go_sem]
 (repeat(with_reducible refine And.intro ?_ ?_;focus first|omega|rfl|assumption|exact⟨_,rfl,rfl⟩|(simp;omega)|(simp;done)))
 refine zi [true,true,false] rfl (h0 _) ?_
 simp -implicitDefEqProofs (disch:=omega) only[go_sem]
set_option maxHeartbeats 2000000 in
theorem Cx:∀N:Nat,∀x:au,SizeOf.sizeOf x<N→x.sz≤4194304→∀(bound out:List (List UInt8)) (l j:Nat) (S:Store),aR S (l,j)=some (.tok 1 (out.map encS))→out.length+x.cnt≤1073741824→bound.length+x.sz≤1073741824→
 bA Tryz.prog 343 [x.v,.c (.d (.sl (bound.map encS))),.c (.bK (l,j) (out.map encS))] S (fun r S'=>r=.c (.bK (l,j) ((gU x bound out).map encS))∧S'=aW S (l,j) (.tok 1 ((gU x bound out).map encS)))
 |0=>fun x h=>by omega
 |N+1=>by
  have ih:=Cx N
  intro x hn hsz bound out l j S hk hc hbd
  have hb0:=au.xD x
  have iA:=au.fA x
  have yh:=au.lN x
  have hcn:=au.lq x
  have F5:∀y:Ab.Obj,aR (aW S (l,j) y) (l,j)=some y:=fun y=>bS _ _ _ _ hk
  have hS0:aW S (l,j) (.tok 1 (out.map encS))=S:=kE _ _ hk
  have fin:=Nl x bound out
  have hal:=EJ x.aG x.fName bound out
  obtain⟨o1,ho1⟩:∃o1,vS x.aG x.fName bound out=o1:=⟨_,rfl⟩
  rw[ho1] at fin hal
  refine(show Hold ?T→_ from fun tail=> ?main) ?tp
  case' main=>
   refine aC (rs:=[.tmp 6]) Tryz.checked.mixed Tryz.func343 Tryz.ntmps343 rfl rfl rfl rfl rfl ?_
   simp -implicitDefEqProofs (disch:=omega) only[go_sem,hk]
   repeat' (first
    |(with_reducible refine aA (fun hb=> ?_) (fun hb=> ?_)<;>have h:=hb<;>(try simp only[wf_preprocess] at h)<;>simp -implicitDefEqProofs (disch:=omega) only[go_sem,hb,hk]<;>(repeat(with_reducible refine And.intro ?_ ?_;focus first|omega|rfl|assumption|exact⟨_,rfl,rfl⟩|(simp;omega)|(simp;done))))
    |(refine ay (qo bound x.fName (by omega)) ?_;simp -implicitDefEqProofs (disch:=omega) only[go_sem,hk];(repeat(with_reducible refine And.intro ?_ ?_;focus first|omega|rfl|assumption|exact⟨_,rfl,rfl⟩|(simp;omega)|(simp;done))))
    |(refine ay (qo out x.fName (by omega)) ?_;simp -implicitDefEqProofs (disch:=omega) only[go_sem,hk];(repeat(with_reducible refine And.intro ?_ ?_;focus first|omega|rfl|assumption|exact⟨_,rfl,rfl⟩|(simp;omega)|(simp;done)))))
   all_goals first
    |(have ha:vS x.aG x.fName bound out=out++[x.fName]:=if_pos ⟨by assumption,by assumption,by assumption⟩)
    |(have ha:vS x.aG x.fName bound out=out:=if_neg (fun y=>by have:=y.1;have:=y.2.1;have:=y.2.2;contradiction))
   all_goals
    refine Ev (st':=[.box (x.enc.map .d)]::aW S (l,j) (.tok 1 (o1.map encS))) [1,2,3,7] [.c (.d (.sl (bound.map encS))),.c (.bK (1+l,j) (o1.map encS)),.c (.ptr (0,0) 0),.c (.d (.i .i64 0))] ?_ ?_ ?_
    ·first|(rw[←ho1,ha];rfl)|(rw[←ho1,ha,←Dc];rfl)
    ·first|(rw[←ho1,ha,hS0];simp -implicitDefEqProofs (disch:=omega) only[go_sem];done)|(rw[←ho1,ha,←Dc];simp -implicitDefEqProofs (disch:=omega) only[go_sem];done)
    ·exact tail.out
  refine⟨?_⟩
  clear ho1
  refine aV (ι:=Nat×List (List UInt8)) Tryz.checked.mixed rfl [1,2,3,7] (fun y=>[.c (.d (.sl (bound.map encS))),.c (.bK (1+l,j) (y.2.map encS)),.c (.ptr (0,0) 0),.c (.d (.i .i64 y.1))]) (fun y=>[.box (x.enc.map .d)]::aW S (l,j) (.tok 1 (y.2.map encS)))
   (fun y=>y.1≤x.fArgs.length∧y.2.length+au.cu (x.fArgs.drop y.1)+aF.cu x.aI≤1073741824∧nE (x.fArgs.drop y.1) x.aG x.fName y.1 bound y.2=nE x.fArgs x.aG x.fName 0 bound o1) (fun y=>x.fArgs.length-y.1) (0,o1) rfl rfl ⟨Nat.zero_le _,by simp only[List.drop_zero];omega,rfl⟩ ?_
  rintro⟨i,o⟩ ⟨p1,p2,p3⟩
  have refs:∀{a b},lg 1 (iq [1,2,3,7] [.c (.d (.sl (bound.map encS))),.c (.bK (1+l,j) a),.c (.ptr (0,0) 0),.c (.d (.i .i64 b))])=true:=fun {a b}=>by simp[lg,iq,V.refs,C.refs,mh];omega
  simp only at p1 p2 p3
  simp -implicitDefEqProofs (disch:=omega) only[go_sem]
  with_reducible refine aA (fun hb=> ?_) (fun hb=> ?_)<;>have h:=hb<;>(try simp only[wf_preprocess] at h)<;>simp -implicitDefEqProofs (disch:=omega) only[go_sem,hb]<;>(repeat(with_reducible refine And.intro ?_ ?_;focus first|omega|rfl|assumption|exact⟨_,rfl,rfl⟩|(simp;omega)|(simp;done)))
  ·have hi:i<x.fArgs.length:=by omega
   have hs:=List.sizeOf_lt_of_mem (List.getElem_mem hi)
   have hz:=au.qw hi
   rw[GK hi] at p3
   rw[au.jh hi] at p2
   have hlo:=qD x.fArgs[i] (if x.aG=8∧i=1 then bound++[x.fName] else bound) o
   have two:x.fArgs[i].sz+(bound.length+1)≤1073741824:=by omega
   repeat' (first|with_reducible refine aA (fun hb=> ?_) (fun hb=> ?_)<;>have h:=hb<;>(try simp only[wf_preprocess] at h)<;>simp -implicitDefEqProofs (disch:=omega) only[go_sem,hb]<;>(repeat(with_reducible refine And.intro ?_ ?_;focus first|omega|rfl|assumption|exact⟨_,rfl,rfl⟩|(simp;omega)|(simp;done))))
   ·have e1:x.aG=8∧i=1:=⟨by omega,by omega⟩
    rw[if_pos e1] at p3 hlo
    refine⟨xM,⟨_,rfl,rfl⟩,fun y hy=>(by cases hy),by omega,?_⟩
    (repeat(with_reducible refine And.intro ?_ ?_;focus first|omega|rfl|assumption|exact⟨_,rfl,rfl⟩|(simp;omega)|(simp;done)))
    rw[Dc]
    refine zi [true,false,true] rfl (ih x.fArgs[i] (by omega) (by omega) (bound++[x.fName]) o (1+l) j _ (by simp -implicitDefEqProofs (disch:=omega) only[go_sem];exact F5 _) (by omega) (by simp only[List.length_append,List.length_cons,List.length_nil];omega)) ?_
    simp -implicitDefEqProofs (disch:=omega) only[go_sem,bD]
    exact dV 1 (by decide) (i+1,gU x.fArgs[i] (bound++[x.fName]) o) (by simp only;omega) rfl rfl refs rfl ⟨by simp only;omega,by simp only;omega,p3⟩
   all_goals
    have e1:¬(x.aG=8∧i=1):=fun h=>by omega
    rw[if_neg e1] at p3 hlo
    (repeat(with_reducible refine And.intro ?_ ?_;focus first|omega|rfl|assumption|exact⟨_,rfl,rfl⟩|(simp;omega)|(simp;done)))
    refine bf rfl (ih x.fArgs[i] (by omega) (by omega) bound o (1+l) j _ (by simp -implicitDefEqProofs (disch:=omega) only[go_sem];exact F5 _) (by omega) (by omega)) ?_
    simp -implicitDefEqProofs (disch:=omega) only[go_sem,bD]
    exact dV 1 (by decide) (i+1,gU x.fArgs[i] bound o) (by simp only;omega) rfl rfl refs rfl ⟨by simp only;omega,by simp only;omega,p3⟩
  have hi:i=x.fArgs.length:=by omega
  rw[hi,List.drop_length] at p2 p3
  rw[au.cu] at p2
  rw[nE] at p3
  rw[←p3] at fin
  clear p3 refs
  refine aV (ι:=Nat×List (List UInt8)) Tryz.checked.mixed rfl [1,2,3,9] (fun y=>[.c (.d (.sl (bound.map encS))),.c (.bK (1+l,j) (y.2.map encS)),.c (.ptr (0,0) 0),.c (.d (.i .i64 y.1))]) (fun y=>[.box (x.enc.map .d)]::aW S (l,j) (.tok 1 (y.2.map encS)))
   (fun y=>y.1≤x.aI.length∧y.2.length+aF.cu (x.aI.drop y.1)≤1073741824∧qJ (x.aI.drop y.1) bound y.2=gU x bound out) (fun y=>x.aI.length-y.1) (0,o) rfl ?_ ⟨Nat.zero_le _,by simp only[List.drop_zero];omega,fin.symm⟩ ?_
  ·simp -implicitDefEqProofs (disch:=omega) only[go_sem]
  clear p1 p2 fin hal
  rintro⟨i,o⟩ ⟨p1,p2,p3⟩
  have refs:∀a b,lg 1 (iq [1,2,3,9] [.c (.d (.sl (bound.map encS))),.c (.bK (1+l,j) a),.c (.ptr (0,0) 0),.c (.d (.i .i64 b))])=true:=fun a b=>by simp[lg,iq,V.refs,C.refs,mh];omega
  simp only at p1 p2 p3
  simp -implicitDefEqProofs (disch:=omega) only[go_sem]
  with_reducible refine aA (fun hb=> ?_) (fun hb=> ?_)<;>have h:=hb<;>(try simp only[wf_preprocess] at h)<;>simp -implicitDefEqProofs (disch:=omega) only[go_sem,hb]<;>(repeat(with_reducible refine And.intro ?_ ?_;focus first|omega|rfl|assumption|exact⟨_,rfl,rfl⟩|(simp;omega)|(simp;done)))
  ·have hi:i<x.aI.length:=by omega
   have hs:=List.sizeOf_lt_of_mem (List.getElem_mem hi)
   have hs':=aF.kS x.aI[i]
   have hz:=au.Vw hi
   have hz':=aF.PY x.aI[i]
   rw[GL hi,Nn] at p3
   rw[aF.jh hi] at p2
   have hlo:=qD x.aI[i].fBody (bound++x.aI[i].aK) o
   refine⟨xM,⟨_,rfl,rfl⟩,fun y hy=>(by cases hy),by omega,⟨by omega,hi⟩,xM,⟨_,rfl,rfl⟩,by omega,?_⟩
   rw[←List.map_append]
   refine zi [true,false,true] rfl (ih x.aI[i].fBody (by omega) (by omega) (bound++x.aI[i].aK) o (1+l) j _ (by simp -implicitDefEqProofs (disch:=omega) only[go_sem];exact F5 _) (by omega) (by simp only[List.length_append];omega)) ?_
   simp -implicitDefEqProofs (disch:=omega) only[go_sem,bD]
   exact dV 1 (by decide) (i+1,gU x.aI[i].fBody (bound++x.aI[i].aK) o) (by simp only;omega) rfl rfl (refs _ _) rfl ⟨by simp only;omega,by simp only;omega,p3⟩
  ·have hi:i=x.aI.length:=by omega
   rw[hi,List.drop_length,qJ] at p3
   rw[←p3]
   exact⟨rfl,rfl⟩
theorem GQ(x:au)(hsz:x.sz≤4194304):aH Tryz.prog 311 [x.v] (.c (.d (.sl ((gU x [] []).map encS)))):=fun S=>by
 have hc:=au.jf x
 have h0:∀S,bA Tryz.prog 343 [x.v,.c (.d (.sl [])),.c (.aL [])] S (fun r S'=>r=.c (.d (.sl ((gU x [] []).map encS)))∧S'=S):=fun S=>by
  refine bA.Xn 2 (es:=[]) (aO:=1) rfl (by simp) (Cx _ x (Nat.lt_succ_self _) hsz [] [] 0 0 ([.tok 1 []]::S) rfl (by simp;omega) (by simp;omega)) ?_
  rintro r fr S' ⟨rfl,h2⟩
  injection h2 with h2 h3
  exact⟨_,rfl,rfl,h3⟩
 refine aC (rs:=[.tmp 2]) Tryz.checked.mixed Tryz.func311 Tryz.ntmps311 rfl rfl rfl rfl rfl ?_
 simp -implicitDefEqProofs (disch:=omega) only[go_sem]
 (repeat(with_reducible refine And.intro ?_ ?_;focus first|omega|rfl|assumption|exact⟨_,rfl,rfl⟩|(simp;omega)|(simp;done)))
 refine zi [true,false,true] rfl (h0 _) ?_
 simp -implicitDefEqProofs (disch:=omega) only[go_sem]
end Go.Proofs.YtlmhknhlmicmeaaGreatDoor
namespace Go.Proofs.YtlmhknhlmicmeaaGreatDoor
open Go Go.Ab
end Go.Proofs.YtlmhknhlmicmeaaGreatDoor
namespace Go.Ab
theorem au.Yg{x:au}(h:x.sz≤4194304):x.aY.length≤4194304∧x.fName.length≤4194304∧x.fType.sz≤4194304∧x.fArgs.length≤4194304∧x.aI.length≤4194304:=by
 simp only[au.sz,au.aD,bM,bN,D.sz,List.length_map,aj.dB] at h
 omega
theorem aF.Yg{x:aF}(h:x.sz≤4194304):x.bL.length≤4194304∧x.aK.length≤4194304∧x.fBody.sz≤4194304:=by
 simp only[aF.sz,aF.aD,bM,bN,D.sz,List.length_map,au.dB] at h
 omega
end Go.Ab
namespace Go.Proofs.YtlmhknhlmicmeaaGreatDoor
open Go Go.Ab
end Go.Proofs.YtlmhknhlmicmeaaGreatDoor
namespace Go.Proofs.YtlmhknhlmicmeaaGreatDoor
open Go Go.Ab
end Go.Proofs.YtlmhknhlmicmeaaGreatDoor
namespace Go.Ab
noncomputable def zC(vars:List (List UInt8))(e:au):Bool:=mP e&&among (gU e [] []) vars
noncomputable def vI(vars:List (List UInt8))(e:au):Bool:=jW vars&&zC vars e
noncomputable def jH(vars:List (List UInt8))(b:aN):Bool:=(validName b.aY&&kI b.fType)&&(!sD b.fType&&among (jD [] b.fType) vars)
noncomputable def nu(vars:List (List UInt8))(bs:List aN):Bool:=dec (bs.length≤4)&&bs.all (jH vars)
theorem Df{xs:List aN}{t:aN}(h:t∈xs):t.sz≤bG (xs.map aN.enc):=dY (List.mem_map_of_mem h)
theorem bP.sum(x:bP):x.fName.length+(x.aS.length+bG (x.aS.map aj.enc))+x.bq.sz+(x.aK.length+bG (x.aK.map encS))+x.fBody.sz≤x.sz:=by
 simp only[bP.sz,bP.aD,bM,bN,D.sz,List.length_map,aj.dB,au.dB]
 omega
theorem aN.sum(x:aN):x.aY.length+x.fType.sz≤x.sz:=by
 simp only[aN.sz,aN.aD,bM,bN,D.sz,List.length_map,aj.dB]
 omega
theorem Np(e:au)(h:e.sz≤4194304):(gU e [] []).length≤1073741824:=by
 have h1:=qD e [] []
 have h2:=au.jf e
 simp at h1
 omega
theorem SI(t:aj)(h:t.sz≤4194304):(jD [] t).length≤1073741824:=by
 have h1:=vv t []
 have h2:=_root_.Go.Ab.jf t
 simp at h1
 omega
theorem Ea(vars:List (List UInt8))(t:aj):gZ vars t=(kI t&&among (jD [] t) vars):=rfl
end Go.Ab
namespace Go.Proofs.YtlmhknhlmicmeaaGreatDoor
open Go Go.Ab
theorem Vx(vars:List (List UInt8))(e:au)(hv:vars.length≤1073741824)(hs:∀s∈vars,s.length≤4194304)(hsz:e.sz≤4194304):aH Tryz.prog 227 [.c (.d (.sl (vars.map encS))),e.v] (.c (.d (.b (vI vars e)))):=fun S=>by
 refine aC (rs:=[.tmp 4]) Tryz.checked.mixed Tryz.func227 Tryz.ntmps227 rfl rfl rfl rfl rfl ?_
 simp -implicitDefEqProofs (disch:=omega) only[go_sem]
 refine ay (yR vars hv hs) ?_
 simp -implicitDefEqProofs (disch:=omega) only[go_sem]<;>(repeat(with_reducible refine And.intro ?_ ?_;focus first|omega|rfl|assumption|exact⟨_,rfl,rfl⟩|(simp;omega)|(simp;done)))
 with_reducible refine aA (fun hb=> ?_) (fun hb=> ?_)<;>have h:=hb<;>(try simp only[wf_preprocess] at h)<;>simp -implicitDefEqProofs (disch:=omega) only[go_sem,hb]<;>(repeat(with_reducible refine And.intro ?_ ?_;focus first|omega|rfl|assumption|exact⟨_,rfl,rfl⟩|(simp;omega)|(simp;done)))
 ·have h1:=h
  refine ay (EH e hsz) ?_
  simp -implicitDefEqProofs (disch:=omega) only[go_sem]<;>(repeat(with_reducible refine And.intro ?_ ?_;focus first|omega|rfl|assumption|exact⟨_,rfl,rfl⟩|(simp;omega)|(simp;done)))
  with_reducible refine aA (fun hb=> ?_) (fun hb=> ?_)<;>have h:=hb<;>(try simp only[wf_preprocess] at h)<;>simp -implicitDefEqProofs (disch:=omega) only[go_sem,hb]<;>(repeat(with_reducible refine And.intro ?_ ?_;focus first|omega|rfl|assumption|exact⟨_,rfl,rfl⟩|(simp;omega)|(simp;done)))
  ·have h2:=h
   refine ay (GN e hsz) ?_
   simp -implicitDefEqProofs (disch:=omega) only[go_sem]<;>(repeat(with_reducible refine And.intro ?_ ?_;focus first|omega|rfl|assumption|exact⟨_,rfl,rfl⟩|(simp;omega)|(simp;done)))
   refine ay (yS _ vars (Np e hsz) hv) ?_
   simp -implicitDefEqProofs (disch:=omega) only[go_sem]<;>(repeat(with_reducible refine And.intro ?_ ?_;focus first|omega|rfl|assumption|exact⟨_,rfl,rfl⟩|(simp;omega)|(simp;done)))
   exact aJ (by unfold vI zC;rw[h1,h2];rfl)
  ·exact aJ (by unfold vI zC;rw[h];simp)
 ·exact aJ (by unfold vI;rw[h];rfl)
theorem SK(vars:List (List UInt8))(e:au)(hv:vars.length≤1073741824)(hsz:e.sz≤4194304):aH Tryz.prog 255 [e.v,.c (.d (.sl (vars.map encS)))] (.c (.d (.b (zC vars e)))):=fun S=>by
 have hlen:=Np e hsz
 refine aC (rs:=[.tmp 4]) Tryz.checked.mixed Tryz.func255 Tryz.ntmps255 rfl rfl rfl rfl rfl ?_
 simp -implicitDefEqProofs (disch:=omega) only[go_sem]
 refine ay (GQ e hsz) ?_
 simp -implicitDefEqProofs (disch:=omega) only[go_sem]<;>(repeat(with_reducible refine And.intro ?_ ?_;focus first|omega|rfl|assumption|exact⟨_,rfl,rfl⟩|(simp;omega)|(simp;done)))
 unfold zC
 generalize gU e [] []=xs at hlen ⊢
 refine aV (ι:=Nat) Tryz.checked.mixed rfl [1,2,5,6] (fun i=>[.c (.d (.sl (vars.map encS))),.c (.ptr (0,0) 0),.c (.d (.sl (xs.map encS))),.c (.d (.i .i64 i))]) (fun _=>[.box (e.enc.map .d)]::S)
  (fun i=>i≤xs.length∧among (xs.drop i) vars=among xs vars) (fun i=>xs.length-i) 0 rfl ?_ ⟨Nat.zero_le _,rfl⟩ ?_
 ·simp -implicitDefEqProofs (disch:=omega) only[go_sem]
 rintro i ⟨p1,p2⟩
 simp -implicitDefEqProofs (disch:=omega) only[go_sem,encS]
 with_reducible refine aA (fun hb=> ?_) (fun hb=> ?_)<;>have h:=hb<;>(try simp only[wf_preprocess] at h)<;>simp -implicitDefEqProofs (disch:=omega) only[go_sem,hb,encS]<;>(repeat(with_reducible refine And.intro ?_ ?_;focus first|omega|rfl|assumption|exact⟨_,rfl,rfl⟩|(simp;omega)|(simp;done)))
 ·have hi:i<xs.length:=by omega
  rw[List.drop_eq_getElem_cons hi] at p2
  have p3:among xs vars=(dec (xs[i]∈vars)&&among (xs.drop (i+1)) vars):=p2.symm
  (repeat(with_reducible refine And.intro ?_ ?_;focus first|omega|rfl|assumption|exact⟨_,rfl,rfl⟩|(simp;omega)|(simp;done)))
  refine ay (qo vars xs[i] hv) ?_
  simp -implicitDefEqProofs (disch:=omega) only[go_sem]<;>(repeat(with_reducible refine And.intro ?_ ?_;focus first|omega|rfl|assumption|exact⟨_,rfl,rfl⟩|(simp;omega)|(simp;done)))
  with_reducible refine aA (fun hb=> ?_) (fun hb=> ?_)<;>have h:=hb<;>(try simp only[wf_preprocess] at h)<;>simp -implicitDefEqProofs (disch:=omega) only[go_sem,hb]<;>(repeat(with_reducible refine And.intro ?_ ?_;focus first|omega|rfl|assumption|exact⟨_,rfl,rfl⟩|(simp;omega)|(simp;done)))
  ·exact aJ (by rw[p3,aQ h];simp)
  ·exact bH (i+1) (by omega) rfl rfl ⟨by omega,by rw[p3,bR h];rfl⟩
 ·rw[List.drop_of_length_le (by omega)] at p2
  have p3:among xs vars=true:=p2.symm
  (repeat(with_reducible refine And.intro ?_ ?_;focus first|omega|rfl|assumption|exact⟨_,rfl,rfl⟩|(simp;omega)|(simp;done)))
  refine ay (EI e hsz) ?_
  simp -implicitDefEqProofs (disch:=omega) only[go_sem]<;>(repeat(with_reducible refine And.intro ?_ ?_;focus first|omega|rfl|assumption|exact⟨_,rfl,rfl⟩|(simp;omega)|(simp;done)))
  exact aJ (by rw[p3];simp)
theorem GR(vars:List (List UInt8))(hv:vars.length≤1073741824)(rest:List Ab.Obj)(S:Store)(b:aN)(hb:b.sz≤4194304):j5 Tryz.prog 291 [((0,0),0)] ((.box [.d (.sl (vars.map encS))]::rest)::S) [b.v] (.c (.d (.b (!jH vars b)))):=fun F=>by
 have hs:=aN.sum b
 refine aC (rs:=[.tmp 3]) Tryz.checked.mixed Tryz.func291 Tryz.ntmps291 rfl rfl rfl rfl rfl ?_
 simp -implicitDefEqProofs (disch:=omega) only[go_sem]
 refine ay (Dj b (by omega) (by omega)) ?_
 simp -implicitDefEqProofs (disch:=omega) only[go_sem]<;>(repeat(with_reducible refine And.intro ?_ ?_;focus first|omega|rfl|assumption|exact⟨_,rfl,rfl⟩|(simp;omega)|(simp;done)))
 with_reducible refine aA (fun hb=> ?_) (fun hb=> ?_)<;>have h:=hb<;>(try simp only[wf_preprocess] at h)<;>simp -implicitDefEqProofs (disch:=omega) only[go_sem,hb]<;>(repeat(with_reducible refine And.intro ?_ ?_;focus first|omega|rfl|assumption|exact⟨_,rfl,rfl⟩|(simp;omega)|(simp;done)))
 ·exact aJ (by unfold jH;rw[h];rfl)
 have h1:=h
 (repeat(with_reducible refine And.intro ?_ ?_;focus first|omega|rfl|assumption|exact⟨_,rfl,rfl⟩|(simp;omega)|(simp;done)))
 refine ay (Ig b.fType (by omega)) ?_
 simp -implicitDefEqProofs (disch:=omega) only[go_sem]<;>(repeat(with_reducible refine And.intro ?_ ?_;focus first|omega|rfl|assumption|exact⟨_,rfl,rfl⟩|(simp;omega)|(simp;done)))
 with_reducible refine aA (fun hb=> ?_) (fun hb=> ?_)<;>have h:=hb<;>(try simp only[wf_preprocess] at h)<;>simp -implicitDefEqProofs (disch:=omega) only[go_sem,hb]<;>(repeat(with_reducible refine And.intro ?_ ?_;focus first|omega|rfl|assumption|exact⟨_,rfl,rfl⟩|(simp;omega)|(simp;done)))
 ·exact aJ (by unfold jH;rw[h];simp)
 have h2:=h
 (repeat(with_reducible refine And.intro ?_ ?_;focus first|omega|rfl|assumption|exact⟨_,rfl,rfl⟩|(simp;omega)|(simp;done)))
 refine ay (yu b.fType (by omega)) ?_
 simp -implicitDefEqProofs (disch:=omega) only[go_sem]<;>(repeat(with_reducible refine And.intro ?_ ?_;focus first|omega|rfl|assumption|exact⟨_,rfl,rfl⟩|(simp;omega)|(simp;done)))
 refine ay (yS _ vars (SI _ (by omega)) hv) ?_
 simp -implicitDefEqProofs (disch:=omega) only[go_sem]<;>(repeat(with_reducible refine And.intro ?_ ?_;focus first|omega|rfl|assumption|exact⟨_,rfl,rfl⟩|(simp;omega)|(simp;done)))
 exact aJ (by unfold jH;rw[h1,h2];simp)
theorem Nq(bs:List aN)(vars:List (List UInt8))(hl:bs.length≤1073741824)(hz:∀b∈bs,b.sz≤4194304)(hv:vars.length≤1073741824):aH Tryz.prog 223 [.c (.d (.sl (bs.map aN.enc))),.c (.d (.sl (vars.map encS)))] (.c (.d (.b (nu vars bs)))):=fun S=>by
 have ha:(bs.any fun t=> !jH vars t)= !bs.all (jH vars):=by rw[List.not_all_eq_any_not]
 refine aC (rs:=[.tmp 4]) Tryz.checked.mixed Tryz.func223 Tryz.ntmps223 rfl rfl rfl rfl rfl ?_
 simp -implicitDefEqProofs (disch:=omega) only[go_sem]
 with_reducible refine aA (fun hb=> ?_) (fun hb=> ?_)<;>have h:=hb<;>(try simp only[wf_preprocess] at h)<;>simp -implicitDefEqProofs (disch:=omega) only[go_sem,hb]<;>(repeat(with_reducible refine And.intro ?_ ?_;focus first|omega|rfl|assumption|exact⟨_,rfl,rfl⟩|(simp;omega)|(simp;done)))
 ·have h1:=h
  (repeat(with_reducible refine And.intro ?_ ?_;focus first|omega|rfl|assumption|exact⟨_,rfl,rfl⟩|(simp;omega)|(simp;done)))
  refine bf rfl (Al 291 [((0,0),0)] _ bs (fun t=> !jH vars t) hl fun t hx=>GR vars hv [] S t (hz t hx)) ?_
  simp -implicitDefEqProofs (disch:=omega) only[go_sem]
  rw[ha]
  exact aJ (by unfold nu;rw[bR (by omega)];simp)
 ·exact aJ (by unfold nu;rw[aQ (by omega)];rfl)
theorem OZ(bs:List aN)(vars:List (List UInt8))(hl:bs.length≤1073741824)(hz:∀b∈bs,b.sz≤4194304)(hv:vars.length≤1073741824):aH Tryz.prog 252 [.c (.d (.sl (bs.map aN.enc))),.c (.d (.sl (vars.map encS)))] (.c (.d (.b (nu vars bs)))):=fun S=>by
 refine aC (rs:=[.tmp 4]) Tryz.checked.mixed Tryz.func252 Tryz.ntmps252 rfl rfl rfl rfl rfl ?_
 simp -implicitDefEqProofs (disch:=omega) only[go_sem]
 refine aV (ι:=Nat) Tryz.checked.mixed rfl [0,1,5] (fun i=>[.c (.d (.sl (bs.map aN.enc))),.c (.d (.sl (vars.map encS))),.c (.d (.i .i64 i))]) (fun _=>[]::S)
  (fun i=>i≤bs.length∧(bs.drop i).all (jH vars)=bs.all (jH vars)) (fun i=>bs.length-i) 0 rfl rfl ⟨Nat.zero_le _,rfl⟩ ?_
 rintro i ⟨p1,p2⟩
 simp -implicitDefEqProofs (disch:=omega) only[go_sem]
 with_reducible refine aA (fun hb=> ?_) (fun hb=> ?_)<;>have h:=hb<;>(try simp only[wf_preprocess] at h)<;>simp -implicitDefEqProofs (disch:=omega) only[go_sem,hb]<;>(repeat(with_reducible refine And.intro ?_ ?_;focus first|omega|rfl|assumption|exact⟨_,rfl,rfl⟩|(simp;omega)|(simp;done)))
 ·have hi:i<bs.length:=by omega
  have hb:=hz _ (List.getElem_mem hi)
  have hs:=aN.sum bs[i]
  rw[List.drop_eq_getElem_cons hi,List.all_cons] at p2
  have no:jH vars bs[i]=false→V.c (.d (.b false))=V.c (.d (.b (nu vars bs))):=fun h=>aJ (by unfold nu;rw[←p2,h];simp)
  (repeat(with_reducible refine And.intro ?_ ?_;focus first|omega|rfl|assumption|exact⟨_,rfl,rfl⟩|(simp;omega)|(simp;done)))
  refine ay (Di bs[i] (by omega) (by omega)) ?_
  simp -implicitDefEqProofs (disch:=omega) only[go_sem]<;>(repeat(with_reducible refine And.intro ?_ ?_;focus first|omega|rfl|assumption|exact⟨_,rfl,rfl⟩|(simp;omega)|(simp;done)))
  with_reducible refine aA (fun hb=> ?_) (fun hb=> ?_)<;>have h:=hb<;>(try simp only[wf_preprocess] at h)<;>simp -implicitDefEqProofs (disch:=omega) only[go_sem,hb]<;>(repeat(with_reducible refine And.intro ?_ ?_;focus first|omega|rfl|assumption|exact⟨_,rfl,rfl⟩|(simp;omega)|(simp;done)))
  ·exact no (by unfold jH;rw[h];rfl)
  have h1:=h
  (repeat(with_reducible refine And.intro ?_ ?_;focus first|omega|rfl|assumption|exact⟨_,rfl,rfl⟩|(simp;omega)|(simp;done)))
  refine ay (Ao bs[i].fType vars (by omega) hv) ?_
  simp -implicitDefEqProofs (disch:=omega) only[go_sem]<;>(repeat(with_reducible refine And.intro ?_ ?_;focus first|omega|rfl|assumption|exact⟨_,rfl,rfl⟩|(simp;omega)|(simp;done)))
  with_reducible refine aA (fun hb=> ?_) (fun hb=> ?_)<;>have h:=hb<;>(try simp only[wf_preprocess] at h)<;>simp -implicitDefEqProofs (disch:=omega) only[go_sem,hb]<;>(repeat(with_reducible refine And.intro ?_ ?_;focus first|omega|rfl|assumption|exact⟨_,rfl,rfl⟩|(simp;omega)|(simp;done)))
  ·exact no (by unfold jH;rw[Ea] at h;rw[Bool.and_eq_true] at h1;rw[h1.2,Bool.true_and] at h;rw[h];simp)
  have h2:=h
  (repeat(with_reducible refine And.intro ?_ ?_;focus first|omega|rfl|assumption|exact⟨_,rfl,rfl⟩|(simp;omega)|(simp;done)))
  refine ay (Ie bs[i].fType (by omega)) ?_
  simp -implicitDefEqProofs (disch:=omega) only[go_sem]<;>(repeat(with_reducible refine And.intro ?_ ?_;focus first|omega|rfl|assumption|exact⟨_,rfl,rfl⟩|(simp;omega)|(simp;done)))
  with_reducible refine aA (fun hb=> ?_) (fun hb=> ?_)<;>have h:=hb<;>(try simp only[wf_preprocess] at h)<;>simp -implicitDefEqProofs (disch:=omega) only[go_sem,hb]<;>(repeat(with_reducible refine And.intro ?_ ?_;focus first|omega|rfl|assumption|exact⟨_,rfl,rfl⟩|(simp;omega)|(simp;done)))
  ·exact no (by unfold jH;rw[h];simp)
  have h3:=h
  rw[Ea,Bool.and_eq_true] at h2
  exact bH (i+1) (by omega) rfl rfl ⟨by omega,by rw[←p2];unfold jH;rw[h1,h2.2,h3];rfl⟩
 ·rw[List.drop_of_length_le (by omega)] at p2
  exact aJ (by unfold nu;rw[←p2,j6];simp only[List.all_nil,Bool.and_true];exact kF ⟨fun h=>by omega,fun h=>by omega⟩)
end Go.Proofs.YtlmhknhlmicmeaaGreatDoor
namespace Go.Proofs.YtlmhknhlmicmeaaGreatDoor
open Go Go.Ab
end Go.Proofs.YtlmhknhlmicmeaaGreatDoor
namespace Go.Proofs.YtlmhknhlmicmeaaGreatDoor
open Go Go.Ab
end Go.Proofs.YtlmhknhlmicmeaaGreatDoor
namespace Go.Proofs.YtlmhknhlmicmeaaGreatDoor
open Go Go.Ab
theorem SL(x:aP):∀y:aP,x.sz≤1048576→aH Tryz.prog 230 [x.v,y.v] (.c (.d (.b (dec (x=y))))):=by
 intro y hsz S
 simp only[aP.sz,aP.aD,bM,bN,D.sz,List.length_map,aj.dB] at hsz
 refine aC (rs:=[.tmp 4]) Tryz.checked.mixed Tryz.func230 Tryz.ntmps230 rfl rfl rfl rfl rfl ?_
 simp -implicitDefEqProofs (disch:=omega) only[go_sem]
 with_reducible refine aA (fun hb=> ?_) (fun hb=> ?_)<;>have h:=hb<;>(try simp only[wf_preprocess] at h)<;>simp -implicitDefEqProofs (disch:=omega) only[go_sem,hb]<;>(repeat(with_reducible refine And.intro ?_ ?_;focus first|omega|rfl|assumption|exact⟨_,rfl,rfl⟩|(simp;omega)|(simp;done)))
 ·exact aJ (aQ (fun e=>h (by rw[e]))).symm
 have Ai:=h
 clear h
 refine ay (yg x.fType _ (by omega)) ?_
 simp -implicitDefEqProofs (disch:=omega) only[go_sem]
 with_reducible refine aA (fun hb=> ?_) (fun hb=> ?_)<;>have h:=hb<;>(try simp only[wf_preprocess] at h)<;>simp -implicitDefEqProofs (disch:=omega) only[go_sem,hb]<;>(repeat(with_reducible refine And.intro ?_ ?_;focus first|omega|rfl|assumption|exact⟨_,rfl,rfl⟩|(simp;omega)|(simp;done)))
 ·exact aJ (aQ (fun e=>h (by rw[e]))).symm
 have eType:=h
 clear h
 exact aJ (bR (aP.ext' Ai eType)).symm
theorem O0(xs:List aP):∀ys:List aP,xs.length+bG (xs.map aP.enc)≤1048576→aH Tryz.prog 129 [.c (.d (.sl (xs.map aP.enc))),.c (.d (.sl (ys.map aP.enc)))] (.c (.d (.b (dec (xs=ys))))):=by
 intro ys hsz S
 refine aC (rs:=[.tmp 4]) Tryz.checked.mixed Tryz.func129 Tryz.ntmps129 rfl rfl rfl rfl rfl ?_
 simp -implicitDefEqProofs (disch:=omega) only[go_sem]
 with_reducible refine aA (fun hb=> ?_) (fun hb=> ?_)<;>have h:=hb<;>(try simp only[wf_preprocess] at h)<;>simp -implicitDefEqProofs (disch:=omega) only[go_sem,hb]<;>(repeat(with_reducible refine And.intro ?_ ?_;focus first|omega|rfl|assumption|exact⟨_,rfl,rfl⟩|(simp;omega)|(simp;done)))
 ·exact aJ (aQ (fun e=>h (by rw[e]))).symm
 have hl:xs.length=ys.length:=by omega
 refine aV (ι:=Nat) Tryz.checked.mixed rfl [0,1,5] (fun y=>[.c (.d (.sl (xs.map aP.enc))),.c (.d (.sl (ys.map aP.enc))),.c (.d (.i .i64 y))]) (fun y=>[]::S)
  (fun i=>i≤xs.length∧∀j,j<i→xs[j]? =ys[j]?) (fun y=>xs.length-y) 0 rfl rfl ⟨Nat.zero_le _,fun j h=>by omega⟩ ?_
 rintro i ⟨p1,p2⟩
 simp -implicitDefEqProofs (disch:=omega) only[go_sem]
 with_reducible refine aA (fun hb=> ?_) (fun hb=> ?_)<;>have h:=hb<;>(try simp only[wf_preprocess] at h)<;>simp -implicitDefEqProofs (disch:=omega) only[go_sem,hb]<;>(repeat(with_reducible refine And.intro ?_ ?_;focus first|omega|rfl|assumption|exact⟨_,rfl,rfl⟩|(simp;omega)|(simp;done)))
 ·have hi:i<xs.length:=by omega
  have hi':i<ys.length:=by omega
  have hx:xs[i].sz≤bG (xs.map aP.enc):=dY (List.mem_map_of_mem (List.getElem_mem hi))
  (repeat(with_reducible refine And.intro ?_ ?_;focus first|omega|rfl|assumption|exact⟨_,rfl,rfl⟩|(simp;omega)|(simp;done)))
  refine ay (SL xs[i] ys[i] (by omega)) ?_
  simp -implicitDefEqProofs (disch:=omega) only[go_sem]
  with_reducible refine aA (fun hb=> ?_) (fun hb=> ?_)<;>have h:=hb<;>(try simp only[wf_preprocess] at h)<;>simp -implicitDefEqProofs (disch:=omega) only[go_sem,hb]<;>(repeat(with_reducible refine And.intro ?_ ?_;focus first|omega|rfl|assumption|exact⟨_,rfl,rfl⟩|(simp;omega)|(simp;done)))
  ·exact aJ (aQ (fun e=>h (by simp only[e]))).symm
  refine bH (i+1) (by omega) rfl rfl ⟨by omega,fun j hj=> ?_⟩
  by_cases e:j=i
  ·subst e
   rw[List.getElem?_eq_getElem hi,List.getElem?_eq_getElem hi',h]
  ·exact p2 j (by omega)
 ·have hi:i=xs.length:=by omega
  refine aJ (bR (List.ext_getElem? fun j=> ?_)).symm
  by_cases hj:j<i
  ·exact p2 j hj
  ·rw[List.getElem?_eq_none (by omega),List.getElem?_eq_none (by omega)]
end Go.Proofs.YtlmhknhlmicmeaaGreatDoor
namespace Go.Proofs.YtlmhknhlmicmeaaGreatDoor
open Go Go.Ab
theorem vT(x:aU):∀y:aU,x.sz≤1048576→aH Tryz.prog 34 [x.v,y.v] (.c (.d (.b (dec (x=y))))):=by
 intro y hsz S
 simp only[aU.sz,aU.aD,bM,bN,D.sz,List.length_map,au.dB,aj.dB] at hsz
 refine aC (rs:=[.tmp 4]) Tryz.checked.mixed Tryz.func34 Tryz.ntmps34 rfl rfl rfl rfl rfl ?_
 simp -implicitDefEqProofs (disch:=omega) only[go_sem]
 with_reducible refine aA (fun hb=> ?_) (fun hb=> ?_)<;>have h:=hb<;>(try simp only[wf_preprocess] at h)<;>simp -implicitDefEqProofs (disch:=omega) only[go_sem,hb]<;>(repeat(with_reducible refine And.intro ?_ ?_;focus first|omega|rfl|assumption|exact⟨_,rfl,rfl⟩|(simp;omega)|(simp;done)))
 ·exact aJ (aQ (fun e=>h (by rw[e]))).symm
 have Ai:=h
 clear h
 refine ay (BL x.aK _ (by omega)) ?_
 simp -implicitDefEqProofs (disch:=omega) only[go_sem]
 with_reducible refine aA (fun hb=> ?_) (fun hb=> ?_)<;>have h:=hb<;>(try simp only[wf_preprocess] at h)<;>simp -implicitDefEqProofs (disch:=omega) only[go_sem,hb]<;>(repeat(with_reducible refine And.intro ?_ ?_;focus first|omega|rfl|assumption|exact⟨_,rfl,rfl⟩|(simp;omega)|(simp;done)))
 ·exact aJ (aQ (fun e=>h (by rw[e]))).symm
 have RO:=h
 clear h
 refine ay (Oz x.bO _ (by omega)) ?_
 simp -implicitDefEqProofs (disch:=omega) only[go_sem]
 with_reducible refine aA (fun hb=> ?_) (fun hb=> ?_)<;>have h:=hb<;>(try simp only[wf_preprocess] at h)<;>simp -implicitDefEqProofs (disch:=omega) only[go_sem,hb]<;>(repeat(with_reducible refine And.intro ?_ ?_;focus first|omega|rfl|assumption|exact⟨_,rfl,rfl⟩|(simp;omega)|(simp;done)))
 ·exact aJ (aQ (fun e=>h (by rw[e]))).symm
 have abF:=h
 clear h
 refine ay (O0 x.aS _ (by omega)) ?_
 simp -implicitDefEqProofs (disch:=omega) only[go_sem]
 with_reducible refine aA (fun hb=> ?_) (fun hb=> ?_)<;>have h:=hb<;>(try simp only[wf_preprocess] at h)<;>simp -implicitDefEqProofs (disch:=omega) only[go_sem,hb]<;>(repeat(with_reducible refine And.intro ?_ ?_;focus first|omega|rfl|assumption|exact⟨_,rfl,rfl⟩|(simp;omega)|(simp;done)))
 ·exact aJ (aQ (fun e=>h (by rw[e]))).symm
 have aag:=h
 clear h
 refine ay (yg x.bq _ (by omega)) ?_
 simp -implicitDefEqProofs (disch:=omega) only[go_sem]
 with_reducible refine aA (fun hb=> ?_) (fun hb=> ?_)<;>have h:=hb<;>(try simp only[wf_preprocess] at h)<;>simp -implicitDefEqProofs (disch:=omega) only[go_sem,hb]<;>(repeat(with_reducible refine And.intro ?_ ?_;focus first|omega|rfl|assumption|exact⟨_,rfl,rfl⟩|(simp;omega)|(simp;done)))
 ·exact aJ (aQ (fun e=>h (by rw[e]))).symm
 have aah:=h
 clear h
 refine ay (UN x.fBody _ (by omega)) ?_
 simp -implicitDefEqProofs (disch:=omega) only[go_sem]
 with_reducible refine aA (fun hb=> ?_) (fun hb=> ?_)<;>have h:=hb<;>(try simp only[wf_preprocess] at h)<;>simp -implicitDefEqProofs (disch:=omega) only[go_sem,hb]<;>(repeat(with_reducible refine And.intro ?_ ?_;focus first|omega|rfl|assumption|exact⟨_,rfl,rfl⟩|(simp;omega)|(simp;done)))
 ·exact aJ (aQ (fun e=>h (by rw[e]))).symm
 have RP:=h
 clear h
 exact aJ (bR (aU.ext' Ai RO abF aag aah RP)).symm
end Go.Proofs.YtlmhknhlmicmeaaGreatDoor
namespace Go.Ab
def nP(f:aU):List (List UInt8):=f.aS.map aP.fName
def GU(f:aU):List aj:=f.aS.map aP.fType
noncomputable def jZ(f:aU):Bool:=
 validName f.fName&&(dec (f.aK.length≤3)&&(jW f.aK&&(nu f.aK f.bO&&(dec (f.aS.length≤5)&&(qy f.aK (GU f)&&(gZ f.aK f.bq&&vI (nP f) f.fBody))))))
theorem aU.sum(x:aU):x.fName.length+(x.aK.length+bG (x.aK.map encS))+(x.bO.length+bG (x.bO.map aN.enc))+(x.aS.length+bG (x.aS.map aP.enc))+x.bq.sz+x.fBody.sz≤x.sz:=by
 simp only[aU.sz,aU.aD,bM,bN,D.sz,List.length_map,aj.dB,au.dB]
 omega
theorem aP.sum(x:aP):x.fName.length+x.fType.sz≤x.sz:=by
 simp only[aP.sz,aP.aD,bM,bN,D.sz,List.length_map,aj.dB]
 omega
theorem Dg{xs:List aP}{t:aP}(h:t∈xs):t.sz≤bG (xs.map aP.enc):=dY (List.mem_map_of_mem h)
end Go.Ab
namespace Go.Proofs.YtlmhknhlmicmeaaGreatDoor
open Go Go.Ab
theorem Ka(ps:List aP)(hl:ps.length≤1073741823):aH Tryz.prog 228 [.c (.d (.sl (ps.map aP.enc)))] (.c (.d (.sl ((ps.map aP.fName).map encS)))):=fun S=>by
 refine aC (rs:=[.tmp 2]) Tryz.checked.mixed Tryz.func228 Tryz.ntmps228 rfl rfl rfl rfl rfl ?_
 simp -implicitDefEqProofs (disch:=omega) only[go_sem]
 (repeat(with_reducible refine And.intro ?_ ?_;focus first|omega|rfl|assumption|exact⟨_,rfl,rfl⟩|(simp;omega)|(simp;done)))
 refine uX 3 1 [] rfl (by simp) ?_
 refine aV (ι:=Nat×List (List UInt8)) Tryz.checked.mixed rfl [3,7,8,9] (fun y=>[.c (.bK (0,0) (y.2.map encS)),.c (.d (.sl (ps.map aP.enc))),.c (.d (.i .i64 ps.length)),.c (.d (.i .i64 y.1))]) (fun y=>[.tok 1 (y.2.map encS)]::S)
  (fun y=>y.1≤ps.length∧y.2=(ps.map aP.fName).take y.1) (fun y=>ps.length-y.1) (0,[]) rfl rfl ⟨Nat.zero_le _,rfl⟩ ?_
 rintro⟨i,names⟩ ⟨p1,p2⟩
 simp only at p1 p2
 have pl:names.length≤ps.length:=by rw[p2];simp;omega
 simp -implicitDefEqProofs (disch:=omega) only[go_sem]
 with_reducible refine aA (fun hb=> ?_) (fun hb=> ?_)<;>have h:=hb<;>(try simp only[wf_preprocess] at h)<;>simp -implicitDefEqProofs (disch:=omega) only[go_sem,hb]<;>(repeat(with_reducible refine And.intro ?_ ?_;focus first|omega|rfl|assumption|exact⟨_,rfl,rfl⟩|(simp;omega)|(simp;done)))
 ·have hi:i<ps.length:=by omega
  (repeat(with_reducible refine And.intro ?_ ?_;focus first|omega|rfl|assumption|exact⟨_,rfl,rfl⟩|(simp;omega)|(simp;done)))
  rw[show List.map encS names++[[D.s ps[i].fName]]=List.map encS (names++[ps[i].fName]) by simp[encS]]
  exact dV 1 (by decide) (i+1,names++[ps[i].fName]) (by simp only;omega) rfl rfl rfl rfl ⟨by simp only;omega,by simp only;rw[p2,qz (by simpa using hi)];simp⟩
 ·rw[List.take_of_length_le (by simp;omega)] at p2
  rw[p2]
theorem Kc(ps:List aP)(hl:ps.length≤1073741823):aH Tryz.prog 225 [.c (.d (.sl (ps.map aP.enc)))] (.c (.d (.sl ((ps.map aP.fType).map aj.enc)))):=fun S=>by
 refine aC (rs:=[.tmp 2]) Tryz.checked.mixed Tryz.func225 Tryz.ntmps225 rfl rfl rfl rfl rfl ?_
 simp -implicitDefEqProofs (disch:=omega) only[go_sem]
 (repeat(with_reducible refine And.intro ?_ ?_;focus first|omega|rfl|assumption|exact⟨_,rfl,rfl⟩|(simp;omega)|(simp;done)))
 refine uX 3 3 [] rfl (by simp) ?_
 refine aV (ι:=Nat×List aj) Tryz.checked.mixed rfl [3,7,8,9] (fun y=>[.c (.bK (0,0) (y.2.map aj.enc)),.c (.d (.sl (ps.map aP.enc))),.c (.d (.i .i64 ps.length)),.c (.d (.i .i64 y.1))]) (fun y=>[.tok 3 (y.2.map aj.enc)]::S)
  (fun y=>y.1≤ps.length∧y.2=(ps.map aP.fType).take y.1) (fun y=>ps.length-y.1) (0,[]) rfl rfl ⟨Nat.zero_le _,rfl⟩ ?_
 rintro⟨i,names⟩ ⟨p1,p2⟩
 simp only at p1 p2
 have pl:names.length≤ps.length:=by rw[p2];simp;omega
 simp -implicitDefEqProofs (disch:=omega) only[go_sem]
 with_reducible refine aA (fun hb=> ?_) (fun hb=> ?_)<;>have h:=hb<;>(try simp only[wf_preprocess] at h)<;>simp -implicitDefEqProofs (disch:=omega) only[go_sem,hb]<;>(repeat(with_reducible refine And.intro ?_ ?_;focus first|omega|rfl|assumption|exact⟨_,rfl,rfl⟩|(simp;omega)|(simp;done)))
 ·have hi:i<ps.length:=by omega
  (repeat(with_reducible refine And.intro ?_ ?_;focus first|omega|rfl|assumption|exact⟨_,rfl,rfl⟩|(simp;omega)|(simp;done)))
  rw[show List.map aj.enc names++[[D.i .i64 ps[i].fType.aG,D.s ps[i].fType.fName,D.sl (ps[i].fType.fArgs.map aj.enc)]]=List.map aj.enc (names++[ps[i].fType]) by simp[aj.aD]]
  exact dV 1 (by decide) (i+1,names++[ps[i].fType]) (by simp only;omega) rfl rfl rfl rfl ⟨by simp only;omega,by simp only;rw[p2,qz (by simpa using hi)];simp⟩
 ·rw[List.take_of_length_le (by simp;omega)] at p2
  rw[p2]
theorem Io(f:aU)(hsz:f.sz≤4194304):aH Tryz.prog 127 [f.v] (.c (.d (.b (jZ f)))):=fun S=>by
 have hs:=aU.sum f
 have hV:∀s∈f.aK,s.length≤4194304:=fun s h=>by have:=F8 h;omega
 have hW:∀b∈f.bO,b.sz≤4194304:=fun b h=>by have:=Df h;omega
 have hP:∀p∈f.aS,p.sz≤4194304:=fun m h=>by have:=Dg h;omega
 have hpt:∀t∈f.aS.map aP.fType,t.sz≤4194304:=fun t h=>by
  obtain⟨p,hp,e⟩:=List.mem_map.1 h
  have:=hP p hp
  have:=aP.sum p
  rw[←e];omega
 have hpn:∀s∈f.aS.map aP.fName,s.length≤4194304:=fun t h=>by
  obtain⟨p,hp,e⟩:=List.mem_map.1 h
  have:=hP p hp
  have:=aP.sum p
  rw[←e];omega
 have hpl:(f.aS.map aP.fName).length=f.aS.length:=by simp
 have hpl':(f.aS.map aP.fType).length=f.aS.length:=by simp
 refine aC (rs:=[.tmp 2]) Tryz.checked.mixed Tryz.func127 Tryz.ntmps127 rfl rfl rfl rfl rfl ?_
 simp -implicitDefEqProofs (disch:=omega) only[go_sem]
 repeat' (first
  |with_reducible refine aA (fun hb=> ?_) (fun hb=> ?_)<;>have h:=hb<;>(try simp only[wf_preprocess] at h)<;>simp -implicitDefEqProofs (disch:=omega) only[go_sem,hb]<;>(repeat(with_reducible refine And.intro ?_ ?_;focus first|omega|rfl|assumption|exact⟨_,rfl,rfl⟩|(simp;omega)|(simp;done)))
  |((with_reducible show fO _ _ 168 _ _ _ _);refine ay (iY f.fName (by omega)) ?_;simp -implicitDefEqProofs (disch:=omega) only[go_sem])
  |((with_reducible show fO _ _ 169 _ _ _ _);refine ay (yR f.aK (by omega) hV) ?_;simp -implicitDefEqProofs (disch:=omega) only[go_sem])
  |((with_reducible show fO _ _ 223 _ _ _ _);refine ay (Nq f.bO f.aK (by omega) hW (by omega)) ?_;simp -implicitDefEqProofs (disch:=omega) only[go_sem])
  |((with_reducible show fO _ _ 225 _ _ _ _);refine ay (Kc f.aS (by omega)) ?_;simp -implicitDefEqProofs (disch:=omega) only[go_sem])
  |((with_reducible show fO _ _ 224 _ _ _ _);refine ay (Gb (f.aS.map aP.fType) f.aK (by omega) hpt (by omega)) ?_;simp -implicitDefEqProofs (disch:=omega) only[go_sem])
  |((with_reducible show fO _ _ 226 _ _ _ _);refine ay (A8 f.bq f.aK (by omega) (by omega)) ?_;simp -implicitDefEqProofs (disch:=omega) only[go_sem])
  |((with_reducible show fO _ _ 228 _ _ _ _);refine ay (Ka f.aS (by omega)) ?_;simp -implicitDefEqProofs (disch:=omega) only[go_sem])
  |((with_reducible show fO _ _ 227 _ _ _ _);refine ay (Vx (f.aS.map aP.fName) f.fBody (by omega) hpn (by omega)) ?_;simp -implicitDefEqProofs (disch:=omega) only[go_sem])
  |(refine aJ ?_;unfold jZ GU nP;grind [iB,lW,bR,aQ]))
theorem zD(f:aU)(hsz:f.sz≤4194304):aH Tryz.prog 163 [f.v] (.c (.d (.b (jZ f)))):=fun S=>by
 have hs:=aU.sum f
 have hV:∀s∈f.aK,s.length≤4194304:=fun s h=>by have:=F8 h;omega
 have hW:∀b∈f.bO,b.sz≤4194304:=fun b h=>by have:=Df h;omega
 have hP:∀p∈f.aS,p.sz≤4194304:=fun m h=>by have:=Dg h;omega
 have hpn:∀s∈nP f,s.length≤4194304:=fun t h=>by
  obtain⟨p,hp,e⟩:=List.mem_map.1 h
  have:=hP p hp
  have:=aP.sum p
  rw[←e];omega
 have hnl:(nP f).length=f.aS.length:=by simp[nP]
 have bad:∀i,∀hi:i<f.aS.length,gZ f.aK f.aS[i].fType=false→V.c (.d (.b false))=V.c (.d (.b (jZ f))):=fun i hi h=>aJ (by
  have:qy f.aK (GU f)=false:=Bool.eq_false_iff.2 fun hx=>by
   have:=List.all_eq_true.1 hx f.aS[i].fType (List.mem_map_of_mem (List.getElem_mem hi))
   rw[h] at this;cases this
  unfold jZ
  rw[this];simp)
 refine aC (rs:=[.tmp 2]) Tryz.checked.mixed Tryz.func163 Tryz.ntmps163 rfl rfl rfl rfl rfl ?_
 simp -implicitDefEqProofs (disch:=omega) only[go_sem]
 (repeat(with_reducible refine And.intro ?_ ?_;focus first|omega|rfl|assumption|exact⟨_,rfl,rfl⟩|(simp;omega)|(simp;done)))
 refine uX 3 1 [] rfl (by simp) ?_
 refine aV (ι:=Nat×List (List UInt8)) Tryz.checked.mixed rfl [1,3,4] (fun y=>[.c (.ptr (0,0) 0),.c (.bK (0,1) (y.2.map encS)),.c (.d (.i .i64 y.1))]) (fun y=>[.box (f.enc.map .d),.tok 1 (y.2.map encS)]::S)
  (fun y=>y.1≤f.aS.length∧y.2=(nP f).take y.1∧∀j,∀hj:j<f.aS.length,j<y.1→gZ f.aK f.aS[j].fType=true) (fun y=>f.aS.length-y.1) (0,[]) rfl ?_ ⟨Nat.zero_le _,rfl,fun j _ h=>by simp only at h;omega⟩ ?_
 ·simp -implicitDefEqProofs (disch:=omega) only[go_sem]
 rintro⟨i,names⟩ ⟨p1,p2,p3⟩
 simp only at p1 p2 p3
 have pl:names.length≤f.aS.length:=by rw[p2];simp[nP];omega
 simp -implicitDefEqProofs (disch:=omega) only[go_sem]
 with_reducible refine aA (fun hb=> ?_) (fun hb=> ?_)<;>have h:=hb<;>(try simp only[wf_preprocess] at h)<;>simp -implicitDefEqProofs (disch:=omega) only[go_sem,hb]<;>(repeat(with_reducible refine And.intro ?_ ?_;focus first|omega|rfl|assumption|exact⟨_,rfl,rfl⟩|(simp;omega)|(simp;done)))
 ·have hi:i<f.aS.length:=by omega
  have hp:=hP _ (List.getElem_mem hi)
  have hps:=aP.sum f.aS[i]
  (repeat(with_reducible refine And.intro ?_ ?_;focus first|omega|rfl|assumption|exact⟨_,rfl,rfl⟩|(simp;omega)|(simp;done)))
  refine ay (Ao f.aS[i].fType f.aK (by omega) (by omega)) ?_
  simp -implicitDefEqProofs (disch:=omega) only[go_sem]<;>(repeat(with_reducible refine And.intro ?_ ?_;focus first|omega|rfl|assumption|exact⟨_,rfl,rfl⟩|(simp;omega)|(simp;done)))
  with_reducible refine aA (fun hb=> ?_) (fun hb=> ?_)<;>have h:=hb<;>(try simp only[wf_preprocess] at h)<;>simp -implicitDefEqProofs (disch:=omega) only[go_sem,hb]<;>(repeat(with_reducible refine And.intro ?_ ?_;focus first|omega|rfl|assumption|exact⟨_,rfl,rfl⟩|(simp;omega)|(simp;done)))
  ·exact bad i hi h
  have k3:=h
  (repeat(with_reducible refine And.intro ?_ ?_;focus first|omega|rfl|assumption|exact⟨_,rfl,rfl⟩|(simp;omega)|(simp;done)))
  rw[show List.map encS names++[[D.s f.aS[i].fName]]=List.map encS (names++[f.aS[i].fName]) by simp[encS]]
  exact bH (i+1,names++[f.aS[i].fName]) (by simp only;omega) rfl rfl ⟨by simp only;omega,by simp only;rw[p2,qz (by simpa [nP] using hi)];simp[nP],fun j hj hji=>by
   simp only at hji
   by_cases e:j=i
   ·subst e;exact k3
   ·exact p3 j hj (by omega)⟩
 have hi:i=f.aS.length:=by omega
 have hn:names=nP f:=by rw[p2,List.take_of_length_le (by simp[nP];omega)]
 have hall:qy f.aK (GU f)=true:=List.all_eq_true.2 fun c hc=>by
  obtain⟨p,hp,e⟩:=List.mem_map.1 hc
  obtain⟨j,hj,e'⟩:=List.getElem_of_mem hp
  rw[←e,←e'];exact p3 j hj (by omega)
 clear p2 p3 bad
 subst hn
 repeat' (first
  |with_reducible refine aA (fun hb=> ?_) (fun hb=> ?_)<;>have h:=hb<;>(try simp only[wf_preprocess] at h)<;>simp -implicitDefEqProofs (disch:=omega) only[go_sem,hb]<;>(repeat(with_reducible refine And.intro ?_ ?_;focus first|omega|rfl|assumption|exact⟨_,rfl,rfl⟩|(simp;omega)|(simp;done)))
  |((with_reducible show fO _ _ 152 _ _ _ _);refine ay (iZ f.fName (by omega)) ?_;simp -implicitDefEqProofs (disch:=omega) only[go_sem])
  |((with_reducible show fO _ _ 153 _ _ _ _);refine ay (DW f.aK 3 (by omega) hV) ?_;simp -implicitDefEqProofs (disch:=omega) only[go_sem])
  |((with_reducible show fO _ _ 252 _ _ _ _);refine ay (OZ f.bO f.aK (by omega) hW (by omega)) ?_;simp -implicitDefEqProofs (disch:=omega) only[go_sem])
  |((with_reducible show fO _ _ 153 _ _ _ _);refine ay (DW (nP f) 5 (by omega) hpn) ?_;simp -implicitDefEqProofs (disch:=omega) only[go_sem])
  |((with_reducible show fO _ _ 250 _ _ _ _);refine ay (Ao f.bq f.aK (by omega) (by omega)) ?_;simp -implicitDefEqProofs (disch:=omega) only[go_sem])
  |((with_reducible show fO _ _ 255 _ _ _ _);refine ay (SK (nP f) f.fBody (by omega) (by omega)) ?_;simp -implicitDefEqProofs (disch:=omega) only[go_sem])
  |(refine aJ ?_;unfold jZ vI;grind [iB,lW,bR,aQ]))
end Go.Proofs.YtlmhknhlmicmeaaGreatDoor
namespace Go.Ab
def AA(n:Nat)(s:St):St:=match s.st with
 |(.seed _::own)::Ω=>⟨s.tm,(.seed n::own)::Ω⟩
 |_=>s
theorem Ip{N:Nat}(n:Nat)(s:St):fE N s (AA n s):=by
 obtain⟨tm,st⟩:=s
 unfold AA
 split
 ·rename_i h;simp only at h;subst h;exact wZ n
 ·exact fE.refl _ _
theorem O1{n m:Nat}{tm:List (Nat×V)}{own:List Obj}{Ω:Store}:AA n ⟨tm,(.seed m::own)::Ω⟩=⟨tm,(.seed n::own)::Ω⟩:=rfl
def YK(j p n:Nat)(s:St):St:=AA n (Kz j p s)
theorem O3{N:Nat}(j p n:Nat)(s:St):fE N s (YK j p n s):=(DI j p s).trans (Ip n _)
attribute [go_sem] YK O1
def PZ:List UInt8:=[102,110]
def sM(b:aN):ah:=fC [bg b.aY,eD b.fType]
def lG(b:aP):ah:=fC [bg b.fName,eD b.fType]
def Bd(f:aU):ah:=fC [bg PZ,bg f.fName,fC (aX f.aK),fC (f.bO.map sM),fC (f.aS.map lG),eD f.bq,dW f.fBody]
noncomputable def Nr(f:aU):ah:=Ad (jZ f) (Bd f)
theorem aai{f:aU}(h:f.sz≤1048576):(Nr f).sz≤1048576:=Nat.le_trans (ZA _ _) (by decide)
theorem abG(b:aN):(sM b).sz≤14+16*b.sz:=by
 have:=BF b.fType
 have:=aN.sum b
 rw[sM,rZ];simp[dG,kT];omega
theorem Yh(b:aP):(lG b).sz≤14+16*b.sz:=by
 have:=BF b.fType
 have:=aP.sum b
 rw[lG,rZ];simp[dG,kT];omega
theorem P5:∀l:List aN,dG (l.map sM)≤14*l.length+16*bG (l.map aN.enc)
 |[]=>by simp[dG]
 |c::l=>by
  have h1:=abG c
  have h2:=P5 l
  rw[List.map_cons,dG,List.map_cons,bG,List.length_cons];simp only[aN.sz] at h1;omega
theorem JI:∀l:List aP,dG (l.map lG)≤14*l.length+16*bG (l.map aP.enc)
 |[]=>by simp[dG]
 |c::l=>by
  have h1:=Yh c
  have h2:=JI l
  rw[List.map_cons,dG,List.map_cons,bG,List.length_cons];simp only[aP.sz] at h1;omega
theorem Vy{f:aU}(hok:fT f.fBody=true):(Bd f).sz≤60+32*f.sz:=by
 have h1:=P5 f.bO
 have h2:=JI f.aS
 have h3:=BF f.bq
 have h4:=MU f.fBody hok
 have h5:=aU.sum f
 rw[oO] at h5
 rw[Bd,rZ]
 simp[dG,kT,rZ,kJ,BD,PZ];omega
theorem Dq{vars:List (List UInt8)}{bs:List aN}(h:nu vars bs=true):∀b∈bs,formed b.fType=true:=fun b hb=>by
 unfold nu at h
 rw[Bool.and_eq_true] at h
 have h2:=List.all_eq_true.1 h.2 b hb
 unfold jH at h2
 simp only[Bool.and_eq_true] at h2
 exact qb h2.1.2
theorem GV{vars:List (List UInt8)}{t:aj}(h:gZ vars t=true):formed t=true:=by
 unfold gZ at h
 rw[Bool.and_eq_true] at h
 exact qb h.1
theorem Vz{vars:List (List UInt8)}{e:au}(h:vI vars e=true):fT e=true:=by
 unfold vI zC at h
 simp only[Bool.and_eq_true] at h
 exact Nk h.2.1
theorem ru{f:aU}(h:jZ f=true):(∀b∈f.bO,formed b.fType=true)∧(∀q∈f.aS,formed q.fType=true)∧formed f.bq=true∧fT f.fBody=true:=by
 unfold jZ at h
 simp only[Bool.and_eq_true] at h
 obtain⟨_,_,_,h1,_,h2,h3,h4⟩:=h
 exact⟨Dq h1,fun q hq=>qV.1 (Ez h2) _ (List.mem_map_of_mem hq),GV h3,Vz h4⟩
end Go.Ab
namespace Go.Proofs.YtlmhknhlmicmeaaGreatDoor
open Go Go.Ab
theorem Ke(xs:List aN)(n:Nat)(hfo:∀b∈xs,formed b.fType=true)(hlen:xs.length≤4194304)(hsz:∀b∈xs,b.sz≤4194304):aH Tryz.prog 176 [.c (.d (.sl (xs.map aN.enc)))] (.agg [.d (.s []),.d (.ol n (lx (xs.map sM) (n+1)))]):=fun S=>by
 obtain⟨L,hL⟩:∃L:Nat→Nat,L=fun i=>n+1+gH ((xs.map sM).take i):=⟨_,rfl⟩
 obtain⟨T,hT⟩:∃T:Nat→List (List D),T=fun i=>lx ((xs.map sM).take i) (n+1):=⟨_,rfl⟩
 have hT0:T 0=[]:=by rw[hT];rfl
 have nC:∀i,(T i).length≤i:=fun i=>by
  rw[hT];simp only[gD]
  exact List.length_take_le _ _
 have hTs:∀i (hi:i<xs.length),T i++[[.s [],.ol (L i) [[.s xs[i].aY,.ol (L i+1) []],[.s (eD xs[i].fType).aT,.ol (L i+1+1) (lx (eD xs[i].fType).ak (L i+1+1+1))]]]]=T (i+1):=fun i hi=>by
  have:=Aq (l:=xs.map sM) (i:=i) (by rw[List.length_map];exact hi) (n+1)
  rw[List.getElem_map,sM,eP,dL,oU,oU,vw,sH,oQ,sI] at this
  rw[hT,hL];exact this
 have hTe:T xs.length=lx (xs.map sM) (n+1):=by
  rw[hT];simp only
  rw[List.take_of_length_le (by simp)]
 clear hT hL
 refine Ae (n) 1 (rs:=[.cell 2 32]) Tryz.checked.mixed Tryz.func176 Tryz.ntmps176 rfl rfl rfl rfl rfl ?_
 simp -implicitDefEqProofs (disch:=omega) only[go_sem]
 (repeat(with_reducible refine And.intro ?_ ?_;focus first|omega|rfl|assumption|exact⟨_,rfl,rfl⟩|(simp;omega)|(simp;done)))
 refine oM n 3 2 [] (.inl rfl) (by simp) ?_
 refine IW (L 0) ?_
 refine aV (ι:=Nat) Tryz.checked.mixed rfl [2,3,7,8,9] (fun i=>[.c (.ptr (0,2) 0),.c (.bK (0,3) (T i)),.c (.d (.sl (xs.map aN.enc))),.c (.d (.i .i64 xs.length)),.c (.d (.i .i64 i))])
  (fun i=>[.seed (L i),.seed 1,.box [.d (.s []),.aL []],.eu n 2 (T i)]::S)
  (fun i=>i≤xs.length) (fun i=>xs.length-i) 0 (by rw[hT0];rfl) (by rw[hT0];rfl) (Nat.zero_le _) ?_
 intro i hi
 have hl:=nC i
 simp -implicitDefEqProofs (disch:=omega) only[go_sem]
 with_reducible refine aA (fun hb=> ?_) (fun hb=> ?_)<;>have h:=hb<;>(try simp only[wf_preprocess] at h)<;>simp -implicitDefEqProofs (disch:=omega) only[go_sem,hb]<;>(repeat(with_reducible refine And.intro ?_ ?_;focus first|omega|rfl|assumption|exact⟨_,rfl,rfl⟩|(simp;omega)|(simp;done)))
 ·have hi':i<xs.length:=by omega
  have hm:=List.getElem_mem hi'
  have hcz:=hsz _ hm
  have hce:=aN.sum xs[i]
  have hs:=hTs i hi'
  (repeat(with_reducible refine And.intro ?_ ?_;focus first|omega|rfl|assumption|exact⟨_,rfl,rfl⟩|(simp;omega)|(simp;done)))
  refine ay (eT _ (L i+1)) ?_
  simp -implicitDefEqProofs (disch:=omega) only[go_sem]
  refine ay (wH xs[i].fType (L i+1+1) (hfo _ hm) (by omega)) ?_
  simp -implicitDefEqProofs (disch:=omega) only[go_sem]
  (repeat(with_reducible refine And.intro ?_ ?_;focus first|omega|rfl|assumption|exact⟨_,rfl,rfl⟩|(simp;omega)|(simp;done)))
  refine ay (tu _ _) ?_
  simp -implicitDefEqProofs (disch:=omega) only[go_sem]
  (repeat(with_reducible refine And.intro ?_ ?_;focus first|omega|rfl|assumption|exact⟨_,rfl,rfl⟩|(simp;omega)|(simp;done)))
  rw[hs]
  refine Mj (L (i+1)) 3 (by decide) (i+1) (by omega) rfl rfl ?_ rfl (by omega)
  simp[lg,iq,V.refs,C.refs,mh]
 ·have hi':i=xs.length:=by omega
  refine bf rfl (kg 0 3 _ _) ?_
  simp -implicitDefEqProofs (disch:=omega) only[go_sem]
  rw[hi',hTe]
theorem Kg(f:aU)(n:Nat)(hv:jZ f=true)(hsz:f.sz≤1048576):aH Tryz.prog 72 [f.v] (.agg [.d (.s []),.d (.ol n (lx (Bd f).ak (n+1)))]):=fun S=>by
 have hdz:=aU.sum f
 rw[oO] at hdz
 obtain⟨hf1,hf2,hf3,YL⟩:=ru hv
 obtain⟨p,hp⟩:∃p:Nat,p=n+1+1+1+xG (fC (aX f.aK))+xG (fC (f.bO.map sM)):=⟨_,rfl⟩
 obtain⟨L,hL⟩:∃L:Nat→Nat,L=fun i=>p+1+gH ((f.aS.map lG).take i):=⟨_,rfl⟩
 obtain⟨T,hT⟩:∃T:Nat→List (List D),T=fun i=>lx ((f.aS.map lG).take i) (p+1):=⟨_,rfl⟩
 have hT0:T 0=[]:=by rw[hT];rfl
 have nC:∀i,(T i).length≤i:=fun i=>by
  rw[hT];simp only[gD]
  exact List.length_take_le _ _
 have hTs:∀i (hi:i<f.aS.length),T i++[[.s [],.ol (L i) [[.s f.aS[i].fName,.ol (L i+1) []],[.s (eD f.aS[i].fType).aT,.ol (L i+1+1) (lx (eD f.aS[i].fType).ak (L i+1+1+1))]]]]=T (i+1):=fun i hi=>by
  have:=Aq (l:=f.aS.map lG) (i:=i) (by rw[List.length_map];exact hi) (p+1)
  rw[List.getElem_map,lG,eP,dL,oU,oU,vw,sH,oQ,sI] at this
  rw[hT,hL];exact this
 have hTe:T f.aS.length=lx (f.aS.map lG) (p+1):=by
  rw[hT];simp only
  rw[List.take_of_length_le (by simp)]
 clear hT hL
 refine Ae (p) 1 (rs:=[.cell 2 32]) Tryz.checked.mixed Tryz.func72 Tryz.ntmps72 rfl rfl rfl rfl rfl ?_
 simp -implicitDefEqProofs (disch:=omega) only[go_sem]
 (repeat(with_reducible refine And.intro ?_ ?_;focus first|omega|rfl|assumption|exact⟨_,rfl,rfl⟩|(simp;omega)|(simp;done)))
 refine oM p 3 2 [] (.inl rfl) (by simp) ?_
 refine IW (L 0) ?_
 refine Fx (O3 4 p n) ?_
 refine aV (ι:=Nat) Tryz.checked.mixed rfl [1,2,3,8,9,10] (fun i=>[.c (.ptr (0,2) 0),.c (.ptr (0,3) 0),.c (.bK (0,4) (T i)),.c (.d (.sl (f.aS.map aP.enc))),.c (.d (.i .i64 f.aS.length)),.c (.d (.i .i64 i))])
  (fun i=>[.seed (L i),.seed 1,.box [.d (.s f.fName),.d (.sl (f.aK.map encS)),.d (.sl (f.bO.map aN.enc)),.d (.sl (f.aS.map aP.enc)),.d (.i .i64 f.bq.aG),.d (.s f.bq.fName),.d (.sl (f.bq.fArgs.map aj.enc)),.d (.i .i64 f.fBody.aG),.d (.s f.fBody.aY),.d (.s f.fBody.fName),.d (.i .i64 f.fBody.fN),.d (.i .i64 f.fBody.fType.aG),.d (.s f.fBody.fType.fName),.d (.sl (f.fBody.fType.fArgs.map aj.enc)),.d (.sl (f.fBody.fArgs.map au.enc)),.d (.sl (f.fBody.aI.map aF.enc))],.box [.d (.s []),.aL []],.eu p 2 (T i)]::S)
  (fun i=>i≤f.aS.length) (fun i=>f.aS.length-i) 0 (by rw[hT0];rfl) (by rw[hT0];rfl) (Nat.zero_le _) ?_
 intro i hi
 have hl:=nC i
 simp -implicitDefEqProofs (disch:=omega) only[go_sem]
 with_reducible refine aA (fun hb=> ?_) (fun hb=> ?_)<;>have h:=hb<;>(try simp only[wf_preprocess] at h)<;>simp -implicitDefEqProofs (disch:=omega) only[go_sem,hb]<;>(repeat(with_reducible refine And.intro ?_ ?_;focus first|omega|rfl|assumption|exact⟨_,rfl,rfl⟩|(simp;omega)|(simp;done)))
 ·have hi':i<f.aS.length:=by omega
  have hm:=List.getElem_mem hi'
  have hcz:=Dg hm
  have hce:=aP.sum f.aS[i]
  have hs:=hTs i hi'
  (repeat(with_reducible refine And.intro ?_ ?_;focus first|omega|rfl|assumption|exact⟨_,rfl,rfl⟩|(simp;omega)|(simp;done)))
  refine ay (eT _ (L i+1)) ?_
  simp -implicitDefEqProofs (disch:=omega) only[go_sem]
  refine ay (wH f.aS[i].fType (L i+1+1) (hf2 _ hm) (by omega)) ?_
  simp -implicitDefEqProofs (disch:=omega) only[go_sem]
  (repeat(with_reducible refine And.intro ?_ ?_;focus first|omega|rfl|assumption|exact⟨_,rfl,rfl⟩|(simp;omega)|(simp;done)))
  refine ay (tu _ _) ?_
  simp -implicitDefEqProofs (disch:=omega) only[go_sem]
  (repeat(with_reducible refine And.intro ?_ ?_;focus first|omega|rfl|assumption|exact⟨_,rfl,rfl⟩|(simp;omega)|(simp;done)))
  rw[hs]
  refine Mj (L (i+1)) 4 (by decide) (i+1) (by omega) rfl rfl ?_ rfl (by omega)
  simp[lg,iq,V.refs,C.refs,mh]
 ·have hi':i=f.aS.length:=by omega
  subst hi'
  rw[hTe]
  refine ay (eT _ (n+1)) ?_
  simp -implicitDefEqProofs (disch:=omega) only[go_sem]
  refine ay (eT _ (n+1+1)) ?_
  simp -implicitDefEqProofs (disch:=omega) only[go_sem]
  refine ay (Ey f.aK (by omega) (n+1+1+1)) ?_
  simp -implicitDefEqProofs (disch:=omega) only[go_sem]
  refine ay (Ke f.bO (n+1+1+1+xG (fC (aX f.aK))) hf1 (by omega) (fun b hb=>by have:=Df hb;omega)) ?_
  simp -implicitDefEqProofs (disch:=omega) only[go_sem]
  refine ay (wF _) ?_
  simp -implicitDefEqProofs (disch:=omega) only[go_sem]
  refine ay (wH f.bq (p+xG (fC (f.aS.map lG))) hf3 (by omega)) ?_
  simp -implicitDefEqProofs (disch:=omega) only[go_sem]
  refine ay (Sy f.fBody (p+xG (fC (f.aS.map lG))+xG (eD f.bq)) YL (by omega)) ?_
  simp -implicitDefEqProofs (disch:=omega) only[go_sem]
  (repeat(with_reducible refine And.intro ?_ ?_;focus first|omega|rfl|assumption|exact⟨_,rfl,rfl⟩|(simp;omega)|(simp;done)))
  refine ay (tu _ _) ?_
  simp -implicitDefEqProofs (disch:=omega) only[go_sem]
  rw[Bd,dL]
  simp only[oU,vw,oQ,wB,wC,eP,dL,sI,←hp,PZ]
theorem Ns(xs:List aN)(hlen:xs.length≤4194304)(hsz:∀b∈xs,b.sz≤4194304):aH Tryz.prog 162 [.c (.d (.sl (xs.map aN.enc)))] (.agg [.d (.s []),.d (.sl ((xs.map sM).map ah.enc))]):=fun S=>by
 obtain⟨T,hT⟩:∃T:Nat→List (List D),T=fun i=>((xs.map sM).take i).map ah.enc:=⟨_,rfl⟩
 have hT0:T 0=[]:=by rw[hT];rfl
 have nC:∀i,(T i).length≤i:=fun i=>by
  rw[hT];simp only[List.length_map]
  exact List.length_take_le _ _
 have hTs:∀i (hi:i<xs.length),T i++[[.s [],.sl [[.s xs[i].aY,.sl []],[.s (eD xs[i].fType).aT,.sl ((eD xs[i].fType).ak.map ah.enc)]]]]=T (i+1):=fun i hi=>by
  have:=mQ (base:=[]) (l:=xs.map sM) (i:=i) (by rw[List.length_map];exact hi)
  rw[List.getElem_map,sM,eP,dL,List.map_cons,List.map_cons,List.map_nil,gL,ah.aD (eD xs[i].fType)] at this
  rw[hT];exact this
 have hTe:T xs.length=(xs.map sM).map ah.enc:=by
  rw[hT];simp only
  rw[List.take_of_length_le (by simp)]
 clear hT
 refine aC (rs:=[.cell 2 32]) Tryz.checked.mixed Tryz.func162 Tryz.ntmps162 rfl rfl rfl rfl rfl ?_
 simp -implicitDefEqProofs (disch:=omega) only[go_sem]
 refine uZ 1 1 2 [] [.d (.s []),.aL []] rfl rfl (by simp) ?_
 refine aV (ι:=Nat) Tryz.checked.mixed rfl [0,2,3,4] (fun i=>[.c (.d (.sl (xs.map aN.enc))),.c (.ptr (0,0) 0),.c (.ptr (0,1) 0),.c (.d (.i .i64 i))])
  (fun i=>[.box [.d (.s []),.aL []],.box [.d (.s []),.bK (0,2) (T i)],.tok 2 (T i)]::S)
  (fun i=>i≤xs.length) (fun i=>xs.length-i) 0 rfl (by rw[hT0];rfl) (Nat.zero_le _) ?_
 intro i hi
 have hl:=nC i
 simp -implicitDefEqProofs (disch:=omega) only[go_sem]
 with_reducible refine aA (fun hb=> ?_) (fun hb=> ?_)<;>have h:=hb<;>(try simp only[wf_preprocess] at h)<;>simp -implicitDefEqProofs (disch:=omega) only[go_sem,hb]<;>(repeat(with_reducible refine And.intro ?_ ?_;focus first|omega|rfl|assumption|exact⟨_,rfl,rfl⟩|(simp;omega)|(simp;done)))
 ·have hi':i<xs.length:=by omega
  have hm:=List.getElem_mem hi'
  have hcz:=hsz _ hm
  have hce:=aN.sum xs[i]
  have hs:=hTs i hi'
  (repeat(with_reducible refine And.intro ?_ ?_;focus first|omega|rfl|assumption|exact⟨_,rfl,rfl⟩|(simp;omega)|(simp;done)))
  refine ay (bV _) ?_
  simp -implicitDefEqProofs (disch:=omega) only[go_sem]
  (repeat(with_reducible refine And.intro ?_ ?_;focus first|omega|rfl|assumption|exact⟨_,rfl,rfl⟩|(simp;omega)|(simp;done)))
  refine ay (yB xs[i].fType (by omega)) ?_
  simp -implicitDefEqProofs (disch:=omega) only[go_sem]
  (repeat(with_reducible refine And.intro ?_ ?_;focus first|omega|rfl|assumption|exact⟨_,rfl,rfl⟩|(simp;omega)|(simp;done)))
  refine ay (uO _ (by simp) (by simp)) ?_
  simp -implicitDefEqProofs (disch:=omega) only[go_sem]
  (repeat(with_reducible refine And.intro ?_ ?_;focus first|omega|rfl|assumption|exact⟨_,rfl,rfl⟩|(simp;omega)|(simp;done)))
  rw[hs]
  exact bH (i+1) (by omega) rfl rfl (by omega)
 ·have hi':i=xs.length:=by omega
  subst hi'
  rw[hTe]
theorem VA(f:aU)(hsz:f.sz≤1048576):aH Tryz.prog 59 [f.v] (Nr f).v:=by
 unfold Nr
 cases hv:jZ f with
 |false=>
  rw[Ad]
  refine aH.less (fun S=> ?_) (Ij [] [])
  refine aC (rs:=[.cell 2 32]) Tryz.checked.mixed Tryz.func59 Tryz.ntmps59 rfl rfl rfl rfl rfl ?_
  simp -implicitDefEqProofs (disch:=omega) only[go_sem]
  refine ay (zD f (by omega)) ?_
  simp -implicitDefEqProofs (disch:=omega) only[go_sem,hv]
 |true=>
  intro S
  have hdz:=aU.sum f
  rw[oO] at hdz
  obtain⟨hf1,hf2,hf3,YL⟩:=ru hv
  have hz:=Vy YL
  obtain⟨T,hT⟩:∃T:Nat→List (List D),T=fun i=>((f.aS.map lG).take i).map ah.enc:=⟨_,rfl⟩
  have hT0:T 0=[]:=by rw[hT];rfl
  have nC:∀i,(T i).length≤i:=fun i=>by
   rw[hT];simp only[List.length_map]
   exact List.length_take_le _ _
  have hTs:∀i (hi:i<f.aS.length),T i++[[.s [],.sl [[.s f.aS[i].fName,.sl []],[.s (eD f.aS[i].fType).aT,.sl ((eD f.aS[i].fType).ak.map ah.enc)]]]]=T (i+1):=fun i hi=>by
   have:=mQ (base:=[]) (l:=f.aS.map lG) (i:=i) (by rw[List.length_map];exact hi)
   rw[List.getElem_map,lG,eP,dL,List.map_cons,List.map_cons,List.map_nil,gL,ah.aD (eD f.aS[i].fType)] at this
   rw[hT];exact this
  have hTe:T f.aS.length=(f.aS.map lG).map ah.enc:=by
   rw[hT];simp only
   rw[List.take_of_length_le (by simp)]
  clear hT
  refine aC (rs:=[.cell 2 32]) Tryz.checked.mixed Tryz.func59 Tryz.ntmps59 rfl rfl rfl rfl rfl ?_
  simp -implicitDefEqProofs (disch:=omega) only[go_sem]
  refine ay (zD f (by omega)) ?_
  simp -implicitDefEqProofs (disch:=omega) only[go_sem,hv]
  refine uZ 2 1 2 [] [.d (.s []),.aL []] rfl rfl (by simp) ?_
  refine aV (ι:=Nat) Tryz.checked.mixed rfl [1,2,3,4] (fun i=>[.c (.ptr (0,0) 0),.c (.ptr (0,1) 0),.c (.ptr (0,2) 0),.c (.d (.i .i64 i))])
   (fun i=>[.box [.d (.s f.fName),.d (.sl (f.aK.map encS)),.d (.sl (f.bO.map aN.enc)),.d (.sl (f.aS.map aP.enc)),.d (.i .i64 f.bq.aG),.d (.s f.bq.fName),.d (.sl (f.bq.fArgs.map aj.enc)),.d (.i .i64 f.fBody.aG),.d (.s f.fBody.aY),.d (.s f.fBody.fName),.d (.i .i64 f.fBody.fN),.d (.i .i64 f.fBody.fType.aG),.d (.s f.fBody.fType.fName),.d (.sl (f.fBody.fType.fArgs.map aj.enc)),.d (.sl (f.fBody.fArgs.map au.enc)),.d (.sl (f.fBody.aI.map aF.enc))],.box [.d (.s []),.aL []],.box [.d (.s []),.bK (0,3) (T i)],.tok 2 (T i)]::S)
   (fun i=>i≤f.aS.length) (fun i=>f.aS.length-i) 0 rfl (by rw[hT0];rfl) (Nat.zero_le _) ?_
  intro i hi
  have hl:=nC i
  simp -implicitDefEqProofs (disch:=omega) only[go_sem]
  with_reducible refine aA (fun hb=> ?_) (fun hb=> ?_)<;>have h:=hb<;>(try simp only[wf_preprocess] at h)<;>simp -implicitDefEqProofs (disch:=omega) only[go_sem,hb]<;>(repeat(with_reducible refine And.intro ?_ ?_;focus first|omega|rfl|assumption|exact⟨_,rfl,rfl⟩|(simp;omega)|(simp;done)))
  ·have hi':i<f.aS.length:=by omega
   have hm:=List.getElem_mem hi'
   have hcz:=Dg hm
   have hce:=aP.sum f.aS[i]
   have hs:=hTs i hi'
   (repeat(with_reducible refine And.intro ?_ ?_;focus first|omega|rfl|assumption|exact⟨_,rfl,rfl⟩|(simp;omega)|(simp;done)))
   refine ay (bV _) ?_
   simp -implicitDefEqProofs (disch:=omega) only[go_sem]
   (repeat(with_reducible refine And.intro ?_ ?_;focus first|omega|rfl|assumption|exact⟨_,rfl,rfl⟩|(simp;omega)|(simp;done)))
   refine ay (yB f.aS[i].fType (by omega)) ?_
   simp -implicitDefEqProofs (disch:=omega) only[go_sem]
   (repeat(with_reducible refine And.intro ?_ ?_;focus first|omega|rfl|assumption|exact⟨_,rfl,rfl⟩|(simp;omega)|(simp;done)))
   refine ay (uO _ (by simp) (by simp)) ?_
   simp -implicitDefEqProofs (disch:=omega) only[go_sem]
   (repeat(with_reducible refine And.intro ?_ ?_;focus first|omega|rfl|assumption|exact⟨_,rfl,rfl⟩|(simp;omega)|(simp;done)))
   rw[hs]
   exact bH (i+1) (by omega) rfl rfl (by omega)
  ·have hi':i=f.aS.length:=by omega
   subst hi'
   rw[hTe]
   refine ay (bV _) ?_
   simp -implicitDefEqProofs (disch:=omega) only[go_sem]
   refine ay (bV _) ?_
   simp -implicitDefEqProofs (disch:=omega) only[go_sem]
   refine ay (Gl f.aK (by omega)) ?_
   simp -implicitDefEqProofs (disch:=omega) only[go_sem]
   refine ay (Ns f.bO (by omega) (fun b hb=>by have:=Df hb;omega)) ?_
   simp -implicitDefEqProofs (disch:=omega) only[go_sem]
   refine ay (yB f.bq (by omega)) ?_
   simp -implicitDefEqProofs (disch:=omega) only[go_sem]
   refine ay (Vu f.fBody YL (by omega)) ?_
   simp -implicitDefEqProofs (disch:=omega) only[go_sem]
   (repeat(with_reducible refine And.intro ?_ ?_;focus first|omega|rfl|assumption|exact⟨_,rfl,rfl⟩|(simp;omega)|(simp;done)))
   refine ay (uO _ (by simp) (by simp)) ?_
   simp -implicitDefEqProofs (disch:=omega) only[go_sem]
   (repeat(with_reducible refine And.intro ?_ ?_;focus first|omega|rfl|assumption|exact⟨_,rfl,rfl⟩|(simp;omega)|(simp;done)))
   have hI:=U4 true (Bd f) (by omega)
   have hx:(Bd f).v=V.agg [.d (.s []),.d (.sl [[.s [102,110],.sl []],[.s f.fName,.sl []],[.s [],.sl ((aX f.aK).map ah.enc)],[.s [],.sl ((f.bO.map sM).map ah.enc)],[.s [],.sl ((f.aS.map lG).map ah.enc)],[.s (eD f.bq).aT,.sl ((eD f.bq).ak.map ah.enc)],[.s (dW f.fBody).aT,.sl ((dW f.fBody).ak.map ah.enc)]])]:=by
    rw[Bd]
    show V.agg [.d (.s []),.d (.sl (List.map ah.enc _))]=_
    simp only[dL,List.map_cons,List.map_nil,gL,X4,ah.aD (eD f.bq),ah.aD (dW f.fBody),PZ]
   rw[hx] at hI
   refine ay hI ?_
   simp -implicitDefEqProofs (disch:=omega) only[go_sem]
end Go.Proofs.YtlmhknhlmicmeaaGreatDoor
namespace Go.Ab
abbrev gX (l:List ah) (i:Nat):ah:=l.getD i eZ
theorem Nt(l:List ah):dG l=(gX l 0).sz+dG (l.drop 1):=by
 cases l with
 |nil=>simp[dG,gX,EB]
 |cons x l=>rw[dG,List.drop_succ_cons,List.drop_zero];rfl
theorem P6(l:List ah)(k i:Nat):gX (l.drop k) i=gX l (k+i):=by
 simp[gX,List.getD_eq_getElem?_getD,List.getElem?_drop]
theorem Cy(l:List ah):dG l=(gX l 0).sz+(gX l 1).sz+(gX l 2).sz+(gX l 3).sz+(gX l 4).sz+(gX l 5).sz+(gX l 6).sz+dG (l.drop 7):=by
 have h:∀k,dG (l.drop k)=(gX l k).sz+dG (l.drop (k+1)):=fun k=>by
  rw[Nt (l.drop k),P6,Nat.add_zero,List.drop_drop]
 have h0:=h 0
 rw[List.drop_zero] at h0
 have h1:=h 1;have h2:=h 2;have h3:=h 3;have h4:=h 4;have h5:=h 5;have h6:=h 6
 simp only[Nat.reduceAdd] at *
 omega
theorem Nu(l:List ah):dG l=(gX l 0).sz+(gX l 1).sz+(gX l 2).sz+(gX l 3).sz+dG (l.drop 4):=by
 have h:=Cy l
 have h1:=Cy (l.drop 4)
 have e:∀k,dG (l.drop k)=(gX l k).sz+dG (l.drop (k+1)):=fun k=>by
  rw[Nt (l.drop k),P6,Nat.add_zero,List.drop_drop]
 have h4:=e 4;have h5:=e 5;have h6:=e 6
 simp only[Nat.reduceAdd] at *
 omega
theorem SN(l:List ah)(i:Nat):bY l i=(gX l i).aT:=rfl
theorem AB(x:ah):x.aT.length+(x.ak.length+dG x.ak)=x.sz:=by rw[jo,kY]
theorem abH{α:Type}{x:ah}{dT dF:α}{valid:α→Bool}{sx:α→ah}{head:Prop}(hx:x.ak≠[])(hd:∀a,valid a=true→sx a=x→dT=a∧dF=a)(hh:∀a,sx a=x→head):
 dec (iL x=true∧head∧valid dT=true∧sx dT=x)=(iL x&&dec (Ad (valid dF) (sx dF)=x)):=by
 cases hv:iL x with
 |false=>exact aQ fun h=>by cases h.1
 |true=>
  rw[Bool.true_and]
  refine kF ⟨fun⟨_,h2,h3,h4⟩=> ?_,fun h=> ?_⟩
  ·have e:=(hd _ h3 h4).2
   rw[e,h3,h4,Ad,Me,if_pos hv]
  ·obtain⟨h1,h2,_⟩:=X7 h hx
   have e:=(hd _ h1 h2).1
   rw[e]
   exact⟨rfl,hh _ h2,h1,h2⟩
def kZ(b:Bool)(y:ah):aN:=if b=true∧y.ak.length≠2 then⟨[],gK⟩ else⟨bY y.ak 0,dP b (gX y.ak 1)⟩
def jF(b:Bool)(y:ah):aP:=if b=true∧y.ak.length≠2 then⟨[],gK⟩ else⟨bY y.ak 0,dP b (gX y.ak 1)⟩
def P7(l:List ah)(i:Nat):List (List UInt8):=iP (gX l i).ak
def uG(b:Bool)(x:ah):aU:=
 ⟨bY x.ak 1,P7 x.ak 2,(gX x.ak 3).ak.map (kZ b),(gX x.ak 4).ak.map (jF b),dP b (gX x.ak 5),dz b (gX x.ak 6)⟩
theorem aaj(b:Bool){c:aN}(h:formed c.fType=true):kZ b (sM c)=c:=by
 unfold kZ
 rw[if_neg (by simp[sM,dL])]
 show aN.mk c.aY (dP b (eD c.fType))=c
 rw[zA b _ h]
theorem VB(b:Bool){c:aP}(h:formed c.fType=true):jF b (lG c)=c:=by
 unfold jF
 rw[if_neg (by simp[lG,dL])]
 show aP.mk c.fName (dP b (eD c.fType))=c
 rw[zA b _ h]
theorem Nv{α β:Type}{f:α→β}{g:β→α}{l:List α}(h:∀a∈l,g (f a)=a):(l.map f).map g=l:=by
 rw[List.map_map,show l.map (g∘f)=l.map id from List.map_congr_left (fun c hc=>h c hc),List.map_id]
theorem Nw{f:aU}(h:jZ f=true):∀v∈f.aK,v≠[]:=by
 unfold jZ at h
 simp only[Bool.and_eq_true] at h
 exact PK h.2.2.1
theorem Iq(b:Bool){f:aU}(h:jZ f=true):uG b (Bd f)=f:=by
 obtain⟨h1,h2,h3,h4⟩:=ru h
 show aU.mk f.fName (iP (aX f.aK)) ((f.bO.map sM).map (kZ b)) ((f.aS.map lG).map (jF b)) (dP b (eD f.bq)) (dz b (dW f.fBody))=f
 rw[Cb (Nw h),Nv fun c hc=>aaj b (h1 c hc),Nv fun c hc=>VB b (h2 c hc),zA b _ h3,Ik b _ h4]
noncomputable def okF(x:ah):Bool:=dec (iL x=true∧(7≤x.ak.length∧bY x.ak 0=PZ)∧jZ (uG true x)=true∧Bd (uG true x)=x)
theorem Yi{x:ah}(hx:x.ak≠[]):okF x=(iL x&&dec (Nr (uG false x)=x)):=
 abH hx (fun a h1 h2=>by rw[←h2];exact⟨Iq true h1,Iq false h1⟩) fun a h=>by rw[←h];exact⟨Nat.le_refl _,rfl⟩
theorem Yj{x:ah}(h:okF x=true):uG false x=uG true x:=by
 have h1:=iB h
 conv=>lhs;rw[←h1.2.2.2]
 exact Iq false h1.2.2.1
def Dh:aU:=⟨[],[],[],[],gK,qB⟩
noncomputable def vJ(x:ah):aU:=if okF x=true then uG true x else Dh
theorem aak(b:Bool)(y:ah):(kZ b y).sz≤y.sz:=by
 have h:=zx b (gX y.ak 1)
 have h1:=Nu y.ak
 have h2:=AB y
 have h3:=AB (gX y.ak 0)
 unfold kZ
 split
 ·simp only[aN.sz,aN.aD,bM,bN,D.sz,aj.dB,xK];simp
 ·simp only[aN.sz,aN.aD,bM,bN,D.sz,aj.dB,SN];omega
theorem VD(b:Bool)(y:ah):(jF b y).sz≤y.sz:=by
 have h:=zx b (gX y.ak 1)
 have h1:=Nu y.ak
 have h2:=AB y
 have h3:=AB (gX y.ak 0)
 unfold jF
 split
 ·simp only[aP.sz,aP.aD,bM,bN,D.sz,aj.dB,xK];simp
 ·simp only[aP.sz,aP.aD,bM,bN,D.sz,aj.dB,SN];omega
theorem Ny(b:Bool):∀l:List ah,bG ((l.map (kZ b)).map aN.enc)≤dG l
 |[]=>by simp[bG]
 |y::l=>by
  have h1:=aak b y
  have h2:=Ny b l
  rw[List.map_cons,List.map_cons,bG,dG];simp only[aN.sz] at h1;omega
theorem GX(b:Bool):∀l:List ah,bG ((l.map (jF b)).map aP.enc)≤dG l
 |[]=>by simp[bG]
 |y::l=>by
  have h1:=VD b y
  have h2:=GX b l
  rw[List.map_cons,List.map_cons,bG,dG];simp only[aP.sz] at h1;omega
theorem Ir(b:Bool)(x:ah):(uG b x).sz≤x.sz:=by
 have h1:=Cy x.ak
 have h2:=AB x
 have h3:=AB (gX x.ak 1)
 have h4:=Ji (gX x.ak 2).ak
 have h4':=AB (gX x.ak 2)
 have h5:=Ny b (gX x.ak 3).ak
 have h5':=AB (gX x.ak 3)
 have h6:=GX b (gX x.ak 4).ak
 have h6':=AB (gX x.ak 4)
 have h7:=zx b (gX x.ak 5)
 have h8:=Da b (gX x.ak 6)
 simp only[aU.sz,aU.aD,bM,bN,D.sz,aj.dB,au.dB,uG,List.length_map,P7,oO,SN]
 omega
theorem Yk:Dh.sz=0:=by
 simp only[Dh,aU.sz,aU.aD,bM,bN,D.sz,aj.dB,au.dB,xK,yD,List.map_nil,bG,List.length_nil]
theorem abI{x:ah}(h:x.sz≤1048576):(vJ x).sz≤1048576:=by
 have:=Ir true x
 unfold vJ
 split
 ·omega
 ·rw[Yk];omega
end Go.Ab
namespace Go.Ab
theorem P8(n:Nat):D6 (.sl []) (.ol n []):=fun w σ v h=>by
 cases h with
 |nil a cap=>exact .pK n a cap
 |sl b off cap aO es vals c t fz hcap hlen hb hσ hc hv=>exact .pK n _ _
theorem D6.trans{a b c:D}(h:D6 a b)(k:D6 b c):D6 a c:=fun w σ v x=>k w σ v (h w σ v x)
theorem jq.trans:∀{a b c:List D},jq a b→jq b c→jq a c
 |_,_,_,.nil,.nil=>.nil
 |_,_,_,.cons x h,.cons y k=>.cons (x.trans y) (h.trans k)
theorem fP.trans:∀{a b c:List (List D)},fP a b→fP b c→fP a c
 |_,_,_,.nil,.nil=>.nil
 |_,_,_,.cons x h,.cons y k=>.cons (x.trans y) (h.trans k)
theorem fP.at{a b:List (List D)}(h:fP a b):∀(i:Nat) (hi:i<b.length) (hi':i<a.length),jq a[i] b[i]:=by
 induction h with
 |nil=>intro i hi;simp at hi
 |cons x h ih=>intro i hi hi';cases i with
  |zero=>exact x
  |succ i=>exact ih i (by simpa using hi) (by simpa using hi')
theorem fP.abJ{a b:List (List D)}(h:fP a b){n:Nat}{w:World}{σ:Nat→Nat}{v:Value}(hr:bU w σ (.ol n a) v):bU w σ (.ol n b) v:=by
 cases hr with
 |pK _ ad cap=>
  cases h
  exact .pK n ad cap
 |ol _ b0 off cap aO es vals c t hcap hlen hb hσ hfit hc hv=>
  have hl:=h.length
  rw[hl] at hcap hfit hc ⊢
  have hlb:∀e∈b,e.length=aO:=fun e he=>by
   obtain⟨i,hi,rfl⟩:=List.getElem_of_mem he
   have h1:=h.at i hi (by omega)
   rw[←h1.length];exact hlen _ (List.getElem_mem _)
  refine .ol n b0 off cap aO b vals c t hcap hlb hb hσ hfit hc fun j d hd=> ?_
  obtain⟨x,hx,hle⟩:=h.flat.at j d hd
  exact hle w σ _ (hv j x hx)
theorem SQ{n:Nat}{a b:List (List D)}(h:fP a b):lD (.d (.ol n a)) (.d (.ol n b)):=fun w σ S β v hr=>h.abJ hr
theorem Yl{n:Nat}{a b:List (List D)}(h:fP a b):Less (.c (.d (.ol n a))) (.c (.d (.ol n b))):=fun w σ S β v hr=>⟨h.abJ hr.1,hr.2⟩
theorem O4{a b:List (List D)}(h:fP a b):lD (.d (.sl a)) (.d (.sl b)):=fun w σ S β v hr=>h.rep hr
theorem lD.trans{a b c:C}(h:lD a b)(k:lD b c):lD a c:=fun w σ S β v x=>k w σ S β v (h w σ S β v x)
end Go.Ab
namespace Go.Ab
theorem xO{l:List ah}{i:Nat}(h:i<l.length):gX l i=l[i]:=by
 show l.getD i eZ=_
 rw[List.getD_eq_getElem?_getD,List.getElem?_eq_getElem h];rfl
def lB(l:List aN)(n:Nat):List (List D):=dZ (l.map aN.enc) n
def YM(l:List aN):Nat:=iH (l.map aN.enc)
def lPr(l:List aP)(n:Nat):List (List D):=dZ (l.map aP.enc) n
def YN(l:List aP):Nat:=iH (l.map aP.enc)
theorem P9(x:aN)(n:Nat):dO x.enc n=[.s x.aY,.i .i64 x.fType.aG,.s x.fType.fName,.ol n (lt x.fType.fArgs (n+1))]:=by
 simp only[aN.aD,aj.aD,List.cons_append,List.nil_append,dO,kL,mZ,Nat.add_zero,lt]
theorem Nz(x:aP)(n:Nat):dO x.enc n=[.s x.fName,.i .i64 x.fType.aG,.s x.fType.fName,.ol n (lt x.fType.fArgs (n+1))]:=by
 simp only[aP.aD,aj.aD,List.cons_append,List.nil_append,dO,kL,mZ,Nat.add_zero,lt]
theorem Eb{α:Type}{e:α→List D}{l:List α}{i:Nat}(hi:i<l.length)(n:Nat):dZ ((l.take i).map e) n++[dO (e l[i]) (n+iH ((l.take i).map e))]=dZ ((l.take (i+1)).map e) n:=by
 rw[List.take_succ_eq_append_getElem hi,List.map_append,nK];rfl
theorem GY{α:Type}{e:α→List D}{l:List α}{i:Nat}(hi:i<l.length):(l.take i).map e++[e l[i]]=(l.take (i+1)).map e:=by
 rw[List.take_succ_eq_append_getElem hi,List.map_append];rfl
theorem Qa{b:Bool}{y:ah}(h:b=false∨y.ak.length=2):(kZ b y).aY=bY y.ak 0∧(kZ b y).fType=dP b (y.ak.getD 1 eZ):=by
 unfold kZ
 rw[if_neg (by rintro⟨e1,e2⟩;rcases h with e|e;(rw[e] at e1;cases e1);exact e2 e)]
 exact⟨rfl,rfl⟩
theorem Ym{y:ah}(h:y.ak.length≠2):kZ true y=⟨[],gK⟩:=if_pos ⟨rfl,h⟩
theorem JJ{b:Bool}{y:ah}(h:b=false∨y.ak.length=2):(jF b y).fName=bY y.ak 0∧(jF b y).fType=dP b (y.ak.getD 1 eZ):=by
 unfold jF
 rw[if_neg (by rintro⟨e1,e2⟩;rcases h with e|e;(rw[e] at e1;cases e1);exact e2 e)]
 exact⟨rfl,rfl⟩
theorem SS{y:ah}(h:y.ak.length≠2):jF true y=⟨[],gK⟩:=if_pos ⟨rfl,h⟩
theorem aal{x:ah}(h:gQ x=true){i:Nat}(hi:i<x.ak.length):gQ x.ak[i]=true:=uF (JB h (fun e=>by rw[e] at hi;simp at hi)) (List.getElem_mem hi)
theorem SV(x:ah){i:Nat}(hi:i<x.ak.length):x.ak[i].sz≤x.sz:=by
 have:=jG (List.getElem_mem hi)
 have:=gu x
 omega
abbrev aU.cl (x:aU) (n p q r:Nat):List C:=[.d (.s x.fName),.d (.ol n (x.aK.map encS)),.d (.ol (n+1) (lB x.bO (n+1+1))),.d (.ol p (lPr x.aS (p+1))),.d (.i .i64 x.bq.aG),.d (.s x.bq.fName),.d (.ol q (lt x.bq.fArgs (q+1))),
 .d (.i .i64 x.fBody.aG),.d (.s x.fBody.aY),.d (.s x.fBody.fName),.d (.i .i64 x.fBody.fN),.d (.i .i64 x.fBody.fType.aG),.d (.s x.fBody.fType.fName),.d (.ol r (lt x.fBody.fType.fArgs (r+1))),
 .d (.ol (r+(fD x.fBody.fType.fArgs+1)) (lE x.fBody.fArgs (r+(fD x.fBody.fType.fArgs+1)+1))),.d (.ol (r+(fD x.fBody.fType.fArgs+1)+(jN x.fBody.fArgs+1)) (lM x.fBody.aI (r+(fD x.fBody.fType.fArgs+1)+(jN x.fBody.fArgs+1)+1)))]
abbrev aU.cv (x:aU):List C:=[.d (.s x.fName),.d (.sl (x.aK.map encS)),.d (.sl (x.bO.map aN.enc)),.d (.sl (x.aS.map aP.enc)),.d (.i .i64 x.bq.aG),.d (.s x.bq.fName),.d (.sl (x.bq.fArgs.map aj.enc)),
 .d (.i .i64 x.fBody.aG),.d (.s x.fBody.aY),.d (.s x.fBody.fName),.d (.i .i64 x.fBody.fN),.d (.i .i64 x.fBody.fType.aG),.d (.s x.fBody.fType.fName),.d (.sl (x.fBody.fType.fArgs.map aj.enc)),.d (.sl (x.fBody.fArgs.map au.enc)),.d (.sl (x.fBody.aI.map aF.enc))]
def pF(x:aU)(n:Nat):Nat:=n+1+(YM x.bO+1)
def qF(x:aU)(n:Nat):Nat:=pF x n+(YN x.aS+1)
def rF(x:aU)(n:Nat):Nat:=qF x n+(fD x.bq.fArgs+1)
theorem aao(x:aU)(n:Nat):(dO x.enc n).map C.d=x.cl n (pF x n) (qF x n) (rF x n):=by
 simp only[aU.aD,au.aD,aj.aD,List.cons_append,List.nil_append,dO,kL,mZ,Nat.add_zero,lt,lE,lM,lB,lPr,fD,jN,YM,YN,pF,qF,rF,Ep,M0,Nat.zero_add,List.map_cons,List.map_nil]
 rfl
theorem VE{x:ah}(h:okF x=false):vJ x=Dh:=if_neg (by rw[h];decide)
theorem Qb{x:ah}(h:okF x=true):vJ x=uG true x:=if_pos h
abbrev zF:List C:=[.d (.s []),.aL [],.aL [],.aL [],.d (.i .i64 0),.d (.s []),.aL [],.d (.i .i64 0),.d (.s []),.d (.s []),.d (.i .i64 0),.d (.i .i64 0),.d (.s []),.aL [],.aL [],.aL []]
theorem afK(e:aU)(h:e=Dh)(ok:Bool):Less (.dS [(true,zF),(false,[.d (.b ok)])]) (.dS [(true,e.cv),(false,[.d (.b ok)])]):=by
 rw[h]
 exact(jk.cons (.cons (.refl _) (.cons (fQ _) (.cons (fQ _) (.cons (fQ _) (.cons (.refl _) (.cons (.refl _) (.cons (fQ _) (.cons (.refl _) (.cons (.refl _) (.cons (.refl _) (.cons (.refl _) (.cons (.refl _) (.cons (.refl _) (.cons (fQ _) (.cons (fQ _) (.cons (fQ _) .nil)))))))))))))))) (.refl _)).less
theorem abM(e:aU)(h:e=Dh)(n p q r:Nat)(ok:Bool):Less (.dS [(true,zF),(false,[.d (.b ok)])]) (.dS [(true,e.cl n p q r),(false,[.d (.b ok)])]):=by
 rw[h]
 exact(jk.cons (.cons (.refl _) (.cons (eH _) (.cons (eH _) (.cons (eH _) (.cons (.refl _) (.cons (.refl _) (.cons (eH _) (.cons (.refl _) (.cons (.refl _) (.cons (.refl _) (.cons (.refl _) (.cons (.refl _) (.cons (.refl _) (.cons (eH _) (.cons (eH _) (.cons (eH _) .nil)))))))))))))))) (.refl _)).less
end Go.Ab
namespace Go.Proofs.YtlmhknhlmicmeaaGreatDoor
open Go Go.Ab
theorem Kh(x:ah)(hsz:x.sz≤4194304):aH Tryz.prog 121 [x.v] (.c (.d (.sl ((x.ak.map (kZ false)).map aN.enc)))):=fun S=>by
 have h1:=gu x
 have hall:∀t∈x.ak,t.sz≤4194304:=fun t ht=>by have:=jG ht;omega
 have wG:=fun(i:Nat) (hi:i<x.ak.length)=>GY (e:=aN.enc) (l:=x.ak.map (kZ false)) (i:=i) (by rw[List.length_map];exact hi)
 refine aC (rs:=[.tmp 2]) Tryz.checked.mixed Tryz.func121 Tryz.ntmps121 rfl rfl rfl rfl rfl ?_
 simp -implicitDefEqProofs (disch:=omega) only[go_sem]
 (repeat(with_reducible refine And.intro ?_ ?_;focus first|omega|rfl|assumption|exact⟨_,rfl,rfl⟩|(simp;omega)|(simp;done)))
 refine uX 3 4 [] rfl (by simp) ?_
 refine aV (ι:=Nat) Tryz.checked.mixed rfl [1,3,4] (fun i=>[.c (.ptr (0,0) 0),.c (.bK (0,1) (((x.ak.map (kZ false)).take i).map aN.enc)),.c (.d (.i .i64 i))]) (fun i=>[.box [.d (.s x.aT),.d (.sl (x.ak.map ah.enc))],.tok 4 (((x.ak.map (kZ false)).take i).map aN.enc)]::S)
  (fun i=>i≤x.ak.length) (fun i=>x.ak.length-i) 0 rfl rfl (Nat.zero_le _) ?_
 intro i hi
 have hl:(((x.ak.map (kZ false)).take i).map aN.enc).length≤i:=by rw[List.length_map];exact List.length_take_le _ _
 simp -implicitDefEqProofs (disch:=omega) only[go_sem]
 with_reducible refine aA (fun hb=> ?_) (fun hb=> ?_)<;>have h:=hb<;>(try simp only[wf_preprocess] at h)<;>simp -implicitDefEqProofs (disch:=omega) only[go_sem,hb]<;>(repeat(with_reducible refine And.intro ?_ ?_;focus first|omega|rfl|assumption|exact⟨_,rfl,rfl⟩|(simp;omega)|(simp;done)))
 ·have hi':i<x.ak.length:=by omega
  have hz:=hall _ (List.getElem_mem hi')
  have hs:=wG i hi'
  have hb:=Qa (b:=false) (y:=x.ak[i]) (.inl rfl)
  rw[List.getElem_map] at hs
  simp only[aN.aD,aj.aD,List.cons_append,List.nil_append,hb.1,hb.2] at hs
  (repeat(with_reducible refine And.intro ?_ ?_;focus first|omega|rfl|assumption|exact⟨_,rfl,rfl⟩|(simp;omega)|(simp;done)))
  refine ay (lJ x.ak[i] 0 hz (by omega)) ?_
  simp -implicitDefEqProofs (disch:=omega) only[go_sem]
  (repeat(with_reducible refine And.intro ?_ ?_;focus first|omega|rfl|assumption|exact⟨_,rfl,rfl⟩|(simp;omega)|(simp;done)))
  refine ay (lJ x.ak[i] 1 hz (by omega)) ?_
  simp -implicitDefEqProofs (disch:=omega) only[go_sem]
  refine ay (tH (x.ak[i].ak.getD 1 eZ) (xL _ 1 hz)) ?_
  simp -implicitDefEqProofs (disch:=omega) only[go_sem]
  (repeat(with_reducible refine And.intro ?_ ?_;focus first|omega|rfl|assumption|exact⟨_,rfl,rfl⟩|(simp;omega)|(simp;done)))
  show _
  rw[show(x.ak[i].ak.getD 0 eZ).aT=bY x.ak[i].ak 0 from rfl,hs]
  exact bH (i+1) (by omega) rfl rfl (by omega)
 ·have hi':i=(x.ak.map (kZ false)).length:=by rw[List.length_map];omega
  rw[hi',List.take_length]
theorem Ki(x:ah)(n q:Nat)(hsz:x.sz≤4194304):aH Tryz.prog 125 [x.v] (.c (.d (.ol n (lB (x.ak.map (kZ true)) q)))):=aH.of_le fun S=>by
 have h1:=gu x
 have hall:∀t∈x.ak,t.sz≤4194304:=fun t ht=>by have:=jG ht;omega
 obtain⟨L,hL⟩:∃L:Nat→Nat,L=fun i=>q+iH (((x.ak.map (kZ true)).take i).map aN.enc):=⟨_,rfl⟩
 obtain⟨T,hT⟩:∃T:Nat→List (List D),T=fun i=>dZ (((x.ak.map (kZ true)).take i).map aN.enc) q:=⟨_,rfl⟩
 have hT0:T 0=[]:=by rw[hT];rfl
 have nC:∀i,(T i).length≤i:=fun i=>by rw[hT];simp only[iM,List.length_map];exact List.length_take_le _ _
 have hTr:∀i,∀r∈T i,r.length=4:=fun i=>by
  rw[hT]
  exact wE fun r hr=>by
   obtain⟨z,_,rfl⟩:=List.mem_map.1 hr
   exact z.bC
 have hTs:∀i (hi:i<x.ak.length),T i++[dO (kZ true x.ak[i]).enc (L i)]=T (i+1):=fun i hi=>by
  have:=Eb (e:=aN.enc) (l:=x.ak.map (kZ true)) (i:=i) (by rw[List.length_map];exact hi) q
  rw[List.getElem_map] at this
  rw[hT,hL];exact this
 have hTe:T x.ak.length=lB (x.ak.map (kZ true)) q:=by
  rw[hT];simp only
  rw[List.take_of_length_le (by simp)];rfl
 clear hT hL
 refine kM (n) (rs:=[.tmp 2]) Tryz.checked.mixed Tryz.func125 Tryz.ntmps125 rfl rfl rfl rfl rfl ?_
 simp -implicitDefEqProofs (disch:=omega) only[go_sem]
 (repeat(with_reducible refine And.intro ?_ ?_;focus first|omega|rfl|assumption|exact⟨_,rfl,rfl⟩|(simp;omega)|(simp;done)))
 refine oM n 3 4 [] (.inl rfl) (by simp) ?_
 refine aV (ι:=Nat×List (List D)) Tryz.checked.mixed rfl [3,9,10,11] (fun y=>[.c (.bK (0,2) y.2),.c (.d (.sl (x.ak.map ah.enc))),.c (.d (.i .i64 x.ak.length)),.c (.d (.i .i64 y.1))])
  (fun y=>[.seed n,.box [.d (.s x.aT),.d (.sl (x.ak.map ah.enc))],.eu n 4 y.2]::S)
  (fun y=>y.1≤x.ak.length∧fP y.2 (T y.1)) (fun y=>x.ak.length-y.1) (0,[]) rfl rfl ⟨Nat.zero_le _,by rw[hT0];exact .nil⟩ ?_
 rintro⟨i,U⟩ ⟨p1,p2⟩
 simp only at p1 p2
 have hU1:=p2.length
 have hU2:=nC i
 have hU3:=p2.rows (hTr i)
 simp -implicitDefEqProofs (disch:=omega) only[go_sem]
 with_reducible refine aA (fun hb=> ?_) (fun hb=> ?_)<;>have h:=hb<;>(try simp only[wf_preprocess] at h)<;>simp -implicitDefEqProofs (disch:=omega) only[go_sem,hb]<;>(repeat(with_reducible refine And.intro ?_ ?_;focus first|omega|rfl|assumption|exact⟨_,rfl,rfl⟩|(simp;omega)|(simp;done)))
 ·have hi':i<x.ak.length:=by omega
  have hz:=hall _ (List.getElem_mem hi')
  have hs:=hTs i hi'
  have hz1:=gu x.ak[i]
  (repeat(with_reducible refine And.intro ?_ ?_;focus first|omega|rfl|assumption|exact⟨_,rfl,rfl⟩|(simp;omega)|(simp;done)))
  with_reducible refine aA (fun hb=> ?_) (fun hb=> ?_)<;>have h:=hb<;>(try simp only[wf_preprocess] at h)<;>simp -implicitDefEqProofs (disch:=omega) only[go_sem,hb]<;>(repeat(with_reducible refine And.intro ?_ ?_;focus first|omega|rfl|assumption|exact⟨_,rfl,rfl⟩|(simp;omega)|(simp;done)))
  ·have hl2:x.ak[i].ak.length=2:=by omega
   have hb:=Qa (b:=true) (y:=x.ak[i]) (.inr hl2)
   have g1:x.ak[i].ak.getD 1 eZ=x.ak[i].ak[1]:=xO (by omega)
   rw[P9,hb.1,hb.2,jY (by omega:0<x.ak[i].ak.length),g1] at hs
   have hz2:=SV x.ak[i] (i:=1) (by omega)
   (repeat(with_reducible refine And.intro ?_ ?_;focus first|omega|rfl|assumption|exact⟨_,rfl,rfl⟩|(simp;omega)|(simp;done)))
   refine ay (q8 x.ak[i].ak[1] (L i) (by omega)) ?_
   simp -implicitDefEqProofs (disch:=omega) only[go_sem]
   (repeat(with_reducible refine And.intro ?_ ?_;focus first|omega|rfl|assumption|exact⟨_,rfl,rfl⟩|(simp;omega)|(simp;done)))
   refine dV 3 (by decide) (i+1,_) (by simp only;omega) rfl rfl rfl rfl ⟨by simp only;omega,?_⟩
   simp only
   rw[←hs]
   exact p2.snoc (.refl _)
  ·have hl2:x.ak[i].ak.length≠2:=by omega
   rw[P9,Ym hl2] at hs
   refine dV 3 (by decide) (i+1,_) (by simp only;omega) rfl rfl rfl rfl ⟨by simp only;omega,?_⟩
   simp only
   rw[←hs]
   exact p2.snoc (.cons (.refl _) (.cons (.refl _) (.cons (.refl _) (.cons (P8 _) .nil))))
 ·have hi':i=x.ak.length:=by omega
  subst hi'
  rw[hTe] at p2
  exact Yl p2
theorem NA(x:ah)(hsz:x.sz≤1048576):aH Tryz.prog 32 [x.v] (.dS [(true,(vJ x).cv),(false,[.d (.b (okF x))])]):=aH.of_le fun S=>by
 have h1:=gu x
 have hds:=Ir false x
 have hos:=aai (f:=uG false x) (by omega)
 have hgs:=fun i=>xL x i (m:=4194304) (by omega)
 obtain⟨l,hl⟩:∃l,l=(x.ak.getD 4 eZ).ak:=⟨_,rfl⟩
 have hg4:=gu (x.ak.getD 4 eZ)
 have hll:l.length≤4194304:=by have:=hgs 4;rw[hl];omega
 have hlm:∀y∈l,y.sz≤4194304:=fun y hy=>by
  have:=hgs 4
  have:=jG (hl▸hy);omega
 obtain⟨F,hF⟩:∃F,F=uG false x:=⟨_,rfl⟩
 have f1:F.fName=(x.ak.getD 1 eZ).aT:=by rw[hF];rfl
 have f2:F.aK=iP (x.ak.getD 2 eZ).ak:=by rw[hF];rfl
 have f3:F.bO=(x.ak.getD 3 eZ).ak.map (kZ false):=by rw[hF];rfl
 have f5:F.bq=dP false (x.ak.getD 5 eZ):=by rw[hF];rfl
 have f6:F.fBody=dz false (x.ak.getD 6 eZ):=by rw[hF];rfl
 obtain⟨T,hT⟩:∃T:Nat→List (List D),T=fun i=>((l.map (jF false)).take i).map aP.enc:=⟨_,rfl⟩
 have hT0:T 0=[]:=by rw[hT];rfl
 have nC:∀i,(T i).length≤i:=fun i=>by rw[hT];simp only[List.length_map];exact List.length_take_le _ _
 have hTs:∀i (hi:i<l.length),T i++[(jF false l[i]).enc]=T (i+1):=fun i hi=>by
  have:=GY (e:=aP.enc) (l:=l.map (jF false)) (i:=i) (by rw[List.length_map];exact hi)
  rw[List.getElem_map] at this
  rw[hT];exact this
 have hTe:T l.length=F.aS.map aP.enc:=by
  rw[hT];simp only
  rw[List.take_of_length_le (by simp),hF,hl];rfl
 clear hT
 have AJ:okF x=false→Less (.dS [(true,zF),(false,[.d (.b false)])]) (.dS [(true,(vJ x).cv),(false,[.d (.b (okF x))])]):=fun e=>by
  rw[e];exact afK _ (VE e) false
 have c5:=tH (x.ak.getD 5 eZ) (hgs 5)
 have c6:=OV (x.ak.getD 6 eZ) (hgs 6)
 have c2:=M4 _ (hgs 2)
 have c3:=Kh _ (hgs 3)
 rw[←f2] at c2
 rw[←f3] at c3
 rw[←f5] at c5
 rw[←f6] at c6
 refine aC (rs:=[.cell 2 78,.tmp 3]) Tryz.checked.mixed Tryz.func32 Tryz.ntmps32 rfl rfl rfl rfl rfl ?_
 simp -implicitDefEqProofs (disch:=omega) only[go_sem]
 refine ay (lJ x 1 (by omega) (by omega)) ?_
 simp -implicitDefEqProofs (disch:=omega) only[go_sem]
 refine ay (lJ x 2 (by omega) (by omega)) ?_
 simp -implicitDefEqProofs (disch:=omega) only[go_sem]
 refine ay c2 ?_
 simp -implicitDefEqProofs (disch:=omega) only[go_sem]
 refine ay (lJ x 3 (by omega) (by omega)) ?_
 simp -implicitDefEqProofs (disch:=omega) only[go_sem]
 refine ay c3 ?_
 simp -implicitDefEqProofs (disch:=omega) only[go_sem]
 refine ay (lJ x 5 (by omega) (by omega)) ?_
 simp -implicitDefEqProofs (disch:=omega) only[go_sem]
 refine ay c5 ?_
 simp -implicitDefEqProofs (disch:=omega) only[go_sem]
 refine ay (lJ x 6 (by omega) (by omega)) ?_
 simp -implicitDefEqProofs (disch:=omega) only[go_sem]
 refine ay c6 ?_
 simp -implicitDefEqProofs (disch:=omega) only[go_sem]
 (repeat(with_reducible refine And.intro ?_ ?_;focus first|omega|rfl|assumption|exact⟨_,rfl,rfl⟩|(simp;omega)|(simp;done)))
 refine ay (lJ x 4 (by omega) (by omega)) ?_
 simp -implicitDefEqProofs (disch:=omega) only[go_sem]
 rw[←hl,←f1]
 refine Jp 2 3 4 _ rfl rfl ?_
 refine aV (ι:=Nat) Tryz.checked.mixed rfl [1,2,4,5,6] (fun i=>[.c (.ptr (0,0) 0),.c (.ptr (0,1) 0),.c (.ptr (0,2) 0),.c (.ptr (0,3) 0),.c (.d (.i .i64 i))])
  (fun i=>[.box [.d (.s x.aT),.d (.sl (x.ak.map ah.enc))],.box zF,.box [.d (.s F.fName),.d (.sl (F.aK.map encS)),.d (.sl (F.bO.map aN.enc)),.bK (0,4) (T i),.d (.i .i64 F.bq.aG),.d (.s F.bq.fName),.d (.sl (F.bq.fArgs.map aj.enc)),
    .d (.i .i64 F.fBody.aG),.d (.s F.fBody.aY),.d (.s F.fBody.fName),.d (.i .i64 F.fBody.fN),.d (.i .i64 F.fBody.fType.aG),.d (.s F.fBody.fType.fName),.d (.sl (F.fBody.fType.fArgs.map aj.enc)),.d (.sl (F.fBody.fArgs.map au.enc)),.d (.sl (F.fBody.aI.map aF.enc))],
    .box [.d (.s (x.ak.getD 4 eZ).aT),.d (.sl (l.map ah.enc))],.tok 4 (T i)]::S)
  (fun i=>i≤l.length) (fun i=>l.length-i) 0 rfl (by rw[hT0];rfl) (Nat.zero_le _) ?_
 intro i hi
 have hl':=nC i
 simp -implicitDefEqProofs (disch:=omega) only[go_sem]
 with_reducible refine aA (fun hb=> ?_) (fun hb=> ?_)<;>have h:=hb<;>(try simp only[wf_preprocess] at h)<;>simp -implicitDefEqProofs (disch:=omega) only[go_sem,hb]<;>(repeat(with_reducible refine And.intro ?_ ?_;focus first|omega|rfl|assumption|exact⟨_,rfl,rfl⟩|(simp;omega)|(simp;done)))
 ·have hi':i<l.length:=by omega
  have hz:=hlm _ (List.getElem_mem hi')
  have hs:=hTs i hi'
  have hb:=JJ (b:=false) (y:=l[i]) (.inl rfl)
  simp only[aP.aD,aj.aD,List.cons_append,List.nil_append,hb.1,hb.2] at hs
  (repeat(with_reducible refine And.intro ?_ ?_;focus first|omega|rfl|assumption|exact⟨_,rfl,rfl⟩|(simp;omega)|(simp;done)))
  refine ay (lJ l[i] 0 hz (by omega)) ?_
  simp -implicitDefEqProofs (disch:=omega) only[go_sem]
  (repeat(with_reducible refine And.intro ?_ ?_;focus first|omega|rfl|assumption|exact⟨_,rfl,rfl⟩|(simp;omega)|(simp;done)))
  refine ay (lJ l[i] 1 hz (by omega)) ?_
  simp -implicitDefEqProofs (disch:=omega) only[go_sem]
  refine ay (tH (l[i].ak.getD 1 eZ) (xL _ 1 hz)) ?_
  simp -implicitDefEqProofs (disch:=omega) only[go_sem]
  (repeat(with_reducible refine And.intro ?_ ?_;focus first|omega|rfl|assumption|exact⟨_,rfl,rfl⟩|(simp;omega)|(simp;done)))
  rw[show(l[i].ak.getD 0 eZ).aT=bY l[i].ak 0 from rfl,hs]
  exact dV 5 (by decide) (i+1) (by omega) rfl rfl rfl rfl (by omega)
 ·have hi':i=l.length:=by omega
  subst hi'
  rw[hTe]
  clear hTs
  refine ay (vP x (by omega)) ?_
  simp -implicitDefEqProofs (disch:=omega) only[go_sem]
  with_reducible refine aA (fun hb=> ?_) (fun hb=> ?_)<;>have h:=hb<;>(try simp only[wf_preprocess] at h)<;>simp -implicitDefEqProofs (disch:=omega) only[go_sem,hb]<;>(repeat(with_reducible refine And.intro ?_ ?_;focus first|omega|rfl|assumption|exact⟨_,rfl,rfl⟩|(simp;omega)|(simp;done)))
  ·exact AJ (aQ fun e=>by rw[e.1] at h;cases h)
  have hv:=h
  with_reducible refine aA (fun hb=> ?_) (fun hb=> ?_)<;>have h:=hb<;>(try simp only[wf_preprocess] at h)<;>simp -implicitDefEqProofs (disch:=omega) only[go_sem,hb]<;>(repeat(with_reducible refine And.intro ?_ ?_;focus first|omega|rfl|assumption|exact⟨_,rfl,rfl⟩|(simp;omega)|(simp;done)))
  ·exact AJ (aQ fun e=>by omega)
  have hne:x.ak≠[]:=fun e=>by rw[e] at h;exact h rfl
  have hok:=Yi hne
  rw[hv,Bool.true_and] at hok
  rw[←hF] at hok hos hds
  (repeat(with_reducible refine And.intro ?_ ?_;focus first|omega|rfl|assumption|exact⟨_,rfl,rfl⟩|(simp;omega)|(simp;done)))
  refine ay (VA F (by omega)) ?_
  simp -implicitDefEqProofs (disch:=omega) only[go_sem]
  refine ay (Dn (Nr F) x (by omega)) ?_
  simp -implicitDefEqProofs (disch:=omega) only[go_sem]
  with_reducible refine aA (fun hb=> ?_) (fun hb=> ?_)<;>have h:=hb<;>(try simp only[wf_preprocess] at h)<;>simp -implicitDefEqProofs (disch:=omega) only[go_sem,hb]<;>(repeat(with_reducible refine And.intro ?_ ?_;focus first|omega|rfl|assumption|exact⟨_,rfl,rfl⟩|(simp;omega)|(simp;done)))
  ·exact AJ (by rw[hok];exact aQ h)
  ·have hy:okF x=true:=by rw[hok];exact bR h
   rw[Qb hy,hy,←Yj hy,←hF]
   exact jl _
theorem Kj(x:ah)(n:Nat)(hsz:x.sz≤1048576):aH Tryz.prog 33 [x.v] (.dS [(true,(vJ x).cl n (pF (vJ x) n) (qF (vJ x) n) (rF (vJ x) n)),(false,[.d (.b (okF x))])]):=aH.of_le fun S=>by
 have h1:=gu x
 have hds:=Ir true x
 obtain⟨F,hF⟩:∃F,F=uG true x:=⟨_,rfl⟩
 obtain⟨p,hp⟩:∃p,p=pF F n:=⟨_,rfl⟩
 obtain⟨q,hq⟩:∃q,q=qF F n:=⟨_,rfl⟩
 obtain⟨r,hr0⟩:∃r,r=rF F n:=⟨_,rfl⟩
 have AJ:okF x=false→Less (.dS [(true,zF),(false,[.d (.b false)])]) (.dS [(true,(vJ x).cl n (pF (vJ x) n) (qF (vJ x) n) (rF (vJ x) n)),(false,[.d (.b (okF x))])]):=fun e=>by
  rw[e];exact abM _ (VE e) n _ _ _ false
 refine kM (n) (rs:=[.cell 2 78,.tmp 3]) Tryz.checked.mixed Tryz.func33 Tryz.ntmps33 rfl rfl rfl rfl rfl ?_
 simp -implicitDefEqProofs (disch:=omega) only[go_sem]
 refine ay (Sb x PZ 7 (by omega) (by omega) (by omega)) ?_
 simp -implicitDefEqProofs (disch:=omega) only[go_sem]
 with_reducible refine aA (fun hb=> ?_) (fun hb=> ?_)<;>have h:=hb<;>(try simp only[wf_preprocess] at h)<;>simp -implicitDefEqProofs (disch:=omega) only[go_sem,hb]<;>(repeat(with_reducible refine And.intro ?_ ?_;focus first|omega|rfl|assumption|exact⟨_,rfl,rfl⟩|(simp;omega)|(simp;done)))
 ·exact AJ (aQ fun e=>h ⟨e.1,e.2.1.1,e.2.1.2⟩)
 have hf:=h
 have hvx:=I9 hf.1
 have hfo:gQ x=true:=by have:=hf.1;unfold iL at this;rw[Bool.and_eq_true] at this;exact this.1
 have hlen:7≤x.ak.length:=hf.2.1
 have f1:F.fName=x.ak[1].aT:=by rw[hF];exact jY (by omega)
 have f2:F.aK=iP x.ak[2].ak:=by rw[hF,←xO (l:=x.ak) (i:=2) (by omega)];rfl
 have f3:F.bO=x.ak[3].ak.map (kZ true):=by rw[hF,←xO (l:=x.ak) (i:=3) (by omega)];rfl
 have f4:F.aS=x.ak[4].ak.map (jF true):=by rw[hF,←xO (l:=x.ak) (i:=4) (by omega)];rfl
 have f5:F.bq=dP true x.ak[5]:=by rw[hF,←xO (l:=x.ak) (i:=5) (by omega)];rfl
 have f6:F.fBody=dz true x.ak[6]:=by rw[hF,←xO (l:=x.ak) (i:=6) (by omega)];rfl
 have hzs:=fun i hi=>SV x (i:=i) hi
 have c2:=J7 x.ak[2] (by have:=hzs 2 (by omega);omega) n
 have c3:=Ki x.ak[3] (n+1) (n+1+1) (by have:=hzs 3 (by omega);omega)
 have c5:=q8 x.ak[5] q (by have:=hzs 5 (by omega);omega)
 have c6:=Ng x.ak[6] r (aal hfo (by omega)) (by have:=hzs 6 (by omega);omega)
 rw[←f2] at c2
 rw[←f3] at c3
 rw[←f5] at c5
 rw[←f6] at c6
 have hz4:=hzs 4 (by omega)
 obtain⟨l,hl⟩:∃l,l=x.ak[4].ak:=⟨_,rfl⟩
 have hg4:=gu x.ak[4]
 have hll:l.length≤4194304:=by rw[hl];omega
 have hlm:∀y∈l,y.sz≤4194304:=fun y hy=>by have:=jG (hl▸hy);omega
 obtain⟨L,hL⟩:∃L:Nat→Nat,L=fun i=>p+1+iH (((l.map (jF true)).take i).map aP.enc):=⟨_,rfl⟩
 obtain⟨T,hT⟩:∃T:Nat→List (List D),T=fun i=>dZ (((l.map (jF true)).take i).map aP.enc) (p+1):=⟨_,rfl⟩
 have hT0:T 0=[]:=by rw[hT];rfl
 have nC:∀i,(T i).length≤i:=fun i=>by rw[hT];simp only[iM,List.length_map];exact List.length_take_le _ _
 have hTr:∀i,∀r∈T i,r.length=4:=fun i=>by
  rw[hT]
  exact wE fun r hr=>by
   obtain⟨z,_,rfl⟩:=List.mem_map.1 hr
   exact z.bC
 have hTs:∀i (hi:i<l.length),T i++[dO (jF true l[i]).enc (L i)]=T (i+1):=fun i hi=>by
  have:=Eb (e:=aP.enc) (l:=l.map (jF true)) (i:=i) (by rw[List.length_map];exact hi) (p+1)
  rw[List.getElem_map] at this
  rw[hT,hL];exact this
 have hTe:T l.length=lPr F.aS (p+1):=by
  rw[hT];simp only
  rw[List.take_of_length_le (by simp),f4,hl];rfl
 clear hT hL
 (repeat(with_reducible refine And.intro ?_ ?_;focus first|omega|rfl|assumption|exact⟨_,rfl,rfl⟩|(simp;omega)|(simp;done)))
 refine ay c2 ?_
 simp -implicitDefEqProofs (disch:=omega) only[go_sem]
 (repeat(with_reducible refine And.intro ?_ ?_;focus first|omega|rfl|assumption|exact⟨_,rfl,rfl⟩|(simp;omega)|(simp;done)))
 refine ay c3 ?_
 simp -implicitDefEqProofs (disch:=omega) only[go_sem]
 (repeat(with_reducible refine And.intro ?_ ?_;focus first|omega|rfl|assumption|exact⟨_,rfl,rfl⟩|(simp;omega)|(simp;done)))
 refine ay c5 ?_
 simp -implicitDefEqProofs (disch:=omega) only[go_sem]
 (repeat(with_reducible refine And.intro ?_ ?_;focus first|omega|rfl|assumption|exact⟨_,rfl,rfl⟩|(simp;omega)|(simp;done)))
 refine ay c6 ?_
 simp -implicitDefEqProofs (disch:=omega) only[go_sem]
 (repeat(with_reducible refine And.intro ?_ ?_;focus first|omega|rfl|assumption|exact⟨_,rfl,rfl⟩|(simp;omega)|(simp;done)))
 rw[←hl,←f1]
 refine Gu p 3 3 4 _ rfl rfl ?_
 refine aV (ι:=Nat×List (List D)) Tryz.checked.mixed rfl [1,2,5,39,40,41] (fun y=>[.c (.ptr (0,1) 0),.c (.ptr (0,2) 0),.c (.ptr (0,3) 0),.c (.d (.sl (l.map ah.enc))),.c (.d (.i .i64 l.length)),.c (.d (.i .i64 y.1))])
  (fun y=>[.seed n,.box [.d (.s x.aT),.d (.sl (x.ak.map ah.enc))],.box zF,.box [.d (.s F.fName),.d (.ol n (F.aK.map encS)),.d (.ol (n+1) (lB F.bO (n+1+1))),.bK (0,4) y.2,.d (.i .i64 F.bq.aG),.d (.s F.bq.fName),.d (.ol q (lt F.bq.fArgs (q+1))),
    .d (.i .i64 F.fBody.aG),.d (.s F.fBody.aY),.d (.s F.fBody.fName),.d (.i .i64 F.fBody.fN),.d (.i .i64 F.fBody.fType.aG),.d (.s F.fBody.fType.fName),.d (.ol r (lt F.fBody.fType.fArgs (r+1))),
    .d (.ol (r+(fD F.fBody.fType.fArgs+1)) (lE F.fBody.fArgs (r+(fD F.fBody.fType.fArgs+1)+1))),.d (.ol (r+(fD F.fBody.fType.fArgs+1)+(jN F.fBody.fArgs+1)) (lM F.fBody.aI (r+(fD F.fBody.fType.fArgs+1)+(jN F.fBody.fArgs+1)+1)))],
    .eu p 4 y.2]::S)
  (fun y=>y.1≤l.length∧fP y.2 (T y.1)) (fun y=>l.length-y.1) (0,[]) rfl rfl ⟨Nat.zero_le _,by rw[hT0];exact .nil⟩ ?_
 rintro⟨i,U⟩ ⟨p1,p2⟩
 simp only at p1 p2
 have hU1:=p2.length
 have hU2:=nC i
 have hU3:=p2.rows (hTr i)
 simp -implicitDefEqProofs (disch:=omega) only[go_sem]
 with_reducible refine aA (fun hb=> ?_) (fun hb=> ?_)<;>have h:=hb<;>(try simp only[wf_preprocess] at h)<;>simp -implicitDefEqProofs (disch:=omega) only[go_sem,hb]<;>(repeat(with_reducible refine And.intro ?_ ?_;focus first|omega|rfl|assumption|exact⟨_,rfl,rfl⟩|(simp;omega)|(simp;done)))
 ·have hi':i<l.length:=by omega
  have hz:=hlm _ (List.getElem_mem hi')
  have hs:=hTs i hi'
  have hz1:=gu l[i]
  (repeat(with_reducible refine And.intro ?_ ?_;focus first|omega|rfl|assumption|exact⟨_,rfl,rfl⟩|(simp;omega)|(simp;done)))
  with_reducible refine aA (fun hb=> ?_) (fun hb=> ?_)<;>have h:=hb<;>(try simp only[wf_preprocess] at h)<;>simp -implicitDefEqProofs (disch:=omega) only[go_sem,hb]<;>(repeat(with_reducible refine And.intro ?_ ?_;focus first|omega|rfl|assumption|exact⟨_,rfl,rfl⟩|(simp;omega)|(simp;done)))
  ·have hl2:l[i].ak.length=2:=by omega
   have hb:=JJ (b:=true) (y:=l[i]) (.inr hl2)
   have g1:l[i].ak.getD 1 eZ=l[i].ak[1]:=xO (by omega)
   rw[Nz,hb.1,hb.2,jY (by omega:0<l[i].ak.length),g1] at hs
   have hz2:=SV l[i] (i:=1) (by omega)
   (repeat(with_reducible refine And.intro ?_ ?_;focus first|omega|rfl|assumption|exact⟨_,rfl,rfl⟩|(simp;omega)|(simp;done)))
   refine ay (q8 l[i].ak[1] (L i) (by omega)) ?_
   simp -implicitDefEqProofs (disch:=omega) only[go_sem]
   (repeat(with_reducible refine And.intro ?_ ?_;focus first|omega|rfl|assumption|exact⟨_,rfl,rfl⟩|(simp;omega)|(simp;done)))
   refine dV 5 (by decide) (i+1,_) (by simp only;omega) rfl rfl rfl rfl ⟨by simp only;omega,?_⟩
   simp only
   rw[←hs]
   exact p2.snoc (.refl _)
  ·have hl2:l[i].ak.length≠2:=by omega
   rw[Nz,SS hl2] at hs
   refine dV 5 (by decide) (i+1,_) (by simp only;omega) rfl rfl rfl rfl ⟨by simp only;omega,?_⟩
   simp only
   rw[←hs]
   exact p2.snoc (.cons (.refl _) (.cons (.refl _) (.cons (.refl _) (.cons (P8 _) .nil))))
 ·have hi':i=l.length:=by omega
  subst hi'
  clear hTs
  rw[hTe] at p2
  have hcl:Less (.agg [.d (.s F.fName),.d (.ol n (F.aK.map encS)),.d (.ol (n+1) (lB F.bO (n+1+1))),.d (.sl U),.d (.i .i64 F.bq.aG),.d (.s F.bq.fName),.d (.ol q (lt F.bq.fArgs (q+1))),
   .d (.i .i64 F.fBody.aG),.d (.s F.fBody.aY),.d (.s F.fBody.fName),.d (.i .i64 F.fBody.fN),.d (.i .i64 F.fBody.fType.aG),.d (.s F.fBody.fType.fName),.d (.ol r (lt F.fBody.fType.fArgs (r+1))),
   .d (.ol (r+(fD F.fBody.fType.fArgs+1)) (lE F.fBody.fArgs (r+(fD F.fBody.fType.fArgs+1)+1))),.d (.ol (r+(fD F.fBody.fType.fArgs+1)+(jN F.fBody.fArgs+1)) (lM F.fBody.aI (r+(fD F.fBody.fType.fArgs+1)+(jN F.fBody.fArgs+1)+1)))]) F.v:=by
   have lab:∀(es:List (List D)) (k j:Nat),lD (.d (.ol k (dZ es j))) (.d (.sl es)):=fun es k j w σ S β v h=>(yU es j).rep (qP h)
   exact(dR.cons (.refl _) (.cons (Z4 _ _) (.cons (lab _ _ _) (.cons (O4 (p2.trans (yU _ _))) (.cons (.refl _) (.cons (.refl _) (.cons (lab _ _ _) (.cons (.refl _) (.cons (.refl _) (.cons (.refl _) (.cons (.refl _) (.cons (.refl _) (.cons (.refl _) (.cons (lab _ _ _) (.cons (lab _ _ _) (.cons (lab _ _ _) .nil)))))))))))))))).less
  rw[←hF] at hds
  refine Mi (Io F (by omega)) (.cons hcl .nil) ?_
  simp -implicitDefEqProofs (disch:=omega) only[go_sem]
  with_reducible refine aA (fun hb=> ?_) (fun hb=> ?_)<;>have h:=hb<;>(try simp only[wf_preprocess] at h)<;>simp -implicitDefEqProofs (disch:=omega) only[go_sem,hb]<;>(repeat(with_reducible refine And.intro ?_ ?_;focus first|omega|rfl|assumption|exact⟨_,rfl,rfl⟩|(simp;omega)|(simp;done)))
  ·exact AJ (aQ fun e=>by rw[←hF] at e;rw[e.2.2.1] at h;cases h)
  have hv:=h
  have hz:=Vy (ru hv).2.2.2
  (repeat(with_reducible refine And.intro ?_ ?_;focus first|omega|rfl|assumption|exact⟨_,rfl,rfl⟩|(simp;omega)|(simp;done)))
  refine Mi (aH.less (Kg F 0 hv (by omega)) (ZR (Bd F) 0)) (.cons hcl .nil) ?_
  simp -implicitDefEqProofs (disch:=omega) only[go_sem]
  refine ay (Dp (Bd F) x (by omega)) ?_
  simp -implicitDefEqProofs (disch:=omega) only[go_sem]
  with_reducible refine aA (fun hb=> ?_) (fun hb=> ?_)<;>have h:=hb<;>(try simp only[wf_preprocess] at h)<;>simp -implicitDefEqProofs (disch:=omega) only[go_sem,hb]<;>(repeat(with_reducible refine And.intro ?_ ?_;focus first|omega|rfl|assumption|exact⟨_,rfl,rfl⟩|(simp;omega)|(simp;done)))
  ·exact AJ (aQ fun e=>h (by rw[←hF] at e;exact e.2.2.2))
  ·have hy:okF x=true:=by
    unfold okF
    rw[←hF]
    exact bR ⟨hf.1,hf.2,hv,h⟩
   rw[Qb hy,hy,←hF,←hp,←hq,←hr0]
   exact(jk.cons (.cons (.refl _) (.cons (.refl _) (.cons (.refl _) (.cons (SQ p2) (.refl _))))) (.refl _)).less
theorem Iu(x:ah)(n:Nat)(hsz:x.sz≤1048576):aH Tryz.prog 33 [x.v] (.dS [(true,(dO (vJ x).enc n).map .d),(false,[.d (.b (okF x))])]):=by
 rw[aao];exact Kj x n hsz
end Go.Proofs.YtlmhknhlmicmeaaGreatDoor
namespace Go.Proofs.YtlmhknhlmicmeaaGreatDoor
open Go Go.Ab
end Go.Proofs.YtlmhknhlmicmeaaGreatDoor
namespace Go.Proofs.YtlmhknhlmicmeaaGreatDoor
open Go Go.Ab
end Go.Proofs.YtlmhknhlmicmeaaGreatDoor
namespace Go.Proofs.YtlmhknhlmicmeaaGreatDoor
open Go Go.Ab
end Go.Proofs.YtlmhknhlmicmeaaGreatDoor
namespace Go.Proofs.YtlmhknhlmicmeaaGreatDoor
open Go Go.Ab
end Go.Proofs.YtlmhknhlmicmeaaGreatDoor
namespace Go.Proofs.YtlmhknhlmicmeaaGreatDoor
open Go Go.Ab
end Go.Proofs.YtlmhknhlmicmeaaGreatDoor
namespace Go.Proofs.YtlmhknhlmicmeaaGreatDoor
open Go Go.Ab
end Go.Proofs.YtlmhknhlmicmeaaGreatDoor
namespace Go.Proofs.YtlmhknhlmicmeaaGreatDoor
open Go Go.Ab
theorem Cz:∀N:Nat,(∀x:ah,SizeOf.sizeOf x<N→∀n:Nat,x.sz≤1048576→aH Tryz.prog 28 [x.v] (.agg ((dO x.enc n).map .d)))∧
 (∀xs:List ah,SizeOf.sizeOf xs<N→∀n:Nat,xs.length+bG (xs.map ah.enc)≤1048576→aH Tryz.prog 109 [.c (.d (.sl (xs.map ah.enc)))] (.c (.d (kL (.sl (xs.map ah.enc)) n))))
 |0=>⟨fun x h=>by omega,fun x h=>by omega⟩
 |N+1=>by
  obtain⟨nM,rG⟩:=Cz N
  refine⟨fun x hn n hsz=> ?_,fun xs hn n hsz=> ?_⟩
  ·intro S
   have FP:=ah.jU x
   simp only[ah.sz,ah.aD,bM,bN,D.sz,List.length_map] at hsz
   refine aC (rs:=[.cell 2 32]) Tryz.checked.mixed Tryz.func28 Tryz.ntmps28 rfl rfl rfl rfl rfl ?_
   simp only[ah.aD,encS,encI,List.cons_append,List.nil_append,dO,kL,nJ,mZ,List.map_cons,List.map_nil,Nat.add_zero]
   simp -implicitDefEqProofs (disch:=omega) only[go_sem]
   refine ay (rG x.ak (by omega) (n) (by omega)) ?_
   simp -implicitDefEqProofs (disch:=omega) only[go_sem,kL]
   all_goals (first|rfl|(simp only[Nat.add_assoc];done))
  ·obtain⟨T,hT⟩:∃T,T=dZ (xs.map ah.enc) (n+1):=⟨_,rfl⟩
   have nC:T.length=xs.length:=by rw[hT,iM,List.length_map]
   show aH Tryz.prog 109 [.c (.d (.sl (xs.map ah.enc)))] (.c (.d (.ol n (dZ (xs.map ah.enc) (n+1)))))
   rw[←hT]
   intro S
   refine kM (n) (rs:=[.tmp 2]) Tryz.checked.mixed Tryz.func109 Tryz.ntmps109 rfl rfl rfl rfl rfl ?_
   simp -implicitDefEqProofs (disch:=omega) only[go_sem]
   (repeat(with_reducible refine And.intro ?_ ?_;focus first|omega|rfl|assumption|exact⟨_,rfl,rfl⟩|(simp;omega)|(simp;done)))
   refine aV (ι:=Nat×List (List D)) Tryz.checked.mixed rfl [0,3,4] (fun y=>[.c (.d (.sl (xs.map ah.enc))),.c (.jI (0,1)),.c (.d (.i .i64 y.1))]) (fun y=>[.seed n,.fu 2 y.2]::S)
    (fun y=>y.1≤xs.length∧pY 2 y.1 y.2 T) (fun y=>xs.length-y.1) (0,_) rfl rfl ⟨Nat.zero_le _,pY.start (by simp[nC]) rfl⟩ ?_
   rintro⟨i,R⟩ ⟨p1,p2⟩
   simp only at p1 p2
   simp -implicitDefEqProofs (disch:=omega) only[go_sem]
   with_reducible refine aA (fun hb=> ?_) (fun hb=> ?_)<;>have h:=hb<;>(try simp only[wf_preprocess] at h)<;>simp -implicitDefEqProofs (disch:=omega) only[go_sem,hb]<;>(repeat(with_reducible refine And.intro ?_ ?_;focus first|omega|rfl|assumption|exact⟨_,rfl,rfl⟩|(simp;omega)|(simp;done)))
   ·have hi:i<xs.length:=by omega
    have hir:i<(xs.map ah.enc).length:=by rw[List.length_map];exact hi
    have hR:=p2.1
    rw[nC] at hR
    have hTi:T[i]? =some (dO (ah.enc xs[i]) (n+1+iH ((xs.map ah.enc).take i))):=by
     rw[hT,Mw hir,List.getElem_map]
    have hx:xs[i].sz≤bG (xs.map ah.enc):=dY (List.mem_map_of_mem (List.getElem_mem hi))
    (repeat(with_reducible refine And.intro ?_ ?_;focus first|omega|rfl|assumption|exact⟨_,rfl,rfl⟩|(simp;omega)|(simp;done)))
    refine ay (nM xs[i] (by have:=List.sizeOf_lt_of_mem (List.getElem_mem hi);omega) (n+1+iH ((xs.map ah.enc).take i)) (by omega)) ?_
    obtain⟨row,hrow⟩:∃row,row=dO (ah.enc xs[i]) (n+1+iH ((xs.map ah.enc).take i)):=⟨_,rfl⟩
    have hrl:row.length=2:=by rw[hrow,fI,ah.bC]
    rw[←hrow] at hTi ⊢
    simp -implicitDefEqProofs (disch:=omega) only[go_sem,hrl,Mx]
    (repeat(with_reducible refine And.intro ?_ ?_;focus first|omega|rfl|assumption|exact⟨_,rfl,rfl⟩|(simp;omega)|(simp;done)))
    refine bH (i+1,_) (by simp only;omega) rfl rfl ⟨by simp only;omega,p2.step hTi hrl⟩
   ·have hi:i=xs.length:=by omega
    rw[p2.done (by omega)]
theorem O5(x:ah):∀n:Nat,x.sz≤1048576→aH Tryz.prog 28 [x.v] (.agg ((dO x.enc n).map .d)):=(Cz _).1 x (Nat.lt_succ_self _)
end Go.Proofs.YtlmhknhlmicmeaaGreatDoor
namespace Go.Proofs.YtlmhknhlmicmeaaGreatDoor
open Go Go.Ab
theorem zG(xs:List (List UInt8)):∀(k:Int) (l j r:Nat) (p:List (Nat×Nat)) (S:Store) (rs:List (List (List D))),aR S (l,j)=some (.xf rs)→atR rs r p=some (xs.map encS)→0≤k∧k+aB (xs.map encS)≤4611686018427387904→bA Tryz.prog 82 [.c (.xp (l,j) r p),.c (.d (.i .i64 k))] S (fun res S'=>res=.c (.d (.i .i64 (k+aB (xs.map encS))))∧S'=aW S (l,j) (.xf (cO rs r p (bT (xs.map encS) k)))):=by
 intro k l j r p S rs hS hp hk
 have hlen:=mO (f:=encS) (fun x=>by simp only[encS,List.cons_append,List.nil_append,jP,jO];omega) xs
 obtain⟨rows,hr⟩:∃rows,rows=xs.map encS:=⟨_,rfl⟩
 have hl:rows.length=xs.length:=by rw[hr,List.length_map]
 rw[←hr] at hp hk hlen ⊢
 have ht:∀x:Ab.Obj,aR (aW S (l,j) x) (l,j)=some x:=fun x=>bS _ _ _ _ hS
 have hA:∀new,atR (cO rs r p new) r p=some new:=fun new=>ou hp
 have hU:∀a b,cO (cO rs r p a) r p b=cO rs r p b:=fun a b=>nU hp
 refine aC (rs:=[.tmp 4]) Tryz.checked.mixed Tryz.func82 Tryz.ntmps82 rfl rfl rfl rfl rfl ?_
 simp -implicitDefEqProofs (disch:=omega) only[go_sem]
 refine aV (ι:=Nat) Tryz.checked.mixed rfl [0,1,5] (fun i=>[.c (.xp (1+l,j) r p),.c (.d (.i .i64 (k+aB (rows.take i)))),.c (.d (.i .i64 i))])
  (fun i=>[]::aW S (l,j) (.xf (cO rs r p (mo rows k i)))) (fun i=>i≤xs.length) (fun i=>xs.length-i) 0 ?_ ?_ (Nat.zero_le _) ?_
 ·have z0:k+((aB (rows.take 0):Nat):Int)=k:=by simp[aB]
  rw[z0]
  rfl
 ·rw[qj,qh hp,kE _ _ hS]
 intro i hi
 simp -implicitDefEqProofs (disch:=omega) only[go_sem,ht,hA,iO,hl]
 with_reducible refine aA (fun hb=> ?_) (fun hb=> ?_)<;>have h:=hb<;>try simp only[wf_preprocess] at h
 ·have hi:i<xs.length:=by omega
  have hir:i<rows.length:=by omega
  obtain⟨x,hx⟩:∃x,x=xs[i]:=⟨_,rfl⟩
  have e1:rows[i]=[.s x]:=by
   simp only[hr,List.getElem_map,←hx]
   simp only[encS,List.cons_append,List.nil_append]
  have hm:=jg hir
  have hle:=lS (rows:=rows) (i:=i+1)
  rw[hm,e1] at hle
  rw[e1] at hm
  simp only[jP,jO] at hle hm
  have hK:k+((aB (rows.take (i+1)):Nat):Int)=k+((aB (rows.take i):Nat):Int)+1:=by rw[hm];omega
  have e2:=uy (k:=k) hir
  rw[e1] at e2
  have hC:∀row o,cellAt (iX rows k i row) i o=row[o]? :=fun row o=>mM hir
  have hG:∀row,(iX rows k i row).getD i []=row:=fun row=>ql hir
  simp -implicitDefEqProofs (disch:=omega) only[go_sem,hb,ht,hA,hU,e2,hC,hG,dK,cB,hl,bD,dJ]
  (repeat(with_reducible refine And.intro ?_ ?_;focus first|omega|rfl|assumption|exact⟨_,rfl,rfl⟩|(simp;omega)|(simp;done)))
  refine ay (dw (k+((aB (rows.take i):Nat):Int)) (by omega)) ?_
  simp -implicitDefEqProofs (disch:=omega) only[go_sem,hb,ht,hA,hU,e2,hC,hG,dK,cB,hl,bD,dJ]
  (repeat(with_reducible refine And.intro ?_ ?_;focus first|omega|rfl|assumption|exact⟨_,rfl,rfl⟩|(simp;omega)|(simp;done)))
  refine bH (i+1) (by omega) (by rw[hK];rfl) ?_ (by omega)
  have h3:=uz (k:=k) hir
  rw[e1] at h3
  simp only[l8,yc] at h3
  rw[←h3]
  all_goals rfl
 ·simp -implicitDefEqProofs (disch:=omega) only[go_sem,hb]
  have hi:i=xs.length:=by omega
  rw[rE (by omega),List.take_of_length_le (by omega)]
  all_goals (first|rfl|exact⟨rfl,rfl⟩)
theorem zH(xs:List (List UInt8)):∀(k:Int) (l j r:Nat) (p:List (Nat×Nat)) (S:Store) (rs:List (List (List D))),aR S (l,j)=some (.xf rs)→atR rs r p=some (bT (xs.map encS) k)→0≤k∧k+aB (xs.map encS)≤4611686018427387904→bA Tryz.prog 132 [.c (.xp (l,j) r p),.c (.d (.i .i64 k))] S (fun res S'=>res=.c (.d (.i .i64 (k+aB (xs.map encS))))∧S'=S):=by
 intro k l j r p S rs hS hp hk
 have hlen:=mO (f:=encS) (fun x=>by simp only[encS,List.cons_append,List.nil_append,jP,jO];omega) xs
 obtain⟨rows,hr⟩:∃rows,rows=xs.map encS:=⟨_,rfl⟩
 have hl:rows.length=xs.length:=by rw[hr,List.length_map]
 rw[←hr] at hp hk hlen ⊢
 refine aC (rs:=[.tmp 4]) Tryz.checked.mixed Tryz.func132 Tryz.ntmps132 rfl rfl rfl rfl rfl ?_
 simp -implicitDefEqProofs (disch:=omega) only[go_sem]
 refine aV (ι:=Nat) Tryz.checked.mixed rfl [0,1,5] (fun i=>[.c (.xp (1+l,j) r p),.c (.d (.i .i64 (k+aB (rows.take i)))),.c (.d (.i .i64 i))])
  (fun i=>[]::S) (fun i=>i≤xs.length) (fun i=>xs.length-i) 0 ?_ rfl (Nat.zero_le _) ?_
 ·have z0:k+((aB (rows.take 0):Nat):Int)=k:=by simp[aB]
  rw[z0]
  rfl
 intro i hi
 simp -implicitDefEqProofs (disch:=omega) only[go_sem,hS,hp,bE,hl]
 with_reducible refine aA (fun hb=> ?_) (fun hb=> ?_)<;>have h:=hb<;>try simp only[wf_preprocess] at h
 ·have hi:i<xs.length:=by omega
  have hir:i<rows.length:=by omega
  obtain⟨x,hx⟩:∃x,x=xs[i]:=⟨_,rfl⟩
  have e1:rows[i]=[.s x]:=by
   simp only[hr,List.getElem_map,←hx]
   simp only[encS,List.cons_append,List.nil_append]
  have hm:=jg hir
  have hle:=lS (rows:=rows) (i:=i+1)
  rw[hm,e1] at hle
  rw[e1] at hm
  simp only[jP,jO] at hle hm
  have hK:k+((aB (rows.take (i+1)):Nat):Int)=k+((aB (rows.take i):Nat):Int)+1:=by rw[hm];omega
  have e2:l8 rows[i] (k+((aB (rows.take i):Nat):Int))=[.s (gG (k+((aB (rows.take i):Nat):Int)))]:=by
   rw[e1]
   simp only[l8,yc]
   all_goals rfl
  have hC:∀o,cellAt (bT rows k) i o=([.s (gG (k+((aB (rows.take i):Nat):Int)))]:List D)[o]? :=fun o=>by
   have h1:(bT rows k)[i]? =some (l8 rows[i] (k+((aB (rows.take i):Nat):Int))):=by
    have h2:=jV (k:=k) hir
    have h3:i<(bT rows k).length:=by rw[bE];exact hir
    rw[List.getD_eq_getElem?_getD,List.getElem?_eq_getElem h3,Option.getD_some] at h2
    rw[List.getElem?_eq_getElem h3,h2]
   unfold cellAt
   rw[h1,Option.bind_some,e2]
  have hG:=jV (k:=k) hir
  rw[e2] at hG
  simp -implicitDefEqProofs (disch:=omega) only[go_sem,hb,hS,hp,hC,hG,bE,hl,dJ]
  (repeat(with_reducible refine And.intro ?_ ?_;focus first|omega|rfl|assumption|exact⟨_,rfl,rfl⟩|(simp;omega)|(simp;done)))
  refine ay (dw (k+((aB (rows.take i):Nat):Int)) (by omega)) ?_
  simp -implicitDefEqProofs (disch:=omega) only[go_sem,hb,hS,hp,hC,hG,bE,hl,dJ]
  (repeat(with_reducible refine And.intro ?_ ?_;focus first|omega|rfl|assumption|exact⟨_,rfl,rfl⟩|(simp;omega)|(simp;done)))
  refine bH (i+1) (by omega) (by rw[hK];rfl) rfl (by omega)
 ·simp -implicitDefEqProofs (disch:=omega) only[go_sem,hb]
  have hi:i=xs.length:=by omega
  rw[List.take_of_length_le (by omega)]
  all_goals (first|rfl|exact⟨rfl,rfl⟩)
end Go.Proofs.YtlmhknhlmicmeaaGreatDoor
namespace Go.Proofs.YtlmhknhlmicmeaaGreatDoor
open Go Go.Ab
end Go.Proofs.YtlmhknhlmicmeaaGreatDoor
namespace Go.Proofs.YtlmhknhlmicmeaaGreatDoor
open Go Go.Ab
theorem CB:∀n:Nat,(∀xs:List aj,SizeOf.sizeOf xs<n→∀(k:Int) (l j r:Nat) (p:List (Nat×Nat)) (S:Store) (rs:List (List (List D))),aR S (l,j)=some (.xf rs)→atR rs r p=some (xs.map aj.enc)→0≤k∧k+aB (xs.map aj.enc)≤4611686018427387904→bA Tryz.prog 183 [.c (.xp (l,j) r p),.c (.d (.i .i64 k))] S (fun res S'=>res=.c (.d (.i .i64 (k+aB (xs.map aj.enc))))∧S'=aW S (l,j) (.xf (cO rs r p (bT (xs.map aj.enc) k)))))
 |0=>fun xs h=>by omega
 |n+1=>by
  have BM:=CB n
  refine fun xs hn k l j r p S rs hS hp hk=> ?_
  ·have hlen:=mO (f:=aj.enc) (fun x=>by simp only[aj.aD,encS,encI,List.cons_append,List.nil_append,jP,jO];omega) xs
   obtain⟨rows,hr⟩:∃rows,rows=xs.map aj.enc:=⟨_,rfl⟩
   have hl:rows.length=xs.length:=by rw[hr,List.length_map]
   rw[←hr] at hp hk hlen ⊢
   have ht:∀x:Ab.Obj,aR (aW S (l,j) x) (l,j)=some x:=fun x=>bS _ _ _ _ hS
   have hA:∀new,atR (cO rs r p new) r p=some new:=fun new=>ou hp
   have hU:∀a b,cO (cO rs r p a) r p b=cO rs r p b:=fun a b=>nU hp
   refine aC (rs:=[.tmp 4]) Tryz.checked.mixed Tryz.func183 Tryz.ntmps183 rfl rfl rfl rfl rfl ?_
   simp -implicitDefEqProofs (disch:=omega) only[go_sem]
   refine aV (ι:=Nat) Tryz.checked.mixed rfl [0,1,5] (fun i=>[.c (.xp (1+l,j) r p),.c (.d (.i .i64 (k+aB (rows.take i)))),.c (.d (.i .i64 i))])
    (fun i=>[]::aW S (l,j) (.xf (cO rs r p (mo rows k i)))) (fun i=>i≤xs.length) (fun i=>xs.length-i) 0 ?_ ?_ (Nat.zero_le _) ?_
   ·have z0:k+((aB (rows.take 0):Nat):Int)=k:=by simp[aB]
    rw[z0]
    rfl
   ·rw[qj,qh hp,kE _ _ hS]
   intro i hi
   simp -implicitDefEqProofs (disch:=omega) only[go_sem,ht,hA,iO,hl]
   with_reducible refine aA (fun hb=> ?_) (fun hb=> ?_)<;>have h:=hb<;>try simp only[wf_preprocess] at h
   ·have hi:i<xs.length:=by omega
    have hir:i<rows.length:=by omega
    obtain⟨x,hx⟩:∃x,x=xs[i]:=⟨_,rfl⟩
    have e1:rows[i]=[.i .i64 x.aG,.s x.fName,.sl (x.fArgs.map aj.enc)]:=by
     simp only[hr,List.getElem_map,←hx]
     simp only[aj.aD,encS,encI,List.cons_append,List.nil_append]
    have hm:=jg hir
    have hle:=lS (rows:=rows) (i:=i+1)
    rw[hm,e1] at hle
    rw[e1] at hm
    simp only[jP,jO] at hle hm
    have hK:k+((aB (rows.take (i+1)):Nat):Int)=k+((aB (rows.take i):Nat):Int)+1+1+((aB (x.fArgs.map aj.enc):Nat):Int):=by rw[hm];omega
    have e2:=uy (k:=k) hir
    rw[e1] at e2
    have hC:∀row o,cellAt (iX rows k i row) i o=row[o]? :=fun row o=>mM hir
    have hG:∀row,(iX rows k i row).getD i []=row:=fun row=>ql hir
    simp -implicitDefEqProofs (disch:=omega) only[go_sem,hb,ht,hA,hU,e2,hC,hG,dK,cB,hl,bD,dJ]
    (repeat(with_reducible refine And.intro ?_ ?_;focus first|omega|rfl|assumption|exact⟨_,rfl,rfl⟩|(simp;omega)|(simp;done)))
    refine ay (dw (k+((aB (rows.take i):Nat):Int)+1) (by omega)) ?_
    simp -implicitDefEqProofs (disch:=omega) only[go_sem,hb,ht,hA,hU,e2,hC,hG,dK,cB,hl,bD,dJ]
    (repeat(with_reducible refine And.intro ?_ ?_;focus first|omega|rfl|assumption|exact⟨_,rfl,rfl⟩|(simp;omega)|(simp;done)))
    refine bf rfl (qm hS hp hir (by rfl) (fun S' rs' g1 g2=>BM x.fArgs (by have:=List.sizeOf_lt_of_mem (List.getElem_mem hi);rw[←hx] at this;have:=aj.fA x;omega) (k+((aB (rows.take i):Nat):Int)+1+1) (1+l) j r _ S' rs' g1 g2 (by omega))) ?_
    simp -implicitDefEqProofs (disch:=omega) only[go_sem,hb,ht,hA,hU,e2,hC,hG,dK,cB,hl,bD,dJ]
    (repeat(with_reducible refine And.intro ?_ ?_;focus first|omega|rfl|assumption|exact⟨_,rfl,rfl⟩|(simp;omega)|(simp;done)))
    refine bH (i+1) (by omega) (by rw[hK];rfl) ?_ (by omega)
    have h3:=uz (k:=k) hir
    rw[e1] at h3
    simp only[l8,yc] at h3
    rw[←h3]
    all_goals rfl
   ·simp -implicitDefEqProofs (disch:=omega) only[go_sem,hb]
    have hi:i=xs.length:=by omega
    rw[rE (by omega),List.take_of_length_le (by omega)]
    all_goals (first|rfl|exact⟨rfl,rfl⟩)
theorem qE(xs:List aj):∀(k:Int) (l j r:Nat) (p:List (Nat×Nat)) (S:Store) (rs:List (List (List D))),aR S (l,j)=some (.xf rs)→atR rs r p=some (xs.map aj.enc)→0≤k∧k+aB (xs.map aj.enc)≤4611686018427387904→bA Tryz.prog 183 [.c (.xp (l,j) r p),.c (.d (.i .i64 k))] S (fun res S'=>res=.c (.d (.i .i64 (k+aB (xs.map aj.enc))))∧S'=aW S (l,j) (.xf (cO rs r p (bT (xs.map aj.enc) k)))):=(CB _) xs (Nat.lt_succ_self _)
theorem Ec(x:aj)(k:Int)(l j b:Nat)(S:Store)(rs:List (List (List D)))(hS:aR S (l,j)=some (.xf rs))(h2:atR rs (b+2) []=some (x.fArgs.map aj.enc))(hk:0≤k∧k+((aB (x.fArgs.map aj.enc):Nat):Int)≤4611686018427387904):bA Tryz.prog 113 [.agg [.d (.i .i64 x.aG),.d (.s x.fName),.xp (l,j) (b+2) []],.c (.d (.i .i64 k))] S (fun res S'=>res=.c (.d (.i .i64 (k+((aB (x.fArgs.map aj.enc):Nat):Int))))∧S'=aW S (l,j) (.xf (cO (rs) (b+2) [] (bT (x.fArgs.map aj.enc) (k))))):=by
 have ht:∀x:Ab.Obj,aR (aW S (l,j) x) (l,j)=some x:=fun x=>bS _ _ _ _ hS
 refine aC (rs:=[.tmp 4]) Tryz.checked.mixed Tryz.func113 Tryz.ntmps113 rfl rfl rfl rfl rfl ?_
 simp -implicitDefEqProofs (disch:=omega) only[go_sem]
 refine bf rfl (qE x.fArgs (k) (1+l) j (b+2) [] _ _ (by rw[dN];first|exact hS|exact ht _) (by first|assumption|(simp(disch:=omega) only[ne_eq,gY];assumption)) (by omega)) ?_
 simp -implicitDefEqProofs (disch:=omega) only[go_sem,bD,kX]
 try exact⟨rfl,rfl⟩
theorem CF:∀n:Nat,(∀xs:List aj,SizeOf.sizeOf xs<n→∀(k:Int) (l j r:Nat) (p:List (Nat×Nat)) (S:Store) (rs:List (List (List D))),aR S (l,j)=some (.xf rs)→atR rs r p=some (bT (xs.map aj.enc) k)→0≤k∧k+aB (xs.map aj.enc)≤4611686018427387904→bA Tryz.prog 214 [.c (.xp (l,j) r p),.c (.d (.i .i64 k))] S (fun res S'=>res=.c (.d (.i .i64 (k+aB (xs.map aj.enc))))∧S'=S))
 |0=>fun xs h=>by omega
 |n+1=>by
  have BM:=CF n
  refine fun xs hn k l j r p S rs hS hp hk=> ?_
  ·have hlen:=mO (f:=aj.enc) (fun x=>by simp only[aj.aD,encS,encI,List.cons_append,List.nil_append,jP,jO];omega) xs
   obtain⟨rows,hr⟩:∃rows,rows=xs.map aj.enc:=⟨_,rfl⟩
   have hl:rows.length=xs.length:=by rw[hr,List.length_map]
   rw[←hr] at hp hk hlen ⊢
   refine aC (rs:=[.tmp 4]) Tryz.checked.mixed Tryz.func214 Tryz.ntmps214 rfl rfl rfl rfl rfl ?_
   simp -implicitDefEqProofs (disch:=omega) only[go_sem]
   refine aV (ι:=Nat) Tryz.checked.mixed rfl [0,1,5] (fun i=>[.c (.xp (1+l,j) r p),.c (.d (.i .i64 (k+aB (rows.take i)))),.c (.d (.i .i64 i))])
    (fun i=>[]::S) (fun i=>i≤xs.length) (fun i=>xs.length-i) 0 ?_ rfl (Nat.zero_le _) ?_
   ·have z0:k+((aB (rows.take 0):Nat):Int)=k:=by simp[aB]
    rw[z0]
    rfl
   intro i hi
   simp -implicitDefEqProofs (disch:=omega) only[go_sem,hS,hp,bE,hl]
   with_reducible refine aA (fun hb=> ?_) (fun hb=> ?_)<;>have h:=hb<;>try simp only[wf_preprocess] at h
   ·have hi:i<xs.length:=by omega
    have hir:i<rows.length:=by omega
    obtain⟨x,hx⟩:∃x,x=xs[i]:=⟨_,rfl⟩
    have e1:rows[i]=[.i .i64 x.aG,.s x.fName,.sl (x.fArgs.map aj.enc)]:=by
     simp only[hr,List.getElem_map,←hx]
     simp only[aj.aD,encS,encI,List.cons_append,List.nil_append]
    have hm:=jg hir
    have hle:=lS (rows:=rows) (i:=i+1)
    rw[hm,e1] at hle
    rw[e1] at hm
    simp only[jP,jO] at hle hm
    have hK:k+((aB (rows.take (i+1)):Nat):Int)=k+((aB (rows.take i):Nat):Int)+1+1+((aB (x.fArgs.map aj.enc):Nat):Int):=by rw[hm];omega
    have e2:l8 rows[i] (k+((aB (rows.take i):Nat):Int))=[.i .i64 (k+((aB (rows.take i):Nat):Int)),.s (gG (k+((aB (rows.take i):Nat):Int)+1)),.sl (bT (x.fArgs.map aj.enc) (k+((aB (rows.take i):Nat):Int)+1+1))]:=by
     rw[e1]
     simp only[l8,yc]
     all_goals rfl
    have hC:∀o,cellAt (bT rows k) i o=([.i .i64 (k+((aB (rows.take i):Nat):Int)),.s (gG (k+((aB (rows.take i):Nat):Int)+1)),.sl (bT (x.fArgs.map aj.enc) (k+((aB (rows.take i):Nat):Int)+1+1))]:List D)[o]? :=fun o=>by
     have h1:(bT rows k)[i]? =some (l8 rows[i] (k+((aB (rows.take i):Nat):Int))):=by
      have h2:=jV (k:=k) hir
      have h3:i<(bT rows k).length:=by rw[bE];exact hir
      rw[List.getD_eq_getElem?_getD,List.getElem?_eq_getElem h3,Option.getD_some] at h2
      rw[List.getElem?_eq_getElem h3,h2]
     unfold cellAt
     rw[h1,Option.bind_some,e2]
    have hG:=jV (k:=k) hir
    rw[e2] at hG
    simp -implicitDefEqProofs (disch:=omega) only[go_sem,hb,hS,hp,hC,hG,bE,hl,dJ]
    (repeat(with_reducible refine And.intro ?_ ?_;focus first|omega|rfl|assumption|exact⟨_,rfl,rfl⟩|(simp;omega)|(simp;done)))
    refine ay (dw (k+((aB (rows.take i):Nat):Int)+1) (by omega)) ?_
    simp -implicitDefEqProofs (disch:=omega) only[go_sem,hb,hS,hp,hC,hG,bE,hl,dJ]
    (repeat(with_reducible refine And.intro ?_ ?_;focus first|omega|rfl|assumption|exact⟨_,rfl,rfl⟩|(simp;omega)|(simp;done)))
    refine bf rfl (BM x.fArgs (by have:=List.sizeOf_lt_of_mem (List.getElem_mem hi);rw[←hx] at this;have:=aj.fA x;omega) (k+((aB (rows.take i):Nat):Int)+1+1) (1+l) j r _ _ _ (by rw[dN];exact hS) (lX hp (by rw[hC];rfl)) (by omega)) ?_
    simp -implicitDefEqProofs (disch:=omega) only[go_sem,hb,hS,hp,hC,hG,bE,hl,dJ,gF]
    (repeat(with_reducible refine And.intro ?_ ?_;focus first|omega|rfl|assumption|exact⟨_,rfl,rfl⟩|(simp;omega)|(simp;done)))
    refine bH (i+1) (by omega) (by rw[hK];rfl) rfl (by omega)
   ·simp -implicitDefEqProofs (disch:=omega) only[go_sem,hb]
    have hi:i=xs.length:=by omega
    rw[List.take_of_length_le (by omega)]
    all_goals (first|rfl|exact⟨rfl,rfl⟩)
theorem qG(xs:List aj):∀(k:Int) (l j r:Nat) (p:List (Nat×Nat)) (S:Store) (rs:List (List (List D))),aR S (l,j)=some (.xf rs)→atR rs r p=some (bT (xs.map aj.enc) k)→0≤k∧k+aB (xs.map aj.enc)≤4611686018427387904→bA Tryz.prog 214 [.c (.xp (l,j) r p),.c (.d (.i .i64 k))] S (fun res S'=>res=.c (.d (.i .i64 (k+aB (xs.map aj.enc))))∧S'=S):=(CF _) xs (Nat.lt_succ_self _)
theorem Ed(x:aj)(k:Int)(l j b:Nat)(S:Store)(rs:List (List (List D)))(hS:aR S (l,j)=some (.xf rs))(h2:atR rs (b+2) []=some (bT (x.fArgs.map aj.enc) (k)))(hk:0≤k∧k+((aB (x.fArgs.map aj.enc):Nat):Int)≤4611686018427387904):bA Tryz.prog 116 [.agg [.d (.i .i64 x.aG),.d (.s x.fName),.xp (l,j) (b+2) []],.c (.d (.i .i64 k))] S (fun res S'=>res=.c (.d (.i .i64 (k+((aB (x.fArgs.map aj.enc):Nat):Int))))∧S'=S):=by
 refine aC (rs:=[.tmp 4]) Tryz.checked.mixed Tryz.func116 Tryz.ntmps116 rfl rfl rfl rfl rfl ?_
 simp -implicitDefEqProofs (disch:=omega) only[go_sem]
 refine bf rfl (qG x.fArgs (k) (1+l) j (b+2) [] _ _ (by rw[dN];first|exact hS|exact ht _) (by first|assumption|(simp(disch:=omega) only[ne_eq,gY];assumption)) (by omega)) ?_
 simp -implicitDefEqProofs (disch:=omega) only[go_sem,gF]
 try exact⟨rfl,rfl⟩
end Go.Proofs.YtlmhknhlmicmeaaGreatDoor
namespace Go.Proofs.YtlmhknhlmicmeaaGreatDoor
open Go Go.Ab
end Go.Proofs.YtlmhknhlmicmeaaGreatDoor
namespace Go.Proofs.YtlmhknhlmicmeaaGreatDoor
open Go Go.Ab
set_option maxHeartbeats 4000000 in
theorem Kk(xs:List aN):∀(k:Int) (l j r:Nat) (p:List (Nat×Nat)) (S:Store) (rs:List (List (List D))),aR S (l,j)=some (.xf rs)→atR rs r p=some (xs.map aN.enc)→0≤k∧k+aB (xs.map aN.enc)≤4611686018427387904→bA Tryz.prog 130 [.c (.xp (l,j) r p),.c (.d (.i .i64 k))] S (fun res S'=>res=.c (.d (.i .i64 (k+aB (xs.map aN.enc))))∧S'=aW S (l,j) (.xf (cO rs r p (bT (xs.map aN.enc) k)))):=by
 intro k l j r p S rs hS hp hk
 have hlen:=mO (f:=aN.enc) (fun x=>by simp only[aN.aD,aj.aD,encS,encI,List.cons_append,List.nil_append,jP,jO];omega) xs
 obtain⟨rows,hr⟩:∃rows,rows=xs.map aN.enc:=⟨_,rfl⟩
 have hl:rows.length=xs.length:=by rw[hr,List.length_map]
 rw[←hr] at hp hk hlen ⊢
 have ht:∀x:Ab.Obj,aR (aW S (l,j) x) (l,j)=some x:=fun x=>bS _ _ _ _ hS
 have hA:∀new,atR (cO rs r p new) r p=some new:=fun new=>ou hp
 have hU:∀a b,cO (cO rs r p a) r p b=cO rs r p b:=fun a b=>nU hp
 refine aC (rs:=[.tmp 4]) Tryz.checked.mixed Tryz.func130 Tryz.ntmps130 rfl rfl rfl rfl rfl ?_
 simp -implicitDefEqProofs (disch:=omega) only[go_sem]
 refine aV (ι:=Nat) Tryz.checked.mixed rfl [0,1,5] (fun i=>[.c (.xp (1+l,j) r p),.c (.d (.i .i64 (k+aB (rows.take i)))),.c (.d (.i .i64 i))])
  (fun i=>[]::aW S (l,j) (.xf (cO rs r p (mo rows k i)))) (fun i=>i≤xs.length) (fun i=>xs.length-i) 0 ?_ ?_ (Nat.zero_le _) ?_
 ·have z0:k+((aB (rows.take 0):Nat):Int)=k:=by simp[aB]
  rw[z0]
  rfl
 ·rw[qj,qh hp,kE _ _ hS]
 intro i hi
 simp -implicitDefEqProofs (disch:=omega) only[go_sem,ht,hA,iO,hl]
 with_reducible refine aA (fun hb=> ?_) (fun hb=> ?_)<;>have h:=hb<;>try simp only[wf_preprocess] at h
 ·have hi:i<xs.length:=by omega
  have hir:i<rows.length:=by omega
  obtain⟨x,hx⟩:∃x,x=xs[i]:=⟨_,rfl⟩
  have e1:rows[i]=[.s x.aY,.i .i64 x.fType.aG,.s x.fType.fName,.sl (x.fType.fArgs.map aj.enc)]:=by
   simp only[hr,List.getElem_map,←hx]
   simp only[aN.aD,aj.aD,encS,encI,List.cons_append,List.nil_append]
  have hm:=jg hir
  have hle:=lS (rows:=rows) (i:=i+1)
  rw[hm,e1] at hle
  rw[e1] at hm
  simp only[jP,jO] at hle hm
  have hK:k+((aB (rows.take (i+1)):Nat):Int)=k+((aB (rows.take i):Nat):Int)+1+1+1+((aB (x.fType.fArgs.map aj.enc):Nat):Int):=by rw[hm];omega
  have e2:=uy (k:=k) hir
  rw[e1] at e2
  have hC:∀row o,cellAt (iX rows k i row) i o=row[o]? :=fun row o=>mM hir
  have hG:∀row,(iX rows k i row).getD i []=row:=fun row=>ql hir
  simp -implicitDefEqProofs (disch:=omega) only[go_sem,hb,ht,hA,hU,e2,hC,hG,dK,cB,hl,bD,dJ]
  (repeat(with_reducible refine And.intro ?_ ?_;focus first|omega|rfl|assumption|exact⟨_,rfl,rfl⟩|(simp;omega)|(simp;done)))
  refine ay (dw (k+((aB (rows.take i):Nat):Int)) (by omega)) ?_
  simp -implicitDefEqProofs (disch:=omega) only[go_sem,hb,ht,hA,hU,e2,hC,hG,dK,cB,hl,bD,dJ]
  (repeat(with_reducible refine And.intro ?_ ?_;focus first|omega|rfl|assumption|exact⟨_,rfl,rfl⟩|(simp;omega)|(simp;done)))
  refine ay (dw (k+((aB (rows.take i):Nat):Int)+1+1) (by omega)) ?_
  simp -implicitDefEqProofs (disch:=omega) only[go_sem,hb,ht,hA,hU,e2,hC,hG,dK,cB,hl,bD,dJ]
  (repeat(with_reducible refine And.intro ?_ ?_;focus first|omega|rfl|assumption|exact⟨_,rfl,rfl⟩|(simp;omega)|(simp;done)))
  refine bf rfl (qm hS hp hir (by rfl) (fun S' rs' g1 g2=>qE x.fType.fArgs (k+((aB (rows.take i):Nat):Int)+1+1+1) (1+l) j r _ S' rs' g1 g2 (by omega))) ?_
  simp -implicitDefEqProofs (disch:=omega) only[go_sem,hb,ht,hA,hU,e2,hC,hG,dK,cB,hl,bD,dJ]
  (repeat(with_reducible refine And.intro ?_ ?_;focus first|omega|rfl|assumption|exact⟨_,rfl,rfl⟩|(simp;omega)|(simp;done)))
  refine bH (i+1) (by omega) (by rw[hK];rfl) ?_ (by omega)
  have h3:=uz (k:=k) hir
  rw[e1] at h3
  simp only[l8,yc] at h3
  rw[←h3]
  all_goals rfl
 ·simp -implicitDefEqProofs (disch:=omega) only[go_sem,hb]
  have hi:i=xs.length:=by omega
  rw[rE (by omega),List.take_of_length_le (by omega)]
  all_goals (first|rfl|exact⟨rfl,rfl⟩)
set_option maxHeartbeats 4000000 in
theorem Kl(xs:List aN):∀(k:Int) (l j r:Nat) (p:List (Nat×Nat)) (S:Store) (rs:List (List (List D))),aR S (l,j)=some (.xf rs)→atR rs r p=some (bT (xs.map aN.enc) k)→0≤k∧k+aB (xs.map aN.enc)≤4611686018427387904→bA Tryz.prog 133 [.c (.xp (l,j) r p),.c (.d (.i .i64 k))] S (fun res S'=>res=.c (.d (.i .i64 (k+aB (xs.map aN.enc))))∧S'=S):=by
 intro k l j r p S rs hS hp hk
 have hlen:=mO (f:=aN.enc) (fun x=>by simp only[aN.aD,aj.aD,encS,encI,List.cons_append,List.nil_append,jP,jO];omega) xs
 obtain⟨rows,hr⟩:∃rows,rows=xs.map aN.enc:=⟨_,rfl⟩
 have hl:rows.length=xs.length:=by rw[hr,List.length_map]
 rw[←hr] at hp hk hlen ⊢
 refine aC (rs:=[.tmp 4]) Tryz.checked.mixed Tryz.func133 Tryz.ntmps133 rfl rfl rfl rfl rfl ?_
 simp -implicitDefEqProofs (disch:=omega) only[go_sem]
 refine aV (ι:=Nat) Tryz.checked.mixed rfl [0,1,5] (fun i=>[.c (.xp (1+l,j) r p),.c (.d (.i .i64 (k+aB (rows.take i)))),.c (.d (.i .i64 i))])
  (fun i=>[]::S) (fun i=>i≤xs.length) (fun i=>xs.length-i) 0 ?_ rfl (Nat.zero_le _) ?_
 ·have z0:k+((aB (rows.take 0):Nat):Int)=k:=by simp[aB]
  rw[z0]
  rfl
 intro i hi
 simp -implicitDefEqProofs (disch:=omega) only[go_sem,hS,hp,bE,hl]
 with_reducible refine aA (fun hb=> ?_) (fun hb=> ?_)<;>have h:=hb<;>try simp only[wf_preprocess] at h
 ·have hi:i<xs.length:=by omega
  have hir:i<rows.length:=by omega
  obtain⟨x,hx⟩:∃x,x=xs[i]:=⟨_,rfl⟩
  have e1:rows[i]=[.s x.aY,.i .i64 x.fType.aG,.s x.fType.fName,.sl (x.fType.fArgs.map aj.enc)]:=by
   simp only[hr,List.getElem_map,←hx]
   simp only[aN.aD,aj.aD,encS,encI,List.cons_append,List.nil_append]
  have hm:=jg hir
  have hle:=lS (rows:=rows) (i:=i+1)
  rw[hm,e1] at hle
  rw[e1] at hm
  simp only[jP,jO] at hle hm
  have hK:k+((aB (rows.take (i+1)):Nat):Int)=k+((aB (rows.take i):Nat):Int)+1+1+1+((aB (x.fType.fArgs.map aj.enc):Nat):Int):=by rw[hm];omega
  have e2:l8 rows[i] (k+((aB (rows.take i):Nat):Int))=[.s (gG (k+((aB (rows.take i):Nat):Int))),.i .i64 (k+((aB (rows.take i):Nat):Int)+1),.s (gG (k+((aB (rows.take i):Nat):Int)+1+1)),.sl (bT (x.fType.fArgs.map aj.enc) (k+((aB (rows.take i):Nat):Int)+1+1+1))]:=by
   rw[e1]
   simp only[l8,yc]
   all_goals rfl
  have hC:∀o,cellAt (bT rows k) i o=([.s (gG (k+((aB (rows.take i):Nat):Int))),.i .i64 (k+((aB (rows.take i):Nat):Int)+1),.s (gG (k+((aB (rows.take i):Nat):Int)+1+1)),.sl (bT (x.fType.fArgs.map aj.enc) (k+((aB (rows.take i):Nat):Int)+1+1+1))]:List D)[o]? :=fun o=>by
   have h1:(bT rows k)[i]? =some (l8 rows[i] (k+((aB (rows.take i):Nat):Int))):=by
    have h2:=jV (k:=k) hir
    have h3:i<(bT rows k).length:=by rw[bE];exact hir
    rw[List.getD_eq_getElem?_getD,List.getElem?_eq_getElem h3,Option.getD_some] at h2
    rw[List.getElem?_eq_getElem h3,h2]
   unfold cellAt
   rw[h1,Option.bind_some,e2]
  have hG:=jV (k:=k) hir
  rw[e2] at hG
  simp -implicitDefEqProofs (disch:=omega) only[go_sem,hb,hS,hp,hC,hG,bE,hl,dJ]
  (repeat(with_reducible refine And.intro ?_ ?_;focus first|omega|rfl|assumption|exact⟨_,rfl,rfl⟩|(simp;omega)|(simp;done)))
  refine ay (dw (k+((aB (rows.take i):Nat):Int)) (by omega)) ?_
  simp -implicitDefEqProofs (disch:=omega) only[go_sem,hb,hS,hp,hC,hG,bE,hl,dJ]
  (repeat(with_reducible refine And.intro ?_ ?_;focus first|omega|rfl|assumption|exact⟨_,rfl,rfl⟩|(simp;omega)|(simp;done)))
  refine ay (dw (k+((aB (rows.take i):Nat):Int)+1+1) (by omega)) ?_
  simp -implicitDefEqProofs (disch:=omega) only[go_sem,hb,hS,hp,hC,hG,bE,hl,dJ]
  (repeat(with_reducible refine And.intro ?_ ?_;focus first|omega|rfl|assumption|exact⟨_,rfl,rfl⟩|(simp;omega)|(simp;done)))
  refine bf rfl (qG x.fType.fArgs (k+((aB (rows.take i):Nat):Int)+1+1+1) (1+l) j r _ _ _ (by rw[dN];exact hS) (lX hp (by rw[hC];rfl)) (by omega)) ?_
  simp -implicitDefEqProofs (disch:=omega) only[go_sem,hb,hS,hp,hC,hG,bE,hl,dJ,gF]
  (repeat(with_reducible refine And.intro ?_ ?_;focus first|omega|rfl|assumption|exact⟨_,rfl,rfl⟩|(simp;omega)|(simp;done)))
  refine bH (i+1) (by omega) (by rw[hK];rfl) rfl (by omega)
 ·simp -implicitDefEqProofs (disch:=omega) only[go_sem,hb]
  have hi:i=xs.length:=by omega
  rw[List.take_of_length_le (by omega)]
  all_goals (first|rfl|exact⟨rfl,rfl⟩)
end Go.Proofs.YtlmhknhlmicmeaaGreatDoor
namespace Go.Proofs.YtlmhknhlmicmeaaGreatDoor
open Go Go.Ab
theorem xP:∀n:Nat,(∀xs:List au,SizeOf.sizeOf xs<n→∀(k:Int) (l j r:Nat) (p:List (Nat×Nat)) (S:Store) (rs:List (List (List D))),aR S (l,j)=some (.xf rs)→atR rs r p=some (xs.map au.enc)→0≤k∧k+aB (xs.map au.enc)≤4611686018427387904→bA Tryz.prog 114 [.c (.xp (l,j) r p),.c (.d (.i .i64 k))] S (fun res S'=>res=.c (.d (.i .i64 (k+aB (xs.map au.enc))))∧S'=aW S (l,j) (.xf (cO rs r p (bT (xs.map au.enc) k)))))∧
 (∀xs:List aF,SizeOf.sizeOf xs<n→∀(k:Int) (l j r:Nat) (p:List (Nat×Nat)) (S:Store) (rs:List (List (List D))),aR S (l,j)=some (.xf rs)→atR rs r p=some (xs.map aF.enc)→0≤k∧k+aB (xs.map aF.enc)≤4611686018427387904→bA Tryz.prog 115 [.c (.xp (l,j) r p),.c (.d (.i .i64 k))] S (fun res S'=>res=.c (.d (.i .i64 (k+aB (xs.map aF.enc))))∧S'=aW S (l,j) (.xf (cO rs r p (bT (xs.map aF.enc) k)))))
 |0=>⟨fun xs h=>by omega,fun xs h=>by omega⟩
 |n+1=>by
  obtain⟨vo,Aj⟩:=xP n
  refine⟨fun xs hn k l j r p S rs hS hp hk=> ?_,fun xs hn k l j r p S rs hS hp hk=> ?_⟩
  ·have hlen:=mO (f:=au.enc) (fun x=>by simp only[au.aD,aj.aD,encS,encI,List.cons_append,List.nil_append,jP,jO];omega) xs
   obtain⟨rows,hr⟩:∃rows,rows=xs.map au.enc:=⟨_,rfl⟩
   have hl:rows.length=xs.length:=by rw[hr,List.length_map]
   rw[←hr] at hp hk hlen ⊢
   have ht:∀x:Ab.Obj,aR (aW S (l,j) x) (l,j)=some x:=fun x=>bS _ _ _ _ hS
   have hA:∀new,atR (cO rs r p new) r p=some new:=fun new=>ou hp
   have hU:∀a b,cO (cO rs r p a) r p b=cO rs r p b:=fun a b=>nU hp
   refine aC (rs:=[.tmp 4]) Tryz.checked.mixed Tryz.func114 Tryz.ntmps114 rfl rfl rfl rfl rfl ?_
   simp -implicitDefEqProofs (disch:=omega) only[go_sem]
   refine aV (ι:=Nat) Tryz.checked.mixed rfl [0,1,5] (fun i=>[.c (.xp (1+l,j) r p),.c (.d (.i .i64 (k+aB (rows.take i)))),.c (.d (.i .i64 i))])
    (fun i=>[]::aW S (l,j) (.xf (cO rs r p (mo rows k i)))) (fun i=>i≤xs.length) (fun i=>xs.length-i) 0 ?_ ?_ (Nat.zero_le _) ?_
   ·have z0:k+((aB (rows.take 0):Nat):Int)=k:=by simp[aB]
    rw[z0]
    rfl
   ·rw[qj,qh hp,kE _ _ hS]
   intro i hi
   simp -implicitDefEqProofs (disch:=omega) only[go_sem,ht,hA,iO,hl]
   with_reducible refine aA (fun hb=> ?_) (fun hb=> ?_)<;>have h:=hb<;>try simp only[wf_preprocess] at h
   ·have hi:i<xs.length:=by omega
    have hir:i<rows.length:=by omega
    obtain⟨x,hx⟩:∃x,x=xs[i]:=⟨_,rfl⟩
    have e1:rows[i]=[.i .i64 x.aG,.s x.aY,.s x.fName,.i .i64 x.fN,.i .i64 x.fType.aG,.s x.fType.fName,.sl (x.fType.fArgs.map aj.enc),.sl (x.fArgs.map au.enc),.sl (x.aI.map aF.enc)]:=by
     simp only[hr,List.getElem_map,←hx]
     simp only[au.aD,aj.aD,encS,encI,List.cons_append,List.nil_append]
    have hm:=jg hir
    have hle:=lS (rows:=rows) (i:=i+1)
    rw[hm,e1] at hle
    rw[e1] at hm
    simp only[jP,jO] at hle hm
    have hK:k+((aB (rows.take (i+1)):Nat):Int)=k+((aB (rows.take i):Nat):Int)+1+1+1+1+1+1+((aB (x.fType.fArgs.map aj.enc):Nat):Int)+((aB (x.fArgs.map au.enc):Nat):Int)+((aB (x.aI.map aF.enc):Nat):Int):=by rw[hm];omega
    have e2:=uy (k:=k) hir
    rw[e1] at e2
    have hC:∀row o,cellAt (iX rows k i row) i o=row[o]? :=fun row o=>mM hir
    have hG:∀row,(iX rows k i row).getD i []=row:=fun row=>ql hir
    simp -implicitDefEqProofs (disch:=omega) only[go_sem,hb,ht,hA,hU,e2,hC,hG,dK,cB,hl,bD,dJ]
    (repeat(with_reducible refine And.intro ?_ ?_;focus first|omega|rfl|assumption|exact⟨_,rfl,rfl⟩|(simp;omega)|(simp;done)))
    refine ay (dw (k+((aB (rows.take i):Nat):Int)+1) (by omega)) ?_
    simp -implicitDefEqProofs (disch:=omega) only[go_sem,hb,ht,hA,hU,e2,hC,hG,dK,cB,hl,bD,dJ]
    (repeat(with_reducible refine And.intro ?_ ?_;focus first|omega|rfl|assumption|exact⟨_,rfl,rfl⟩|(simp;omega)|(simp;done)))
    refine ay (dw (k+((aB (rows.take i):Nat):Int)+1+1) (by omega)) ?_
    simp -implicitDefEqProofs (disch:=omega) only[go_sem,hb,ht,hA,hU,e2,hC,hG,dK,cB,hl,bD,dJ]
    (repeat(with_reducible refine And.intro ?_ ?_;focus first|omega|rfl|assumption|exact⟨_,rfl,rfl⟩|(simp;omega)|(simp;done)))
    refine ay (dw (k+((aB (rows.take i):Nat):Int)+1+1+1+1+1) (by omega)) ?_
    simp -implicitDefEqProofs (disch:=omega) only[go_sem,hb,ht,hA,hU,e2,hC,hG,dK,cB,hl,bD,dJ]
    (repeat(with_reducible refine And.intro ?_ ?_;focus first|omega|rfl|assumption|exact⟨_,rfl,rfl⟩|(simp;omega)|(simp;done)))
    refine bf rfl (qm hS hp hir (by rfl) (fun S' rs' g1 g2=>qE x.fType.fArgs (k+((aB (rows.take i):Nat):Int)+1+1+1+1+1+1) (1+l) j r _ S' rs' g1 g2 (by omega))) ?_
    simp -implicitDefEqProofs (disch:=omega) only[go_sem,hb,ht,hA,hU,e2,hC,hG,dK,cB,hl,bD,dJ]
    (repeat(with_reducible refine And.intro ?_ ?_;focus first|omega|rfl|assumption|exact⟨_,rfl,rfl⟩|(simp;omega)|(simp;done)))
    refine bf rfl (qm hS hp hir (by rfl) (fun S' rs' g1 g2=>vo x.fArgs (by have:=List.sizeOf_lt_of_mem (List.getElem_mem hi);rw[←hx] at this;have:=au.fA x;omega) (k+((aB (rows.take i):Nat):Int)+1+1+1+1+1+1+((aB (x.fType.fArgs.map aj.enc):Nat):Int)) (1+l) j r _ S' rs' g1 g2 (by omega))) ?_
    simp -implicitDefEqProofs (disch:=omega) only[go_sem,hb,ht,hA,hU,e2,hC,hG,dK,cB,hl,bD,dJ]
    (repeat(with_reducible refine And.intro ?_ ?_;focus first|omega|rfl|assumption|exact⟨_,rfl,rfl⟩|(simp;omega)|(simp;done)))
    refine bf rfl (qm hS hp hir (by rfl) (fun S' rs' g1 g2=>Aj x.aI (by have:=List.sizeOf_lt_of_mem (List.getElem_mem hi);rw[←hx] at this;have:=au.lN x;omega) (k+((aB (rows.take i):Nat):Int)+1+1+1+1+1+1+((aB (x.fType.fArgs.map aj.enc):Nat):Int)+((aB (x.fArgs.map au.enc):Nat):Int)) (1+l) j r _ S' rs' g1 g2 (by omega))) ?_
    simp -implicitDefEqProofs (disch:=omega) only[go_sem,hb,ht,hA,hU,e2,hC,hG,dK,cB,hl,bD,dJ]
    (repeat(with_reducible refine And.intro ?_ ?_;focus first|omega|rfl|assumption|exact⟨_,rfl,rfl⟩|(simp;omega)|(simp;done)))
    refine bH (i+1) (by omega) (by rw[hK];rfl) ?_ (by omega)
    have h3:=uz (k:=k) hir
    rw[e1] at h3
    simp only[l8,yc] at h3
    rw[←h3]
    all_goals rfl
   ·simp -implicitDefEqProofs (disch:=omega) only[go_sem,hb]
    have hi:i=xs.length:=by omega
    rw[rE (by omega),List.take_of_length_le (by omega)]
    all_goals (first|rfl|exact⟨rfl,rfl⟩)
  ·have hlen:=mO (f:=aF.enc) (fun x=>by simp only[aF.aD,au.aD,aj.aD,encS,encI,List.cons_append,List.nil_append,jP,jO];omega) xs
   obtain⟨rows,hr⟩:∃rows,rows=xs.map aF.enc:=⟨_,rfl⟩
   have hl:rows.length=xs.length:=by rw[hr,List.length_map]
   rw[←hr] at hp hk hlen ⊢
   have ht:∀x:Ab.Obj,aR (aW S (l,j) x) (l,j)=some x:=fun x=>bS _ _ _ _ hS
   have hA:∀new,atR (cO rs r p new) r p=some new:=fun new=>ou hp
   have hU:∀a b,cO (cO rs r p a) r p b=cO rs r p b:=fun a b=>nU hp
   refine aC (rs:=[.tmp 4]) Tryz.checked.mixed Tryz.func115 Tryz.ntmps115 rfl rfl rfl rfl rfl ?_
   simp -implicitDefEqProofs (disch:=omega) only[go_sem]
   refine aV (ι:=Nat) Tryz.checked.mixed rfl [0,1,5] (fun i=>[.c (.xp (1+l,j) r p),.c (.d (.i .i64 (k+aB (rows.take i)))),.c (.d (.i .i64 i))])
    (fun i=>[]::aW S (l,j) (.xf (cO rs r p (mo rows k i)))) (fun i=>i≤xs.length) (fun i=>xs.length-i) 0 ?_ ?_ (Nat.zero_le _) ?_
   ·have z0:k+((aB (rows.take 0):Nat):Int)=k:=by simp[aB]
    rw[z0]
    rfl
   ·rw[qj,qh hp,kE _ _ hS]
   intro i hi
   simp -implicitDefEqProofs (disch:=omega) only[go_sem,ht,hA,iO,hl]
   with_reducible refine aA (fun hb=> ?_) (fun hb=> ?_)<;>have h:=hb<;>try simp only[wf_preprocess] at h
   ·have hi:i<xs.length:=by omega
    have hir:i<rows.length:=by omega
    obtain⟨x,hx⟩:∃x,x=xs[i]:=⟨_,rfl⟩
    have e1:rows[i]=[.s x.bL,.sl (x.aK.map encS),.i .i64 x.fBody.aG,.s x.fBody.aY,.s x.fBody.fName,.i .i64 x.fBody.fN,.i .i64 x.fBody.fType.aG,.s x.fBody.fType.fName,.sl (x.fBody.fType.fArgs.map aj.enc),.sl (x.fBody.fArgs.map au.enc),.sl (x.fBody.aI.map aF.enc)]:=by
     simp only[hr,List.getElem_map,←hx]
     simp only[aF.aD,au.aD,aj.aD,encS,encI,List.cons_append,List.nil_append]
    have hm:=jg hir
    have hle:=lS (rows:=rows) (i:=i+1)
    rw[hm,e1] at hle
    rw[e1] at hm
    simp only[jP,jO] at hle hm
    have hK:k+((aB (rows.take (i+1)):Nat):Int)=k+((aB (rows.take i):Nat):Int)+1+((aB (x.aK.map encS):Nat):Int)+1+1+1+1+1+1+((aB (x.fBody.fType.fArgs.map aj.enc):Nat):Int)+((aB (x.fBody.fArgs.map au.enc):Nat):Int)+((aB (x.fBody.aI.map aF.enc):Nat):Int):=by rw[hm];omega
    have e2:=uy (k:=k) hir
    rw[e1] at e2
    have hC:∀row o,cellAt (iX rows k i row) i o=row[o]? :=fun row o=>mM hir
    have hG:∀row,(iX rows k i row).getD i []=row:=fun row=>ql hir
    simp -implicitDefEqProofs (disch:=omega) only[go_sem,hb,ht,hA,hU,e2,hC,hG,dK,cB,hl,bD,dJ]
    (repeat(with_reducible refine And.intro ?_ ?_;focus first|omega|rfl|assumption|exact⟨_,rfl,rfl⟩|(simp;omega)|(simp;done)))
    refine ay (dw (k+((aB (rows.take i):Nat):Int)) (by omega)) ?_
    simp -implicitDefEqProofs (disch:=omega) only[go_sem,hb,ht,hA,hU,e2,hC,hG,dK,cB,hl,bD,dJ]
    (repeat(with_reducible refine And.intro ?_ ?_;focus first|omega|rfl|assumption|exact⟨_,rfl,rfl⟩|(simp;omega)|(simp;done)))
    refine bf rfl (qm hS hp hir (by rfl) (fun S' rs' g1 g2=>zG x.aK (k+((aB (rows.take i):Nat):Int)+1) (1+l) j r _ S' rs' g1 g2 (by omega))) ?_
    simp -implicitDefEqProofs (disch:=omega) only[go_sem,hb,ht,hA,hU,e2,hC,hG,dK,cB,hl,bD,dJ]
    (repeat(with_reducible refine And.intro ?_ ?_;focus first|omega|rfl|assumption|exact⟨_,rfl,rfl⟩|(simp;omega)|(simp;done)))
    refine ay (dw (k+((aB (rows.take i):Nat):Int)+1+((aB (x.aK.map encS):Nat):Int)+1) (by omega)) ?_
    simp -implicitDefEqProofs (disch:=omega) only[go_sem,hb,ht,hA,hU,e2,hC,hG,dK,cB,hl,bD,dJ]
    (repeat(with_reducible refine And.intro ?_ ?_;focus first|omega|rfl|assumption|exact⟨_,rfl,rfl⟩|(simp;omega)|(simp;done)))
    refine ay (dw (k+((aB (rows.take i):Nat):Int)+1+((aB (x.aK.map encS):Nat):Int)+1+1) (by omega)) ?_
    simp -implicitDefEqProofs (disch:=omega) only[go_sem,hb,ht,hA,hU,e2,hC,hG,dK,cB,hl,bD,dJ]
    (repeat(with_reducible refine And.intro ?_ ?_;focus first|omega|rfl|assumption|exact⟨_,rfl,rfl⟩|(simp;omega)|(simp;done)))
    refine ay (dw (k+((aB (rows.take i):Nat):Int)+1+((aB (x.aK.map encS):Nat):Int)+1+1+1+1+1) (by omega)) ?_
    simp -implicitDefEqProofs (disch:=omega) only[go_sem,hb,ht,hA,hU,e2,hC,hG,dK,cB,hl,bD,dJ]
    (repeat(with_reducible refine And.intro ?_ ?_;focus first|omega|rfl|assumption|exact⟨_,rfl,rfl⟩|(simp;omega)|(simp;done)))
    refine bf rfl (qm hS hp hir (by rfl) (fun S' rs' g1 g2=>qE x.fBody.fType.fArgs (k+((aB (rows.take i):Nat):Int)+1+((aB (x.aK.map encS):Nat):Int)+1+1+1+1+1+1) (1+l) j r _ S' rs' g1 g2 (by omega))) ?_
    simp -implicitDefEqProofs (disch:=omega) only[go_sem,hb,ht,hA,hU,e2,hC,hG,dK,cB,hl,bD,dJ]
    (repeat(with_reducible refine And.intro ?_ ?_;focus first|omega|rfl|assumption|exact⟨_,rfl,rfl⟩|(simp;omega)|(simp;done)))
    refine bf rfl (qm hS hp hir (by rfl) (fun S' rs' g1 g2=>vo x.fBody.fArgs (by have:=List.sizeOf_lt_of_mem (List.getElem_mem hi);rw[←hx] at this;have:=aF.kS x;have:=au.fA x.fBody;omega) (k+((aB (rows.take i):Nat):Int)+1+((aB (x.aK.map encS):Nat):Int)+1+1+1+1+1+1+((aB (x.fBody.fType.fArgs.map aj.enc):Nat):Int)) (1+l) j r _ S' rs' g1 g2 (by omega))) ?_
    simp -implicitDefEqProofs (disch:=omega) only[go_sem,hb,ht,hA,hU,e2,hC,hG,dK,cB,hl,bD,dJ]
    (repeat(with_reducible refine And.intro ?_ ?_;focus first|omega|rfl|assumption|exact⟨_,rfl,rfl⟩|(simp;omega)|(simp;done)))
    refine bf rfl (qm hS hp hir (by rfl) (fun S' rs' g1 g2=>Aj x.fBody.aI (by have:=List.sizeOf_lt_of_mem (List.getElem_mem hi);rw[←hx] at this;have:=aF.kS x;have:=au.lN x.fBody;omega) (k+((aB (rows.take i):Nat):Int)+1+((aB (x.aK.map encS):Nat):Int)+1+1+1+1+1+1+((aB (x.fBody.fType.fArgs.map aj.enc):Nat):Int)+((aB (x.fBody.fArgs.map au.enc):Nat):Int)) (1+l) j r _ S' rs' g1 g2 (by omega))) ?_
    simp -implicitDefEqProofs (disch:=omega) only[go_sem,hb,ht,hA,hU,e2,hC,hG,dK,cB,hl,bD,dJ]
    (repeat(with_reducible refine And.intro ?_ ?_;focus first|omega|rfl|assumption|exact⟨_,rfl,rfl⟩|(simp;omega)|(simp;done)))
    refine bH (i+1) (by omega) (by rw[hK];rfl) ?_ (by omega)
    have h3:=uz (k:=k) hir
    rw[e1] at h3
    simp only[l8,yc] at h3
    rw[←h3]
    all_goals rfl
   ·simp -implicitDefEqProofs (disch:=omega) only[go_sem,hb]
    have hi:i=xs.length:=by omega
    rw[rE (by omega),List.take_of_length_le (by omega)]
    all_goals (first|rfl|exact⟨rfl,rfl⟩)
theorem NC(xs:List au):∀(k:Int) (l j r:Nat) (p:List (Nat×Nat)) (S:Store) (rs:List (List (List D))),aR S (l,j)=some (.xf rs)→atR rs r p=some (xs.map au.enc)→0≤k∧k+aB (xs.map au.enc)≤4611686018427387904→bA Tryz.prog 114 [.c (.xp (l,j) r p),.c (.d (.i .i64 k))] S (fun res S'=>res=.c (.d (.i .i64 (k+aB (xs.map au.enc))))∧S'=aW S (l,j) (.xf (cO rs r p (bT (xs.map au.enc) k)))):=(xP _).1 xs (Nat.lt_succ_self _)
theorem O6(xs:List aF):∀(k:Int) (l j r:Nat) (p:List (Nat×Nat)) (S:Store) (rs:List (List (List D))),aR S (l,j)=some (.xf rs)→atR rs r p=some (xs.map aF.enc)→0≤k∧k+aB (xs.map aF.enc)≤4611686018427387904→bA Tryz.prog 115 [.c (.xp (l,j) r p),.c (.d (.i .i64 k))] S (fun res S'=>res=.c (.d (.i .i64 (k+aB (xs.map aF.enc))))∧S'=aW S (l,j) (.xf (cO rs r p (bT (xs.map aF.enc) k)))):=(xP _).2 xs (Nat.lt_succ_self _)
theorem O7(x:au)(k:Int)(l j b:Nat)(S:Store)(rs:List (List (List D)))(hS:aR S (l,j)=some (.xf rs))(h6:atR rs (b+6) []=some (x.fType.fArgs.map aj.enc))(h7:atR rs (b+7) []=some (x.fArgs.map au.enc))(h8:atR rs (b+8) []=some (x.aI.map aF.enc))(hk:0≤k∧k+((aB (x.fType.fArgs.map aj.enc):Nat):Int)+((aB (x.fArgs.map au.enc):Nat):Int)+((aB (x.aI.map aF.enc):Nat):Int)≤4611686018427387904):bA Tryz.prog 30 [.agg [.d (.i .i64 x.aG),.d (.s x.aY),.d (.s x.fName),.d (.i .i64 x.fN),.d (.i .i64 x.fType.aG),.d (.s x.fType.fName),.xp (l,j) (b+6) [],.xp (l,j) (b+7) [],.xp (l,j) (b+8) []],.c (.d (.i .i64 k))] S (fun res S'=>res=.c (.d (.i .i64 (k+((aB (x.fType.fArgs.map aj.enc):Nat):Int)+((aB (x.fArgs.map au.enc):Nat):Int)+((aB (x.aI.map aF.enc):Nat):Int))))∧S'=aW S (l,j) (.xf (cO (cO (cO (rs) (b+6) [] (bT (x.fType.fArgs.map aj.enc) (k))) (b+7) [] (bT (x.fArgs.map au.enc) (k+((aB (x.fType.fArgs.map aj.enc):Nat):Int)))) (b+8) [] (bT (x.aI.map aF.enc) (k+((aB (x.fType.fArgs.map aj.enc):Nat):Int)+((aB (x.fArgs.map au.enc):Nat):Int)))))):=by
 have ht:∀x:Ab.Obj,aR (aW S (l,j) x) (l,j)=some x:=fun x=>bS _ _ _ _ hS
 refine aC (rs:=[.tmp 4]) Tryz.checked.mixed Tryz.func30 Tryz.ntmps30 rfl rfl rfl rfl rfl ?_
 simp -implicitDefEqProofs (disch:=omega) only[go_sem]
 refine bf rfl (Ec x.fType (k) (1+l) j (b+4) _ _ (by rw[dN];first|exact hS|exact ht _) (by first|assumption|(simp(disch:=omega) only[ne_eq,gY];assumption)) (by omega)) ?_
 simp -implicitDefEqProofs (disch:=omega) only[go_sem,bD,kX,Nat.add_assoc,Nat.reduceAdd]
 refine bf rfl (NC x.fArgs (k+((aB (x.fType.fArgs.map aj.enc):Nat):Int)) (1+l) j (b+7) [] _ _ (by rw[dN];first|exact hS|exact ht _) (by first|assumption|(simp(disch:=omega) only[ne_eq,gY];assumption)) (by omega)) ?_
 simp -implicitDefEqProofs (disch:=omega) only[go_sem,bD,kX]
 refine bf rfl (O6 x.aI (k+((aB (x.fType.fArgs.map aj.enc):Nat):Int)+((aB (x.fArgs.map au.enc):Nat):Int)) (1+l) j (b+8) [] _ _ (by rw[dN];first|exact hS|exact ht _) (by first|assumption|(simp(disch:=omega) only[ne_eq,gY];assumption)) (by omega)) ?_
 simp -implicitDefEqProofs (disch:=omega) only[go_sem,bD,kX]
 try exact⟨rfl,rfl⟩
theorem xQ:∀n:Nat,(∀xs:List au,SizeOf.sizeOf xs<n→∀(k:Int) (l j r:Nat) (p:List (Nat×Nat)) (S:Store) (rs:List (List (List D))),aR S (l,j)=some (.xf rs)→atR rs r p=some (bT (xs.map au.enc) k)→0≤k∧k+aB (xs.map au.enc)≤4611686018427387904→bA Tryz.prog 117 [.c (.xp (l,j) r p),.c (.d (.i .i64 k))] S (fun res S'=>res=.c (.d (.i .i64 (k+aB (xs.map au.enc))))∧S'=S))∧
 (∀xs:List aF,SizeOf.sizeOf xs<n→∀(k:Int) (l j r:Nat) (p:List (Nat×Nat)) (S:Store) (rs:List (List (List D))),aR S (l,j)=some (.xf rs)→atR rs r p=some (bT (xs.map aF.enc) k)→0≤k∧k+aB (xs.map aF.enc)≤4611686018427387904→bA Tryz.prog 118 [.c (.xp (l,j) r p),.c (.d (.i .i64 k))] S (fun res S'=>res=.c (.d (.i .i64 (k+aB (xs.map aF.enc))))∧S'=S))
 |0=>⟨fun xs h=>by omega,fun xs h=>by omega⟩
 |n+1=>by
  obtain⟨vo,Aj⟩:=xQ n
  refine⟨fun xs hn k l j r p S rs hS hp hk=> ?_,fun xs hn k l j r p S rs hS hp hk=> ?_⟩
  ·have hlen:=mO (f:=au.enc) (fun x=>by simp only[au.aD,aj.aD,encS,encI,List.cons_append,List.nil_append,jP,jO];omega) xs
   obtain⟨rows,hr⟩:∃rows,rows=xs.map au.enc:=⟨_,rfl⟩
   have hl:rows.length=xs.length:=by rw[hr,List.length_map]
   rw[←hr] at hp hk hlen ⊢
   refine aC (rs:=[.tmp 4]) Tryz.checked.mixed Tryz.func117 Tryz.ntmps117 rfl rfl rfl rfl rfl ?_
   simp -implicitDefEqProofs (disch:=omega) only[go_sem]
   refine aV (ι:=Nat) Tryz.checked.mixed rfl [0,1,5] (fun i=>[.c (.xp (1+l,j) r p),.c (.d (.i .i64 (k+aB (rows.take i)))),.c (.d (.i .i64 i))])
    (fun i=>[]::S) (fun i=>i≤xs.length) (fun i=>xs.length-i) 0 ?_ rfl (Nat.zero_le _) ?_
   ·have z0:k+((aB (rows.take 0):Nat):Int)=k:=by simp[aB]
    rw[z0]
    rfl
   intro i hi
   simp -implicitDefEqProofs (disch:=omega) only[go_sem,hS,hp,bE,hl]
   with_reducible refine aA (fun hb=> ?_) (fun hb=> ?_)<;>have h:=hb<;>try simp only[wf_preprocess] at h
   ·have hi:i<xs.length:=by omega
    have hir:i<rows.length:=by omega
    obtain⟨x,hx⟩:∃x,x=xs[i]:=⟨_,rfl⟩
    have e1:rows[i]=[.i .i64 x.aG,.s x.aY,.s x.fName,.i .i64 x.fN,.i .i64 x.fType.aG,.s x.fType.fName,.sl (x.fType.fArgs.map aj.enc),.sl (x.fArgs.map au.enc),.sl (x.aI.map aF.enc)]:=by
     simp only[hr,List.getElem_map,←hx]
     simp only[au.aD,aj.aD,encS,encI,List.cons_append,List.nil_append]
    have hm:=jg hir
    have hle:=lS (rows:=rows) (i:=i+1)
    rw[hm,e1] at hle
    rw[e1] at hm
    simp only[jP,jO] at hle hm
    have hK:k+((aB (rows.take (i+1)):Nat):Int)=k+((aB (rows.take i):Nat):Int)+1+1+1+1+1+1+((aB (x.fType.fArgs.map aj.enc):Nat):Int)+((aB (x.fArgs.map au.enc):Nat):Int)+((aB (x.aI.map aF.enc):Nat):Int):=by rw[hm];omega
    have e2:l8 rows[i] (k+((aB (rows.take i):Nat):Int))=[.i .i64 (k+((aB (rows.take i):Nat):Int)),.s (gG (k+((aB (rows.take i):Nat):Int)+1)),.s (gG (k+((aB (rows.take i):Nat):Int)+1+1)),.i .i64 (k+((aB (rows.take i):Nat):Int)+1+1+1),.i .i64 (k+((aB (rows.take i):Nat):Int)+1+1+1+1),.s (gG (k+((aB (rows.take i):Nat):Int)+1+1+1+1+1)),.sl (bT (x.fType.fArgs.map aj.enc) (k+((aB (rows.take i):Nat):Int)+1+1+1+1+1+1)),.sl (bT (x.fArgs.map au.enc) (k+((aB (rows.take i):Nat):Int)+1+1+1+1+1+1+((aB (x.fType.fArgs.map aj.enc):Nat):Int))),.sl (bT (x.aI.map aF.enc) (k+((aB (rows.take i):Nat):Int)+1+1+1+1+1+1+((aB (x.fType.fArgs.map aj.enc):Nat):Int)+((aB (x.fArgs.map au.enc):Nat):Int)))]:=by
     rw[e1]
     simp only[l8,yc]
     all_goals rfl
    have hC:∀o,cellAt (bT rows k) i o=([.i .i64 (k+((aB (rows.take i):Nat):Int)),.s (gG (k+((aB (rows.take i):Nat):Int)+1)),.s (gG (k+((aB (rows.take i):Nat):Int)+1+1)),.i .i64 (k+((aB (rows.take i):Nat):Int)+1+1+1),.i .i64 (k+((aB (rows.take i):Nat):Int)+1+1+1+1),.s (gG (k+((aB (rows.take i):Nat):Int)+1+1+1+1+1)),.sl (bT (x.fType.fArgs.map aj.enc) (k+((aB (rows.take i):Nat):Int)+1+1+1+1+1+1)),.sl (bT (x.fArgs.map au.enc) (k+((aB (rows.take i):Nat):Int)+1+1+1+1+1+1+((aB (x.fType.fArgs.map aj.enc):Nat):Int))),.sl (bT (x.aI.map aF.enc) (k+((aB (rows.take i):Nat):Int)+1+1+1+1+1+1+((aB (x.fType.fArgs.map aj.enc):Nat):Int)+((aB (x.fArgs.map au.enc):Nat):Int)))]:List D)[o]? :=fun o=>by
     have h1:(bT rows k)[i]? =some (l8 rows[i] (k+((aB (rows.take i):Nat):Int))):=by
      have h2:=jV (k:=k) hir
      have h3:i<(bT rows k).length:=by rw[bE];exact hir
      rw[List.getD_eq_getElem?_getD,List.getElem?_eq_getElem h3,Option.getD_some] at h2
      rw[List.getElem?_eq_getElem h3,h2]
     unfold cellAt
     rw[h1,Option.bind_some,e2]
    have hG:=jV (k:=k) hir
    rw[e2] at hG
    simp -implicitDefEqProofs (disch:=omega) only[go_sem,hb,hS,hp,hC,hG,bE,hl,dJ]
    (repeat(with_reducible refine And.intro ?_ ?_;focus first|omega|rfl|assumption|exact⟨_,rfl,rfl⟩|(simp;omega)|(simp;done)))
    refine ay (dw (k+((aB (rows.take i):Nat):Int)+1) (by omega)) ?_
    simp -implicitDefEqProofs (disch:=omega) only[go_sem,hb,hS,hp,hC,hG,bE,hl,dJ]
    (repeat(with_reducible refine And.intro ?_ ?_;focus first|omega|rfl|assumption|exact⟨_,rfl,rfl⟩|(simp;omega)|(simp;done)))
    refine ay (dw (k+((aB (rows.take i):Nat):Int)+1+1) (by omega)) ?_
    simp -implicitDefEqProofs (disch:=omega) only[go_sem,hb,hS,hp,hC,hG,bE,hl,dJ]
    (repeat(with_reducible refine And.intro ?_ ?_;focus first|omega|rfl|assumption|exact⟨_,rfl,rfl⟩|(simp;omega)|(simp;done)))
    refine ay (dw (k+((aB (rows.take i):Nat):Int)+1+1+1+1+1) (by omega)) ?_
    simp -implicitDefEqProofs (disch:=omega) only[go_sem,hb,hS,hp,hC,hG,bE,hl,dJ]
    (repeat(with_reducible refine And.intro ?_ ?_;focus first|omega|rfl|assumption|exact⟨_,rfl,rfl⟩|(simp;omega)|(simp;done)))
    refine bf rfl (qG x.fType.fArgs (k+((aB (rows.take i):Nat):Int)+1+1+1+1+1+1) (1+l) j r _ _ _ (by rw[dN];exact hS) (lX hp (by rw[hC];rfl)) (by omega)) ?_
    simp -implicitDefEqProofs (disch:=omega) only[go_sem,hb,hS,hp,hC,hG,bE,hl,dJ,gF]
    (repeat(with_reducible refine And.intro ?_ ?_;focus first|omega|rfl|assumption|exact⟨_,rfl,rfl⟩|(simp;omega)|(simp;done)))
    refine bf rfl (vo x.fArgs (by have:=List.sizeOf_lt_of_mem (List.getElem_mem hi);rw[←hx] at this;have:=au.fA x;omega) (k+((aB (rows.take i):Nat):Int)+1+1+1+1+1+1+((aB (x.fType.fArgs.map aj.enc):Nat):Int)) (1+l) j r _ _ _ (by rw[dN];exact hS) (lX hp (by rw[hC];rfl)) (by omega)) ?_
    simp -implicitDefEqProofs (disch:=omega) only[go_sem,hb,hS,hp,hC,hG,bE,hl,dJ,gF]
    (repeat(with_reducible refine And.intro ?_ ?_;focus first|omega|rfl|assumption|exact⟨_,rfl,rfl⟩|(simp;omega)|(simp;done)))
    refine bf rfl (Aj x.aI (by have:=List.sizeOf_lt_of_mem (List.getElem_mem hi);rw[←hx] at this;have:=au.lN x;omega) (k+((aB (rows.take i):Nat):Int)+1+1+1+1+1+1+((aB (x.fType.fArgs.map aj.enc):Nat):Int)+((aB (x.fArgs.map au.enc):Nat):Int)) (1+l) j r _ _ _ (by rw[dN];exact hS) (lX hp (by rw[hC];rfl)) (by omega)) ?_
    simp -implicitDefEqProofs (disch:=omega) only[go_sem,hb,hS,hp,hC,hG,bE,hl,dJ,gF]
    (repeat(with_reducible refine And.intro ?_ ?_;focus first|omega|rfl|assumption|exact⟨_,rfl,rfl⟩|(simp;omega)|(simp;done)))
    refine bH (i+1) (by omega) (by rw[hK];rfl) rfl (by omega)
   ·simp -implicitDefEqProofs (disch:=omega) only[go_sem,hb]
    have hi:i=xs.length:=by omega
    rw[List.take_of_length_le (by omega)]
    all_goals (first|rfl|exact⟨rfl,rfl⟩)
  ·have hlen:=mO (f:=aF.enc) (fun x=>by simp only[aF.aD,au.aD,aj.aD,encS,encI,List.cons_append,List.nil_append,jP,jO];omega) xs
   obtain⟨rows,hr⟩:∃rows,rows=xs.map aF.enc:=⟨_,rfl⟩
   have hl:rows.length=xs.length:=by rw[hr,List.length_map]
   rw[←hr] at hp hk hlen ⊢
   refine aC (rs:=[.tmp 4]) Tryz.checked.mixed Tryz.func118 Tryz.ntmps118 rfl rfl rfl rfl rfl ?_
   simp -implicitDefEqProofs (disch:=omega) only[go_sem]
   refine aV (ι:=Nat) Tryz.checked.mixed rfl [0,1,5] (fun i=>[.c (.xp (1+l,j) r p),.c (.d (.i .i64 (k+aB (rows.take i)))),.c (.d (.i .i64 i))])
    (fun i=>[]::S) (fun i=>i≤xs.length) (fun i=>xs.length-i) 0 ?_ rfl (Nat.zero_le _) ?_
   ·have z0:k+((aB (rows.take 0):Nat):Int)=k:=by simp[aB]
    rw[z0]
    rfl
   intro i hi
   simp -implicitDefEqProofs (disch:=omega) only[go_sem,hS,hp,bE,hl]
   with_reducible refine aA (fun hb=> ?_) (fun hb=> ?_)<;>have h:=hb<;>try simp only[wf_preprocess] at h
   ·have hi:i<xs.length:=by omega
    have hir:i<rows.length:=by omega
    obtain⟨x,hx⟩:∃x,x=xs[i]:=⟨_,rfl⟩
    have e1:rows[i]=[.s x.bL,.sl (x.aK.map encS),.i .i64 x.fBody.aG,.s x.fBody.aY,.s x.fBody.fName,.i .i64 x.fBody.fN,.i .i64 x.fBody.fType.aG,.s x.fBody.fType.fName,.sl (x.fBody.fType.fArgs.map aj.enc),.sl (x.fBody.fArgs.map au.enc),.sl (x.fBody.aI.map aF.enc)]:=by
     simp only[hr,List.getElem_map,←hx]
     simp only[aF.aD,au.aD,aj.aD,encS,encI,List.cons_append,List.nil_append]
    have hm:=jg hir
    have hle:=lS (rows:=rows) (i:=i+1)
    rw[hm,e1] at hle
    rw[e1] at hm
    simp only[jP,jO] at hle hm
    have hK:k+((aB (rows.take (i+1)):Nat):Int)=k+((aB (rows.take i):Nat):Int)+1+((aB (x.aK.map encS):Nat):Int)+1+1+1+1+1+1+((aB (x.fBody.fType.fArgs.map aj.enc):Nat):Int)+((aB (x.fBody.fArgs.map au.enc):Nat):Int)+((aB (x.fBody.aI.map aF.enc):Nat):Int):=by rw[hm];omega
    have e2:l8 rows[i] (k+((aB (rows.take i):Nat):Int))=[.s (gG (k+((aB (rows.take i):Nat):Int))),.sl (bT (x.aK.map encS) (k+((aB (rows.take i):Nat):Int)+1)),.i .i64 (k+((aB (rows.take i):Nat):Int)+1+((aB (x.aK.map encS):Nat):Int)),.s (gG (k+((aB (rows.take i):Nat):Int)+1+((aB (x.aK.map encS):Nat):Int)+1)),.s (gG (k+((aB (rows.take i):Nat):Int)+1+((aB (x.aK.map encS):Nat):Int)+1+1)),.i .i64 (k+((aB (rows.take i):Nat):Int)+1+((aB (x.aK.map encS):Nat):Int)+1+1+1),.i .i64 (k+((aB (rows.take i):Nat):Int)+1+((aB (x.aK.map encS):Nat):Int)+1+1+1+1),.s (gG (k+((aB (rows.take i):Nat):Int)+1+((aB (x.aK.map encS):Nat):Int)+1+1+1+1+1)),.sl (bT (x.fBody.fType.fArgs.map aj.enc) (k+((aB (rows.take i):Nat):Int)+1+((aB (x.aK.map encS):Nat):Int)+1+1+1+1+1+1)),.sl (bT (x.fBody.fArgs.map au.enc) (k+((aB (rows.take i):Nat):Int)+1+((aB (x.aK.map encS):Nat):Int)+1+1+1+1+1+1+((aB (x.fBody.fType.fArgs.map aj.enc):Nat):Int))),.sl (bT (x.fBody.aI.map aF.enc) (k+((aB (rows.take i):Nat):Int)+1+((aB (x.aK.map encS):Nat):Int)+1+1+1+1+1+1+((aB (x.fBody.fType.fArgs.map aj.enc):Nat):Int)+((aB (x.fBody.fArgs.map au.enc):Nat):Int)))]:=by
     rw[e1]
     simp only[l8,yc]
     all_goals rfl
    have hC:∀o,cellAt (bT rows k) i o=([.s (gG (k+((aB (rows.take i):Nat):Int))),.sl (bT (x.aK.map encS) (k+((aB (rows.take i):Nat):Int)+1)),.i .i64 (k+((aB (rows.take i):Nat):Int)+1+((aB (x.aK.map encS):Nat):Int)),.s (gG (k+((aB (rows.take i):Nat):Int)+1+((aB (x.aK.map encS):Nat):Int)+1)),.s (gG (k+((aB (rows.take i):Nat):Int)+1+((aB (x.aK.map encS):Nat):Int)+1+1)),.i .i64 (k+((aB (rows.take i):Nat):Int)+1+((aB (x.aK.map encS):Nat):Int)+1+1+1),.i .i64 (k+((aB (rows.take i):Nat):Int)+1+((aB (x.aK.map encS):Nat):Int)+1+1+1+1),.s (gG (k+((aB (rows.take i):Nat):Int)+1+((aB (x.aK.map encS):Nat):Int)+1+1+1+1+1)),.sl (bT (x.fBody.fType.fArgs.map aj.enc) (k+((aB (rows.take i):Nat):Int)+1+((aB (x.aK.map encS):Nat):Int)+1+1+1+1+1+1)),.sl (bT (x.fBody.fArgs.map au.enc) (k+((aB (rows.take i):Nat):Int)+1+((aB (x.aK.map encS):Nat):Int)+1+1+1+1+1+1+((aB (x.fBody.fType.fArgs.map aj.enc):Nat):Int))),.sl (bT (x.fBody.aI.map aF.enc) (k+((aB (rows.take i):Nat):Int)+1+((aB (x.aK.map encS):Nat):Int)+1+1+1+1+1+1+((aB (x.fBody.fType.fArgs.map aj.enc):Nat):Int)+((aB (x.fBody.fArgs.map au.enc):Nat):Int)))]:List D)[o]? :=fun o=>by
     have h1:(bT rows k)[i]? =some (l8 rows[i] (k+((aB (rows.take i):Nat):Int))):=by
      have h2:=jV (k:=k) hir
      have h3:i<(bT rows k).length:=by rw[bE];exact hir
      rw[List.getD_eq_getElem?_getD,List.getElem?_eq_getElem h3,Option.getD_some] at h2
      rw[List.getElem?_eq_getElem h3,h2]
     unfold cellAt
     rw[h1,Option.bind_some,e2]
    have hG:=jV (k:=k) hir
    rw[e2] at hG
    simp -implicitDefEqProofs (disch:=omega) only[go_sem,hb,hS,hp,hC,hG,bE,hl,dJ]
    (repeat(with_reducible refine And.intro ?_ ?_;focus first|omega|rfl|assumption|exact⟨_,rfl,rfl⟩|(simp;omega)|(simp;done)))
    refine ay (dw (k+((aB (rows.take i):Nat):Int)) (by omega)) ?_
    simp -implicitDefEqProofs (disch:=omega) only[go_sem,hb,hS,hp,hC,hG,bE,hl,dJ]
    (repeat(with_reducible refine And.intro ?_ ?_;focus first|omega|rfl|assumption|exact⟨_,rfl,rfl⟩|(simp;omega)|(simp;done)))
    refine bf rfl (zH x.aK (k+((aB (rows.take i):Nat):Int)+1) (1+l) j r _ _ _ (by rw[dN];exact hS) (lX hp (by rw[hC];rfl)) (by omega)) ?_
    simp -implicitDefEqProofs (disch:=omega) only[go_sem,hb,hS,hp,hC,hG,bE,hl,dJ,gF]
    (repeat(with_reducible refine And.intro ?_ ?_;focus first|omega|rfl|assumption|exact⟨_,rfl,rfl⟩|(simp;omega)|(simp;done)))
    refine ay (dw (k+((aB (rows.take i):Nat):Int)+1+((aB (x.aK.map encS):Nat):Int)+1) (by omega)) ?_
    simp -implicitDefEqProofs (disch:=omega) only[go_sem,hb,hS,hp,hC,hG,bE,hl,dJ]
    (repeat(with_reducible refine And.intro ?_ ?_;focus first|omega|rfl|assumption|exact⟨_,rfl,rfl⟩|(simp;omega)|(simp;done)))
    refine ay (dw (k+((aB (rows.take i):Nat):Int)+1+((aB (x.aK.map encS):Nat):Int)+1+1) (by omega)) ?_
    simp -implicitDefEqProofs (disch:=omega) only[go_sem,hb,hS,hp,hC,hG,bE,hl,dJ]
    (repeat(with_reducible refine And.intro ?_ ?_;focus first|omega|rfl|assumption|exact⟨_,rfl,rfl⟩|(simp;omega)|(simp;done)))
    refine ay (dw (k+((aB (rows.take i):Nat):Int)+1+((aB (x.aK.map encS):Nat):Int)+1+1+1+1+1) (by omega)) ?_
    simp -implicitDefEqProofs (disch:=omega) only[go_sem,hb,hS,hp,hC,hG,bE,hl,dJ]
    (repeat(with_reducible refine And.intro ?_ ?_;focus first|omega|rfl|assumption|exact⟨_,rfl,rfl⟩|(simp;omega)|(simp;done)))
    refine bf rfl (qG x.fBody.fType.fArgs (k+((aB (rows.take i):Nat):Int)+1+((aB (x.aK.map encS):Nat):Int)+1+1+1+1+1+1) (1+l) j r _ _ _ (by rw[dN];exact hS) (lX hp (by rw[hC];rfl)) (by omega)) ?_
    simp -implicitDefEqProofs (disch:=omega) only[go_sem,hb,hS,hp,hC,hG,bE,hl,dJ,gF]
    (repeat(with_reducible refine And.intro ?_ ?_;focus first|omega|rfl|assumption|exact⟨_,rfl,rfl⟩|(simp;omega)|(simp;done)))
    refine bf rfl (vo x.fBody.fArgs (by have:=List.sizeOf_lt_of_mem (List.getElem_mem hi);rw[←hx] at this;have:=aF.kS x;have:=au.fA x.fBody;omega) (k+((aB (rows.take i):Nat):Int)+1+((aB (x.aK.map encS):Nat):Int)+1+1+1+1+1+1+((aB (x.fBody.fType.fArgs.map aj.enc):Nat):Int)) (1+l) j r _ _ _ (by rw[dN];exact hS) (lX hp (by rw[hC];rfl)) (by omega)) ?_
    simp -implicitDefEqProofs (disch:=omega) only[go_sem,hb,hS,hp,hC,hG,bE,hl,dJ,gF]
    (repeat(with_reducible refine And.intro ?_ ?_;focus first|omega|rfl|assumption|exact⟨_,rfl,rfl⟩|(simp;omega)|(simp;done)))
    refine bf rfl (Aj x.fBody.aI (by have:=List.sizeOf_lt_of_mem (List.getElem_mem hi);rw[←hx] at this;have:=aF.kS x;have:=au.lN x.fBody;omega) (k+((aB (rows.take i):Nat):Int)+1+((aB (x.aK.map encS):Nat):Int)+1+1+1+1+1+1+((aB (x.fBody.fType.fArgs.map aj.enc):Nat):Int)+((aB (x.fBody.fArgs.map au.enc):Nat):Int)) (1+l) j r _ _ _ (by rw[dN];exact hS) (lX hp (by rw[hC];rfl)) (by omega)) ?_
    simp -implicitDefEqProofs (disch:=omega) only[go_sem,hb,hS,hp,hC,hG,bE,hl,dJ,gF]
    (repeat(with_reducible refine And.intro ?_ ?_;focus first|omega|rfl|assumption|exact⟨_,rfl,rfl⟩|(simp;omega)|(simp;done)))
    refine bH (i+1) (by omega) (by rw[hK];rfl) rfl (by omega)
   ·simp -implicitDefEqProofs (disch:=omega) only[go_sem,hb]
    have hi:i=xs.length:=by omega
    rw[List.take_of_length_le (by omega)]
    all_goals (first|rfl|exact⟨rfl,rfl⟩)
theorem ND(xs:List au):∀(k:Int) (l j r:Nat) (p:List (Nat×Nat)) (S:Store) (rs:List (List (List D))),aR S (l,j)=some (.xf rs)→atR rs r p=some (bT (xs.map au.enc) k)→0≤k∧k+aB (xs.map au.enc)≤4611686018427387904→bA Tryz.prog 117 [.c (.xp (l,j) r p),.c (.d (.i .i64 k))] S (fun res S'=>res=.c (.d (.i .i64 (k+aB (xs.map au.enc))))∧S'=S):=(xQ _).1 xs (Nat.lt_succ_self _)
theorem O8(xs:List aF):∀(k:Int) (l j r:Nat) (p:List (Nat×Nat)) (S:Store) (rs:List (List (List D))),aR S (l,j)=some (.xf rs)→atR rs r p=some (bT (xs.map aF.enc) k)→0≤k∧k+aB (xs.map aF.enc)≤4611686018427387904→bA Tryz.prog 118 [.c (.xp (l,j) r p),.c (.d (.i .i64 k))] S (fun res S'=>res=.c (.d (.i .i64 (k+aB (xs.map aF.enc))))∧S'=S):=(xQ _).2 xs (Nat.lt_succ_self _)
theorem O9(x:au)(k:Int)(l j b:Nat)(S:Store)(rs:List (List (List D)))(hS:aR S (l,j)=some (.xf rs))(h6:atR rs (b+6) []=some (bT (x.fType.fArgs.map aj.enc) (k)))(h7:atR rs (b+7) []=some (bT (x.fArgs.map au.enc) (k+((aB (x.fType.fArgs.map aj.enc):Nat):Int))))(h8:atR rs (b+8) []=some (bT (x.aI.map aF.enc) (k+((aB (x.fType.fArgs.map aj.enc):Nat):Int)+((aB (x.fArgs.map au.enc):Nat):Int))))(hk:0≤k∧k+((aB (x.fType.fArgs.map aj.enc):Nat):Int)+((aB (x.fArgs.map au.enc):Nat):Int)+((aB (x.aI.map aF.enc):Nat):Int)≤4611686018427387904):bA Tryz.prog 31 [.agg [.d (.i .i64 x.aG),.d (.s x.aY),.d (.s x.fName),.d (.i .i64 x.fN),.d (.i .i64 x.fType.aG),.d (.s x.fType.fName),.xp (l,j) (b+6) [],.xp (l,j) (b+7) [],.xp (l,j) (b+8) []],.c (.d (.i .i64 k))] S (fun res S'=>res=.c (.d (.i .i64 (k+((aB (x.fType.fArgs.map aj.enc):Nat):Int)+((aB (x.fArgs.map au.enc):Nat):Int)+((aB (x.aI.map aF.enc):Nat):Int))))∧S'=S):=by
 refine aC (rs:=[.tmp 4]) Tryz.checked.mixed Tryz.func31 Tryz.ntmps31 rfl rfl rfl rfl rfl ?_
 simp -implicitDefEqProofs (disch:=omega) only[go_sem]
 refine bf rfl (Ed x.fType (k) (1+l) j (b+4) _ _ (by rw[dN];first|exact hS|exact ht _) (by first|assumption|(simp(disch:=omega) only[ne_eq,gY];assumption)) (by omega)) ?_
 simp -implicitDefEqProofs (disch:=omega) only[go_sem,gF]
 refine bf rfl (ND x.fArgs (k+((aB (x.fType.fArgs.map aj.enc):Nat):Int)) (1+l) j (b+7) [] _ _ (by rw[dN];first|exact hS|exact ht _) (by first|assumption|(simp(disch:=omega) only[ne_eq,gY];assumption)) (by omega)) ?_
 simp -implicitDefEqProofs (disch:=omega) only[go_sem,gF]
 refine bf rfl (O8 x.aI (k+((aB (x.fType.fArgs.map aj.enc):Nat):Int)+((aB (x.fArgs.map au.enc):Nat):Int)) (1+l) j (b+8) [] _ _ (by rw[dN];first|exact hS|exact ht _) (by first|assumption|(simp(disch:=omega) only[ne_eq,gY];assumption)) (by omega)) ?_
 simp -implicitDefEqProofs (disch:=omega) only[go_sem,gF]
 try exact⟨rfl,rfl⟩
end Go.Proofs.YtlmhknhlmicmeaaGreatDoor
namespace Go.Proofs.YtlmhknhlmicmeaaGreatDoor
open Go Go.Ab
theorem Bf:∀n:Nat,(∀xs:List ah,SizeOf.sizeOf xs<n→∀(k:Int) (l j r:Nat) (p:List (Nat×Nat)) (S:Store) (rs:List (List (List D))),aR S (l,j)=some (.xf rs)→atR rs r p=some (xs.map ah.enc)→0≤k∧k+aB (xs.map ah.enc)≤4611686018427387904→bA Tryz.prog 87 [.c (.xp (l,j) r p),.c (.d (.i .i64 k))] S (fun res S'=>res=.c (.d (.i .i64 (k+aB (xs.map ah.enc))))∧S'=aW S (l,j) (.xf (cO rs r p (bT (xs.map ah.enc) k)))))
 |0=>fun xs h=>by omega
 |n+1=>by
  have nM:=Bf n
  refine fun xs hn k l j r p S rs hS hp hk=> ?_
  ·have hlen:=mO (f:=ah.enc) (fun x=>by simp only[ah.aD,encS,encI,List.cons_append,List.nil_append,jP,jO];omega) xs
   obtain⟨rows,hr⟩:∃rows,rows=xs.map ah.enc:=⟨_,rfl⟩
   have hl:rows.length=xs.length:=by rw[hr,List.length_map]
   rw[←hr] at hp hk hlen ⊢
   have ht:∀x:Ab.Obj,aR (aW S (l,j) x) (l,j)=some x:=fun x=>bS _ _ _ _ hS
   have hA:∀new,atR (cO rs r p new) r p=some new:=fun new=>ou hp
   have hU:∀a b,cO (cO rs r p a) r p b=cO rs r p b:=fun a b=>nU hp
   refine aC (rs:=[.tmp 4]) Tryz.checked.mixed Tryz.func87 Tryz.ntmps87 rfl rfl rfl rfl rfl ?_
   simp -implicitDefEqProofs (disch:=omega) only[go_sem]
   refine aV (ι:=Nat) Tryz.checked.mixed rfl [0,1,5] (fun i=>[.c (.xp (1+l,j) r p),.c (.d (.i .i64 (k+aB (rows.take i)))),.c (.d (.i .i64 i))])
    (fun i=>[]::aW S (l,j) (.xf (cO rs r p (mo rows k i)))) (fun i=>i≤xs.length) (fun i=>xs.length-i) 0 ?_ ?_ (Nat.zero_le _) ?_
   ·have z0:k+((aB (rows.take 0):Nat):Int)=k:=by simp[aB]
    rw[z0]
    rfl
   ·rw[qj,qh hp,kE _ _ hS]
   intro i hi
   simp -implicitDefEqProofs (disch:=omega) only[go_sem,ht,hA,iO,hl]
   with_reducible refine aA (fun hb=> ?_) (fun hb=> ?_)<;>have h:=hb<;>try simp only[wf_preprocess] at h
   ·have hi:i<xs.length:=by omega
    have hir:i<rows.length:=by omega
    obtain⟨x,hx⟩:∃x,x=xs[i]:=⟨_,rfl⟩
    have e1:rows[i]=[.s x.aT,.sl (x.ak.map ah.enc)]:=by
     simp only[hr,List.getElem_map,←hx]
     simp only[ah.aD,encS,encI,List.cons_append,List.nil_append]
    have hm:=jg hir
    have hle:=lS (rows:=rows) (i:=i+1)
    rw[hm,e1] at hle
    rw[e1] at hm
    simp only[jP,jO] at hle hm
    have hK:k+((aB (rows.take (i+1)):Nat):Int)=k+((aB (rows.take i):Nat):Int)+1+((aB (x.ak.map ah.enc):Nat):Int):=by rw[hm];omega
    have e2:=uy (k:=k) hir
    rw[e1] at e2
    have hC:∀row o,cellAt (iX rows k i row) i o=row[o]? :=fun row o=>mM hir
    have hG:∀row,(iX rows k i row).getD i []=row:=fun row=>ql hir
    simp -implicitDefEqProofs (disch:=omega) only[go_sem,hb,ht,hA,hU,e2,hC,hG,dK,cB,hl,bD,dJ]
    (repeat(with_reducible refine And.intro ?_ ?_;focus first|omega|rfl|assumption|exact⟨_,rfl,rfl⟩|(simp;omega)|(simp;done)))
    refine ay (dw (k+((aB (rows.take i):Nat):Int)) (by omega)) ?_
    simp -implicitDefEqProofs (disch:=omega) only[go_sem,hb,ht,hA,hU,e2,hC,hG,dK,cB,hl,bD,dJ]
    (repeat(with_reducible refine And.intro ?_ ?_;focus first|omega|rfl|assumption|exact⟨_,rfl,rfl⟩|(simp;omega)|(simp;done)))
    refine bf rfl (qm hS hp hir (by rfl) (fun S' rs' g1 g2=>nM x.ak (by have:=List.sizeOf_lt_of_mem (List.getElem_mem hi);rw[←hx] at this;have:=ah.jU x;omega) (k+((aB (rows.take i):Nat):Int)+1) (1+l) j r _ S' rs' g1 g2 (by omega))) ?_
    simp -implicitDefEqProofs (disch:=omega) only[go_sem,hb,ht,hA,hU,e2,hC,hG,dK,cB,hl,bD,dJ]
    (repeat(with_reducible refine And.intro ?_ ?_;focus first|omega|rfl|assumption|exact⟨_,rfl,rfl⟩|(simp;omega)|(simp;done)))
    refine bH (i+1) (by omega) (by rw[hK];rfl) ?_ (by omega)
    have h3:=uz (k:=k) hir
    rw[e1] at h3
    simp only[l8,yc] at h3
    rw[←h3]
    all_goals rfl
   ·simp -implicitDefEqProofs (disch:=omega) only[go_sem,hb]
    have hi:i=xs.length:=by omega
    rw[rE (by omega),List.take_of_length_le (by omega)]
    all_goals (first|rfl|exact⟨rfl,rfl⟩)
theorem Km(xs:List ah):∀(k:Int) (l j r:Nat) (p:List (Nat×Nat)) (S:Store) (rs:List (List (List D))),aR S (l,j)=some (.xf rs)→atR rs r p=some (xs.map ah.enc)→0≤k∧k+aB (xs.map ah.enc)≤4611686018427387904→bA Tryz.prog 87 [.c (.xp (l,j) r p),.c (.d (.i .i64 k))] S (fun res S'=>res=.c (.d (.i .i64 (k+aB (xs.map ah.enc))))∧S'=aW S (l,j) (.xf (cO rs r p (bT (xs.map ah.enc) k)))):=(Bf _) xs (Nat.lt_succ_self _)
theorem NG(x:ah)(k:Int)(l j b:Nat)(S:Store)(rs:List (List (List D)))(hS:aR S (l,j)=some (.xf rs))(h1:atR rs (b+1) []=some (x.ak.map ah.enc))(hk:0≤k∧k+((aB (x.ak.map ah.enc):Nat):Int)≤4611686018427387904):bA Tryz.prog 17 [.agg [.d (.s x.aT),.xp (l,j) (b+1) []],.c (.d (.i .i64 k))] S (fun res S'=>res=.c (.d (.i .i64 (k+((aB (x.ak.map ah.enc):Nat):Int))))∧S'=aW S (l,j) (.xf (cO (rs) (b+1) [] (bT (x.ak.map ah.enc) (k))))):=by
 have ht:∀x:Ab.Obj,aR (aW S (l,j) x) (l,j)=some x:=fun x=>bS _ _ _ _ hS
 refine aC (rs:=[.tmp 4]) Tryz.checked.mixed Tryz.func17 Tryz.ntmps17 rfl rfl rfl rfl rfl ?_
 simp -implicitDefEqProofs (disch:=omega) only[go_sem]
 refine bf rfl (Km x.ak (k) (1+l) j (b+1) [] _ _ (by rw[dN];first|exact hS|exact ht _) (by first|assumption|(simp(disch:=omega) only[ne_eq,gY];assumption)) (by omega)) ?_
 simp -implicitDefEqProofs (disch:=omega) only[go_sem,bD,kX]
 try exact⟨rfl,rfl⟩
end Go.Proofs.YtlmhknhlmicmeaaGreatDoor
namespace Go.Proofs.YtlmhknhlmicmeaaGreatDoor
open Go Go.Ab
end Go.Proofs.YtlmhknhlmicmeaaGreatDoor
namespace Go.Proofs.YtlmhknhlmicmeaaGreatDoor
open Go Go.Ab
end Go.Proofs.YtlmhknhlmicmeaaGreatDoor
namespace Go.Proofs.YtlmhknhlmicmeaaGreatDoor
open Go Go.Ab
end Go.Proofs.YtlmhknhlmicmeaaGreatDoor
namespace Go.Proofs.YtlmhknhlmicmeaaGreatDoor
open Go Go.Ab
end Go.Proofs.YtlmhknhlmicmeaaGreatDoor
namespace Go.Proofs.YtlmhknhlmicmeaaGreatDoor
open Go Go.Ab
end Go.Proofs.YtlmhknhlmicmeaaGreatDoor
namespace Go.Proofs.YtlmhknhlmicmeaaGreatDoor
open Go Go.Ab
end Go.Proofs.YtlmhknhlmicmeaaGreatDoor
namespace Go.Proofs.YtlmhknhlmicmeaaGreatDoor
open Go Go.Ab
set_option maxHeartbeats 4000000 in
theorem Kn(xs:List aP):∀(k:Int) (l j r:Nat) (p:List (Nat×Nat)) (S:Store) (rs:List (List (List D))),aR S (l,j)=some (.xf rs)→atR rs r p=some (xs.map aP.enc)→0≤k∧k+aB (xs.map aP.enc)≤4611686018427387904→bA Tryz.prog 131 [.c (.xp (l,j) r p),.c (.d (.i .i64 k))] S (fun res S'=>res=.c (.d (.i .i64 (k+aB (xs.map aP.enc))))∧S'=aW S (l,j) (.xf (cO rs r p (bT (xs.map aP.enc) k)))):=by
 intro k l j r p S rs hS hp hk
 have hlen:=mO (f:=aP.enc) (fun x=>by simp only[aP.aD,aj.aD,encS,encI,List.cons_append,List.nil_append,jP,jO];omega) xs
 obtain⟨rows,hr⟩:∃rows,rows=xs.map aP.enc:=⟨_,rfl⟩
 have hl:rows.length=xs.length:=by rw[hr,List.length_map]
 rw[←hr] at hp hk hlen ⊢
 have ht:∀x:Ab.Obj,aR (aW S (l,j) x) (l,j)=some x:=fun x=>bS _ _ _ _ hS
 have hA:∀new,atR (cO rs r p new) r p=some new:=fun new=>ou hp
 have hU:∀a b,cO (cO rs r p a) r p b=cO rs r p b:=fun a b=>nU hp
 refine aC (rs:=[.tmp 4]) Tryz.checked.mixed Tryz.func131 Tryz.ntmps131 rfl rfl rfl rfl rfl ?_
 simp -implicitDefEqProofs (disch:=omega) only[go_sem]
 refine aV (ι:=Nat) Tryz.checked.mixed rfl [0,1,5] (fun i=>[.c (.xp (1+l,j) r p),.c (.d (.i .i64 (k+aB (rows.take i)))),.c (.d (.i .i64 i))])
  (fun i=>[]::aW S (l,j) (.xf (cO rs r p (mo rows k i)))) (fun i=>i≤xs.length) (fun i=>xs.length-i) 0 ?_ ?_ (Nat.zero_le _) ?_
 ·have z0:k+((aB (rows.take 0):Nat):Int)=k:=by simp[aB]
  rw[z0]
  rfl
 ·rw[qj,qh hp,kE _ _ hS]
 intro i hi
 simp -implicitDefEqProofs (disch:=omega) only[go_sem,ht,hA,iO,hl]
 with_reducible refine aA (fun hb=> ?_) (fun hb=> ?_)<;>have h:=hb<;>try simp only[wf_preprocess] at h
 ·have hi:i<xs.length:=by omega
  have hir:i<rows.length:=by omega
  obtain⟨x,hx⟩:∃x,x=xs[i]:=⟨_,rfl⟩
  have e1:rows[i]=[.s x.fName,.i .i64 x.fType.aG,.s x.fType.fName,.sl (x.fType.fArgs.map aj.enc)]:=by
   simp only[hr,List.getElem_map,←hx]
   simp only[aP.aD,aj.aD,encS,encI,List.cons_append,List.nil_append]
  have hm:=jg hir
  have hle:=lS (rows:=rows) (i:=i+1)
  rw[hm,e1] at hle
  rw[e1] at hm
  simp only[jP,jO] at hle hm
  have hK:k+((aB (rows.take (i+1)):Nat):Int)=k+((aB (rows.take i):Nat):Int)+1+1+1+((aB (x.fType.fArgs.map aj.enc):Nat):Int):=by rw[hm];omega
  have e2:=uy (k:=k) hir
  rw[e1] at e2
  have hC:∀row o,cellAt (iX rows k i row) i o=row[o]? :=fun row o=>mM hir
  have hG:∀row,(iX rows k i row).getD i []=row:=fun row=>ql hir
  simp -implicitDefEqProofs (disch:=omega) only[go_sem,hb,ht,hA,hU,e2,hC,hG,dK,cB,hl,bD,dJ]
  (repeat(with_reducible refine And.intro ?_ ?_;focus first|omega|rfl|assumption|exact⟨_,rfl,rfl⟩|(simp;omega)|(simp;done)))
  refine ay (dw (k+((aB (rows.take i):Nat):Int)) (by omega)) ?_
  simp -implicitDefEqProofs (disch:=omega) only[go_sem,hb,ht,hA,hU,e2,hC,hG,dK,cB,hl,bD,dJ]
  (repeat(with_reducible refine And.intro ?_ ?_;focus first|omega|rfl|assumption|exact⟨_,rfl,rfl⟩|(simp;omega)|(simp;done)))
  refine ay (dw (k+((aB (rows.take i):Nat):Int)+1+1) (by omega)) ?_
  simp -implicitDefEqProofs (disch:=omega) only[go_sem,hb,ht,hA,hU,e2,hC,hG,dK,cB,hl,bD,dJ]
  (repeat(with_reducible refine And.intro ?_ ?_;focus first|omega|rfl|assumption|exact⟨_,rfl,rfl⟩|(simp;omega)|(simp;done)))
  refine bf rfl (qm hS hp hir (by rfl) (fun S' rs' g1 g2=>qE x.fType.fArgs (k+((aB (rows.take i):Nat):Int)+1+1+1) (1+l) j r _ S' rs' g1 g2 (by omega))) ?_
  simp -implicitDefEqProofs (disch:=omega) only[go_sem,hb,ht,hA,hU,e2,hC,hG,dK,cB,hl,bD,dJ]
  (repeat(with_reducible refine And.intro ?_ ?_;focus first|omega|rfl|assumption|exact⟨_,rfl,rfl⟩|(simp;omega)|(simp;done)))
  refine bH (i+1) (by omega) (by rw[hK];rfl) ?_ (by omega)
  have h3:=uz (k:=k) hir
  rw[e1] at h3
  simp only[l8,yc] at h3
  rw[←h3]
  all_goals rfl
 ·simp -implicitDefEqProofs (disch:=omega) only[go_sem,hb]
  have hi:i=xs.length:=by omega
  rw[rE (by omega),List.take_of_length_le (by omega)]
  all_goals (first|rfl|exact⟨rfl,rfl⟩)
set_option maxHeartbeats 4000000 in
theorem Ko(xs:List aP):∀(k:Int) (l j r:Nat) (p:List (Nat×Nat)) (S:Store) (rs:List (List (List D))),aR S (l,j)=some (.xf rs)→atR rs r p=some (bT (xs.map aP.enc) k)→0≤k∧k+aB (xs.map aP.enc)≤4611686018427387904→bA Tryz.prog 134 [.c (.xp (l,j) r p),.c (.d (.i .i64 k))] S (fun res S'=>res=.c (.d (.i .i64 (k+aB (xs.map aP.enc))))∧S'=S):=by
 intro k l j r p S rs hS hp hk
 have hlen:=mO (f:=aP.enc) (fun x=>by simp only[aP.aD,aj.aD,encS,encI,List.cons_append,List.nil_append,jP,jO];omega) xs
 obtain⟨rows,hr⟩:∃rows,rows=xs.map aP.enc:=⟨_,rfl⟩
 have hl:rows.length=xs.length:=by rw[hr,List.length_map]
 rw[←hr] at hp hk hlen ⊢
 refine aC (rs:=[.tmp 4]) Tryz.checked.mixed Tryz.func134 Tryz.ntmps134 rfl rfl rfl rfl rfl ?_
 simp -implicitDefEqProofs (disch:=omega) only[go_sem]
 refine aV (ι:=Nat) Tryz.checked.mixed rfl [0,1,5] (fun i=>[.c (.xp (1+l,j) r p),.c (.d (.i .i64 (k+aB (rows.take i)))),.c (.d (.i .i64 i))])
  (fun i=>[]::S) (fun i=>i≤xs.length) (fun i=>xs.length-i) 0 ?_ rfl (Nat.zero_le _) ?_
 ·have z0:k+((aB (rows.take 0):Nat):Int)=k:=by simp[aB]
  rw[z0]
  rfl
 intro i hi
 simp -implicitDefEqProofs (disch:=omega) only[go_sem,hS,hp,bE,hl]
 with_reducible refine aA (fun hb=> ?_) (fun hb=> ?_)<;>have h:=hb<;>try simp only[wf_preprocess] at h
 ·have hi:i<xs.length:=by omega
  have hir:i<rows.length:=by omega
  obtain⟨x,hx⟩:∃x,x=xs[i]:=⟨_,rfl⟩
  have e1:rows[i]=[.s x.fName,.i .i64 x.fType.aG,.s x.fType.fName,.sl (x.fType.fArgs.map aj.enc)]:=by
   simp only[hr,List.getElem_map,←hx]
   simp only[aP.aD,aj.aD,encS,encI,List.cons_append,List.nil_append]
  have hm:=jg hir
  have hle:=lS (rows:=rows) (i:=i+1)
  rw[hm,e1] at hle
  rw[e1] at hm
  simp only[jP,jO] at hle hm
  have hK:k+((aB (rows.take (i+1)):Nat):Int)=k+((aB (rows.take i):Nat):Int)+1+1+1+((aB (x.fType.fArgs.map aj.enc):Nat):Int):=by rw[hm];omega
  have e2:l8 rows[i] (k+((aB (rows.take i):Nat):Int))=[.s (gG (k+((aB (rows.take i):Nat):Int))),.i .i64 (k+((aB (rows.take i):Nat):Int)+1),.s (gG (k+((aB (rows.take i):Nat):Int)+1+1)),.sl (bT (x.fType.fArgs.map aj.enc) (k+((aB (rows.take i):Nat):Int)+1+1+1))]:=by
   rw[e1]
   simp only[l8,yc]
   all_goals rfl
  have hC:∀o,cellAt (bT rows k) i o=([.s (gG (k+((aB (rows.take i):Nat):Int))),.i .i64 (k+((aB (rows.take i):Nat):Int)+1),.s (gG (k+((aB (rows.take i):Nat):Int)+1+1)),.sl (bT (x.fType.fArgs.map aj.enc) (k+((aB (rows.take i):Nat):Int)+1+1+1))]:List D)[o]? :=fun o=>by
   have h1:(bT rows k)[i]? =some (l8 rows[i] (k+((aB (rows.take i):Nat):Int))):=by
    have h2:=jV (k:=k) hir
    have h3:i<(bT rows k).length:=by rw[bE];exact hir
    rw[List.getD_eq_getElem?_getD,List.getElem?_eq_getElem h3,Option.getD_some] at h2
    rw[List.getElem?_eq_getElem h3,h2]
   unfold cellAt
   rw[h1,Option.bind_some,e2]
  have hG:=jV (k:=k) hir
  rw[e2] at hG
  simp -implicitDefEqProofs (disch:=omega) only[go_sem,hb,hS,hp,hC,hG,bE,hl,dJ]
  (repeat(with_reducible refine And.intro ?_ ?_;focus first|omega|rfl|assumption|exact⟨_,rfl,rfl⟩|(simp;omega)|(simp;done)))
  refine ay (dw (k+((aB (rows.take i):Nat):Int)) (by omega)) ?_
  simp -implicitDefEqProofs (disch:=omega) only[go_sem,hb,hS,hp,hC,hG,bE,hl,dJ]
  (repeat(with_reducible refine And.intro ?_ ?_;focus first|omega|rfl|assumption|exact⟨_,rfl,rfl⟩|(simp;omega)|(simp;done)))
  refine ay (dw (k+((aB (rows.take i):Nat):Int)+1+1) (by omega)) ?_
  simp -implicitDefEqProofs (disch:=omega) only[go_sem,hb,hS,hp,hC,hG,bE,hl,dJ]
  (repeat(with_reducible refine And.intro ?_ ?_;focus first|omega|rfl|assumption|exact⟨_,rfl,rfl⟩|(simp;omega)|(simp;done)))
  refine bf rfl (qG x.fType.fArgs (k+((aB (rows.take i):Nat):Int)+1+1+1) (1+l) j r _ _ _ (by rw[dN];exact hS) (lX hp (by rw[hC];rfl)) (by omega)) ?_
  simp -implicitDefEqProofs (disch:=omega) only[go_sem,hb,hS,hp,hC,hG,bE,hl,dJ,gF]
  (repeat(with_reducible refine And.intro ?_ ?_;focus first|omega|rfl|assumption|exact⟨_,rfl,rfl⟩|(simp;omega)|(simp;done)))
  refine bH (i+1) (by omega) (by rw[hK];rfl) rfl (by omega)
 ·simp -implicitDefEqProofs (disch:=omega) only[go_sem,hb]
  have hi:i=xs.length:=by omega
  rw[List.take_of_length_le (by omega)]
  all_goals (first|rfl|exact⟨rfl,rfl⟩)
end Go.Proofs.YtlmhknhlmicmeaaGreatDoor
namespace Go.Proofs.YtlmhknhlmicmeaaGreatDoor
open Go Go.Ab
theorem GZ(x:aU)(k:Int)(l j b:Nat)(S:Store)(rs:List (List (List D)))(hS:aR S (l,j)=some (.xf rs))(h1:atR rs (b+1) []=some (x.aK.map encS))(h2:atR rs (b+2) []=some (x.bO.map aN.enc))(h3:atR rs (b+3) []=some (x.aS.map aP.enc))(h6:atR rs (b+6) []=some (x.bq.fArgs.map aj.enc))(h13:atR rs (b+13) []=some (x.fBody.fType.fArgs.map aj.enc))(h14:atR rs (b+14) []=some (x.fBody.fArgs.map au.enc))(h15:atR rs (b+15) []=some (x.fBody.aI.map aF.enc))(hk:0≤k∧k+((aB (x.aK.map encS):Nat):Int)+((aB (x.bO.map aN.enc):Nat):Int)+((aB (x.aS.map aP.enc):Nat):Int)+((aB (x.bq.fArgs.map aj.enc):Nat):Int)+((aB (x.fBody.fType.fArgs.map aj.enc):Nat):Int)+((aB (x.fBody.fArgs.map au.enc):Nat):Int)+((aB (x.fBody.aI.map aF.enc):Nat):Int)≤4611686018427387904):bA Tryz.prog 35 [.agg [.d (.s x.fName),.xp (l,j) (b+1) [],.xp (l,j) (b+2) [],.xp (l,j) (b+3) [],.d (.i .i64 x.bq.aG),.d (.s x.bq.fName),.xp (l,j) (b+6) [],.d (.i .i64 x.fBody.aG),.d (.s x.fBody.aY),.d (.s x.fBody.fName),.d (.i .i64 x.fBody.fN),.d (.i .i64 x.fBody.fType.aG),.d (.s x.fBody.fType.fName),.xp (l,j) (b+13) [],.xp (l,j) (b+14) [],.xp (l,j) (b+15) []],.c (.d (.i .i64 k))] S (fun res S'=>res=.c (.d (.i .i64 (k+((aB (x.aK.map encS):Nat):Int)+((aB (x.bO.map aN.enc):Nat):Int)+((aB (x.aS.map aP.enc):Nat):Int)+((aB (x.bq.fArgs.map aj.enc):Nat):Int)+((aB (x.fBody.fType.fArgs.map aj.enc):Nat):Int)+((aB (x.fBody.fArgs.map au.enc):Nat):Int)+((aB (x.fBody.aI.map aF.enc):Nat):Int))))∧S'=aW S (l,j) (.xf (cO (cO (cO (cO (cO (cO (cO (rs) (b+1) [] (bT (x.aK.map encS) (k))) (b+2) [] (bT (x.bO.map aN.enc) (k+((aB (x.aK.map encS):Nat):Int)))) (b+3) [] (bT (x.aS.map aP.enc) (k+((aB (x.aK.map encS):Nat):Int)+((aB (x.bO.map aN.enc):Nat):Int)))) (b+6) [] (bT (x.bq.fArgs.map aj.enc) (k+((aB (x.aK.map encS):Nat):Int)+((aB (x.bO.map aN.enc):Nat):Int)+((aB (x.aS.map aP.enc):Nat):Int)))) (b+13) [] (bT (x.fBody.fType.fArgs.map aj.enc) (k+((aB (x.aK.map encS):Nat):Int)+((aB (x.bO.map aN.enc):Nat):Int)+((aB (x.aS.map aP.enc):Nat):Int)+((aB (x.bq.fArgs.map aj.enc):Nat):Int)))) (b+14) [] (bT (x.fBody.fArgs.map au.enc) (k+((aB (x.aK.map encS):Nat):Int)+((aB (x.bO.map aN.enc):Nat):Int)+((aB (x.aS.map aP.enc):Nat):Int)+((aB (x.bq.fArgs.map aj.enc):Nat):Int)+((aB (x.fBody.fType.fArgs.map aj.enc):Nat):Int)))) (b+15) [] (bT (x.fBody.aI.map aF.enc) (k+((aB (x.aK.map encS):Nat):Int)+((aB (x.bO.map aN.enc):Nat):Int)+((aB (x.aS.map aP.enc):Nat):Int)+((aB (x.bq.fArgs.map aj.enc):Nat):Int)+((aB (x.fBody.fType.fArgs.map aj.enc):Nat):Int)+((aB (x.fBody.fArgs.map au.enc):Nat):Int)))))):=by
 have ht:∀x:Ab.Obj,aR (aW S (l,j) x) (l,j)=some x:=fun x=>bS _ _ _ _ hS
 refine aC (rs:=[.tmp 4]) Tryz.checked.mixed Tryz.func35 Tryz.ntmps35 rfl rfl rfl rfl rfl ?_
 simp -implicitDefEqProofs (disch:=omega) only[go_sem]
 refine bf rfl (zG x.aK (k) (1+l) j (b+1) [] _ _ (by rw[dN];first|exact hS|exact ht _) (by first|assumption|(simp(disch:=omega) only[ne_eq,gY];assumption)) (by omega)) ?_
 simp -implicitDefEqProofs (disch:=omega) only[go_sem,bD,kX]
 refine bf rfl (Kk x.bO (k+((aB (x.aK.map encS):Nat):Int)) (1+l) j (b+2) [] _ _ (by rw[dN];first|exact hS|exact ht _) (by first|assumption|(simp(disch:=omega) only[ne_eq,gY];assumption)) (by omega)) ?_
 simp -implicitDefEqProofs (disch:=omega) only[go_sem,bD,kX]
 refine bf rfl (Kn x.aS (k+((aB (x.aK.map encS):Nat):Int)+((aB (x.bO.map aN.enc):Nat):Int)) (1+l) j (b+3) [] _ _ (by rw[dN];first|exact hS|exact ht _) (by first|assumption|(simp(disch:=omega) only[ne_eq,gY];assumption)) (by omega)) ?_
 simp -implicitDefEqProofs (disch:=omega) only[go_sem,bD,kX]
 refine bf rfl (Ec x.bq (k+((aB (x.aK.map encS):Nat):Int)+((aB (x.bO.map aN.enc):Nat):Int)+((aB (x.aS.map aP.enc):Nat):Int)) (1+l) j (b+4) _ _ (by rw[dN];first|exact hS|exact ht _) (by first|assumption|(simp(disch:=omega) only[ne_eq,gY];assumption)) (by omega)) ?_
 simp -implicitDefEqProofs (disch:=omega) only[go_sem,bD,kX,Nat.add_assoc,Nat.reduceAdd]
 refine bf rfl (O7 x.fBody (k+((aB (x.aK.map encS):Nat):Int)+((aB (x.bO.map aN.enc):Nat):Int)+((aB (x.aS.map aP.enc):Nat):Int)+((aB (x.bq.fArgs.map aj.enc):Nat):Int)) (1+l) j (b+7) _ _ (by rw[dN];first|exact hS|exact ht _) (by first|assumption|(simp(disch:=omega) only[ne_eq,gY];assumption)) (by first|assumption|(simp(disch:=omega) only[ne_eq,gY];assumption)) (by first|assumption|(simp(disch:=omega) only[ne_eq,gY];assumption)) (by omega)) ?_
 simp -implicitDefEqProofs (disch:=omega) only[go_sem,bD,kX,Nat.add_assoc,Nat.reduceAdd]
 try exact⟨rfl,rfl⟩
theorem yG(x:aU)(k:Int)(l j b:Nat)(S:Store)(rs:List (List (List D)))(hS:aR S (l,j)=some (.xf rs))(h1:atR rs (b+1) []=some (bT (x.aK.map encS) (k)))(h2:atR rs (b+2) []=some (bT (x.bO.map aN.enc) (k+((aB (x.aK.map encS):Nat):Int))))(h3:atR rs (b+3) []=some (bT (x.aS.map aP.enc) (k+((aB (x.aK.map encS):Nat):Int)+((aB (x.bO.map aN.enc):Nat):Int))))(h6:atR rs (b+6) []=some (bT (x.bq.fArgs.map aj.enc) (k+((aB (x.aK.map encS):Nat):Int)+((aB (x.bO.map aN.enc):Nat):Int)+((aB (x.aS.map aP.enc):Nat):Int))))(h13:atR rs (b+13) []=some (bT (x.fBody.fType.fArgs.map aj.enc) (k+((aB (x.aK.map encS):Nat):Int)+((aB (x.bO.map aN.enc):Nat):Int)+((aB (x.aS.map aP.enc):Nat):Int)+((aB (x.bq.fArgs.map aj.enc):Nat):Int))))(h14:atR rs (b+14) []=some (bT (x.fBody.fArgs.map au.enc) (k+((aB (x.aK.map encS):Nat):Int)+((aB (x.bO.map aN.enc):Nat):Int)+((aB (x.aS.map aP.enc):Nat):Int)+((aB (x.bq.fArgs.map aj.enc):Nat):Int)+((aB (x.fBody.fType.fArgs.map aj.enc):Nat):Int))))(h15:atR rs (b+15) []=some (bT (x.fBody.aI.map aF.enc) (k+((aB (x.aK.map encS):Nat):Int)+((aB (x.bO.map aN.enc):Nat):Int)+((aB (x.aS.map aP.enc):Nat):Int)+((aB (x.bq.fArgs.map aj.enc):Nat):Int)+((aB (x.fBody.fType.fArgs.map aj.enc):Nat):Int)+((aB (x.fBody.fArgs.map au.enc):Nat):Int))))(hk:0≤k∧k+((aB (x.aK.map encS):Nat):Int)+((aB (x.bO.map aN.enc):Nat):Int)+((aB (x.aS.map aP.enc):Nat):Int)+((aB (x.bq.fArgs.map aj.enc):Nat):Int)+((aB (x.fBody.fType.fArgs.map aj.enc):Nat):Int)+((aB (x.fBody.fArgs.map au.enc):Nat):Int)+((aB (x.fBody.aI.map aF.enc):Nat):Int)≤4611686018427387904):bA Tryz.prog 36 [.agg [.d (.s x.fName),.xp (l,j) (b+1) [],.xp (l,j) (b+2) [],.xp (l,j) (b+3) [],.d (.i .i64 x.bq.aG),.d (.s x.bq.fName),.xp (l,j) (b+6) [],.d (.i .i64 x.fBody.aG),.d (.s x.fBody.aY),.d (.s x.fBody.fName),.d (.i .i64 x.fBody.fN),.d (.i .i64 x.fBody.fType.aG),.d (.s x.fBody.fType.fName),.xp (l,j) (b+13) [],.xp (l,j) (b+14) [],.xp (l,j) (b+15) []],.c (.d (.i .i64 k))] S (fun res S'=>res=.c (.d (.i .i64 (k+((aB (x.aK.map encS):Nat):Int)+((aB (x.bO.map aN.enc):Nat):Int)+((aB (x.aS.map aP.enc):Nat):Int)+((aB (x.bq.fArgs.map aj.enc):Nat):Int)+((aB (x.fBody.fType.fArgs.map aj.enc):Nat):Int)+((aB (x.fBody.fArgs.map au.enc):Nat):Int)+((aB (x.fBody.aI.map aF.enc):Nat):Int))))∧S'=S):=by
 refine aC (rs:=[.tmp 4]) Tryz.checked.mixed Tryz.func36 Tryz.ntmps36 rfl rfl rfl rfl rfl ?_
 simp -implicitDefEqProofs (disch:=omega) only[go_sem]
 refine bf rfl (zH x.aK (k) (1+l) j (b+1) [] _ _ (by rw[dN];first|exact hS|exact ht _) (by first|assumption|(simp(disch:=omega) only[ne_eq,gY];assumption)) (by omega)) ?_
 simp -implicitDefEqProofs (disch:=omega) only[go_sem,gF]
 refine bf rfl (Kl x.bO (k+((aB (x.aK.map encS):Nat):Int)) (1+l) j (b+2) [] _ _ (by rw[dN];first|exact hS|exact ht _) (by first|assumption|(simp(disch:=omega) only[ne_eq,gY];assumption)) (by omega)) ?_
 simp -implicitDefEqProofs (disch:=omega) only[go_sem,gF]
 refine bf rfl (Ko x.aS (k+((aB (x.aK.map encS):Nat):Int)+((aB (x.bO.map aN.enc):Nat):Int)) (1+l) j (b+3) [] _ _ (by rw[dN];first|exact hS|exact ht _) (by first|assumption|(simp(disch:=omega) only[ne_eq,gY];assumption)) (by omega)) ?_
 simp -implicitDefEqProofs (disch:=omega) only[go_sem,gF]
 refine bf rfl (Ed x.bq (k+((aB (x.aK.map encS):Nat):Int)+((aB (x.bO.map aN.enc):Nat):Int)+((aB (x.aS.map aP.enc):Nat):Int)) (1+l) j (b+4) _ _ (by rw[dN];first|exact hS|exact ht _) (by first|assumption|(simp(disch:=omega) only[ne_eq,gY];assumption)) (by omega)) ?_
 simp -implicitDefEqProofs (disch:=omega) only[go_sem,gF]
 refine bf rfl (O9 x.fBody (k+((aB (x.aK.map encS):Nat):Int)+((aB (x.bO.map aN.enc):Nat):Int)+((aB (x.aS.map aP.enc):Nat):Int)+((aB (x.bq.fArgs.map aj.enc):Nat):Int)) (1+l) j (b+7) _ _ (by rw[dN];first|exact hS|exact ht _) (by first|assumption|(simp(disch:=omega) only[ne_eq,gY];assumption)) (by first|assumption|(simp(disch:=omega) only[ne_eq,gY];assumption)) (by first|assumption|(simp(disch:=omega) only[ne_eq,gY];assumption)) (by omega)) ?_
 simp -implicitDefEqProofs (disch:=omega) only[go_sem,gF]
 try exact⟨rfl,rfl⟩
end Go.Proofs.YtlmhknhlmicmeaaGreatDoor
