/-
  SEVERAL TEXTS IN ONE (merged by program): contracts and models, each with its own heading.
-/
import Derived.Test.YtlmhknhlmicmeaaGreatDoorPartRobE
set_option linter.unusedSimpArgs false
set_option linter.unusedVariables false
set_option maxRecDepth 4000
set_option maxRecDepth 8000
namespace Go.Proofs.YtlmhknhlmicmeaaGreatDoor
open Go Go.Ab
set_option maxHeartbeats 8000000 in
theorem PS:∀n:Nat,∀x:ay,SizeOf.sizeOf x<n→x.sz≤4194304→aI Tryz.prog 204 [x.v] (.c (.d (.b (gD x)))):=by
 intro n
 induction n with
 |zero=>intro x h;omega
 |succ n ih=>
  intro x hn hsz S
  have hb0:=ay.bounds hsz
  have iF:=ay.fF x
  have zl:=ay.mK x
  have he:=ug x
  have hv0:=KH
  have hop:x.fName∈ops→validName x.fName=false:=Np
  refine(show(ql x→ ?T)→_ from fun tail=> ?main) ?tp
  case' main=>
   rcases Ig x.aH with hk|hk|hk|hk|hk|hk|hk|hk|hk|hk|hk|hk|hk
   ·have h1:gD x=false:=by rw[he,aQ (fun h=>by have:=h.1;omega)];rfl
    refine aD (rs:=[.tmp 2]) Tryz.checked.mixed Tryz.func204 Tryz.ntmps204 rfl rfl rfl rfl rfl ?_
    simp -implicitDefEqProofs (disch:=omega) only[go_sem]
    refine au (Kl _) ?_
    simp -implicitDefEqProofs (disch:=omega) only[go_sem]
    refine au (Ai _ _ _) ?_
    simp -implicitDefEqProofs (disch:=omega) only[go_sem]
    with_reducible refine aA (fun hb=> ?_) (fun hb=> ?_)<;>have h:=hb<;>(try simp only[wf_preprocess] at h)<;>simp -implicitDefEqProofs (disch:=omega) only[go_sem,hb]<;>(repeat(with_reducible refine And.intro ?_ ?_;focus first|omega|rfl|assumption|exact⟨_,rfl,rfl⟩|(simp;omega)|(simp;done)))
    ·rw[h1]
    ·omega
   all_goals
    have hf0:¬ql x→V.c (.d (.b false))=V.c (.d (.b (gD x))):=fun h=>aK (by rw[he,aQ h];rfl)
    refine aD (rs:=[.tmp 2]) Tryz.checked.mixed Tryz.func204 Tryz.ntmps204 rfl rfl rfl rfl rfl ?_
    simp -implicitDefEqProofs (disch:=omega) only[go_sem,hk]
    refine au (Kl _) ?_
    simp -implicitDefEqProofs (disch:=omega) only[go_sem,hk,Tk,Tm,Tn,Tp,Tq,Tt,or_false,or_true,true_or,false_or]
    refine au (Ai _ _ _) ?_
    simp -implicitDefEqProofs (disch:=omega) only[go_sem,hk]
    repeat' (first
     |with_reducible refine aA (fun hb=> ?_) (fun hb=> ?_)<;>have h:=hb<;>(try simp only[wf_preprocess] at h)<;>simp -implicitDefEqProofs (disch:=omega) only[go_sem,hb,hk]<;>(repeat(with_reducible refine And.intro ?_ ?_;focus first|omega|rfl|assumption|exact⟨_,rfl,rfl⟩|(simp;omega)|(simp;done)))
     |((with_reducible show fO _ _ 152 _ _ _ _);refine au (jE x.fName (by omega)) ?_;simp -implicitDefEqProofs (disch:=omega) only[go_sem,hk])
     |((with_reducible show fO _ _ 152 _ _ _ _);refine au (jE x.aW (by omega)) ?_;simp -implicitDefEqProofs (disch:=omega) only[go_sem,hk])
     |((with_reducible show fO _ _ 279 _ _ _ _);refine au (Tv x.fName) ?_;simp -implicitDefEqProofs (disch:=omega) only[go_sem,hk])
     |((with_reducible show fO _ _ 254 _ _ _ _);refine au (Ii x.fType) ?_;simp -implicitDefEqProofs (disch:=omega) only[go_sem,hk])
     |((with_reducible show fO _ _ 280 _ _ _ _);refine au (sV x.fType (by omega)) ?_;simp -implicitDefEqProofs (disch:=omega) only[go_sem,hk])
     |((with_reducible show fO _ _ 245 _ _ _ _);refine au (Ai x.fN _ _) ?_;simp -implicitDefEqProofs (disch:=omega) only[go_sem,hk])
     |(refine hf0 fun hF=> ?_;simp only[ql,hk,or_false,or_true,true_or,false_or,and_true,true_and,if_true,if_false,↓reduceIte,Int.reduceEq,Int.reduceLT,Int.reduceLE] at hF;grind [gq,jh,bK,aQ]))
   all_goals
    have hF:ql x:=by simp only[ql,hk,or_false,or_true,true_or,false_or,and_true,true_and,if_true,if_false,↓reduceIte,Int.reduceEq,Int.reduceLT,Int.reduceLE];grind [gq,jh,bK,aQ]
    refine kX (st':=[.box (x.enc.map .d)]::S) [1,9] [.c (.ptr (0,0) 0),.c (.d (.i .i64 0))] rfl (by simp -implicitDefEqProofs (disch:=omega) only[go_sem,hk]) ?_
    exact tail hF
  intro hF
  rw[bK hF,Bool.true_and] at he
  clear hF hop hv0
  refine aZ (ι:=Nat) Tryz.checked.mixed rfl [1,9] (fun i=>[.c (.ptr (0,0) 0),.c (.d (.i .i64 i))]) (fun _=>[.box (x.enc.map .d)]::S)
   (fun i=>i≤x.fArgs.length∧je (x.fArgs.drop i)=je x.fArgs) (fun i=>x.fArgs.length-i) 0 rfl ?_ ⟨Nat.zero_le _,rfl⟩ ?_
  ·simp -implicitDefEqProofs (disch:=omega) only[go_sem]
  rintro i ⟨p1,p2⟩
  simp -implicitDefEqProofs (disch:=omega) only[go_sem]
  with_reducible refine aA (fun hb=> ?_) (fun hb=> ?_)<;>have h:=hb<;>(try simp only[wf_preprocess] at h)<;>simp -implicitDefEqProofs (disch:=omega) only[go_sem,hb]<;>(repeat(with_reducible refine And.intro ?_ ?_;focus first|omega|rfl|assumption|exact⟨_,rfl,rfl⟩|(simp;omega)|(simp;done)))
  ·have hi:i<x.fArgs.length:=by omega
   have hs:=List.sizeOf_lt_of_mem (List.getElem_mem hi)
   rw[Nn hi] at p2
   (repeat(with_reducible refine And.intro ?_ ?_;focus first|omega|rfl|assumption|exact⟨_,rfl,rfl⟩|(simp;omega)|(simp;done)))
   refine au (ih x.fArgs[i] (by omega) (ay.arg_b hi hsz)) ?_
   simp -implicitDefEqProofs (disch:=omega) only[go_sem]<;>(repeat(with_reducible refine And.intro ?_ ?_;focus first|omega|rfl|assumption|exact⟨_,rfl,rfl⟩|(simp;omega)|(simp;done)))
   with_reducible refine aA (fun hb=> ?_) (fun hb=> ?_)<;>have h:=hb<;>(try simp only[wf_preprocess] at h)<;>simp -implicitDefEqProofs (disch:=omega) only[go_sem,hb]<;>(repeat(with_reducible refine And.intro ?_ ?_;focus first|omega|rfl|assumption|exact⟨_,rfl,rfl⟩|(simp;omega)|(simp;done)))
   ·exact aK (by rw[he,←p2,h];rfl)
   ·exact bL (i+1) (by omega) rfl rfl ⟨by omega,by rw[←p2,h];rfl⟩
  rw[List.drop_of_length_le (by omega)] at p2
  have q:je x.fArgs=true:=p2.symm
  clear p2 p1
  refine aZ (ι:=Nat) Tryz.checked.mixed rfl [1,10] (fun i=>[.c (.ptr (0,0) 0),.c (.d (.i .i64 i))]) (fun _=>[.box (x.enc.map .d)]::S)
   (fun i=>i≤x.aL.length∧lJ (x.aL.drop i)=lJ x.aL) (fun i=>x.aL.length-i) 0 rfl ?_ ⟨Nat.zero_le _,rfl⟩ ?_
  ·simp -implicitDefEqProofs (disch:=omega) only[go_sem]
  rintro i ⟨p1,p2⟩
  simp -implicitDefEqProofs (disch:=omega) only[go_sem]
  with_reducible refine aA (fun hb=> ?_) (fun hb=> ?_)<;>have h:=hb<;>(try simp only[wf_preprocess] at h)<;>simp -implicitDefEqProofs (disch:=omega) only[go_sem,hb]<;>(repeat(with_reducible refine And.intro ?_ ?_;focus first|omega|rfl|assumption|exact⟨_,rfl,rfl⟩|(simp;omega)|(simp;done)))
  ·have hi:i<x.aL.length:=by omega
   have hs:=List.sizeOf_lt_of_mem (List.getElem_mem hi)
   have hs':=aJ.lU x.aL[i]
   have hab:=aJ.bounds (ay.Ld hi hsz)
   rw[Po hi] at p2
   have no:rM x.aL[i]=false→V.c (.d (.b false))=V.c (.d (.b (gD x))):=fun h=>aK (by rw[he,←p2,h];simp)
   (repeat(with_reducible refine And.intro ?_ ?_;focus first|omega|rfl|assumption|exact⟨_,rfl,rfl⟩|(simp;omega)|(simp;done)))
   refine au (jE x.aL[i].bR (by omega)) ?_
   simp -implicitDefEqProofs (disch:=omega) only[go_sem]<;>(repeat(with_reducible refine And.intro ?_ ?_;focus first|omega|rfl|assumption|exact⟨_,rfl,rfl⟩|(simp;omega)|(simp;done)))
   with_reducible refine aA (fun hb=> ?_) (fun hb=> ?_)<;>have h:=hb<;>(try simp only[wf_preprocess] at h)<;>simp -implicitDefEqProofs (disch:=omega) only[go_sem,hb]<;>(repeat(with_reducible refine And.intro ?_ ?_;focus first|omega|rfl|assumption|exact⟨_,rfl,rfl⟩|(simp;omega)|(simp;done)))
   ·exact no (by rw[og,h];rfl)
   have k1:=h
   (repeat(with_reducible refine And.intro ?_ ?_;focus first|omega|rfl|assumption|exact⟨_,rfl,rfl⟩|(simp;omega)|(simp;done)))
   refine au (Hf x.aL[i].aC (by omega) hab.2.2.1) ?_
   simp -implicitDefEqProofs (disch:=omega) only[go_sem]<;>(repeat(with_reducible refine And.intro ?_ ?_;focus first|omega|rfl|assumption|exact⟨_,rfl,rfl⟩|(simp;omega)|(simp;done)))
   with_reducible refine aA (fun hb=> ?_) (fun hb=> ?_)<;>have h:=hb<;>(try simp only[wf_preprocess] at h)<;>simp -implicitDefEqProofs (disch:=omega) only[go_sem,hb]<;>(repeat(with_reducible refine And.intro ?_ ?_;focus first|omega|rfl|assumption|exact⟨_,rfl,rfl⟩|(simp;omega)|(simp;done)))
   ·exact no (by rw[og];unfold jd;rw[h];simp)
   have k2:=h
   (repeat(with_reducible refine And.intro ?_ ?_;focus first|omega|rfl|assumption|exact⟨_,rfl,rfl⟩|(simp;omega)|(simp;done)))
   refine au (zo x.aL[i].aC (by omega)) ?_
   simp -implicitDefEqProofs (disch:=omega) only[go_sem]<;>(repeat(with_reducible refine And.intro ?_ ?_;focus first|omega|rfl|assumption|exact⟨_,rfl,rfl⟩|(simp;omega)|(simp;done)))
   with_reducible refine aA (fun hb=> ?_) (fun hb=> ?_)<;>have h:=hb<;>(try simp only[wf_preprocess] at h)<;>simp -implicitDefEqProofs (disch:=omega) only[go_sem,hb]<;>(repeat(with_reducible refine And.intro ?_ ?_;focus first|omega|rfl|assumption|exact⟨_,rfl,rfl⟩|(simp;omega)|(simp;done)))
   ·exact no (by rw[og];unfold jd;rw[aQ h];simp)
   have k3:=h
   (repeat(with_reducible refine And.intro ?_ ?_;focus first|omega|rfl|assumption|exact⟨_,rfl,rfl⟩|(simp;omega)|(simp;done)))
   refine au (ih x.aL[i].fBody (by omega) hab.2.2.2) ?_
   simp -implicitDefEqProofs (disch:=omega) only[go_sem]<;>(repeat(with_reducible refine And.intro ?_ ?_;focus first|omega|rfl|assumption|exact⟨_,rfl,rfl⟩|(simp;omega)|(simp;done)))
   with_reducible refine aA (fun hb=> ?_) (fun hb=> ?_)<;>have h:=hb<;>(try simp only[wf_preprocess] at h)<;>simp -implicitDefEqProofs (disch:=omega) only[go_sem,hb]<;>(repeat(with_reducible refine And.intro ?_ ?_;focus first|omega|rfl|assumption|exact⟨_,rfl,rfl⟩|(simp;omega)|(simp;done)))
   ·exact no (by rw[og,h];simp)
   ·exact dO 1 (by decide) (i+1) (by omega) rfl rfl rfl rfl ⟨by omega,by rw[←p2,og,k1,h];unfold jd;rw[k2,bK k3];rfl⟩
  ·rw[List.drop_of_length_le (by omega)] at p2
   exact aK (by rw[he,q,←p2];rfl)
theorem FL(x:ay)(hsz:x.sz≤4194304):aI Tryz.prog 106 [x.v] (.c (.d (.b (nR x)))):=fun S=>by
 have hs:=Yq (l:=300) (c:=x.cnt) (by omega)
 refine aD (rs:=[.tmp 2]) Tryz.checked.mixed Tryz.func106 Tryz.ntmps106 rfl rfl rfl rfl rfl ?_
 simp -implicitDefEqProofs (disch:=omega) only[go_sem]
 refine au (EX _ x (Nat.lt_succ_self _) hsz 300 (by omega) (by omega)) ?_
 simp -implicitDefEqProofs (disch:=omega) only[go_sem]<;>(repeat(with_reducible refine And.intro ?_ ?_;focus first|omega|rfl|assumption|exact⟨_,rfl,rfl⟩|(simp;omega)|(simp;done)))
 rw[hs]
 with_reducible refine aA (fun hb=> ?_) (fun hb=> ?_)<;>have h:=hb<;>(try simp only[wf_preprocess] at h)<;>simp -implicitDefEqProofs (disch:=omega) only[go_sem,hb]<;>(repeat(with_reducible refine And.intro ?_ ?_;focus first|omega|rfl|assumption|exact⟨_,rfl,rfl⟩|(simp;omega)|(simp;done)))
 ·refine au (PS _ x (Nat.lt_succ_self _) hsz) ?_
  simp -implicitDefEqProofs (disch:=omega) only[go_sem]<;>(repeat(with_reducible refine And.intro ?_ ?_;focus first|omega|rfl|assumption|exact⟨_,rfl,rfl⟩|(simp;omega)|(simp;done)))
  exact aK (by unfold nR;rw[bK (by omega)];rfl)
 ·exact aK (by unfold nR;rw[aQ (by omega)];rfl)
end Go.Proofs.YtlmhknhlmicmeaaGreatDoor
namespace Go.Ab
theorem NW{x:ay}(h:nR x=true):gD x=true:=by rw[nR,Bool.and_eq_true] at h;exact h.2
end Go.Ab
namespace Go.Proofs.YtlmhknhlmicmeaaGreatDoor
open Go Go.Ab
end Go.Proofs.YtlmhknhlmicmeaaGreatDoor
namespace Go.Ab
abbrev ay.cv (x:ay):List C:=[.d (.i .i64 x.aH),.d (.s x.aW),.d (.s x.fName),.d (.i .i64 x.fN),.d (.i .i64 x.fType.aH),.d (.s x.fType.fName),.d (.sl (x.fType.fArgs.map aj.enc)),.d (.sl (x.fArgs.map ay.enc)),.d (.sl (x.aL.map aJ.enc))]
abbrev ay.cl (x:ay) (n:Nat):List C:=[.d (.i .i64 x.aH),.d (.s x.aW),.d (.s x.fName),.d (.i .i64 x.fN),.d (.i .i64 x.fType.aH),.d (.s x.fType.fName),.d (.ol n (lt x.fType.fArgs (n+1))),
 .d (.ol (n+(fT x.fType.fArgs+1)) (lE x.fArgs (n+(fT x.fType.fArgs+1)+1))),.d (.ol (n+(fT x.fType.fArgs+1)+(lZ x.fArgs+1)) (lM x.aL (n+(fT x.fType.fArgs+1)+(lZ x.fArgs+1)+1)))]
abbrev agV:List C:=[.d (.i .i64 0),.d (.s []),.d (.s []),.d (.i .i64 0),.d (.i .i64 0),.d (.s []),.aM [],.aM [],.aM []]
end Go.Ab
namespace Go.Proofs.YtlmhknhlmicmeaaGreatDoor
open Go Go.Ab
end Go.Proofs.YtlmhknhlmicmeaaGreatDoor
namespace Go.Ab
noncomputable def w9(k:Int)(n:List UInt8)(bound out:List (List UInt8)):List (List UInt8):=if k=3∧n∉bound∧n∉out then out++[n] else out
mutual
noncomputable def iH:ay→List (List UInt8)→List (List UInt8)→List (List UInt8)
 | .mk k _ n _ _ a b,bound,out=>rP b bound (ou a k n 0 bound (w9 k n bound out))
noncomputable def ou:List ay→Int→List UInt8→Nat→List (List UInt8)→List (List UInt8)→List (List UInt8)
 |[],_,_,_,_,out=>out
 |x::xs,k,n,i,bound,out=>ou xs k n (i+1) bound (iH x (if k=8∧i=1 then bound++[n] else bound) out)
noncomputable def rP:List aJ→List (List UInt8)→List (List UInt8)→List (List UInt8)
 |[],_,out=>out
 |x::xs,bound,out=>rP xs bound (BK x bound out)
noncomputable def BK:aJ→List (List UInt8)→List (List UInt8)→List (List UInt8)
 | .mk _ v b,bound,out=>iH b (bound++v) out
end
theorem NY(x:ay)(bound out:List (List UInt8)):iH x bound out=rP x.aL bound (ou x.fArgs x.aH x.fName 0 bound (w9 x.aH x.fName bound out)):=by cases x;rw[iH];rfl
theorem NZ(x:aJ)(bound out:List (List UInt8)):BK x bound out=iH x.fBody (bound++x.aC) out:=by cases x;rw[BK];rfl
theorem Ij{xs:List ay}{k:Int}{n:List UInt8}{i:Nat}{bound out:List (List UInt8)}(hi:i<xs.length):ou (xs.drop i) k n i bound out=ou (xs.drop (i+1)) k n (i+1) bound (iH xs[i] (if k=8∧i=1 then bound++[n] else bound) out):=by
 rw[List.drop_eq_getElem_cons hi,ou]
theorem Ik{xs:List aJ}{i:Nat}{bound out:List (List UInt8)}(hi:i<xs.length):rP (xs.drop i) bound out=rP (xs.drop (i+1)) bound (BK xs[i] bound out):=by
 rw[List.drop_eq_getElem_cons hi,rP]
theorem FM(k:Int)(n:List UInt8)(bound out:List (List UInt8)):(w9 k n bound out).length≤out.length+1:=by
 unfold w9;split<;>simp
mutual
theorem rA:∀(x:ay) (bound out:List (List UInt8)),(iH x bound out).length≤out.length+x.cnt
 | .mk k t n m ty a b,bound,out=>by
   have h1:=FM k n bound out
   have h2:=Km a k n 0 bound (w9 k n bound out)
   have h3:=Kn b bound (ou a k n 0 bound (w9 k n bound out))
   rw[iH,ay.cnt];omega
theorem Km:∀(xs:List ay) (k:Int) (n:List UInt8) (i:Nat) (bound out:List (List UInt8)),(ou xs k n i bound out).length≤out.length+ay.dh xs
 |[],k,n,i,bound,out=>by rw[ou,ay.dh];omega
 |x::xs,k,n,i,bound,out=>by
  have h1:=rA x (if k=8∧i=1 then bound++[n] else bound) out
  have h2:=Km xs k n (i+1) bound (iH x (if k=8∧i=1 then bound++[n] else bound) out)
  rw[ou,ay.dh];omega
theorem Kn:∀(xs:List aJ) (bound out:List (List UInt8)),(rP xs bound out).length≤out.length+aJ.dh xs
 |[],bound,out=>by rw[rP,aJ.dh];omega
 |x::xs,bound,out=>by
  have h1:=VX x bound out
  have h2:=Kn xs bound (BK x bound out)
  rw[rP,aJ.dh];omega
theorem VX:∀(x:aJ) (bound out:List (List UInt8)),(BK x bound out).length≤out.length+x.cnt
 | .mk c v b,bound,out=>by
   have h1:=rA b (bound++v) out
   rw[BK,aJ.cnt];omega
end
theorem ay.q8{x:ay}{i:Nat}(hi:i<x.fArgs.length):x.fArgs[i].sz+x.fArgs.length≤x.sz:=by
 have hx:x.fArgs[i].sz≤bG (x.fArgs.map ay.enc):=eP (List.mem_map_of_mem (List.getElem_mem hi))
 have:=ay.yK x
 omega
theorem ay.VY{x:ay}{i:Nat}(hi:i<x.aL.length):x.aL[i].sz+x.aL.length≤x.sz:=by
 have hx:x.aL[i].sz≤bG (x.aL.map aJ.enc):=eP (List.mem_map_of_mem (List.getElem_mem hi))
 have:=ay.yK x
 omega
theorem aJ.QA(x:aJ):x.aC.length+x.fBody.sz≤x.sz:=by
 simp only[aJ.sz,aJ.aG,ay.sz,bQ,bP,D.sz,List.length_map]
 omega
theorem Ed(xs:List (List UInt8))(s:List UInt8):xs.map encS++[[D.s s]]=(xs++[s]).map encS:=by simp[encS]
end Go.Ab
namespace Go.Proofs.YtlmhknhlmicmeaaGreatDoor
open Go Go.Ab
set_option maxHeartbeats 2000000 in
theorem Dz:∀N:Nat,∀x:ay,SizeOf.sizeOf x<N→x.sz≤4194304→∀(bound out:List (List UInt8)) (l j:Nat) (S:Store),aV S (l,j)=some (.tok 1 (out.map encS))→out.length+x.cnt≤1073741824→bound.length+x.sz≤1073741824→
 bD Tryz.prog 338 [.c (.bI (l,j) (out.map encS)),x.v,.c (.d (.sl (bound.map encS)))] S (fun r S'=>r=.c (.bI (l,j) ((iH x bound out).map encS))∧S'=bf S (l,j) (.tok 1 ((iH x bound out).map encS)))
 |0=>fun x h=>by omega
 |N+1=>by
  have ih:=Dz N
  intro x hn hsz bound out l j S hk hc hbd
  have hb0:=ay.yK x
  have iF:=ay.fF x
  have zl:=ay.mK x
  have hcn:=ay.l9 x
  have G7:∀y:Ab.Obj,aV (bf S (l,j) y) (l,j)=some y:=fun y=>bY _ _ _ _ hk
  have hS0:bf S (l,j) (.tok 1 (out.map encS))=S:=lD _ _ hk
  have fin:=NY x bound out
  have hal:=FM x.aH x.fName bound out
  obtain⟨o1,ho1⟩:∃o1,w9 x.aH x.fName bound out=o1:=⟨_,rfl⟩
  rw[ho1] at fin hal
  refine(show Hold ?T→_ from fun tail=> ?main) ?tp
  case' main=>
   refine aD (rs:=[.tmp 6]) Tryz.checked.mixed Tryz.func338 Tryz.ntmps338 rfl rfl rfl rfl rfl ?_
   simp -implicitDefEqProofs (disch:=omega) only[go_sem,hk]
   repeat' (first
    |(with_reducible refine aA (fun hb=> ?_) (fun hb=> ?_)<;>have h:=hb<;>(try simp only[wf_preprocess] at h)<;>simp -implicitDefEqProofs (disch:=omega) only[go_sem,hb,hk]<;>(repeat(with_reducible refine And.intro ?_ ?_;focus first|omega|rfl|assumption|exact⟨_,rfl,rfl⟩|(simp;omega)|(simp;done))))
    |(refine au (qZ bound x.fName (by omega)) ?_;simp -implicitDefEqProofs (disch:=omega) only[go_sem,hk];(repeat(with_reducible refine And.intro ?_ ?_;focus first|omega|rfl|assumption|exact⟨_,rfl,rfl⟩|(simp;omega)|(simp;done))))
    |(refine au (qZ out x.fName (by omega)) ?_;simp -implicitDefEqProofs (disch:=omega) only[go_sem,hk];(repeat(with_reducible refine And.intro ?_ ?_;focus first|omega|rfl|assumption|exact⟨_,rfl,rfl⟩|(simp;omega)|(simp;done)))))
   all_goals first
    |(have ha:w9 x.aH x.fName bound out=out++[x.fName]:=if_pos ⟨by assumption,by assumption,by assumption⟩)
    |(have ha:w9 x.aH x.fName bound out=out:=if_neg (fun y=>by have:=y.1;have:=y.2.1;have:=y.2.2;contradiction))
   all_goals
    refine kX (st':=[.box (x.enc.map .d)]::bf S (l,j) (.tok 1 (o1.map encS))) [0,2,4,34,35,36] [.c (.bI (1+l,j) (o1.map encS)),.c (.d (.sl (bound.map encS))),.c (.ptr (0,0) 0),.c (.d (.sl (x.fArgs.map ay.enc))),.c (.d (.i .i64 x.fArgs.length)),.c (.d (.i .i64 0))] ?_ ?_ ?_
    ·first|(rw[←ho1,ha];rfl)|(rw[←ho1,ha,←Ed];rfl)
    ·first|(rw[←ho1,ha,hS0];simp -implicitDefEqProofs (disch:=omega) only[go_sem];done)|(rw[←ho1,ha,←Ed];simp -implicitDefEqProofs (disch:=omega) only[go_sem];done)
    ·exact tail.out
  refine⟨?_⟩
  clear ho1
  refine aZ (ι:=Nat×List (List UInt8)) Tryz.checked.mixed rfl [0,2,4,34,35,36] (fun y=>[.c (.bI (1+l,j) (y.2.map encS)),.c (.d (.sl (bound.map encS))),.c (.ptr (0,0) 0),.c (.d (.sl (x.fArgs.map ay.enc))),.c (.d (.i .i64 x.fArgs.length)),.c (.d (.i .i64 y.1))]) (fun y=>[.box (x.enc.map .d)]::bf S (l,j) (.tok 1 (y.2.map encS)))
   (fun y=>y.1≤x.fArgs.length∧y.2.length+ay.dh (x.fArgs.drop y.1)+aJ.dh x.aL≤1073741824∧ou (x.fArgs.drop y.1) x.aH x.fName y.1 bound y.2=ou x.fArgs x.aH x.fName 0 bound o1) (fun y=>x.fArgs.length-y.1) (0,o1) rfl rfl ⟨Nat.zero_le _,by simp only[List.drop_zero];omega,rfl⟩ ?_
  rintro⟨i,o⟩ ⟨p1,p2,p3⟩
  have refs:∀{a b},l8 1 (iP [0,2,4,34,35,36] [.c (.bI (1+l,j) a),.c (.d (.sl (bound.map encS))),.c (.ptr (0,0) 0),.c (.d (.sl (x.fArgs.map ay.enc))),.c (.d (.i .i64 x.fArgs.length)),.c (.d (.i .i64 b))])=true:=fun {a b}=>by simp[l8,iP,V.refs,C.refs,nu];omega
  simp only at p1 p2 p3
  simp -implicitDefEqProofs (disch:=omega) only[go_sem]
  with_reducible refine aA (fun hb=> ?_) (fun hb=> ?_)<;>have h:=hb<;>(try simp only[wf_preprocess] at h)<;>simp -implicitDefEqProofs (disch:=omega) only[go_sem,hb]<;>(repeat(with_reducible refine And.intro ?_ ?_;focus first|omega|rfl|assumption|exact⟨_,rfl,rfl⟩|(simp;omega)|(simp;done)))
  ·have hi:i<x.fArgs.length:=by omega
   have hs:=List.sizeOf_lt_of_mem (List.getElem_mem hi)
   have hz:=ay.q8 hi
   rw[Ij hi] at p3
   rw[ay.jK hi] at p2
   have hlo:=rA x.fArgs[i] (if x.aH=8∧i=1 then bound++[x.fName] else bound) o
   (repeat(with_reducible refine And.intro ?_ ?_;focus first|omega|rfl|assumption|exact⟨_,rfl,rfl⟩|(simp;omega)|(simp;done)))
   have two:x.fArgs[i].sz+(bound.length+1)≤1073741824:=by omega
   repeat' (first|with_reducible refine aA (fun hb=> ?_) (fun hb=> ?_)<;>have h:=hb<;>(try simp only[wf_preprocess] at h)<;>simp -implicitDefEqProofs (disch:=omega) only[go_sem,hb]<;>(repeat(with_reducible refine And.intro ?_ ?_;focus first|omega|rfl|assumption|exact⟨_,rfl,rfl⟩|(simp;omega)|(simp;done))))
   ·
    have e1:x.aH=8∧i=1:=⟨by omega,by omega⟩
    rw[if_pos e1] at p3 hlo
    refine Um rfl DS.push (VT bound (by omega) _ _) ?_
    simp -implicitDefEqProofs (disch:=omega) only[go_sem]
    (repeat(with_reducible refine And.intro ?_ ?_;focus first|omega|rfl|assumption|exact⟨_,rfl,rfl⟩|(simp;omega)|(simp;done)))
    rw[Ed]
    refine r9 [true,true,false] rfl (ih x.fArgs[i] (by omega) (by omega) (bound++[x.fName]) o (1+l) j _ (by simp -implicitDefEqProofs (disch:=omega) only[go_sem];exact G7 _) (by omega) (by simp only[List.length_append,List.length_cons,List.length_nil];omega)) ?_
    simp -implicitDefEqProofs (disch:=omega) only[go_sem,bF]
    exact dO 1 (by decide) (i+1,iH x.fArgs[i] (bound++[x.fName]) o) (by simp only;omega) rfl rfl refs rfl ⟨by simp only;omega,by simp only;omega,p3⟩
   all_goals
    have e1:¬(x.aH=8∧i=1):=fun h=>by omega
    rw[if_neg e1] at p3 hlo
    refine bA rfl (ih x.fArgs[i] (by omega) (by omega) bound o (1+l) j _ (by simp -implicitDefEqProofs (disch:=omega) only[go_sem];exact G7 _) (by omega) (by omega)) ?_
    simp -implicitDefEqProofs (disch:=omega) only[go_sem,bF]
    exact dO 1 (by decide) (i+1,iH x.fArgs[i] bound o) (by simp only;omega) rfl rfl refs rfl ⟨by simp only;omega,by simp only;omega,p3⟩
  have hi:i=x.fArgs.length:=by omega
  rw[hi,List.drop_length] at p2 p3
  rw[ay.dh] at p2
  rw[ou] at p3
  rw[←p3] at fin
  clear p3 refs
  refine aZ (ι:=Nat×List (List UInt8)) Tryz.checked.mixed rfl [0,2,63,64,65] (fun y=>[.c (.bI (1+l,j) (y.2.map encS)),.c (.d (.sl (bound.map encS))),.c (.d (.sl (x.aL.map aJ.enc))),.c (.d (.i .i64 x.aL.length)),.c (.d (.i .i64 y.1))]) (fun y=>[.box (x.enc.map .d)]::bf S (l,j) (.tok 1 (y.2.map encS)))
   (fun y=>y.1≤x.aL.length∧y.2.length+aJ.dh (x.aL.drop y.1)≤1073741824∧rP (x.aL.drop y.1) bound y.2=iH x bound out) (fun y=>x.aL.length-y.1) (0,o) rfl ?_ ⟨Nat.zero_le _,by simp only[List.drop_zero];omega,fin.symm⟩ ?_
  ·simp -implicitDefEqProofs (disch:=omega) only[go_sem]
  clear p1 p2 fin hal
  rintro⟨i,o⟩ ⟨p1,p2,p3⟩
  have refs:∀a b,l8 1 (iP [0,2,63,64,65] [.c (.bI (1+l,j) a),.c (.d (.sl (bound.map encS))),.c (.d (.sl (x.aL.map aJ.enc))),.c (.d (.i .i64 x.aL.length)),.c (.d (.i .i64 b))])=true:=fun a b=>by simp[l8,iP,V.refs,C.refs,nu];omega
  simp only at p1 p2 p3
  simp -implicitDefEqProofs (disch:=omega) only[go_sem]
  with_reducible refine aA (fun hb=> ?_) (fun hb=> ?_)<;>have h:=hb<;>(try simp only[wf_preprocess] at h)<;>simp -implicitDefEqProofs (disch:=omega) only[go_sem,hb]<;>(repeat(with_reducible refine And.intro ?_ ?_;focus first|omega|rfl|assumption|exact⟨_,rfl,rfl⟩|(simp;omega)|(simp;done)))
  ·have hi:i<x.aL.length:=by omega
   have hs:=List.sizeOf_lt_of_mem (List.getElem_mem hi)
   have hs':=aJ.lU x.aL[i]
   have hz:=ay.VY hi
   have hz':=aJ.QA x.aL[i]
   rw[Ik hi,NZ] at p3
   rw[aJ.jK hi] at p2
   have hlo:=rA x.aL[i].fBody (bound++x.aL[i].aC) o
   have hcc:=Te [bound,x.aL[i].aC] (by simp) (by simp only[List.flatten_cons,List.flatten_nil,List.append_nil,List.length_append];omega)
   simp only[List.map_cons,List.map_nil,List.flatten_cons,List.flatten_nil,List.append_nil] at hcc
   (repeat(with_reducible refine And.intro ?_ ?_;focus first|omega|rfl|assumption|exact⟨_,rfl,rfl⟩|(simp;omega)|(simp;done)))
   refine au hcc ?_
   simp -implicitDefEqProofs (disch:=omega) only[go_sem]
   refine bA rfl (ih x.aL[i].fBody (by omega) (by omega) (bound++x.aL[i].aC) o (1+l) j _ (by simp -implicitDefEqProofs (disch:=omega) only[go_sem];exact G7 _) (by omega) (by simp only[List.length_append];omega)) ?_
   simp -implicitDefEqProofs (disch:=omega) only[go_sem,bF]
   exact dO 1 (by decide) (i+1,iH x.aL[i].fBody (bound++x.aL[i].aC) o) (by simp only;omega) rfl rfl (refs _ _) rfl ⟨by simp only;omega,by simp only;omega,p3⟩
  ·have hi:i=x.aL.length:=by omega
   rw[hi,List.drop_length,rP] at p3
   rw[←p3]
   exact⟨rfl,rfl⟩
theorem Il(x:ay)(hsz:x.sz≤4194304):aI Tryz.prog 296 [x.v] (.c (.d (.sl ((iH x [] []).map encS)))):=fun S=>by
 have hc:=ay.ji x
 have h0:∀S,bD Tryz.prog 338 [.c (.aM []),x.v,.c (.d (.sl []))] S (fun r S'=>r=.c (.d (.sl ((iH x [] []).map encS)))∧S'=S):=fun S=>by
  refine bD.XP 0 (es:=[]) (aR:=1) rfl (by simp) (Dz _ x (Nat.lt_succ_self _) hsz [] [] 0 0 ([.tok 1 []]::S) rfl (by simp;omega) (by simp;omega)) ?_
  rintro r fr S' ⟨rfl,h2⟩
  injection h2 with h2 h3
  exact⟨_,rfl,rfl,h3⟩
 refine aD (rs:=[.tmp 2]) Tryz.checked.mixed Tryz.func296 Tryz.ntmps296 rfl rfl rfl rfl rfl ?_
 simp -implicitDefEqProofs (disch:=omega) only[go_sem]
 (repeat(with_reducible refine And.intro ?_ ?_;focus first|omega|rfl|assumption|exact⟨_,rfl,rfl⟩|(simp;omega)|(simp;done)))
 refine r9 [true,true,false] rfl (h0 _) ?_
 simp -implicitDefEqProofs (disch:=omega) only[go_sem]
set_option maxHeartbeats 2000000 in
theorem DC:∀N:Nat,∀x:ay,SizeOf.sizeOf x<N→x.sz≤4194304→∀(bound out:List (List UInt8)) (l j:Nat) (S:Store),aV S (l,j)=some (.tok 1 (out.map encS))→out.length+x.cnt≤1073741824→bound.length+x.sz≤1073741824→
 bD Tryz.prog 343 [x.v,.c (.d (.sl (bound.map encS))),.c (.bI (l,j) (out.map encS))] S (fun r S'=>r=.c (.bI (l,j) ((iH x bound out).map encS))∧S'=bf S (l,j) (.tok 1 ((iH x bound out).map encS)))
 |0=>fun x h=>by omega
 |N+1=>by
  have ih:=DC N
  intro x hn hsz bound out l j S hk hc hbd
  have hb0:=ay.yK x
  have iF:=ay.fF x
  have zl:=ay.mK x
  have hcn:=ay.l9 x
  have G7:∀y:Ab.Obj,aV (bf S (l,j) y) (l,j)=some y:=fun y=>bY _ _ _ _ hk
  have hS0:bf S (l,j) (.tok 1 (out.map encS))=S:=lD _ _ hk
  have fin:=NY x bound out
  have hal:=FM x.aH x.fName bound out
  obtain⟨o1,ho1⟩:∃o1,w9 x.aH x.fName bound out=o1:=⟨_,rfl⟩
  rw[ho1] at fin hal
  refine(show Hold ?T→_ from fun tail=> ?main) ?tp
  case' main=>
   refine aD (rs:=[.tmp 6]) Tryz.checked.mixed Tryz.func343 Tryz.ntmps343 rfl rfl rfl rfl rfl ?_
   simp -implicitDefEqProofs (disch:=omega) only[go_sem,hk]
   repeat' (first
    |(with_reducible refine aA (fun hb=> ?_) (fun hb=> ?_)<;>have h:=hb<;>(try simp only[wf_preprocess] at h)<;>simp -implicitDefEqProofs (disch:=omega) only[go_sem,hb,hk]<;>(repeat(with_reducible refine And.intro ?_ ?_;focus first|omega|rfl|assumption|exact⟨_,rfl,rfl⟩|(simp;omega)|(simp;done))))
    |(refine au (qY bound x.fName (by omega)) ?_;simp -implicitDefEqProofs (disch:=omega) only[go_sem,hk];(repeat(with_reducible refine And.intro ?_ ?_;focus first|omega|rfl|assumption|exact⟨_,rfl,rfl⟩|(simp;omega)|(simp;done))))
    |(refine au (qY out x.fName (by omega)) ?_;simp -implicitDefEqProofs (disch:=omega) only[go_sem,hk];(repeat(with_reducible refine And.intro ?_ ?_;focus first|omega|rfl|assumption|exact⟨_,rfl,rfl⟩|(simp;omega)|(simp;done)))))
   all_goals first
    |(have ha:w9 x.aH x.fName bound out=out++[x.fName]:=if_pos ⟨by assumption,by assumption,by assumption⟩)
    |(have ha:w9 x.aH x.fName bound out=out:=if_neg (fun y=>by have:=y.1;have:=y.2.1;have:=y.2.2;contradiction))
   all_goals
    refine kX (st':=[.box (x.enc.map .d)]::bf S (l,j) (.tok 1 (o1.map encS))) [1,2,3,7] [.c (.d (.sl (bound.map encS))),.c (.bI (1+l,j) (o1.map encS)),.c (.ptr (0,0) 0),.c (.d (.i .i64 0))] ?_ ?_ ?_
    ·first|(rw[←ho1,ha];rfl)|(rw[←ho1,ha,←Ed];rfl)
    ·first|(rw[←ho1,ha,hS0];simp -implicitDefEqProofs (disch:=omega) only[go_sem];done)|(rw[←ho1,ha,←Ed];simp -implicitDefEqProofs (disch:=omega) only[go_sem];done)
    ·exact tail.out
  refine⟨?_⟩
  clear ho1
  refine aZ (ι:=Nat×List (List UInt8)) Tryz.checked.mixed rfl [1,2,3,7] (fun y=>[.c (.d (.sl (bound.map encS))),.c (.bI (1+l,j) (y.2.map encS)),.c (.ptr (0,0) 0),.c (.d (.i .i64 y.1))]) (fun y=>[.box (x.enc.map .d)]::bf S (l,j) (.tok 1 (y.2.map encS)))
   (fun y=>y.1≤x.fArgs.length∧y.2.length+ay.dh (x.fArgs.drop y.1)+aJ.dh x.aL≤1073741824∧ou (x.fArgs.drop y.1) x.aH x.fName y.1 bound y.2=ou x.fArgs x.aH x.fName 0 bound o1) (fun y=>x.fArgs.length-y.1) (0,o1) rfl rfl ⟨Nat.zero_le _,by simp only[List.drop_zero];omega,rfl⟩ ?_
  rintro⟨i,o⟩ ⟨p1,p2,p3⟩
  have refs:∀{a b},l8 1 (iP [1,2,3,7] [.c (.d (.sl (bound.map encS))),.c (.bI (1+l,j) a),.c (.ptr (0,0) 0),.c (.d (.i .i64 b))])=true:=fun {a b}=>by simp[l8,iP,V.refs,C.refs,nu];omega
  simp only at p1 p2 p3
  simp -implicitDefEqProofs (disch:=omega) only[go_sem]
  with_reducible refine aA (fun hb=> ?_) (fun hb=> ?_)<;>have h:=hb<;>(try simp only[wf_preprocess] at h)<;>simp -implicitDefEqProofs (disch:=omega) only[go_sem,hb]<;>(repeat(with_reducible refine And.intro ?_ ?_;focus first|omega|rfl|assumption|exact⟨_,rfl,rfl⟩|(simp;omega)|(simp;done)))
  ·have hi:i<x.fArgs.length:=by omega
   have hs:=List.sizeOf_lt_of_mem (List.getElem_mem hi)
   have hz:=ay.q8 hi
   rw[Ij hi] at p3
   rw[ay.jK hi] at p2
   have hlo:=rA x.fArgs[i] (if x.aH=8∧i=1 then bound++[x.fName] else bound) o
   have two:x.fArgs[i].sz+(bound.length+1)≤1073741824:=by omega
   repeat' (first|with_reducible refine aA (fun hb=> ?_) (fun hb=> ?_)<;>have h:=hb<;>(try simp only[wf_preprocess] at h)<;>simp -implicitDefEqProofs (disch:=omega) only[go_sem,hb]<;>(repeat(with_reducible refine And.intro ?_ ?_;focus first|omega|rfl|assumption|exact⟨_,rfl,rfl⟩|(simp;omega)|(simp;done))))
   ·have e1:x.aH=8∧i=1:=⟨by omega,by omega⟩
    rw[if_pos e1] at p3 hlo
    refine⟨yS,⟨_,rfl,rfl⟩,fun y hy=>(by cases hy),by omega,?_⟩
    (repeat(with_reducible refine And.intro ?_ ?_;focus first|omega|rfl|assumption|exact⟨_,rfl,rfl⟩|(simp;omega)|(simp;done)))
    rw[Ed]
    refine r9 [true,false,true] rfl (ih x.fArgs[i] (by omega) (by omega) (bound++[x.fName]) o (1+l) j _ (by simp -implicitDefEqProofs (disch:=omega) only[go_sem];exact G7 _) (by omega) (by simp only[List.length_append,List.length_cons,List.length_nil];omega)) ?_
    simp -implicitDefEqProofs (disch:=omega) only[go_sem,bF]
    exact dO 1 (by decide) (i+1,iH x.fArgs[i] (bound++[x.fName]) o) (by simp only;omega) rfl rfl refs rfl ⟨by simp only;omega,by simp only;omega,p3⟩
   all_goals
    have e1:¬(x.aH=8∧i=1):=fun h=>by omega
    rw[if_neg e1] at p3 hlo
    (repeat(with_reducible refine And.intro ?_ ?_;focus first|omega|rfl|assumption|exact⟨_,rfl,rfl⟩|(simp;omega)|(simp;done)))
    refine bA rfl (ih x.fArgs[i] (by omega) (by omega) bound o (1+l) j _ (by simp -implicitDefEqProofs (disch:=omega) only[go_sem];exact G7 _) (by omega) (by omega)) ?_
    simp -implicitDefEqProofs (disch:=omega) only[go_sem,bF]
    exact dO 1 (by decide) (i+1,iH x.fArgs[i] bound o) (by simp only;omega) rfl rfl refs rfl ⟨by simp only;omega,by simp only;omega,p3⟩
  have hi:i=x.fArgs.length:=by omega
  rw[hi,List.drop_length] at p2 p3
  rw[ay.dh] at p2
  rw[ou] at p3
  rw[←p3] at fin
  clear p3 refs
  refine aZ (ι:=Nat×List (List UInt8)) Tryz.checked.mixed rfl [1,2,3,9] (fun y=>[.c (.d (.sl (bound.map encS))),.c (.bI (1+l,j) (y.2.map encS)),.c (.ptr (0,0) 0),.c (.d (.i .i64 y.1))]) (fun y=>[.box (x.enc.map .d)]::bf S (l,j) (.tok 1 (y.2.map encS)))
   (fun y=>y.1≤x.aL.length∧y.2.length+aJ.dh (x.aL.drop y.1)≤1073741824∧rP (x.aL.drop y.1) bound y.2=iH x bound out) (fun y=>x.aL.length-y.1) (0,o) rfl ?_ ⟨Nat.zero_le _,by simp only[List.drop_zero];omega,fin.symm⟩ ?_
  ·simp -implicitDefEqProofs (disch:=omega) only[go_sem]
  clear p1 p2 fin hal
  rintro⟨i,o⟩ ⟨p1,p2,p3⟩
  have refs:∀a b,l8 1 (iP [1,2,3,9] [.c (.d (.sl (bound.map encS))),.c (.bI (1+l,j) a),.c (.ptr (0,0) 0),.c (.d (.i .i64 b))])=true:=fun a b=>by simp[l8,iP,V.refs,C.refs,nu];omega
  simp only at p1 p2 p3
  simp -implicitDefEqProofs (disch:=omega) only[go_sem]
  with_reducible refine aA (fun hb=> ?_) (fun hb=> ?_)<;>have h:=hb<;>(try simp only[wf_preprocess] at h)<;>simp -implicitDefEqProofs (disch:=omega) only[go_sem,hb]<;>(repeat(with_reducible refine And.intro ?_ ?_;focus first|omega|rfl|assumption|exact⟨_,rfl,rfl⟩|(simp;omega)|(simp;done)))
  ·have hi:i<x.aL.length:=by omega
   have hs:=List.sizeOf_lt_of_mem (List.getElem_mem hi)
   have hs':=aJ.lU x.aL[i]
   have hz:=ay.VY hi
   have hz':=aJ.QA x.aL[i]
   rw[Ik hi,NZ] at p3
   rw[aJ.jK hi] at p2
   have hlo:=rA x.aL[i].fBody (bound++x.aL[i].aC) o
   refine⟨yS,⟨_,rfl,rfl⟩,fun y hy=>(by cases hy),by omega,⟨by omega,hi⟩,yS,⟨_,rfl,rfl⟩,by omega,?_⟩
   rw[←List.map_append]
   refine r9 [true,false,true] rfl (ih x.aL[i].fBody (by omega) (by omega) (bound++x.aL[i].aC) o (1+l) j _ (by simp -implicitDefEqProofs (disch:=omega) only[go_sem];exact G7 _) (by omega) (by simp only[List.length_append];omega)) ?_
   simp -implicitDefEqProofs (disch:=omega) only[go_sem,bF]
   exact dO 1 (by decide) (i+1,iH x.aL[i].fBody (bound++x.aL[i].aC) o) (by simp only;omega) rfl rfl (refs _ _) rfl ⟨by simp only;omega,by simp only;omega,p3⟩
  ·have hi:i=x.aL.length:=by omega
   rw[hi,List.drop_length,rP] at p3
   rw[←p3]
   exact⟨rfl,rfl⟩
theorem Im(x:ay)(hsz:x.sz≤4194304):aI Tryz.prog 311 [x.v] (.c (.d (.sl ((iH x [] []).map encS)))):=fun S=>by
 have hc:=ay.ji x
 have h0:∀S,bD Tryz.prog 343 [x.v,.c (.d (.sl [])),.c (.aM [])] S (fun r S'=>r=.c (.d (.sl ((iH x [] []).map encS)))∧S'=S):=fun S=>by
  refine bD.XP 2 (es:=[]) (aR:=1) rfl (by simp) (DC _ x (Nat.lt_succ_self _) hsz [] [] 0 0 ([.tok 1 []]::S) rfl (by simp;omega) (by simp;omega)) ?_
  rintro r fr S' ⟨rfl,h2⟩
  injection h2 with h2 h3
  exact⟨_,rfl,rfl,h3⟩
 refine aD (rs:=[.tmp 2]) Tryz.checked.mixed Tryz.func311 Tryz.ntmps311 rfl rfl rfl rfl rfl ?_
 simp -implicitDefEqProofs (disch:=omega) only[go_sem]
 (repeat(with_reducible refine And.intro ?_ ?_;focus first|omega|rfl|assumption|exact⟨_,rfl,rfl⟩|(simp;omega)|(simp;done)))
 refine r9 [true,false,true] rfl (h0 _) ?_
 simp -implicitDefEqProofs (disch:=omega) only[go_sem]
end Go.Proofs.YtlmhknhlmicmeaaGreatDoor
namespace Go.Proofs.YtlmhknhlmicmeaaGreatDoor
open Go Go.Ab
end Go.Proofs.YtlmhknhlmicmeaaGreatDoor
namespace Go.Ab
theorem ay.YE{x:ay}(h:x.sz≤4194304):x.aW.length≤4194304∧x.fName.length≤4194304∧x.fType.sz≤4194304∧x.fArgs.length≤4194304∧x.aL.length≤4194304:=by
 simp only[ay.sz,ay.aG,bQ,bP,D.sz,List.length_map,aj.dP] at h
 omega
theorem aJ.YE{x:aJ}(h:x.sz≤4194304):x.bR.length≤4194304∧x.aC.length≤4194304∧x.fBody.sz≤4194304:=by
 simp only[aJ.sz,aJ.aG,bQ,bP,D.sz,List.length_map,ay.dP] at h
 omega
end Go.Ab
namespace Go.Proofs.YtlmhknhlmicmeaaGreatDoor
open Go Go.Ab
end Go.Proofs.YtlmhknhlmicmeaaGreatDoor
namespace Go.Proofs.YtlmhknhlmicmeaaGreatDoor
open Go Go.Ab
theorem Ay:∀n:Nat,∀t:aj,SizeOf.sizeOf t<n→t.sz≤4194304→∀v:List UInt8,aI Tryz.prog 310 [t.v,.c (.d (.s v))] (.c (.d (.i .i64 (mR v t))))
 |0=>fun t h=>by omega
 |n+1=>by
  have ih:=Ay n
  intro t hn hsz v S
  have iF:=aj.fF t
  have hts:=CV hsz
  have hcl:=Vn v t
  have hcn:=ji t
  have he:=Vm v t
  refine aD (rs:=[.tmp 4]) Tryz.checked.mixed Tryz.func310 Tryz.ntmps310 rfl rfl rfl rfl rfl ?_
  simp -implicitDefEqProofs (disch:=omega) only[go_sem]
  repeat' (first|(with_reducible refine aA (fun hb=> ?_) (fun hb=> ?_)<;>have h:=hb<;>(try simp only[wf_preprocess] at h)<;>simp -implicitDefEqProofs (disch:=omega) only[go_sem,hb]<;>(repeat(with_reducible refine And.intro ?_ ?_;focus first|omega|rfl|assumption|exact⟨_,rfl,rfl⟩|(simp;omega)|(simp;done)))))
  all_goals first
   |(have hc:mR v t=1+rJ v t.fArgs:=by rw[he,if_pos (by simp only[G5,decide_eq_true_eq];exact⟨by assumption,by assumption⟩)])
   |(have hc:mR v t=0+rJ v t.fArgs:=by rw[he,if_neg (by simp only[G5,decide_eq_true_eq];exact fun x=>by have:=x.1;have:=x.2;contradiction)])
  all_goals
   refine aZ (ι:=Nat×Nat) Tryz.checked.mixed rfl [1,2,5,6] (fun y=>[.c (.d (.s v)),.c (.ptr (0,0) 0),.c (.d (.i .i64 y.2)),.c (.d (.i .i64 y.1))]) (fun _=>[.box [.d (.i .i64 t.aH),.d (.s t.fName),.d (.sl (t.fArgs.map aj.enc))]]::S)
    (fun y=>y.1≤t.fArgs.length∧mR v t=y.2+rJ v (t.fArgs.drop y.1)) (fun y=>t.fArgs.length-y.1) (0,_) rfl rfl ⟨Nat.zero_le _,hc⟩ ?_
   rintro⟨i,c⟩ ⟨p1,p2⟩
   simp only at p1 p2
   simp -implicitDefEqProofs (disch:=omega) only[go_sem]
   with_reducible refine aA (fun hb=> ?_) (fun hb=> ?_)<;>have h:=hb<;>(try simp only[wf_preprocess] at h)<;>simp -implicitDefEqProofs (disch:=omega) only[go_sem,hb]<;>(repeat(with_reducible refine And.intro ?_ ?_;focus first|omega|rfl|assumption|exact⟨_,rfl,rfl⟩|(simp;omega)|(simp;done)))
   ·have hi:i<t.fArgs.length:=by omega
    rw[Nl hi] at p2
    (repeat(with_reducible refine And.intro ?_ ?_;focus first|omega|rfl|assumption|exact⟨_,rfl,rfl⟩|(simp;omega)|(simp;done)))
    refine au (ih t.fArgs[i] (by have:=List.sizeOf_lt_of_mem (List.getElem_mem hi);omega) (xQ hi hsz).1 v) ?_
    simp -implicitDefEqProofs (disch:=omega) only[go_sem]<;>(repeat(with_reducible refine And.intro ?_ ?_;focus first|omega|rfl|assumption|exact⟨_,rfl,rfl⟩|(simp;omega)|(simp;done)))
    rw[show(c:Int)+(mR v t.fArgs[i]:Int)=((c+mR v t.fArgs[i]:Nat):Int) by omega]
    exact bL (i+1,c+mR v t.fArgs[i]) (by simp only;omega) rfl rfl ⟨by simp only;omega,by simp only;omega⟩
   ·have hi:i=t.fArgs.length:=by omega
    rw[hi,List.drop_length] at p2
    have h0:rJ v []=0:=rfl
    exact int_eq (by omega)
theorem KR(v:List UInt8)(t:aj)(hsz:t.sz≤4194304):aI Tryz.prog 253 [.c (.d (.s v)),t.v] (.c (.d (.b (occurs v t)))):=fun S=>by
 refine aD (rs:=[.tmp 4]) Tryz.checked.mixed Tryz.func253 Tryz.ntmps253 rfl rfl rfl rfl rfl ?_
 simp -implicitDefEqProofs (disch:=omega) only[go_sem]
 refine au (Ay _ t (Nat.lt_succ_self _) hsz v) ?_
 simp -implicitDefEqProofs (disch:=omega) only[go_sem]<;>(repeat(with_reducible refine And.intro ?_ ?_;focus first|omega|rfl|assumption|exact⟨_,rfl,rfl⟩|(simp;omega)|(simp;done)))
 exact aK (by unfold occurs;rw[Bool.eq_iff_iff];simp only[decide_eq_true_eq];omega)
end Go.Proofs.YtlmhknhlmicmeaaGreatDoor
namespace Go.Ab
noncomputable def Az(vars:List (List UInt8))(e:ay):Bool:=nR e&&among (iH e [] []) vars
noncomputable def nU(vars:List (List UInt8))(e:ay):Bool:=jd vars&&Az vars e
noncomputable def kr(vars:List (List UInt8))(b:aO):Bool:=(validName b.aW&&kC b.fType)&&(!nC b.fType&&among (gH [] b.fType) vars)
noncomputable def mW(vars:List (List UInt8))(bs:List aO):Bool:=dec (bs.length≤4)&&bs.all (kr vars)
theorem qm{xs:List aO}{t:aO}(h:t∈xs):t.sz≤bG (xs.map aO.enc):=eP (List.mem_map_of_mem h)
theorem bU.sum(x:bU):x.fName.length+(x.gM.length+bG (x.gM.map aj.enc))+x.fG.sz+(x.aC.length+bG (x.aC.map encS))+x.fBody.sz≤x.sz:=by
 simp only[bU.sz,bU.aG,bQ,bP,D.sz,List.length_map,aj.dP,ay.dP]
 omega
theorem aO.sum(x:aO):x.aW.length+x.fType.sz≤x.sz:=by
 simp only[aO.sz,aO.aG,bQ,bP,D.sz,List.length_map,aj.dP]
 omega
theorem N7(e:ay)(h:e.sz≤4194304):(iH e [] []).length≤1073741824:=by
 have h1:=rA e [] []
 have h2:=ay.ji e
 simp at h1
 omega
theorem Io(t:aj)(h:t.sz≤4194304):(gH [] t).length≤1073741824:=by
 have h1:=wK t []
 have h2:=_root_.Go.Ab.ji t
 simp at h1
 omega
theorem EY(vars:List (List UInt8))(t:aj):iM vars t=(kC t&&among (gH [] t) vars):=rfl
end Go.Ab
namespace Go.Proofs.YtlmhknhlmicmeaaGreatDoor
open Go Go.Ab
theorem VZ(vars:List (List UInt8))(e:ay)(hv:vars.length≤1073741824)(hs:∀s∈vars,s.length≤4194304)(hsz:e.sz≤4194304):aI Tryz.prog 227 [.c (.d (.sl (vars.map encS))),e.v] (.c (.d (.b (nU vars e)))):=fun S=>by
 refine aD (rs:=[.tmp 4]) Tryz.checked.mixed Tryz.func227 Tryz.ntmps227 rfl rfl rfl rfl rfl ?_
 simp -implicitDefEqProofs (disch:=omega) only[go_sem]
 refine au (vW vars hv hs) ?_
 simp -implicitDefEqProofs (disch:=omega) only[go_sem]<;>(repeat(with_reducible refine And.intro ?_ ?_;focus first|omega|rfl|assumption|exact⟨_,rfl,rfl⟩|(simp;omega)|(simp;done)))
 with_reducible refine aA (fun hb=> ?_) (fun hb=> ?_)<;>have h:=hb<;>(try simp only[wf_preprocess] at h)<;>simp -implicitDefEqProofs (disch:=omega) only[go_sem,hb]<;>(repeat(with_reducible refine And.intro ?_ ?_;focus first|omega|rfl|assumption|exact⟨_,rfl,rfl⟩|(simp;omega)|(simp;done)))
 ·have h1:=h
  refine au (FK e hsz) ?_
  simp -implicitDefEqProofs (disch:=omega) only[go_sem]<;>(repeat(with_reducible refine And.intro ?_ ?_;focus first|omega|rfl|assumption|exact⟨_,rfl,rfl⟩|(simp;omega)|(simp;done)))
  with_reducible refine aA (fun hb=> ?_) (fun hb=> ?_)<;>have h:=hb<;>(try simp only[wf_preprocess] at h)<;>simp -implicitDefEqProofs (disch:=omega) only[go_sem,hb]<;>(repeat(with_reducible refine And.intro ?_ ?_;focus first|omega|rfl|assumption|exact⟨_,rfl,rfl⟩|(simp;omega)|(simp;done)))
  ·have h2:=h
   refine au (Il e hsz) ?_
   simp -implicitDefEqProofs (disch:=omega) only[go_sem]<;>(repeat(with_reducible refine And.intro ?_ ?_;focus first|omega|rfl|assumption|exact⟨_,rfl,rfl⟩|(simp;omega)|(simp;done)))
   refine au (vX _ vars (N7 e hsz) hv) ?_
   simp -implicitDefEqProofs (disch:=omega) only[go_sem]<;>(repeat(with_reducible refine And.intro ?_ ?_;focus first|omega|rfl|assumption|exact⟨_,rfl,rfl⟩|(simp;omega)|(simp;done)))
   exact aK (by unfold nU Az;rw[h1,h2];rfl)
  ·exact aK (by unfold nU Az;rw[h];simp)
 ·exact aK (by unfold nU;rw[h];rfl)
theorem Tw(vars:List (List UInt8))(e:ay)(hv:vars.length≤1073741824)(hsz:e.sz≤4194304):aI Tryz.prog 255 [e.v,.c (.d (.sl (vars.map encS)))] (.c (.d (.b (Az vars e)))):=fun S=>by
 have hlen:=N7 e hsz
 refine aD (rs:=[.tmp 4]) Tryz.checked.mixed Tryz.func255 Tryz.ntmps255 rfl rfl rfl rfl rfl ?_
 simp -implicitDefEqProofs (disch:=omega) only[go_sem]
 refine au (Im e hsz) ?_
 simp -implicitDefEqProofs (disch:=omega) only[go_sem]<;>(repeat(with_reducible refine And.intro ?_ ?_;focus first|omega|rfl|assumption|exact⟨_,rfl,rfl⟩|(simp;omega)|(simp;done)))
 unfold Az
 generalize iH e [] []=xs at hlen ⊢
 refine aZ (ι:=Nat) Tryz.checked.mixed rfl [1,2,5,6] (fun i=>[.c (.d (.sl (vars.map encS))),.c (.ptr (0,0) 0),.c (.d (.sl (xs.map encS))),.c (.d (.i .i64 i))]) (fun _=>[.box (e.enc.map .d)]::S)
  (fun i=>i≤xs.length∧among (xs.drop i) vars=among xs vars) (fun i=>xs.length-i) 0 rfl ?_ ⟨Nat.zero_le _,rfl⟩ ?_
 ·simp -implicitDefEqProofs (disch:=omega) only[go_sem]
 rintro i ⟨p1,p2⟩
 simp -implicitDefEqProofs (disch:=omega) only[go_sem,encS]
 with_reducible refine aA (fun hb=> ?_) (fun hb=> ?_)<;>have h:=hb<;>(try simp only[wf_preprocess] at h)<;>simp -implicitDefEqProofs (disch:=omega) only[go_sem,hb,encS]<;>(repeat(with_reducible refine And.intro ?_ ?_;focus first|omega|rfl|assumption|exact⟨_,rfl,rfl⟩|(simp;omega)|(simp;done)))
 ·have hi:i<xs.length:=by omega
  rw[List.drop_eq_getElem_cons hi] at p2
  have p3:among xs vars=(dec (xs[i]∈vars)&&among (xs.drop (i+1)) vars):=p2.symm
  (repeat(with_reducible refine And.intro ?_ ?_;focus first|omega|rfl|assumption|exact⟨_,rfl,rfl⟩|(simp;omega)|(simp;done)))
  refine au (qY vars xs[i] hv) ?_
  simp -implicitDefEqProofs (disch:=omega) only[go_sem]<;>(repeat(with_reducible refine And.intro ?_ ?_;focus first|omega|rfl|assumption|exact⟨_,rfl,rfl⟩|(simp;omega)|(simp;done)))
  with_reducible refine aA (fun hb=> ?_) (fun hb=> ?_)<;>have h:=hb<;>(try simp only[wf_preprocess] at h)<;>simp -implicitDefEqProofs (disch:=omega) only[go_sem,hb]<;>(repeat(with_reducible refine And.intro ?_ ?_;focus first|omega|rfl|assumption|exact⟨_,rfl,rfl⟩|(simp;omega)|(simp;done)))
  ·exact aK (by rw[p3,aQ h];simp)
  ·exact bL (i+1) (by omega) rfl rfl ⟨by omega,by rw[p3,bK h];rfl⟩
 ·rw[List.drop_of_length_le (by omega)] at p2
  have p3:among xs vars=true:=p2.symm
  (repeat(with_reducible refine And.intro ?_ ?_;focus first|omega|rfl|assumption|exact⟨_,rfl,rfl⟩|(simp;omega)|(simp;done)))
  refine au (FL e hsz) ?_
  simp -implicitDefEqProofs (disch:=omega) only[go_sem]<;>(repeat(with_reducible refine And.intro ?_ ?_;focus first|omega|rfl|assumption|exact⟨_,rfl,rfl⟩|(simp;omega)|(simp;done)))
  exact aK (by rw[p3];simp)
theorem Ip(vars:List (List UInt8))(hv:vars.length≤1073741824)(rest:List Ab.Obj)(S:Store)(b:aO)(hb:b.sz≤4194304):mY Tryz.prog 291 [((0,0),0)] ((.box [.d (.sl (vars.map encS))]::rest)::S) [b.v] (.c (.d (.b (!kr vars b)))):=fun F=>by
 have hs:=aO.sum b
 refine aD (rs:=[.tmp 3]) Tryz.checked.mixed Tryz.func291 Tryz.ntmps291 rfl rfl rfl rfl rfl ?_
 simp -implicitDefEqProofs (disch:=omega) only[go_sem]
 refine au (Ej b (by omega) (by omega)) ?_
 simp -implicitDefEqProofs (disch:=omega) only[go_sem]<;>(repeat(with_reducible refine And.intro ?_ ?_;focus first|omega|rfl|assumption|exact⟨_,rfl,rfl⟩|(simp;omega)|(simp;done)))
 with_reducible refine aA (fun hb=> ?_) (fun hb=> ?_)<;>have h:=hb<;>(try simp only[wf_preprocess] at h)<;>simp -implicitDefEqProofs (disch:=omega) only[go_sem,hb]<;>(repeat(with_reducible refine And.intro ?_ ?_;focus first|omega|rfl|assumption|exact⟨_,rfl,rfl⟩|(simp;omega)|(simp;done)))
 ·exact aK (by unfold kr;rw[h];rfl)
 have h1:=h
 (repeat(with_reducible refine And.intro ?_ ?_;focus first|omega|rfl|assumption|exact⟨_,rfl,rfl⟩|(simp;omega)|(simp;done)))
 refine au (Ak b.fType (by omega)) ?_
 simp -implicitDefEqProofs (disch:=omega) only[go_sem]<;>(repeat(with_reducible refine And.intro ?_ ?_;focus first|omega|rfl|assumption|exact⟨_,rfl,rfl⟩|(simp;omega)|(simp;done)))
 with_reducible refine aA (fun hb=> ?_) (fun hb=> ?_)<;>have h:=hb<;>(try simp only[wf_preprocess] at h)<;>simp -implicitDefEqProofs (disch:=omega) only[go_sem,hb]<;>(repeat(with_reducible refine And.intro ?_ ?_;focus first|omega|rfl|assumption|exact⟨_,rfl,rfl⟩|(simp;omega)|(simp;done)))
 ·exact aK (by unfold kr;rw[h];simp)
 have h2:=h
 (repeat(with_reducible refine And.intro ?_ ?_;focus first|omega|rfl|assumption|exact⟨_,rfl,rfl⟩|(simp;omega)|(simp;done)))
 refine au (uL b.fType (by omega)) ?_
 simp -implicitDefEqProofs (disch:=omega) only[go_sem]<;>(repeat(with_reducible refine And.intro ?_ ?_;focus first|omega|rfl|assumption|exact⟨_,rfl,rfl⟩|(simp;omega)|(simp;done)))
 refine au (vX _ vars (Io _ (by omega)) hv) ?_
 simp -implicitDefEqProofs (disch:=omega) only[go_sem]<;>(repeat(with_reducible refine And.intro ?_ ?_;focus first|omega|rfl|assumption|exact⟨_,rfl,rfl⟩|(simp;omega)|(simp;done)))
 exact aK (by unfold kr;rw[h1,h2];simp)
theorem N8(bs:List aO)(vars:List (List UInt8))(hl:bs.length≤1073741824)(hz:∀b∈bs,b.sz≤4194304)(hv:vars.length≤1073741824):aI Tryz.prog 223 [.c (.d (.sl (bs.map aO.enc))),.c (.d (.sl (vars.map encS)))] (.c (.d (.b (mW vars bs)))):=fun S=>by
 have ha:(bs.any fun t=> !kr vars t)= !bs.all (kr vars):=by rw[List.not_all_eq_any_not]
 refine aD (rs:=[.tmp 4]) Tryz.checked.mixed Tryz.func223 Tryz.ntmps223 rfl rfl rfl rfl rfl ?_
 simp -implicitDefEqProofs (disch:=omega) only[go_sem]
 with_reducible refine aA (fun hb=> ?_) (fun hb=> ?_)<;>have h:=hb<;>(try simp only[wf_preprocess] at h)<;>simp -implicitDefEqProofs (disch:=omega) only[go_sem,hb]<;>(repeat(with_reducible refine And.intro ?_ ?_;focus first|omega|rfl|assumption|exact⟨_,rfl,rfl⟩|(simp;omega)|(simp;done)))
 ·have h1:=h
  (repeat(with_reducible refine And.intro ?_ ?_;focus first|omega|rfl|assumption|exact⟨_,rfl,rfl⟩|(simp;omega)|(simp;done)))
  refine bA rfl (Bt 291 [((0,0),0)] _ bs (fun t=> !kr vars t) hl fun t hx=>Ip vars hv [] S t (hz t hx)) ?_
  simp -implicitDefEqProofs (disch:=omega) only[go_sem]
  rw[ha]
  exact aK (by unfold mW;rw[bK (by omega)];simp)
 ·exact aK (by unfold mW;rw[aQ (by omega)];rfl)
theorem PU(bs:List aO)(vars:List (List UInt8))(hl:bs.length≤1073741824)(hz:∀b∈bs,b.sz≤4194304)(hv:vars.length≤1073741824):aI Tryz.prog 252 [.c (.d (.sl (bs.map aO.enc))),.c (.d (.sl (vars.map encS)))] (.c (.d (.b (mW vars bs)))):=fun S=>by
 refine aD (rs:=[.tmp 4]) Tryz.checked.mixed Tryz.func252 Tryz.ntmps252 rfl rfl rfl rfl rfl ?_
 simp -implicitDefEqProofs (disch:=omega) only[go_sem]
 refine aZ (ι:=Nat) Tryz.checked.mixed rfl [0,1,5] (fun i=>[.c (.d (.sl (bs.map aO.enc))),.c (.d (.sl (vars.map encS))),.c (.d (.i .i64 i))]) (fun _=>[]::S)
  (fun i=>i≤bs.length∧(bs.drop i).all (kr vars)=bs.all (kr vars)) (fun i=>bs.length-i) 0 rfl rfl ⟨Nat.zero_le _,rfl⟩ ?_
 rintro i ⟨p1,p2⟩
 simp -implicitDefEqProofs (disch:=omega) only[go_sem]
 with_reducible refine aA (fun hb=> ?_) (fun hb=> ?_)<;>have h:=hb<;>(try simp only[wf_preprocess] at h)<;>simp -implicitDefEqProofs (disch:=omega) only[go_sem,hb]<;>(repeat(with_reducible refine And.intro ?_ ?_;focus first|omega|rfl|assumption|exact⟨_,rfl,rfl⟩|(simp;omega)|(simp;done)))
 ·have hi:i<bs.length:=by omega
  have hb:=hz _ (List.getElem_mem hi)
  have hs:=aO.sum bs[i]
  rw[List.drop_eq_getElem_cons hi,List.all_cons] at p2
  have no:kr vars bs[i]=false→V.c (.d (.b false))=V.c (.d (.b (mW vars bs))):=fun h=>aK (by unfold mW;rw[←p2,h];simp)
  (repeat(with_reducible refine And.intro ?_ ?_;focus first|omega|rfl|assumption|exact⟨_,rfl,rfl⟩|(simp;omega)|(simp;done)))
  refine au (Ei bs[i] (by omega) (by omega)) ?_
  simp -implicitDefEqProofs (disch:=omega) only[go_sem]<;>(repeat(with_reducible refine And.intro ?_ ?_;focus first|omega|rfl|assumption|exact⟨_,rfl,rfl⟩|(simp;omega)|(simp;done)))
  with_reducible refine aA (fun hb=> ?_) (fun hb=> ?_)<;>have h:=hb<;>(try simp only[wf_preprocess] at h)<;>simp -implicitDefEqProofs (disch:=omega) only[go_sem,hb]<;>(repeat(with_reducible refine And.intro ?_ ?_;focus first|omega|rfl|assumption|exact⟨_,rfl,rfl⟩|(simp;omega)|(simp;done)))
  ·exact no (by unfold kr;rw[h];rfl)
  have h1:=h
  (repeat(with_reducible refine And.intro ?_ ?_;focus first|omega|rfl|assumption|exact⟨_,rfl,rfl⟩|(simp;omega)|(simp;done)))
  refine au (Bv bs[i].fType vars (by omega) hv) ?_
  simp -implicitDefEqProofs (disch:=omega) only[go_sem]<;>(repeat(with_reducible refine And.intro ?_ ?_;focus first|omega|rfl|assumption|exact⟨_,rfl,rfl⟩|(simp;omega)|(simp;done)))
  with_reducible refine aA (fun hb=> ?_) (fun hb=> ?_)<;>have h:=hb<;>(try simp only[wf_preprocess] at h)<;>simp -implicitDefEqProofs (disch:=omega) only[go_sem,hb]<;>(repeat(with_reducible refine And.intro ?_ ?_;focus first|omega|rfl|assumption|exact⟨_,rfl,rfl⟩|(simp;omega)|(simp;done)))
  ·exact no (by unfold kr;rw[EY] at h;rw[Bool.and_eq_true] at h1;rw[h1.2,Bool.true_and] at h;rw[h];simp)
  have h2:=h
  (repeat(with_reducible refine And.intro ?_ ?_;focus first|omega|rfl|assumption|exact⟨_,rfl,rfl⟩|(simp;omega)|(simp;done)))
  refine au (Aj bs[i].fType (by omega)) ?_
  simp -implicitDefEqProofs (disch:=omega) only[go_sem]<;>(repeat(with_reducible refine And.intro ?_ ?_;focus first|omega|rfl|assumption|exact⟨_,rfl,rfl⟩|(simp;omega)|(simp;done)))
  with_reducible refine aA (fun hb=> ?_) (fun hb=> ?_)<;>have h:=hb<;>(try simp only[wf_preprocess] at h)<;>simp -implicitDefEqProofs (disch:=omega) only[go_sem,hb]<;>(repeat(with_reducible refine And.intro ?_ ?_;focus first|omega|rfl|assumption|exact⟨_,rfl,rfl⟩|(simp;omega)|(simp;done)))
  ·exact no (by unfold kr;rw[h];simp)
  have h3:=h
  rw[EY,Bool.and_eq_true] at h2
  exact bL (i+1) (by omega) rfl rfl ⟨by omega,by rw[←p2];unfold kr;rw[h1,h2.2,h3];rfl⟩
 ·rw[List.drop_of_length_le (by omega)] at p2
  exact aK (by unfold mW;rw[←p2,jW];simp only[List.all_nil,Bool.and_true];exact iY ⟨fun h=>by omega,fun h=>by omega⟩)
end Go.Proofs.YtlmhknhlmicmeaaGreatDoor
namespace Go.Proofs.YtlmhknhlmicmeaaGreatDoor
open Go Go.Ab
theorem PV(x:aS):∀y:aS,x.sz≤1048576→aI Tryz.prog 239 [x.v,y.v] (.c (.d (.b (dec (x=y))))):=by
 intro y hsz S
 simp only[aS.sz,aS.aG,bQ,bP,D.sz,List.length_map,ay.dP] at hsz
 refine aD (rs:=[.tmp 4]) Tryz.checked.mixed Tryz.func239 Tryz.ntmps239 rfl rfl rfl rfl rfl ?_
 simp -implicitDefEqProofs (disch:=omega) only[go_sem]
 with_reducible refine aA (fun hb=> ?_) (fun hb=> ?_)<;>have h:=hb<;>(try simp only[wf_preprocess] at h)<;>simp -implicitDefEqProofs (disch:=omega) only[go_sem,hb]<;>(repeat(with_reducible refine And.intro ?_ ?_;focus first|omega|rfl|assumption|exact⟨_,rfl,rfl⟩|(simp;omega)|(simp;done)))
 ·exact aK (aQ (fun e=>h (by rw[e]))).symm
 have GI:=h
 clear h
 refine au (yJ x.aC _ (by omega)) ?_
 simp -implicitDefEqProofs (disch:=omega) only[go_sem]
 with_reducible refine aA (fun hb=> ?_) (fun hb=> ?_)<;>have h:=hb<;>(try simp only[wf_preprocess] at h)<;>simp -implicitDefEqProofs (disch:=omega) only[go_sem,hb]<;>(repeat(with_reducible refine And.intro ?_ ?_;focus first|omega|rfl|assumption|exact⟨_,rfl,rfl⟩|(simp;omega)|(simp;done)))
 ·exact aK (aQ (fun e=>h (by rw[e]))).symm
 have GK:=h
 clear h
 refine au (Vh x.fBody _ (by omega)) ?_
 simp -implicitDefEqProofs (disch:=omega) only[go_sem]
 with_reducible refine aA (fun hb=> ?_) (fun hb=> ?_)<;>have h:=hb<;>(try simp only[wf_preprocess] at h)<;>simp -implicitDefEqProofs (disch:=omega) only[go_sem,hb]<;>(repeat(with_reducible refine And.intro ?_ ?_;focus first|omega|rfl|assumption|exact⟨_,rfl,rfl⟩|(simp;omega)|(simp;done)))
 ·exact aK (aQ (fun e=>h (by rw[e]))).symm
 have Sw:=h
 clear h
 exact aK (bK (aS.ext' GI GK Sw)).symm
theorem N9(xs:List aS):∀ys:List aS,xs.length+bG (xs.map aS.enc)≤1048576→aI Tryz.prog 144 [.c (.d (.sl (xs.map aS.enc))),.c (.d (.sl (ys.map aS.enc)))] (.c (.d (.b (dec (xs=ys))))):=by
 intro ys hsz S
 refine aD (rs:=[.tmp 4]) Tryz.checked.mixed Tryz.func144 Tryz.ntmps144 rfl rfl rfl rfl rfl ?_
 simp -implicitDefEqProofs (disch:=omega) only[go_sem]
 with_reducible refine aA (fun hb=> ?_) (fun hb=> ?_)<;>have h:=hb<;>(try simp only[wf_preprocess] at h)<;>simp -implicitDefEqProofs (disch:=omega) only[go_sem,hb]<;>(repeat(with_reducible refine And.intro ?_ ?_;focus first|omega|rfl|assumption|exact⟨_,rfl,rfl⟩|(simp;omega)|(simp;done)))
 ·exact aK (aQ (fun e=>h (by rw[e]))).symm
 have hl:xs.length=ys.length:=by omega
 refine aZ (ι:=Nat) Tryz.checked.mixed rfl [0,1,5] (fun y=>[.c (.d (.sl (xs.map aS.enc))),.c (.d (.sl (ys.map aS.enc))),.c (.d (.i .i64 y))]) (fun y=>[]::S)
  (fun i=>i≤xs.length∧∀j,j<i→xs[j]? =ys[j]?) (fun y=>xs.length-y) 0 rfl rfl ⟨Nat.zero_le _,fun j h=>by omega⟩ ?_
 rintro i ⟨p1,p2⟩
 simp -implicitDefEqProofs (disch:=omega) only[go_sem]
 with_reducible refine aA (fun hb=> ?_) (fun hb=> ?_)<;>have h:=hb<;>(try simp only[wf_preprocess] at h)<;>simp -implicitDefEqProofs (disch:=omega) only[go_sem,hb]<;>(repeat(with_reducible refine And.intro ?_ ?_;focus first|omega|rfl|assumption|exact⟨_,rfl,rfl⟩|(simp;omega)|(simp;done)))
 ·have hi:i<xs.length:=by omega
  have hi':i<ys.length:=by omega
  have hx:xs[i].sz≤bG (xs.map aS.enc):=eP (List.mem_map_of_mem (List.getElem_mem hi))
  (repeat(with_reducible refine And.intro ?_ ?_;focus first|omega|rfl|assumption|exact⟨_,rfl,rfl⟩|(simp;omega)|(simp;done)))
  refine au (PV xs[i] ys[i] (by omega)) ?_
  simp -implicitDefEqProofs (disch:=omega) only[go_sem]
  with_reducible refine aA (fun hb=> ?_) (fun hb=> ?_)<;>have h:=hb<;>(try simp only[wf_preprocess] at h)<;>simp -implicitDefEqProofs (disch:=omega) only[go_sem,hb]<;>(repeat(with_reducible refine And.intro ?_ ?_;focus first|omega|rfl|assumption|exact⟨_,rfl,rfl⟩|(simp;omega)|(simp;done)))
  ·exact aK (aQ (fun e=>h (by simp only[e]))).symm
  refine bL (i+1) (by omega) rfl rfl ⟨by omega,fun j hj=> ?_⟩
  by_cases e:j=i
  ·subst e
   rw[List.getElem?_eq_getElem hi,List.getElem?_eq_getElem hi',h]
  ·exact p2 j (by omega)
 ·have hi:i=xs.length:=by omega
  refine aK (bK (List.ext_getElem? fun j=> ?_)).symm
  by_cases hj:j<i
  ·exact p2 j hj
  ·rw[List.getElem?_eq_none (by omega),List.getElem?_eq_none (by omega)]
end Go.Proofs.YtlmhknhlmicmeaaGreatDoor
namespace Go.Proofs.YtlmhknhlmicmeaaGreatDoor
open Go Go.Ab
theorem xg(x:aT):∀y:aT,x.sz≤1048576→aI Tryz.prog 44 [x.v,y.v] (.c (.d (.b (dec (x=y))))):=by
 intro y hsz S
 simp only[aT.sz,aT.aG,bQ,bP,D.sz,List.length_map,aj.dP] at hsz
 refine aD (rs:=[.tmp 4]) Tryz.checked.mixed Tryz.func44 Tryz.ntmps44 rfl rfl rfl rfl rfl ?_
 simp -implicitDefEqProofs (disch:=omega) only[go_sem]
 with_reducible refine aA (fun hb=> ?_) (fun hb=> ?_)<;>have h:=hb<;>(try simp only[wf_preprocess] at h)<;>simp -implicitDefEqProofs (disch:=omega) only[go_sem,hb]<;>(repeat(with_reducible refine And.intro ?_ ?_;focus first|omega|rfl|assumption|exact⟨_,rfl,rfl⟩|(simp;omega)|(simp;done)))
 ·exact aK (aQ (fun e=>h (by rw[e]))).symm
 have CQ:=h
 clear h
 refine au (yJ x.aC _ (by omega)) ?_
 simp -implicitDefEqProofs (disch:=omega) only[go_sem]
 with_reducible refine aA (fun hb=> ?_) (fun hb=> ?_)<;>have h:=hb<;>(try simp only[wf_preprocess] at h)<;>simp -implicitDefEqProofs (disch:=omega) only[go_sem,hb]<;>(repeat(with_reducible refine And.intro ?_ ?_;focus first|omega|rfl|assumption|exact⟨_,rfl,rfl⟩|(simp;omega)|(simp;done)))
 ·exact aK (aQ (fun e=>h (by rw[e]))).symm
 have GK:=h
 clear h
 refine au (zk x.aX _ (by omega)) ?_
 simp -implicitDefEqProofs (disch:=omega) only[go_sem]
 with_reducible refine aA (fun hb=> ?_) (fun hb=> ?_)<;>have h:=hb<;>(try simp only[wf_preprocess] at h)<;>simp -implicitDefEqProofs (disch:=omega) only[go_sem,hb]<;>(repeat(with_reducible refine And.intro ?_ ?_;focus first|omega|rfl|assumption|exact⟨_,rfl,rfl⟩|(simp;omega)|(simp;done)))
 ·exact aK (aQ (fun e=>h (by rw[e]))).symm
 have aey:=h
 clear h
 refine au (Pk x.bE _ (by omega)) ?_
 simp -implicitDefEqProofs (disch:=omega) only[go_sem]
 with_reducible refine aA (fun hb=> ?_) (fun hb=> ?_)<;>have h:=hb<;>(try simp only[wf_preprocess] at h)<;>simp -implicitDefEqProofs (disch:=omega) only[go_sem,hb]<;>(repeat(with_reducible refine And.intro ?_ ?_;focus first|omega|rfl|assumption|exact⟨_,rfl,rfl⟩|(simp;omega)|(simp;done)))
 ·exact aK (aQ (fun e=>h (by rw[e]))).symm
 have ab8:=h
 clear h
 with_reducible refine aA (fun hb=> ?_) (fun hb=> ?_)<;>have h:=hb<;>(try simp only[wf_preprocess] at h)<;>simp -implicitDefEqProofs (disch:=omega) only[go_sem,hb]<;>(repeat(with_reducible refine And.intro ?_ ?_;focus first|omega|rfl|assumption|exact⟨_,rfl,rfl⟩|(simp;omega)|(simp;done)))
 ·exact aK (aQ (fun e=>h (by rw[e]))).symm
 have YF:=h
 clear h
 with_reducible refine aA (fun hb=> ?_) (fun hb=> ?_)<;>have h:=hb<;>(try simp only[wf_preprocess] at h)<;>simp -implicitDefEqProofs (disch:=omega) only[go_sem,hb]<;>(repeat(with_reducible refine And.intro ?_ ?_;focus first|omega|rfl|assumption|exact⟨_,rfl,rfl⟩|(simp;omega)|(simp;done)))
 ·exact aK (aQ (fun e=>h (by rw[e]))).symm
 have V3:=h
 clear h
 refine au (zk x.aY _ (by omega)) ?_
 simp -implicitDefEqProofs (disch:=omega) only[go_sem]
 with_reducible refine aA (fun hb=> ?_) (fun hb=> ?_)<;>have h:=hb<;>(try simp only[wf_preprocess] at h)<;>simp -implicitDefEqProofs (disch:=omega) only[go_sem,hb]<;>(repeat(with_reducible refine And.intro ?_ ?_;focus first|omega|rfl|assumption|exact⟨_,rfl,rfl⟩|(simp;omega)|(simp;done)))
 ·exact aK (aQ (fun e=>h (by rw[e]))).symm
 have ab9:=h
 clear h
 refine au (N9 x.aF _ (by omega)) ?_
 simp -implicitDefEqProofs (disch:=omega) only[go_sem]
 with_reducible refine aA (fun hb=> ?_) (fun hb=> ?_)<;>have h:=hb<;>(try simp only[wf_preprocess] at h)<;>simp -implicitDefEqProofs (disch:=omega) only[go_sem,hb]<;>(repeat(with_reducible refine And.intro ?_ ?_;focus first|omega|rfl|assumption|exact⟨_,rfl,rfl⟩|(simp;omega)|(simp;done)))
 ·exact aK (aQ (fun e=>h (by rw[e]))).symm
 have YG:=h
 clear h
 exact aK (bK (aT.ext' CQ GK aey ab8 YF V3 ab9 YG)).symm
end Go.Proofs.YtlmhknhlmicmeaaGreatDoor
namespace Go.Proofs.YtlmhknhlmicmeaaGreatDoor
open Go Go.Ab
end Go.Proofs.YtlmhknhlmicmeaaGreatDoor
namespace Go.Proofs.YtlmhknhlmicmeaaGreatDoor
open Go Go.Ab
end Go.Proofs.YtlmhknhlmicmeaaGreatDoor
namespace Go.Ab
theorem bW.sum(x:bW):x.fName.length+(x.aC.length+bG (x.aC.map encS))+(x.bE.length+bG (x.bE.map aO.enc))+(x.gM.length+bG (x.gM.map dX.enc))+x.fG.sz+x.fBody.sz≤x.sz:=by
 simp only[bW.sz,bW.aG,bQ,bP,D.sz,List.length_map,aj.dP,ay.dP]
 omega
theorem dX.sum(x:dX):x.fName.length+x.fType.sz≤x.sz:=by
 simp only[dX.sz,dX.aG,bQ,bP,D.sz,List.length_map,aj.dP]
 omega
end Go.Ab
namespace Go.Proofs.YtlmhknhlmicmeaaGreatDoor
open Go Go.Ab
end Go.Proofs.YtlmhknhlmicmeaaGreatDoor
namespace Go.Ab
def yT(n:Nat)(s:St):St:=match s.st with
 |(.seed _::own)::Ω=>⟨s.tm,(.seed n::own)::Ω⟩
 |_=>s
theorem Jk{N:Nat}(n:Nat)(s:St):fK N s (yT n s):=by
 obtain⟨tm,st⟩:=s
 unfold yT
 split
 ·rename_i h;simp only at h;subst h;exact yw n
 ·exact fK.refl _ _
theorem PW{n m:Nat}{tm:List (Nat×V)}{own:List Obj}{Ω:Store}:yT n ⟨tm,(.seed m::own)::Ω⟩=⟨tm,(.seed n::own)::Ω⟩:=rfl
def aez(j p n:Nat)(s:St):St:=yT n (K9 j p s)
attribute [go_sem] aez PW
def nk(b:aO):ah:=bS [bq b.aW,dx b.fType]
theorem acd(b:aO):(nk b).sz≤14+16*b.sz:=by
 have:=CB b.fType
 have:=aO.sum b
 rw[nk,rG];simp[dN,lV];omega
theorem QB:∀l:List aO,dN (l.map nk)≤14*l.length+16*bG (l.map aO.enc)
 |[]=>by simp[dN]
 |c::l=>by
  have h1:=acd c
  have h2:=QB l
  rw[List.map_cons,dN,List.map_cons,bG,List.length_cons];simp only[aO.sz] at h1;omega
theorem Es{vars:List (List UInt8)}{bs:List aO}(h:mW vars bs=true):∀b∈bs,formed b.fType=true:=fun b hb=>by
 unfold mW at h
 rw[Bool.and_eq_true] at h
 have h2:=List.all_eq_true.1 h.2 b hb
 unfold kr at h2
 simp only[Bool.and_eq_true] at h2
 exact uJ h2.1.2
theorem zC{vars:List (List UInt8)}{t:aj}(h:iM vars t=true):formed t=true:=by
 unfold iM at h
 rw[Bool.and_eq_true] at h
 exact uJ h.1
theorem Ko{vars:List (List UInt8)}{e:ay}(h:nU vars e=true):gD e=true:=by
 unfold nU Az at h
 simp only[Bool.and_eq_true] at h
 exact NW h.2.1
end Go.Ab
namespace Go.Proofs.YtlmhknhlmicmeaaGreatDoor
open Go Go.Ab
theorem sK(xs:List aO)(n:Nat)(hfo:∀b∈xs,formed b.fType=true)(hlen:xs.length≤4194304)(hsz:∀b∈xs,b.sz≤4194304):aI Tryz.prog 176 [.c (.d (.sl (xs.map aO.enc)))] (.agg [.d (.s []),.d (.ol n (lx (xs.map nk) (n+1)))]):=fun S=>by
 obtain⟨L,hL⟩:∃L:Nat→Nat,L=fun i=>n+1+iw ((xs.map nk).take i):=⟨_,rfl⟩
 obtain⟨T,hT⟩:∃T:Nat→List (List D),T=fun i=>lx ((xs.map nk).take i) (n+1):=⟨_,rfl⟩
 have hT0:T 0=[]:=by rw[hT];rfl
 have kF:∀i,(T i).length≤i:=fun i=>by
  rw[hT];simp only[gT]
  exact List.length_take_le _ _
 have hTs:∀i (hi:i<xs.length),T i++[[.s [],.ol (L i) [[.s xs[i].aW,.ol (L i+1) []],[.s (dx xs[i].fType).aU,.ol (L i+1+1) (lx (dx xs[i].fType).ak (L i+1+1+1))]]]]=T (i+1):=fun i hi=>by
  have:=Fz (l:=xs.map nk) (i:=i) (by rw[List.length_map];exact hi) (n+1)
  rw[List.getElem_map,nk,dY,dI,oI,oI,sw,wL,nD,uh] at this
  rw[hT,hL];exact this
 have hTe:T xs.length=lx (xs.map nk) (n+1):=by
  rw[hT];simp only
  rw[List.take_of_length_le (by simp)]
 clear hT hL
 refine Gx (n) 1 (rs:=[.cell 2 32]) Tryz.checked.mixed Tryz.func176 Tryz.ntmps176 rfl rfl rfl rfl rfl ?_
 simp -implicitDefEqProofs (disch:=omega) only[go_sem]
 (repeat(with_reducible refine And.intro ?_ ?_;focus first|omega|rfl|assumption|exact⟨_,rfl,rfl⟩|(simp;omega)|(simp;done)))
 refine mJ n 3 2 [] (.inl rfl) (by simp) ?_
 refine wD (L 0) ?_
 refine aZ (ι:=Nat) Tryz.checked.mixed rfl [2,3,7,8,9] (fun i=>[.c (.ptr (0,2) 0),.c (.bI (0,3) (T i)),.c (.d (.sl (xs.map aO.enc))),.c (.d (.i .i64 xs.length)),.c (.d (.i .i64 i))])
  (fun i=>[.seed (L i),.seed 1,.box [.d (.s []),.aM []],.dZ n 2 (T i)]::S)
  (fun i=>i≤xs.length) (fun i=>xs.length-i) 0 (by rw[hT0];rfl) (by rw[hT0];rfl) (Nat.zero_le _) ?_
 intro i hi
 have hl:=kF i
 simp -implicitDefEqProofs (disch:=omega) only[go_sem]
 with_reducible refine aA (fun hb=> ?_) (fun hb=> ?_)<;>have h:=hb<;>(try simp only[wf_preprocess] at h)<;>simp -implicitDefEqProofs (disch:=omega) only[go_sem,hb]<;>(repeat(with_reducible refine And.intro ?_ ?_;focus first|omega|rfl|assumption|exact⟨_,rfl,rfl⟩|(simp;omega)|(simp;done)))
 ·have hi':i<xs.length:=by omega
  have hm:=List.getElem_mem hi'
  have hcz:=hsz _ hm
  have hce:=aO.sum xs[i]
  have hs:=hTs i hi'
  (repeat(with_reducible refine And.intro ?_ ?_;focus first|omega|rfl|assumption|exact⟨_,rfl,rfl⟩|(simp;omega)|(simp;done)))
  refine au (dJ _ (L i+1)) ?_
  simp -implicitDefEqProofs (disch:=omega) only[go_sem]
  refine au (nS xs[i].fType (L i+1+1) (hfo _ hm) (by omega)) ?_
  simp -implicitDefEqProofs (disch:=omega) only[go_sem]
  (repeat(with_reducible refine And.intro ?_ ?_;focus first|omega|rfl|assumption|exact⟨_,rfl,rfl⟩|(simp;omega)|(simp;done)))
  refine au (rO _ _) ?_
  simp -implicitDefEqProofs (disch:=omega) only[go_sem]
  (repeat(with_reducible refine And.intro ?_ ?_;focus first|omega|rfl|assumption|exact⟨_,rfl,rfl⟩|(simp;omega)|(simp;done)))
  rw[hs]
  refine MX (L (i+1)) 3 (by decide) (i+1) (by omega) rfl rfl ?_ rfl (by omega)
  simp[l8,iP,V.refs,C.refs,nu]
 ·have hi':i=xs.length:=by omega
  refine bA rfl (j3 0 3 _ _) ?_
  simp -implicitDefEqProofs (disch:=omega) only[go_sem]
  rw[hi',hTe]
theorem uR(xs:List aO)(hlen:xs.length≤4194304)(hsz:∀b∈xs,b.sz≤4194304):aI Tryz.prog 162 [.c (.d (.sl (xs.map aO.enc)))] (.agg [.d (.s []),.d (.sl ((xs.map nk).map ah.enc))]):=fun S=>by
 obtain⟨T,hT⟩:∃T:Nat→List (List D),T=fun i=>((xs.map nk).take i).map ah.enc:=⟨_,rfl⟩
 have hT0:T 0=[]:=by rw[hT];rfl
 have kF:∀i,(T i).length≤i:=fun i=>by
  rw[hT];simp only[List.length_map]
  exact List.length_take_le _ _
 have hTs:∀i (hi:i<xs.length),T i++[[.s [],.sl [[.s xs[i].aW,.sl []],[.s (dx xs[i].fType).aU,.sl ((dx xs[i].fType).ak.map ah.enc)]]]]=T (i+1):=fun i hi=>by
  have:=kE (base:=[]) (l:=xs.map nk) (i:=i) (by rw[List.length_map];exact hi)
  rw[List.getElem_map,nk,dY,dI,List.map_cons,List.map_cons,List.map_nil,fJ,ah.aG (dx xs[i].fType)] at this
  rw[hT];exact this
 have hTe:T xs.length=(xs.map nk).map ah.enc:=by
  rw[hT];simp only
  rw[List.take_of_length_le (by simp)]
 clear hT
 refine aD (rs:=[.cell 2 32]) Tryz.checked.mixed Tryz.func162 Tryz.ntmps162 rfl rfl rfl rfl rfl ?_
 simp -implicitDefEqProofs (disch:=omega) only[go_sem]
 refine y9 1 1 2 [] [.d (.s []),.aM []] rfl rfl (by simp) ?_
 refine aZ (ι:=Nat) Tryz.checked.mixed rfl [0,2,3,4] (fun i=>[.c (.d (.sl (xs.map aO.enc))),.c (.ptr (0,0) 0),.c (.ptr (0,1) 0),.c (.d (.i .i64 i))])
  (fun i=>[.box [.d (.s []),.aM []],.box [.d (.s []),.bI (0,2) (T i)],.tok 2 (T i)]::S)
  (fun i=>i≤xs.length) (fun i=>xs.length-i) 0 rfl (by rw[hT0];rfl) (Nat.zero_le _) ?_
 intro i hi
 have hl:=kF i
 simp -implicitDefEqProofs (disch:=omega) only[go_sem]
 with_reducible refine aA (fun hb=> ?_) (fun hb=> ?_)<;>have h:=hb<;>(try simp only[wf_preprocess] at h)<;>simp -implicitDefEqProofs (disch:=omega) only[go_sem,hb]<;>(repeat(with_reducible refine And.intro ?_ ?_;focus first|omega|rfl|assumption|exact⟨_,rfl,rfl⟩|(simp;omega)|(simp;done)))
 ·have hi':i<xs.length:=by omega
  have hm:=List.getElem_mem hi'
  have hcz:=hsz _ hm
  have hce:=aO.sum xs[i]
  have hs:=hTs i hi'
  (repeat(with_reducible refine And.intro ?_ ?_;focus first|omega|rfl|assumption|exact⟨_,rfl,rfl⟩|(simp;omega)|(simp;done)))
  refine au (bO _) ?_
  simp -implicitDefEqProofs (disch:=omega) only[go_sem]
  (repeat(with_reducible refine And.intro ?_ ?_;focus first|omega|rfl|assumption|exact⟨_,rfl,rfl⟩|(simp;omega)|(simp;done)))
  refine au (oO xs[i].fType (by omega)) ?_
  simp -implicitDefEqProofs (disch:=omega) only[go_sem]
  (repeat(with_reducible refine And.intro ?_ ?_;focus first|omega|rfl|assumption|exact⟨_,rfl,rfl⟩|(simp;omega)|(simp;done)))
  refine au (mH _ (by simp) (by simp)) ?_
  simp -implicitDefEqProofs (disch:=omega) only[go_sem]
  (repeat(with_reducible refine And.intro ?_ ?_;focus first|omega|rfl|assumption|exact⟨_,rfl,rfl⟩|(simp;omega)|(simp;done)))
  rw[hs]
  exact bL (i+1) (by omega) rfl rfl (by omega)
 ·have hi':i=xs.length:=by omega
  subst hi'
  rw[hTe]
end Go.Proofs.YtlmhknhlmicmeaaGreatDoor
namespace Go.Ab
abbrev gX (l:List ah) (i:Nat):ah:=l.getD i fu
theorem Oa(l:List ah):dN l=(gX l 0).sz+dN (l.drop 1):=by
 cases l with
 |nil=>simp[dN,gX,FC]
 |cons x l=>rw[dN,List.drop_succ_cons,List.drop_zero];rfl
theorem QC(l:List ah)(k i:Nat):gX (l.drop k) i=gX l (k+i):=by
 simp[gX,List.getD_eq_getElem?_getD,List.getElem?_drop]
theorem DF(l:List ah):dN l=(gX l 0).sz+(gX l 1).sz+(gX l 2).sz+(gX l 3).sz+(gX l 4).sz+(gX l 5).sz+(gX l 6).sz+dN (l.drop 7):=by
 have h:∀k,dN (l.drop k)=(gX l k).sz+dN (l.drop (k+1)):=fun k=>by
  rw[Oa (l.drop k),QC,Nat.add_zero,List.drop_drop]
 have h0:=h 0
 rw[List.drop_zero] at h0
 have h1:=h 1;have h2:=h 2;have h3:=h 3;have h4:=h 4;have h5:=h 5;have h6:=h 6
 simp only[Nat.reduceAdd] at *
 omega
theorem FN(l:List ah):dN l=(gX l 0).sz+(gX l 1).sz+(gX l 2).sz+(gX l 3).sz+dN (l.drop 4):=by
 have h:=DF l
 have h1:=DF (l.drop 4)
 have e:∀k,dN (l.drop k)=(gX l k).sz+dN (l.drop (k+1)):=fun k=>by
  rw[Oa (l.drop k),QC,Nat.add_zero,List.drop_drop]
 have h4:=e 4;have h5:=e 5;have h6:=e 6
 simp only[Nat.reduceAdd] at *
 omega
theorem Tx(l:List ah)(i:Nat):cO l i=(gX l i).aU:=rfl
theorem zV(x:ah):x.aU.length+(x.ak.length+dN x.ak)=x.sz:=by rw[jP,l6]
theorem ace{α:Type}{x:ah}{dT dF:α}{valid:α→Bool}{sx:α→ah}{head:Prop}(hx:x.ak≠[])(hd:∀a,valid a=true→sx a=x→dT=a∧dF=a)(hh:∀a,sx a=x→head):
 dec (iL x=true∧head∧valid dT=true∧sx dT=x)=(iL x&&dec (zN (valid dF) (sx dF)=x)):=by
 cases hv:iL x with
 |false=>exact aQ fun h=>by cases h.1
 |true=>
  rw[Bool.true_and]
  refine iY ⟨fun⟨_,h2,h3,h4⟩=> ?_,fun h=> ?_⟩
  ·have e:=(hd _ h3 h4).2
   rw[e,h3,h4,zN,CG,if_pos hv]
  ·obtain⟨h1,h2,_⟩:=Yv h hx
   have e:=(hd _ h1 h2).1
   rw[e]
   exact⟨rfl,hh _ h2,h1,h2⟩
def l7(b:Bool)(y:ah):aO:=if b=true∧y.ak.length≠2 then⟨[],gI⟩ else⟨cO y.ak 0,dU b (gX y.ak 1)⟩
def Ee(l:List ah)(i:Nat):List (List UInt8):=iN (gX l i).ak
theorem aaL(b:Bool){c:aO}(h:formed c.fType=true):l7 b (nk c)=c:=by
 unfold l7
 rw[if_neg (by simp[nk,dI])]
 show aO.mk c.aW (dU b (dx c.fType))=c
 rw[Av b _ h]
theorem Ob{α β:Type}{f:α→β}{g:β→α}{l:List α}(h:∀a∈l,g (f a)=a):(l.map f).map g=l:=by
 rw[List.map_map,show l.map (g∘f)=l.map id from List.map_congr_left (fun c hc=>h c hc),List.map_id]
theorem aaM(b:Bool)(y:ah):(l7 b y).sz≤y.sz:=by
 have h:=Ar b (gX y.ak 1)
 have h1:=FN y.ak
 have h2:=zV y
 have h3:=zV (gX y.ak 0)
 unfold l7
 split
 ·simp only[aO.sz,aO.aG,bQ,bP,D.sz,aj.dP,yQ];simp
 ·simp only[aO.sz,aO.aG,bQ,bP,D.sz,aj.dP,Tx];omega
theorem Oc(b:Bool):∀l:List ah,bG ((l.map (l7 b)).map aO.enc)≤dN l
 |[]=>by simp[bG]
 |y::l=>by
  have h1:=aaM b y
  have h2:=Oc b l
  rw[List.map_cons,List.map_cons,bG,dN];simp only[aO.sz] at h1;omega
end Go.Ab
namespace Go.Ab
theorem AA(n:Nat):ES (.sl []) (.ol n []):=fun w σ v h=>by
 cases h with
 |nil a cap=>exact .qF n a cap
 |sl b off cap aR es vals c t fz hcap hlen hb hσ hc hv=>exact .qF n _ _
theorem ES.trans{a b c:D}(h:ES a b)(k:ES b c):ES a c:=fun w σ v x=>k w σ v (h w σ v x)
theorem jQ.trans:∀{a b c:List D},jQ a b→jQ b c→jQ a c
 |_,_,_,.nil,.nil=>.nil
 |_,_,_,.cons x h,.cons y k=>.cons (x.trans y) (h.trans k)
theorem gF.trans:∀{a b c:List (List D)},gF a b→gF b c→gF a c
 |_,_,_,.nil,.nil=>.nil
 |_,_,_,.cons x h,.cons y k=>.cons (x.trans y) (h.trans k)
theorem gF.at{a b:List (List D)}(h:gF a b):∀(i:Nat) (hi:i<b.length) (hi':i<a.length),jQ a[i] b[i]:=by
 induction h with
 |nil=>intro i hi;simp at hi
 |cons x h ih=>intro i hi hi';cases i with
  |zero=>exact x
  |succ i=>exact ih i (by simpa using hi) (by simpa using hi')
theorem gF.acf{a b:List (List D)}(h:gF a b){n:Nat}{w:World}{σ:Nat→Nat}{v:Value}(hr:bZ w σ (.ol n a) v):bZ w σ (.ol n b) v:=by
 cases hr with
 |qF _ ad cap=>
  cases h
  exact .qF n ad cap
 |ol _ b0 off cap aR es vals c t hcap hlen hb hσ hfit hc hv=>
  have hl:=h.length
  rw[hl] at hcap hfit hc ⊢
  have hlb:∀e∈b,e.length=aR:=fun e he=>by
   obtain⟨i,hi,rfl⟩:=List.getElem_of_mem he
   have h1:=h.at i hi (by omega)
   rw[←h1.length];exact hlen _ (List.getElem_mem _)
  refine .ol n b0 off cap aR b vals c t hcap hlb hb hσ hfit hc fun j d hd=> ?_
  obtain⟨x,hx,hle⟩:=h.flat.at j d hd
  exact hle w σ _ (hv j x hx)
theorem Tz{n:Nat}{a b:List (List D)}(h:gF a b):mq (.d (.ol n a)) (.d (.ol n b)):=fun w σ S β v hr=>h.acf hr
theorem YH{n:Nat}{a b:List (List D)}(h:gF a b):Less (.c (.d (.ol n a))) (.c (.d (.ol n b))):=fun w σ S β v hr=>⟨h.acf hr.1,hr.2⟩
theorem PX{a b:List (List D)}(h:gF a b):mq (.d (.sl a)) (.d (.sl b)):=fun w σ S β v hr=>h.rep hr
theorem mq.trans{a b c:C}(h:mq a b)(k:mq b c):mq a c:=fun w σ S β v x=>k w σ S β v (h w σ S β v x)
end Go.Ab
namespace Go.Ab
theorem pW{l:List ah}{i:Nat}(h:i<l.length):gX l i=l[i]:=by
 show l.getD i fu=_
 rw[List.getD_eq_getElem?_getD,List.getElem?_eq_getElem h];rfl
def lB(l:List aO)(n:Nat):List (List D):=eG (l.map aO.enc) n
def Zj(l:List aO):Nat:=jy (l.map aO.enc)
def lPr(l:List dX)(n:Nat):List (List D):=eG (l.map dX.enc) n
theorem QD(x:aO)(n:Nat):eB x.enc n=[.s x.aW,.i .i64 x.fType.aH,.s x.fType.fName,.ol n (lt x.fType.fArgs (n+1))]:=by
 simp only[aO.aG,aj.aG,List.cons_append,List.nil_append,eB,lH,nZ,Nat.add_zero,lt]
theorem EZ{α:Type}{e:α→List D}{l:List α}{i:Nat}(hi:i<l.length)(n:Nat):eG ((l.take i).map e) n++[eB (e l[i]) (n+jy ((l.take i).map e))]=eG ((l.take (i+1)).map e) n:=by
 rw[List.take_succ_eq_append_getElem hi,List.map_append,oD];rfl
theorem Iq{α:Type}{e:α→List D}{l:List α}{i:Nat}(hi:i<l.length):(l.take i).map e++[e l[i]]=(l.take (i+1)).map e:=by
 rw[List.take_succ_eq_append_getElem hi,List.map_append];rfl
theorem QE{b:Bool}{y:ah}(h:b=false∨y.ak.length=2):(l7 b y).aW=cO y.ak 0∧(l7 b y).fType=dU b (y.ak.getD 1 fu):=by
 unfold l7
 rw[if_neg (by rintro⟨e1,e2⟩;rcases h with e|e;(rw[e] at e1;cases e1);exact e2 e)]
 exact⟨rfl,rfl⟩
theorem YI{y:ah}(h:y.ak.length≠2):l7 true y=⟨[],gI⟩:=if_pos ⟨rfl,h⟩
theorem aaN{x:ah}(h:iB x=true){i:Nat}(hi:i<x.ak.length):iB x.ak[i]=true:=tq (Dw h (fun e=>by rw[e] at hi;simp at hi)) (List.getElem_mem hi)
theorem Ef(x:ah){i:Nat}(hi:i<x.ak.length):x.ak[i].sz≤x.sz:=by
 have:=kg (List.getElem_mem hi)
 have:=gY x
 omega
abbrev bW.cl (x:bW) (n p q r:Nat):List C:=[.d (.s x.fName),.d (.ol n (x.aC.map encS)),.d (.ol (n+1) (lB x.bE (n+1+1))),.d (.ol p (lPr x.gM (p+1))),.d (.i .i64 x.fG.aH),.d (.s x.fG.fName),.d (.ol q (lt x.fG.fArgs (q+1))),
 .d (.i .i64 x.fBody.aH),.d (.s x.fBody.aW),.d (.s x.fBody.fName),.d (.i .i64 x.fBody.fN),.d (.i .i64 x.fBody.fType.aH),.d (.s x.fBody.fType.fName),.d (.ol r (lt x.fBody.fType.fArgs (r+1))),
 .d (.ol (r+(fT x.fBody.fType.fArgs+1)) (lE x.fBody.fArgs (r+(fT x.fBody.fType.fArgs+1)+1))),.d (.ol (r+(fT x.fBody.fType.fArgs+1)+(lZ x.fBody.fArgs+1)) (lM x.fBody.aL (r+(fT x.fBody.fType.fArgs+1)+(lZ x.fBody.fArgs+1)+1)))]
abbrev bW.cv (x:bW):List C:=[.d (.s x.fName),.d (.sl (x.aC.map encS)),.d (.sl (x.bE.map aO.enc)),.d (.sl (x.gM.map dX.enc)),.d (.i .i64 x.fG.aH),.d (.s x.fG.fName),.d (.sl (x.fG.fArgs.map aj.enc)),
 .d (.i .i64 x.fBody.aH),.d (.s x.fBody.aW),.d (.s x.fBody.fName),.d (.i .i64 x.fBody.fN),.d (.i .i64 x.fBody.fType.aH),.d (.s x.fBody.fType.fName),.d (.sl (x.fBody.fType.fArgs.map aj.enc)),.d (.sl (x.fBody.fArgs.map ay.enc)),.d (.sl (x.fBody.aL.map aJ.enc))]
abbrev agX:List C:=[.d (.s []),.aM [],.aM [],.aM [],.d (.i .i64 0),.d (.s []),.aM [],.d (.i .i64 0),.d (.s []),.d (.s []),.d (.i .i64 0),.d (.i .i64 0),.d (.s []),.aM [],.aM [],.aM []]
end Go.Ab
namespace Go.Proofs.YtlmhknhlmicmeaaGreatDoor
open Go Go.Ab
theorem KT(x:ah)(hsz:x.sz≤4194304):aI Tryz.prog 121 [x.v] (.c (.d (.sl ((x.ak.map (l7 false)).map aO.enc)))):=fun S=>by
 have h1:=gY x
 have hall:∀t∈x.ak,t.sz≤4194304:=fun t ht=>by have:=kg ht;omega
 have xL:=fun(i:Nat) (hi:i<x.ak.length)=>Iq (e:=aO.enc) (l:=x.ak.map (l7 false)) (i:=i) (by rw[List.length_map];exact hi)
 refine aD (rs:=[.tmp 2]) Tryz.checked.mixed Tryz.func121 Tryz.ntmps121 rfl rfl rfl rfl rfl ?_
 simp -implicitDefEqProofs (disch:=omega) only[go_sem]
 (repeat(with_reducible refine And.intro ?_ ?_;focus first|omega|rfl|assumption|exact⟨_,rfl,rfl⟩|(simp;omega)|(simp;done)))
 refine yu 3 4 [] rfl (by simp) ?_
 refine aZ (ι:=Nat) Tryz.checked.mixed rfl [1,3,4] (fun i=>[.c (.ptr (0,0) 0),.c (.bI (0,1) (((x.ak.map (l7 false)).take i).map aO.enc)),.c (.d (.i .i64 i))]) (fun i=>[.box [.d (.s x.aU),.d (.sl (x.ak.map ah.enc))],.tok 4 (((x.ak.map (l7 false)).take i).map aO.enc)]::S)
  (fun i=>i≤x.ak.length) (fun i=>x.ak.length-i) 0 rfl rfl (Nat.zero_le _) ?_
 intro i hi
 have hl:(((x.ak.map (l7 false)).take i).map aO.enc).length≤i:=by rw[List.length_map];exact List.length_take_le _ _
 simp -implicitDefEqProofs (disch:=omega) only[go_sem]
 with_reducible refine aA (fun hb=> ?_) (fun hb=> ?_)<;>have h:=hb<;>(try simp only[wf_preprocess] at h)<;>simp -implicitDefEqProofs (disch:=omega) only[go_sem,hb]<;>(repeat(with_reducible refine And.intro ?_ ?_;focus first|omega|rfl|assumption|exact⟨_,rfl,rfl⟩|(simp;omega)|(simp;done)))
 ·have hi':i<x.ak.length:=by omega
  have hz:=hall _ (List.getElem_mem hi')
  have hs:=xL i hi'
  have hb:=QE (b:=false) (y:=x.ak[i]) (.inl rfl)
  rw[List.getElem_map] at hs
  simp only[aO.aG,aj.aG,List.cons_append,List.nil_append,hb.1,hb.2] at hs
  (repeat(with_reducible refine And.intro ?_ ?_;focus first|omega|rfl|assumption|exact⟨_,rfl,rfl⟩|(simp;omega)|(simp;done)))
  refine au (lN x.ak[i] 0 hz (by omega)) ?_
  simp -implicitDefEqProofs (disch:=omega) only[go_sem]
  (repeat(with_reducible refine And.intro ?_ ?_;focus first|omega|rfl|assumption|exact⟨_,rfl,rfl⟩|(simp;omega)|(simp;done)))
  refine au (lN x.ak[i] 1 hz (by omega)) ?_
  simp -implicitDefEqProofs (disch:=omega) only[go_sem]
  refine au (uQ (x.ak[i].ak.getD 1 fu) (yR _ 1 hz)) ?_
  simp -implicitDefEqProofs (disch:=omega) only[go_sem]
  (repeat(with_reducible refine And.intro ?_ ?_;focus first|omega|rfl|assumption|exact⟨_,rfl,rfl⟩|(simp;omega)|(simp;done)))
  show _
  rw[show(x.ak[i].ak.getD 0 fu).aU=cO x.ak[i].ak 0 from rfl,hs]
  exact bL (i+1) (by omega) rfl rfl (by omega)
 ·have hi':i=(x.ak.map (l7 false)).length:=by rw[List.length_map];omega
  rw[hi',List.take_length]
theorem KU(x:ah)(n q:Nat)(hsz:x.sz≤4194304):aI Tryz.prog 125 [x.v] (.c (.d (.ol n (lB (x.ak.map (l7 true)) q)))):=aI.of_le fun S=>by
 have h1:=gY x
 have hall:∀t∈x.ak,t.sz≤4194304:=fun t ht=>by have:=kg ht;omega
 obtain⟨L,hL⟩:∃L:Nat→Nat,L=fun i=>q+jy (((x.ak.map (l7 true)).take i).map aO.enc):=⟨_,rfl⟩
 obtain⟨T,hT⟩:∃T:Nat→List (List D),T=fun i=>eG (((x.ak.map (l7 true)).take i).map aO.enc) q:=⟨_,rfl⟩
 have hT0:T 0=[]:=by rw[hT];rfl
 have kF:∀i,(T i).length≤i:=fun i=>by rw[hT];simp only[jk,List.length_map];exact List.length_take_le _ _
 have hTr:∀i,∀r∈T i,r.length=4:=fun i=>by
  rw[hT]
  exact xK fun r hr=>by
   obtain⟨z,_,rfl⟩:=List.mem_map.1 hr
   exact z.bH
 have hTs:∀i (hi:i<x.ak.length),T i++[eB (l7 true x.ak[i]).enc (L i)]=T (i+1):=fun i hi=>by
  have:=EZ (e:=aO.enc) (l:=x.ak.map (l7 true)) (i:=i) (by rw[List.length_map];exact hi) q
  rw[List.getElem_map] at this
  rw[hT,hL];exact this
 have hTe:T x.ak.length=lB (x.ak.map (l7 true)) q:=by
  rw[hT];simp only
  rw[List.take_of_length_le (by simp)];rfl
 clear hT hL
 refine kD (n) (rs:=[.tmp 2]) Tryz.checked.mixed Tryz.func125 Tryz.ntmps125 rfl rfl rfl rfl rfl ?_
 simp -implicitDefEqProofs (disch:=omega) only[go_sem]
 (repeat(with_reducible refine And.intro ?_ ?_;focus first|omega|rfl|assumption|exact⟨_,rfl,rfl⟩|(simp;omega)|(simp;done)))
 refine mJ n 3 4 [] (.inl rfl) (by simp) ?_
 refine aZ (ι:=Nat×List (List D)) Tryz.checked.mixed rfl [3,9,10,11] (fun y=>[.c (.bI (0,2) y.2),.c (.d (.sl (x.ak.map ah.enc))),.c (.d (.i .i64 x.ak.length)),.c (.d (.i .i64 y.1))])
  (fun y=>[.seed n,.box [.d (.s x.aU),.d (.sl (x.ak.map ah.enc))],.dZ n 4 y.2]::S)
  (fun y=>y.1≤x.ak.length∧gF y.2 (T y.1)) (fun y=>x.ak.length-y.1) (0,[]) rfl rfl ⟨Nat.zero_le _,by rw[hT0];exact .nil⟩ ?_
 rintro⟨i,U⟩ ⟨p1,p2⟩
 simp only at p1 p2
 have hU1:=p2.length
 have hU2:=kF i
 have hU3:=p2.rows (hTr i)
 simp -implicitDefEqProofs (disch:=omega) only[go_sem]
 with_reducible refine aA (fun hb=> ?_) (fun hb=> ?_)<;>have h:=hb<;>(try simp only[wf_preprocess] at h)<;>simp -implicitDefEqProofs (disch:=omega) only[go_sem,hb]<;>(repeat(with_reducible refine And.intro ?_ ?_;focus first|omega|rfl|assumption|exact⟨_,rfl,rfl⟩|(simp;omega)|(simp;done)))
 ·have hi':i<x.ak.length:=by omega
  have hz:=hall _ (List.getElem_mem hi')
  have hs:=hTs i hi'
  have hz1:=gY x.ak[i]
  (repeat(with_reducible refine And.intro ?_ ?_;focus first|omega|rfl|assumption|exact⟨_,rfl,rfl⟩|(simp;omega)|(simp;done)))
  with_reducible refine aA (fun hb=> ?_) (fun hb=> ?_)<;>have h:=hb<;>(try simp only[wf_preprocess] at h)<;>simp -implicitDefEqProofs (disch:=omega) only[go_sem,hb]<;>(repeat(with_reducible refine And.intro ?_ ?_;focus first|omega|rfl|assumption|exact⟨_,rfl,rfl⟩|(simp;omega)|(simp;done)))
  ·have hl2:x.ak[i].ak.length=2:=by omega
   have hb:=QE (b:=true) (y:=x.ak[i]) (.inr hl2)
   have g1:x.ak[i].ak.getD 1 fu=x.ak[i].ak[1]:=pW (by omega)
   rw[QD,hb.1,hb.2,lX (by omega:0<x.ak[i].ak.length),g1] at hs
   have hz2:=Ef x.ak[i] (i:=1) (by omega)
   (repeat(with_reducible refine And.intro ?_ ?_;focus first|omega|rfl|assumption|exact⟨_,rfl,rfl⟩|(simp;omega)|(simp;done)))
   refine au (sI x.ak[i].ak[1] (L i) (by omega)) ?_
   simp -implicitDefEqProofs (disch:=omega) only[go_sem]
   (repeat(with_reducible refine And.intro ?_ ?_;focus first|omega|rfl|assumption|exact⟨_,rfl,rfl⟩|(simp;omega)|(simp;done)))
   refine dO 3 (by decide) (i+1,_) (by simp only;omega) rfl rfl rfl rfl ⟨by simp only;omega,?_⟩
   simp only
   rw[←hs]
   exact p2.snoc (.refl _)
  ·have hl2:x.ak[i].ak.length≠2:=by omega
   rw[QD,YI hl2] at hs
   refine dO 3 (by decide) (i+1,_) (by simp only;omega) rfl rfl rfl rfl ⟨by simp only;omega,?_⟩
   simp only
   rw[←hs]
   exact p2.snoc (.cons (.refl _) (.cons (.refl _) (.cons (.refl _) (.cons (AA _) .nil))))
 ·have hi':i=x.ak.length:=by omega
  subst hi'
  rw[hTe] at p2
  exact YH p2
end Go.Proofs.YtlmhknhlmicmeaaGreatDoor
namespace Go.Ab
noncomputable def jq(m:aS):Bool:=dec (1≤m.aC.length)&&(dec (m.aC.length≤5)&&nU m.aC m.fBody)
noncomputable def iZ(x:aT):List (List UInt8):=x.aF.map aS.fName
noncomputable def pX(x:aT):Bool:=validName x.aW&&(dec (x.aC.length≤3)&&(jd x.aC&&(iM x.aC x.aX&&(!nC x.aX&&(dec (x.aX.aH=2∨x.aX.aH=1)&&(among x.aC (gH [] x.aX)&&(mW x.aC x.bE&&((if x.bX=true then iM x.aC x.aY else dec (sH x.aY))&&dec (x.aF.length≤6)))))))))
noncomputable def eO(x:aT):Bool:=pX x&&(x.aF.all jq&&jd (iZ x))
theorem aT.sum(x:aT):x.aW.length+(x.aC.length+bG (x.aC.map encS))+x.aX.sz+(x.bE.length+bG (x.bE.map aO.enc))+x.aY.sz+(x.aF.length+bG (x.aF.map aS.enc))≤x.sz:=by
 simp only[aT.sz,aT.aG,bQ,bP,D.sz,List.length_map,aj.dP]
 omega
theorem aS.sum(x:aS):x.fName.length+(x.aC.length+bG (x.aC.map encS))+x.fBody.sz≤x.sz:=by
 simp only[aS.sz,aS.aG,bQ,bP,D.sz,List.length_map,ay.dP]
 omega
theorem vJ{xs:List aS}{t:aS}(h:t∈xs):t.sz≤bG (xs.map aS.enc):=eP (List.mem_map_of_mem h)
theorem Kq(v:List UInt8):∀(us:List aj) (out:List (List UInt8)),v∈us.foldl qA out↔v∈out∨0<us.countP (G5 v)
 |[],out=>by simp
 |u::us,out=>by
  rw[List.foldl_cons,Kq v us,List.countP_cons]
  have h:v∈qA out u↔v∈out∨G5 v u=true:=by
   unfold qA G5
   split
   ·rename_i h
    simp only[List.mem_append,List.mem_singleton]
    constructor
    ·rintro(h1|h1)
     ·exact .inl h1
     ·right;simp[h1,h.1]
    ·rintro(h1|h1)
     ·exact .inl h1
     ·right;simp at h1;exact h1.2.symm
   ·rename_i h
    constructor
    ·exact .inl
    ·rintro(h1|h1)
     ·exact h1
     ·simp at h1
      by_cases e:u.fName∈out
      ·rw[←h1.2];exact e
      ·exact absurd ⟨h1.1,e⟩ h
  rw[h]
  cases G5 v u<;>simp
theorem TA(v:List UInt8)(t:aj):occurs v t=dec (v∈gH [] t):=by
 unfold occurs gH mR
 rw[jW]
 exact iY (by rw[Kq];simp)
theorem TB{t:aj}(h:kC t=true):t.aH=1∨t.aH=2∨t.aH=3∨t.aH=4:=by
 have h1:=(gq h).1
 rw[tQ,Bool.and_eq_true] at h1
 have h2:=gq h1.1
 omega
theorem V4{t:aj}(h:nC t=false):t.aH≠3:=by
 rw[Br] at h
 intro e
 simp[e] at h
end Go.Ab
namespace Go.Proofs.YtlmhknhlmicmeaaGreatDoor
open Go Go.Ab
set_option maxHeartbeats 2000000 in
theorem FP(x:aT)(hsz:x.sz≤4194304):aI Tryz.prog 143 [x.v] (.c (.d (.b (eO x)))):=fun S=>by
 have hs:=aT.sum x
 have hV:∀s∈x.aC,s.length≤4194304:=fun s h=>by have:=Al h;omega
 have hW:∀b∈x.bE,b.sz≤4194304:=fun b h=>by have:=qm h;omega
 have hM:∀m∈x.aF,m.sz≤4194304:=fun m h=>by have:=vJ h;omega
 have no:pX x=false→V.c (.d (.b false))=V.c (.d (.b (eO x))):=fun h=>aK (by unfold eO;rw[h];rfl)
 refine(show Hold (pX x=true→ ?T)→_ from fun tail=> ?main) ?tp
 case' main=>
  refine aD (rs:=[.tmp 2]) Tryz.checked.mixed Tryz.func143 Tryz.ntmps143 rfl rfl rfl rfl rfl ?_
  simp -implicitDefEqProofs (disch:=omega) only[go_sem]
  repeat' (first
   |with_reducible refine aA (fun hb=> ?_) (fun hb=> ?_)<;>have h:=hb<;>(try simp only[wf_preprocess] at h)<;>simp -implicitDefEqProofs (disch:=omega) only[go_sem,hb]<;>(repeat(with_reducible refine And.intro ?_ ?_;focus first|omega|rfl|assumption|exact⟨_,rfl,rfl⟩|(simp;omega)|(simp;done)))
   |((with_reducible show fO _ _ 168 _ _ _ _);refine au (jD x.aW (by omega)) ?_;simp -implicitDefEqProofs (disch:=omega) only[go_sem])
   |((with_reducible show fO _ _ 169 _ _ _ _);refine au (vW x.aC (by omega) hV) ?_;simp -implicitDefEqProofs (disch:=omega) only[go_sem])
   |((with_reducible show fO _ _ 226 _ _ _ _);refine au (BZ x.aX x.aC (by omega) (by omega)) ?_;simp -implicitDefEqProofs (disch:=omega) only[go_sem])
   |((with_reducible show fO _ _ 226 _ _ _ _);refine au (BZ x.aY x.aC (by omega) (by omega)) ?_;simp -implicitDefEqProofs (disch:=omega) only[go_sem])
   |((with_reducible show fO _ _ 235 _ _ _ _);refine au (Ak x.aX (by omega)) ?_;simp -implicitDefEqProofs (disch:=omega) only[go_sem])
   |((with_reducible show fO _ _ 237 _ _ _ _);refine au (uL x.aX (by omega)) ?_;simp -implicitDefEqProofs (disch:=omega) only[go_sem])
   |((with_reducible show fO _ _ 236 _ _ _ _);refine au (vX x.aC (gH [] x.aX) (by omega) (Io _ (by omega))) ?_;simp -implicitDefEqProofs (disch:=omega) only[go_sem])
   |((with_reducible show fO _ _ 223 _ _ _ _);refine au (N8 x.bE x.aC (by omega) hW (by omega)) ?_;simp -implicitDefEqProofs (disch:=omega) only[go_sem])
   |((with_reducible show fO _ _ 238 _ _ _ _);refine au (Ca x.aY) ?_;simp -implicitDefEqProofs (disch:=omega) only[go_sem])
   |(refine no ?_;unfold pX;grind [gq,jh,bK,aQ]))
  all_goals
   have hh:pX x=true:=by unfold pX;grind [gq,jh,bK,aQ]
   (repeat(with_reducible refine And.intro ?_ ?_;focus first|omega|rfl|assumption|exact⟨_,rfl,rfl⟩|(simp;omega)|(simp;done)))
   refine yu 3 1 [] rfl (by simp) ?_
   refine kX (st':=[.box (x.enc.map .d),.tok 1 []]::S) [3,91,92,93] [.c (.bI (0,1) []),.c (.d (.sl (x.aF.map aS.enc))),.c (.d (.i .i64 x.aF.length)),.c (.d (.i .i64 0))] ?_ ?_ ?_
   ·rfl
   ·first|(simp -implicitDefEqProofs (disch:=omega) only[go_sem];done)|(simp -implicitDefEqProofs (disch:=omega) only[go_sem];simp[*])
   ·exact tail.out hh
 refine⟨fun hh=> ?_⟩
 have bad:∀i,∀hi:i<x.aF.length,jq x.aF[i]=false→V.c (.d (.b false))=V.c (.d (.b (eO x))):=fun i hi h=>by
  have:x.aF.all jq=false:=Bool.eq_false_iff.2 fun hx=>by
   rw[List.all_eq_true.1 hx _ (List.getElem_mem hi)] at h;cases h
  unfold eO
  rw[this];simp
 refine aZ (ι:=Nat×List (List UInt8)) Tryz.checked.mixed rfl [3,91,92,93] (fun y=>[.c (.bI (0,1) (y.2.map encS)),.c (.d (.sl (x.aF.map aS.enc))),.c (.d (.i .i64 x.aF.length)),.c (.d (.i .i64 y.1))]) (fun y=>[.box (x.enc.map .d),.tok 1 (y.2.map encS)]::S)
  (fun y=>y.1≤x.aF.length∧y.2=(iZ x).take y.1∧∀j,∀hj:j<x.aF.length,j<y.1→jq x.aF[j]=true) (fun y=>x.aF.length-y.1) (0,[]) rfl ?_ ⟨Nat.zero_le _,rfl,fun j _ h=>by simp only at h;omega⟩ ?_
 ·simp -implicitDefEqProofs (disch:=omega) only[go_sem]
 rintro⟨i,names⟩ ⟨p1,p2,p3⟩
 simp only at p1 p2 p3
 have pl:names.length≤x.aF.length:=by rw[p2];simp[iZ];omega
 simp -implicitDefEqProofs (disch:=omega) only[go_sem]
 with_reducible refine aA (fun hb=> ?_) (fun hb=> ?_)<;>have h:=hb<;>(try simp only[wf_preprocess] at h)<;>simp -implicitDefEqProofs (disch:=omega) only[go_sem,hb]<;>(repeat(with_reducible refine And.intro ?_ ?_;focus first|omega|rfl|assumption|exact⟨_,rfl,rfl⟩|(simp;omega)|(simp;done)))
 ·have hi:i<x.aF.length:=by omega
  have hm:=hM _ (List.getElem_mem hi)
  have hms:=aS.sum x.aF[i]
  have hmv:∀s∈x.aF[i].aC,s.length≤4194304:=fun s h=>by have:=Al h;omega
  (repeat(with_reducible refine And.intro ?_ ?_;focus first|omega|rfl|assumption|exact⟨_,rfl,rfl⟩|(simp;omega)|(simp;done)))
  with_reducible refine aA (fun hb=> ?_) (fun hb=> ?_)<;>have h:=hb<;>(try simp only[wf_preprocess] at h)<;>simp -implicitDefEqProofs (disch:=omega) only[go_sem,hb]<;>(repeat(with_reducible refine And.intro ?_ ?_;focus first|omega|rfl|assumption|exact⟨_,rfl,rfl⟩|(simp;omega)|(simp;done)))
  ·exact bad i hi (by unfold jq;rw[aQ (by omega)];rfl)
  (repeat(with_reducible refine And.intro ?_ ?_;focus first|omega|rfl|assumption|exact⟨_,rfl,rfl⟩|(simp;omega)|(simp;done)))
  with_reducible refine aA (fun hb=> ?_) (fun hb=> ?_)<;>have h:=hb<;>(try simp only[wf_preprocess] at h)<;>simp -implicitDefEqProofs (disch:=omega) only[go_sem,hb]<;>(repeat(with_reducible refine And.intro ?_ ?_;focus first|omega|rfl|assumption|exact⟨_,rfl,rfl⟩|(simp;omega)|(simp;done)))
  ·exact bad i hi (by unfold jq;rw[aQ (show ¬x.aF[i].aC.length≤5 by omega)];simp)
  (repeat(with_reducible refine And.intro ?_ ?_;focus first|omega|rfl|assumption|exact⟨_,rfl,rfl⟩|(simp;omega)|(simp;done)))
  refine au (VZ x.aF[i].aC x.aF[i].fBody (by omega) hmv (by omega)) ?_
  simp -implicitDefEqProofs (disch:=omega) only[go_sem]<;>(repeat(with_reducible refine And.intro ?_ ?_;focus first|omega|rfl|assumption|exact⟨_,rfl,rfl⟩|(simp;omega)|(simp;done)))
  with_reducible refine aA (fun hb=> ?_) (fun hb=> ?_)<;>have h:=hb<;>(try simp only[wf_preprocess] at h)<;>simp -implicitDefEqProofs (disch:=omega) only[go_sem,hb]<;>(repeat(with_reducible refine And.intro ?_ ?_;focus first|omega|rfl|assumption|exact⟨_,rfl,rfl⟩|(simp;omega)|(simp;done)))
  ·exact bad i hi (by unfold jq;rw[h];simp)
  have k2:=h
  have k3:jq x.aF[i]=true:=by unfold jq;rw[k2,bK (by omega),bK (by omega)];rfl
  (repeat(with_reducible refine And.intro ?_ ?_;focus first|omega|rfl|assumption|exact⟨_,rfl,rfl⟩|(simp;omega)|(simp;done)))
  rw[show List.map encS names++[[D.s x.aF[i].fName]]=List.map encS (names++[x.aF[i].fName]) by simp[encS]]
  exact dO 2 (by decide) (i+1,names++[x.aF[i].fName]) (by simp only;omega) rfl rfl rfl rfl ⟨by simp only;omega,by simp only;rw[p2,uf (by simpa [iZ] using hi)];simp[iZ],fun j hj hji=>by
   simp only at hji
   by_cases e:j=i
   ·subst e;exact k3
   ·exact p3 j hj (by omega)⟩
 have hi:i=x.aF.length:=by omega
 have hn:names=iZ x:=by rw[p2,List.take_of_length_le (by simp[iZ];omega)]
 have hall:x.aF.all jq=true:=List.all_eq_true.2 fun c hc=>by
  obtain⟨j,hj,e⟩:=List.getElem_of_mem hc
  rw[←e];exact p3 j hj (by omega)
 have hnl:∀s∈names,s.length≤4194304:=fun s hm=>by
  rw[hn] at hm
  obtain⟨g,hg,e⟩:=List.mem_map.1 hm
  have:=hM g hg
  have:=aS.sum g
  rw[←e];omega
 refine au (vW names (by omega) hnl) ?_
 simp -implicitDefEqProofs (disch:=omega) only[go_sem]<;>(repeat(with_reducible refine And.intro ?_ ?_;focus first|omega|rfl|assumption|exact⟨_,rfl,rfl⟩|(simp;omega)|(simp;done)))
 exact aK (by unfold eO;rw[hh,hall,hn];rfl)
set_option maxHeartbeats 2000000 in
theorem mX(x:aT)(hsz:x.sz≤4194304):aI Tryz.prog 161 [x.v] (.c (.d (.b (eO x)))):=fun S=>by
 have hs:=aT.sum x
 have hV:∀s∈x.aC,s.length≤4194304:=fun s h=>by have:=Al h;omega
 have hW:∀b∈x.bE,b.sz≤4194304:=fun b h=>by have:=qm h;omega
 have hM:∀m∈x.aF,m.sz≤4194304:=fun m h=>by have:=vJ h;omega
 have bad:x.aF.all jq=false→V.c (.d (.b false))=V.c (.d (.b (eO x))):=fun h=>aK (by unfold eO;rw[h];simp)
 have no:pX x=false→V.c (.d (.b false))=V.c (.d (.b (eO x))):=fun h=>aK (by unfold eO;rw[h];rfl)
 have hk:iM x.aC x.aX=true→nC x.aX=false→(x.aX.aH=1∨x.aX.aH=2∨x.aX.aH=4):=fun h1 h2=>by
  unfold iM at h1
  rw[Bool.and_eq_true] at h1
  have:=TB h1.1
  have:=V4 h2
  omega
 refine aD (rs:=[.tmp 2]) Tryz.checked.mixed Tryz.func161 Tryz.ntmps161 rfl rfl rfl rfl rfl ?_
 simp -implicitDefEqProofs (disch:=omega) only[go_sem]
 repeat' (first
  |with_reducible refine aA (fun hb=> ?_) (fun hb=> ?_)<;>have h:=hb<;>(try simp only[wf_preprocess] at h)<;>simp -implicitDefEqProofs (disch:=omega) only[go_sem,hb]<;>(repeat(with_reducible refine And.intro ?_ ?_;focus first|omega|rfl|assumption|exact⟨_,rfl,rfl⟩|(simp;omega)|(simp;done)))
  |((with_reducible show fO _ _ 152 _ _ _ _);refine au (jE x.aW (by omega)) ?_;simp -implicitDefEqProofs (disch:=omega) only[go_sem])
  |((with_reducible show fO _ _ 153 _ _ _ _);refine au (zQ x.aC 3 (by omega) hV) ?_;simp -implicitDefEqProofs (disch:=omega) only[go_sem])
  |((with_reducible show fO _ _ 250 _ _ _ _);refine au (Bv x.aX x.aC (by omega) (by omega)) ?_;simp -implicitDefEqProofs (disch:=omega) only[go_sem])
  |((with_reducible show fO _ _ 251 _ _ _ _);refine au (Aj x.aX (by omega)) ?_;simp -implicitDefEqProofs (disch:=omega) only[go_sem])
  |((with_reducible show fO _ _ 252 _ _ _ _);refine au (PU x.bE x.aC (by omega) hW (by omega)) ?_;simp -implicitDefEqProofs (disch:=omega) only[go_sem])
  |(refine no ?_;unfold pX;grind [gq,jh,bK,aQ]))
 all_goals
  have h1:validName x.aW=true:=by assumption
  have h2:(dec ((x.aC.length:Int)≤3)&&jd x.aC)=true:=by assumption
  have h3:iM x.aC x.aX=true:=by assumption
  have h4:nC x.aX=false:=by assumption
  have h5:¬x.aX.aH=4:=by assumption
  have h6:mW x.aC x.bE=true:=by assumption
 have h7:=hk h3 h4
 clear hk
 rw[Bool.and_eq_true] at h2
 have h8:=gq h2.1
 have pre:pX x=(among x.aC (gH [] x.aX)&&((if x.bX=true then iM x.aC x.aY else dec (sH x.aY))&&dec (x.aF.length≤6))):=by
  unfold pX
  rw[h1,h2.2,h3,h4,h6,bK (show x.aC.length≤3 by omega),bK (show x.aX.aH=2∨x.aX.aH=1 by omega)]
  simp
 clear h1 h2 h3 h4 h5 h6 h7 h8
 refine aZ (ι:=Nat) Tryz.checked.mixed rfl [1,3] (fun i=>[.c (.ptr (0,0) 0),.c (.d (.i .i64 i))]) (fun _=>[.box (x.enc.map .d)]::S)
  (fun i=>i≤x.aC.length∧among (x.aC.drop i) (gH [] x.aX)=among x.aC (gH [] x.aX)) (fun i=>x.aC.length-i) 0 rfl ?_ ⟨Nat.zero_le _,rfl⟩ ?_
 ·simp -implicitDefEqProofs (disch:=omega) only[go_sem]
 rintro i ⟨p1,p2⟩
 simp -implicitDefEqProofs (disch:=omega) only[go_sem,encS]
 with_reducible refine aA (fun hb=> ?_) (fun hb=> ?_)<;>have h:=hb<;>(try simp only[wf_preprocess] at h)<;>simp -implicitDefEqProofs (disch:=omega) only[go_sem,hb,encS]<;>(repeat(with_reducible refine And.intro ?_ ?_;focus first|omega|rfl|assumption|exact⟨_,rfl,rfl⟩|(simp;omega)|(simp;done)))
 ·have hi:i<x.aC.length:=by omega
  rw[List.drop_eq_getElem_cons hi] at p2
  have p3:among x.aC (gH [] x.aX)=(dec (x.aC[i]∈gH [] x.aX)&&among (x.aC.drop (i+1)) (gH [] x.aX)):=p2.symm
  (repeat(with_reducible refine And.intro ?_ ?_;focus first|omega|rfl|assumption|exact⟨_,rfl,rfl⟩|(simp;omega)|(simp;done)))
  refine au (KR x.aC[i] x.aX (by omega)) ?_
  simp -implicitDefEqProofs (disch:=omega) only[go_sem]<;>(repeat(with_reducible refine And.intro ?_ ?_;focus first|omega|rfl|assumption|exact⟨_,rfl,rfl⟩|(simp;omega)|(simp;done)))
  rw[TA]
  with_reducible refine aA (fun hb=> ?_) (fun hb=> ?_)<;>have h:=hb<;>(try simp only[wf_preprocess] at h)<;>simp -implicitDefEqProofs (disch:=omega) only[go_sem,hb]<;>(repeat(with_reducible refine And.intro ?_ ?_;focus first|omega|rfl|assumption|exact⟨_,rfl,rfl⟩|(simp;omega)|(simp;done)))
  ·exact no (by rw[pre,p3,aQ h];rfl)
  ·exact bL (i+1) (by omega) rfl rfl ⟨by omega,by rw[p3,bK h];rfl⟩
 rw[List.drop_of_length_le (by omega)] at p2
 have p3:among x.aC (gH [] x.aX)=true:=p2.symm
 rw[p3,Bool.true_and] at pre
 refine(show Hold ((if x.bX=true then iM x.aC x.aY else dec (sH x.aY))=true→ ?T)→_ from fun tail=> ?main) ?tp
 case' main=>
  repeat' (first
   |with_reducible refine aA (fun hb=> ?_) (fun hb=> ?_)<;>have h:=hb<;>(try simp only[wf_preprocess] at h)<;>simp -implicitDefEqProofs (disch:=omega) only[go_sem,hb]<;>(repeat(with_reducible refine And.intro ?_ ?_;focus first|omega|rfl|assumption|exact⟨_,rfl,rfl⟩|(simp;omega)|(simp;done)))
   |((with_reducible show fO _ _ 250 _ _ _ _);refine au (Bv x.aY x.aC (by omega) (by omega)) ?_;simp -implicitDefEqProofs (disch:=omega) only[go_sem])
   |((with_reducible show fO _ _ 254 _ _ _ _);refine au (Ii x.aY) ?_;simp -implicitDefEqProofs (disch:=omega) only[go_sem])
   |(refine no ?_;rw[pre];grind [gq,jh,bK,aQ]))
  all_goals
   have hh:(if x.bX=true then iM x.aC x.aY else dec (sH x.aY))=true:=by grind [gq,jh,bK,aQ]
   (repeat(with_reducible refine And.intro ?_ ?_;focus first|omega|rfl|assumption|exact⟨_,rfl,rfl⟩|(simp;omega)|(simp;done)))
   refine yu 4 1 [] rfl (by simp) ?_
   refine kX (st':=[.box (x.enc.map .d),.tok 1 []]::S) [1,4,5] [.c (.ptr (0,0) 0),.c (.bI (0,1) []),.c (.d (.i .i64 0))] ?_ ?_ ?_
   ·rfl
   ·first|(simp -implicitDefEqProofs (disch:=omega) only[go_sem];done)|(simp -implicitDefEqProofs (disch:=omega) only[go_sem];simp[*])
   ·exact tail.out hh
 refine⟨fun hh=> ?_⟩
 rw[hh,Bool.true_and] at pre
 clear p2 p3 p1 hh no
 have YJ:∀i,∀hi:i<x.aF.length,jq x.aF[i]=false→V.c (.d (.b false))=V.c (.d (.b (eO x))):=fun i hi h=>bad (Bool.eq_false_iff.2 fun hx=>by
  rw[List.all_eq_true.1 hx _ (List.getElem_mem hi)] at h;cases h)
 refine aZ (ι:=Nat×List (List UInt8)) Tryz.checked.mixed rfl [1,4,5] (fun y=>[.c (.ptr (0,0) 0),.c (.bI (0,1) (y.2.map encS)),.c (.d (.i .i64 y.1))]) (fun y=>[.box (x.enc.map .d),.tok 1 (y.2.map encS)]::S)
  (fun y=>y.1≤x.aF.length∧y.2=(iZ x).take y.1∧∀j,∀hj:j<x.aF.length,j<y.1→jq x.aF[j]=true) (fun y=>x.aF.length-y.1) (0,[]) rfl ?_ ⟨Nat.zero_le _,rfl,fun j _ h=>by simp only at h;omega⟩ ?_
 ·simp -implicitDefEqProofs (disch:=omega) only[go_sem]
 rintro⟨i,names⟩ ⟨p1,p2,p3⟩
 simp only at p1 p2 p3
 have pl:names.length≤x.aF.length:=by rw[p2];simp[iZ];omega
 simp -implicitDefEqProofs (disch:=omega) only[go_sem]
 with_reducible refine aA (fun hb=> ?_) (fun hb=> ?_)<;>have h:=hb<;>(try simp only[wf_preprocess] at h)<;>simp -implicitDefEqProofs (disch:=omega) only[go_sem,hb]<;>(repeat(with_reducible refine And.intro ?_ ?_;focus first|omega|rfl|assumption|exact⟨_,rfl,rfl⟩|(simp;omega)|(simp;done)))
 ·have hi:i<x.aF.length:=by omega
  have hm:=hM _ (List.getElem_mem hi)
  have hms:=aS.sum x.aF[i]
  have hmv:∀s∈x.aF[i].aC,s.length≤4194304:=fun s h=>by have:=Al h;omega
  (repeat(with_reducible refine And.intro ?_ ?_;focus first|omega|rfl|assumption|exact⟨_,rfl,rfl⟩|(simp;omega)|(simp;done)))
  with_reducible refine aA (fun hb=> ?_) (fun hb=> ?_)<;>have h:=hb<;>(try simp only[wf_preprocess] at h)<;>simp -implicitDefEqProofs (disch:=omega) only[go_sem,hb]<;>(repeat(with_reducible refine And.intro ?_ ?_;focus first|omega|rfl|assumption|exact⟨_,rfl,rfl⟩|(simp;omega)|(simp;done)))
  ·exact YJ i hi (by unfold jq;rw[aQ (by omega)];rfl)
  (repeat(with_reducible refine And.intro ?_ ?_;focus first|omega|rfl|assumption|exact⟨_,rfl,rfl⟩|(simp;omega)|(simp;done)))
  refine au (zQ x.aF[i].aC 5 (by omega) hmv) ?_
  simp -implicitDefEqProofs (disch:=omega) only[go_sem]<;>(repeat(with_reducible refine And.intro ?_ ?_;focus first|omega|rfl|assumption|exact⟨_,rfl,rfl⟩|(simp;omega)|(simp;done)))
  with_reducible refine aA (fun hb=> ?_) (fun hb=> ?_)<;>have h:=hb<;>(try simp only[wf_preprocess] at h)<;>simp -implicitDefEqProofs (disch:=omega) only[go_sem,hb]<;>(repeat(with_reducible refine And.intro ?_ ?_;focus first|omega|rfl|assumption|exact⟨_,rfl,rfl⟩|(simp;omega)|(simp;done)))
  ·refine YJ i hi ?_
   unfold jq nU
   have:(dec (x.aF[i].aC.length≤5)&&jd x.aF[i].aC)=false:=by
    rw[←h];congr 1;exact iY ⟨fun h=>by omega,fun h=>by omega⟩
   rw[←Bool.and_assoc (dec (x.aF[i].aC.length≤5)),this];simp
  have k1:=h
  rw[Bool.and_eq_true] at k1
  have k4:=gq k1.1
  (repeat(with_reducible refine And.intro ?_ ?_;focus first|omega|rfl|assumption|exact⟨_,rfl,rfl⟩|(simp;omega)|(simp;done)))
  refine au (Tw x.aF[i].aC x.aF[i].fBody (by omega) (by omega)) ?_
  simp -implicitDefEqProofs (disch:=omega) only[go_sem]<;>(repeat(with_reducible refine And.intro ?_ ?_;focus first|omega|rfl|assumption|exact⟨_,rfl,rfl⟩|(simp;omega)|(simp;done)))
  with_reducible refine aA (fun hb=> ?_) (fun hb=> ?_)<;>have h:=hb<;>(try simp only[wf_preprocess] at h)<;>simp -implicitDefEqProofs (disch:=omega) only[go_sem,hb]<;>(repeat(with_reducible refine And.intro ?_ ?_;focus first|omega|rfl|assumption|exact⟨_,rfl,rfl⟩|(simp;omega)|(simp;done)))
  ·exact YJ i hi (by unfold jq nU;rw[h];simp)
  have k2:=h
  have k3:jq x.aF[i]=true:=by unfold jq nU;rw[k2,k1.2,bK (by omega),bK (by omega)];rfl
  (repeat(with_reducible refine And.intro ?_ ?_;focus first|omega|rfl|assumption|exact⟨_,rfl,rfl⟩|(simp;omega)|(simp;done)))
  rw[show List.map encS names++[[D.s x.aF[i].fName]]=List.map encS (names++[x.aF[i].fName]) by simp[encS]]
  exact dO 2 (by decide) (i+1,names++[x.aF[i].fName]) (by simp only;omega) rfl rfl rfl rfl ⟨by simp only;omega,by simp only;rw[p2,uf (by simpa [iZ] using hi)];simp[iZ],fun j hj hji=>by
   simp only at hji
   by_cases e:j=i
   ·subst e;exact k3
   ·exact p3 j hj (by omega)⟩
 have hi:i=x.aF.length:=by omega
 have hn:names=iZ x:=by rw[p2,List.take_of_length_le (by simp[iZ];omega)]
 have hall:x.aF.all jq=true:=List.all_eq_true.2 fun c hc=>by
  obtain⟨j,hj,e⟩:=List.getElem_of_mem hc
  rw[←e];exact p3 j hj (by omega)
 have hnl:∀s∈names,s.length≤4194304:=fun s hm=>by
  rw[hn] at hm
  obtain⟨g,hg,e⟩:=List.mem_map.1 hm
  have:=hM g hg
  have:=aS.sum g
  rw[←e];omega
 have hlen:names.length=x.aF.length:=by rw[hn];simp[iZ]
 refine au (zQ names 6 (by omega) hnl) ?_
 simp -implicitDefEqProofs (disch:=omega) only[go_sem]<;>(repeat(with_reducible refine And.intro ?_ ?_;focus first|omega|rfl|assumption|exact⟨_,rfl,rfl⟩|(simp;omega)|(simp;done)))
 refine aK ?_
 unfold eO
 rw[pre,hall,hn,Bool.true_and]
 congr 1
 rw[←hn,hlen]
 exact iY ⟨fun h=>by omega,fun h=>by omega⟩
end Go.Proofs.YtlmhknhlmicmeaaGreatDoor
namespace Go.Ab
def uV(P:Program)(N:Nat)(g:St→St):Nat→Code→(Exit→St→Prop)→St→Prop
 |0,c,Q,s=>CW P N c Q (g s)
 |k+1,.seq x y,Q,s=>CW P N x (kJ (uV P N g k y Q) Q) s
 |_,_,_,_=>False
theorem Od{P:Program}{N:Nat}{g:St→St}{c:Code}{Q:Exit→St→Prop}{s:St}:uV P N g 0 c Q s=CW P N c Q (g s):=by rw[uV]
theorem vK{P:Program}{N k:Nat}{g:St→St}{x y:Code}{Q:Exit→St→Prop}{s:St}:uV P N g (k+1) (.seq x y) Q s=CW P N x (kJ (uV P N g k y Q) Q) s:=by rw[uV]
theorem YK{P:Program}{N:Nat}{g:St→St}{x y:Code}{Q:Exit→St→Prop}{s:St}:uV P N g 5 (.seq x y) Q s=CW P N x (kJ (uV P N g 4 y Q) Q) s:=vK
theorem YL{P:Program}{N:Nat}{g:St→St}{x y:Code}{Q:Exit→St→Prop}{s:St}:uV P N g 4 (.seq x y) Q s=CW P N x (kJ (uV P N g 3 y Q) Q) s:=vK
theorem V5{P:Program}{N:Nat}{g:St→St}{x y:Code}{Q:Exit→St→Prop}{s:St}:uV P N g 3 (.seq x y) Q s=CW P N x (kJ (uV P N g 2 y Q) Q) s:=vK
theorem aaO{P:Program}{N:Nat}{g:St→St}{x y:Code}{Q:Exit→St→Prop}{s:St}:uV P N g 2 (.seq x y) Q s=CW P N x (kJ (uV P N g 1 y Q) Q) s:=vK
theorem aaP{P:Program}{N:Nat}{g:St→St}{x y:Code}{Q:Exit→St→Prop}{s:St}:uV P N g 1 (.seq x y) Q s=CW P N x (kJ (uV P N g 0 y Q) Q) s:=vK
attribute [go_sem] Od YK YL V5 aaO aaP
theorem Kr{P:Program}{N:Nat}{g:St→St}(hg:∀s,fK N s (g s))(iI:P.follows .mixedOrders=true):∀(k:Nat) (c:Code) (Q:Exit→St→Prop) (s:St),codeOk N c=true→uV P N g k c Q s→AW P N c Q s
 |0,c,Q,s,ok,h=>by
  rw[Od] at h
  exact kS (kU iI c Q _ ok h) (hg s)
 |k+1,.seq x y,Q,s,ok,h=>by
  rw[vK] at h
  simp only[codeOk,Bool.and_eq_true] at ok
  refine TU (AW.mono (kU iI x _ s ok.1 h) fun e s' h'=> ?_)
  cases e with
  |normal=>exact Kr hg iI k y Q s' ok.2 h'
  |_=>exact h'
 |k+1,.region ..,_,_,_,h=>h.elim
 |k+1,.cond ..,_,_,_,h=>h.elim
 |k+1,.block ..,_,_,_,h=>h.elim
 |k+1,.exit ..,_,_,_,h=>h.elim
 |k+1,.ret,_,_,_,h=>h.elim
 |k+1,.skip,_,_,_,h=>h.elim
 |k+1,.loop ..,_,_,_,h=>h.elim
theorem wh{P:Program}{S:Store}{N:Nat}(n k n' pos:Nat){f:FuncId}{fn:Func}{c:Code}{args:List V}{post:V→Store→Prop}{rs:List ResultVar}(iI:P.follows .mixedOrders=true)(hf:P.funcs[f]? =some fn)(hN:fn.ntmps=N)
 (hb:fn.body=some c) (hn:(fn.name== "runtime.NumGoroutine")=false) (hr:fn.results.toList=rs) (hl:Nat.ble args.length N=true) (hok:codeOk N c=true)
 (h:uV P N (yT n') pos c (MW P n rs post) ⟨nH (args.map (V.up 1)) 0,[.seed n,.seed k]::S⟩):bD P f args S post:=by
 subst hN
 subst hr
 exact vQ hf hb hn (Nat.le_of_ble_eq_true hl) (MZ n k (Gn (yI n) (Kr (Jk n') iI pos c _ _ hok h)))
def rQ:List UInt8:=[105,110,115,116]
def j5:List UInt8:=[100,101,102,97,117,108,116]
def ig(x:aT):List (List UInt8):=if x.dW=true then [j5] else []
def iq(x:aT):List ah:=if x.bX=true then [dx x.aY] else []
def kI(m:aS):ah:=bS [bq m.fName,bS (aN m.aC),dQ m.fBody]
def jR(x:aT):List ah:=[bq rQ,bq x.aW,bS (aN x.aC),dx x.aX,bS (x.bE.map nk),bS (aN (ig x)),bS (iq x)]
def rT(x:aT):ah:=bS (jR x++x.aF.map kI)
noncomputable def Oe(x:aT):ah:=zN (eO x) (rT x)
theorem aaQ{x:aT}(h:x.sz≤1048576):(Oe x).sz≤1048576:=Nat.le_trans (aad _ _) (by decide)
theorem aaR(m:aS)(hok:gD m.fBody=true):(kI m).sz≤27+32*m.sz:=by
 have h1:=Ny m.fBody hok
 have h3:=aS.sum m
 rw[fV] at h3
 rw[kI,rG]
 simp[dN,lV,rG,jI,ze];omega
theorem Og:∀l:List aS,(∀g∈l,gD g.fBody=true)→dN (l.map kI)≤27*l.length+32*bG (l.map aS.enc)
 |[],_=>by simp[dN]
 |c::l,h=>by
  have h1:=aaR c (h c (List.mem_cons_self ..))
  have h2:=Og l fun g hg=>h g (List.mem_cons_of_mem _ hg)
  rw[List.map_cons,dN,List.map_cons,bG,List.length_cons];simp only[aS.sz] at h1;omega
theorem j6{x:aT}(h:eO x=true):formed x.aX=true∧(∀b∈x.bE,formed b.fType=true)∧(x.bX=true→formed x.aY=true)∧(∀m∈x.aF,gD m.fBody=true):=by
 unfold eO pX at h
 simp only[Bool.and_eq_true] at h
 obtain⟨⟨_,_,_,h1,_,_,_,h2,h3,_⟩,h4,_⟩:=h
 refine⟨zC h1,Es h2,fun ha=> ?_,fun m hm=> ?_⟩
 ·rw[if_pos ha] at h3;exact zC h3
 ·have h5:=List.all_eq_true.1 h4 m hm
  unfold jq at h5
  simp only[Bool.and_eq_true] at h5
  exact Ko h5.2.2
theorem DI{x:aT}(hok:eO x=true):(rT x).sz≤96+40*x.sz:=by
 obtain⟨_,_,_,hm⟩:=j6 hok
 have h1:=Og x.aF hm
 have h2:=QB x.bE
 have h3:=aT.sum x
 have h4:=CB x.aX
 have h5:=CB x.aY
 have h6:(ig x).length≤1∧((ig x).map List.length).sum≤7:=by unfold ig;split<;>simp[j5]
 have h7:(iq x).length≤1∧dN (iq x)≤(dx x.aY).sz:=by unfold iq;split<;>simp[dN]
 rw[fV] at h3
 rw[rT,rG,mD,List.length_append,List.length_map]
 simp[jR,dN,lV,rG,jI,ze,rQ];omega
theorem TD(n:Nat)(a b:List UInt8)(w v:List (List UInt8))(h:ah)(bs zs:List ah):lx [bq a,bq b,bS (aN w),h,bS bs,bS (aN v),bS zs] (n+1)=[[.s a,.ol (n+1) []],[.s b,.ol (n+1+1) []],[.s [],.ol (n+1+1+1) (lx (aN w) (n+1+1+1+1))],[.s h.aU,.ol (n+1+1+1+dS (bS (aN w))) (lx h.ak (n+1+1+1+dS (bS (aN w))+1))],[.s [],.ol (n+1+1+1+dS (bS (aN w))+dS h) (lx bs (n+1+1+1+dS (bS (aN w))+dS h+1))],
 [.s [],.ol (n+1+1+1+dS (bS (aN w))+dS h+dS (bS bs)) (lx (aN v) (n+1+1+1+dS (bS (aN w))+dS h+dS (bS bs)+1))],[.s [],.ol (n+1+1+1+dS (bS (aN w))+dS h+dS (bS bs)+dS (bS (aN v))) (lx zs (n+1+1+1+dS (bS (aN w))+dS h+dS (bS bs)+dS (bS (aN v))+1))]]:=by
 simp only[oI,sw,nD,uH,uI,dY,dI,uh]
theorem Oh(n:Nat)(es:List (List D)):Less (.c (.d (.ol n es))) (.c (.d (.sl es))):=fun w σ S β v h=>⟨qJ h.1,h.2⟩
end Go.Ab
namespace Go.Proofs.YtlmhknhlmicmeaaGreatDoor
open Go Go.Ab
set_option maxHeartbeats 4000000 in
theorem Oi(x:aT)(n:Nat)(hv:eO x=true)(hsz:x.sz≤1048576):aI Tryz.prog 71 [x.v] (.agg [.d (.s []),.d (.ol n (lx (rT x).ak (n+1)))]):=fun S=>by
 have hdz:=aT.sum x
 rw[fV] at hdz
 obtain⟨hf1,hf2,hf3,Ir⟩:=j6 hv
 obtain⟨p,hp⟩:∃p:Nat,p=n+1+1+1+dS (bS (aN x.aC))+dS (dx x.aX)+dS (bS (x.bE.map nk))+dS (bS (aN (ig x))):=⟨_,rfl⟩
 obtain⟨L,hL⟩:∃L:Nat→Nat,L=fun i=>n+1+iw (jR x++(x.aF.map kI).take i):=⟨_,rfl⟩
 obtain⟨T,hT⟩:∃T:Nat→List (List D),T=fun i=>lx (jR x++(x.aF.map kI).take i) (n+1):=⟨_,rfl⟩
 have hT0:T 0=[[.s rQ,.ol (n+1) []],[.s x.aW,.ol (n+1+1) []],[.s [],.ol (n+1+1+1) (lx (aN x.aC) (n+1+1+1+1))],[.s (dx x.aX).aU,.ol (n+1+1+1+dS (bS (aN x.aC))) (lx (dx x.aX).ak (n+1+1+1+dS (bS (aN x.aC))+1))],[.s [],.ol (n+1+1+1+dS (bS (aN x.aC))+dS (dx x.aX)) (lx (x.bE.map nk) (n+1+1+1+dS (bS (aN x.aC))+dS (dx x.aX)+1))],[.s [],.ol (n+1+1+1+dS (bS (aN x.aC))+dS (dx x.aX)+dS (bS (x.bE.map nk))) (lx (aN (ig x)) (n+1+1+1+dS (bS (aN x.aC))+dS (dx x.aX)+dS (bS (x.bE.map nk))+1))],[.s [],.ol p (lx (iq x) (p+1))]]:=by
  rw[hT,hp];simp only[List.take_zero,List.append_nil,jR,TD]
 have kF:∀i,(T i).length≤i+7:=fun i=>by
  rw[hT];simp only[gT,List.length_append]
  have:=List.length_take_le i (x.aF.map kI)
  simp[jR];omega
 have hTs:∀i (hi:i<x.aF.length),T i++[[.s [],.ol (L i) [[.s x.aF[i].fName,.ol (L i+1) []],[.s [],.ol (L i+1+1) (lx (aN x.aF[i].aC) (L i+1+1+1))],[.s (dQ x.aF[i].fBody).aU,.ol (L i+1+1+dS (bS (aN x.aF[i].aC))) (lx (dQ x.aF[i].fBody).ak (L i+1+1+dS (bS (aN x.aF[i].aC))+1))]]]]=T (i+1):=fun i hi=>by
  have:=Ns (base:=jR x) (l:=x.aF.map kI) (i:=i) (by rw[List.length_map];exact hi) (n+1)
  rw[List.getElem_map,kI,dY,dI] at this
  simp only[oI,sw,nD,uH,uI,dY,dI,uh] at this
  rw[hT,hL];exact this
 have hTr:∀i,∀r∈T i,r.length=2:=fun i=>by rw[hT];exact lW
 have hTe:T x.aF.length=lx (rT x).ak (n+1):=by
  rw[hT];simp only
  rw[List.take_of_length_le (by simp)];rfl
 clear hT hL
 refine(show Hold ?T→_ from fun tail=> ?main) ?tp
 case' main=>
  cases ha:x.dW<;>cases hs:x.bX
  ·have hfl:ig x=[]:=by unfold ig;rw[ha];rfl
   have has:iq x=[]:=by unfold iq;rw[hs];rfl
   refine wh (p) 1 (n) 5 (rs:=[.cell 2 32]) Tryz.checked.mixed Tryz.func71 Tryz.ntmps71 rfl rfl rfl rfl rfl ?_
   simp -implicitDefEqProofs (disch:=omega) only[go_sem,ha,hs]
   (repeat(with_reducible refine And.intro ?_ ?_;focus first|omega|rfl|assumption|exact⟨_,rfl,rfl⟩|(simp;omega)|(simp;done)))
   refine au (dJ _ (n+1)) ?_
   simp -implicitDefEqProofs (disch:=omega) only[go_sem]
   refine au (dJ _ (n+1+1)) ?_
   simp -implicitDefEqProofs (disch:=omega) only[go_sem]
   refine au (gW x.aC (by omega) (n+1+1+1)) ?_
   simp -implicitDefEqProofs (disch:=omega) only[go_sem]
   refine au (nS x.aX (n+1+1+1+dS (bS (aN x.aC))) hf1 (by omega)) ?_
   simp -implicitDefEqProofs (disch:=omega) only[go_sem]
   refine au (sK x.bE (n+1+1+1+dS (bS (aN x.aC))+dS (dx x.aX)) hf2 (by omega) (fun b hb=>by have:=qm hb;omega)) ?_
   simp -implicitDefEqProofs (disch:=omega) only[go_sem]
   refine yH (gW [] (by simp) (n+1+1+1+dS (bS (aN x.aC))+dS (dx x.aX)+dS (bS (x.bE.map nk)))) (.cons (lQ p _) .nil) ?_
   simp -implicitDefEqProofs (disch:=omega) only[go_sem]
   refine au (rO _ _) ?_
   simp -implicitDefEqProofs (disch:=omega) only[go_sem]
   (repeat(with_reducible refine And.intro ?_ ?_;focus first|omega|rfl|assumption|exact⟨_,rfl,rfl⟩|(simp;omega)|(simp;done)))
   refine mJ n 5 2 (T 0) (.inl ?_) (hTr 0) ?_
   ·rw[hT0,hfl,has];rfl
   refine wD (L 0) ?_
   refine kX (st':=[.seed (L 0),.seed 1,.box [.d (.s x.aW),.d (.sl (x.aC.map encS)),.d (.i .i64 x.aX.aH),.d (.s x.aX.fName),.d (.sl (x.aX.fArgs.map aj.enc)),.d (.sl (x.bE.map aO.enc)),.d (.b x.dW),.d (.b x.bX),.d (.i .i64 x.aY.aH),.d (.s x.aY.fName),.d (.sl (x.aY.fArgs.map aj.enc)),.d (.sl (x.aF.map aS.enc))],.box [.d (.s []),.aM []],.dZ n 2 (T 0)]::S) [2,5,42,43,44] [.c (.ptr (0,3) 0),.c (.bI (0,4) (T 0)),.c (.d (.sl (x.aF.map aS.enc))),.c (.d (.i .i64 x.aF.length)),.c (.d (.i .i64 0))] ?_ ?_ ?_
   ·rfl
   ·rw[ha,hs];rfl
   ·exact tail.out
  ·have hfl:ig x=[]:=by unfold ig;rw[ha];rfl
   have has:iq x=[dx x.aY]:=by unfold iq;rw[hs];rfl
   refine wh (p) 1 (n) 5 (rs:=[.cell 2 32]) Tryz.checked.mixed Tryz.func71 Tryz.ntmps71 rfl rfl rfl rfl rfl ?_
   simp -implicitDefEqProofs (disch:=omega) only[go_sem,ha,hs]
   (repeat(with_reducible refine And.intro ?_ ?_;focus first|omega|rfl|assumption|exact⟨_,rfl,rfl⟩|(simp;omega)|(simp;done)))
   refine au (nS x.aY (p+1) (hf3 hs) (by omega)) ?_
   simp -implicitDefEqProofs (disch:=omega) only[go_sem]
   (repeat(with_reducible refine And.intro ?_ ?_;focus first|omega|rfl|assumption|exact⟨_,rfl,rfl⟩|(simp;omega)|(simp;done)))
   refine au (dJ _ (n+1)) ?_
   simp -implicitDefEqProofs (disch:=omega) only[go_sem]
   refine au (dJ _ (n+1+1)) ?_
   simp -implicitDefEqProofs (disch:=omega) only[go_sem]
   refine au (gW x.aC (by omega) (n+1+1+1)) ?_
   simp -implicitDefEqProofs (disch:=omega) only[go_sem]
   refine au (nS x.aX (n+1+1+1+dS (bS (aN x.aC))) hf1 (by omega)) ?_
   simp -implicitDefEqProofs (disch:=omega) only[go_sem]
   refine au (sK x.bE (n+1+1+1+dS (bS (aN x.aC))+dS (dx x.aX)) hf2 (by omega) (fun b hb=>by have:=qm hb;omega)) ?_
   simp -implicitDefEqProofs (disch:=omega) only[go_sem]
   refine yH (gW [] (by simp) (n+1+1+1+dS (bS (aN x.aC))+dS (dx x.aX)+dS (bS (x.bE.map nk)))) (.cons (lQ p _) .nil) ?_
   simp -implicitDefEqProofs (disch:=omega) only[go_sem]
   refine au (uM _) ?_
   simp -implicitDefEqProofs (disch:=omega) only[go_sem]
   (repeat(with_reducible refine And.intro ?_ ?_;focus first|omega|rfl|assumption|exact⟨_,rfl,rfl⟩|(simp;omega)|(simp;done)))
   refine mJ n 5 2 (T 0) (.inl ?_) (hTr 0) ?_
   ·rw[hT0,hfl,has,oI,sw,nD];rfl
   refine wD (L 0) ?_
   refine kX (st':=[.seed (L 0),.seed 1,.box [.d (.s x.aW),.d (.sl (x.aC.map encS)),.d (.i .i64 x.aX.aH),.d (.s x.aX.fName),.d (.sl (x.aX.fArgs.map aj.enc)),.d (.sl (x.bE.map aO.enc)),.d (.b x.dW),.d (.b x.bX),.d (.i .i64 x.aY.aH),.d (.s x.aY.fName),.d (.sl (x.aY.fArgs.map aj.enc)),.d (.sl (x.aF.map aS.enc))],.box [.d (.s []),.aM []],.dZ n 2 (T 0)]::S) [2,5,42,43,44] [.c (.ptr (0,3) 0),.c (.bI (0,4) (T 0)),.c (.d (.sl (x.aF.map aS.enc))),.c (.d (.i .i64 x.aF.length)),.c (.d (.i .i64 0))] ?_ ?_ ?_
   ·rfl
   ·rw[ha,hs];rfl
   ·exact tail.out
  ·have hfl:ig x=[j5]:=by unfold ig;rw[ha];rfl
   have has:iq x=[]:=by unfold iq;rw[hs];rfl
   refine wh (p) 1 (n) 5 (rs:=[.cell 2 32]) Tryz.checked.mixed Tryz.func71 Tryz.ntmps71 rfl rfl rfl rfl rfl ?_
   simp -implicitDefEqProofs (disch:=omega) only[go_sem,ha,hs]
   (repeat(with_reducible refine And.intro ?_ ?_;focus first|omega|rfl|assumption|exact⟨_,rfl,rfl⟩|(simp;omega)|(simp;done)))
   refine au (dJ _ (n+1)) ?_
   simp -implicitDefEqProofs (disch:=omega) only[go_sem]
   refine au (dJ _ (n+1+1)) ?_
   simp -implicitDefEqProofs (disch:=omega) only[go_sem]
   refine au (gW x.aC (by omega) (n+1+1+1)) ?_
   simp -implicitDefEqProofs (disch:=omega) only[go_sem]
   refine au (nS x.aX (n+1+1+1+dS (bS (aN x.aC))) hf1 (by omega)) ?_
   simp -implicitDefEqProofs (disch:=omega) only[go_sem]
   refine au (sK x.bE (n+1+1+1+dS (bS (aN x.aC))+dS (dx x.aX)) hf2 (by omega) (fun b hb=>by have:=qm hb;omega)) ?_
   simp -implicitDefEqProofs (disch:=omega) only[go_sem]
   refine yH (gW [j5] (by simp) (n+1+1+1+dS (bS (aN x.aC))+dS (dx x.aX)+dS (bS (x.bE.map nk)))) (.cons (Oh p _) .nil) ?_
   simp -implicitDefEqProofs (disch:=omega) only[go_sem]
   refine au (rO _ _) ?_
   simp -implicitDefEqProofs (disch:=omega) only[go_sem]
   (repeat(with_reducible refine And.intro ?_ ?_;focus first|omega|rfl|assumption|exact⟨_,rfl,rfl⟩|(simp;omega)|(simp;done)))
   refine mJ n 5 2 (T 0) (.inl ?_) (hTr 0) ?_
   ·rw[hT0,hfl,has];rfl
   refine wD (L 0) ?_
   refine kX (st':=[.seed (L 0),.seed 1,.box [.d (.s x.aW),.d (.sl (x.aC.map encS)),.d (.i .i64 x.aX.aH),.d (.s x.aX.fName),.d (.sl (x.aX.fArgs.map aj.enc)),.d (.sl (x.bE.map aO.enc)),.d (.b x.dW),.d (.b x.bX),.d (.i .i64 x.aY.aH),.d (.s x.aY.fName),.d (.sl (x.aY.fArgs.map aj.enc)),.d (.sl (x.aF.map aS.enc))],.box [.d (.s []),.aM []],.dZ n 2 (T 0)]::S) [2,5,42,43,44] [.c (.ptr (0,3) 0),.c (.bI (0,4) (T 0)),.c (.d (.sl (x.aF.map aS.enc))),.c (.d (.i .i64 x.aF.length)),.c (.d (.i .i64 0))] ?_ ?_ ?_
   ·rfl
   ·rw[ha,hs];rfl
   ·exact tail.out
  ·have hfl:ig x=[j5]:=by unfold ig;rw[ha];rfl
   have has:iq x=[dx x.aY]:=by unfold iq;rw[hs];rfl
   refine wh (p) 1 (n) 5 (rs:=[.cell 2 32]) Tryz.checked.mixed Tryz.func71 Tryz.ntmps71 rfl rfl rfl rfl rfl ?_
   simp -implicitDefEqProofs (disch:=omega) only[go_sem,ha,hs]
   (repeat(with_reducible refine And.intro ?_ ?_;focus first|omega|rfl|assumption|exact⟨_,rfl,rfl⟩|(simp;omega)|(simp;done)))
   refine au (nS x.aY (p+1) (hf3 hs) (by omega)) ?_
   simp -implicitDefEqProofs (disch:=omega) only[go_sem]
   (repeat(with_reducible refine And.intro ?_ ?_;focus first|omega|rfl|assumption|exact⟨_,rfl,rfl⟩|(simp;omega)|(simp;done)))
   refine au (dJ _ (n+1)) ?_
   simp -implicitDefEqProofs (disch:=omega) only[go_sem]
   refine au (dJ _ (n+1+1)) ?_
   simp -implicitDefEqProofs (disch:=omega) only[go_sem]
   refine au (gW x.aC (by omega) (n+1+1+1)) ?_
   simp -implicitDefEqProofs (disch:=omega) only[go_sem]
   refine au (nS x.aX (n+1+1+1+dS (bS (aN x.aC))) hf1 (by omega)) ?_
   simp -implicitDefEqProofs (disch:=omega) only[go_sem]
   refine au (sK x.bE (n+1+1+1+dS (bS (aN x.aC))+dS (dx x.aX)) hf2 (by omega) (fun b hb=>by have:=qm hb;omega)) ?_
   simp -implicitDefEqProofs (disch:=omega) only[go_sem]
   refine yH (gW [j5] (by simp) (n+1+1+1+dS (bS (aN x.aC))+dS (dx x.aX)+dS (bS (x.bE.map nk)))) (.cons (Oh p _) .nil) ?_
   simp -implicitDefEqProofs (disch:=omega) only[go_sem]
   refine au (uM _) ?_
   simp -implicitDefEqProofs (disch:=omega) only[go_sem]
   (repeat(with_reducible refine And.intro ?_ ?_;focus first|omega|rfl|assumption|exact⟨_,rfl,rfl⟩|(simp;omega)|(simp;done)))
   refine mJ n 5 2 (T 0) (.inl ?_) (hTr 0) ?_
   ·rw[hT0,hfl,has,oI,sw,nD];rfl
   refine wD (L 0) ?_
   refine kX (st':=[.seed (L 0),.seed 1,.box [.d (.s x.aW),.d (.sl (x.aC.map encS)),.d (.i .i64 x.aX.aH),.d (.s x.aX.fName),.d (.sl (x.aX.fArgs.map aj.enc)),.d (.sl (x.bE.map aO.enc)),.d (.b x.dW),.d (.b x.bX),.d (.i .i64 x.aY.aH),.d (.s x.aY.fName),.d (.sl (x.aY.fArgs.map aj.enc)),.d (.sl (x.aF.map aS.enc))],.box [.d (.s []),.aM []],.dZ n 2 (T 0)]::S) [2,5,42,43,44] [.c (.ptr (0,3) 0),.c (.bI (0,4) (T 0)),.c (.d (.sl (x.aF.map aS.enc))),.c (.d (.i .i64 x.aF.length)),.c (.d (.i .i64 0))] ?_ ?_ ?_
   ·rfl
   ·rw[ha,hs];rfl
   ·exact tail.out
 refine⟨?_⟩
 refine aZ (ι:=Nat) Tryz.checked.mixed rfl [2,5,42,43,44] (fun i=>[.c (.ptr (0,3) 0),.c (.bI (0,4) (T i)),.c (.d (.sl (x.aF.map aS.enc))),.c (.d (.i .i64 x.aF.length)),.c (.d (.i .i64 i))])
  (fun i=>[.seed (L i),.seed 1,.box [.d (.s x.aW),.d (.sl (x.aC.map encS)),.d (.i .i64 x.aX.aH),.d (.s x.aX.fName),.d (.sl (x.aX.fArgs.map aj.enc)),.d (.sl (x.bE.map aO.enc)),.d (.b x.dW),.d (.b x.bX),.d (.i .i64 x.aY.aH),.d (.s x.aY.fName),.d (.sl (x.aY.fArgs.map aj.enc)),.d (.sl (x.aF.map aS.enc))],.box [.d (.s []),.aM []],.dZ n 2 (T i)]::S)
  (fun i=>i≤x.aF.length) (fun i=>x.aF.length-i) 0 rfl rfl (Nat.zero_le _) ?_
 intro i hi
 have hl:=kF i
 simp -implicitDefEqProofs (disch:=omega) only[go_sem]
 with_reducible refine aA (fun hb=> ?_) (fun hb=> ?_)<;>have h:=hb<;>(try simp only[wf_preprocess] at h)<;>simp -implicitDefEqProofs (disch:=omega) only[go_sem,hb]<;>(repeat(with_reducible refine And.intro ?_ ?_;focus first|omega|rfl|assumption|exact⟨_,rfl,rfl⟩|(simp;omega)|(simp;done)))
 ·have hi':i<x.aF.length:=by omega
  have hm:=List.getElem_mem hi'
  have hcz:=vJ hm
  have hce:=aS.sum x.aF[i]
  rw[fV] at hce
  have hst:=hTs i hi'
  (repeat(with_reducible refine And.intro ?_ ?_;focus first|omega|rfl|assumption|exact⟨_,rfl,rfl⟩|(simp;omega)|(simp;done)))
  refine au (dJ _ (L i+1)) ?_
  simp -implicitDefEqProofs (disch:=omega) only[go_sem]
  refine au (gW x.aF[i].aC (by omega) (L i+1+1)) ?_
  simp -implicitDefEqProofs (disch:=omega) only[go_sem]
  refine au (Tj x.aF[i].fBody (L i+1+1+dS (bS (aN x.aF[i].aC))) (Ir _ hm) (by omega)) ?_
  simp -implicitDefEqProofs (disch:=omega) only[go_sem]
  (repeat(with_reducible refine And.intro ?_ ?_;focus first|omega|rfl|assumption|exact⟨_,rfl,rfl⟩|(simp;omega)|(simp;done)))
  refine au (rO _ _) ?_
  simp -implicitDefEqProofs (disch:=omega) only[go_sem]
  (repeat(with_reducible refine And.intro ?_ ?_;focus first|omega|rfl|assumption|exact⟨_,rfl,rfl⟩|(simp;omega)|(simp;done)))
  rw[hst]
  refine MX (L (i+1)) 4 (by decide) (i+1) (by omega) rfl rfl ?_ rfl (by omega)
  simp[l8,iP,V.refs,C.refs,nu]
 ·have hi':i=x.aF.length:=by omega
  refine bA rfl (j3 0 4 _ _) ?_
  simp -implicitDefEqProofs (disch:=omega) only[go_sem]
  rw[hi',hTe]
set_option maxHeartbeats 4000000 in
theorem YM(x:aT)(hv:eO x=true)(hsz:x.sz≤1048576)(ha:x.dW=true)(hs:x.bX=true):aI Tryz.prog 58 [x.v] (CG (rT x)).v:=fun S=>by
 have hdz:=aT.sum x
 rw[fV] at hdz
 obtain⟨hf1,hf2,hf3,Ir⟩:=j6 hv
 have hz:=DI hv
 have hfl:ig x=[j5]:=by unfold ig;rw[ha];rfl
 have has:iq x=[dx x.aY]:=by unfold iq;rw[hs];rfl
 obtain⟨T,hT⟩:∃T:Nat→List (List D),T=fun i=>(jR x++(x.aF.map kI).take i).map ah.enc:=⟨_,rfl⟩
 have hT0:T 0=[[.s rQ,.sl []],[.s x.aW,.sl []],[.s [],.sl ((aN x.aC).map ah.enc)],[.s (dx x.aX).aU,.sl ((dx x.aX).ak.map ah.enc)],[.s [],.sl ((x.bE.map nk).map ah.enc)],[.s [],.sl ((aN [j5]).map ah.enc)],[.s [],.sl [[.s (dx x.aY).aU,.sl ((dx x.aY).ak.map ah.enc)]]]]:=by
  rw[hT];simp only[List.take_zero,List.append_nil,jR,hfl,has,List.map_cons,List.map_nil,fJ,rz,ah.aG (dx x.aX),ah.aG (dx x.aY)]
 have kF:∀i,(T i).length≤i+7:=fun i=>by
  rw[hT];simp only[List.length_map,List.length_append]
  have:=List.length_take_le i (x.aF.map kI)
  simp[jR];omega
 have hTs:∀i (hi:i<x.aF.length),T i++[[.s [],.sl [[.s x.aF[i].fName,.sl []],[.s [],.sl ((aN x.aF[i].aC).map ah.enc)],[.s (dQ x.aF[i].fBody).aU,.sl ((dQ x.aF[i].fBody).ak.map ah.enc)]]]]=T (i+1):=fun i hi=>by
  have:=kE (base:=jR x) (l:=x.aF.map kI) (i:=i) (by rw[List.length_map];exact hi)
  rw[List.getElem_map,kI,dY,dI] at this
  simp only[List.map_cons,List.map_nil,fJ,rz,ah.aG (dQ x.aF[i].fBody)] at this
  rw[hT];exact this
 have hTr:∀i,∀r∈T i,r.length=2:=fun i=>by rw[hT];exact gV
 have hTe:T x.aF.length=(rT x).ak.map ah.enc:=by
  rw[hT];simp only
  rw[List.take_of_length_le (by simp)];rfl
 clear hT
 refine aD (rs:=[.cell 2 32]) Tryz.checked.mixed Tryz.func58 Tryz.ntmps58 rfl rfl rfl rfl rfl ?_
 simp -implicitDefEqProofs (disch:=omega) only[go_sem]
 refine au (mX x (by omega)) ?_
 simp -implicitDefEqProofs (disch:=omega) only[go_sem,hv,ha,hs]
 (repeat(with_reducible refine And.intro ?_ ?_;focus first|omega|rfl|assumption|exact⟨_,rfl,rfl⟩|(simp;omega)|(simp;done)))
 refine au (oO x.aY (by omega)) ?_
 simp -implicitDefEqProofs (disch:=omega) only[go_sem]
 (repeat(with_reducible refine And.intro ?_ ?_;focus first|omega|rfl|assumption|exact⟨_,rfl,rfl⟩|(simp;omega)|(simp;done)))
 refine au (mH _ (by simp) (by simp)) ?_
 simp -implicitDefEqProofs (disch:=omega) only[go_sem]
 (repeat(with_reducible refine And.intro ?_ ?_;focus first|omega|rfl|assumption|exact⟨_,rfl,rfl⟩|(simp;omega)|(simp;done)))
 refine au (bO _) ?_
 simp -implicitDefEqProofs (disch:=omega) only[go_sem]
 refine au (bO _) ?_
 simp -implicitDefEqProofs (disch:=omega) only[go_sem]
 refine au (fM x.aC (by omega)) ?_
 simp -implicitDefEqProofs (disch:=omega) only[go_sem]
 refine au (oO x.aX (by omega)) ?_
 simp -implicitDefEqProofs (disch:=omega) only[go_sem]
 refine au (uR x.bE (by omega) (fun b hb=>by have:=qm hb;omega)) ?_
 simp -implicitDefEqProofs (disch:=omega) only[go_sem]
 refine au (fM [j5] (by simp)) ?_
 simp -implicitDefEqProofs (disch:=omega) only[go_sem]
 have hE:=fun bg Ω=>uN (T 0) (hTr 0) (by have:=kF 0;omega) bg Ω
 simp only[hT0] at hE
 refine r9 [false] rfl (hE _ _) ?_
 simp -implicitDefEqProofs (disch:=omega) only[go_sem]
 refine aZ (ι:=Nat) Tryz.checked.mixed rfl [1,2,5,6] (fun i=>[.c (.ptr (0,0) 0),.c (.ptr (0,1) 0),.c (.ptr (0,6) 0),.c (.d (.i .i64 i))])
  (fun i=>[.box [.d (.s x.aW),.d (.sl (x.aC.map encS)),.d (.i .i64 x.aX.aH),.d (.s x.aX.fName),.d (.sl (x.aX.fArgs.map aj.enc)),.d (.sl (x.bE.map aO.enc)),.d (.b true),.d (.b true),.d (.i .i64 x.aY.aH),.d (.s x.aY.fName),.d (.sl (x.aY.fArgs.map aj.enc)),.d (.sl (x.aF.map aS.enc))],.box [.d (.s []),.aM []],.tok 1 [[.s j5]],.box [.d (.s []),.d (.sl [[.s (dx x.aY).aU,.sl ((dx x.aY).ak.map ah.enc)]])],.box [.d (.s []),.bI (0,5) (T 0)],.tok 2 (T i),.box [.d (.s []),.bI (0,5) (T i)]]::S)
  (fun i=>i≤x.aF.length) (fun i=>x.aF.length-i) 0 rfl (by simp only[hT0]<;>(try rfl)) (Nat.zero_le _) ?_
 intro i hi
 have hl:=kF i
 simp -implicitDefEqProofs (disch:=omega) only[go_sem]
 with_reducible refine aA (fun hb=> ?_) (fun hb=> ?_)<;>have h:=hb<;>(try simp only[wf_preprocess] at h)<;>simp -implicitDefEqProofs (disch:=omega) only[go_sem,hb]<;>(repeat(with_reducible refine And.intro ?_ ?_;focus first|omega|rfl|assumption|exact⟨_,rfl,rfl⟩|(simp;omega)|(simp;done)))
 ·have hi':i<x.aF.length:=by omega
  have hm:=List.getElem_mem hi'
  have hcz:=vJ hm
  have hce:=aS.sum x.aF[i]
  rw[fV] at hce
  have hst:=hTs i hi'
  (repeat(with_reducible refine And.intro ?_ ?_;focus first|omega|rfl|assumption|exact⟨_,rfl,rfl⟩|(simp;omega)|(simp;done)))
  refine au (bO _) ?_
  simp -implicitDefEqProofs (disch:=omega) only[go_sem]
  refine au (fM x.aF[i].aC (by omega)) ?_
  simp -implicitDefEqProofs (disch:=omega) only[go_sem]
  refine au (zB x.aF[i].fBody (Ir _ hm) (by omega)) ?_
  simp -implicitDefEqProofs (disch:=omega) only[go_sem]
  refine au (mH _ (by simp) (by simp)) ?_
  simp -implicitDefEqProofs (disch:=omega) only[go_sem]
  (repeat(with_reducible refine And.intro ?_ ?_;focus first|omega|rfl|assumption|exact⟨_,rfl,rfl⟩|(simp;omega)|(simp;done)))
  rw[hst]
  exact dO 7 (by decide) (i+1) (by omega) rfl rfl rfl rfl (by omega)
 ·have hi':i=x.aF.length:=by omega
  subst hi'
  rw[hTe]
  refine au (zq true (rT x) (by omega)) ?_
  simp -implicitDefEqProofs (disch:=omega) only[go_sem]
  rfl
set_option maxHeartbeats 4000000 in
theorem YN(x:aT)(hv:eO x=true)(hsz:x.sz≤1048576)(ha:x.dW=true)(hs:x.bX=false):aI Tryz.prog 58 [x.v] (CG (rT x)).v:=fun S=>by
 have hdz:=aT.sum x
 rw[fV] at hdz
 obtain⟨hf1,hf2,hf3,Ir⟩:=j6 hv
 have hz:=DI hv
 have hfl:ig x=[j5]:=by unfold ig;rw[ha];rfl
 have has:iq x=[]:=by unfold iq;rw[hs];rfl
 obtain⟨T,hT⟩:∃T:Nat→List (List D),T=fun i=>(jR x++(x.aF.map kI).take i).map ah.enc:=⟨_,rfl⟩
 have hT0:T 0=[[.s rQ,.sl []],[.s x.aW,.sl []],[.s [],.sl ((aN x.aC).map ah.enc)],[.s (dx x.aX).aU,.sl ((dx x.aX).ak.map ah.enc)],[.s [],.sl ((x.bE.map nk).map ah.enc)],[.s [],.sl ((aN [j5]).map ah.enc)],[.s [],.sl []]]:=by
  rw[hT];simp only[List.take_zero,List.append_nil,jR,hfl,has,List.map_cons,List.map_nil,fJ,rz,ah.aG (dx x.aX),ah.aG (dx x.aY)]
 have kF:∀i,(T i).length≤i+7:=fun i=>by
  rw[hT];simp only[List.length_map,List.length_append]
  have:=List.length_take_le i (x.aF.map kI)
  simp[jR];omega
 have hTs:∀i (hi:i<x.aF.length),T i++[[.s [],.sl [[.s x.aF[i].fName,.sl []],[.s [],.sl ((aN x.aF[i].aC).map ah.enc)],[.s (dQ x.aF[i].fBody).aU,.sl ((dQ x.aF[i].fBody).ak.map ah.enc)]]]]=T (i+1):=fun i hi=>by
  have:=kE (base:=jR x) (l:=x.aF.map kI) (i:=i) (by rw[List.length_map];exact hi)
  rw[List.getElem_map,kI,dY,dI] at this
  simp only[List.map_cons,List.map_nil,fJ,rz,ah.aG (dQ x.aF[i].fBody)] at this
  rw[hT];exact this
 have hTr:∀i,∀r∈T i,r.length=2:=fun i=>by rw[hT];exact gV
 have hTe:T x.aF.length=(rT x).ak.map ah.enc:=by
  rw[hT];simp only
  rw[List.take_of_length_le (by simp)];rfl
 clear hT
 refine aD (rs:=[.cell 2 32]) Tryz.checked.mixed Tryz.func58 Tryz.ntmps58 rfl rfl rfl rfl rfl ?_
 simp -implicitDefEqProofs (disch:=omega) only[go_sem]
 refine au (mX x (by omega)) ?_
 simp -implicitDefEqProofs (disch:=omega) only[go_sem,hv,ha,hs]
 (repeat(with_reducible refine And.intro ?_ ?_;focus first|omega|rfl|assumption|exact⟨_,rfl,rfl⟩|(simp;omega)|(simp;done)))
 refine au (bO _) ?_
 simp -implicitDefEqProofs (disch:=omega) only[go_sem]
 refine au (bO _) ?_
 simp -implicitDefEqProofs (disch:=omega) only[go_sem]
 refine au (fM x.aC (by omega)) ?_
 simp -implicitDefEqProofs (disch:=omega) only[go_sem]
 refine au (oO x.aX (by omega)) ?_
 simp -implicitDefEqProofs (disch:=omega) only[go_sem]
 refine au (uR x.bE (by omega) (fun b hb=>by have:=qm hb;omega)) ?_
 simp -implicitDefEqProofs (disch:=omega) only[go_sem]
 refine au (fM [j5] (by simp)) ?_
 simp -implicitDefEqProofs (disch:=omega) only[go_sem]
 have hE:=fun bg Ω=>uN (T 0) (hTr 0) (by have:=kF 0;omega) bg Ω
 simp only[hT0] at hE
 refine r9 [false] rfl (hE _ _) ?_
 simp -implicitDefEqProofs (disch:=omega) only[go_sem]
 refine aZ (ι:=Nat) Tryz.checked.mixed rfl [1,2,5,6] (fun i=>[.c (.ptr (0,0) 0),.c (.ptr (0,1) 0),.c (.ptr (0,6) 0),.c (.d (.i .i64 i))])
  (fun i=>[.box [.d (.s x.aW),.d (.sl (x.aC.map encS)),.d (.i .i64 x.aX.aH),.d (.s x.aX.fName),.d (.sl (x.aX.fArgs.map aj.enc)),.d (.sl (x.bE.map aO.enc)),.d (.b true),.d (.b false),.d (.i .i64 x.aY.aH),.d (.s x.aY.fName),.d (.sl (x.aY.fArgs.map aj.enc)),.d (.sl (x.aF.map aS.enc))],.box [.d (.s []),.aM []],.tok 1 [[.s j5]],.box [.d (.s []),.aM []],.box [.d (.s []),.bI (0,5) (T 0)],.tok 2 (T i),.box [.d (.s []),.bI (0,5) (T i)]]::S)
  (fun i=>i≤x.aF.length) (fun i=>x.aF.length-i) 0 rfl (by simp only[hT0]<;>(try rfl)) (Nat.zero_le _) ?_
 intro i hi
 have hl:=kF i
 simp -implicitDefEqProofs (disch:=omega) only[go_sem]
 with_reducible refine aA (fun hb=> ?_) (fun hb=> ?_)<;>have h:=hb<;>(try simp only[wf_preprocess] at h)<;>simp -implicitDefEqProofs (disch:=omega) only[go_sem,hb]<;>(repeat(with_reducible refine And.intro ?_ ?_;focus first|omega|rfl|assumption|exact⟨_,rfl,rfl⟩|(simp;omega)|(simp;done)))
 ·have hi':i<x.aF.length:=by omega
  have hm:=List.getElem_mem hi'
  have hcz:=vJ hm
  have hce:=aS.sum x.aF[i]
  rw[fV] at hce
  have hst:=hTs i hi'
  (repeat(with_reducible refine And.intro ?_ ?_;focus first|omega|rfl|assumption|exact⟨_,rfl,rfl⟩|(simp;omega)|(simp;done)))
  refine au (bO _) ?_
  simp -implicitDefEqProofs (disch:=omega) only[go_sem]
  refine au (fM x.aF[i].aC (by omega)) ?_
  simp -implicitDefEqProofs (disch:=omega) only[go_sem]
  refine au (zB x.aF[i].fBody (Ir _ hm) (by omega)) ?_
  simp -implicitDefEqProofs (disch:=omega) only[go_sem]
  refine au (mH _ (by simp) (by simp)) ?_
  simp -implicitDefEqProofs (disch:=omega) only[go_sem]
  (repeat(with_reducible refine And.intro ?_ ?_;focus first|omega|rfl|assumption|exact⟨_,rfl,rfl⟩|(simp;omega)|(simp;done)))
  rw[hst]
  exact dO 7 (by decide) (i+1) (by omega) rfl rfl rfl rfl (by omega)
 ·have hi':i=x.aF.length:=by omega
  subst hi'
  rw[hTe]
  refine au (zq true (rT x) (by omega)) ?_
  simp -implicitDefEqProofs (disch:=omega) only[go_sem]
  rfl
set_option maxHeartbeats 4000000 in
theorem YO(x:aT)(hv:eO x=true)(hsz:x.sz≤1048576)(ha:x.dW=false)(hs:x.bX=true):aI Tryz.prog 58 [x.v] (CG (rT x)).v:=fun S=>by
 have hdz:=aT.sum x
 rw[fV] at hdz
 obtain⟨hf1,hf2,hf3,Ir⟩:=j6 hv
 have hz:=DI hv
 have hfl:ig x=[]:=by unfold ig;rw[ha];rfl
 have has:iq x=[dx x.aY]:=by unfold iq;rw[hs];rfl
 obtain⟨T,hT⟩:∃T:Nat→List (List D),T=fun i=>(jR x++(x.aF.map kI).take i).map ah.enc:=⟨_,rfl⟩
 have hT0:T 0=[[.s rQ,.sl []],[.s x.aW,.sl []],[.s [],.sl ((aN x.aC).map ah.enc)],[.s (dx x.aX).aU,.sl ((dx x.aX).ak.map ah.enc)],[.s [],.sl ((x.bE.map nk).map ah.enc)],[.s [],.sl ((aN []).map ah.enc)],[.s [],.sl [[.s (dx x.aY).aU,.sl ((dx x.aY).ak.map ah.enc)]]]]:=by
  rw[hT];simp only[List.take_zero,List.append_nil,jR,hfl,has,List.map_cons,List.map_nil,fJ,rz,ah.aG (dx x.aX),ah.aG (dx x.aY)]
 have kF:∀i,(T i).length≤i+7:=fun i=>by
  rw[hT];simp only[List.length_map,List.length_append]
  have:=List.length_take_le i (x.aF.map kI)
  simp[jR];omega
 have hTs:∀i (hi:i<x.aF.length),T i++[[.s [],.sl [[.s x.aF[i].fName,.sl []],[.s [],.sl ((aN x.aF[i].aC).map ah.enc)],[.s (dQ x.aF[i].fBody).aU,.sl ((dQ x.aF[i].fBody).ak.map ah.enc)]]]]=T (i+1):=fun i hi=>by
  have:=kE (base:=jR x) (l:=x.aF.map kI) (i:=i) (by rw[List.length_map];exact hi)
  rw[List.getElem_map,kI,dY,dI] at this
  simp only[List.map_cons,List.map_nil,fJ,rz,ah.aG (dQ x.aF[i].fBody)] at this
  rw[hT];exact this
 have hTr:∀i,∀r∈T i,r.length=2:=fun i=>by rw[hT];exact gV
 have hTe:T x.aF.length=(rT x).ak.map ah.enc:=by
  rw[hT];simp only
  rw[List.take_of_length_le (by simp)];rfl
 clear hT
 refine aD (rs:=[.cell 2 32]) Tryz.checked.mixed Tryz.func58 Tryz.ntmps58 rfl rfl rfl rfl rfl ?_
 simp -implicitDefEqProofs (disch:=omega) only[go_sem]
 refine au (mX x (by omega)) ?_
 simp -implicitDefEqProofs (disch:=omega) only[go_sem,hv,ha,hs]
 (repeat(with_reducible refine And.intro ?_ ?_;focus first|omega|rfl|assumption|exact⟨_,rfl,rfl⟩|(simp;omega)|(simp;done)))
 refine au (oO x.aY (by omega)) ?_
 simp -implicitDefEqProofs (disch:=omega) only[go_sem]
 (repeat(with_reducible refine And.intro ?_ ?_;focus first|omega|rfl|assumption|exact⟨_,rfl,rfl⟩|(simp;omega)|(simp;done)))
 refine au (mH _ (by simp) (by simp)) ?_
 simp -implicitDefEqProofs (disch:=omega) only[go_sem]
 (repeat(with_reducible refine And.intro ?_ ?_;focus first|omega|rfl|assumption|exact⟨_,rfl,rfl⟩|(simp;omega)|(simp;done)))
 refine au (bO _) ?_
 simp -implicitDefEqProofs (disch:=omega) only[go_sem]
 refine au (bO _) ?_
 simp -implicitDefEqProofs (disch:=omega) only[go_sem]
 refine au (fM x.aC (by omega)) ?_
 simp -implicitDefEqProofs (disch:=omega) only[go_sem]
 refine au (oO x.aX (by omega)) ?_
 simp -implicitDefEqProofs (disch:=omega) only[go_sem]
 refine au (uR x.bE (by omega) (fun b hb=>by have:=qm hb;omega)) ?_
 simp -implicitDefEqProofs (disch:=omega) only[go_sem]
 refine au (fM [] (by simp)) ?_
 simp -implicitDefEqProofs (disch:=omega) only[go_sem]
 have hE:=fun bg Ω=>uN (T 0) (hTr 0) (by have:=kF 0;omega) bg Ω
 simp only[hT0] at hE
 refine r9 [false] rfl (hE _ _) ?_
 simp -implicitDefEqProofs (disch:=omega) only[go_sem]
 refine aZ (ι:=Nat) Tryz.checked.mixed rfl [1,2,5,6] (fun i=>[.c (.ptr (0,0) 0),.c (.ptr (0,1) 0),.c (.ptr (0,5) 0),.c (.d (.i .i64 i))])
  (fun i=>[.box [.d (.s x.aW),.d (.sl (x.aC.map encS)),.d (.i .i64 x.aX.aH),.d (.s x.aX.fName),.d (.sl (x.aX.fArgs.map aj.enc)),.d (.sl (x.bE.map aO.enc)),.d (.b false),.d (.b true),.d (.i .i64 x.aY.aH),.d (.s x.aY.fName),.d (.sl (x.aY.fArgs.map aj.enc)),.d (.sl (x.aF.map aS.enc))],.box [.d (.s []),.aM []],.box [.d (.s []),.d (.sl [[.s (dx x.aY).aU,.sl ((dx x.aY).ak.map ah.enc)]])],.box [.d (.s []),.bI (0,4) (T 0)],.tok 2 (T i),.box [.d (.s []),.bI (0,4) (T i)]]::S)
  (fun i=>i≤x.aF.length) (fun i=>x.aF.length-i) 0 rfl (by simp only[hT0]<;>(try rfl)) (Nat.zero_le _) ?_
 intro i hi
 have hl:=kF i
 simp -implicitDefEqProofs (disch:=omega) only[go_sem]
 with_reducible refine aA (fun hb=> ?_) (fun hb=> ?_)<;>have h:=hb<;>(try simp only[wf_preprocess] at h)<;>simp -implicitDefEqProofs (disch:=omega) only[go_sem,hb]<;>(repeat(with_reducible refine And.intro ?_ ?_;focus first|omega|rfl|assumption|exact⟨_,rfl,rfl⟩|(simp;omega)|(simp;done)))
 ·have hi':i<x.aF.length:=by omega
  have hm:=List.getElem_mem hi'
  have hcz:=vJ hm
  have hce:=aS.sum x.aF[i]
  rw[fV] at hce
  have hst:=hTs i hi'
  (repeat(with_reducible refine And.intro ?_ ?_;focus first|omega|rfl|assumption|exact⟨_,rfl,rfl⟩|(simp;omega)|(simp;done)))
  refine au (bO _) ?_
  simp -implicitDefEqProofs (disch:=omega) only[go_sem]
  refine au (fM x.aF[i].aC (by omega)) ?_
  simp -implicitDefEqProofs (disch:=omega) only[go_sem]
  refine au (zB x.aF[i].fBody (Ir _ hm) (by omega)) ?_
  simp -implicitDefEqProofs (disch:=omega) only[go_sem]
  refine au (mH _ (by simp) (by simp)) ?_
  simp -implicitDefEqProofs (disch:=omega) only[go_sem]
  (repeat(with_reducible refine And.intro ?_ ?_;focus first|omega|rfl|assumption|exact⟨_,rfl,rfl⟩|(simp;omega)|(simp;done)))
  rw[hst]
  exact dO 6 (by decide) (i+1) (by omega) rfl rfl rfl rfl (by omega)
 ·have hi':i=x.aF.length:=by omega
  subst hi'
  rw[hTe]
  refine au (zq true (rT x) (by omega)) ?_
  simp -implicitDefEqProofs (disch:=omega) only[go_sem]
  rfl
set_option maxHeartbeats 4000000 in
theorem YP(x:aT)(hv:eO x=true)(hsz:x.sz≤1048576)(ha:x.dW=false)(hs:x.bX=false):aI Tryz.prog 58 [x.v] (CG (rT x)).v:=fun S=>by
 have hdz:=aT.sum x
 rw[fV] at hdz
 obtain⟨hf1,hf2,hf3,Ir⟩:=j6 hv
 have hz:=DI hv
 have hfl:ig x=[]:=by unfold ig;rw[ha];rfl
 have has:iq x=[]:=by unfold iq;rw[hs];rfl
 obtain⟨T,hT⟩:∃T:Nat→List (List D),T=fun i=>(jR x++(x.aF.map kI).take i).map ah.enc:=⟨_,rfl⟩
 have hT0:T 0=[[.s rQ,.sl []],[.s x.aW,.sl []],[.s [],.sl ((aN x.aC).map ah.enc)],[.s (dx x.aX).aU,.sl ((dx x.aX).ak.map ah.enc)],[.s [],.sl ((x.bE.map nk).map ah.enc)],[.s [],.sl ((aN []).map ah.enc)],[.s [],.sl []]]:=by
  rw[hT];simp only[List.take_zero,List.append_nil,jR,hfl,has,List.map_cons,List.map_nil,fJ,rz,ah.aG (dx x.aX),ah.aG (dx x.aY)]
 have kF:∀i,(T i).length≤i+7:=fun i=>by
  rw[hT];simp only[List.length_map,List.length_append]
  have:=List.length_take_le i (x.aF.map kI)
  simp[jR];omega
 have hTs:∀i (hi:i<x.aF.length),T i++[[.s [],.sl [[.s x.aF[i].fName,.sl []],[.s [],.sl ((aN x.aF[i].aC).map ah.enc)],[.s (dQ x.aF[i].fBody).aU,.sl ((dQ x.aF[i].fBody).ak.map ah.enc)]]]]=T (i+1):=fun i hi=>by
  have:=kE (base:=jR x) (l:=x.aF.map kI) (i:=i) (by rw[List.length_map];exact hi)
  rw[List.getElem_map,kI,dY,dI] at this
  simp only[List.map_cons,List.map_nil,fJ,rz,ah.aG (dQ x.aF[i].fBody)] at this
  rw[hT];exact this
 have hTr:∀i,∀r∈T i,r.length=2:=fun i=>by rw[hT];exact gV
 have hTe:T x.aF.length=(rT x).ak.map ah.enc:=by
  rw[hT];simp only
  rw[List.take_of_length_le (by simp)];rfl
 clear hT
 refine aD (rs:=[.cell 2 32]) Tryz.checked.mixed Tryz.func58 Tryz.ntmps58 rfl rfl rfl rfl rfl ?_
 simp -implicitDefEqProofs (disch:=omega) only[go_sem]
 refine au (mX x (by omega)) ?_
 simp -implicitDefEqProofs (disch:=omega) only[go_sem,hv,ha,hs]
 (repeat(with_reducible refine And.intro ?_ ?_;focus first|omega|rfl|assumption|exact⟨_,rfl,rfl⟩|(simp;omega)|(simp;done)))
 refine au (bO _) ?_
 simp -implicitDefEqProofs (disch:=omega) only[go_sem]
 refine au (bO _) ?_
 simp -implicitDefEqProofs (disch:=omega) only[go_sem]
 refine au (fM x.aC (by omega)) ?_
 simp -implicitDefEqProofs (disch:=omega) only[go_sem]
 refine au (oO x.aX (by omega)) ?_
 simp -implicitDefEqProofs (disch:=omega) only[go_sem]
 refine au (uR x.bE (by omega) (fun b hb=>by have:=qm hb;omega)) ?_
 simp -implicitDefEqProofs (disch:=omega) only[go_sem]
 refine au (fM [] (by simp)) ?_
 simp -implicitDefEqProofs (disch:=omega) only[go_sem]
 have hE:=fun bg Ω=>uN (T 0) (hTr 0) (by have:=kF 0;omega) bg Ω
 simp only[hT0] at hE
 refine r9 [false] rfl (hE _ _) ?_
 simp -implicitDefEqProofs (disch:=omega) only[go_sem]
 refine aZ (ι:=Nat) Tryz.checked.mixed rfl [1,2,5,6] (fun i=>[.c (.ptr (0,0) 0),.c (.ptr (0,1) 0),.c (.ptr (0,5) 0),.c (.d (.i .i64 i))])
  (fun i=>[.box [.d (.s x.aW),.d (.sl (x.aC.map encS)),.d (.i .i64 x.aX.aH),.d (.s x.aX.fName),.d (.sl (x.aX.fArgs.map aj.enc)),.d (.sl (x.bE.map aO.enc)),.d (.b false),.d (.b false),.d (.i .i64 x.aY.aH),.d (.s x.aY.fName),.d (.sl (x.aY.fArgs.map aj.enc)),.d (.sl (x.aF.map aS.enc))],.box [.d (.s []),.aM []],.box [.d (.s []),.aM []],.box [.d (.s []),.bI (0,4) (T 0)],.tok 2 (T i),.box [.d (.s []),.bI (0,4) (T i)]]::S)
  (fun i=>i≤x.aF.length) (fun i=>x.aF.length-i) 0 rfl (by simp only[hT0]<;>(try rfl)) (Nat.zero_le _) ?_
 intro i hi
 have hl:=kF i
 simp -implicitDefEqProofs (disch:=omega) only[go_sem]
 with_reducible refine aA (fun hb=> ?_) (fun hb=> ?_)<;>have h:=hb<;>(try simp only[wf_preprocess] at h)<;>simp -implicitDefEqProofs (disch:=omega) only[go_sem,hb]<;>(repeat(with_reducible refine And.intro ?_ ?_;focus first|omega|rfl|assumption|exact⟨_,rfl,rfl⟩|(simp;omega)|(simp;done)))
 ·have hi':i<x.aF.length:=by omega
  have hm:=List.getElem_mem hi'
  have hcz:=vJ hm
  have hce:=aS.sum x.aF[i]
  rw[fV] at hce
  have hst:=hTs i hi'
  (repeat(with_reducible refine And.intro ?_ ?_;focus first|omega|rfl|assumption|exact⟨_,rfl,rfl⟩|(simp;omega)|(simp;done)))
  refine au (bO _) ?_
  simp -implicitDefEqProofs (disch:=omega) only[go_sem]
  refine au (fM x.aF[i].aC (by omega)) ?_
  simp -implicitDefEqProofs (disch:=omega) only[go_sem]
  refine au (zB x.aF[i].fBody (Ir _ hm) (by omega)) ?_
  simp -implicitDefEqProofs (disch:=omega) only[go_sem]
  refine au (mH _ (by simp) (by simp)) ?_
  simp -implicitDefEqProofs (disch:=omega) only[go_sem]
  (repeat(with_reducible refine And.intro ?_ ?_;focus first|omega|rfl|assumption|exact⟨_,rfl,rfl⟩|(simp;omega)|(simp;done)))
  rw[hst]
  exact dO 6 (by decide) (i+1) (by omega) rfl rfl rfl rfl (by omega)
 ·have hi':i=x.aF.length:=by omega
  subst hi'
  rw[hTe]
  refine au (zq true (rT x) (by omega)) ?_
  simp -implicitDefEqProofs (disch:=omega) only[go_sem]
  rfl
theorem YQ(x:aT)(hsz:x.sz≤1048576):aI Tryz.prog 58 [x.v] (Oe x).v:=by
 unfold Oe
 cases hv:eO x with
 |false=>
  rw[zN]
  refine aI.less (fun S=> ?_) (Jf [] [])
  refine aD (rs:=[.cell 2 32]) Tryz.checked.mixed Tryz.func58 Tryz.ntmps58 rfl rfl rfl rfl rfl ?_
  simp -implicitDefEqProofs (disch:=omega) only[go_sem]
  refine au (mX x (by omega)) ?_
  simp -implicitDefEqProofs (disch:=omega) only[go_sem,hv]
 |true=>
  rw[zN]
  cases ha:x.dW with
  |true=>
   cases hs:x.bX with
   |true=>exact YM x hv hsz ha hs
   |false=>exact YN x hv hsz ha hs
  |false=>
   cases hs:x.bX with
   |true=>exact YO x hv hsz ha hs
   |false=>exact YP x hv hsz ha hs
end Go.Proofs.YtlmhknhlmicmeaaGreatDoor
namespace Go.Ab
def nV(b:Bool)(y:ah):aS:=if b=true∧y.ak.length≠3 then⟨[],[],pV⟩ else⟨cO y.ak 0,Ee y.ak 1,dK b (gX y.ak 2)⟩
def vL(b:Bool)(x:ah):aT:=
 ⟨cO x.ak 1,Ee x.ak 2,dU b (gX x.ak 3),(gX x.ak 4).ak.map (l7 b),decide (0<(gX x.ak 5).ak.length),decide (0<(gX x.ak 6).ak.length),
   if 0<(gX x.ak 6).ak.length then dU b (gX (gX x.ak 6).ak 0) else gI,(x.ak.drop 7).map (nV b)⟩
theorem V6{vars:List (List UInt8)}{e:ay}(h:nU vars e=true):∀v∈vars,v≠[]:=by
 unfold nU at h
 rw[Bool.and_eq_true] at h
 exact Jg h.1
theorem YR(b:Bool){m:aS}(h:nU m.aC m.fBody=true):nV b (kI m)=m:=by
 unfold nV
 rw[if_neg (by simp[kI,dI])]
 show aS.mk m.fName (iN (aN m.aC)) (dK b (dQ m.fBody))=m
 rw[yM (V6 h),Jh b _ (Ko h)]
theorem inst_more{x:aT}(h:eO x=true):(∀v∈x.aC,v≠[])∧(x.bX=false→x.aY=gI)∧(∀m∈x.aF,nU m.aC m.fBody=true):=by
 unfold eO pX at h
 simp only[Bool.and_eq_true] at h
 obtain⟨⟨_,_,h0,h1,_,_,_,h2,h3,_⟩,h4,_⟩:=h
 refine⟨Jg h0,fun ha=> ?_,fun m hm=> ?_⟩
 ·rw[if_neg (by rw[ha];decide)] at h3;exact nE (gq h3)
 ·have h5:=List.all_eq_true.1 h4 m hm
  unfold jq at h5
  simp only[Bool.and_eq_true] at h5
  exact h5.2.2
theorem Jl(b:Bool){x:aT}(h:eO x=true):vL b (rT x)=x:=by
 obtain⟨h1,h2,h3,h4⟩:=j6 h
 obtain⟨g1,g2,g3⟩:=inst_more h
 show aT.mk x.aW (iN (aN x.aC)) (dU b (dx x.aX)) ((x.bE.map nk).map (l7 b)) (decide (0<(aN (ig x)).length)) (decide (0<(iq x).length)) (if 0<(iq x).length then dU b (gX (iq x) 0) else gI) ((x.aF.map kI).map (nV b))=x
 rw[yM g1,Av b _ h1,Ob fun c hc=>aaL b (h2 c hc),Ob fun c hc=>YR b (g3 c hc),jI]
 have e1:decide (0<(ig x).length)=x.dW:=by unfold ig;cases x.dW<;>rfl
 rw[e1]
 unfold iq
 cases ha:x.bX with
 |true=>
  rw[if_pos rfl]
  show aT.mk _ _ _ _ _ true (dU b (dx x.aY)) _=x
  rw[Av b _ (h3 ha),←ha]
 |false=>
  rw[if_neg (by decide)]
  show aT.mk _ _ _ _ _ false gI _=x
  rw[←g2 ha,←ha]
noncomputable def uS(x:ah):Bool:=dec (iL x=true∧(7≤x.ak.length∧cO x.ak 0=rQ)∧eO (vL true x)=true∧rT (vL true x)=x)
theorem YS{x:ah}(hx:x.ak≠[]):uS x=(iL x&&dec (Oe (vL false x)=x)):=
 ace hx (fun a h1 h2=>by rw[←h2];exact⟨Jl true h1,Jl false h1⟩) fun a h=>by rw[←h];exact⟨by rw[rT,dI];simp[jR],rfl⟩
theorem YT{x:ah}(h:uS x=true):vL false x=vL true x:=by
 have h1:=gq h
 conv=>lhs;rw[←h1.2.2.2]
 exact Jl false h1.2.2.1
def Eh:aT:=⟨[],[],gI,[],false,false,gI,[]⟩
noncomputable def pY(x:ah):aT:=if uS x=true then vL true x else Eh
theorem YU(b:Bool)(y:ah):(nV b y).sz≤y.sz:=by
 have h1:=FN y.ak
 have h2:=zV y
 have h3:=zV (gX y.ak 0)
 have h4:=Df (gX y.ak 1).ak
 have h4':=zV (gX y.ak 1)
 have h5:=Eb b (gX y.ak 2)
 unfold nV
 split
 ·simp only[aS.sz,aS.aG,bQ,bP,D.sz,ay.dP,zw,List.map_nil,bG,List.length_nil];omega
 ·simp only[aS.sz,aS.aG,bQ,bP,D.sz,ay.dP,List.length_map,Ee,fV,Tx];omega
theorem Kt(b:Bool):∀l:List ah,bG ((l.map (nV b)).map aS.enc)≤dN l
 |[]=>by simp[bG]
 |y::l=>by
  have h1:=YU b y
  have h2:=Kt b l
  rw[List.map_cons,List.map_cons,bG,dN];simp only[aS.sz] at h1;omega
theorem Jm(b:Bool)(x:ah):(vL b x).sz≤x.sz:=by
 have h1:=DF x.ak
 have h2:=zV x
 have h3:=zV (gX x.ak 1)
 have h4:=Df (gX x.ak 2).ak
 have h4':=zV (gX x.ak 2)
 have h5:=Ar b (gX x.ak 3)
 have h6:=Oc b (gX x.ak 4).ak
 have h6':=zV (gX x.ak 4)
 have h7:(if 0<(gX x.ak 6).ak.length then dU b (gX (gX x.ak 6).ak 0) else gI).sz≤(gX x.ak 6).sz:=by
  have a1:=zV (gX x.ak 6)
  have a2:=FN (gX x.ak 6).ak
  have a3:=Ar b (gX (gX x.ak 6).ak 0)
  split
  ·omega
  ·rw[yQ];omega
 have h8:=Kt b (x.ak.drop 7)
 generalize hz:(if 0<(gX x.ak 6).ak.length then dU b (gX (gX x.ak 6).ak 0) else gI)=z at h7
 simp only[aT.sz,aT.aG,bQ,bP,D.sz,aj.dP,vL,hz,List.length_map,List.length_drop,Ee,fV,Tx]
 omega
theorem YV:Eh.sz=0:=by
 simp only[Eh,aT.sz,aT.aG,bQ,bP,D.sz,aj.dP,yQ,List.map_nil,bG,List.length_nil]
theorem acg{x:ah}(h:x.sz≤1048576):(pY x).sz≤1048576:=by
 have:=Jm true x
 unfold pY
 split
 ·omega
 ·rw[YV];omega
end Go.Ab
namespace Go.Ab
theorem Oj(x:aS)(n:Nat):eB x.enc n=[.s x.fName,.ol n (x.aC.map encS),.i .i64 x.fBody.aH,.s x.fBody.aW,.s x.fBody.fName,.i .i64 x.fBody.fN,.i .i64 x.fBody.fType.aH,.s x.fBody.fType.fName,.ol (n+1) (lt x.fBody.fType.fArgs (n+1+1)),
 .ol (n+1+(fT x.fBody.fType.fArgs+1)) (lE x.fBody.fArgs (n+1+(fT x.fBody.fType.fArgs+1)+1)),.ol (n+1+(fT x.fBody.fType.fArgs+1)+(lZ x.fBody.fArgs+1)) (lM x.fBody.aL (n+1+(fT x.fBody.fType.fArgs+1)+(lZ x.fBody.fArgs+1)+1))]:=by
 simp only[aS.aG,ay.aG,aj.aG,List.cons_append,List.nil_append,eB,lH,nZ,Nat.add_zero,lt,lE,lM,fT,lZ,Bo,FJ,Nat.zero_add]
def lMe(l:List aS)(n:Nat):List (List D):=eG (l.map aS.enc) n
def pI(x:aT)(n:Nat):Nat:=n+1+(fT x.aX.fArgs+1)
def qI(x:aT)(n:Nat):Nat:=pI x n+(Zj x.bE+1)
def rI(x:aT)(n:Nat):Nat:=qI x n+(fT x.aY.fArgs+1)
abbrev aT.cl (x:aT) (n p q r:Nat):List C:=[.d (.s x.aW),.d (.ol n (x.aC.map encS)),.d (.i .i64 x.aX.aH),.d (.s x.aX.fName),.d (.ol (n+1) (lt x.aX.fArgs (n+1+1))),.d (.ol p (lB x.bE (p+1))),.d (.b x.dW),.d (.b x.bX),
 .d (.i .i64 x.aY.aH),.d (.s x.aY.fName),.d (.ol q (lt x.aY.fArgs (q+1))),.d (.ol r (lMe x.aF (r+1)))]
abbrev aT.cv (x:aT):List C:=[.d (.s x.aW),.d (.sl (x.aC.map encS)),.d (.i .i64 x.aX.aH),.d (.s x.aX.fName),.d (.sl (x.aX.fArgs.map aj.enc)),.d (.sl (x.bE.map aO.enc)),.d (.b x.dW),.d (.b x.bX),
 .d (.i .i64 x.aY.aH),.d (.s x.aY.fName),.d (.sl (x.aY.fArgs.map aj.enc)),.d (.sl (x.aF.map aS.enc))]
theorem aaS(x:aT)(n:Nat):(eB x.enc n).map C.d=x.cl n (pI x n) (qI x n) (rI x n):=by
 simp only[aT.aG,aj.aG,List.cons_append,List.nil_append,eB,lH,nZ,Nat.add_zero,lt,lB,lMe,fT,Zj,pI,qI,rI,Bo,FJ,Nat.zero_add,List.map_cons,List.map_nil]
 rfl
theorem Ol{x:ah}(h:uS x=false):pY x=Eh:=if_neg (by rw[h];decide)
theorem QF{x:ah}(h:uS x=true):pY x=vL true x:=if_pos h
abbrev rC:List C:=[.d (.s []),.aM [],.d (.i .i64 0),.d (.s []),.aM [],.aM [],.d (.b false),.d (.b false),.d (.i .i64 0),.d (.s []),.aM [],.aM []]
theorem agi(e:aT)(h:e=Eh)(ok:Bool):Less (.d9 [(true,rC),(false,[.d (.b ok)])]) (.d9 [(true,e.cv),(false,[.d (.b ok)])]):=by
 rw[h]
 exact(jM.cons (.cons (.refl _) (.cons (gN _) (.cons (.refl _) (.cons (.refl _) (.cons (gN _) (.cons (gN _) (.cons (.refl _) (.cons (.refl _) (.cons (.refl _) (.cons (.refl _) (.cons (gN _) (.cons (gN _) .nil)))))))))))) (.refl _)).less
theorem V9(e:aT)(h:e=Eh)(n p q r:Nat)(ok:Bool):Less (.d9 [(true,rC),(false,[.d (.b ok)])]) (.d9 [(true,e.cl n p q r),(false,[.d (.b ok)])]):=by
 rw[h]
 exact(jM.cons (.cons (.refl _) (.cons (fD _) (.cons (.refl _) (.cons (.refl _) (.cons (fD _) (.cons (fD _) (.cons (.refl _) (.cons (.refl _) (.cons (.refl _) (.cons (.refl _) (.cons (fD _) (.cons (fD _) .nil)))))))))))) (.refl _)).less
theorem Om{b:Bool}{y:ah}(h:b=false∨y.ak.length=3):nV b y=⟨(y.ak.getD 0 fu).aU,iN (y.ak.getD 1 fu).ak,dK b (y.ak.getD 2 fu)⟩:=by
 unfold nV
 rw[if_neg (by rintro⟨e1,e2⟩;rcases h with e|e;(rw[e] at e1;cases e1);exact e2 e)]
 rfl
theorem Wd{y:ah}(h:y.ak.length≠3):nV true y=⟨[],[],pV⟩:=if_pos ⟨rfl,h⟩
end Go.Ab
namespace Go.Proofs.YtlmhknhlmicmeaaGreatDoor
open Go Go.Ab
theorem PY(x:ah)(hsz:x.sz≤1048576):aI Tryz.prog 42 [x.v] (.d9 [(true,(pY x).cv),(false,[.d (.b (uS x))])]):=aI.of_le fun S=>by
 have h1:=gY x
 have hds:=Jm false x
 have hos:=aaQ (x:=vL false x) (by omega)
 have hgs:=fun i=>yR x i (m:=4194304) (by omega)
 obtain⟨l,hl⟩:∃l,l=x.ak.drop 7:=⟨_,rfl⟩
 have hll:l.length≤4194304:=by rw[hl,List.length_drop];omega
 have hlm:∀y∈l,y.sz≤4194304:=fun y hy=>by have:=kg (List.mem_of_mem_drop (hl▸hy));omega
 obtain⟨F,hF⟩:∃F,F=vL false x:=⟨_,rfl⟩
 obtain⟨z,Ku⟩:∃z,z=x.ak.getD 6 fu:=⟨_,rfl⟩
 have hzz:=hgs 6
 rw[←Ku] at hzz
 have f1:F.aW=(x.ak.getD 1 fu).aU:=by rw[hF];rfl
 have f2:F.aC=iN (x.ak.getD 2 fu).ak:=by rw[hF];rfl
 have f3:F.aX=dU false (x.ak.getD 3 fu):=by rw[hF];rfl
 have f4:F.bE=(x.ak.getD 4 fu).ak.map (l7 false):=by rw[hF];rfl
 have f5:F.dW=decide ((0:Int)<((x.ak.getD 5 fu).ak.length:Int)):=by rw[hF];show decide (0<(x.ak.getD 5 fu).ak.length)=_;exact decide_eq_decide.2 (by omega)
 have f6:F.bX=decide (0<z.ak.length):=by rw[hF,Ku];rfl
 have f7:F.aY=if 0<z.ak.length then dU false (gX z.ak 0) else gI:=by rw[hF,Ku];rfl
 obtain⟨T,hT⟩:∃T:Nat→List (List D),T=fun i=>((l.map (nV false)).take i).map aS.enc:=⟨_,rfl⟩
 have hT0:T 0=[]:=by rw[hT];rfl
 have kF:∀i,(T i).length≤i:=fun i=>by rw[hT];simp only[List.length_map];exact List.length_take_le _ _
 have hTs:∀i (hi:i<l.length),T i++[(nV false l[i]).enc]=T (i+1):=fun i hi=>by
  have:=Iq (e:=aS.enc) (l:=l.map (nV false)) (i:=i) (by rw[List.length_map];exact hi)
  rw[List.getElem_map] at this
  rw[hT];exact this
 have hTe:T l.length=F.aF.map aS.enc:=by
  rw[hT];simp only
  rw[List.take_of_length_le (by simp),hF,hl];rfl
 clear hT
 have zD:uS x=false→Less (.d9 [(true,rC),(false,[.d (.b false)])]) (.d9 [(true,(pY x).cv),(false,[.d (.b (uS x))])]):=fun e=>by
  rw[e];exact agi _ (Ol e) false
 have c2:=Du _ (hgs 2)
 have c3:=uQ (x.ak.getD 3 fu) (hgs 3)
 have c4:=KT _ (hgs 4)
 rw[←f2] at c2
 rw[←f3] at c3
 rw[←f4] at c4
 refine(show Hold ?T→_ from fun tail=> ?main) ?tp
 case' main=>
  refine aD (rs:=[.cell 2 92,.tmp 3]) Tryz.checked.mixed Tryz.func42 Tryz.ntmps42 rfl rfl rfl rfl rfl ?_
  simp -implicitDefEqProofs (disch:=omega) only[go_sem]
  refine au (lN x 1 (by omega) (by omega)) ?_
  simp -implicitDefEqProofs (disch:=omega) only[go_sem]
  refine au (lN x 2 (by omega) (by omega)) ?_
  simp -implicitDefEqProofs (disch:=omega) only[go_sem]
  refine au c2 ?_
  simp -implicitDefEqProofs (disch:=omega) only[go_sem]
  refine au (lN x 3 (by omega) (by omega)) ?_
  simp -implicitDefEqProofs (disch:=omega) only[go_sem]
  refine au c3 ?_
  simp -implicitDefEqProofs (disch:=omega) only[go_sem]
  refine au (lN x 4 (by omega) (by omega)) ?_
  simp -implicitDefEqProofs (disch:=omega) only[go_sem]
  refine au c4 ?_
  simp -implicitDefEqProofs (disch:=omega) only[go_sem]
  refine au (lN x 5 (by omega) (by omega)) ?_
  simp -implicitDefEqProofs (disch:=omega) only[go_sem]
  (repeat(with_reducible refine And.intro ?_ ?_;focus first|omega|rfl|assumption|exact⟨_,rfl,rfl⟩|(simp;omega)|(simp;done)))
  refine au (lN x 6 (by omega) (by omega)) ?_
  simp -implicitDefEqProofs (disch:=omega) only[go_sem]
  rw[←Ku]
  with_reducible refine aA (fun hb=> ?_) (fun hb=> ?_)<;>have h:=hb<;>(try simp only[wf_preprocess] at h)<;>simp -implicitDefEqProofs (disch:=omega) only[go_sem,hb]<;>(repeat(with_reducible refine And.intro ?_ ?_;focus first|omega|rfl|assumption|exact⟨_,rfl,rfl⟩|(simp;omega)|(simp;done)))
  ·have hpos:0<z.ak.length:=by omega
   rw[if_pos hpos,pW hpos] at f7
   have hz0:=Ef z hpos
   have c7:=uQ z.ak[0] (by omega)
   rw[←f7] at c7
   have Oo:F.bX=true:=f6.trans (decide_eq_true hpos)
   (repeat(with_reducible refine And.intro ?_ ?_;focus first|omega|rfl|assumption|exact⟨_,rfl,rfl⟩|(simp;omega)|(simp;done)))
   refine au c7 ?_
   simp -implicitDefEqProofs (disch:=omega) only[go_sem]
   (repeat(with_reducible refine And.intro ?_ ?_;focus first|omega|rfl|assumption|exact⟨_,rfl,rfl⟩|(simp;omega)|(simp;done)))
   refine au (EU x 7 (by omega)) ?_
   simp -implicitDefEqProofs (disch:=omega) only[go_sem]
   rw[←hl,←f1,←f5]
   refine Dq 2 11 11 _ rfl rfl ?_
   refine kX (st':=[.box [.d (.s x.aU),.d (.sl (x.ak.map ah.enc))],.box rC,.box [.d (.s F.aW),.d (.sl (F.aC.map encS)),.d (.i .i64 F.aX.aH),.d (.s F.aX.fName),.d (.sl (F.aX.fArgs.map aj.enc)),.d (.sl (F.bE.map aO.enc)),.d (.b F.dW),.d (.b F.bX),.d (.i .i64 F.aY.aH),.d (.s F.aY.fName),.d (.sl (F.aY.fArgs.map aj.enc)),.bI (0,4) []],
    .box [.d (.s z.aU),.d (.sl (z.ak.map ah.enc))],.tok 11 []]::S) [1,2,4,6,7] [.c (.ptr (0,0) 0),.c (.ptr (0,1) 0),.c (.ptr (0,2) 0),.c (.d (.sl (l.map ah.enc))),.c (.d (.i .i64 0))] ?_ ?_ ?_
   ·rfl
   ·rw[Oo];rfl
   ·exact tail.out
  ·have hpos:¬0<z.ak.length:=by omega
   rw[if_neg hpos] at f7
   have Oo:F.bX=false:=f6.trans (decide_eq_false hpos)
   refine au (EU x 7 (by omega)) ?_
   simp -implicitDefEqProofs (disch:=omega) only[go_sem]
   rw[←hl,←f1,←f5]
   refine BD 2 _ _ rfl (zy (gN []) 10 _ rfl) ?_
   refine Dq 2 11 11 _ rfl rfl ?_
   refine kX (st':=[.box [.d (.s x.aU),.d (.sl (x.ak.map ah.enc))],.box rC,.box [.d (.s F.aW),.d (.sl (F.aC.map encS)),.d (.i .i64 F.aX.aH),.d (.s F.aX.fName),.d (.sl (F.aX.fArgs.map aj.enc)),.d (.sl (F.bE.map aO.enc)),.d (.b F.dW),.d (.b F.bX),.d (.i .i64 F.aY.aH),.d (.s F.aY.fName),.d (.sl (F.aY.fArgs.map aj.enc)),.bI (0,4) []],
    .box [.d (.s z.aU),.d (.sl (z.ak.map ah.enc))],.tok 11 []]::S) [1,2,4,6,7] [.c (.ptr (0,0) 0),.c (.ptr (0,1) 0),.c (.ptr (0,2) 0),.c (.d (.sl (l.map ah.enc))),.c (.d (.i .i64 0))] ?_ ?_ ?_
   ·rfl
   ·rw[Oo,f7];rfl
   ·exact tail.out
 refine⟨?_⟩
 refine aZ (ι:=Nat) Tryz.checked.mixed rfl [1,2,4,6,7] (fun i=>[.c (.ptr (0,0) 0),.c (.ptr (0,1) 0),.c (.ptr (0,2) 0),.c (.d (.sl (l.map ah.enc))),.c (.d (.i .i64 i))])
  (fun i=>[.box [.d (.s x.aU),.d (.sl (x.ak.map ah.enc))],.box rC,.box [.d (.s F.aW),.d (.sl (F.aC.map encS)),.d (.i .i64 F.aX.aH),.d (.s F.aX.fName),.d (.sl (F.aX.fArgs.map aj.enc)),.d (.sl (F.bE.map aO.enc)),.d (.b F.dW),.d (.b F.bX),.d (.i .i64 F.aY.aH),.d (.s F.aY.fName),.d (.sl (F.aY.fArgs.map aj.enc)),.bI (0,4) (T i)],
    .box [.d (.s z.aU),.d (.sl (z.ak.map ah.enc))],.tok 11 (T i)]::S)
  (fun i=>i≤l.length) (fun i=>l.length-i) 0 rfl (by rw[hT0]) (Nat.zero_le _) ?_
 intro i hi
 have hl':=kF i
 simp -implicitDefEqProofs (disch:=omega) only[go_sem]
 with_reducible refine aA (fun hb=> ?_) (fun hb=> ?_)<;>have h:=hb<;>(try simp only[wf_preprocess] at h)<;>simp -implicitDefEqProofs (disch:=omega) only[go_sem,hb]<;>(repeat(with_reducible refine And.intro ?_ ?_;focus first|omega|rfl|assumption|exact⟨_,rfl,rfl⟩|(simp;omega)|(simp;done)))
 ·have hi':i<l.length:=by omega
  have hz:=hlm _ (List.getElem_mem hi')
  have hs:=hTs i hi'
  have hg:=fun k=>yR l[i] k hz
  rw[Om (b:=false) (.inl rfl)] at hs
  simp only[aS.aG,ay.aG,aj.aG,List.cons_append,List.nil_append] at hs
  (repeat(with_reducible refine And.intro ?_ ?_;focus first|omega|rfl|assumption|exact⟨_,rfl,rfl⟩|(simp;omega)|(simp;done)))
  refine au (lN l[i] 0 hz (by omega)) ?_
  simp -implicitDefEqProofs (disch:=omega) only[go_sem]
  (repeat(with_reducible refine And.intro ?_ ?_;focus first|omega|rfl|assumption|exact⟨_,rfl,rfl⟩|(simp;omega)|(simp;done)))
  refine au (lN l[i] 1 hz (by omega)) ?_
  simp -implicitDefEqProofs (disch:=omega) only[go_sem]
  refine au (Du _ (hg 1)) ?_
  simp -implicitDefEqProofs (disch:=omega) only[go_sem]
  (repeat(with_reducible refine And.intro ?_ ?_;focus first|omega|rfl|assumption|exact⟨_,rfl,rfl⟩|(simp;omega)|(simp;done)))
  refine au (lN l[i] 2 hz (by omega)) ?_
  simp -implicitDefEqProofs (disch:=omega) only[go_sem]
  refine au (PL (l[i].ak.getD 2 fu) (hg 2)) ?_
  simp -implicitDefEqProofs (disch:=omega) only[go_sem]
  (repeat(with_reducible refine And.intro ?_ ?_;focus first|omega|rfl|assumption|exact⟨_,rfl,rfl⟩|(simp;omega)|(simp;done)))
  rw[hs]
  exact dO 5 (by decide) (i+1) (by omega) rfl rfl rfl rfl (by omega)
 ·have hi':i=l.length:=by omega
  subst hi'
  rw[hTe]
  clear hTs
  refine au (wX x (by omega)) ?_
  simp -implicitDefEqProofs (disch:=omega) only[go_sem]
  with_reducible refine aA (fun hb=> ?_) (fun hb=> ?_)<;>have h:=hb<;>(try simp only[wf_preprocess] at h)<;>simp -implicitDefEqProofs (disch:=omega) only[go_sem,hb]<;>(repeat(with_reducible refine And.intro ?_ ?_;focus first|omega|rfl|assumption|exact⟨_,rfl,rfl⟩|(simp;omega)|(simp;done)))
  ·exact zD (aQ fun e=>by rw[e.1] at h;cases h)
  have hv:=h
  with_reducible refine aA (fun hb=> ?_) (fun hb=> ?_)<;>have h:=hb<;>(try simp only[wf_preprocess] at h)<;>simp -implicitDefEqProofs (disch:=omega) only[go_sem,hb]<;>(repeat(with_reducible refine And.intro ?_ ?_;focus first|omega|rfl|assumption|exact⟨_,rfl,rfl⟩|(simp;omega)|(simp;done)))
  ·exact zD (aQ fun e=>by omega)
  have hne:x.ak≠[]:=fun e=>by rw[e] at h;exact h rfl
  have hok:=YS hne
  rw[hv,Bool.true_and] at hok
  rw[←hF] at hok hos hds
  (repeat(with_reducible refine And.intro ?_ ?_;focus first|omega|rfl|assumption|exact⟨_,rfl,rfl⟩|(simp;omega)|(simp;done)))
  refine au (YQ F (by omega)) ?_
  simp -implicitDefEqProofs (disch:=omega) only[go_sem]
  refine au (Eo (Oe F) x (by omega)) ?_
  simp -implicitDefEqProofs (disch:=omega) only[go_sem]
  with_reducible refine aA (fun hb=> ?_) (fun hb=> ?_)<;>have h:=hb<;>(try simp only[wf_preprocess] at h)<;>simp -implicitDefEqProofs (disch:=omega) only[go_sem,hb]<;>(repeat(with_reducible refine And.intro ?_ ?_;focus first|omega|rfl|assumption|exact⟨_,rfl,rfl⟩|(simp;omega)|(simp;done)))
  ·exact zD (by rw[hok];exact aQ h)
  ·have hy:uS x=true:=by rw[hok];exact bK h
   rw[QF hy,hy,←YT hy,←hF]
   exact jN _
set_option maxHeartbeats 4000000 in
theorem Oq(x:ah)(n:Nat)(hsz:x.sz≤1048576)(hf:iL x=true∧7≤x.ak.length∧cO x.ak 0=rQ):aI Tryz.prog 43 [x.v] (.d9 [(true,(pY x).cl n (pI (pY x) n) (qI (pY x) n) (rI (pY x) n)),(false,[.d (.b (uS x))])]):=aI.of_le fun S=>by
 have h1:=gY x
 have hds:=Jm true x
 obtain⟨F,hF⟩:∃F,F=vL true x:=⟨_,rfl⟩
 obtain⟨p,hp⟩:∃p,p=pI F n:=⟨_,rfl⟩
 obtain⟨q,hq⟩:∃q,q=qI F n:=⟨_,rfl⟩
 obtain⟨r,hr0⟩:∃r,r=rI F n:=⟨_,rfl⟩
 have zD:uS x=false→Less (.d9 [(true,rC),(false,[.d (.b false)])]) (.d9 [(true,(pY x).cl n (pI (pY x) n) (qI (pY x) n) (rI (pY x) n)),(false,[.d (.b (uS x))])]):=fun e=>by
  rw[e];exact V9 _ (Ol e) n _ _ _ false
 have hvx:=JN hf.1
 have hfo:iB x=true:=by have:=hf.1;unfold iL at this;rw[Bool.and_eq_true] at this;exact this.1
 have hlen:7≤x.ak.length:=hf.2.1
 have hr:=gV (l:=x.ak)
 have f1:F.aW=x.ak[1].aU:=by rw[hF];exact lX (by omega)
 have f2:F.aC=iN x.ak[2].ak:=by rw[hF,←pW (l:=x.ak) (i:=2) (by omega)];rfl
 have f3:F.aX=dU true x.ak[3]:=by rw[hF,←pW (l:=x.ak) (i:=3) (by omega)];rfl
 have f4:F.bE=x.ak[4].ak.map (l7 true):=by rw[hF,←pW (l:=x.ak) (i:=4) (by omega)];rfl
 have f5:F.dW=decide ((0:Int)<(x.ak[5].ak.length:Int)):=by rw[hF,←pW (l:=x.ak) (i:=5) (by omega)];show decide (0<(x.ak.getD 5 fu).ak.length)=_;exact decide_eq_decide.2 (by show _↔((0:Int)<((x.ak.getD 5 fu).ak.length:Int));omega)
 obtain⟨z,Ku⟩:∃z,z=x.ak[6]:=⟨_,rfl⟩
 have f6:F.bX=decide (0<z.ak.length):=by rw[hF,Ku,←pW (l:=x.ak) (i:=6) (by omega)];rfl
 have f7:F.aY=if 0<z.ak.length then dU true (gX z.ak 0) else gI:=by rw[hF,Ku,←pW (l:=x.ak) (i:=6) (by omega)];rfl
 have hzs:=fun i hi=>Ef x (i:=i) hi
 have hzz:=hzs 6 (by omega)
 subst Ku
 have c2:=Cg x.ak[2] (by have:=hzs 2 (by omega);omega) n
 have c3:=sI x.ak[3] (n+1) (by have:=hzs 3 (by omega);omega)
 have c4:=KU x.ak[4] p (p+1) (by have:=hzs 4 (by omega);omega)
 rw[←f2] at c2
 rw[←f3] at c3
 rw[←f4] at c4
 obtain⟨l,hl⟩:∃l,l=x.ak.drop 7:=⟨_,rfl⟩
 have hll:l.length≤4194304:=by rw[hl,List.length_drop];omega
 have hlm:∀y∈l,y.sz≤1048576∧iB y=true:=fun y hy=>by
  have h2:=List.mem_of_mem_drop (hl▸hy)
  have:=kg h2
  exact⟨by omega,tq (Dw hfo (fun e=>by rw[e] at h2;cases h2)) h2⟩
 obtain⟨L,hL⟩:∃L:Nat→Nat,L=fun i=>r+1+jy (((l.map (nV true)).take i).map aS.enc):=⟨_,rfl⟩
 obtain⟨T,hT⟩:∃T:Nat→List (List D),T=fun i=>eG (((l.map (nV true)).take i).map aS.enc) (r+1):=⟨_,rfl⟩
 have hT0:T 0=[]:=by rw[hT];rfl
 have kF:∀i,(T i).length≤i:=fun i=>by rw[hT];simp only[jk,List.length_map];exact List.length_take_le _ _
 have hTr:∀i,∀r∈T i,r.length=11:=fun i=>by
  rw[hT]
  exact xK fun r hr=>by
   obtain⟨z,_,rfl⟩:=List.mem_map.1 hr
   exact z.bH
 have hTs:∀i (hi:i<l.length),T i++[eB (nV true l[i]).enc (L i)]=T (i+1):=fun i hi=>by
  have:=EZ (e:=aS.enc) (l:=l.map (nV true)) (i:=i) (by rw[List.length_map];exact hi) (r+1)
  rw[List.getElem_map] at this
  rw[hT,hL];exact this
 have hTe:T l.length=lMe F.aF (r+1):=by
  rw[hT];simp only
  rw[List.take_of_length_le (by simp),hF,hl];rfl
 clear hT hL
 by_cases hpos:0<x.ak[6].ak.length
 case' pos=>
  refine kD (n) (rs:=[.cell 2 92,.tmp 3]) Tryz.checked.mixed Tryz.func43 Tryz.ntmps43 rfl rfl rfl rfl rfl ?_
  simp -implicitDefEqProofs (disch:=omega) only[go_sem]
  refine au (BH x rQ 7 (by omega) (by omega) (by omega)) ?_
  simp -implicitDefEqProofs (disch:=omega) only[go_sem,bK hf]
  (repeat(with_reducible refine And.intro ?_ ?_;focus first|omega|rfl|assumption|exact⟨_,rfl,rfl⟩|(simp;omega)|(simp;done)))
  refine au c2 ?_
  simp -implicitDefEqProofs (disch:=omega) only[go_sem]
  (repeat(with_reducible refine And.intro ?_ ?_;focus first|omega|rfl|assumption|exact⟨_,rfl,rfl⟩|(simp;omega)|(simp;done)))
  refine au c3 ?_
  simp -implicitDefEqProofs (disch:=omega) only[go_sem]
  (repeat(with_reducible refine And.intro ?_ ?_;focus first|omega|rfl|assumption|exact⟨_,rfl,rfl⟩|(simp;omega)|(simp;done)))
  refine au c4 ?_
  simp -implicitDefEqProofs (disch:=omega) only[go_sem]
  (repeat(with_reducible refine And.intro ?_ ?_;focus first|omega|rfl|assumption|exact⟨_,rfl,rfl⟩|(simp;omega)|(simp;done)))
  refine aA (fun hb=> ?_) (fun hb=> ?_)<;>have h:=hb<;>(try simp only[wf_preprocess] at h)<;>(first|(exfalso;omega)|skip)
  simp -implicitDefEqProofs (disch:=omega) only[go_sem,hb]
  (repeat(with_reducible refine And.intro ?_ ?_;focus first|omega|rfl|assumption|exact⟨_,rfl,rfl⟩|(simp;omega)|(simp;done)))
  rw[if_pos hpos,pW hpos] at f7
  have hz0:=Ef x.ak[6] hpos
  have c7:=sI x.ak[6].ak[0] q (by omega)
  rw[←f7] at c7
  have Oo:F.bX=true:=f6.trans (decide_eq_true hpos)
  (repeat(with_reducible refine And.intro ?_ ?_;focus first|omega|rfl|assumption|exact⟨_,rfl,rfl⟩|(simp;omega)|(simp;done)))
  refine au c7 ?_
  simp -implicitDefEqProofs (disch:=omega) only[go_sem]
  refine⟨⟨by omega,by omega,hr⟩,?_⟩
  rw[oP _ _ _ (Nat.le_refl _),←hl,←f1,←f5]
  simp -implicitDefEqProofs (disch:=omega) only[go_sem]
  refine BF r 3 11 11 _ rfl rfl ?_
  refine kX (st':=[.seed n,.box [.d (.s x.aU),.d (.sl (x.ak.map ah.enc))],.box rC,.box [.d (.s F.aW),.d (.ol n (F.aC.map encS)),.d (.i .i64 F.aX.aH),.d (.s F.aX.fName),.d (.ol (n+1) (lt F.aX.fArgs (n+1+1))),.d (.ol p (lB F.bE (p+1))),.d (.b F.dW),.d (.b F.bX),.d (.i .i64 F.aY.aH),.d (.s F.aY.fName),.d (.ol q (lt F.aY.fArgs (q+1))),.bI (0,4) []],.dZ r 11 []]::S) [1,2,5,54,55,56] [.c (.ptr (0,1) 0),.c (.ptr (0,2) 0),.c (.ptr (0,3) 0),.c (.d (.sl (l.map ah.enc))),.c (.d (.i .i64 l.length)),.c (.d (.i .i64 0))] ?_ ?_ ?_
  ·rfl
  ·rw[Oo];rfl
 case' neg=>
  refine kD (n) (rs:=[.cell 2 92,.tmp 3]) Tryz.checked.mixed Tryz.func43 Tryz.ntmps43 rfl rfl rfl rfl rfl ?_
  simp -implicitDefEqProofs (disch:=omega) only[go_sem]
  refine au (BH x rQ 7 (by omega) (by omega) (by omega)) ?_
  simp -implicitDefEqProofs (disch:=omega) only[go_sem,bK hf]
  (repeat(with_reducible refine And.intro ?_ ?_;focus first|omega|rfl|assumption|exact⟨_,rfl,rfl⟩|(simp;omega)|(simp;done)))
  refine au c2 ?_
  simp -implicitDefEqProofs (disch:=omega) only[go_sem]
  (repeat(with_reducible refine And.intro ?_ ?_;focus first|omega|rfl|assumption|exact⟨_,rfl,rfl⟩|(simp;omega)|(simp;done)))
  refine au c3 ?_
  simp -implicitDefEqProofs (disch:=omega) only[go_sem]
  (repeat(with_reducible refine And.intro ?_ ?_;focus first|omega|rfl|assumption|exact⟨_,rfl,rfl⟩|(simp;omega)|(simp;done)))
  refine au c4 ?_
  simp -implicitDefEqProofs (disch:=omega) only[go_sem]
  (repeat(with_reducible refine And.intro ?_ ?_;focus first|omega|rfl|assumption|exact⟨_,rfl,rfl⟩|(simp;omega)|(simp;done)))
  refine aA (fun hb=> ?_) (fun hb=> ?_)<;>have h:=hb<;>(try simp only[wf_preprocess] at h)<;>(first|(exfalso;omega)|skip)
  simp -implicitDefEqProofs (disch:=omega) only[go_sem,hb]
  (repeat(with_reducible refine And.intro ?_ ?_;focus first|omega|rfl|assumption|exact⟨_,rfl,rfl⟩|(simp;omega)|(simp;done)))
  rw[if_neg hpos] at f7
  have Oo:F.bX=false:=f6.trans (decide_eq_false hpos)
  refine⟨⟨by omega,by omega,hr⟩,?_⟩
  rw[oP _ _ _ (Nat.le_refl _),←hl,←f1,←f5]
  simp -implicitDefEqProofs (disch:=omega) only[go_sem]
  refine BD 3 _ _ rfl (zy (fD q) 10 _ rfl) ?_
  refine BF r 3 11 11 _ rfl rfl ?_
  refine kX (st':=[.seed n,.box [.d (.s x.aU),.d (.sl (x.ak.map ah.enc))],.box rC,.box [.d (.s F.aW),.d (.ol n (F.aC.map encS)),.d (.i .i64 F.aX.aH),.d (.s F.aX.fName),.d (.ol (n+1) (lt F.aX.fArgs (n+1+1))),.d (.ol p (lB F.bE (p+1))),.d (.b F.dW),.d (.b F.bX),.d (.i .i64 F.aY.aH),.d (.s F.aY.fName),.d (.ol q (lt F.aY.fArgs (q+1))),.bI (0,4) []],.dZ r 11 []]::S) [1,2,5,54,55,56] [.c (.ptr (0,1) 0),.c (.ptr (0,2) 0),.c (.ptr (0,3) 0),.c (.d (.sl (l.map ah.enc))),.c (.d (.i .i64 l.length)),.c (.d (.i .i64 0))] ?_ ?_ ?_
  ·rfl
  ·rw[Oo,f7];rfl
 all_goals
  refine aZ (ι:=Nat×List (List D)) Tryz.checked.mixed rfl [1,2,5,54,55,56] (fun y=>[.c (.ptr (0,1) 0),.c (.ptr (0,2) 0),.c (.ptr (0,3) 0),.c (.d (.sl (l.map ah.enc))),.c (.d (.i .i64 l.length)),.c (.d (.i .i64 y.1))])
   (fun y=>[.seed n,.box [.d (.s x.aU),.d (.sl (x.ak.map ah.enc))],.box rC,.box [.d (.s F.aW),.d (.ol n (F.aC.map encS)),.d (.i .i64 F.aX.aH),.d (.s F.aX.fName),.d (.ol (n+1) (lt F.aX.fArgs (n+1+1))),.d (.ol p (lB F.bE (p+1))),.d (.b F.dW),.d (.b F.bX),.d (.i .i64 F.aY.aH),.d (.s F.aY.fName),.d (.ol q (lt F.aY.fArgs (q+1))),.bI (0,4) y.2],.dZ r 11 y.2]::S)
   (fun y=>y.1≤l.length∧gF y.2 (T y.1)) (fun y=>l.length-y.1) (0,[]) rfl rfl ⟨Nat.zero_le _,by rw[hT0];exact .nil⟩ ?_
  rintro⟨i,U⟩ ⟨p1,p2⟩
  simp only at p1 p2
  have hU1:=p2.length
  have hU2:=kF i
  have hU3:=p2.rows (hTr i)
  simp -implicitDefEqProofs (disch:=omega) only[go_sem]
  with_reducible refine aA (fun hb=> ?_) (fun hb=> ?_)<;>have h:=hb<;>(try simp only[wf_preprocess] at h)<;>simp -implicitDefEqProofs (disch:=omega) only[go_sem,hb]<;>(repeat(with_reducible refine And.intro ?_ ?_;focus first|omega|rfl|assumption|exact⟨_,rfl,rfl⟩|(simp;omega)|(simp;done)))
  ·have hi':i<l.length:=by omega
   obtain⟨hz,hfy⟩:=hlm _ (List.getElem_mem hi')
   have hs:=hTs i hi'
   have hz1:=gY l[i]
   (repeat(with_reducible refine And.intro ?_ ?_;focus first|omega|rfl|assumption|exact⟨_,rfl,rfl⟩|(simp;omega)|(simp;done)))
   with_reducible refine aA (fun hb=> ?_) (fun hb=> ?_)<;>have h:=hb<;>(try simp only[wf_preprocess] at h)<;>simp -implicitDefEqProofs (disch:=omega) only[go_sem,hb]<;>(repeat(with_reducible refine And.intro ?_ ?_;focus first|omega|rfl|assumption|exact⟨_,rfl,rfl⟩|(simp;omega)|(simp;done)))
   ·have hl3:l[i].ak.length=3:=by omega
    have hd:=Om (b:=true) (y:=l[i]) (.inr hl3)
    have g0:l[i].ak.getD 0 fu=l[i].ak[0]:=pW (by omega)
    have g1:l[i].ak.getD 1 fu=l[i].ak[1]:=pW (by omega)
    have g2:l[i].ak.getD 2 fu=l[i].ak[2]:=pW (by omega)
    rw[g0,g1,g2] at hd
    rw[hd,Oj] at hs
    have hy1:=Ef l[i] (i:=1) (by omega)
    have hy2:=Ef l[i] (i:=2) (by omega)
    (repeat(with_reducible refine And.intro ?_ ?_;focus first|omega|rfl|assumption|exact⟨_,rfl,rfl⟩|(simp;omega)|(simp;done)))
    refine au (Cg l[i].ak[1] (by omega) (L i)) ?_
    simp -implicitDefEqProofs (disch:=omega) only[go_sem]
    (repeat(with_reducible refine And.intro ?_ ?_;focus first|omega|rfl|assumption|exact⟨_,rfl,rfl⟩|(simp;omega)|(simp;done)))
    refine au (NR l[i].ak[2] (L i+1) (aaN hfy (by omega)) (by omega)) ?_
    simp -implicitDefEqProofs (disch:=omega) only[go_sem]
    (repeat(with_reducible refine And.intro ?_ ?_;focus first|omega|rfl|assumption|exact⟨_,rfl,rfl⟩|(simp;omega)|(simp;done)))
    refine dO 5 (by decide) (i+1,_) (by simp only;omega) rfl rfl rfl rfl ⟨by simp only;omega,?_⟩
    simp only
    rw[←hs]
    exact p2.snoc (.refl _)
   ·rw[Wd (by omega),Oj] at hs
    refine dO 5 (by decide) (i+1,_) (by simp only;omega) rfl rfl rfl rfl ⟨by simp only;omega,?_⟩
    simp only
    rw[←hs]
    exact p2.snoc (.cons (.refl _) (.cons (AA _) (.cons (.refl _) (.cons (.refl _) (.cons (.refl _) (.cons (.refl _) (.cons (.refl _) (.cons (.refl _) (.cons (AA _) (.cons (AA _) (.cons (AA _) .nil)))))))))))
  ·have hi':i=l.length:=by omega
   subst hi'
   clear hTs
   rw[hTe] at p2
   have hcl:Less (.agg [.d (.s F.aW),.d (.ol n (F.aC.map encS)),.d (.i .i64 F.aX.aH),.d (.s F.aX.fName),.d (.ol (n+1) (lt F.aX.fArgs (n+1+1))),.d (.ol p (lB F.bE (p+1))),.d (.b F.dW),.d (.b F.bX),.d (.i .i64 F.aY.aH),.d (.s F.aY.fName),.d (.ol q (lt F.aY.fArgs (q+1))),.d (.sl U)]) F.v:=by
    have lab:∀(es:List (List D)) (k j:Nat),mq (.d (.ol k (eG es j))) (.d (.sl es)):=fun es k j w σ S β v h=>(zS es j).rep (qJ h)
    exact(eD.cons (.refl _) (.cons (aaB _ _) (.cons (.refl _) (.cons (.refl _) (.cons (lab _ _ _) (.cons (lab _ _ _) (.cons (.refl _) (.cons (.refl _) (.cons (.refl _) (.cons (.refl _) (.cons (lab _ _ _) (.cons (PX (p2.trans (zS _ _))) .nil)))))))))))).less
   rw[←hF] at hds
   refine yH (FP F (by omega)) (.cons hcl .nil) ?_
   simp -implicitDefEqProofs (disch:=omega) only[go_sem]
   with_reducible refine aA (fun hb=> ?_) (fun hb=> ?_)<;>have h:=hb<;>(try simp only[wf_preprocess] at h)<;>simp -implicitDefEqProofs (disch:=omega) only[go_sem,hb]<;>(repeat(with_reducible refine And.intro ?_ ?_;focus first|omega|rfl|assumption|exact⟨_,rfl,rfl⟩|(simp;omega)|(simp;done)))
   ·exact zD (aQ fun e=>by rw[←hF] at e;rw[e.2.2.1] at h;cases h)
   have hv:=h
   have hz:=DI hv
   (repeat(with_reducible refine And.intro ?_ ?_;focus first|omega|rfl|assumption|exact⟨_,rfl,rfl⟩|(simp;omega)|(simp;done)))
   refine yH (aI.less (Oi F 0 hv (by omega)) (aat (rT F) 0)) (.cons hcl .nil) ?_
   simp -implicitDefEqProofs (disch:=omega) only[go_sem]
   refine au (Ep (rT F) x (by omega)) ?_
   simp -implicitDefEqProofs (disch:=omega) only[go_sem]
   with_reducible refine aA (fun hb=> ?_) (fun hb=> ?_)<;>have h:=hb<;>(try simp only[wf_preprocess] at h)<;>simp -implicitDefEqProofs (disch:=omega) only[go_sem,hb]<;>(repeat(with_reducible refine And.intro ?_ ?_;focus first|omega|rfl|assumption|exact⟨_,rfl,rfl⟩|(simp;omega)|(simp;done)))
   ·exact zD (aQ fun e=>h (by rw[←hF] at e;exact e.2.2.2))
   ·have hy:uS x=true:=by
     unfold uS
     rw[←hF]
     exact bK ⟨hf.1,hf.2,hv,h⟩
    rw[QF hy,hy,←hF,←hp,←hq,←hr0]
    exact(jM.cons (.cons (.refl _) (.cons (.refl _) (.cons (.refl _) (.cons (.refl _) (.cons (.refl _) (.cons (.refl _) (.cons (.refl _) (.cons (.refl _) (.cons (.refl _) (.cons (.refl _) (.cons (.refl _) (.cons (Tz p2) .nil)))))))))))) (.refl _)).less
theorem Ot(x:ah)(n:Nat)(hsz:x.sz≤1048576):aI Tryz.prog 43 [x.v] (.d9 [(true,(pY x).cl n (pI (pY x) n) (qI (pY x) n) (rI (pY x) n)),(false,[.d (.b (uS x))])]):=by
 by_cases hf:iL x=true∧7≤x.ak.length∧cO x.ak 0=rQ
 ·exact Oq x n hsz hf
 ·refine aI.of_le fun S=> ?_
  have zD:uS x=false→Less (.d9 [(true,rC),(false,[.d (.b false)])]) (.d9 [(true,(pY x).cl n (pI (pY x) n) (qI (pY x) n) (rI (pY x) n)),(false,[.d (.b (uS x))])]):=fun e=>by
   rw[e];exact V9 _ (Ol e) n _ _ _ false
  refine aD (rs:=[.cell 2 92,.tmp 3]) Tryz.checked.mixed Tryz.func43 Tryz.ntmps43 rfl rfl rfl rfl rfl ?_
  simp -implicitDefEqProofs (disch:=omega) only[go_sem]
  refine au (BH x rQ 7 (by omega) (by omega) (by omega)) ?_
  simp -implicitDefEqProofs (disch:=omega) only[go_sem]
  with_reducible refine aA (fun hb=> ?_) (fun hb=> ?_)<;>have h:=hb<;>(try simp only[wf_preprocess] at h)<;>simp -implicitDefEqProofs (disch:=omega) only[go_sem,hb]<;>(repeat(with_reducible refine And.intro ?_ ?_;focus first|omega|rfl|assumption|exact⟨_,rfl,rfl⟩|(simp;omega)|(simp;done)))
  ·exact zD (aQ fun e=>hf ⟨e.1,e.2.1.1,e.2.1.2⟩)
  ·exact absurd h hf
theorem KV(x:ah)(n:Nat)(hsz:x.sz≤1048576):aI Tryz.prog 43 [x.v] (.d9 [(true,(eB (pY x).enc n).map .d),(false,[.d (.b (uS x))])]):=by
 rw[aaS];exact Ot x n hsz
end Go.Proofs.YtlmhknhlmicmeaaGreatDoor
namespace Go.Proofs.YtlmhknhlmicmeaaGreatDoor
open Go Go.Ab
end Go.Proofs.YtlmhknhlmicmeaaGreatDoor
namespace Go.Proofs.YtlmhknhlmicmeaaGreatDoor
open Go Go.Ab
end Go.Proofs.YtlmhknhlmicmeaaGreatDoor
namespace Go.Proofs.YtlmhknhlmicmeaaGreatDoor
open Go Go.Ab
end Go.Proofs.YtlmhknhlmicmeaaGreatDoor
namespace Go.Proofs.YtlmhknhlmicmeaaGreatDoor
open Go Go.Ab
end Go.Proofs.YtlmhknhlmicmeaaGreatDoor
namespace Go.Proofs.YtlmhknhlmicmeaaGreatDoor
open Go Go.Ab
end Go.Proofs.YtlmhknhlmicmeaaGreatDoor
namespace Go.Proofs.YtlmhknhlmicmeaaGreatDoor
open Go Go.Ab
end Go.Proofs.YtlmhknhlmicmeaaGreatDoor
namespace Go.Proofs.YtlmhknhlmicmeaaGreatDoor
open Go Go.Ab
theorem DJ:∀N:Nat,(∀x:ah,SizeOf.sizeOf x<N→∀n:Nat,x.sz≤1048576→aI Tryz.prog 28 [x.v] (.agg ((eB x.enc n).map .d)))∧
 (∀xs:List ah,SizeOf.sizeOf xs<N→∀n:Nat,xs.length+bG (xs.map ah.enc)≤1048576→aI Tryz.prog 109 [.c (.d (.sl (xs.map ah.enc)))] (.c (.d (lH (.sl (xs.map ah.enc)) n))))
 |0=>⟨fun x h=>by omega,fun x h=>by omega⟩
 |N+1=>by
  obtain⟨oH,sS⟩:=DJ N
  refine⟨fun x hn n hsz=> ?_,fun xs hn n hsz=> ?_⟩
  ·intro S
   have GL:=ah.kV x
   simp only[ah.sz,ah.aG,bQ,bP,D.sz,List.length_map] at hsz
   refine aD (rs:=[.cell 2 32]) Tryz.checked.mixed Tryz.func28 Tryz.ntmps28 rfl rfl rfl rfl rfl ?_
   simp only[ah.aG,encS,encI,List.cons_append,List.nil_append,eB,lH,oC,nZ,List.map_cons,List.map_nil,Nat.add_zero]
   simp -implicitDefEqProofs (disch:=omega) only[go_sem]
   refine au (sS x.ak (by omega) (n) (by omega)) ?_
   simp -implicitDefEqProofs (disch:=omega) only[go_sem,lH]
   all_goals (first|rfl|(simp only[Nat.add_assoc];done))
  ·obtain⟨T,hT⟩:∃T,T=eG (xs.map ah.enc) (n+1):=⟨_,rfl⟩
   have kF:T.length=xs.length:=by rw[hT,jk,List.length_map]
   show aI Tryz.prog 109 [.c (.d (.sl (xs.map ah.enc)))] (.c (.d (.ol n (eG (xs.map ah.enc) (n+1)))))
   rw[←hT]
   intro S
   refine kD (n) (rs:=[.tmp 2]) Tryz.checked.mixed Tryz.func109 Tryz.ntmps109 rfl rfl rfl rfl rfl ?_
   simp -implicitDefEqProofs (disch:=omega) only[go_sem]
   (repeat(with_reducible refine And.intro ?_ ?_;focus first|omega|rfl|assumption|exact⟨_,rfl,rfl⟩|(simp;omega)|(simp;done)))
   refine aZ (ι:=Nat×List (List D)) Tryz.checked.mixed rfl [0,3,4] (fun y=>[.c (.d (.sl (xs.map ah.enc))),.c (.ku (0,1)),.c (.d (.i .i64 y.1))]) (fun y=>[.seed n,.fH 2 y.2]::S)
    (fun y=>y.1≤xs.length∧qP 2 y.1 y.2 T) (fun y=>xs.length-y.1) (0,_) rfl rfl ⟨Nat.zero_le _,qP.start (by simp[kF]) rfl⟩ ?_
   rintro⟨i,R⟩ ⟨p1,p2⟩
   simp only at p1 p2
   simp -implicitDefEqProofs (disch:=omega) only[go_sem]
   with_reducible refine aA (fun hb=> ?_) (fun hb=> ?_)<;>have h:=hb<;>(try simp only[wf_preprocess] at h)<;>simp -implicitDefEqProofs (disch:=omega) only[go_sem,hb]<;>(repeat(with_reducible refine And.intro ?_ ?_;focus first|omega|rfl|assumption|exact⟨_,rfl,rfl⟩|(simp;omega)|(simp;done)))
   ·have hi:i<xs.length:=by omega
    have hir:i<(xs.map ah.enc).length:=by rw[List.length_map];exact hi
    have hR:=p2.1
    rw[kF] at hR
    have hTi:T[i]? =some (eB (ah.enc xs[i]) (n+1+jy ((xs.map ah.enc).take i))):=by
     rw[hT,Na hir,List.getElem_map]
    have hx:xs[i].sz≤bG (xs.map ah.enc):=eP (List.mem_map_of_mem (List.getElem_mem hi))
    (repeat(with_reducible refine And.intro ?_ ?_;focus first|omega|rfl|assumption|exact⟨_,rfl,rfl⟩|(simp;omega)|(simp;done)))
    refine au (oH xs[i] (by have:=List.sizeOf_lt_of_mem (List.getElem_mem hi);omega) (n+1+jy ((xs.map ah.enc).take i)) (by omega)) ?_
    obtain⟨row,hrow⟩:∃row,row=eB (ah.enc xs[i]) (n+1+jy ((xs.map ah.enc).take i)):=⟨_,rfl⟩
    have hrl:row.length=2:=by rw[hrow,fZ,ah.bH]
    rw[←hrow] at hTi ⊢
    simp -implicitDefEqProofs (disch:=omega) only[go_sem,hrl,Nb]
    (repeat(with_reducible refine And.intro ?_ ?_;focus first|omega|rfl|assumption|exact⟨_,rfl,rfl⟩|(simp;omega)|(simp;done)))
    refine bL (i+1,_) (by simp only;omega) rfl rfl ⟨by simp only;omega,p2.step hTi hrl⟩
   ·have hi:i=xs.length:=by omega
    rw[p2.done (by omega)]
theorem PZ(x:ah):∀n:Nat,x.sz≤1048576→aI Tryz.prog 28 [x.v] (.agg ((eB x.enc n).map .d)):=(DJ _).1 x (Nat.lt_succ_self _)
end Go.Proofs.YtlmhknhlmicmeaaGreatDoor
namespace Go.Proofs.YtlmhknhlmicmeaaGreatDoor
open Go Go.Ab
theorem vM(xs:List (List UInt8)):∀(k:Int) (l j r:Nat) (p:List (Nat×Nat)) (S:Store) (rs:List (List (List D))),aV S (l,j)=some (.xf rs)→atR rs r p=some (xs.map encS)→0≤k∧k+aB (xs.map encS)≤4611686018427387904→bD Tryz.prog 82 [.c (.xp (l,j) r p),.c (.d (.i .i64 k))] S (fun res S'=>res=.c (.d (.i .i64 (k+aB (xs.map encS))))∧S'=bf S (l,j) (.xf (dB rs r p (cu (xs.map encS) k)))):=by
 intro k l j r p S rs hS hp hk
 have hlen:=nP (f:=encS) (fun x=>by simp only[encS,List.cons_append,List.nil_append,kM,kL];omega) xs
 obtain⟨rows,hr⟩:∃rows,rows=xs.map encS:=⟨_,rfl⟩
 have hl:rows.length=xs.length:=by rw[hr,List.length_map]
 rw[←hr] at hp hk hlen ⊢
 have ht:∀x:Ab.Obj,aV (bf S (l,j) x) (l,j)=some x:=fun x=>bY _ _ _ _ hS
 have hA:∀new,atR (dB rs r p new) r p=some new:=fun new=>pF hp
 have hU:∀a b,dB (dB rs r p a) r p b=dB rs r p b:=fun a b=>oN hp
 refine aD (rs:=[.tmp 4]) Tryz.checked.mixed Tryz.func82 Tryz.ntmps82 rfl rfl rfl rfl rfl ?_
 simp -implicitDefEqProofs (disch:=omega) only[go_sem]
 refine aZ (ι:=Nat) Tryz.checked.mixed rfl [0,1,5] (fun i=>[.c (.xp (1+l,j) r p),.c (.d (.i .i64 (k+aB (rows.take i)))),.c (.d (.i .i64 i))])
  (fun i=>[]::bf S (l,j) (.xf (dB rs r p (ny rows k i)))) (fun i=>i≤xs.length) (fun i=>xs.length-i) 0 ?_ ?_ (Nat.zero_le _) ?_
 ·have z0:k+((aB (rows.take 0):Nat):Int)=k:=by simp[aB]
  rw[z0]
  rfl
 ·rw[qW,qV hp,lD _ _ hS]
 intro i hi
 simp -implicitDefEqProofs (disch:=omega) only[go_sem,ht,hA,jm,hl]
 with_reducible refine aA (fun hb=> ?_) (fun hb=> ?_)<;>have h:=hb<;>try simp only[wf_preprocess] at h
 ·have hi:i<xs.length:=by omega
  have hir:i<rows.length:=by omega
  obtain⟨x,hx⟩:∃x,x=xs[i]:=⟨_,rfl⟩
  have e1:rows[i]=[.s x]:=by
   simp only[hr,List.getElem_map,←hx]
   simp only[encS,List.cons_append,List.nil_append]
  have hm:=jJ hir
  have hle:=mO (rows:=rows) (i:=i+1)
  rw[hm,e1] at hle
  rw[e1] at hm
  simp only[kM,kL] at hle hm
  have hK:k+((aB (rows.take (i+1)):Nat):Int)=k+((aB (rows.take i):Nat):Int)+1:=by rw[hm];omega
  have e2:=vF (k:=k) hir
  rw[e1] at e2
  have hC:∀row o,cellAt (jC rows k i row) i o=row[o]? :=fun row o=>nO hir
  have hG:∀row,(jC rows k i row).getD i []=row:=fun row=>qX hir
  simp -implicitDefEqProofs (disch:=omega) only[go_sem,hb,ht,hA,hU,e2,hC,hG,dG,bT,hl,bF,dD]
  (repeat(with_reducible refine And.intro ?_ ?_;focus first|omega|rfl|assumption|exact⟨_,rfl,rfl⟩|(simp;omega)|(simp;done)))
  refine au (dw (k+((aB (rows.take i):Nat):Int)) (by omega)) ?_
  simp -implicitDefEqProofs (disch:=omega) only[go_sem,hb,ht,hA,hU,e2,hC,hG,dG,bT,hl,bF,dD]
  (repeat(with_reducible refine And.intro ?_ ?_;focus first|omega|rfl|assumption|exact⟨_,rfl,rfl⟩|(simp;omega)|(simp;done)))
  refine bL (i+1) (by omega) (by rw[hK];rfl) ?_ (by omega)
  have h3:=vG (k:=k) hir
  rw[e1] at h3
  simp only[ng,zi] at h3
  rw[←h3]
  all_goals rfl
 ·simp -implicitDefEqProofs (disch:=omega) only[go_sem,hb]
  have hi:i=xs.length:=by omega
  rw[sQ (by omega),List.take_of_length_le (by omega)]
  all_goals (first|rfl|exact⟨rfl,rfl⟩)
theorem vN(xs:List (List UInt8)):∀(k:Int) (l j r:Nat) (p:List (Nat×Nat)) (S:Store) (rs:List (List (List D))),aV S (l,j)=some (.xf rs)→atR rs r p=some (cu (xs.map encS) k)→0≤k∧k+aB (xs.map encS)≤4611686018427387904→bD Tryz.prog 132 [.c (.xp (l,j) r p),.c (.d (.i .i64 k))] S (fun res S'=>res=.c (.d (.i .i64 (k+aB (xs.map encS))))∧S'=S):=by
 intro k l j r p S rs hS hp hk
 have hlen:=nP (f:=encS) (fun x=>by simp only[encS,List.cons_append,List.nil_append,kM,kL];omega) xs
 obtain⟨rows,hr⟩:∃rows,rows=xs.map encS:=⟨_,rfl⟩
 have hl:rows.length=xs.length:=by rw[hr,List.length_map]
 rw[←hr] at hp hk hlen ⊢
 refine aD (rs:=[.tmp 4]) Tryz.checked.mixed Tryz.func132 Tryz.ntmps132 rfl rfl rfl rfl rfl ?_
 simp -implicitDefEqProofs (disch:=omega) only[go_sem]
 refine aZ (ι:=Nat) Tryz.checked.mixed rfl [0,1,5] (fun i=>[.c (.xp (1+l,j) r p),.c (.d (.i .i64 (k+aB (rows.take i)))),.c (.d (.i .i64 i))])
  (fun i=>[]::S) (fun i=>i≤xs.length) (fun i=>xs.length-i) 0 ?_ rfl (Nat.zero_le _) ?_
 ·have z0:k+((aB (rows.take 0):Nat):Int)=k:=by simp[aB]
  rw[z0]
  rfl
 intro i hi
 simp -implicitDefEqProofs (disch:=omega) only[go_sem,hS,hp,bB,hl]
 with_reducible refine aA (fun hb=> ?_) (fun hb=> ?_)<;>have h:=hb<;>try simp only[wf_preprocess] at h
 ·have hi:i<xs.length:=by omega
  have hir:i<rows.length:=by omega
  obtain⟨x,hx⟩:∃x,x=xs[i]:=⟨_,rfl⟩
  have e1:rows[i]=[.s x]:=by
   simp only[hr,List.getElem_map,←hx]
   simp only[encS,List.cons_append,List.nil_append]
  have hm:=jJ hir
  have hle:=mO (rows:=rows) (i:=i+1)
  rw[hm,e1] at hle
  rw[e1] at hm
  simp only[kM,kL] at hle hm
  have hK:k+((aB (rows.take (i+1)):Nat):Int)=k+((aB (rows.take i):Nat):Int)+1:=by rw[hm];omega
  have e2:ng rows[i] (k+((aB (rows.take i):Nat):Int))=[.s (gG (k+((aB (rows.take i):Nat):Int)))]:=by
   rw[e1]
   simp only[ng,zi]
   all_goals rfl
  have hC:∀o,cellAt (cu rows k) i o=([.s (gG (k+((aB (rows.take i):Nat):Int)))]:List D)[o]? :=fun o=>by
   have h1:(cu rows k)[i]? =some (ng rows[i] (k+((aB (rows.take i):Nat):Int))):=by
    have h2:=kW (k:=k) hir
    have h3:i<(cu rows k).length:=by rw[bB];exact hir
    rw[List.getD_eq_getElem?_getD,List.getElem?_eq_getElem h3,Option.getD_some] at h2
    rw[List.getElem?_eq_getElem h3,h2]
   unfold cellAt
   rw[h1,Option.bind_some,e2]
  have hG:=kW (k:=k) hir
  rw[e2] at hG
  simp -implicitDefEqProofs (disch:=omega) only[go_sem,hb,hS,hp,hC,hG,bB,hl,dD]
  (repeat(with_reducible refine And.intro ?_ ?_;focus first|omega|rfl|assumption|exact⟨_,rfl,rfl⟩|(simp;omega)|(simp;done)))
  refine au (dw (k+((aB (rows.take i):Nat):Int)) (by omega)) ?_
  simp -implicitDefEqProofs (disch:=omega) only[go_sem,hb,hS,hp,hC,hG,bB,hl,dD]
  (repeat(with_reducible refine And.intro ?_ ?_;focus first|omega|rfl|assumption|exact⟨_,rfl,rfl⟩|(simp;omega)|(simp;done)))
  refine bL (i+1) (by omega) (by rw[hK];rfl) rfl (by omega)
 ·simp -implicitDefEqProofs (disch:=omega) only[go_sem,hb]
  have hi:i=xs.length:=by omega
  rw[List.take_of_length_le (by omega)]
  all_goals (first|rfl|exact⟨rfl,rfl⟩)
end Go.Proofs.YtlmhknhlmicmeaaGreatDoor
namespace Go.Proofs.YtlmhknhlmicmeaaGreatDoor
open Go Go.Ab
end Go.Proofs.YtlmhknhlmicmeaaGreatDoor
namespace Go.Proofs.YtlmhknhlmicmeaaGreatDoor
open Go Go.Ab
theorem DK:∀n:Nat,(∀xs:List aj,SizeOf.sizeOf xs<n→∀(k:Int) (l j r:Nat) (p:List (Nat×Nat)) (S:Store) (rs:List (List (List D))),aV S (l,j)=some (.xf rs)→atR rs r p=some (xs.map aj.enc)→0≤k∧k+aB (xs.map aj.enc)≤4611686018427387904→bD Tryz.prog 183 [.c (.xp (l,j) r p),.c (.d (.i .i64 k))] S (fun res S'=>res=.c (.d (.i .i64 (k+aB (xs.map aj.enc))))∧S'=bf S (l,j) (.xf (dB rs r p (cu (xs.map aj.enc) k)))))
 |0=>fun xs h=>by omega
 |n+1=>by
  have CP:=DK n
  refine fun xs hn k l j r p S rs hS hp hk=> ?_
  ·have hlen:=nP (f:=aj.enc) (fun x=>by simp only[aj.aG,encS,encI,List.cons_append,List.nil_append,kM,kL];omega) xs
   obtain⟨rows,hr⟩:∃rows,rows=xs.map aj.enc:=⟨_,rfl⟩
   have hl:rows.length=xs.length:=by rw[hr,List.length_map]
   rw[←hr] at hp hk hlen ⊢
   have ht:∀x:Ab.Obj,aV (bf S (l,j) x) (l,j)=some x:=fun x=>bY _ _ _ _ hS
   have hA:∀new,atR (dB rs r p new) r p=some new:=fun new=>pF hp
   have hU:∀a b,dB (dB rs r p a) r p b=dB rs r p b:=fun a b=>oN hp
   refine aD (rs:=[.tmp 4]) Tryz.checked.mixed Tryz.func183 Tryz.ntmps183 rfl rfl rfl rfl rfl ?_
   simp -implicitDefEqProofs (disch:=omega) only[go_sem]
   refine aZ (ι:=Nat) Tryz.checked.mixed rfl [0,1,5] (fun i=>[.c (.xp (1+l,j) r p),.c (.d (.i .i64 (k+aB (rows.take i)))),.c (.d (.i .i64 i))])
    (fun i=>[]::bf S (l,j) (.xf (dB rs r p (ny rows k i)))) (fun i=>i≤xs.length) (fun i=>xs.length-i) 0 ?_ ?_ (Nat.zero_le _) ?_
   ·have z0:k+((aB (rows.take 0):Nat):Int)=k:=by simp[aB]
    rw[z0]
    rfl
   ·rw[qW,qV hp,lD _ _ hS]
   intro i hi
   simp -implicitDefEqProofs (disch:=omega) only[go_sem,ht,hA,jm,hl]
   with_reducible refine aA (fun hb=> ?_) (fun hb=> ?_)<;>have h:=hb<;>try simp only[wf_preprocess] at h
   ·have hi:i<xs.length:=by omega
    have hir:i<rows.length:=by omega
    obtain⟨x,hx⟩:∃x,x=xs[i]:=⟨_,rfl⟩
    have e1:rows[i]=[.i .i64 x.aH,.s x.fName,.sl (x.fArgs.map aj.enc)]:=by
     simp only[hr,List.getElem_map,←hx]
     simp only[aj.aG,encS,encI,List.cons_append,List.nil_append]
    have hm:=jJ hir
    have hle:=mO (rows:=rows) (i:=i+1)
    rw[hm,e1] at hle
    rw[e1] at hm
    simp only[kM,kL] at hle hm
    have hK:k+((aB (rows.take (i+1)):Nat):Int)=k+((aB (rows.take i):Nat):Int)+1+1+((aB (x.fArgs.map aj.enc):Nat):Int):=by rw[hm];omega
    have e2:=vF (k:=k) hir
    rw[e1] at e2
    have hC:∀row o,cellAt (jC rows k i row) i o=row[o]? :=fun row o=>nO hir
    have hG:∀row,(jC rows k i row).getD i []=row:=fun row=>qX hir
    simp -implicitDefEqProofs (disch:=omega) only[go_sem,hb,ht,hA,hU,e2,hC,hG,dG,bT,hl,bF,dD]
    (repeat(with_reducible refine And.intro ?_ ?_;focus first|omega|rfl|assumption|exact⟨_,rfl,rfl⟩|(simp;omega)|(simp;done)))
    refine au (dw (k+((aB (rows.take i):Nat):Int)+1) (by omega)) ?_
    simp -implicitDefEqProofs (disch:=omega) only[go_sem,hb,ht,hA,hU,e2,hC,hG,dG,bT,hl,bF,dD]
    (repeat(with_reducible refine And.intro ?_ ?_;focus first|omega|rfl|assumption|exact⟨_,rfl,rfl⟩|(simp;omega)|(simp;done)))
    refine bA rfl (nQ hS hp hir (by rfl) (fun S' rs' g1 g2=>CP x.fArgs (by have:=List.sizeOf_lt_of_mem (List.getElem_mem hi);rw[←hx] at this;have:=aj.fF x;omega) (k+((aB (rows.take i):Nat):Int)+1+1) (1+l) j r _ S' rs' g1 g2 (by omega))) ?_
    simp -implicitDefEqProofs (disch:=omega) only[go_sem,hb,ht,hA,hU,e2,hC,hG,dG,bT,hl,bF,dD]
    (repeat(with_reducible refine And.intro ?_ ?_;focus first|omega|rfl|assumption|exact⟨_,rfl,rfl⟩|(simp;omega)|(simp;done)))
    refine bL (i+1) (by omega) (by rw[hK];rfl) ?_ (by omega)
    have h3:=vG (k:=k) hir
    rw[e1] at h3
    simp only[ng,zi] at h3
    rw[←h3]
    all_goals rfl
   ·simp -implicitDefEqProofs (disch:=omega) only[go_sem,hb]
    have hi:i=xs.length:=by omega
    rw[sQ (by omega),List.take_of_length_le (by omega)]
    all_goals (first|rfl|exact⟨rfl,rfl⟩)
theorem rD(xs:List aj):∀(k:Int) (l j r:Nat) (p:List (Nat×Nat)) (S:Store) (rs:List (List (List D))),aV S (l,j)=some (.xf rs)→atR rs r p=some (xs.map aj.enc)→0≤k∧k+aB (xs.map aj.enc)≤4611686018427387904→bD Tryz.prog 183 [.c (.xp (l,j) r p),.c (.d (.i .i64 k))] S (fun res S'=>res=.c (.d (.i .i64 (k+aB (xs.map aj.enc))))∧S'=bf S (l,j) (.xf (dB rs r p (cu (xs.map aj.enc) k)))):=(DK _) xs (Nat.lt_succ_self _)
theorem E5(x:aj)(k:Int)(l j b:Nat)(S:Store)(rs:List (List (List D)))(hS:aV S (l,j)=some (.xf rs))(h2:atR rs (b+2) []=some (x.fArgs.map aj.enc))(hk:0≤k∧k+((aB (x.fArgs.map aj.enc):Nat):Int)≤4611686018427387904):bD Tryz.prog 113 [.agg [.d (.i .i64 x.aH),.d (.s x.fName),.xp (l,j) (b+2) []],.c (.d (.i .i64 k))] S (fun res S'=>res=.c (.d (.i .i64 (k+((aB (x.fArgs.map aj.enc):Nat):Int))))∧S'=bf S (l,j) (.xf (dB (rs) (b+2) [] (cu (x.fArgs.map aj.enc) (k))))):=by
 have ht:∀x:Ab.Obj,aV (bf S (l,j) x) (l,j)=some x:=fun x=>bY _ _ _ _ hS
 refine aD (rs:=[.tmp 4]) Tryz.checked.mixed Tryz.func113 Tryz.ntmps113 rfl rfl rfl rfl rfl ?_
 simp -implicitDefEqProofs (disch:=omega) only[go_sem]
 refine bA rfl (rD x.fArgs (k) (1+l) j (b+2) [] _ _ (by rw[eY];first|exact hS|exact ht _) (by first|assumption|(simp(disch:=omega) only[ne_eq,oG];assumption)) (by omega)) ?_
 simp -implicitDefEqProofs (disch:=omega) only[go_sem,bF,pz]
 try exact⟨rfl,rfl⟩
theorem DL:∀n:Nat,(∀xs:List aj,SizeOf.sizeOf xs<n→∀(k:Int) (l j r:Nat) (p:List (Nat×Nat)) (S:Store) (rs:List (List (List D))),aV S (l,j)=some (.xf rs)→atR rs r p=some (cu (xs.map aj.enc) k)→0≤k∧k+aB (xs.map aj.enc)≤4611686018427387904→bD Tryz.prog 214 [.c (.xp (l,j) r p),.c (.d (.i .i64 k))] S (fun res S'=>res=.c (.d (.i .i64 (k+aB (xs.map aj.enc))))∧S'=S))
 |0=>fun xs h=>by omega
 |n+1=>by
  have CP:=DL n
  refine fun xs hn k l j r p S rs hS hp hk=> ?_
  ·have hlen:=nP (f:=aj.enc) (fun x=>by simp only[aj.aG,encS,encI,List.cons_append,List.nil_append,kM,kL];omega) xs
   obtain⟨rows,hr⟩:∃rows,rows=xs.map aj.enc:=⟨_,rfl⟩
   have hl:rows.length=xs.length:=by rw[hr,List.length_map]
   rw[←hr] at hp hk hlen ⊢
   refine aD (rs:=[.tmp 4]) Tryz.checked.mixed Tryz.func214 Tryz.ntmps214 rfl rfl rfl rfl rfl ?_
   simp -implicitDefEqProofs (disch:=omega) only[go_sem]
   refine aZ (ι:=Nat) Tryz.checked.mixed rfl [0,1,5] (fun i=>[.c (.xp (1+l,j) r p),.c (.d (.i .i64 (k+aB (rows.take i)))),.c (.d (.i .i64 i))])
    (fun i=>[]::S) (fun i=>i≤xs.length) (fun i=>xs.length-i) 0 ?_ rfl (Nat.zero_le _) ?_
   ·have z0:k+((aB (rows.take 0):Nat):Int)=k:=by simp[aB]
    rw[z0]
    rfl
   intro i hi
   simp -implicitDefEqProofs (disch:=omega) only[go_sem,hS,hp,bB,hl]
   with_reducible refine aA (fun hb=> ?_) (fun hb=> ?_)<;>have h:=hb<;>try simp only[wf_preprocess] at h
   ·have hi:i<xs.length:=by omega
    have hir:i<rows.length:=by omega
    obtain⟨x,hx⟩:∃x,x=xs[i]:=⟨_,rfl⟩
    have e1:rows[i]=[.i .i64 x.aH,.s x.fName,.sl (x.fArgs.map aj.enc)]:=by
     simp only[hr,List.getElem_map,←hx]
     simp only[aj.aG,encS,encI,List.cons_append,List.nil_append]
    have hm:=jJ hir
    have hle:=mO (rows:=rows) (i:=i+1)
    rw[hm,e1] at hle
    rw[e1] at hm
    simp only[kM,kL] at hle hm
    have hK:k+((aB (rows.take (i+1)):Nat):Int)=k+((aB (rows.take i):Nat):Int)+1+1+((aB (x.fArgs.map aj.enc):Nat):Int):=by rw[hm];omega
    have e2:ng rows[i] (k+((aB (rows.take i):Nat):Int))=[.i .i64 (k+((aB (rows.take i):Nat):Int)),.s (gG (k+((aB (rows.take i):Nat):Int)+1)),.sl (cu (x.fArgs.map aj.enc) (k+((aB (rows.take i):Nat):Int)+1+1))]:=by
     rw[e1]
     simp only[ng,zi]
     all_goals rfl
    have hC:∀o,cellAt (cu rows k) i o=([.i .i64 (k+((aB (rows.take i):Nat):Int)),.s (gG (k+((aB (rows.take i):Nat):Int)+1)),.sl (cu (x.fArgs.map aj.enc) (k+((aB (rows.take i):Nat):Int)+1+1))]:List D)[o]? :=fun o=>by
     have h1:(cu rows k)[i]? =some (ng rows[i] (k+((aB (rows.take i):Nat):Int))):=by
      have h2:=kW (k:=k) hir
      have h3:i<(cu rows k).length:=by rw[bB];exact hir
      rw[List.getD_eq_getElem?_getD,List.getElem?_eq_getElem h3,Option.getD_some] at h2
      rw[List.getElem?_eq_getElem h3,h2]
     unfold cellAt
     rw[h1,Option.bind_some,e2]
    have hG:=kW (k:=k) hir
    rw[e2] at hG
    simp -implicitDefEqProofs (disch:=omega) only[go_sem,hb,hS,hp,hC,hG,bB,hl,dD]
    (repeat(with_reducible refine And.intro ?_ ?_;focus first|omega|rfl|assumption|exact⟨_,rfl,rfl⟩|(simp;omega)|(simp;done)))
    refine au (dw (k+((aB (rows.take i):Nat):Int)+1) (by omega)) ?_
    simp -implicitDefEqProofs (disch:=omega) only[go_sem,hb,hS,hp,hC,hG,bB,hl,dD]
    (repeat(with_reducible refine And.intro ?_ ?_;focus first|omega|rfl|assumption|exact⟨_,rfl,rfl⟩|(simp;omega)|(simp;done)))
    refine bA rfl (CP x.fArgs (by have:=List.sizeOf_lt_of_mem (List.getElem_mem hi);rw[←hx] at this;have:=aj.fF x;omega) (k+((aB (rows.take i):Nat):Int)+1+1) (1+l) j r _ _ _ (by rw[eY];exact hS) (jZ hp (by rw[hC];rfl)) (by omega)) ?_
    simp -implicitDefEqProofs (disch:=omega) only[go_sem,hb,hS,hp,hC,hG,bB,hl,dD,gU]
    (repeat(with_reducible refine And.intro ?_ ?_;focus first|omega|rfl|assumption|exact⟨_,rfl,rfl⟩|(simp;omega)|(simp;done)))
    refine bL (i+1) (by omega) (by rw[hK];rfl) rfl (by omega)
   ·simp -implicitDefEqProofs (disch:=omega) only[go_sem,hb]
    have hi:i=xs.length:=by omega
    rw[List.take_of_length_le (by omega)]
    all_goals (first|rfl|exact⟨rfl,rfl⟩)
theorem rE(xs:List aj):∀(k:Int) (l j r:Nat) (p:List (Nat×Nat)) (S:Store) (rs:List (List (List D))),aV S (l,j)=some (.xf rs)→atR rs r p=some (cu (xs.map aj.enc) k)→0≤k∧k+aB (xs.map aj.enc)≤4611686018427387904→bD Tryz.prog 214 [.c (.xp (l,j) r p),.c (.d (.i .i64 k))] S (fun res S'=>res=.c (.d (.i .i64 (k+aB (xs.map aj.enc))))∧S'=S):=(DL _) xs (Nat.lt_succ_self _)
theorem E8(x:aj)(k:Int)(l j b:Nat)(S:Store)(rs:List (List (List D)))(hS:aV S (l,j)=some (.xf rs))(h2:atR rs (b+2) []=some (cu (x.fArgs.map aj.enc) (k)))(hk:0≤k∧k+((aB (x.fArgs.map aj.enc):Nat):Int)≤4611686018427387904):bD Tryz.prog 116 [.agg [.d (.i .i64 x.aH),.d (.s x.fName),.xp (l,j) (b+2) []],.c (.d (.i .i64 k))] S (fun res S'=>res=.c (.d (.i .i64 (k+((aB (x.fArgs.map aj.enc):Nat):Int))))∧S'=S):=by
 refine aD (rs:=[.tmp 4]) Tryz.checked.mixed Tryz.func116 Tryz.ntmps116 rfl rfl rfl rfl rfl ?_
 simp -implicitDefEqProofs (disch:=omega) only[go_sem]
 refine bA rfl (rE x.fArgs (k) (1+l) j (b+2) [] _ _ (by rw[eY];first|exact hS|exact ht _) (by first|assumption|(simp(disch:=omega) only[ne_eq,oG];assumption)) (by omega)) ?_
 simp -implicitDefEqProofs (disch:=omega) only[go_sem,gU]
 try exact⟨rfl,rfl⟩
end Go.Proofs.YtlmhknhlmicmeaaGreatDoor
namespace Go.Proofs.YtlmhknhlmicmeaaGreatDoor
open Go Go.Ab
end Go.Proofs.YtlmhknhlmicmeaaGreatDoor
namespace Go.Proofs.YtlmhknhlmicmeaaGreatDoor
open Go Go.Ab
set_option maxHeartbeats 4000000 in
theorem KW(xs:List aO):∀(k:Int) (l j r:Nat) (p:List (Nat×Nat)) (S:Store) (rs:List (List (List D))),aV S (l,j)=some (.xf rs)→atR rs r p=some (xs.map aO.enc)→0≤k∧k+aB (xs.map aO.enc)≤4611686018427387904→bD Tryz.prog 130 [.c (.xp (l,j) r p),.c (.d (.i .i64 k))] S (fun res S'=>res=.c (.d (.i .i64 (k+aB (xs.map aO.enc))))∧S'=bf S (l,j) (.xf (dB rs r p (cu (xs.map aO.enc) k)))):=by
 intro k l j r p S rs hS hp hk
 have hlen:=nP (f:=aO.enc) (fun x=>by simp only[aO.aG,aj.aG,encS,encI,List.cons_append,List.nil_append,kM,kL];omega) xs
 obtain⟨rows,hr⟩:∃rows,rows=xs.map aO.enc:=⟨_,rfl⟩
 have hl:rows.length=xs.length:=by rw[hr,List.length_map]
 rw[←hr] at hp hk hlen ⊢
 have ht:∀x:Ab.Obj,aV (bf S (l,j) x) (l,j)=some x:=fun x=>bY _ _ _ _ hS
 have hA:∀new,atR (dB rs r p new) r p=some new:=fun new=>pF hp
 have hU:∀a b,dB (dB rs r p a) r p b=dB rs r p b:=fun a b=>oN hp
 refine aD (rs:=[.tmp 4]) Tryz.checked.mixed Tryz.func130 Tryz.ntmps130 rfl rfl rfl rfl rfl ?_
 simp -implicitDefEqProofs (disch:=omega) only[go_sem]
 refine aZ (ι:=Nat) Tryz.checked.mixed rfl [0,1,5] (fun i=>[.c (.xp (1+l,j) r p),.c (.d (.i .i64 (k+aB (rows.take i)))),.c (.d (.i .i64 i))])
  (fun i=>[]::bf S (l,j) (.xf (dB rs r p (ny rows k i)))) (fun i=>i≤xs.length) (fun i=>xs.length-i) 0 ?_ ?_ (Nat.zero_le _) ?_
 ·have z0:k+((aB (rows.take 0):Nat):Int)=k:=by simp[aB]
  rw[z0]
  rfl
 ·rw[qW,qV hp,lD _ _ hS]
 intro i hi
 simp -implicitDefEqProofs (disch:=omega) only[go_sem,ht,hA,jm,hl]
 with_reducible refine aA (fun hb=> ?_) (fun hb=> ?_)<;>have h:=hb<;>try simp only[wf_preprocess] at h
 ·have hi:i<xs.length:=by omega
  have hir:i<rows.length:=by omega
  obtain⟨x,hx⟩:∃x,x=xs[i]:=⟨_,rfl⟩
  have e1:rows[i]=[.s x.aW,.i .i64 x.fType.aH,.s x.fType.fName,.sl (x.fType.fArgs.map aj.enc)]:=by
   simp only[hr,List.getElem_map,←hx]
   simp only[aO.aG,aj.aG,encS,encI,List.cons_append,List.nil_append]
  have hm:=jJ hir
  have hle:=mO (rows:=rows) (i:=i+1)
  rw[hm,e1] at hle
  rw[e1] at hm
  simp only[kM,kL] at hle hm
  have hK:k+((aB (rows.take (i+1)):Nat):Int)=k+((aB (rows.take i):Nat):Int)+1+1+1+((aB (x.fType.fArgs.map aj.enc):Nat):Int):=by rw[hm];omega
  have e2:=vF (k:=k) hir
  rw[e1] at e2
  have hC:∀row o,cellAt (jC rows k i row) i o=row[o]? :=fun row o=>nO hir
  have hG:∀row,(jC rows k i row).getD i []=row:=fun row=>qX hir
  simp -implicitDefEqProofs (disch:=omega) only[go_sem,hb,ht,hA,hU,e2,hC,hG,dG,bT,hl,bF,dD]
  (repeat(with_reducible refine And.intro ?_ ?_;focus first|omega|rfl|assumption|exact⟨_,rfl,rfl⟩|(simp;omega)|(simp;done)))
  refine au (dw (k+((aB (rows.take i):Nat):Int)) (by omega)) ?_
  simp -implicitDefEqProofs (disch:=omega) only[go_sem,hb,ht,hA,hU,e2,hC,hG,dG,bT,hl,bF,dD]
  (repeat(with_reducible refine And.intro ?_ ?_;focus first|omega|rfl|assumption|exact⟨_,rfl,rfl⟩|(simp;omega)|(simp;done)))
  refine au (dw (k+((aB (rows.take i):Nat):Int)+1+1) (by omega)) ?_
  simp -implicitDefEqProofs (disch:=omega) only[go_sem,hb,ht,hA,hU,e2,hC,hG,dG,bT,hl,bF,dD]
  (repeat(with_reducible refine And.intro ?_ ?_;focus first|omega|rfl|assumption|exact⟨_,rfl,rfl⟩|(simp;omega)|(simp;done)))
  refine bA rfl (nQ hS hp hir (by rfl) (fun S' rs' g1 g2=>rD x.fType.fArgs (k+((aB (rows.take i):Nat):Int)+1+1+1) (1+l) j r _ S' rs' g1 g2 (by omega))) ?_
  simp -implicitDefEqProofs (disch:=omega) only[go_sem,hb,ht,hA,hU,e2,hC,hG,dG,bT,hl,bF,dD]
  (repeat(with_reducible refine And.intro ?_ ?_;focus first|omega|rfl|assumption|exact⟨_,rfl,rfl⟩|(simp;omega)|(simp;done)))
  refine bL (i+1) (by omega) (by rw[hK];rfl) ?_ (by omega)
  have h3:=vG (k:=k) hir
  rw[e1] at h3
  simp only[ng,zi] at h3
  rw[←h3]
  all_goals rfl
 ·simp -implicitDefEqProofs (disch:=omega) only[go_sem,hb]
  have hi:i=xs.length:=by omega
  rw[sQ (by omega),List.take_of_length_le (by omega)]
  all_goals (first|rfl|exact⟨rfl,rfl⟩)
set_option maxHeartbeats 4000000 in
theorem KX(xs:List aO):∀(k:Int) (l j r:Nat) (p:List (Nat×Nat)) (S:Store) (rs:List (List (List D))),aV S (l,j)=some (.xf rs)→atR rs r p=some (cu (xs.map aO.enc) k)→0≤k∧k+aB (xs.map aO.enc)≤4611686018427387904→bD Tryz.prog 133 [.c (.xp (l,j) r p),.c (.d (.i .i64 k))] S (fun res S'=>res=.c (.d (.i .i64 (k+aB (xs.map aO.enc))))∧S'=S):=by
 intro k l j r p S rs hS hp hk
 have hlen:=nP (f:=aO.enc) (fun x=>by simp only[aO.aG,aj.aG,encS,encI,List.cons_append,List.nil_append,kM,kL];omega) xs
 obtain⟨rows,hr⟩:∃rows,rows=xs.map aO.enc:=⟨_,rfl⟩
 have hl:rows.length=xs.length:=by rw[hr,List.length_map]
 rw[←hr] at hp hk hlen ⊢
 refine aD (rs:=[.tmp 4]) Tryz.checked.mixed Tryz.func133 Tryz.ntmps133 rfl rfl rfl rfl rfl ?_
 simp -implicitDefEqProofs (disch:=omega) only[go_sem]
 refine aZ (ι:=Nat) Tryz.checked.mixed rfl [0,1,5] (fun i=>[.c (.xp (1+l,j) r p),.c (.d (.i .i64 (k+aB (rows.take i)))),.c (.d (.i .i64 i))])
  (fun i=>[]::S) (fun i=>i≤xs.length) (fun i=>xs.length-i) 0 ?_ rfl (Nat.zero_le _) ?_
 ·have z0:k+((aB (rows.take 0):Nat):Int)=k:=by simp[aB]
  rw[z0]
  rfl
 intro i hi
 simp -implicitDefEqProofs (disch:=omega) only[go_sem,hS,hp,bB,hl]
 with_reducible refine aA (fun hb=> ?_) (fun hb=> ?_)<;>have h:=hb<;>try simp only[wf_preprocess] at h
 ·have hi:i<xs.length:=by omega
  have hir:i<rows.length:=by omega
  obtain⟨x,hx⟩:∃x,x=xs[i]:=⟨_,rfl⟩
  have e1:rows[i]=[.s x.aW,.i .i64 x.fType.aH,.s x.fType.fName,.sl (x.fType.fArgs.map aj.enc)]:=by
   simp only[hr,List.getElem_map,←hx]
   simp only[aO.aG,aj.aG,encS,encI,List.cons_append,List.nil_append]
  have hm:=jJ hir
  have hle:=mO (rows:=rows) (i:=i+1)
  rw[hm,e1] at hle
  rw[e1] at hm
  simp only[kM,kL] at hle hm
  have hK:k+((aB (rows.take (i+1)):Nat):Int)=k+((aB (rows.take i):Nat):Int)+1+1+1+((aB (x.fType.fArgs.map aj.enc):Nat):Int):=by rw[hm];omega
  have e2:ng rows[i] (k+((aB (rows.take i):Nat):Int))=[.s (gG (k+((aB (rows.take i):Nat):Int))),.i .i64 (k+((aB (rows.take i):Nat):Int)+1),.s (gG (k+((aB (rows.take i):Nat):Int)+1+1)),.sl (cu (x.fType.fArgs.map aj.enc) (k+((aB (rows.take i):Nat):Int)+1+1+1))]:=by
   rw[e1]
   simp only[ng,zi]
   all_goals rfl
  have hC:∀o,cellAt (cu rows k) i o=([.s (gG (k+((aB (rows.take i):Nat):Int))),.i .i64 (k+((aB (rows.take i):Nat):Int)+1),.s (gG (k+((aB (rows.take i):Nat):Int)+1+1)),.sl (cu (x.fType.fArgs.map aj.enc) (k+((aB (rows.take i):Nat):Int)+1+1+1))]:List D)[o]? :=fun o=>by
   have h1:(cu rows k)[i]? =some (ng rows[i] (k+((aB (rows.take i):Nat):Int))):=by
    have h2:=kW (k:=k) hir
    have h3:i<(cu rows k).length:=by rw[bB];exact hir
    rw[List.getD_eq_getElem?_getD,List.getElem?_eq_getElem h3,Option.getD_some] at h2
    rw[List.getElem?_eq_getElem h3,h2]
   unfold cellAt
   rw[h1,Option.bind_some,e2]
  have hG:=kW (k:=k) hir
  rw[e2] at hG
  simp -implicitDefEqProofs (disch:=omega) only[go_sem,hb,hS,hp,hC,hG,bB,hl,dD]
  (repeat(with_reducible refine And.intro ?_ ?_;focus first|omega|rfl|assumption|exact⟨_,rfl,rfl⟩|(simp;omega)|(simp;done)))
  refine au (dw (k+((aB (rows.take i):Nat):Int)) (by omega)) ?_
  simp -implicitDefEqProofs (disch:=omega) only[go_sem,hb,hS,hp,hC,hG,bB,hl,dD]
  (repeat(with_reducible refine And.intro ?_ ?_;focus first|omega|rfl|assumption|exact⟨_,rfl,rfl⟩|(simp;omega)|(simp;done)))
  refine au (dw (k+((aB (rows.take i):Nat):Int)+1+1) (by omega)) ?_
  simp -implicitDefEqProofs (disch:=omega) only[go_sem,hb,hS,hp,hC,hG,bB,hl,dD]
  (repeat(with_reducible refine And.intro ?_ ?_;focus first|omega|rfl|assumption|exact⟨_,rfl,rfl⟩|(simp;omega)|(simp;done)))
  refine bA rfl (rE x.fType.fArgs (k+((aB (rows.take i):Nat):Int)+1+1+1) (1+l) j r _ _ _ (by rw[eY];exact hS) (jZ hp (by rw[hC];rfl)) (by omega)) ?_
  simp -implicitDefEqProofs (disch:=omega) only[go_sem,hb,hS,hp,hC,hG,bB,hl,dD,gU]
  (repeat(with_reducible refine And.intro ?_ ?_;focus first|omega|rfl|assumption|exact⟨_,rfl,rfl⟩|(simp;omega)|(simp;done)))
  refine bL (i+1) (by omega) (by rw[hK];rfl) rfl (by omega)
 ·simp -implicitDefEqProofs (disch:=omega) only[go_sem,hb]
  have hi:i=xs.length:=by omega
  rw[List.take_of_length_le (by omega)]
  all_goals (first|rfl|exact⟨rfl,rfl⟩)
end Go.Proofs.YtlmhknhlmicmeaaGreatDoor
