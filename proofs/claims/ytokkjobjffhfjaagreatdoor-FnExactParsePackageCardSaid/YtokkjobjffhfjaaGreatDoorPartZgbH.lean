/-
  SEVERAL TEXTS IN ONE (merged by program): contracts and models, each with its own heading.
-/
import Derived.Test.YtokkjobjffhfjaaGreatDoorPartZgbG
import Derived.Test.YtokkjobjffhfjaaGreatDoorRows
import Derived.OpenShut
import Derived.LaidMore
import Derived.Stop.LaidErr
set_option maxHeartbeats 8000000
open Go.Proofs Go.Proofs.Tryz
set_option linter.unusedSimpArgs false
set_option linter.unusedVariables false
set_option maxRecDepth 4000
set_option maxRecDepth 8000
namespace Go.Ab
noncomputable def Ba(s:List UInt8):Bool:=lg s&&CV (jy s)
noncomputable def CB(s:List UInt8):aW:=if lg s=true then Jd (jy s) else Dm
theorem al5(s:List UInt8):(CB s).sz<=1048576:=by
 unfold CB;split
 ·exact anT (jy s)
 ·simp[Dm,aW.sz,aW.aB,bT,D.sz,bn]
abbrev aW.cl(p:aW)(n:Nat):List C:=[.d (.s p.fName),.d (.ol n (p.fT.map encS)),.d (.ol (n+1) (dZ (p.dh.map bf.enc) (n+1+1))),.d (.ol (CX p n) (dZ (p.aQ.map aP.enc) (CX p n+1))),.d (.ol (CY p n) (dZ (p.cB.map aM.enc) (CY p n+1))),.d (.ol (EC p n) (dZ (p.bX.map aS.enc) (EC p n+1)))]
theorem Nv(p:aW)(n:Nat):(eZ p.enc n).map C.d=p.cl n:=by rw[Nu];rfl
theorem Um(s:List UInt8)(hs:s.length<=1048576):aH prog 11 [.c (.d (.s s))] (.dQ [(true,(CB s).cv),(false,[.d (.b (Ba s))])]):=aH.of_le fun S=>by
 have hz:=Xz s;have c1:=TU s hs;have c2:=ZB (jy s) hz
 have fV:lg s=false->Less (.dQ [(true,vP),(false,[.d (.b false)])]) (.dQ [(true,(CB s).cv),(false,[.d (.b (Ba s))])]):=fun e=>by
  have e1:CB s=Dm:=if_neg (by rw[e];decide)
  have e2:Ba s=false:=by unfold Ba;rw[e];rfl
  rw[e2];exact anS _ e1 false
 have Qn:lg s=true->CB s=Jd (jy s)/\Ba s=CV (jy s):=fun e=>⟨if_pos e,by unfold Ba;rw[e];rfl⟩;obtain⟨X,hX⟩:∃X,X=jy s:=⟨_,rfl⟩;rw[<-hX] at c1 c2 Qn;refine aD (rs:=[.cell 2 40,.tmp 3]) zmx func11 ntmps11 rfl rfl rfl rfl rfl ?_;refine W1 ?_;refine aZ c1 ?_;simp -implicitDefEqProofs (disch:=omega) only[go_sem,aj.aB,List.map_cons,List.map_nil];refine S0 (fun hb h=>?_) fun hb h=>?_
 ·exact fV h
 ·obtain⟨q1,q2⟩:=Qn h;rw[q1,q2];refine aZ c2 ?_;simp -implicitDefEqProofs (disch:=omega) only[go_sem,aW.cv];exact gL _
theorem Qo(s:List UInt8)(n:Nat)(hs:s.length<=1048576):aH prog 12 [.c (.d (.s s))] (.dQ [(true,(eZ (CB s).enc n).map .d),(false,[.d (.b (Ba s))])]):=aH.of_le fun S=>by
 rw[Nv];have hz:=Xz s;have c1:=Ua s (by omega);have c2:=Ul (jy s) n hz;rw[Nv] at c2
 have fV:lg s=false->Less (.dQ [(true,vP),(false,[.d (.b false)])]) (.dQ [(true,(CB s).cl n),(false,[.d (.b (Ba s))])]):=fun e=>by
  have e1:CB s=Dm:=if_neg (by rw[e];decide)
  have e2:Ba s=false:=by unfold Ba;rw[e];rfl
  rw[e2,<-Nv];exact agn _ e1 n false
 have Qn:lg s=true->CB s=Jd (jy s)/\Ba s=CV (jy s):=fun e=>⟨if_pos e,by unfold Ba;rw[e];rfl⟩;obtain⟨X,hX⟩:∃X,X=jy s:=⟨_,rfl⟩;rw[<-hX] at c1 c2 Qn;refine aD (rs:=[.cell 2 40,.tmp 3]) zmx func12 ntmps12 rfl rfl rfl rfl rfl ?_;refine W1 ?_;refine aZ c1 ?_;simp -implicitDefEqProofs (disch:=omega) only[go_sem,aj.aB,List.map_cons,List.map_nil];refine S0 (fun hb h=>?_) fun hb h=>?_
 ·exact fV h
 ·obtain⟨q1,q2⟩:=Qn h;rw[q1,q2];refine aZ c2 ?_;refine W1 ?_;exact gL _
theorem nS(xs:List (List UInt8)):tH prog 41 (xs.map encS):=by
 intro k l j r p S rs hS hp hk;have hlen:=jS (f:=encS) (fun x=>by simp only[encS,List.cons_append,List.nil_append,iQ,jl];omega) xs;obtain⟨rows,hr,hl⟩:∃rows,rows=xs.map encS/\rows.length=xs.length:=⟨_,rfl,List.length_map _⟩;rw[<-hr] at hp hk hlen ⊢;obtain⟨ht,hA,hU⟩:=uL hS hp;refine aD (rs:=[.tmp 4]) zmx func41 ntmps41 rfl rfl rfl rfl rfl ?_;refine W1 ?_;refine nM zmx rfl hS hp hl rfl rfl fun i hi K gU=> ?_;simp -implicitDefEqProofs (disch:=omega) only[go_sem,ht,hA,iX,hl]
 with_reducible refine dM (fun hb=> ?_) (fun hb=> ?_)<;>have h:=hb<;>try simp only[wf_preprocess] at h
 ·have hi:i<xs.length:=by omega
  obtain⟨x,hx,hir,hK,hle,e2,hC,hG,h3⟩:=kX hr hi gU;simp only[encS,List.cons_append,List.nil_append,iQ,jl,mH,mI,mJ,mK,mM] at hK hle e2 h3;simp -implicitDefEqProofs (disch:=omega) only[go_sem,hb,ht,hA,hU,e2,hC,hG,iw,fO,hl,bB,gT]
  repeat(refine W3 ?_;refine aZ (fP _ (by omega)) ?_;simp -implicitDefEqProofs (disch:=omega) only[go_sem,hb,ht,hA,hU,e2,hC,hG,iw,fO,hl,bB,gT])
  refine W3 ?_;exact bJ (i+1) (by omega) (mO (by omega)) (by rw[<-h3]<;>rfl) (by omega)
 ·simp -implicitDefEqProofs (disch:=omega) only[go_sem,hb]
  rw[pY (by omega),gU,List.take_of_length_le (by omega)]<;>first|rfl|exact⟨rfl,rfl⟩
theorem nT(xs:List (List UInt8)):um prog 46 (xs.map encS):=by
 intro k l j r p S rs hS hp hk;have hlen:=jS (f:=encS) (fun x=>by simp only[encS,List.cons_append,List.nil_append,iQ,jl];omega) xs;obtain⟨rows,hr,hl⟩:∃rows,rows=xs.map encS/\rows.length=xs.length:=⟨_,rfl,List.length_map _⟩;rw[<-hr] at hp hk hlen ⊢;refine aD (rs:=[.tmp 4]) zmx func46 ntmps46 rfl rfl rfl rfl rfl ?_;refine W1 ?_;refine nN zmx rfl hl rfl rfl fun i hi K gU=> ?_;simp -implicitDefEqProofs (disch:=omega) only[go_sem,hS,hp,dn,hl]
 with_reducible refine dM (fun hb=> ?_) (fun hb=> ?_)<;>have h:=hb<;>try simp only[wf_preprocess] at h
 ·have hi:i<xs.length:=by omega
  obtain⟨x,hx,hir,hK,hle,hC,hG⟩:=lX hr hi gU;simp only[encS,List.cons_append,List.nil_append,iQ,jl,mH,mI,mJ,mK,mM] at hK hle hC hG;simp -implicitDefEqProofs (disch:=omega) only[go_sem,hb,hS,hp,hC,hG,dn,hl,gT]
  repeat(refine W3 ?_;refine aZ (fP _ (by omega)) ?_;simp -implicitDefEqProofs (disch:=omega) only[go_sem,hb,hS,hp,hC,hG,dn,hl,gT])
  refine W3 ?_;exact bJ (i+1) (by omega) (mO (by omega)) rfl (by omega)
 ·simp -implicitDefEqProofs (disch:=omega) only[go_sem,hb]
  rw[gU,List.take_of_length_le (by omega)]<;>first|rfl|exact⟨rfl,rfl⟩
theorem KR:∀n:Nat,(∀xs:List ak,SizeOf.sizeOf xs<n->tH prog 73 (xs.map ak.enc))
 |0=>fun xs h=>by omega
 |n+1=>by
  have JX:=KR n;refine fun xs hn k l j r p S rs hS hp hk=> ?_
  ·have hlen:=jS (f:=ak.enc) (fun x=>by simp only[ak.aB,encS,encI,List.cons_append,List.nil_append,iQ,jl];omega) xs;obtain⟨rows,hr,hl⟩:∃rows,rows=xs.map ak.enc/\rows.length=xs.length:=⟨_,rfl,List.length_map _⟩;rw[<-hr] at hp hk hlen ⊢;obtain⟨ht,hA,hU⟩:=uL hS hp;refine aD (rs:=[.tmp 4]) zmx func73 ntmps73 rfl rfl rfl rfl rfl ?_;refine W1 ?_;refine nM zmx rfl hS hp hl rfl rfl fun i hi K gU=> ?_;simp -implicitDefEqProofs (disch:=omega) only[go_sem,ht,hA,iX,hl]
   with_reducible refine dM (fun hb=> ?_) (fun hb=> ?_)<;>have h:=hb<;>try simp only[wf_preprocess] at h
   ·have hi:i<xs.length:=by omega
    obtain⟨x,hx,hir,hK,hle,e2,hC,hG,h3⟩:=kX hr hi gU;simp only[ak.aB,encS,encI,List.cons_append,List.nil_append,iQ,jl,mH,mI,mJ,mK,mM] at hK hle e2 h3;simp -implicitDefEqProofs (disch:=omega) only[go_sem,hb,ht,hA,hU,e2,hC,hG,iw,fO,hl,bB,gT]
    repeat(refine W3 ?_;(first
     |refine aZ (fP _ (by omega)) ?_
     |refine bg rfl (fI hS hp hir (by rfl) (JX x.fArgs (by have:=List.sizeOf_lt_of_mem (List.getElem_mem hi);rw[<-hx] at this;have:=ak.gP x;omega)) (by omega)) ?_);simp -implicitDefEqProofs (disch:=omega) only[go_sem,hb,ht,hA,hU,e2,hC,hG,iw,fO,hl,bB,gT])
    refine W3 ?_;exact bJ (i+1) (by omega) (mO (by omega)) (by rw[<-h3]<;>rfl) (by omega)
   ·simp -implicitDefEqProofs (disch:=omega) only[go_sem,hb]
    rw[pY (by omega),gU,List.take_of_length_le (by omega)]<;>first|rfl|exact⟨rfl,rfl⟩
theorem jU(xs:List ak):tH prog 73 (xs.map ak.enc):=(KR _) xs (Nat.lt_succ_self _)
theorem KT:∀n:Nat,(∀xs:List ak,SizeOf.sizeOf xs<n->um prog 75 (xs.map ak.enc))
 |0=>fun xs h=>by omega
 |n+1=>by
  have JX:=KT n;refine fun xs hn k l j r p S rs hS hp hk=> ?_
  ·have hlen:=jS (f:=ak.enc) (fun x=>by simp only[ak.aB,encS,encI,List.cons_append,List.nil_append,iQ,jl];omega) xs;obtain⟨rows,hr,hl⟩:∃rows,rows=xs.map ak.enc/\rows.length=xs.length:=⟨_,rfl,List.length_map _⟩;rw[<-hr] at hp hk hlen ⊢;refine aD (rs:=[.tmp 4]) zmx func75 ntmps75 rfl rfl rfl rfl rfl ?_;refine W1 ?_;refine nN zmx rfl hl rfl rfl fun i hi K gU=> ?_;simp -implicitDefEqProofs (disch:=omega) only[go_sem,hS,hp,dn,hl]
   with_reducible refine dM (fun hb=> ?_) (fun hb=> ?_)<;>have h:=hb<;>try simp only[wf_preprocess] at h
   ·have hi:i<xs.length:=by omega
    obtain⟨x,hx,hir,hK,hle,hC,hG⟩:=lX hr hi gU;simp only[ak.aB,encS,encI,List.cons_append,List.nil_append,iQ,jl,mH,mI,mJ,mK,mM] at hK hle hC hG;simp -implicitDefEqProofs (disch:=omega) only[go_sem,hb,hS,hp,hC,hG,dn,hl,gT]
    repeat(refine W3 ?_;(first
     |refine aZ (fP _ (by omega)) ?_
     |refine bg rfl (JX x.fArgs (by have:=List.sizeOf_lt_of_mem (List.getElem_mem hi);rw[<-hx] at this;have:=ak.gP x;omega) _ (1+l) j r _ _ _ (by rw[bK];exact hS) (fF hp (by rw[hC];rfl)) (by omega)) ?_);simp -implicitDefEqProofs (disch:=omega) only[go_sem,hb,hS,hp,hC,hG,dn,hl,gT,lY])
    refine W3 ?_;exact bJ (i+1) (by omega) (mO (by omega)) rfl (by omega)
   ·simp -implicitDefEqProofs (disch:=omega) only[go_sem,hb]
    rw[gU,List.take_of_length_le (by omega)]<;>first|rfl|exact⟨rfl,rfl⟩
theorem jV(xs:List ak):um prog 75 (xs.map ak.enc):=(KT _) xs (Nat.lt_succ_self _)
theorem Jg(xs:List bq):tH prog 90 (xs.map bq.enc):=by
 intro k l j r p S rs hS hp hk;have hlen:=jS (f:=bq.enc) (fun x=>by simp only[bq.aB,ak.aB,encS,encI,List.cons_append,List.nil_append,iQ,jl];omega) xs;obtain⟨rows,hr,hl⟩:∃rows,rows=xs.map bq.enc/\rows.length=xs.length:=⟨_,rfl,List.length_map _⟩;rw[<-hr] at hp hk hlen ⊢;obtain⟨ht,hA,hU⟩:=uL hS hp;refine aD (rs:=[.tmp 4]) zmx func90 ntmps90 rfl rfl rfl rfl rfl ?_;refine W1 ?_;refine nM zmx rfl hS hp hl rfl rfl fun i hi K gU=> ?_;simp -implicitDefEqProofs (disch:=omega) only[go_sem,ht,hA,iX,hl]
 with_reducible refine dM (fun hb=> ?_) (fun hb=> ?_)<;>have h:=hb<;>try simp only[wf_preprocess] at h
 ·have hi:i<xs.length:=by omega
  obtain⟨x,hx,hir,hK,hle,e2,hC,hG,h3⟩:=kX hr hi gU;simp only[bq.aB,ak.aB,encS,encI,List.cons_append,List.nil_append,iQ,jl,mH,mI,mJ,mK,mM] at hK hle e2 h3;simp -implicitDefEqProofs (disch:=omega) only[go_sem,hb,ht,hA,hU,e2,hC,hG,iw,fO,hl,bB,gT]
  repeat(refine W3 ?_;(first
   |refine aZ (fP _ (by omega)) ?_
   |refine bg rfl (fI hS hp hir (by rfl) (jU x.fType.fArgs) (by omega)) ?_);simp -implicitDefEqProofs (disch:=omega) only[go_sem,hb,ht,hA,hU,e2,hC,hG,iw,fO,hl,bB,gT])
  refine W3 ?_;exact bJ (i+1) (by omega) (mO (by omega)) (by rw[<-h3]<;>rfl) (by omega)
 ·simp -implicitDefEqProofs (disch:=omega) only[go_sem,hb]
  rw[pY (by omega),gU,List.take_of_length_le (by omega)]<;>first|rfl|exact⟨rfl,rfl⟩
theorem Jh(xs:List bq):um prog 95 (xs.map bq.enc):=by
 intro k l j r p S rs hS hp hk;have hlen:=jS (f:=bq.enc) (fun x=>by simp only[bq.aB,ak.aB,encS,encI,List.cons_append,List.nil_append,iQ,jl];omega) xs;obtain⟨rows,hr,hl⟩:∃rows,rows=xs.map bq.enc/\rows.length=xs.length:=⟨_,rfl,List.length_map _⟩;rw[<-hr] at hp hk hlen ⊢;refine aD (rs:=[.tmp 4]) zmx func95 ntmps95 rfl rfl rfl rfl rfl ?_;refine W1 ?_;refine nN zmx rfl hl rfl rfl fun i hi K gU=> ?_;simp -implicitDefEqProofs (disch:=omega) only[go_sem,hS,hp,dn,hl]
 with_reducible refine dM (fun hb=> ?_) (fun hb=> ?_)<;>have h:=hb<;>try simp only[wf_preprocess] at h
 ·have hi:i<xs.length:=by omega
  obtain⟨x,hx,hir,hK,hle,hC,hG⟩:=lX hr hi gU;simp only[bq.aB,ak.aB,encS,encI,List.cons_append,List.nil_append,iQ,jl,mH,mI,mJ,mK,mM] at hK hle hC hG;simp -implicitDefEqProofs (disch:=omega) only[go_sem,hb,hS,hp,hC,hG,dn,hl,gT]
  repeat(refine W3 ?_;(first
   |refine aZ (fP _ (by omega)) ?_
   |refine bg rfl (jV x.fType.fArgs _ (1+l) j r _ _ _ (by rw[bK];exact hS) (fF hp (by rw[hC];rfl)) (by omega)) ?_);simp -implicitDefEqProofs (disch:=omega) only[go_sem,hb,hS,hp,hC,hG,dn,hl,gT,lY])
  refine W3 ?_;exact bJ (i+1) (by omega) (mO (by omega)) rfl (by omega)
 ·simp -implicitDefEqProofs (disch:=omega) only[go_sem,hb]
  rw[gU,List.take_of_length_le (by omega)]<;>first|rfl|exact⟨rfl,rfl⟩
theorem ED:∀n:Nat,(∀xs:List au,SizeOf.sizeOf xs<n->tH prog 29 (xs.map au.enc))/\
 (∀xs:List aT,SizeOf.sizeOf xs<n->tH prog 30 (xs.map aT.enc))
 |0=>⟨fun xs h=>by omega,fun xs h=>by omega⟩
 |n+1=>by
  obtain⟨BU,H8⟩:=ED n;refine⟨fun xs hn k l j r p S rs hS hp hk=> ?_,fun xs hn k l j r p S rs hS hp hk=> ?_⟩
  ·have hlen:=jS (f:=au.enc) (fun x=>by simp only[au.aB,ak.aB,encS,encI,List.cons_append,List.nil_append,iQ,jl];omega) xs;obtain⟨rows,hr,hl⟩:∃rows,rows=xs.map au.enc/\rows.length=xs.length:=⟨_,rfl,List.length_map _⟩;rw[<-hr] at hp hk hlen ⊢;obtain⟨ht,hA,hU⟩:=uL hS hp;refine aD (rs:=[.tmp 4]) zmx func29 ntmps29 rfl rfl rfl rfl rfl ?_;refine W1 ?_;refine nM zmx rfl hS hp hl rfl rfl fun i hi K gU=> ?_;simp -implicitDefEqProofs (disch:=omega) only[go_sem,ht,hA,iX,hl]
   with_reducible refine dM (fun hb=> ?_) (fun hb=> ?_)<;>have h:=hb<;>try simp only[wf_preprocess] at h
   ·have hi:i<xs.length:=by omega
    obtain⟨x,hx,hir,hK,hle,e2,hC,hG,h3⟩:=kX hr hi gU;simp only[au.aB,ak.aB,encS,encI,List.cons_append,List.nil_append,iQ,jl,mH,mI,mJ,mK,mM] at hK hle e2 h3;simp -implicitDefEqProofs (disch:=omega) only[go_sem,hb,ht,hA,hU,e2,hC,hG,iw,fO,hl,bB,gT]
    repeat(refine W3 ?_;(first
     |refine aZ (fP _ (by omega)) ?_
     |refine bg rfl (fI hS hp hir (by rfl) (jU x.fType.fArgs) (by omega)) ?_
     |refine bg rfl (fI hS hp hir (by rfl) (BU x.fArgs (by have:=List.sizeOf_lt_of_mem (List.getElem_mem hi);rw[<-hx] at this;have:=au.gP x;omega)) (by omega)) ?_
     |refine bg rfl (fI hS hp hir (by rfl) (H8 x.aR (by have:=List.sizeOf_lt_of_mem (List.getElem_mem hi);rw[<-hx] at this;have:=au.pW x;omega)) (by omega)) ?_);simp -implicitDefEqProofs (disch:=omega) only[go_sem,hb,ht,hA,hU,e2,hC,hG,iw,fO,hl,bB,gT])
    refine W3 ?_;exact bJ (i+1) (by omega) (mO (by omega)) (by rw[<-h3]<;>rfl) (by omega)
   ·simp -implicitDefEqProofs (disch:=omega) only[go_sem,hb]
    rw[pY (by omega),gU,List.take_of_length_le (by omega)]<;>first|rfl|exact⟨rfl,rfl⟩
  ·have hlen:=jS (f:=aT.enc) (fun x=>by simp only[aT.aB,au.aB,ak.aB,encS,encI,List.cons_append,List.nil_append,iQ,jl];omega) xs;obtain⟨rows,hr,hl⟩:∃rows,rows=xs.map aT.enc/\rows.length=xs.length:=⟨_,rfl,List.length_map _⟩;rw[<-hr] at hp hk hlen ⊢;obtain⟨ht,hA,hU⟩:=uL hS hp;refine aD (rs:=[.tmp 4]) zmx func30 ntmps30 rfl rfl rfl rfl rfl ?_;refine W1 ?_;refine nM zmx rfl hS hp hl rfl rfl fun i hi K gU=> ?_;simp -implicitDefEqProofs (disch:=omega) only[go_sem,ht,hA,iX,hl]
   with_reducible refine dM (fun hb=> ?_) (fun hb=> ?_)<;>have h:=hb<;>try simp only[wf_preprocess] at h
   ·have hi:i<xs.length:=by omega
    obtain⟨x,hx,hir,hK,hle,e2,hC,hG,h3⟩:=kX hr hi gU;simp only[aT.aB,au.aB,ak.aB,encS,encI,List.cons_append,List.nil_append,iQ,jl,mH,mI,mJ,mK,mM] at hK hle e2 h3;simp -implicitDefEqProofs (disch:=omega) only[go_sem,hb,ht,hA,hU,e2,hC,hG,iw,fO,hl,bB,gT]
    repeat(refine W3 ?_;(first
     |refine aZ (fP _ (by omega)) ?_
     |refine bg rfl (fI hS hp hir (by rfl) (nS x.aG) (by omega)) ?_
     |refine bg rfl (fI hS hp hir (by rfl) (jU x.fBody.fType.fArgs) (by omega)) ?_
     |refine bg rfl (fI hS hp hir (by rfl) (BU x.fBody.fArgs (by have:=List.sizeOf_lt_of_mem (List.getElem_mem hi);rw[<-hx] at this;have:=aT.oO x;have:=au.gP x.fBody;omega)) (by omega)) ?_
     |refine bg rfl (fI hS hp hir (by rfl) (H8 x.fBody.aR (by have:=List.sizeOf_lt_of_mem (List.getElem_mem hi);rw[<-hx] at this;have:=aT.oO x;have:=au.pW x.fBody;omega)) (by omega)) ?_);simp -implicitDefEqProofs (disch:=omega) only[go_sem,hb,ht,hA,hU,e2,hC,hG,iw,fO,hl,bB,gT])
    refine W3 ?_;exact bJ (i+1) (by omega) (mO (by omega)) (by rw[<-h3]<;>rfl) (by omega)
   ·simp -implicitDefEqProofs (disch:=omega) only[go_sem,hb]
    rw[pY (by omega),gU,List.take_of_length_le (by omega)]<;>first|rfl|exact⟨rfl,rfl⟩
theorem EF(xs:List au):tH prog 29 (xs.map au.enc):=(ED _).1 xs (Nat.lt_succ_self _)
theorem FR(xs:List aT):tH prog 30 (xs.map aT.enc):=(ED _).2 xs (Nat.lt_succ_self _)
theorem EG:∀n:Nat,(∀xs:List au,SizeOf.sizeOf xs<n->um prog 32 (xs.map au.enc))/\
 (∀xs:List aT,SizeOf.sizeOf xs<n->um prog 33 (xs.map aT.enc))
 |0=>⟨fun xs h=>by omega,fun xs h=>by omega⟩
 |n+1=>by
  obtain⟨BU,H8⟩:=EG n;refine⟨fun xs hn k l j r p S rs hS hp hk=> ?_,fun xs hn k l j r p S rs hS hp hk=> ?_⟩
  ·have hlen:=jS (f:=au.enc) (fun x=>by simp only[au.aB,ak.aB,encS,encI,List.cons_append,List.nil_append,iQ,jl];omega) xs;obtain⟨rows,hr,hl⟩:∃rows,rows=xs.map au.enc/\rows.length=xs.length:=⟨_,rfl,List.length_map _⟩;rw[<-hr] at hp hk hlen ⊢;refine aD (rs:=[.tmp 4]) zmx func32 ntmps32 rfl rfl rfl rfl rfl ?_;refine W1 ?_;refine nN zmx rfl hl rfl rfl fun i hi K gU=> ?_;simp -implicitDefEqProofs (disch:=omega) only[go_sem,hS,hp,dn,hl]
   with_reducible refine dM (fun hb=> ?_) (fun hb=> ?_)<;>have h:=hb<;>try simp only[wf_preprocess] at h
   ·have hi:i<xs.length:=by omega
    obtain⟨x,hx,hir,hK,hle,hC,hG⟩:=lX hr hi gU;simp only[au.aB,ak.aB,encS,encI,List.cons_append,List.nil_append,iQ,jl,mH,mI,mJ,mK,mM] at hK hle hC hG;simp -implicitDefEqProofs (disch:=omega) only[go_sem,hb,hS,hp,hC,hG,dn,hl,gT]
    repeat(refine W3 ?_;(first
     |refine aZ (fP _ (by omega)) ?_
     |refine bg rfl (jV x.fType.fArgs _ (1+l) j r _ _ _ (by rw[bK];exact hS) (fF hp (by rw[hC];rfl)) (by omega)) ?_
     |refine bg rfl (BU x.fArgs (by have:=List.sizeOf_lt_of_mem (List.getElem_mem hi);rw[<-hx] at this;have:=au.gP x;omega) _ (1+l) j r _ _ _ (by rw[bK];exact hS) (fF hp (by rw[hC];rfl)) (by omega)) ?_
     |refine bg rfl (H8 x.aR (by have:=List.sizeOf_lt_of_mem (List.getElem_mem hi);rw[<-hx] at this;have:=au.pW x;omega) _ (1+l) j r _ _ _ (by rw[bK];exact hS) (fF hp (by rw[hC];rfl)) (by omega)) ?_);simp -implicitDefEqProofs (disch:=omega) only[go_sem,hb,hS,hp,hC,hG,dn,hl,gT,lY])
    refine W3 ?_;exact bJ (i+1) (by omega) (mO (by omega)) rfl (by omega)
   ·simp -implicitDefEqProofs (disch:=omega) only[go_sem,hb]
    rw[gU,List.take_of_length_le (by omega)]<;>first|rfl|exact⟨rfl,rfl⟩
  ·have hlen:=jS (f:=aT.enc) (fun x=>by simp only[aT.aB,au.aB,ak.aB,encS,encI,List.cons_append,List.nil_append,iQ,jl];omega) xs;obtain⟨rows,hr,hl⟩:∃rows,rows=xs.map aT.enc/\rows.length=xs.length:=⟨_,rfl,List.length_map _⟩;rw[<-hr] at hp hk hlen ⊢;refine aD (rs:=[.tmp 4]) zmx func33 ntmps33 rfl rfl rfl rfl rfl ?_;refine W1 ?_;refine nN zmx rfl hl rfl rfl fun i hi K gU=> ?_;simp -implicitDefEqProofs (disch:=omega) only[go_sem,hS,hp,dn,hl]
   with_reducible refine dM (fun hb=> ?_) (fun hb=> ?_)<;>have h:=hb<;>try simp only[wf_preprocess] at h
   ·have hi:i<xs.length:=by omega
    obtain⟨x,hx,hir,hK,hle,hC,hG⟩:=lX hr hi gU;simp only[aT.aB,au.aB,ak.aB,encS,encI,List.cons_append,List.nil_append,iQ,jl,mH,mI,mJ,mK,mM] at hK hle hC hG;simp -implicitDefEqProofs (disch:=omega) only[go_sem,hb,hS,hp,hC,hG,dn,hl,gT]
    repeat(refine W3 ?_;(first
     |refine aZ (fP _ (by omega)) ?_
     |refine bg rfl (nT x.aG _ (1+l) j r _ _ _ (by rw[bK];exact hS) (fF hp (by rw[hC];rfl)) (by omega)) ?_
     |refine bg rfl (jV x.fBody.fType.fArgs _ (1+l) j r _ _ _ (by rw[bK];exact hS) (fF hp (by rw[hC];rfl)) (by omega)) ?_
     |refine bg rfl (BU x.fBody.fArgs (by have:=List.sizeOf_lt_of_mem (List.getElem_mem hi);rw[<-hx] at this;have:=aT.oO x;have:=au.gP x.fBody;omega) _ (1+l) j r _ _ _ (by rw[bK];exact hS) (fF hp (by rw[hC];rfl)) (by omega)) ?_
     |refine bg rfl (H8 x.fBody.aR (by have:=List.sizeOf_lt_of_mem (List.getElem_mem hi);rw[<-hx] at this;have:=aT.oO x;have:=au.pW x.fBody;omega) _ (1+l) j r _ _ _ (by rw[bK];exact hS) (fF hp (by rw[hC];rfl)) (by omega)) ?_);simp -implicitDefEqProofs (disch:=omega) only[go_sem,hb,hS,hp,hC,hG,dn,hl,gT,lY])
    refine W3 ?_;exact bJ (i+1) (by omega) (mO (by omega)) rfl (by omega)
   ·simp -implicitDefEqProofs (disch:=omega) only[go_sem,hb]
    rw[gU,List.take_of_length_le (by omega)]<;>first|rfl|exact⟨rfl,rfl⟩
theorem EH(xs:List au):um prog 32 (xs.map au.enc):=(EG _).1 xs (Nat.lt_succ_self _)
theorem FT(xs:List aT):um prog 33 (xs.map aT.enc):=(EG _).2 xs (Nat.lt_succ_self _)
theorem LQ(xs:List aL):tH prog 88 (xs.map aL.enc):=by
 intro k l j r p S rs hS hp hk;have hlen:=jS (f:=aL.enc) (fun x=>by simp only[au.aB,aL.aB,ak.aB,encS,encI,List.cons_append,List.nil_append,iQ,jl];omega) xs;obtain⟨rows,hr,hl⟩:∃rows,rows=xs.map aL.enc/\rows.length=xs.length:=⟨_,rfl,List.length_map _⟩;rw[<-hr] at hp hk hlen ⊢;obtain⟨ht,hA,hU⟩:=uL hS hp;refine aD (rs:=[.tmp 4]) zmx func88 ntmps88 rfl rfl rfl rfl rfl ?_;refine W1 ?_;refine nM zmx rfl hS hp hl rfl rfl fun i hi K gU=> ?_;simp -implicitDefEqProofs (disch:=omega) only[go_sem,ht,hA,iX,hl]
 with_reducible refine dM (fun hb=> ?_) (fun hb=> ?_)<;>have h:=hb<;>try simp only[wf_preprocess] at h
 ·have hi:i<xs.length:=by omega
  obtain⟨x,hx,hir,hK,hle,e2,hC,hG,h3⟩:=kX hr hi gU;simp only[au.aB,aL.aB,ak.aB,encS,encI,List.cons_append,List.nil_append,iQ,jl,mH,mI,mJ,mK,mM] at hK hle e2 h3;simp -implicitDefEqProofs (disch:=omega) only[go_sem,hb,ht,hA,hU,e2,hC,hG,iw,fO,hl,bB,gT]
  repeat(refine W3 ?_;(first
   |refine aZ (fP _ (by omega)) ?_
   |refine bg rfl (fI hS hp hir (by rfl) (jU x.aV) (by omega)) ?_
   |refine bg rfl (fI hS hp hir (by rfl) (jU x.bO.fArgs) (by omega)) ?_
   |refine bg rfl (fI hS hp hir (by rfl) (nS x.aG) (by omega)) ?_
   |refine bg rfl (fI hS hp hir (by rfl) (jU x.fBody.fType.fArgs) (by omega)) ?_
   |refine bg rfl (fI hS hp hir (by rfl) (EF x.fBody.fArgs) (by omega)) ?_
   |refine bg rfl (fI hS hp hir (by rfl) (FR x.fBody.aR) (by omega)) ?_);simp -implicitDefEqProofs (disch:=omega) only[go_sem,hb,ht,hA,hU,e2,hC,hG,iw,fO,hl,bB,gT])
  refine W3 ?_;exact bJ (i+1) (by omega) (mO (by omega)) (by rw[<-h3]<;>rfl) (by omega)
 ·simp -implicitDefEqProofs (disch:=omega) only[go_sem,hb]
  rw[pY (by omega),gU,List.take_of_length_le (by omega)]<;>first|rfl|exact⟨rfl,rfl⟩
theorem LU(xs:List aL):um prog 93 (xs.map aL.enc):=by
 intro k l j r p S rs hS hp hk;have hlen:=jS (f:=aL.enc) (fun x=>by simp only[au.aB,aL.aB,ak.aB,encS,encI,List.cons_append,List.nil_append,iQ,jl];omega) xs;obtain⟨rows,hr,hl⟩:∃rows,rows=xs.map aL.enc/\rows.length=xs.length:=⟨_,rfl,List.length_map _⟩;rw[<-hr] at hp hk hlen ⊢;refine aD (rs:=[.tmp 4]) zmx func93 ntmps93 rfl rfl rfl rfl rfl ?_;refine W1 ?_;refine nN zmx rfl hl rfl rfl fun i hi K gU=> ?_;simp -implicitDefEqProofs (disch:=omega) only[go_sem,hS,hp,dn,hl]
 with_reducible refine dM (fun hb=> ?_) (fun hb=> ?_)<;>have h:=hb<;>try simp only[wf_preprocess] at h
 ·have hi:i<xs.length:=by omega
  obtain⟨x,hx,hir,hK,hle,hC,hG⟩:=lX hr hi gU;simp only[au.aB,aL.aB,ak.aB,encS,encI,List.cons_append,List.nil_append,iQ,jl,mH,mI,mJ,mK,mM] at hK hle hC hG;simp -implicitDefEqProofs (disch:=omega) only[go_sem,hb,hS,hp,hC,hG,dn,hl,gT]
  repeat(refine W3 ?_;(first
   |refine aZ (fP _ (by omega)) ?_
   |refine bg rfl (jV x.aV _ (1+l) j r _ _ _ (by rw[bK];exact hS) (fF hp (by rw[hC];rfl)) (by omega)) ?_
   |refine bg rfl (jV x.bO.fArgs _ (1+l) j r _ _ _ (by rw[bK];exact hS) (fF hp (by rw[hC];rfl)) (by omega)) ?_
   |refine bg rfl (nT x.aG _ (1+l) j r _ _ _ (by rw[bK];exact hS) (fF hp (by rw[hC];rfl)) (by omega)) ?_
   |refine bg rfl (jV x.fBody.fType.fArgs _ (1+l) j r _ _ _ (by rw[bK];exact hS) (fF hp (by rw[hC];rfl)) (by omega)) ?_
   |refine bg rfl (EH x.fBody.fArgs _ (1+l) j r _ _ _ (by rw[bK];exact hS) (fF hp (by rw[hC];rfl)) (by omega)) ?_
   |refine bg rfl (FT x.fBody.aR _ (1+l) j r _ _ _ (by rw[bK];exact hS) (fF hp (by rw[hC];rfl)) (by omega)) ?_);simp -implicitDefEqProofs (disch:=omega) only[go_sem,hb,hS,hp,hC,hG,dn,hl,gT,lY])
  refine W3 ?_;exact bJ (i+1) (by omega) (mO (by omega)) rfl (by omega)
 ·simp -implicitDefEqProofs (disch:=omega) only[go_sem,hb]
  rw[gU,List.take_of_length_le (by omega)]<;>first|rfl|exact⟨rfl,rfl⟩
theorem Un(xs:List bf):tH prog 42 (xs.map bf.enc):=by
 intro k l j r p S rs hS hp hk;have hlen:=jS (f:=bf.enc) (fun x=>by simp only[bf.aB,encS,encI,List.cons_append,List.nil_append,iQ,jl];omega) xs;obtain⟨rows,hr,hl⟩:∃rows,rows=xs.map bf.enc/\rows.length=xs.length:=⟨_,rfl,List.length_map _⟩;rw[<-hr] at hp hk hlen ⊢;obtain⟨ht,hA,hU⟩:=uL hS hp;refine aD (rs:=[.tmp 4]) zmx func42 ntmps42 rfl rfl rfl rfl rfl ?_;refine W1 ?_;refine nM zmx rfl hS hp hl rfl rfl fun i hi K gU=> ?_;simp -implicitDefEqProofs (disch:=omega) only[go_sem,ht,hA,iX,hl]
 with_reducible refine dM (fun hb=> ?_) (fun hb=> ?_)<;>have h:=hb<;>try simp only[wf_preprocess] at h
 ·have hi:i<xs.length:=by omega
  obtain⟨x,hx,hir,hK,hle,e2,hC,hG,h3⟩:=kX hr hi gU;simp only[bf.aB,encS,encI,List.cons_append,List.nil_append,iQ,jl,mH,mI,mJ,mK,mM] at hK hle e2 h3;simp -implicitDefEqProofs (disch:=omega) only[go_sem,hb,ht,hA,hU,e2,hC,hG,iw,fO,hl,bB,gT]
  repeat(refine W3 ?_;(first
   |refine aZ (fP _ (by omega)) ?_
   |refine bg rfl (fI hS hp hir (by rfl) (nS x.bH) (by omega)) ?_
   |refine bg rfl (fI hS hp hir (by rfl) (LQ x.aC) (by omega)) ?_);simp -implicitDefEqProofs (disch:=omega) only[go_sem,hb,ht,hA,hU,e2,hC,hG,iw,fO,hl,bB,gT])
  refine W3 ?_;exact bJ (i+1) (by omega) (mO (by omega)) (by rw[<-h3]<;>rfl) (by omega)
 ·simp -implicitDefEqProofs (disch:=omega) only[go_sem,hb]
  rw[pY (by omega),gU,List.take_of_length_le (by omega)]<;>first|rfl|exact⟨rfl,rfl⟩
theorem Uo(xs:List bf):um prog 47 (xs.map bf.enc):=by
 intro k l j r p S rs hS hp hk;have hlen:=jS (f:=bf.enc) (fun x=>by simp only[bf.aB,encS,encI,List.cons_append,List.nil_append,iQ,jl];omega) xs;obtain⟨rows,hr,hl⟩:∃rows,rows=xs.map bf.enc/\rows.length=xs.length:=⟨_,rfl,List.length_map _⟩;rw[<-hr] at hp hk hlen ⊢;refine aD (rs:=[.tmp 4]) zmx func47 ntmps47 rfl rfl rfl rfl rfl ?_;refine W1 ?_;refine nN zmx rfl hl rfl rfl fun i hi K gU=> ?_;simp -implicitDefEqProofs (disch:=omega) only[go_sem,hS,hp,dn,hl]
 with_reducible refine dM (fun hb=> ?_) (fun hb=> ?_)<;>have h:=hb<;>try simp only[wf_preprocess] at h
 ·have hi:i<xs.length:=by omega
  obtain⟨x,hx,hir,hK,hle,hC,hG⟩:=lX hr hi gU;simp only[bf.aB,encS,encI,List.cons_append,List.nil_append,iQ,jl,mH,mI,mJ,mK,mM] at hK hle hC hG;simp -implicitDefEqProofs (disch:=omega) only[go_sem,hb,hS,hp,hC,hG,dn,hl,gT]
  repeat(refine W3 ?_;(first
   |refine aZ (fP _ (by omega)) ?_
   |refine bg rfl (nT x.bH _ (1+l) j r _ _ _ (by rw[bK];exact hS) (fF hp (by rw[hC];rfl)) (by omega)) ?_
   |refine bg rfl (LU x.aC _ (1+l) j r _ _ _ (by rw[bK];exact hS) (fF hp (by rw[hC];rfl)) (by omega)) ?_);simp -implicitDefEqProofs (disch:=omega) only[go_sem,hb,hS,hp,hC,hG,dn,hl,gT,lY])
  refine W3 ?_;exact bJ (i+1) (by omega) (mO (by omega)) rfl (by omega)
 ·simp -implicitDefEqProofs (disch:=omega) only[go_sem,hb]
  rw[gU,List.take_of_length_le (by omega)]<;>first|rfl|exact⟨rfl,rfl⟩
theorem Jl(xs:List aK):tH prog 89 (xs.map aK.enc):=by
 intro k l j r p S rs hS hp hk;have hlen:=jS (f:=aK.enc) (fun x=>by simp only[aK.aB,encS,encI,List.cons_append,List.nil_append,iQ,jl];omega) xs;obtain⟨rows,hr,hl⟩:∃rows,rows=xs.map aK.enc/\rows.length=xs.length:=⟨_,rfl,List.length_map _⟩;rw[<-hr] at hp hk hlen ⊢;obtain⟨ht,hA,hU⟩:=uL hS hp;refine aD (rs:=[.tmp 4]) zmx func89 ntmps89 rfl rfl rfl rfl rfl ?_;refine W1 ?_;refine nM zmx rfl hS hp hl rfl rfl fun i hi K gU=> ?_;simp -implicitDefEqProofs (disch:=omega) only[go_sem,ht,hA,iX,hl]
 with_reducible refine dM (fun hb=> ?_) (fun hb=> ?_)<;>have h:=hb<;>try simp only[wf_preprocess] at h
 ·have hi:i<xs.length:=by omega
  obtain⟨x,hx,hir,hK,hle,e2,hC,hG,h3⟩:=kX hr hi gU;simp only[aK.aB,encS,encI,List.cons_append,List.nil_append,iQ,jl,mH,mI,mJ,mK,mM] at hK hle e2 h3;simp -implicitDefEqProofs (disch:=omega) only[go_sem,hb,ht,hA,hU,e2,hC,hG,iw,fO,hl,bB,gT]
  repeat(refine W3 ?_;(first
   |refine aZ (fP _ (by omega)) ?_
   |refine bg rfl (fI hS hp hir (by rfl) (jU x.gu) (by omega)) ?_);simp -implicitDefEqProofs (disch:=omega) only[go_sem,hb,ht,hA,hU,e2,hC,hG,iw,fO,hl,bB,gT])
  refine W3 ?_;exact bJ (i+1) (by omega) (mO (by omega)) (by rw[<-h3]<;>rfl) (by omega)
 ·simp -implicitDefEqProofs (disch:=omega) only[go_sem,hb]
  rw[pY (by omega),gU,List.take_of_length_le (by omega)]<;>first|rfl|exact⟨rfl,rfl⟩
theorem Jm(xs:List aK):um prog 94 (xs.map aK.enc):=by
 intro k l j r p S rs hS hp hk;have hlen:=jS (f:=aK.enc) (fun x=>by simp only[aK.aB,encS,encI,List.cons_append,List.nil_append,iQ,jl];omega) xs;obtain⟨rows,hr,hl⟩:∃rows,rows=xs.map aK.enc/\rows.length=xs.length:=⟨_,rfl,List.length_map _⟩;rw[<-hr] at hp hk hlen ⊢;refine aD (rs:=[.tmp 4]) zmx func94 ntmps94 rfl rfl rfl rfl rfl ?_;refine W1 ?_;refine nN zmx rfl hl rfl rfl fun i hi K gU=> ?_;simp -implicitDefEqProofs (disch:=omega) only[go_sem,hS,hp,dn,hl]
 with_reducible refine dM (fun hb=> ?_) (fun hb=> ?_)<;>have h:=hb<;>try simp only[wf_preprocess] at h
 ·have hi:i<xs.length:=by omega
  obtain⟨x,hx,hir,hK,hle,hC,hG⟩:=lX hr hi gU;simp only[aK.aB,encS,encI,List.cons_append,List.nil_append,iQ,jl,mH,mI,mJ,mK,mM] at hK hle hC hG;simp -implicitDefEqProofs (disch:=omega) only[go_sem,hb,hS,hp,hC,hG,dn,hl,gT]
  repeat(refine W3 ?_;(first
   |refine aZ (fP _ (by omega)) ?_
   |refine bg rfl (jV x.gu _ (1+l) j r _ _ _ (by rw[bK];exact hS) (fF hp (by rw[hC];rfl)) (by omega)) ?_);simp -implicitDefEqProofs (disch:=omega) only[go_sem,hb,hS,hp,hC,hG,dn,hl,gT,lY])
  refine W3 ?_;exact bJ (i+1) (by omega) (mO (by omega)) rfl (by omega)
 ·simp -implicitDefEqProofs (disch:=omega) only[go_sem,hb]
  rw[gU,List.take_of_length_le (by omega)]<;>first|rfl|exact⟨rfl,rfl⟩
theorem Nw(xs:List aP):tH prog 43 (xs.map aP.enc):=by
 intro k l j r p S rs hS hp hk;have hlen:=jS (f:=aP.enc) (fun x=>by simp only[aP.aB,encS,encI,List.cons_append,List.nil_append,iQ,jl];omega) xs;obtain⟨rows,hr,hl⟩:∃rows,rows=xs.map aP.enc/\rows.length=xs.length:=⟨_,rfl,List.length_map _⟩;rw[<-hr] at hp hk hlen ⊢;obtain⟨ht,hA,hU⟩:=uL hS hp;refine aD (rs:=[.tmp 4]) zmx func43 ntmps43 rfl rfl rfl rfl rfl ?_;refine W1 ?_;refine nM zmx rfl hS hp hl rfl rfl fun i hi K gU=> ?_;simp -implicitDefEqProofs (disch:=omega) only[go_sem,ht,hA,iX,hl]
 with_reducible refine dM (fun hb=> ?_) (fun hb=> ?_)<;>have h:=hb<;>try simp only[wf_preprocess] at h
 ·have hi:i<xs.length:=by omega
  obtain⟨x,hx,hir,hK,hle,e2,hC,hG,h3⟩:=kX hr hi gU;simp only[aP.aB,encS,encI,List.cons_append,List.nil_append,iQ,jl,mH,mI,mJ,mK,mM] at hK hle e2 h3;simp -implicitDefEqProofs (disch:=omega) only[go_sem,hb,ht,hA,hU,e2,hC,hG,iw,fO,hl,bB,gT]
  repeat(refine W3 ?_;(first
   |refine aZ (fP _ (by omega)) ?_
   |refine bg rfl (fI hS hp hir (by rfl) (nS x.aG) (by omega)) ?_
   |refine bg rfl (fI hS hp hir (by rfl) (Jl x.aF) (by omega)) ?_);simp -implicitDefEqProofs (disch:=omega) only[go_sem,hb,ht,hA,hU,e2,hC,hG,iw,fO,hl,bB,gT])
  refine W3 ?_;exact bJ (i+1) (by omega) (mO (by omega)) (by rw[<-h3]<;>rfl) (by omega)
 ·simp -implicitDefEqProofs (disch:=omega) only[go_sem,hb]
  rw[pY (by omega),gU,List.take_of_length_le (by omega)]<;>first|rfl|exact⟨rfl,rfl⟩
theorem Ny(xs:List aP):um prog 48 (xs.map aP.enc):=by
 intro k l j r p S rs hS hp hk;have hlen:=jS (f:=aP.enc) (fun x=>by simp only[aP.aB,encS,encI,List.cons_append,List.nil_append,iQ,jl];omega) xs;obtain⟨rows,hr,hl⟩:∃rows,rows=xs.map aP.enc/\rows.length=xs.length:=⟨_,rfl,List.length_map _⟩;rw[<-hr] at hp hk hlen ⊢;refine aD (rs:=[.tmp 4]) zmx func48 ntmps48 rfl rfl rfl rfl rfl ?_;refine W1 ?_;refine nN zmx rfl hl rfl rfl fun i hi K gU=> ?_;simp -implicitDefEqProofs (disch:=omega) only[go_sem,hS,hp,dn,hl]
 with_reducible refine dM (fun hb=> ?_) (fun hb=> ?_)<;>have h:=hb<;>try simp only[wf_preprocess] at h
 ·have hi:i<xs.length:=by omega
  obtain⟨x,hx,hir,hK,hle,hC,hG⟩:=lX hr hi gU;simp only[aP.aB,encS,encI,List.cons_append,List.nil_append,iQ,jl,mH,mI,mJ,mK,mM] at hK hle hC hG;simp -implicitDefEqProofs (disch:=omega) only[go_sem,hb,hS,hp,hC,hG,dn,hl,gT]
  repeat(refine W3 ?_;(first
   |refine aZ (fP _ (by omega)) ?_
   |refine bg rfl (nT x.aG _ (1+l) j r _ _ _ (by rw[bK];exact hS) (fF hp (by rw[hC];rfl)) (by omega)) ?_
   |refine bg rfl (Jm x.aF _ (1+l) j r _ _ _ (by rw[bK];exact hS) (fF hp (by rw[hC];rfl)) (by omega)) ?_);simp -implicitDefEqProofs (disch:=omega) only[go_sem,hb,hS,hp,hC,hG,dn,hl,gT,lY])
  refine W3 ?_;exact bJ (i+1) (by omega) (mO (by omega)) rfl (by omega)
 ·simp -implicitDefEqProofs (disch:=omega) only[go_sem,hb]
  rw[gU,List.take_of_length_le (by omega)]<;>first|rfl|exact⟨rfl,rfl⟩
theorem Ry(xs:List bA):tH prog 91 (xs.map bA.enc):=by
 intro k l j r p S rs hS hp hk;have hlen:=jS (f:=bA.enc) (fun x=>by simp only[au.aB,bA.aB,ak.aB,encS,encI,List.cons_append,List.nil_append,iQ,jl];omega) xs;obtain⟨rows,hr,hl⟩:∃rows,rows=xs.map bA.enc/\rows.length=xs.length:=⟨_,rfl,List.length_map _⟩;rw[<-hr] at hp hk hlen ⊢;obtain⟨ht,hA,hU⟩:=uL hS hp;refine aD (rs:=[.tmp 4]) zmx func91 ntmps91 rfl rfl rfl rfl rfl ?_;refine W1 ?_;refine nM zmx rfl hS hp hl rfl rfl fun i hi K gU=> ?_;simp -implicitDefEqProofs (disch:=omega) only[go_sem,ht,hA,iX,hl]
 with_reducible refine dM (fun hb=> ?_) (fun hb=> ?_)<;>have h:=hb<;>try simp only[wf_preprocess] at h
 ·have hi:i<xs.length:=by omega
  obtain⟨x,hx,hir,hK,hle,e2,hC,hG,h3⟩:=kX hr hi gU;simp only[au.aB,bA.aB,ak.aB,encS,encI,List.cons_append,List.nil_append,iQ,jl,mH,mI,mJ,mK,mM] at hK hle e2 h3;simp -implicitDefEqProofs (disch:=omega) only[go_sem,hb,ht,hA,hU,e2,hC,hG,iw,fO,hl,bB,gT]
  repeat(refine W3 ?_;(first
   |refine aZ (fP _ (by omega)) ?_
   |refine bg rfl (fI hS hp hir (by rfl) (nS x.aG) (by omega)) ?_
   |refine bg rfl (fI hS hp hir (by rfl) (jU x.fBody.fType.fArgs) (by omega)) ?_
   |refine bg rfl (fI hS hp hir (by rfl) (EF x.fBody.fArgs) (by omega)) ?_
   |refine bg rfl (fI hS hp hir (by rfl) (FR x.fBody.aR) (by omega)) ?_);simp -implicitDefEqProofs (disch:=omega) only[go_sem,hb,ht,hA,hU,e2,hC,hG,iw,fO,hl,bB,gT])
  refine W3 ?_;exact bJ (i+1) (by omega) (mO (by omega)) (by rw[<-h3]<;>rfl) (by omega)
 ·simp -implicitDefEqProofs (disch:=omega) only[go_sem,hb]
  rw[pY (by omega),gU,List.take_of_length_le (by omega)]<;>first|rfl|exact⟨rfl,rfl⟩
theorem Rz(xs:List bA):um prog 96 (xs.map bA.enc):=by
 intro k l j r p S rs hS hp hk;have hlen:=jS (f:=bA.enc) (fun x=>by simp only[au.aB,bA.aB,ak.aB,encS,encI,List.cons_append,List.nil_append,iQ,jl];omega) xs;obtain⟨rows,hr,hl⟩:∃rows,rows=xs.map bA.enc/\rows.length=xs.length:=⟨_,rfl,List.length_map _⟩;rw[<-hr] at hp hk hlen ⊢;refine aD (rs:=[.tmp 4]) zmx func96 ntmps96 rfl rfl rfl rfl rfl ?_;refine W1 ?_;refine nN zmx rfl hl rfl rfl fun i hi K gU=> ?_;simp -implicitDefEqProofs (disch:=omega) only[go_sem,hS,hp,dn,hl]
 with_reducible refine dM (fun hb=> ?_) (fun hb=> ?_)<;>have h:=hb<;>try simp only[wf_preprocess] at h
 ·have hi:i<xs.length:=by omega
  obtain⟨x,hx,hir,hK,hle,hC,hG⟩:=lX hr hi gU;simp only[au.aB,bA.aB,ak.aB,encS,encI,List.cons_append,List.nil_append,iQ,jl,mH,mI,mJ,mK,mM] at hK hle hC hG;simp -implicitDefEqProofs (disch:=omega) only[go_sem,hb,hS,hp,hC,hG,dn,hl,gT]
  repeat(refine W3 ?_;(first
   |refine aZ (fP _ (by omega)) ?_
   |refine bg rfl (nT x.aG _ (1+l) j r _ _ _ (by rw[bK];exact hS) (fF hp (by rw[hC];rfl)) (by omega)) ?_
   |refine bg rfl (jV x.fBody.fType.fArgs _ (1+l) j r _ _ _ (by rw[bK];exact hS) (fF hp (by rw[hC];rfl)) (by omega)) ?_
   |refine bg rfl (EH x.fBody.fArgs _ (1+l) j r _ _ _ (by rw[bK];exact hS) (fF hp (by rw[hC];rfl)) (by omega)) ?_
   |refine bg rfl (FT x.fBody.aR _ (1+l) j r _ _ _ (by rw[bK];exact hS) (fF hp (by rw[hC];rfl)) (by omega)) ?_);simp -implicitDefEqProofs (disch:=omega) only[go_sem,hb,hS,hp,hC,hG,dn,hl,gT,lY])
  refine W3 ?_;exact bJ (i+1) (by omega) (mO (by omega)) rfl (by omega)
 ·simp -implicitDefEqProofs (disch:=omega) only[go_sem,hb]
  rw[gU,List.take_of_length_le (by omega)]<;>first|rfl|exact⟨rfl,rfl⟩
theorem Nz(xs:List aM):tH prog 44 (xs.map aM.enc):=by
 intro k l j r p S rs hS hp hk;have hlen:=jS (f:=aM.enc) (fun x=>by simp only[aM.aB,ak.aB,encS,encI,List.cons_append,List.nil_append,iQ,jl];omega) xs;obtain⟨rows,hr,hl⟩:∃rows,rows=xs.map aM.enc/\rows.length=xs.length:=⟨_,rfl,List.length_map _⟩;rw[<-hr] at hp hk hlen ⊢;obtain⟨ht,hA,hU⟩:=uL hS hp;refine aD (rs:=[.tmp 4]) zmx func44 ntmps44 rfl rfl rfl rfl rfl ?_;refine W1 ?_;refine nM zmx rfl hS hp hl rfl rfl fun i hi K gU=> ?_;simp -implicitDefEqProofs (disch:=omega) only[go_sem,ht,hA,iX,hl]
 with_reducible refine dM (fun hb=> ?_) (fun hb=> ?_)<;>have h:=hb<;>try simp only[wf_preprocess] at h
 ·have hi:i<xs.length:=by omega
  obtain⟨x,hx,hir,hK,hle,e2,hC,hG,h3⟩:=kX hr hi gU;simp only[aM.aB,ak.aB,encS,encI,List.cons_append,List.nil_append,iQ,jl,mH,mI,mJ,mK,mM] at hK hle e2 h3;simp -implicitDefEqProofs (disch:=omega) only[go_sem,hb,ht,hA,hU,e2,hC,hG,iw,fO,hl,bB,gT]
  repeat(refine W3 ?_;(first
   |refine aZ (fP _ (by omega)) ?_
   |refine bg rfl (fI hS hp hir (by rfl) (nS x.aG) (by omega)) ?_
   |refine bg rfl (fI hS hp hir (by rfl) (jU x.bQ.fArgs) (by omega)) ?_
   |refine bg rfl (fI hS hp hir (by rfl) (Jg x.bY) (by omega)) ?_
   |refine bg rfl (fI hS hp hir (by rfl) (jU x.bE.fArgs) (by omega)) ?_
   |refine bg rfl (fI hS hp hir (by rfl) (Ry x.aI) (by omega)) ?_);simp -implicitDefEqProofs (disch:=omega) only[go_sem,hb,ht,hA,hU,e2,hC,hG,iw,fO,hl,bB,gT])
  refine W3 ?_;exact bJ (i+1) (by omega) (mO (by omega)) (by rw[<-h3]<;>rfl) (by omega)
 ·simp -implicitDefEqProofs (disch:=omega) only[go_sem,hb]
  rw[pY (by omega),gU,List.take_of_length_le (by omega)]<;>first|rfl|exact⟨rfl,rfl⟩
theorem NA(xs:List aM):um prog 49 (xs.map aM.enc):=by
 intro k l j r p S rs hS hp hk;have hlen:=jS (f:=aM.enc) (fun x=>by simp only[aM.aB,ak.aB,encS,encI,List.cons_append,List.nil_append,iQ,jl];omega) xs;obtain⟨rows,hr,hl⟩:∃rows,rows=xs.map aM.enc/\rows.length=xs.length:=⟨_,rfl,List.length_map _⟩;rw[<-hr] at hp hk hlen ⊢;refine aD (rs:=[.tmp 4]) zmx func49 ntmps49 rfl rfl rfl rfl rfl ?_;refine W1 ?_;refine nN zmx rfl hl rfl rfl fun i hi K gU=> ?_;simp -implicitDefEqProofs (disch:=omega) only[go_sem,hS,hp,dn,hl]
 with_reducible refine dM (fun hb=> ?_) (fun hb=> ?_)<;>have h:=hb<;>try simp only[wf_preprocess] at h
 ·have hi:i<xs.length:=by omega
  obtain⟨x,hx,hir,hK,hle,hC,hG⟩:=lX hr hi gU;simp only[aM.aB,ak.aB,encS,encI,List.cons_append,List.nil_append,iQ,jl,mH,mI,mJ,mK,mM] at hK hle hC hG;simp -implicitDefEqProofs (disch:=omega) only[go_sem,hb,hS,hp,hC,hG,dn,hl,gT]
  repeat(refine W3 ?_;(first
   |refine aZ (fP _ (by omega)) ?_
   |refine bg rfl (nT x.aG _ (1+l) j r _ _ _ (by rw[bK];exact hS) (fF hp (by rw[hC];rfl)) (by omega)) ?_
   |refine bg rfl (jV x.bQ.fArgs _ (1+l) j r _ _ _ (by rw[bK];exact hS) (fF hp (by rw[hC];rfl)) (by omega)) ?_
   |refine bg rfl (Jh x.bY _ (1+l) j r _ _ _ (by rw[bK];exact hS) (fF hp (by rw[hC];rfl)) (by omega)) ?_
   |refine bg rfl (jV x.bE.fArgs _ (1+l) j r _ _ _ (by rw[bK];exact hS) (fF hp (by rw[hC];rfl)) (by omega)) ?_
   |refine bg rfl (Rz x.aI _ (1+l) j r _ _ _ (by rw[bK];exact hS) (fF hp (by rw[hC];rfl)) (by omega)) ?_);simp -implicitDefEqProofs (disch:=omega) only[go_sem,hb,hS,hp,hC,hG,dn,hl,gT,lY])
  refine W3 ?_;exact bJ (i+1) (by omega) (mO (by omega)) rfl (by omega)
 ·simp -implicitDefEqProofs (disch:=omega) only[go_sem,hb]
  rw[gU,List.take_of_length_le (by omega)]<;>first|rfl|exact⟨rfl,rfl⟩
theorem Uq(xs:List bM):tH prog 92 (xs.map bM.enc):=by
 intro k l j r p S rs hS hp hk;have hlen:=jS (f:=bM.enc) (fun x=>by simp only[bM.aB,ak.aB,encS,encI,List.cons_append,List.nil_append,iQ,jl];omega) xs;obtain⟨rows,hr,hl⟩:∃rows,rows=xs.map bM.enc/\rows.length=xs.length:=⟨_,rfl,List.length_map _⟩;rw[<-hr] at hp hk hlen ⊢;obtain⟨ht,hA,hU⟩:=uL hS hp;refine aD (rs:=[.tmp 4]) zmx func92 ntmps92 rfl rfl rfl rfl rfl ?_;refine W1 ?_;refine nM zmx rfl hS hp hl rfl rfl fun i hi K gU=> ?_;simp -implicitDefEqProofs (disch:=omega) only[go_sem,ht,hA,iX,hl]
 with_reducible refine dM (fun hb=> ?_) (fun hb=> ?_)<;>have h:=hb<;>try simp only[wf_preprocess] at h
 ·have hi:i<xs.length:=by omega
  obtain⟨x,hx,hir,hK,hle,e2,hC,hG,h3⟩:=kX hr hi gU;simp only[bM.aB,ak.aB,encS,encI,List.cons_append,List.nil_append,iQ,jl,mH,mI,mJ,mK,mM] at hK hle e2 h3;simp -implicitDefEqProofs (disch:=omega) only[go_sem,hb,ht,hA,hU,e2,hC,hG,iw,fO,hl,bB,gT]
  repeat(refine W3 ?_;(first
   |refine aZ (fP _ (by omega)) ?_
   |refine bg rfl (fI hS hp hir (by rfl) (jU x.fType.fArgs) (by omega)) ?_);simp -implicitDefEqProofs (disch:=omega) only[go_sem,hb,ht,hA,hU,e2,hC,hG,iw,fO,hl,bB,gT])
  refine W3 ?_;exact bJ (i+1) (by omega) (mO (by omega)) (by rw[<-h3]<;>rfl) (by omega)
 ·simp -implicitDefEqProofs (disch:=omega) only[go_sem,hb]
  rw[pY (by omega),gU,List.take_of_length_le (by omega)]<;>first|rfl|exact⟨rfl,rfl⟩
theorem Ur(xs:List bM):um prog 97 (xs.map bM.enc):=by
 intro k l j r p S rs hS hp hk;have hlen:=jS (f:=bM.enc) (fun x=>by simp only[bM.aB,ak.aB,encS,encI,List.cons_append,List.nil_append,iQ,jl];omega) xs;obtain⟨rows,hr,hl⟩:∃rows,rows=xs.map bM.enc/\rows.length=xs.length:=⟨_,rfl,List.length_map _⟩;rw[<-hr] at hp hk hlen ⊢;refine aD (rs:=[.tmp 4]) zmx func97 ntmps97 rfl rfl rfl rfl rfl ?_;refine W1 ?_;refine nN zmx rfl hl rfl rfl fun i hi K gU=> ?_;simp -implicitDefEqProofs (disch:=omega) only[go_sem,hS,hp,dn,hl]
 with_reducible refine dM (fun hb=> ?_) (fun hb=> ?_)<;>have h:=hb<;>try simp only[wf_preprocess] at h
 ·have hi:i<xs.length:=by omega
  obtain⟨x,hx,hir,hK,hle,hC,hG⟩:=lX hr hi gU;simp only[bM.aB,ak.aB,encS,encI,List.cons_append,List.nil_append,iQ,jl,mH,mI,mJ,mK,mM] at hK hle hC hG;simp -implicitDefEqProofs (disch:=omega) only[go_sem,hb,hS,hp,hC,hG,dn,hl,gT]
  repeat(refine W3 ?_;(first
   |refine aZ (fP _ (by omega)) ?_
   |refine bg rfl (jV x.fType.fArgs _ (1+l) j r _ _ _ (by rw[bK];exact hS) (fF hp (by rw[hC];rfl)) (by omega)) ?_);simp -implicitDefEqProofs (disch:=omega) only[go_sem,hb,hS,hp,hC,hG,dn,hl,gT,lY])
  refine W3 ?_;exact bJ (i+1) (by omega) (mO (by omega)) rfl (by omega)
 ·simp -implicitDefEqProofs (disch:=omega) only[go_sem,hb]
  rw[gU,List.take_of_length_le (by omega)]<;>first|rfl|exact⟨rfl,rfl⟩
theorem NC(xs:List aS):tH prog 45 (xs.map aS.enc):=by
 intro k l j r p S rs hS hp hk;have hlen:=jS (f:=aS.enc) (fun x=>by simp only[au.aB,aS.aB,ak.aB,encS,encI,List.cons_append,List.nil_append,iQ,jl];omega) xs;obtain⟨rows,hr,hl⟩:∃rows,rows=xs.map aS.enc/\rows.length=xs.length:=⟨_,rfl,List.length_map _⟩;rw[<-hr] at hp hk hlen ⊢;obtain⟨ht,hA,hU⟩:=uL hS hp;refine aD (rs:=[.tmp 4]) zmx func45 ntmps45 rfl rfl rfl rfl rfl ?_;refine W1 ?_;refine nM zmx rfl hS hp hl rfl rfl fun i hi K gU=> ?_;simp -implicitDefEqProofs (disch:=omega) only[go_sem,ht,hA,iX,hl]
 with_reducible refine dM (fun hb=> ?_) (fun hb=> ?_)<;>have h:=hb<;>try simp only[wf_preprocess] at h
 ·have hi:i<xs.length:=by omega
  obtain⟨x,hx,hir,hK,hle,e2,hC,hG,h3⟩:=kX hr hi gU;simp only[au.aB,aS.aB,ak.aB,encS,encI,List.cons_append,List.nil_append,iQ,jl,mH,mI,mJ,mK,mM] at hK hle e2 h3;simp -implicitDefEqProofs (disch:=omega) only[go_sem,hb,ht,hA,hU,e2,hC,hG,iw,fO,hl,bB,gT]
  repeat(refine W3 ?_;(first
   |refine aZ (fP _ (by omega)) ?_
   |refine bg rfl (fI hS hp hir (by rfl) (nS x.aG) (by omega)) ?_
   |refine bg rfl (fI hS hp hir (by rfl) (Jg x.bY) (by omega)) ?_
   |refine bg rfl (fI hS hp hir (by rfl) (Uq x.aV) (by omega)) ?_
   |refine bg rfl (fI hS hp hir (by rfl) (jU x.bO.fArgs) (by omega)) ?_
   |refine bg rfl (fI hS hp hir (by rfl) (jU x.fBody.fType.fArgs) (by omega)) ?_
   |refine bg rfl (fI hS hp hir (by rfl) (EF x.fBody.fArgs) (by omega)) ?_
   |refine bg rfl (fI hS hp hir (by rfl) (FR x.fBody.aR) (by omega)) ?_);simp -implicitDefEqProofs (disch:=omega) only[go_sem,hb,ht,hA,hU,e2,hC,hG,iw,fO,hl,bB,gT])
  refine W3 ?_;exact bJ (i+1) (by omega) (mO (by omega)) (by rw[<-h3]<;>rfl) (by omega)
 ·simp -implicitDefEqProofs (disch:=omega) only[go_sem,hb]
  rw[pY (by omega),gU,List.take_of_length_le (by omega)]<;>first|rfl|exact⟨rfl,rfl⟩
theorem ND(xs:List aS):um prog 50 (xs.map aS.enc):=by
 intro k l j r p S rs hS hp hk;have hlen:=jS (f:=aS.enc) (fun x=>by simp only[au.aB,aS.aB,ak.aB,encS,encI,List.cons_append,List.nil_append,iQ,jl];omega) xs;obtain⟨rows,hr,hl⟩:∃rows,rows=xs.map aS.enc/\rows.length=xs.length:=⟨_,rfl,List.length_map _⟩;rw[<-hr] at hp hk hlen ⊢;refine aD (rs:=[.tmp 4]) zmx func50 ntmps50 rfl rfl rfl rfl rfl ?_;refine W1 ?_;refine nN zmx rfl hl rfl rfl fun i hi K gU=> ?_;simp -implicitDefEqProofs (disch:=omega) only[go_sem,hS,hp,dn,hl]
 with_reducible refine dM (fun hb=> ?_) (fun hb=> ?_)<;>have h:=hb<;>try simp only[wf_preprocess] at h
 ·have hi:i<xs.length:=by omega
  obtain⟨x,hx,hir,hK,hle,hC,hG⟩:=lX hr hi gU;simp only[au.aB,aS.aB,ak.aB,encS,encI,List.cons_append,List.nil_append,iQ,jl,mH,mI,mJ,mK,mM] at hK hle hC hG;simp -implicitDefEqProofs (disch:=omega) only[go_sem,hb,hS,hp,hC,hG,dn,hl,gT]
  repeat(refine W3 ?_;(first
   |refine aZ (fP _ (by omega)) ?_
   |refine bg rfl (nT x.aG _ (1+l) j r _ _ _ (by rw[bK];exact hS) (fF hp (by rw[hC];rfl)) (by omega)) ?_
   |refine bg rfl (Jh x.bY _ (1+l) j r _ _ _ (by rw[bK];exact hS) (fF hp (by rw[hC];rfl)) (by omega)) ?_
   |refine bg rfl (Ur x.aV _ (1+l) j r _ _ _ (by rw[bK];exact hS) (fF hp (by rw[hC];rfl)) (by omega)) ?_
   |refine bg rfl (jV x.bO.fArgs _ (1+l) j r _ _ _ (by rw[bK];exact hS) (fF hp (by rw[hC];rfl)) (by omega)) ?_
   |refine bg rfl (jV x.fBody.fType.fArgs _ (1+l) j r _ _ _ (by rw[bK];exact hS) (fF hp (by rw[hC];rfl)) (by omega)) ?_
   |refine bg rfl (EH x.fBody.fArgs _ (1+l) j r _ _ _ (by rw[bK];exact hS) (fF hp (by rw[hC];rfl)) (by omega)) ?_
   |refine bg rfl (FT x.fBody.aR _ (1+l) j r _ _ _ (by rw[bK];exact hS) (fF hp (by rw[hC];rfl)) (by omega)) ?_);simp -implicitDefEqProofs (disch:=omega) only[go_sem,hb,hS,hp,hC,hG,dn,hl,gT,lY])
  refine W3 ?_;exact bJ (i+1) (by omega) (mO (by omega)) rfl (by omega)
 ·simp -implicitDefEqProofs (disch:=omega) only[go_sem,hb]
  rw[gU,List.take_of_length_le (by omega)]<;>first|rfl|exact⟨rfl,rfl⟩
theorem RA(x:aW)(k:Int)(l j b:Nat)(S:Store)(rs:List (List (List D)))(hS:bF S (l,j)=some (.xf rs))(h1:atR rs (b+1) []=some (x.fT.map encS))(h2:atR rs (b+2) []=some (x.dh.map bf.enc))(h3:atR rs (b+3) []=some (x.aQ.map aP.enc))(h4:atR rs (b+4) []=some (x.cB.map aM.enc))(h5:atR rs (b+5) []=some (x.bX.map aS.enc))(hk:0<=k/\k+((dL (x.fT.map encS):Nat):Int)+((dL (x.dh.map bf.enc):Nat):Int)+((dL (x.aQ.map aP.enc):Nat):Int)+((dL (x.cB.map aM.enc):Nat):Int)+((dL (x.bX.map aS.enc):Nat):Int)<=4611686018427387904):dz prog 14 [.agg [.d (.s x.fName),.xp (l,j) (b+1) [],.xp (l,j) (b+2) [],.xp (l,j) (b+3) [],.xp (l,j) (b+4) [],.xp (l,j) (b+5) []],.c (.d (.i .i64 k))] S (fun res S'=>res=.c (.d (.i .i64 (k+((dL (x.fT.map encS):Nat):Int)+((dL (x.dh.map bf.enc):Nat):Int)+((dL (x.aQ.map aP.enc):Nat):Int)+((dL (x.cB.map aM.enc):Nat):Int)+((dL (x.bX.map aS.enc):Nat):Int))))/\S'=bR S (l,j) (.xf (jK (jK (jK (jK (jK (rs) (b+1) [] (lW (x.fT.map encS) (k))) (b+2) [] (lW (x.dh.map bf.enc) (k+((dL (x.fT.map encS):Nat):Int)))) (b+3) [] (lW (x.aQ.map aP.enc) (k+((dL (x.fT.map encS):Nat):Int)+((dL (x.dh.map bf.enc):Nat):Int)))) (b+4) [] (lW (x.cB.map aM.enc) (k+((dL (x.fT.map encS):Nat):Int)+((dL (x.dh.map bf.enc):Nat):Int)+((dL (x.aQ.map aP.enc):Nat):Int)))) (b+5) [] (lW (x.bX.map aS.enc) (k+((dL (x.fT.map encS):Nat):Int)+((dL (x.dh.map bf.enc):Nat):Int)+((dL (x.aQ.map aP.enc):Nat):Int)+((dL (x.cB.map aM.enc):Nat):Int)))))):=by
 have ht:∀x:Ab.Obj,bF (bR S (l,j) x) (l,j)=some x:=fun x=>eY _ _ _ _ hS;refine aD (rs:=[.tmp 4]) zmx func14 ntmps14 rfl rfl rfl rfl rfl ?_;refine W1 ?_;refine bg rfl (nS x.fT (k) (1+l) j (b+1) [] _ _ (by rw[bK];first|exact hS|exact ht _) (by first|assumption|(simp(disch:=omega) only[ne_eq,yx];assumption)) (by omega)) ?_;simp -implicitDefEqProofs (disch:=omega) only[go_sem,bB,dU];refine bg rfl (Un x.dh (k+((dL (x.fT.map encS):Nat):Int)) (1+l) j (b+2) [] _ _ (by rw[bK];first|exact hS|exact ht _) (by first|assumption|(simp(disch:=omega) only[ne_eq,yx];assumption)) (by omega)) ?_;simp -implicitDefEqProofs (disch:=omega) only[go_sem,bB,dU];refine bg rfl (Nw x.aQ (k+((dL (x.fT.map encS):Nat):Int)+((dL (x.dh.map bf.enc):Nat):Int)) (1+l) j (b+3) [] _ _ (by rw[bK];first|exact hS|exact ht _) (by first|assumption|(simp(disch:=omega) only[ne_eq,yx];assumption)) (by omega)) ?_;simp -implicitDefEqProofs (disch:=omega) only[go_sem,bB,dU];refine bg rfl (Nz x.cB (k+((dL (x.fT.map encS):Nat):Int)+((dL (x.dh.map bf.enc):Nat):Int)+((dL (x.aQ.map aP.enc):Nat):Int)) (1+l) j (b+4) [] _ _ (by rw[bK];first|exact hS|exact ht _) (by first|assumption|(simp(disch:=omega) only[ne_eq,yx];assumption)) (by omega)) ?_;simp -implicitDefEqProofs (disch:=omega) only[go_sem,bB,dU];refine bg rfl (NC x.bX (k+((dL (x.fT.map encS):Nat):Int)+((dL (x.dh.map bf.enc):Nat):Int)+((dL (x.aQ.map aP.enc):Nat):Int)+((dL (x.cB.map aM.enc):Nat):Int)) (1+l) j (b+5) [] _ _ (by rw[bK];first|exact hS|exact ht _) (by first|assumption|(simp(disch:=omega) only[ne_eq,yx];assumption)) (by omega)) ?_;simp -implicitDefEqProofs (disch:=omega) only[go_sem,bB,dU]
 try exact⟨rfl,rfl⟩
theorem GL(x:aW)(k:Int)(l j b:Nat)(S:Store)(rs:List (List (List D)))(hS:bF S (l,j)=some (.xf rs))(h1:atR rs (b+1) []=some (lW (x.fT.map encS) (k)))(h2:atR rs (b+2) []=some (lW (x.dh.map bf.enc) (k+((dL (x.fT.map encS):Nat):Int))))(h3:atR rs (b+3) []=some (lW (x.aQ.map aP.enc) (k+((dL (x.fT.map encS):Nat):Int)+((dL (x.dh.map bf.enc):Nat):Int))))(h4:atR rs (b+4) []=some (lW (x.cB.map aM.enc) (k+((dL (x.fT.map encS):Nat):Int)+((dL (x.dh.map bf.enc):Nat):Int)+((dL (x.aQ.map aP.enc):Nat):Int))))(h5:atR rs (b+5) []=some (lW (x.bX.map aS.enc) (k+((dL (x.fT.map encS):Nat):Int)+((dL (x.dh.map bf.enc):Nat):Int)+((dL (x.aQ.map aP.enc):Nat):Int)+((dL (x.cB.map aM.enc):Nat):Int))))(hk:0<=k/\k+((dL (x.fT.map encS):Nat):Int)+((dL (x.dh.map bf.enc):Nat):Int)+((dL (x.aQ.map aP.enc):Nat):Int)+((dL (x.cB.map aM.enc):Nat):Int)+((dL (x.bX.map aS.enc):Nat):Int)<=4611686018427387904):dz prog 15 [.agg [.d (.s x.fName),.xp (l,j) (b+1) [],.xp (l,j) (b+2) [],.xp (l,j) (b+3) [],.xp (l,j) (b+4) [],.xp (l,j) (b+5) []],.c (.d (.i .i64 k))] S (fun res S'=>res=.c (.d (.i .i64 (k+((dL (x.fT.map encS):Nat):Int)+((dL (x.dh.map bf.enc):Nat):Int)+((dL (x.aQ.map aP.enc):Nat):Int)+((dL (x.cB.map aM.enc):Nat):Int)+((dL (x.bX.map aS.enc):Nat):Int))))/\S'=S):=by
 refine aD (rs:=[.tmp 4]) zmx func15 ntmps15 rfl rfl rfl rfl rfl ?_;refine W1 ?_;refine bg rfl (nT x.fT (k) (1+l) j (b+1) [] _ _ (by rw[bK];first|exact hS|exact ht _) (by first|assumption|(simp(disch:=omega) only[ne_eq,yx];assumption)) (by omega)) ?_;simp -implicitDefEqProofs (disch:=omega) only[go_sem,lY];refine bg rfl (Uo x.dh (k+((dL (x.fT.map encS):Nat):Int)) (1+l) j (b+2) [] _ _ (by rw[bK];first|exact hS|exact ht _) (by first|assumption|(simp(disch:=omega) only[ne_eq,yx];assumption)) (by omega)) ?_;simp -implicitDefEqProofs (disch:=omega) only[go_sem,lY];refine bg rfl (Ny x.aQ (k+((dL (x.fT.map encS):Nat):Int)+((dL (x.dh.map bf.enc):Nat):Int)) (1+l) j (b+3) [] _ _ (by rw[bK];first|exact hS|exact ht _) (by first|assumption|(simp(disch:=omega) only[ne_eq,yx];assumption)) (by omega)) ?_;simp -implicitDefEqProofs (disch:=omega) only[go_sem,lY];refine bg rfl (NA x.cB (k+((dL (x.fT.map encS):Nat):Int)+((dL (x.dh.map bf.enc):Nat):Int)+((dL (x.aQ.map aP.enc):Nat):Int)) (1+l) j (b+4) [] _ _ (by rw[bK];first|exact hS|exact ht _) (by first|assumption|(simp(disch:=omega) only[ne_eq,yx];assumption)) (by omega)) ?_;simp -implicitDefEqProofs (disch:=omega) only[go_sem,lY];refine bg rfl (ND x.bX (k+((dL (x.fT.map encS):Nat):Int)+((dL (x.dh.map bf.enc):Nat):Int)+((dL (x.aQ.map aP.enc):Nat):Int)+((dL (x.cB.map aM.enc):Nat):Int)) (1+l) j (b+5) [] _ _ (by rw[bK];first|exact hS|exact ht _) (by first|assumption|(simp(disch:=omega) only[ne_eq,yx];assumption)) (by omega)) ?_;simp -implicitDefEqProofs (disch:=omega) only[go_sem,lY]
 try exact⟨rfl,rfl⟩
end Go.Ab
namespace Go.Proofs.YtokkjobjffhfjaaGreatDoor.fnExactParsePackage
open Go Go.Ab
theorem law(x0:List UInt8)(f0:Co [D.s x0]):dz prog 4 [.c (.d (.s x0))] [] (fun r _=>r=.c (.d (.b true))):=by
 refine aD (rs:=[.tmp 2]) zmx func4 ntmps4 rfl rfl rfl rfl rfl ?_;refine W1 ?_;refine S1 fun hb h=>?_
 have h0:x0.length<=1048576:=by omega
 have c1:=Um x0 h0;have c2:=fun n=>Qo x0 n h0;have hd:(CB x0).sz<=1048576:=al5 x0;obtain⟨X,hX⟩:∃X,X=CB x0:=⟨_,rfl⟩;obtain⟨B,hB⟩:∃B,B=Ba x0:=⟨_,rfl⟩;rw[<-hX] at hd;simp only[<-hX,<-hB] at c1 c2;have hmd:=WV X.enc X.gY.2;rw[aW.cO,aW.d9] at hmd;simp only[aW.aB,List.cons_append,List.nil_append,iQ,jl] at hmd
 have c3:aH prog 12 [.c (.d (.s x0))] (.dQ [(true,X.enc.map .d),(false,[.d (.b B)])]):=
  aH.less (c2 0) (afc fun w σ S β vs h=>ae4 h)
 simp only[aW.cv,aW.aB,List.cons_append,List.nil_append,List.map_cons,List.map_nil] at c1 c3;refine aZ c1 ?_;refine W1 ?_;refine bg rfl (dz.own (mk:=fun cs=>.dQ ((true,cs)::[C.d (.b B)].map fun x=>(false,[x]))) (r:=X.enc) (acs [C.d (.b B)] rfl) X.gY.1 (fun n=>c2 n)) ?_;simp -implicitDefEqProofs (disch:=omega) only[go_sem,aW.aB,List.cons_append,List.nil_append,List.map_cons,List.map_nil,Kk,aco,Lg];refine bg rfl (dz.lend (k:=(0,1)) rfl (acu rfl) (KO X X (by omega))) ?_;simp -implicitDefEqProofs (disch:=omega) only[go_sem,aY rfl,Bool.not_true];refine bg rfl (RA X 1 0 1 0 _ _ rfl rfl rfl rfl rfl rfl ⟨by omega,by omega⟩) ?_;refine W1 ?_;refine bg rfl (GL X 1 0 1 0 _ _ rfl rfl rfl rfl rfl rfl ⟨by omega,by omega⟩) ?_;simp -implicitDefEqProofs (disch:=omega) only[go_sem,lY,Bool.not_true];refine aZ c3 ?_;refine W1 ?_;refine aZ (KO X X (by omega)) ?_;simp -implicitDefEqProofs (disch:=omega) only[go_sem,aY rfl,Bool.not_true];refine bg rfl (GL X 1 0 1 0 _ _ rfl rfl rfl rfl rfl rfl ⟨by omega,by omega⟩) ?_;simp -implicitDefEqProofs (disch:=omega) only[go_sem,lY,Bool.not_true]
end Go.Proofs.YtokkjobjffhfjaaGreatDoor.fnExactParsePackage
namespace Go.Ab
theorem Us{H:Type}{enc:TypeId×Value->H}{P:Program}{w:World}{base:Nat}{sp:Nat->Bool}{held:Bool}{fuel n:Nat}{t e:TypeId}{k:IntKind}{cs:List Value}{ns:List Int}{p:List MemPlace}
 (ht:P.underlying t=some (.array n e)) (he:P.underlying e=some (.int k)) (ce:P.cellsOf e=1) (ct:P.cellsOf t=n)
 (h:DataW.trod enc P w base sp held fuel t cs=some (.agg (ns.map fun z=>.lit (.int k z)),p)):cs=ns.map (Value.int k ·):=by
 obtain⟨xs,m,_,ex,hlen,hl,hel⟩:=DataW.trod_array ht h;rw[ct] at hlen;have e3:=DataW.agg.inj (Prod.mk.inj ex).1
 have hns:ns.length=n:=by have:=congrArg List.length e3;simpa [hl] using this
 refine List.ext_getElem (by rw[hlen,List.length_map,hns]) fun i h1 h2=> ?_;have k0:=hel i (by omega);rw[ce,Nat.mul_one] at k0
 have hd:(cs.drop i).take 1=[cs[i]]:=by
  rw[List.drop_eq_getElem_cons h1];rfl
 rw[hd,List.getElem?_eq_getElem (by omega)] at k0;obtain⟨z,a,b,_⟩:=DataW.trod_int he k0
 have e4:(ns.map fun z=>(DataW.lit (Lit.int k z):DataW H))[i]'(by rw[List.length_map];omega)=(xs.map (·.1))[i]'(by rw[List.length_map];omega):=by simp only[e3]
 rw[List.getElem_map,List.getElem_map,b] at e4;simp only[DataW.lit.injEq,Lit.int.injEq,true_and] at e4;rw[List.getElem_map,e4];simpa using a
theorem KU{P:Program}{w:World}{n:String}{g:Nat}{cs:Array Value}(hg:P.globalNamed n=some g)(h:w.var? P n=some cs):∃t fz,w.heap[g]? =some (.cells cs t fz):=by
 unfold World.var? at h;rw[hg] at h;simp only[Option.bind_some] at h;split at h
 ·rename_i c t fz hh;cases h;exact⟨t,fz,hh⟩
 ·cases h
open Go.ChangeShapes Go.RowKit
theorem gES:prog.globalNamed "strconv.ErrSyntax" =some 3:=by kernel_rfl
theorem al6:(prog.globals[3]?).map (·.type)=some 239:=by kernel_rfl
theorem gER:prog.globalNamed "strconv.ErrRange" =some 4:=by kernel_rfl
theorem al7:(prog.globals[4]?).map (·.type)=some 239:=by kernel_rfl
theorem cellsE:prog.cellsOf 314=1:=by kernel_rfl
theorem cellsS:prog.cellsOf 9=1:=by kernel_rfl
theorem akc: "*" ++ "errors.errorString" = "*errors.errorString" :=by decide
theorem anU(u:TypeId)(h:prog.typeName? 3 u=some "*errors.errorString"):u=312:=
 typeName_ptr_named (nm:= "errors.errorString") (by rw[akc];kernel_rfl) (by kernel_rfl) (by decide) u (by rw[akc];exact h)
theorem Ya{W:World}{r:List (String×DataW Unit)}(hr:(r.all fun x=>x.2.handleName?.isNone)=true)
 (h0:laidMetH prog (("math/bits.deBruijn32tab",YtokkjobjffhfjaaGreatDoor.Rows.laid_math_bits_deBruijn32tab)::("math/bits.deBruijn64tab",YtokkjobjffhfjaaGreatDoor.Rows.laid_math_bits_deBruijn64tab)::("internal/strconv.uint64pow10",YtokkjobjffhfjaaGreatDoor.Rows.laid_internal_strconv_uint64pow10)::("strconv.ErrRange",YtokkjobjffhfjaaGreatDoor.Rows.laid_strconv_ErrRange)::("strconv.ErrSyntax",YtokkjobjffhfjaaGreatDoor.Rows.laid_strconv_ErrSyntax)::r) W):nD W (kZ W):=by
 rw[MakeChecks.laidMetH_plain _ _ _ (by
  rw[List.all_cons,List.all_cons,List.all_cons,List.all_cons,List.all_cons,hr];kernel_rfl)] at h0
 have hR:=h0.tail.tail.tail;have hS:=hR.tail;obtain⟨a1,s1,hv1,_,_,_⟩:=laid_sentinel hR gER al7 underlying239 anU underlying312 underlying314 rfl rfl underlying9 cellsE cellsS;obtain⟨a2,s2,hv2,_,_,_⟩:=laid_sentinel hS gES al6 underlying239 anU underlying312 underlying314 rfl rfl underlying9 cellsE cellsS;obtain⟨t1,F4,IV⟩:=KU gER hv1;obtain⟨t2,fz2,x9⟩:=KU gES hv2;obtain⟨ps,⟨_,_,_,_,_,_,_,_,_,_,⟨_,_,_,_,_,_,_,_,_,_,⟨g,t,cs,fuel,p,q,hg,ht,hv,hd,_,_⟩,_⟩,_⟩,_,_⟩:=h0
 have hn:prog.globalNamed "internal/strconv.uint64pow10" =some 5:=by kernel_rfl
 obtain rfl:=Option.some.inj (hn.symm.trans hg);obtain rfl:=Option.some.inj ((show(prog.globals[5]?).map (·.type)=some 303 by kernel_rfl).symm.trans ht)
 have hl:(YtokkjobjffhfjaaGreatDoor.Rows.laid_internal_strconv_uint64pow10:DataW Unit)=.agg (((List.range 20).map fun i=>((10^i:Nat):Int)).map fun z=>.lit (.int .u64 z)):=by kernel_rfl
 rw[hl] at hd;have e:=Us underlying303 underlying282 (by kernel_rfl) (by kernel_rfl) hd;obtain⟨t',fz,hh⟩:=KU hg hv;intro g' p' hm
 have fast:∀{b:Nat}{c:Array Value}{t:TypeId}{fz:Nat×Nat},W.heap[b]? =some (.cells c t fz)->c.size<=kZ W b:=fun {b c t fz} hb=>by
  unfold kZ;rw[hb];exact Nat.le_refl _
 rcases List.mem_cons.1 hm with hm|hm
 ·cases hm;refine⟨cs,t',fz,hh,?_,fast hh⟩;show cs.toList=_;rw[e,List.map_map];rfl
 rcases List.mem_cons.1 hm with hm|hm
 ·cases hm;exact⟨_,t1,F4,IV,⟨_,_,rfl⟩,fast IV⟩
 ·have hm':=List.eq_of_mem_singleton hm;cases hm';exact⟨_,t2,fz2,x9,⟨_,_,rfl⟩,fast x9⟩
theorem anV{P:Program}{n:Nat}{t:TypeId}{ds:List D}(h:WT P n t ds):∃m,n=m+1:=by
 cases n with
 |zero=>exact h.elim
 |succ m=>exact⟨m,rfl⟩
theorem agr{P:Program}{n:Nat}{t:TypeId}{ds:List D}(ht:P.underlying t=some .string)(h:WT P n t ds):∃l,ds=[.s l]:=by
 obtain⟨m,rfl⟩:=anV h;simp only[WT,ht] at h;exact⟨h.choose,h.choose_spec.1⟩
theorem aaA{P:Program}{W:TypeId->List D->Prop}(hW:∀t ds,W t ds->Co ds):∀(fs:List Field)(ds:List D),WTF P W fs ds->Co ds
 |[],ds,h=>by
  have h:ds=[]:=h;rw[h];exact D5
 |f::fs,ds,h=>by
  obtain⟨a,b,rfl,_,h1,h2⟩:=h;exact YM.2 ⟨hW _ _ h1,aaA hW fs b h2⟩
theorem Yb{P:Program}:∀(n:Nat)(t:TypeId)(ds:List D),WT P n t ds->Co ds
 |0,t,ds,h=>h.elim
 |n+1,t,ds,h=>by
  simp only[WT] at h;split at h
  ·obtain⟨b,rfl⟩:=h;exact EO.2 ⟨.b _,D5⟩
  ·obtain⟨b,rfl,_⟩:=h;exact EO.2 ⟨.i _ _,D5⟩
  ·obtain⟨l,rfl,hl⟩:=h;exact EO.2 ⟨.s _ hl,D5⟩
  ·obtain⟨es,rfl,hl,hh⟩:=h;exact EO.2 ⟨.sl _ hl fun e he d hd=>Yb n _ e (hh e he).2 d hd,D5⟩
  ·exact aaA (Yb n) _ _ h
  ·exact h.elim
end Go.Ab