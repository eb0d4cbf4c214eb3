/-
  SEVERAL TEXTS IN ONE (merged by program): contracts and models, each with its own heading.
-/
import Derived.Test.YtlmhknhlmicmeaaGreatDoorPartRobD
import Derived.Shelf.Strconv.Atoi
import Derived.Shelf.LaysC
import Derived.Shelf.Strconv.AtoiErr
import Derived.Shelf.Strconv.ErrVar
import Derived.Test.YtlmhknhlmicmeaaGreatDoorProg
import Derived.Lib.AppendIntMem
import Derived.Lib.AtoiBound
import Derived.WalkKit
import Derived.ProofKit
import Derived.Lib.AppendZeros
import Derived.Laws.Cover3
set_option linter.unusedSimpArgs false
set_option linter.unusedVariables false
set_option maxRecDepth 4000
namespace Go.Ab
def uP(s:List UInt8):Prop:=s.head? =some 45
instance (s:List UInt8):Decidable (uP s):=inferInstanceAs (Decidable (_=_))
def dV(s:List UInt8):List UInt8:=if uP s then s.tail else s
theorem wO:∀(l:List UInt8) (acc v:Nat),Lib.decFrom acc l=some v→∀b∈l,48≤b.toNat∧b.toNat≤57
 |[],_,_,_,b,hb=>by cases hb
 |a::l,acc,v,h,b,hb=>by
  rw[Lib.decFrom] at h
  cases hd:Lib.digitVal a with
  |none=>rw[hd] at h;cases h
  |some d=>
   rw[hd] at h
   rcases List.mem_cons.1 hb with rfl|hb
   ·unfold Lib.digitVal at hd
    split at hd
    ·assumption
    ·cases hd
   ·exact wO l _ v h b hb
theorem Py{b:UInt8}(h:48≤b.toNat∧b.toNat≤57):Lib.digitVal b=some (b.toNat-48):=if_pos h
theorem decFrom_take{t:List UInt8}{i acc:Nat}(hi:i<t.length)(h:Lib.decFrom 0 (t.take i)=some acc)(hd:48≤t[i].toNat∧t[i].toNat≤57):Lib.decFrom 0 (t.take (i+1))=some (acc*10+(t[i].toNat-48)):=by
 rw[List.take_succ_eq_append_getElem hi,yO,h,Py hd];rfl
theorem Dm{s:List UInt8}{m:Int}(h:fC s=some m):(uP s↔m<0)∧dV s=Lib.decDigits m.natAbs∧1≤(dV s).length∧(dV s).length≤12:=by
 obtain⟨hr,he⟩:=HV h
 have hl:(Lib.decDigits m.natAbs).length≤12:=Aw 11 _ (by omega)
 obtain⟨b,r,e,b1,b2⟩:=vI m.natAbs
 have hl1:1≤(Lib.decDigits m.natAbs).length:=by rw[e];simp
 unfold Lib.itoa at he
 by_cases hn:m<0
 ·rw[if_pos hn] at he
  have hs:uP s:=by rw[←he];rfl
  have hb:dV s=Lib.decDigits m.natAbs:=by unfold dV;rw[if_pos hs,←he];rfl
  exact⟨⟨fun _=>hn,fun _=>hs⟩,hb,by rw[hb];exact⟨hl1,hl⟩⟩
 ·rw[if_neg hn,show m.toNat=m.natAbs by omega] at he
  have hs:¬uP s:=fun x=>by
   rw[←he,e] at x
   unfold uP at x
   simp only[List.head?_cons,Option.some.injEq] at x
   rw[x] at b1;revert b1;decide
  have hb:dV s=Lib.decDigits m.natAbs:=by unfold dV;rw[if_neg hs,←he]
  exact⟨⟨fun x=>(hs x).elim,fun x=>(hn x).elim⟩,hb,by rw[hb];exact⟨hl1,hl⟩⟩
theorem sF{s:List UInt8}(h:(dV s).length<1∨12<(dV s).length):fC s=none:=by
 cases hr:fC s with
 |none=>rfl
 |some m=>have:=(Dm hr).2.2;omega
theorem zx{s:List UInt8}{i:Nat}(hi:i<(dV s).length)(h:¬(48≤(dV s)[i].toNat∧(dV s)[i].toNat≤57)):fC s=none:=by
 cases hr:fC s with
 |none=>rfl
 |some m=>
  have hk:=(Dm hr).2.1
  have hd:=vH m.natAbs
  rw[←hk] at hd
  exact absurd (wO _ _ _ hd _ (List.getElem_mem hi)) h
theorem J4{s:List UInt8}{v:Nat}(hv:Lib.decFrom 0 (dV s)=some v)(hb:v≤999999999999):fC s=if Lib.itoa (if uP s then -(v:Int) else v)=s then some (if uP s then -(v:Int) else v) else none:=by
 obtain⟨z,hz⟩:∃z,z=(if uP s then -(v:Int) else v):=⟨_,rfl⟩
 have hzb: -999999999999≤z∧z≤999999999999:=by rw[hz];split<;>omega
 rw[←hz]
 by_cases h:Lib.itoa z=s
 ·rw[if_pos h]
  conv=>lhs;rw[←h]
  exact Hz hzb
 ·rw[if_neg h]
  cases hr:fC s with
  |none=>rfl
  |some m=>
   have hk:=Dm hr
   have hd:=vH m.natAbs
   rw[←hk.2.1,hv] at hd
   have hm:v=m.natAbs:=by simpa using hd
   have:z=m:=by
    rw[hz]
    by_cases hn:uP s
    ·have:=hk.1.1 hn
     rw[if_pos hn];omega
    ·rw[if_neg hn]
     have:¬m<0:=fun x=>hn (hk.1.2 x)
     omega
   rw[this] at h
   exact absurd (HV hr).2 h
end Go.Ab
namespace Go.Proofs.YtlmhknhlmicmeaaGreatDoor
open Go Go.Ab
theorem Pz(s:List UInt8)(hs:s.length≤1073741824):aI Tryz.prog 277 [.c (.d (.s s)),.c (.d (.i .i64 12))] (.d9 [(false,[.d (.i .i64 ((fC s).getD 0))]),(false,[.d (.b (fC s).isSome)])]):=fun S=>by
 have d0:fC s=none→V.d9 [(false,[.d (.i .i64 0)]),(false,[.d (.b false)])]=.d9 [(false,[.d (.i .i64 ((fC s).getD 0))]),(false,[.d (.b (fC s).isSome)])]:=fun e=>by rw[e];rfl
 refine aD (rs:=[.tmp 4,.tmp 5]) Tryz.checked.mixed Tryz.func277 Tryz.ntmps277 rfl rfl rfl rfl rfl ?_
 simp -implicitDefEqProofs (disch:=omega) only[go_sem]
 with_reducible refine aA (fun hb=> ?_) (fun hb=> ?_)<;>have h:=hb<;>(try simp only[wf_preprocess] at h)<;>simp -implicitDefEqProofs (disch:=omega) only[go_sem,hb]<;>(repeat(with_reducible refine And.intro ?_ ?_;focus first|omega|rfl|assumption|exact⟨_,rfl,rfl⟩|(simp;omega)|(simp;done)))
 ·have hpos:0<s.length:=by omega
  have h0:(s.getD 0 0).toNat=45↔uP s:=by
   cases s with
   |nil=>simp at hpos
   |cons b s=>
    unfold uP
    simp only[List.getD_cons_zero,List.head?_cons,Option.some.injEq]
    constructor
    ·intro e;exact UInt8.toNat.inj e
    ·intro e;rw[e];rfl
  (repeat(with_reducible refine And.intro ?_ ?_;focus first|omega|rfl|assumption|exact⟨_,rfl,rfl⟩|(simp;omega)|(simp;done)))
  with_reducible refine aA (fun hb=> ?_) (fun hb=> ?_)<;>have h:=hb<;>(try simp only[wf_preprocess] at h)<;>simp -implicitDefEqProofs (disch:=omega) only[go_sem,hb]<;>(repeat(with_reducible refine And.intro ?_ ?_;focus first|omega|rfl|assumption|exact⟨_,rfl,rfl⟩|(simp;omega)|(simp;done)))
  ·have hn:uP s:=h0.1 (by omega)
   have hb:dV s=(s.take s.length).drop 1:=by unfold dV;rw[if_pos hn,List.take_length,List.drop_one]
   (repeat(with_reducible refine And.intro ?_ ?_;focus first|omega|rfl|assumption|exact⟨_,rfl,rfl⟩|(simp;omega)|(simp;done)))
   rw[←hb]
   have hbl:(dV s).length≤s.length:=by rw[hb];simp
   with_reducible refine aA (fun hb=> ?_) (fun hb=> ?_)<;>have h:=hb<;>(try simp only[wf_preprocess] at h)<;>simp -implicitDefEqProofs (disch:=omega) only[go_sem,hb]<;>(repeat(with_reducible refine And.intro ?_ ?_;focus first|omega|rfl|assumption|exact⟨_,rfl,rfl⟩|(simp;omega)|(simp;done)))
   ·exact d0 (sF (by omega))
   with_reducible refine aA (fun hb=> ?_) (fun hb=> ?_)<;>have h:=hb<;>(try simp only[wf_preprocess] at h)<;>simp -implicitDefEqProofs (disch:=omega) only[go_sem,hb]<;>(repeat(with_reducible refine And.intro ?_ ?_;focus first|omega|rfl|assumption|exact⟨_,rfl,rfl⟩|(simp;omega)|(simp;done)))
   ·exact d0 (sF (by omega))
   have hl1:1≤(dV s).length:=by omega
   have hl12:(dV s).length≤12:=by omega
   refine aZ (ι:=Nat×Nat) Tryz.checked.mixed rfl [0,6,7,8,9] (fun y=>[.c (.d (.s s)),.c (.d (.b true)),.c (.d (.s (dV s))),.c (.d (.i .i64 y.2)),.c (.d (.i .i64 y.1))]) (fun _=>[]::S)
    (fun y=>y.1≤(dV s).length∧Lib.decFrom 0 ((dV s).take y.1)=some y.2∧y.2<10^y.1) (fun y=>(dV s).length-y.1) (0,0) rfl rfl ⟨Nat.zero_le _,rfl,by decide⟩ ?_
   rintro⟨i,acc⟩ ⟨p1,p2,p3⟩
   simp only at p1 p2 p3
   have p4:10^i≤10^12:=Nat.pow_le_pow_right (by decide) (by omega)
   simp -implicitDefEqProofs (disch:=omega) only[go_sem]
   with_reducible refine aA (fun hb=> ?_) (fun hb=> ?_)<;>have h:=hb<;>(try simp only[wf_preprocess] at h)<;>simp -implicitDefEqProofs (disch:=omega) only[go_sem,hb]<;>(repeat(with_reducible refine And.intro ?_ ?_;focus first|omega|rfl|assumption|exact⟨_,rfl,rfl⟩|(simp;omega)|(simp;done)))
   ·have hi:i<(dV s).length:=by omega
    have e:(dV s).getD i 0=(dV s)[i]:=by simp[List.getD,hi]
    have hbb:=(dV s)[i].toNat_lt
    (repeat(with_reducible refine And.intro ?_ ?_;focus first|omega|rfl|assumption|exact⟨_,rfl,rfl⟩|(simp;omega)|(simp;done)))
    simp only[e]
    with_reducible refine aA (fun hb=> ?_) (fun hb=> ?_)<;>have h:=hb<;>(try simp only[wf_preprocess] at h)<;>simp -implicitDefEqProofs (disch:=omega) only[go_sem,hb]<;>(repeat(with_reducible refine And.intro ?_ ?_;focus first|omega|rfl|assumption|exact⟨_,rfl,rfl⟩|(simp;omega)|(simp;done)))
    ·exact d0 (zx hi (by omega))
    (repeat(with_reducible refine And.intro ?_ ?_;focus first|omega|rfl|assumption|exact⟨_,rfl,rfl⟩|(simp;omega)|(simp;done)))
    simp only[e]
    with_reducible refine aA (fun hb=> ?_) (fun hb=> ?_)<;>have h:=hb<;>(try simp only[wf_preprocess] at h)<;>simp -implicitDefEqProofs (disch:=omega) only[go_sem,hb]<;>(repeat(with_reducible refine And.intro ?_ ?_;focus first|omega|rfl|assumption|exact⟨_,rfl,rfl⟩|(simp;omega)|(simp;done)))
    ·exact d0 (zx hi (by omega))
    have hdg:48≤(dV s)[i].toNat∧(dV s)[i].toNat≤57:=by omega
    have ht:=decFrom_take hi p2 hdg
    have e2:(10:Int)*acc+(((dV s)[i].toNat:Int)-48)=((acc*10+((dV s)[i].toNat-48):Nat):Int):=by omega
    (repeat(with_reducible refine And.intro ?_ ?_;focus first|omega|rfl|assumption|exact⟨_,rfl,rfl⟩|(simp;omega)|(simp;done)))
    simp -implicitDefEqProofs (disch:=omega) only[go_sem,wrap_u8,e]
    rw[e2]
    exact bL (i+1,acc*10+((dV s)[i].toNat-48)) (by simp only;omega) rfl rfl ⟨by simp only;omega,ht,by simp only[Nat.pow_succ];omega⟩
   ·have hi:i=(dV s).length:=by omega
    have hv:Lib.decFrom 0 (dV s)=some acc:=by rw[hi,List.take_length] at p2;exact p2
    have BO:=J4 hv (by omega)
    rw[if_pos hn] at BO
    rw[show(0:Int)-acc= -(acc:Int) by omega]
    refine au (sZ (-(acc:Int)) (by omega) (by omega)) ?_
    simp -implicitDefEqProofs (disch:=omega) only[go_sem]
    with_reducible refine aA (fun hb=> ?_) (fun hb=> ?_)<;>have h:=hb<;>(try simp only[wf_preprocess] at h)<;>simp -implicitDefEqProofs (disch:=omega) only[go_sem,hb]<;>(repeat(with_reducible refine And.intro ?_ ?_;focus first|omega|rfl|assumption|exact⟨_,rfl,rfl⟩|(simp;omega)|(simp;done)))
    ·exact d0 (BO.trans (if_neg h))
    ·rw[BO.trans (if_pos h)];rfl
  ·have hn:¬uP s:=fun x=>h (by rw[h0.2 x];rfl)
   have hbs:dV s=s:=by unfold dV;rw[if_neg hn]
   have hbl:(dV s).length=s.length:=by rw[hbs]
   with_reducible refine aA (fun hb=> ?_) (fun hb=> ?_)<;>have h:=hb<;>(try simp only[wf_preprocess] at h)<;>simp -implicitDefEqProofs (disch:=omega) only[go_sem,hb]<;>(repeat(with_reducible refine And.intro ?_ ?_;focus first|omega|rfl|assumption|exact⟨_,rfl,rfl⟩|(simp;omega)|(simp;done)))
   ·exact d0 (sF (by omega))
   with_reducible refine aA (fun hb=> ?_) (fun hb=> ?_)<;>have h:=hb<;>(try simp only[wf_preprocess] at h)<;>simp -implicitDefEqProofs (disch:=omega) only[go_sem,hb]<;>(repeat(with_reducible refine And.intro ?_ ?_;focus first|omega|rfl|assumption|exact⟨_,rfl,rfl⟩|(simp;omega)|(simp;done)))
   ·exact d0 (sF (by omega))
   have hl1:1≤(dV s).length:=by omega
   have hl12:(dV s).length≤12:=by omega
   refine aZ (ι:=Nat×Nat) Tryz.checked.mixed rfl [0,6,7,8,9] (fun y=>[.c (.d (.s s)),.c (.d (.b false)),.c (.d (.s (dV s))),.c (.d (.i .i64 y.2)),.c (.d (.i .i64 y.1))]) (fun _=>[]::S)
    (fun y=>y.1≤(dV s).length∧Lib.decFrom 0 ((dV s).take y.1)=some y.2∧y.2<10^y.1) (fun y=>(dV s).length-y.1) (0,0) (by rw[hbs];rfl) rfl ⟨Nat.zero_le _,rfl,by decide⟩ ?_
   rintro⟨i,acc⟩ ⟨p1,p2,p3⟩
   simp only at p1 p2 p3
   have p4:10^i≤10^12:=Nat.pow_le_pow_right (by decide) (by omega)
   simp -implicitDefEqProofs (disch:=omega) only[go_sem]
   with_reducible refine aA (fun hb=> ?_) (fun hb=> ?_)<;>have h:=hb<;>(try simp only[wf_preprocess] at h)<;>simp -implicitDefEqProofs (disch:=omega) only[go_sem,hb]<;>(repeat(with_reducible refine And.intro ?_ ?_;focus first|omega|rfl|assumption|exact⟨_,rfl,rfl⟩|(simp;omega)|(simp;done)))
   ·have hi:i<(dV s).length:=by omega
    have e:(dV s).getD i 0=(dV s)[i]:=by simp[List.getD,hi]
    have hbb:=(dV s)[i].toNat_lt
    (repeat(with_reducible refine And.intro ?_ ?_;focus first|omega|rfl|assumption|exact⟨_,rfl,rfl⟩|(simp;omega)|(simp;done)))
    simp only[e]
    with_reducible refine aA (fun hb=> ?_) (fun hb=> ?_)<;>have h:=hb<;>(try simp only[wf_preprocess] at h)<;>simp -implicitDefEqProofs (disch:=omega) only[go_sem,hb]<;>(repeat(with_reducible refine And.intro ?_ ?_;focus first|omega|rfl|assumption|exact⟨_,rfl,rfl⟩|(simp;omega)|(simp;done)))
    ·exact d0 (zx hi (by omega))
    (repeat(with_reducible refine And.intro ?_ ?_;focus first|omega|rfl|assumption|exact⟨_,rfl,rfl⟩|(simp;omega)|(simp;done)))
    simp only[e]
    with_reducible refine aA (fun hb=> ?_) (fun hb=> ?_)<;>have h:=hb<;>(try simp only[wf_preprocess] at h)<;>simp -implicitDefEqProofs (disch:=omega) only[go_sem,hb]<;>(repeat(with_reducible refine And.intro ?_ ?_;focus first|omega|rfl|assumption|exact⟨_,rfl,rfl⟩|(simp;omega)|(simp;done)))
    ·exact d0 (zx hi (by omega))
    have hdg:48≤(dV s)[i].toNat∧(dV s)[i].toNat≤57:=by omega
    have ht:=decFrom_take hi p2 hdg
    have e2:(10:Int)*acc+(((dV s)[i].toNat:Int)-48)=((acc*10+((dV s)[i].toNat-48):Nat):Int):=by omega
    (repeat(with_reducible refine And.intro ?_ ?_;focus first|omega|rfl|assumption|exact⟨_,rfl,rfl⟩|(simp;omega)|(simp;done)))
    simp -implicitDefEqProofs (disch:=omega) only[go_sem,wrap_u8,e]
    rw[e2]
    exact bL (i+1,acc*10+((dV s)[i].toNat-48)) (by simp only;omega) rfl rfl ⟨by simp only;omega,ht,by simp only[Nat.pow_succ];omega⟩
   ·have hi:i=(dV s).length:=by omega
    have hv:Lib.decFrom 0 (dV s)=some acc:=by rw[hi,List.take_length] at p2;exact p2
    have BO:=J4 hv (by omega)
    rw[if_neg hn] at BO
    refine au (sZ ((acc:Int)) (by omega) (by omega)) ?_
    simp -implicitDefEqProofs (disch:=omega) only[go_sem]
    with_reducible refine aA (fun hb=> ?_) (fun hb=> ?_)<;>have h:=hb<;>(try simp only[wf_preprocess] at h)<;>simp -implicitDefEqProofs (disch:=omega) only[go_sem,hb]<;>(repeat(with_reducible refine And.intro ?_ ?_;focus first|omega|rfl|assumption|exact⟨_,rfl,rfl⟩|(simp;omega)|(simp;done)))
    ·exact d0 (BO.trans (if_neg h))
    ·rw[BO.trans (if_pos h)];rfl
 ·have hs0:s=[]:=List.eq_nil_of_length_eq_zero (by omega)
  have hb0:(dV s).length=0:=by rw[hs0];rfl
  with_reducible refine aA (fun hb=> ?_) (fun hb=> ?_)<;>have h:=hb<;>(try simp only[wf_preprocess] at h)<;>simp -implicitDefEqProofs (disch:=omega) only[go_sem,hb]<;>(repeat(with_reducible refine And.intro ?_ ?_;focus first|omega|rfl|assumption|exact⟨_,rfl,rfl⟩|(simp;omega)|(simp;done)))
  ·exact d0 (sF (by omega))
  ·omega
theorem HZ(s:List UInt8)(hs:s.length≤1073741824):aI Tryz.prog 197 [.c (.d (.s s))] (.d9 [(false,[.d (.i .i64 ((fC s).getD 0))]),(false,[.d (.b (fC s).isSome)])]):=fun S=>by
 refine aD (rs:=[.tmp 2,.tmp 3]) Tryz.checked.mixed Tryz.func197 Tryz.ntmps197 rfl rfl rfl rfl rfl ?_
 simp -implicitDefEqProofs (disch:=omega) only[go_sem]
 refine au (Pz s hs) ?_
 simp -implicitDefEqProofs (disch:=omega) only[go_sem]<;>(repeat(with_reducible refine And.intro ?_ ?_;focus first|omega|rfl|assumption|exact⟨_,rfl,rfl⟩|(simp;omega)|(simp;done)))
end Go.Proofs.YtlmhknhlmicmeaaGreatDoor
namespace Go.Ab
theorem VB{x:ah}{i:Nat}(hi:i<x.ak.length)(h:x.sz≤4194304):x.ak[i].sz≤4194304:=by
 have:=kg (List.getElem_mem hi)
 rw[jP,l6] at h
 omega
theorem VD{x:ah}(h:x.sz≤4194304):x.aU.length≤4194304∧x.ak.length≤4194304:=by
 rw[jP] at h
 omega
end Go.Ab
namespace Go.Proofs.YtlmhknhlmicmeaaGreatDoor
open Go Go.Ab
theorem wP:∀n:Nat,∀x:ah,SizeOf.sizeOf x<n→∀y:ah,x.sz≤4194304→aI Tryz.prog 107 [x.v,y.v] (.c (.d (.b (dec (x=y)))))
 |0=>fun x h=>by omega
 |n+1=>by
  have ih:=wP n
  intro x hn y hsz S
  have GL:=ah.kV x
  have hb:=VD hsz
  refine aD (rs:=[.tmp 4]) Tryz.checked.mixed Tryz.func107 Tryz.ntmps107 rfl rfl rfl rfl rfl ?_
  simp -implicitDefEqProofs (disch:=omega) only[go_sem]
  with_reducible refine aA (fun hb=> ?_) (fun hb=> ?_)<;>have h:=hb<;>(try simp only[wf_preprocess] at h)<;>simp -implicitDefEqProofs (disch:=omega) only[go_sem,hb]<;>(repeat(with_reducible refine And.intro ?_ ?_;focus first|omega|rfl|assumption|exact⟨_,rfl,rfl⟩|(simp;omega)|(simp;done)))
  ·exact aK (aQ (fun e=>h (by rw[e]))).symm
  have h1:=h
  with_reducible refine aA (fun hb=> ?_) (fun hb=> ?_)<;>have h:=hb<;>(try simp only[wf_preprocess] at h)<;>simp -implicitDefEqProofs (disch:=omega) only[go_sem,hb]<;>(repeat(with_reducible refine And.intro ?_ ?_;focus first|omega|rfl|assumption|exact⟨_,rfl,rfl⟩|(simp;omega)|(simp;done)))
  ·exact aK (aQ (fun e=>h (by rw[e]))).symm
  have hl:x.ak.length=y.ak.length:=by omega
  refine aZ (ι:=Nat) Tryz.checked.mixed rfl [2,3,5] (fun i=>[.c (.ptr (0,0) 0),.c (.ptr (0,1) 0),.c (.d (.i .i64 i))]) (fun i=>[.box [.d (.s x.aU),.d (.sl (x.ak.map ah.enc))],.box [.d (.s y.aU),.d (.sl (y.ak.map ah.enc))]]::S)
   (fun i=>i≤x.ak.length∧∀j,j<i→x.ak[j]? =y.ak[j]?) (fun i=>x.ak.length-i) 0 rfl rfl ⟨Nat.zero_le _,fun j h=>by omega⟩ ?_
  rintro i ⟨p1,p2⟩
  simp -implicitDefEqProofs (disch:=omega) only[go_sem,ah.aG]
  with_reducible refine aA (fun hb=> ?_) (fun hb=> ?_)<;>have h:=hb<;>(try simp only[wf_preprocess] at h)<;>simp -implicitDefEqProofs (disch:=omega) only[go_sem,hb]<;>(repeat(with_reducible refine And.intro ?_ ?_;focus first|omega|rfl|assumption|exact⟨_,rfl,rfl⟩|(simp;omega)|(simp;done)))
  ·have hi:i<x.ak.length:=by omega
   have hi':i<y.ak.length:=by omega
   (repeat(with_reducible refine And.intro ?_ ?_;focus first|omega|rfl|assumption|exact⟨_,rfl,rfl⟩|(simp;omega)|(simp;done)))
   refine au (ih x.ak[i] (by have:=List.sizeOf_lt_of_mem (List.getElem_mem hi);omega) y.ak[i] (VB hi hsz)) ?_
   simp -implicitDefEqProofs (disch:=omega) only[go_sem]
   with_reducible refine aA (fun hb=> ?_) (fun hb=> ?_)<;>have h:=hb<;>(try simp only[wf_preprocess] at h)<;>simp -implicitDefEqProofs (disch:=omega) only[go_sem,hb]<;>(repeat(with_reducible refine And.intro ?_ ?_;focus first|omega|rfl|assumption|exact⟨_,rfl,rfl⟩|(simp;omega)|(simp;done)))
   ·exact aK (aQ (fun e=>h (by simp only[e]))).symm
   refine bL (i+1) (by omega) rfl rfl ⟨by omega,fun j hj=> ?_⟩
   by_cases e:j=i
   ·subst e
    rw[List.getElem?_eq_getElem hi,List.getElem?_eq_getElem hi',h]
   ·exact p2 j (by omega)
  ·have hi:i=x.ak.length:=by omega
   refine aK (bK ?_).symm
   refine ah.ext (by first|exact h1|(simp at h1;exact h1)) (List.ext_getElem? fun j=> ?_)
   by_cases hj:j<i
   ·exact p2 j hj
   ·rw[List.getElem?_eq_none (by omega),List.getElem?_eq_none (by omega)]
theorem Eo(x y:ah)(h:x.sz≤4194304):aI Tryz.prog 107 [x.v,y.v] (.c (.d (.b (dec (x=y))))):=wP _ x (Nat.lt_succ_self _) y h
theorem wQ:∀n:Nat,(∀x:ah,SizeOf.sizeOf x<n→∀y:ah,x.sz≤4194304→aI Tryz.prog 98 [x.v,y.v] (.c (.d (.b (dec (x=y))))))∧
 (∀xs:List ah,SizeOf.sizeOf xs<n→∀ys:List ah,xs.length≤4194304→(∀t∈xs,t.sz≤4194304)→aI Tryz.prog 189 [.c (.d (.sl (xs.map ah.enc))),.c (.d (.sl (ys.map ah.enc))),.c (.fn 98 [])] (.c (.d (.b (dec (xs=ys))))))
 |0=>⟨fun x h=>by omega,fun x h=>by omega⟩
 |n+1=>by
  obtain⟨ih,ni⟩:=wQ n
  refine⟨fun x hn y hsz S=> ?_,fun xs hn ys hlen hsz S=> ?_⟩
  ·have GL:=ah.kV x
   have hb:=VD hsz
   refine aD (rs:=[.tmp 4]) Tryz.checked.mixed Tryz.func98 Tryz.ntmps98 rfl rfl rfl rfl rfl ?_
   simp -implicitDefEqProofs (disch:=omega) only[go_sem]
   with_reducible refine aA (fun hb=> ?_) (fun hb=> ?_)<;>have h:=hb<;>(try simp only[wf_preprocess] at h)<;>simp -implicitDefEqProofs (disch:=omega) only[go_sem,hb]<;>(repeat(with_reducible refine And.intro ?_ ?_;focus first|omega|rfl|assumption|exact⟨_,rfl,rfl⟩|(simp;omega)|(simp;done)))
   ·have h1:=h
    (repeat(with_reducible refine And.intro ?_ ?_;focus first|omega|rfl|assumption|exact⟨_,rfl,rfl⟩|(simp;omega)|(simp;done)))
    refine au (ni x.ak (by omega) y.ak (by omega) (fun t ht=>by
     obtain⟨i,hi,e⟩:=List.getElem_of_mem ht
     rw[←e];exact VB hi hsz)) ?_
    simp -implicitDefEqProofs (disch:=omega) only[go_sem]
    refine aK (iY ⟨fun e=>ah.ext h1 e,fun e=>by rw[e]⟩)
   ·exact aK (aQ (fun e=>h (by rw[e]))).symm
  ·refine aD (rs:=[.tmp 6]) Tryz.checked.mixed Tryz.func189 Tryz.ntmps189 rfl rfl rfl rfl rfl ?_
   simp -implicitDefEqProofs (disch:=omega) only[go_sem]
   with_reducible refine aA (fun hb=> ?_) (fun hb=> ?_)<;>have h:=hb<;>(try simp only[wf_preprocess] at h)<;>simp -implicitDefEqProofs (disch:=omega) only[go_sem,hb]<;>(repeat(with_reducible refine And.intro ?_ ?_;focus first|omega|rfl|assumption|exact⟨_,rfl,rfl⟩|(simp;omega)|(simp;done)))
   ·exact aK (aQ (fun e=>h (by rw[e]))).symm
   have hl:xs.length=ys.length:=by omega
   refine aZ (ι:=Nat) Tryz.checked.mixed rfl [1,2,15,16,17] (fun y=>[.c (.d (.sl (ys.map ah.enc))),.c (.fn 98 []),.c (.d (.sl (xs.map ah.enc))),.c (.d (.i .i64 xs.length)),.c (.d (.i .i64 y))]) (fun y=>[]::S)
    (fun i=>i≤xs.length∧∀j,j<i→xs[j]? =ys[j]?) (fun y=>xs.length-y) 0 rfl rfl ⟨Nat.zero_le _,fun j h=>by omega⟩ ?_
   rintro i ⟨p1,p2⟩
   simp -implicitDefEqProofs (disch:=omega) only[go_sem]
   with_reducible refine aA (fun hb=> ?_) (fun hb=> ?_)<;>have h:=hb<;>(try simp only[wf_preprocess] at h)<;>simp -implicitDefEqProofs (disch:=omega) only[go_sem,hb]<;>(repeat(with_reducible refine And.intro ?_ ?_;focus first|omega|rfl|assumption|exact⟨_,rfl,rfl⟩|(simp;omega)|(simp;done)))
   ·have hi:i<xs.length:=by omega
    have hi':i<ys.length:=by omega
    (repeat(with_reducible refine And.intro ?_ ?_;focus first|omega|rfl|assumption|exact⟨_,rfl,rfl⟩|(simp;omega)|(simp;done)))
    refine au (ih xs[i] (by have:=List.sizeOf_lt_of_mem (List.getElem_mem hi);omega) ys[i] (hsz _ (List.getElem_mem hi))) ?_
    simp -implicitDefEqProofs (disch:=omega) only[go_sem]
    with_reducible refine aA (fun hb=> ?_) (fun hb=> ?_)<;>have h:=hb<;>(try simp only[wf_preprocess] at h)<;>simp -implicitDefEqProofs (disch:=omega) only[go_sem,hb]<;>(repeat(with_reducible refine And.intro ?_ ?_;focus first|omega|rfl|assumption|exact⟨_,rfl,rfl⟩|(simp;omega)|(simp;done)))
    ·exact aK (aQ (fun e=>h (by simp only[e]))).symm
    refine dO 0 (by decide) (i+1) (by omega) rfl rfl rfl rfl ⟨by omega,fun j hj=> ?_⟩
    by_cases e:j=i
    ·subst e
     rw[List.getElem?_eq_getElem hi,List.getElem?_eq_getElem hi',h]
    ·exact p2 j (by omega)
   ·have hi:i=xs.length:=by omega
    refine aK (bK (List.ext_getElem? fun j=> ?_)).symm
    by_cases hj:j<i
    ·exact p2 j hj
    ·rw[List.getElem?_eq_none (by omega),List.getElem?_eq_none (by omega)]
theorem Ep(x y:ah)(h:x.sz≤4194304):aI Tryz.prog 98 [x.v,y.v] (.c (.d (.b (dec (x=y))))):=(wQ _).1 x (Nat.lt_succ_self _) y h
end Go.Proofs.YtlmhknhlmicmeaaGreatDoor
namespace Go.Ab
section
variable {P:Program} {w w':World} {σ σ':Nat→Nat} {S:Store} {β:Hs}
end
end Go.Ab
namespace Go.Ab
section
variable {P:Program} {w w':World} {σ σ':Nat→Nat} {β:Hs}
theorem aaA{own:List Obj}{Ω:Store}(lab:Option Nat)(j i aR:Nat)(es:List (List D))(cs:List C)(hj:own[j]? =some (.box cs))(hi:cs[i]? =some (match lab with|some n=>.iO n es|none=>.aM es))(hes:∀e∈es,e.length=aR)(hS:dH w σ (own::Ω) β):
 ∃β',dH w σ ((own.set j (.box (cs.set i (.bI (0,own.length) es)))++[gJ lab aR es])::Ω) β'∧Step (own::Ω) β σ w ((own.set j (.box (cs.set i (.bI (0,own.length) es)))++[gJ lab aR es])::Ω) β' σ w∧Keep (own::Ω) β ((own.set j (.box (cs.set i (.bI (0,own.length) es)))++[gJ lab aR es])::Ω) β':=by
 cases β with
 |nil=>have:=hS.shape.1;simp at this
 |cons bo bΩ=>
 have hlen:bo.length=own.length:=by
  obtain⟨gr,g1,g2⟩:=hS.shape.2 0 own rfl
  simp at g1;rw[g1];exact g2
 have hjl:=(List.getElem?_eq_some_iff.1 hj).1
 have hg0:aV (own::Ω) (0,j)=some (.box cs):=by rw[bn];exact hj
 obtain⟨hb,Ey,hr⟩:=hS.obj (0,j) _ hg0
 obtain⟨b,cv,ty,rfl,hbc,hσ,hcs⟩:=hr
 have hcs:eX w σ (own::Ω) (bo::bΩ) cs cv.toList:=hcs
 obtain⟨v,hv,hc0,hone⟩:=hcs.2 i _ hi
 have hx:∃ad:Option Addr,bZ w σ (.sl es) v∧v=.slice ad es.length es.length∧∀n,lab=some n→bZ w σ (.ol n es) v:=by
  cases lab with
  |none=>
   obtain⟨hd,ad,n,hval⟩:=hc0
   have hn:n=es.length:=by rw[hval] at hd;cases hd<;>rfl
   exact⟨ad,hd,by rw[hval,hn],fun n e=>by cases e⟩
  |some n=>
   obtain⟨hd,ad,m,hval⟩:=hc0
   have hn:m=es.length:=by
    have:=qJ hd
    rw[hval] at this
    cases this<;>rfl
   exact⟨ad,qJ hd,by rw[hval,hn],fun n' e=>by cases e;exact hd⟩
 obtain⟨ad,hd,hval,hol⟩:=hx
 have hg:Grow w σ w σ:=Grow.refl hS.live
 obtain⟨hS',hk,hst⟩:=hS.push (o:=gJ lab aR es) (h:=v) hg hlen (by
  cases lab with
  |none=>exact⟨hd,hes,ad,es.length,hval,Nat.le_refl _,.inl rfl⟩
  |some n=>exact⟨hd,hes,ad,es.length,hval,Nat.le_refl _,.inl ⟨rfl,hol n rfl⟩⟩) (fun b hb=>by
  rw[hval] at hb
  cases lab<;>cases ad<;>simp[gJ,owns,blk] at hb)
 have hk1:aV ((own++[gJ lab aR es])::Ω) (0,j)=some (.box cs):=jF _ _ _ _ _ hg0
 have BR:aV ((bo++[v])::bΩ) (0,j)=some (.pointer (some ⟨b,0,none⟩)):=jF _ _ _ _ _ Ey
 have hko:jO (.box cs) (some (Value.pointer (some ⟨b,0,none⟩))) (.box (cs.set i (.bI (0,own.length) es))) (some (Value.pointer (some ⟨b,0,none⟩))):=.inr ⟨⟨_,rfl⟩,rfl⟩
 have hK:Keep ((own++[gJ lab aR es])::Ω) ((bo++[v])::bΩ) (bf ((own++[gJ lab aR es])::Ω) (0,j) (.box (cs.set i (.bI (0,own.length) es)))) (bf ((bo++[v])::bΩ) (0,j) (.pointer (some ⟨b,0,none⟩))):=by
  intro k1 o1 e1
  by_cases e:k1=(0,j)
  ·subst e
   rw[hk1] at e1;cases e1
   exact⟨_,bY _ _ _ _ hk1,by rw[BR,bY _ _ _ _ BR];exact hko⟩
  ·exact⟨o1,(dR _ _ _ _ (Ne.symm e)).trans e1,by rw[dR _ _ _ _ (Ne.symm e)];exact .refl _ _⟩
 have hne:(0,own.length)≠(0,j):=fun e=>by injection e with _ e;omega
 obtain⟨hS2,hk2,yt⟩:=hS'.set (w':=w) (σ':=σ) (o':=.box (cs.set i (.bI (0,own.length) es))) (h':=.pointer (some ⟨b,0,none⟩)) hk1 BR (Nat.le_refl _) rfl rfl (eF.refl _ _) hS'.live (fun _ _ _=>⟨rfl,rfl⟩) hko
  ⟨b,cv,ty,rfl,hbc,hσ,by
    refine⟨by rw[List.length_set];exact hcs.1,fun m x hm=> ?_⟩
    rw[List.getElem?_set] at hm
    by_cases e:i=m
    ·subst e
     rw[if_pos rfl] at hm
     split at hm
     ·cases hm
      refine⟨v,hv,⟨hd,gJ lab aR es,?_,fun a1 b1 e1=> ?_⟩,hone⟩
      ·show aV (bf _ (0,j) _) (0,own.length)=_
       rw[dR _ _ _ _ (Ne.symm hne),bN]
      ·obtain⟨_,rfl⟩:=kQ e1
       refine⟨Nat.le_refl _,fun _=> ?_⟩
       show aV (bf _ (0,j) _) (0,own.length)=_
       rw[dR _ _ _ _ (Ne.symm hne),←hlen,bN]
     ·cases hm
    ·rw[if_neg e] at hm
     obtain⟨u,hu,hc,ho⟩:=hcs.2 m x hm
     exact⟨u,hu,(hc.mono (eF.refl _ _) hk).mono (eF.refl _ _) hK,ho⟩⟩ (fun _ e=>.inl e)
 have est:bf ((own++[gJ lab aR es])::Ω) (0,j) (.box (cs.set i (.bI (0,own.length) es)))=(own.set j (.box (cs.set i (.bI (0,own.length) es)))++[gJ lab aR es])::Ω:=by
  rw[bf,List.set_append_left _ _ hjl]
 rw[est] at hS2 hk2 yt
 exact⟨_,hS2,hst.trans yt,hk.trans hk2⟩
end
end Go.Ab
namespace Go.Ab
section
variable {P:Program} {w w':World} {σ σ':Nat→Nat} {β:Hs} {N:Nat}
def mq(x y:C):Prop:=∀w σ S β v,fU w σ S β x v→fU w σ S β y v
theorem mq.refl(x:C):mq x x:=fun _ _ _ _ _ h=>h
theorem Dn(n:Nat):mq (.aM []) (.iO n []):=fun w σ S β v h=>by
 obtain⟨hd,a,m,hv⟩:=h
 have hm:m=0:=by rw[hv] at hd;cases hd<;>rfl
 subst hm
 exact⟨by rw[hv];exact .qF _ _ _,a,0,hv⟩
theorem fD(n:Nat):mq (.aM []) (.d (.ol n [])):=fun w σ S β v h=>(Dn n w σ S β v h).1
theorem gN(es:List (List D)):mq (.aM es) (.d (.sl es)):=fun w σ S β v h=>h.1
theorem aaB(n:Nat)(es:List (List D)):mq (.d (.ol n es)) (.d (.sl es)):=fun w σ S β v h=>qJ h
inductive eD:List C→List C→Prop
 |nil:eD [] []
 |cons {x y:C} {xs ys:List C}:mq x y→eD xs ys→eD (x::xs) (y::ys)
theorem eD.refl:∀xs,eD xs xs
 |[]=>.nil
 |x::xs=>.cons (.refl x) (eD.refl xs)
theorem eD.length:∀{xs ys:List C},eD xs ys→xs.length=ys.length
 |_,_,.nil=>rfl
 |_,_,.cons _ h=>by rw[List.length_cons,List.length_cons,eD.length h]
theorem eD.at:∀{xs ys:List C},eD xs ys→∀(j:Nat) (x y:C),xs[j]? =some x→ys[j]? =some y→mq x y
 |_,_,.nil,j,x,y,h,_=>by simp at h
 |_,_,.cons a h,0,x,y,h1,h2=>by simp at h1 h2;subst h1;subst h2;exact a
 |_,_,.cons a h,j+1,x,y,h1,h2=>eD.at h j x y (by simpa using h1) (by simpa using h2)
theorem eD.less{xs ys:List C}(h:eD xs ys):Less (.agg xs) (.agg ys):=by
 rintro w σ S β v ⟨a,ha,hc⟩
 refine⟨a,ha,h.length.symm.trans hc.1,fun j y hy=> ?_⟩
 have hj:j<xs.length:=by rw[h.length];exact(List.getElem?_eq_some_iff.1 hy).1
 obtain⟨v,h1,h2,h3⟩:=hc.2 j _ (List.getElem?_eq_getElem hj)
 exact⟨v,h1,h.at j _ y (List.getElem?_eq_getElem hj) hy w σ S β v h2,h3⟩
theorem eD.ab1{xs ys:List C}(h:eD xs ys){w:World}{σ:Nat→Nat}{S:Store}{β:Hs}{vs:List Value}(hc:eX w σ S β xs vs):eX w σ S β ys vs:=by
 refine⟨h.length.symm.trans hc.1,fun j y hy=> ?_⟩
 have hj:j<xs.length:=by rw[h.length];exact(List.getElem?_eq_some_iff.1 hy).1
 obtain⟨v,h1,h2,h3⟩:=hc.2 j _ (List.getElem?_eq_getElem hj)
 exact⟨v,h1,h.at j _ y (List.getElem?_eq_getElem hj) hy w σ S β v h2,h3⟩
theorem Yy{own:List Obj}{Ω:Store}(j:Nat)(cs cs':List C)(hj:own[j]? =some (.box cs))(hle:eD cs cs')(hS:dH w σ (own::Ω) β):
 ∃β',dH w σ ((own.set j (.box cs'))::Ω) β'∧Step (own::Ω) β σ w ((own.set j (.box cs'))::Ω) β' σ w∧Keep (own::Ω) β ((own.set j (.box cs'))::Ω) β'∧fB β'=fB β∧β'.length=β.length:=by
 cases β with
 |nil=>have:=hS.shape.1;simp at this
 |cons bo bΩ=>
 have hg0:aV (own::Ω) (0,j)=some (.box cs):=by rw[bn];exact hj
 obtain⟨hb,Ey,hr⟩:=hS.obj (0,j) _ hg0
 obtain⟨b,cv,ty,rfl,hbc,hσ,hcs⟩:=hr
 have hcs:eX w σ (own::Ω) (bo::bΩ) cs cv.toList:=hcs
 have hko:jO (.box cs) (some (Value.pointer (some ⟨b,0,none⟩))) (.box cs') (some (Value.pointer (some ⟨b,0,none⟩))):=.inr ⟨⟨_,rfl⟩,rfl⟩
 have hK:Keep (own::Ω) (bo::bΩ) (bf (own::Ω) (0,j) (.box cs')) (bf (bo::bΩ) (0,j) (.pointer (some ⟨b,0,none⟩))):=by
  intro k1 o1 e1
  by_cases e:k1=(0,j)
  ·subst e
   rw[hg0] at e1;cases e1
   exact⟨_,bY _ _ _ _ hg0,by rw[Ey,bY _ _ _ _ Ey];exact hko⟩
  ·exact⟨o1,(dR _ _ _ _ (Ne.symm e)).trans e1,by rw[dR _ _ _ _ (Ne.symm e)];exact .refl _ _⟩
 obtain⟨hS2,hk2,yt⟩:=hS.set (w':=w) (σ':=σ) (o':=.box cs') (h':=.pointer (some ⟨b,0,none⟩)) hg0 Ey (Nat.le_refl _) rfl rfl (eF.refl _ _) hS.live (fun _ _ _=>⟨rfl,rfl⟩) hko
  ⟨b,cv,ty,rfl,hbc,hσ,by
    have h1:=hle.ab1 hcs
    refine⟨h1.1,fun m x hm=> ?_⟩
    obtain⟨u,hu,hc,ho⟩:=h1.2 m x hm
    exact⟨u,hu,hc.mono (eF.refl _ _) hK,ho⟩⟩ (fun _ e=>.inl e)
 have est:bf (own::Ω) (0,j) (.box cs')=(own.set j (.box cs'))::Ω:=rfl
 rw[est] at hS2 hk2 yt
 exact⟨_,hS2,yt,hk2,rfl,by simp[bf]⟩
theorem KO{tm:List (Nat×V)}{own:List Obj}{Ω:Store}(j:Nat)(cs cs':List C)(hj:own[j]? =some (.box cs))(hle:eD cs cs'):fK N ⟨tm,own::Ω⟩ ⟨tm,(own.set j (.box cs'))::Ω⟩:=by
 intro a w σ β hR
 obtain⟨β',hS,hst,hk,ht,_⟩:=Yy j cs cs' hj hle hR.S
 refine⟨σ,β',⟨hR.size,hR.defers,hS,fun u=>(hR.T u).mono (eF.refl _ _) hk⟩,hst,?_⟩
 rw[ht];exact Keep.refl _ _
theorem Dp{tm:List (Nat×V)}{own:List Obj}{Ω:Store}(lab:Option Nat)(j i aR:Nat)(es:List (List D))(cs:List C)(hj:own[j]? =some (.box cs))(hi:cs[i]? =some (match lab with|some n=>.iO n es|none=>.aM es))(hes:∀e∈es,e.length=aR):
 fK N ⟨tm,own::Ω⟩ ⟨tm,(own.set j (.box (cs.set i (.bI (0,own.length) es)))++[gJ lab aR es])::Ω⟩:=by
 intro a w σ β hR
 obtain⟨β',hS,hst,hk⟩:=aaA lab j i aR es cs hj hi hes hR.S
 refine⟨σ,β',⟨hR.size,hR.defers,hS,fun u=>(hR.T u).mono (eF.refl _ _) hk⟩,hst,?_⟩
 intro k o hko
 obtain⟨o',h1,h2⟩:=hk (k.1+1,k.2) o (by
  obtain⟨l,i⟩:=k
  show aV (own::Ω) (l+1,i)=_
  rw[bJ];exact hko)
 obtain⟨bo,bΩ,rfl,_⟩:=frames hR
 have h3:=hS.shape.1
 cases β' with
 |nil=>simp at h3
 |cons bo' bΩ'=>
  rw[bJ] at h1
  rw[bJ,bJ] at h2
  exact⟨o',h1,h2⟩
theorem BD{c:Code}{Q:Exit→St→Prop}{tm:List (Nat×V)}{own:List Obj}{Ω:Store}(j:Nat)(cs cs':List C)(hj:own[j]? =some (.box cs))(hle:eD cs cs')(h:AW P N c Q ⟨tm,(own.set j (.box cs'))::Ω⟩):AW P N c Q ⟨tm,own::Ω⟩:=kS h (KO j cs cs' hj hle)
theorem zy{x y:C}(hle:mq x y):∀(i:Nat) (cs:List C),cs[i]? =some x→eD cs (cs.set i y)
 |0,[],h=>by simp at h
 |0,z::cs,h=>by simp at h;subst h;exact .cons hle (.refl cs)
 |i+1,[],h=>by simp at h
 |i+1,z::cs,h=>.cons (.refl z) (zy hle i cs (by simpa using h))
theorem BF{c:Code}{Q:Exit→St→Prop}{tm:List (Nat×V)}{own:List Obj}{Ω:Store}(n j i aR:Nat)(cs:List C)(hj:own[j]? =some (.box cs))(hi:cs[i]? =some (.aM []))
 (h:AW P N c Q ⟨tm,(own.set j (.box (cs.set i (.bI (0,own.length) [])))++[.dZ n aR []])::Ω⟩):AW P N c Q ⟨tm,own::Ω⟩:=by
 have hjl:=(List.getElem?_eq_some_iff.1 hj).1
 have hil:=(List.getElem?_eq_some_iff.1 hi).1
 refine BD j cs (cs.set i (.iO n [])) hj (zy (Dn n) i cs hi) ?_
 refine kS ?_ (Dp (some n) j i aR [] (cs.set i (.iO n [])) (by rw[List.getElem?_set_self hjl]) (by rw[List.getElem?_set_self hil]) (by simp))
 rw[List.set_set,List.set_set,List.length_set]
 exact h
theorem Dq{c:Code}{Q:Exit→St→Prop}{tm:List (Nat×V)}{own:List Obj}{Ω:Store}(j i aR:Nat)(cs:List C)(hj:own[j]? =some (.box cs))(hi:cs[i]? =some (.aM []))
 (h:AW P N c Q ⟨tm,(own.set j (.box (cs.set i (.bI (0,own.length) [])))++[.tok aR []])::Ω⟩):AW P N c Q ⟨tm,own::Ω⟩:=
 kS h (Dp none j i aR [] cs hj hi (by simp))
def ES(x y:D):Prop:=∀w σ v,bZ w σ x v→bZ w σ y v
theorem ES.refl(x:D):ES x x:=fun _ _ _ h=>h
theorem aaC(d:D)(n:Nat):ES (lH d n) d:=fun w σ v h=>XY d n v h
inductive jQ:List D→List D→Prop
 |nil:jQ [] []
 |cons {x y:D} {xs ys:List D}:ES x y→jQ xs ys→jQ (x::xs) (y::ys)
theorem jQ.refl:∀r,jQ r r
 |[]=>.nil
 |x::xs=>.cons (.refl x) (jQ.refl xs)
theorem jQ.length:∀{r r':List D},jQ r r'→r.length=r'.length
 |_,_,.nil=>rfl
 |_,_,.cons _ h=>by rw[List.length_cons,List.length_cons,h.length]
theorem jQ.at:∀{r r':List D},jQ r r'→∀(j:Nat) (y:D),r'[j]? =some y→∃x,r[j]? =some x∧ES x y
 |_,_,.nil,j,y,h=>by simp at h
 |_,_,.cons a h,0,y,h2=>by simp at h2;subst h2;exact⟨_,rfl,a⟩
 |_,_,.cons a h,j+1,y,h2=>h.at j y (by simpa using h2)
theorem J5:∀(r:List D) (n:Nat),jQ (eB r n) r
 |[],n=>.nil
 |d::ds,n=>.cons (aaC d n) (J5 ds _)
theorem jQ.append:∀{a a' b b':List D},jQ a a'→jQ b b'→jQ (a++b) (a'++b')
 |_,_,_,_,.nil,h=>h
 |_,_,_,_,.cons x h,k=>.cons x (h.append k)
inductive gF:List (List D)→List (List D)→Prop
 |nil:gF [] []
 |cons {x y:List D} {xs ys:List (List D)}:jQ x y→gF xs ys→gF (x::xs) (y::ys)
theorem gF.length:∀{r r':List (List D)},gF r r'→r.length=r'.length
 |_,_,.nil=>rfl
 |_,_,.cons _ h=>by rw[List.length_cons,List.length_cons,h.length]
theorem gF.snoc:∀{a b:List (List D)} {x y:List D},gF a b→jQ x y→gF (a++[x]) (b++[y])
 |_,_,_,_,.nil,h=>.cons h .nil
 |_,_,_,_,.cons z h,k=>.cons z (h.snoc k)
theorem gF.rows{z:Nat}:∀{a b:List (List D)},gF a b→(∀r∈b,r.length=z)→∀r∈a,r.length=z
 |_,_,.nil,h,r,hr=>by cases hr
 |_,_,.cons x h,k,r,hr=>by
  rcases List.mem_cons.1 hr with rfl|hr
  ·rw[x.length];exact k _ (by simp)
  ·exact h.rows (fun r hr=>k r (by simp[hr])) r hr
theorem gF.flat:∀{a b:List (List D)},gF a b→jQ a.flatten b.flatten
 |_,_,.nil=>.nil
 |_,_,.cons x h=>by rw[List.flatten_cons,List.flatten_cons];exact x.append h.flat
theorem gF.rep{a b:List (List D)}(h:gF a b){w:World}{σ:Nat→Nat}{v:Value}(hr:bZ w σ (.sl a) v):bZ w σ (.sl b) v:=by
 cases hr with
 |nil ad cap=>
  cases h
  exact .nil ad cap
 |sl b0 off cap aR es vals c t fz hcap hlen hb hσ hc hv=>
  have hl:=h.length
  rw[hl] at hcap hσ hc ⊢
  have hlb:∀e∈b,e.length=aR:=fun e he=>by
   obtain⟨i,hi,rfl⟩:=List.getElem_of_mem he
   have:∀{a b:List (List D)} (h:gF a b) (i:Nat) (hi:i<b.length) (hi':i<a.length),jQ a[i] b[i]:=by
    intro a b h
    induction h with
    |nil=>intro i hi;simp at hi
    |cons x h ih=>intro i hi hi';cases i with
     |zero=>exact x
     |succ i=>exact ih i (by simpa using hi) (by simpa using hi')
   have h1:=this h i hi (by omega)
   rw[←h1.length];exact hlen _ (List.getElem_mem _)
  refine .sl b0 off cap aR b vals c t fz hcap hlb hb hσ hc fun j d hd=> ?_
  obtain⟨x,hx,hle⟩:=h.flat.at j d hd
  exact hle w σ _ (hv j x hx)
theorem zS:∀(r:List (List D)) (n:Nat),gF (eG r n) r
 |[],n=>.nil
 |d::ds,n=>.cons (J5 d n) (zS ds _)
inductive jM:List (Bool×List C)→List (Bool×List C)→Prop
 |nil:jM [] []
 |cons {b:Bool} {cs cs':List C} {xs ys:List (Bool×List C)}:eD cs cs'→jM xs ys→jM ((b,cs)::xs) ((b,cs')::ys)
theorem jM.refl:∀xs,jM xs xs
 |[]=>.nil
 |(b,cs)::xs=>.cons (.refl cs) (jM.refl xs)
theorem jM.length:∀{xs ys:List (Bool×List C)},jM xs ys→xs.length=ys.length
 |_,_,.nil=>rfl
 |_,_,.cons _ h=>by rw[List.length_cons,List.length_cons,h.length]
theorem jM.at:∀{xs ys:List (Bool×List C)},jM xs ys→∀(j:Nat) (y:Bool×List C),ys[j]? =some y→∃cs,xs[j]? =some (y.1,cs)∧eD cs y.2
 |_,_,.nil,j,y,h=>by simp at h
 |_,_,.cons a h,0,y,h2=>by simp at h2;subst h2;exact⟨_,rfl,a⟩
 |_,_,.cons a h,j+1,y,h2=>h.at j y (by simpa using h2)
theorem jM.less{xs ys:List (Bool×List C)}(h:jM xs ys):Less (.d9 xs) (.d9 ys):=by
 rintro w σ S β v ⟨a,ha,hl,hc⟩
 refine⟨a,ha,h.length.symm.trans hl,fun j y hy=> ?_⟩
 obtain⟨cs,h1,h2⟩:=h.at j y hy
 obtain⟨u,hu,hr⟩:=hc j _ h1
 refine⟨u,hu,?_⟩
 obtain⟨b,cs'⟩:=y
 cases b with
 |true=>
  obtain⟨a',e,hcs⟩:=hr
  exact⟨a',e,h2.ab1 hcs⟩
 |false=>
  obtain⟨x,e,hx,ho⟩:=hr
  simp only at e h2
  subst e
  cases h2 with
  |cons hxy hn=>
   cases hn
   exact⟨_,rfl,hxy w σ S β u hx,ho⟩
theorem aI.of_le{f:FuncId}{args:List V}{t:V}(h:∀S,bD P f args S fun r S'=>Less r t∧S'=S):aI P f args t:=fun S=>
 ⟨(h S).1,fun w σ β vs hS hv=>((h S).2 w σ β vs hS hv).mono fun e w' ⟨v,r,S',σ',β',h1,h2,h3,h4,h5,h6,h7⟩=>⟨v,t,S',σ',β',h1,h2,h3,h4,h6 _ _ _ _ _ h5,rfl,h7⟩⟩
theorem VE{cs cs':List C}{xs:List (Bool×List C)}(h:∀w σ S β vs,eX w σ S β cs vs→eX w σ S β cs' vs):Less (.d9 ((true,cs)::xs)) (.d9 ((true,cs')::xs)):=by
 rintro w σ S β v ⟨a,ha,hl,hc⟩
 obtain⟨u,hu,a',rfl,hcs⟩:=hc 0 _ rfl
 refine⟨a,ha,hl,fun j y hy=> ?_⟩
 cases j with
 |zero=>
  simp at hy;subst hy
  exact⟨_,hu,a',rfl,h _ _ _ _ _ hcs⟩
 |succ j=>exact hc (j+1) y (by simpa using hy)
theorem jN(v:V):Less v v:=fun _ _ _ _ _ h=>h
end
end Go.Ab
namespace Go.Ab
theorem vZ{α:Type}[SizeOf α]:∀(i:Nat) (l:List α),SizeOf.sizeOf (l.drop i)≤SizeOf.sizeOf l
 |0,l=>by simp
 |i+1,[]=>by simp
 |i+1,x::l=>by
  have:=vZ i l
  rw[List.drop_succ_cons];simp only[List.cons.sizeOf_spec];omega
theorem oP(l:List ah)(n i:Nat)(h:l.length≤n):((l.map ah.enc).take n).drop i=(l.drop i).map ah.enc:=by
 rw[List.take_of_length_le (by rw[List.length_map];exact h),List.map_drop]
theorem Yz(l:List ah)(i:Nat):(l.getD i fu).sz≤dN l:=by
 rw[List.getD_eq_getElem?_getD]
 by_cases h:i<l.length
 ·rw[List.getElem?_eq_getElem h];exact kg (List.getElem_mem h)
 ·rw[List.getElem?_eq_none (by omega)]
  rw[Option.getD_none,jP];simp[fu,ah.aU,ah.ak,bG]
theorem gY(x:ah):x.ak.length+dN x.ak≤x.sz:=by rw[jP,l6];omega
theorem BG(x:ah):x.aU.length≤x.sz:=by rw[jP];omega
def uj(x:ah):List D:=[.s x.aU]
def allA(l:List ah):Bool:=l.all fun x=>decide (x.aU≠[])
theorem Qu{l:List ah}{i:Nat}(hi:i<l.length)(h:l[i].aU=[]):allA l=false∧iN l=[]:=by
 have:allA l=false:=by
  unfold allA
  rw[List.all_eq_false]
  exact⟨_,List.getElem_mem hi,by simp[h]⟩
 refine⟨this,?_⟩
 unfold iN
 unfold allA at this
 rw[this];rfl
theorem ND{l:List ah}(h:∀j (hj:j<l.length),l[j].aU≠[]):allA l=true∧(iN l).map encS=l.map uj:=by
 have:allA l=true:=by
  unfold allA
  rw[List.all_eq_true]
  intro x hx
  obtain⟨j,hj,rfl⟩:=List.getElem_of_mem hx
  exact decide_eq_true (h j hj)
 refine⟨this,?_⟩
 unfold iN
 unfold allA at this
 rw[this,if_pos rfl,List.map_map];rfl
theorem Dr{l:List ah}{i:Nat}(hi:i<l.length):(l.take i).map uj++[[.s l[i].aU]]=(l.take (i+1)).map uj:=by
 rw[List.take_succ_eq_append_getElem hi,List.map_append];rfl
theorem ET{l:List ah}{i:Nat}:((l.take i).map uj).length≤i:=by rw[List.length_map];exact List.length_take_le _ _
def lt(l:List aj)(n:Nat):List (List D):=eG (l.map aj.enc) n
def fT(l:List aj):Nat:=jy (l.map aj.enc)
theorem aaD(x:aj)(n:Nat):eB x.enc n=[.i .i64 x.aH,.s x.fName,.ol n (lt x.fArgs (n+1))]:=by
 rw[aj.aG];simp only[eB,lH,nZ,Nat.add_zero,lt]
theorem VF(l:List aj)(n:Nat):(lt l n).length=l.length:=by unfold lt;rw[jk,List.length_map]
theorem aaE{l:List aj}{i:Nat}(hi:i<l.length)(n:Nat):lt (l.take i) n++[[.i .i64 l[i].aH,.s l[i].fName,.ol (n+fT (l.take i)) (lt l[i].fArgs (n+fT (l.take i)+1))]]=lt (l.take (i+1)) n:=by
 rw[List.take_succ_eq_append_getElem hi]
 unfold lt fT
 rw[List.map_append,oD]
 simp only[List.map_cons,List.map_nil,eG,aaD,lt]
theorem VG{l:List aj}{i:Nat}(hi:i<l.length):(l.take i).map aj.enc++[[.i .i64 l[i].aH,.s l[i].fName,.sl (l[i].fArgs.map aj.enc)]]=(l.take (i+1)).map aj.enc:=by
 rw[List.take_succ_eq_append_getElem hi,List.map_append]
 simp only[List.map_cons,List.map_nil,aj.aG]
theorem Ji(k:Int)(s:List UInt8)(n:Nat):Less (.agg [.d (.i .i64 k),.d (.s s),.aM []]) (.agg [.d (.i .i64 k),.d (.s s),.d (.ol n [])]):=(eD.cons (.refl _) (.cons (.refl _) (.cons (fD n) .nil))).less
theorem Qv(k:Int)(s:List UInt8)(es:List (List D)):Less (.agg [.d (.i .i64 k),.d (.s s),.aM es]) (.agg [.d (.i .i64 k),.d (.s s),.d (.sl es)]):=(eD.cons (.refl _) (.cons (.refl _) (.cons (gN es) .nil))).less
theorem ab2{s:List UInt8}(h:s≠[]):((s.getD 0 0).toNat:Int)=39↔s.head? =some 39:=by
 cases s with
 |nil=>exact(h rfl).elim
 |cons b s=>
  simp only[List.getD_cons_zero,List.head?_cons,Option.some.injEq]
  constructor
  ·intro e
   have:b.toNat=39:=by omega
   exact UInt8.toNat.inj this
  ·intro e;rw[e];rfl
theorem H6(s:List UInt8)(n:Nat)(h:s.length≤n):(s.take n).drop 1=s.tail:=by rw[List.take_of_length_le h,List.drop_one]
abbrev aj.vl (t:aj) (n:Nat):V:=.agg [.d (.i .i64 t.aH),.d (.s t.fName),.d (.ol n (lt t.fArgs (n+1)))]
theorem FJ(l:List (List UInt8)):jy (l.map encS)=0:=by
 induction l with
 |nil=>rfl
 |cons s l ih=>rw[List.map_cons,jy,ih];rfl
theorem ab3{b:Bool}{x:ah}{r:V}{k:Int}{s:List UInt8}{l:List aj}(h:dU b x=.mk k s l)(hl:Less r (.agg [.d (.i .i64 k),.d (.s s),.d (.sl (l.map aj.enc))])):Less r (dU b x).v:=by rw[h];exact hl
theorem Zf{b:Bool}{x:ah}{k:Int}{s:List UInt8}(h:dU b x=.mk k s []):Less (.agg [.d (.i .i64 k),.d (.s s),.aM []]) (dU b x).v:=by rw[h];exact Qv k s []
theorem Zg{b:Bool}{x:ah}{k:Int}{s:List UInt8}(h:dU b x=.mk k s []):Less (.agg [.d (.i .i64 k),.d (.s s),.d (.sl [])]) (dU b x).v:=by rw[h];exact jN _
theorem Zh{b:Bool}{x:ah}{r:V}{n:Nat}{k:Int}{s:List UInt8}{l:List aj}(h:dU b x=.mk k s l)(hl:Less r (.agg [.d (.i .i64 k),.d (.s s),.d (.ol n (lt l (n+1)))])):Less r ((dU b x).vl n):=by rw[h];exact hl
theorem VH{b:Bool}{x:ah}{n:Nat}{k:Int}{s:List UInt8}(h:dU b x=.mk k s []):Less (.agg [.d (.i .i64 k),.d (.s s),.aM []]) ((dU b x).vl n):=by rw[h];exact Ji k s n
theorem VI{b:Bool}{x:ah}{n:Nat}{k:Int}{s:List UInt8}(h:dU b x=.mk k s []):Less (.agg [.d (.i .i64 k),.d (.s s),.d (.ol n [])]) ((dU b x).vl n):=by rw[h];exact jN _
theorem PD{s:List UInt8}(h:1≤s.length):(s.take 1).drop 0=[39]↔s.head? =some 39:=by
 cases s with
 |nil=>simp at h
 |cons b s=>simp
end Go.Ab
namespace Go.Proofs.YtlmhknhlmicmeaaGreatDoor
open Go Go.Ab
theorem Dt(xs:List ah)(hx:xs.length≤1073741824):aI Tryz.prog 215 [.c (.d (.sl (xs.map ah.enc)))] (.d9 [(false,[.d (.sl ((iN xs).map encS))]),(false,[.d (.b (allA xs))])]):=aI.of_le fun S=>by
 refine aD (rs:=[.tmp 2,.tmp 3]) Tryz.checked.mixed Tryz.func215 Tryz.ntmps215 rfl rfl rfl rfl rfl ?_
 simp -implicitDefEqProofs (disch:=omega) only[go_sem]
 (repeat(with_reducible refine And.intro ?_ ?_;focus first|omega|rfl|assumption|exact⟨_,rfl,rfl⟩|(simp;omega)|(simp;done)))
 refine yu 4 1 [] rfl (by simp) ?_
 refine aZ (ι:=Nat) Tryz.checked.mixed rfl [0,4,5] (fun i=>[.c (.d (.sl (xs.map ah.enc))),.c (.bI (0,0) ((xs.take i).map uj)),.c (.d (.i .i64 i))]) (fun i=>[.tok 1 ((xs.take i).map uj)]::S)
  (fun i=>i≤xs.length∧∀j,∀hj:j<xs.length,j<i→xs[j].aU≠[]) (fun i=>xs.length-i) 0 rfl rfl ⟨Nat.zero_le _,fun j _ h=>by omega⟩ ?_
 rintro i ⟨p1,p2⟩
 have hl:=ET (l:=xs) (i:=i)
 simp -implicitDefEqProofs (disch:=omega) only[go_sem,ah.aG]
 with_reducible refine aA (fun hb=> ?_) (fun hb=> ?_)<;>have h:=hb<;>(try simp only[wf_preprocess] at h)<;>simp -implicitDefEqProofs (disch:=omega) only[go_sem,hb]<;>(repeat(with_reducible refine And.intro ?_ ?_;focus first|omega|rfl|assumption|exact⟨_,rfl,rfl⟩|(simp;omega)|(simp;done)))
 ·have hi':i<xs.length:=by omega
  have hs:=Dr hi'
  (repeat(with_reducible refine And.intro ?_ ?_;focus first|omega|rfl|assumption|exact⟨_,rfl,rfl⟩|(simp;omega)|(simp;done)))
  with_reducible refine aA (fun hb=> ?_) (fun hb=> ?_)<;>have h:=hb<;>(try simp only[wf_preprocess] at h)<;>simp -implicitDefEqProofs (disch:=omega) only[go_sem,hb]<;>(repeat(with_reducible refine And.intro ?_ ?_;focus first|omega|rfl|assumption|exact⟨_,rfl,rfl⟩|(simp;omega)|(simp;done)))
  ·obtain⟨e1,e2⟩:=Qu hi' h
   rw[e1,e2]
   exact(jM.cons (.cons (gN _) .nil) (.refl _)).less
  ·(repeat(with_reducible refine And.intro ?_ ?_;focus first|omega|rfl|assumption|exact⟨_,rfl,rfl⟩|(simp;omega)|(simp;done)))
   rw[hs]
   refine bL (i+1) (by omega) rfl rfl ⟨by omega,fun j hj hji=> ?_⟩
   by_cases e':j=i
   ·subst e';exact h
   ·exact p2 j hj (by omega)
 ·have hi':i=xs.length:=by omega
  subst hi'
  obtain⟨e1,e2⟩:=ND fun j hj=>p2 j hj hj
  rw[e1,e2,List.take_length]
  exact jN _
theorem Du(x:ah)(hx:x.sz≤4194304):aI Tryz.prog 120 [x.v] (.c (.d (.sl ((iN x.ak).map encS)))):=fun S=>by
 have:=gY x
 refine aD (rs:=[.tmp 2]) Tryz.checked.mixed Tryz.func120 Tryz.ntmps120 rfl rfl rfl rfl rfl ?_
 simp -implicitDefEqProofs (disch:=omega) only[go_sem]
 refine au (Dt x.ak (by omega)) ?_
 simp -implicitDefEqProofs (disch:=omega) only[go_sem]
theorem lN(x:ah)(i:Nat)(hx:x.sz≤4194304)(hi:i≤100):aI Tryz.prog 119 [x.v,.c (.d (.i .i64 i))] (x.ak.getD i fu).v:=aI.of_le fun S=>by
 have:=gY x
 refine aD (rs:=[.cell 4 32]) Tryz.checked.mixed Tryz.func119 Tryz.ntmps119 rfl rfl rfl rfl rfl ?_
 simp -implicitDefEqProofs (disch:=omega) only[go_sem]
 with_reducible refine aA (fun hb=> ?_) (fun hb=> ?_)<;>have h:=hb<;>(try simp only[wf_preprocess] at h)<;>simp -implicitDefEqProofs (disch:=omega) only[go_sem,hb]<;>(repeat(with_reducible refine And.intro ?_ ?_;focus first|omega|rfl|assumption|exact⟨_,rfl,rfl⟩|(simp;omega)|(simp;done)))
 ·rw[List.getD_eq_getElem?_getD,List.getElem?_eq_none (by omega)]
  exact(eD.cons (.refl _) (.cons (gN _) .nil)).less
 ·have hi:i<x.ak.length:=by omega
  rw[List.getD_eq_getElem?_getD,List.getElem?_eq_getElem hi]
  exact jN _
theorem pG(a b:Int):aI Tryz.prog 201 [.c (.d (.i .i64 a)),.c (.d (.i .i64 b))] (.c (.d (.i .i64 (min a b)))):=fun S=>by
 refine aD (rs:=[.tmp 4]) Tryz.checked.mixed Tryz.func201 Tryz.ntmps201 rfl rfl rfl rfl rfl ?_
 simp -implicitDefEqProofs (disch:=omega) only[go_sem]
 with_reducible refine aA (fun hb=> ?_) (fun hb=> ?_)<;>have h:=hb<;>(try simp only[wf_preprocess] at h)<;>simp -implicitDefEqProofs (disch:=omega) only[go_sem,hb]<;>(repeat(with_reducible refine And.intro ?_ ?_;focus first|omega|rfl|assumption|exact⟨_,rfl,rfl⟩|(simp;omega)|(simp;done)))
 ·exact int_eq (by omega)
 ·exact int_eq (by omega)
theorem EU(x:ah)(i:Nat)(hx:x.sz≤4194304):aI Tryz.prog 136 [x.v,.c (.d (.i .i64 i))] (.c (.d (.sl ((x.ak.drop i).map ah.enc)))):=fun S=>by
 have:=gY x
 refine aD (rs:=[.tmp 4]) Tryz.checked.mixed Tryz.func136 Tryz.ntmps136 rfl rfl rfl rfl rfl ?_
 simp -implicitDefEqProofs (disch:=omega) only[go_sem]
 refine au (pG _ _) ?_
 have e:min (i:Int) (x.ak.length:Int)=((min i x.ak.length:Nat):Int):=by omega
 rw[e]
 have hr:=gV (l:=x.ak)
 simp -implicitDefEqProofs (disch:=omega) only[go_sem]
 (repeat(with_reducible refine And.intro ?_ ?_;focus first|omega|rfl|assumption|exact⟨_,rfl,rfl⟩|(simp;omega)|(simp;done)))
 refine⟨⟨by omega,by omega,by omega,hr⟩,?_⟩
 rw[oP _ _ _ (Nat.le_refl _)]
 by_cases h:i≤x.ak.length
 ·rw[Nat.min_eq_left h]
 ·rw[Nat.min_eq_right (by omega),List.drop_length,List.drop_of_length_le (by omega)]
theorem SL(s:List UInt8):aI Tryz.prog 217 [.c (.d (.s s)),.c (.d (.sl []))] (.agg [.d (.i .i64 2),.d (.s s),.d (.sl [])]):=aI.of_le fun S=>by
 refine aD (rs:=[.cell 4 57]) Tryz.checked.mixed Tryz.func217 Tryz.ntmps217 rfl rfl rfl rfl rfl ?_
 simp -implicitDefEqProofs (disch:=omega) only[go_sem]
 (repeat(with_reducible refine And.intro ?_ ?_;focus first|omega|rfl|assumption|exact⟨_,rfl,rfl⟩|(simp;omega)|(simp;done)))
 exact jN _
theorem SN(s:List UInt8):aI Tryz.prog 216 [.c (.d (.s s))] (.agg [.d (.i .i64 1),.d (.s s),.d (.sl [])]):=aI.of_le fun S=>by
 refine aD (rs:=[.cell 2 57]) Tryz.checked.mixed Tryz.func216 Tryz.ntmps216 rfl rfl rfl rfl rfl ?_
 simp -implicitDefEqProofs (disch:=omega) only[go_sem]
 (repeat(with_reducible refine And.intro ?_ ?_;focus first|omega|rfl|assumption|exact⟨_,rfl,rfl⟩|(simp;omega)|(simp;done)))
 exact Qv _ _ _
theorem Ce:∀N:Nat,(∀x:ah,SizeOf.sizeOf x<N→x.sz≤4194304→aI Tryz.prog 122 [x.v] (dU false x).v)
 |0=>fun x h=>by omega
 |N+1=>by
  have ih:=Ce N
  intro x hn hsz
  have iF:=ah.kV x
  have h1:=gY x
  have h2:=BG x
  have hx:=Qr false x
  have hall:∀t∈x.ak,t.sz≤4194304:=fun t ht=>by have:=kg ht;omega
  refine aI.of_le fun S=> ?_
  refine aD (rs:=[.cell 2 57]) Tryz.checked.mixed Tryz.func122 Tryz.ntmps122 rfl rfl rfl rfl rfl ?_
  simp -implicitDefEqProofs (disch:=omega) only[go_sem]
  with_reducible refine aA (fun hb=> ?_) (fun hb=> ?_)<;>have h:=hb<;>(try simp only[wf_preprocess] at h)<;>simp -implicitDefEqProofs (disch:=omega) only[go_sem,hb]<;>(repeat(with_reducible refine And.intro ?_ ?_;focus first|omega|rfl|assumption|exact⟨_,rfl,rfl⟩|(simp;omega)|(simp;done)))
  ·have hne:=h
   rw[if_neg h] at hx
   have h39:=ab2 h
   have hln:0<x.aU.length:=List.length_pos_iff.2 hne
   have hsl:=H6 x.aU x.aU.length (Nat.le_refl _)
   (repeat(with_reducible refine And.intro ?_ ?_;focus first|omega|rfl|assumption|exact⟨_,rfl,rfl⟩|(simp;omega)|(simp;done)))
   with_reducible refine aA (fun hb=> ?_) (fun hb=> ?_)<;>have h:=hb<;>(try simp only[wf_preprocess] at h)<;>simp -implicitDefEqProofs (disch:=omega) only[go_sem,hb]<;>(repeat(with_reducible refine And.intro ?_ ?_;focus first|omega|rfl|assumption|exact⟨_,rfl,rfl⟩|(simp;omega)|(simp;done)))
   ·rw[if_pos (h39.1 h)] at hx
    (repeat(with_reducible refine And.intro ?_ ?_;focus first|omega|rfl|assumption|exact⟨_,rfl,rfl⟩|(simp;omega)|(simp;done)))
    rw[hsl]
    refine au (SN _) ?_
    simp -implicitDefEqProofs (disch:=omega) only[go_sem]
    exact Zg hx
   ·rw[if_neg (fun e=>h (h39.2 e))] at hx
    refine au (SL _) ?_
    simp -implicitDefEqProofs (disch:=omega) only[go_sem]
    exact Zg hx
  rw[if_pos h] at hx
  with_reducible refine aA (fun hb=> ?_) (fun hb=> ?_)<;>have h:=hb<;>(try simp only[wf_preprocess] at h)<;>simp -implicitDefEqProofs (disch:=omega) only[go_sem,hb]<;>(repeat(with_reducible refine And.intro ?_ ?_;focus first|omega|rfl|assumption|exact⟨_,rfl,rfl⟩|(simp;omega)|(simp;done)))
  ·rw[if_pos (by omega)] at hx
   exact Zf hx
  rw[if_neg (by omega)] at hx
  have hl2:2≤x.ak.length:=by omega
  have a0:=lX (l:=x.ak) (i:=0) (by omega)
  have a1:=lX (l:=x.ak) (i:=1) (by omega)
  obtain⟨T,hT⟩:∃T:Nat→List (List D),T=fun i=>(((x.ak.map (dU false)).drop 1).take i).map aj.enc:=⟨_,rfl⟩
  have hT0:T 0=[]:=by rw[hT];rfl
  have kF:∀i,(T i).length≤i:=fun i=>by rw[hT];simp only[List.length_map];exact List.length_take_le _ _
  have hTr:∀i,∀r∈T i,r.length=3:=fun i=>by
   rw[hT];intro r hr
   obtain⟨z,_,rfl⟩:=List.mem_map.1 hr
   exact z.bH
  have hTs:∀i (hi:i+1<x.ak.length),T i++[[.i .i64 (dU false x.ak[i+1]).aH,.s (dU false x.ak[i+1]).fName,.sl ((dU false x.ak[i+1]).fArgs.map aj.enc)]]=T (i+1):=fun i hi=>by
   have:=VG (l:=(x.ak.map (dU false)).drop 1) (i:=i) (by rw[List.length_drop,List.length_map];omega)
   rw[List.getElem_drop,List.getElem_map] at this
   rw[hT];simp only[Nat.add_comm 1 i] at this ⊢;exact this
  have hTe:T (x.ak.length-1)=((x.ak.map (dU false)).drop 1).map aj.enc:=by
   rw[hT];simp only
   rw[List.take_of_length_le (by simp)]
  have hTn:(T (x.ak.length-1)).length=x.ak.length-1:=by rw[hTe];simp
  have hTd:(T (x.ak.length-1)).drop 1=((x.ak.map (dU false)).drop 2).map aj.enc:=by rw[hTe,←List.map_drop,List.drop_drop]
  clear hT
  (repeat(with_reducible refine And.intro ?_ ?_;focus first|omega|rfl|assumption|exact⟨_,rfl,rfl⟩|(simp;omega)|(simp;done)))
  refine yu 4 3 [] rfl (by simp) ?_
  refine aZ (ι:=Nat) Tryz.checked.mixed rfl [1,2,3,4,5] (fun i=>[.c (.ptr (0,0) 0),.c (.ptr (0,1) 0),.c (.d (.s x.ak[0].aU)),.c (.bI (0,2) (T i)),.c (.d (.i .i64 ((i+1:Nat):Int)))])
   (fun i=>[.box [.d (.s x.aU),.d (.sl (x.ak.map ah.enc))],.box [.d (.i .i64 0),.d (.s []),.aM []],.tok 3 (T i)]::S)
   (fun i=>i+1≤x.ak.length) (fun i=>x.ak.length-(i+1)) 0 (by rw[hT0];rfl) (by rw[hT0];rfl) (by omega) ?_
  intro i hi
  have hl:=kF i
  simp -implicitDefEqProofs (disch:=omega) only[go_sem]
  with_reducible refine aA (fun hb=> ?_) (fun hb=> ?_)<;>have h:=hb<;>(try simp only[wf_preprocess] at h)<;>simp -implicitDefEqProofs (disch:=omega) only[go_sem,hb]<;>(repeat(with_reducible refine And.intro ?_ ?_;focus first|omega|rfl|assumption|exact⟨_,rfl,rfl⟩|(simp;omega)|(simp;done)))
  ·have hi':i+1<x.ak.length:=by omega
   have hm:=List.getElem_mem hi'
   have hs:=hTs i hi'
   (repeat(with_reducible refine And.intro ?_ ?_;focus first|omega|rfl|assumption|exact⟨_,rfl,rfl⟩|(simp;omega)|(simp;done)))
   refine au (ih x.ak[i+1] (by have:=List.sizeOf_lt_of_mem hm;omega) (hall _ hm)) ?_
   simp -implicitDefEqProofs (disch:=omega) only[go_sem,aj.aG]
   (repeat(with_reducible refine And.intro ?_ ?_;focus first|omega|rfl|assumption|exact⟨_,rfl,rfl⟩|(simp;omega)|(simp;done)))
   rw[hs]
   exact bL (i+1) (by omega) rfl rfl (by omega)
  have hi':i=x.ak.length-1:=by omega
  subst hi'
  have hrows:=hTr (x.ak.length-1)
  have hta:((T (x.ak.length-1)).take (x.ak.length-1))=T (x.ak.length-1):=List.take_of_length_le (by omega)
  rw[a0,a1] at hx
  have tD:x.ak[0].aU=[100,121,110]∧x.ak.length=2∧x.ak[1].aU≠[]→dU false x=.mk 4 x.ak[1].aU []:=fun e=>hx.trans (if_pos ⟨e.1,.inr e.2⟩)
  have tA:x.ak[0].aU=[97,115,115,111,99]∧x.ak.length=3∧x.ak[1].aU≠[]→dU false x=.mk 3 x.ak[1].aU ((x.ak.map (dU false)).drop 2):=fun e=>by
   rw[hx,if_neg (fun e'=>by have:=e'.1.symm.trans e.1;revert this;decide),if_pos ⟨e.1,.inr e.2⟩]
  have tN:¬(x.ak[0].aU=[100,121,110]∧x.ak.length=2∧x.ak[1].aU≠[])→¬(x.ak[0].aU=[97,115,115,111,99]∧x.ak.length=3∧x.ak[1].aU≠[])→dU false x=.mk 2 x.ak[0].aU ((x.ak.map (dU false)).drop 1):=fun e1 e2=>by
   rw[hx,if_neg (fun e'=>e1 ⟨e'.1,e'.2.resolve_left (by decide)⟩),if_neg (fun e'=>e2 ⟨e'.1,e'.2.resolve_left (by decide)⟩)]
  clear hx hTs ih
  repeat' (first|(with_reducible refine aA (fun hb=> ?_) (fun hb=> ?_)<;>have h:=hb<;>(try simp only[wf_preprocess] at h)<;>simp -implicitDefEqProofs (disch:=omega) only[go_sem,hb]<;>(repeat(with_reducible refine And.intro ?_ ?_;focus first|omega|rfl|assumption|exact⟨_,rfl,rfl⟩|(simp;omega)|(simp;done)))))
  all_goals first
   |(refine⟨⟨by omega,by omega,hrows⟩,?_⟩;refine ab3 (tA ⟨by assumption,by omega,by assumption⟩) ?_;rw[hTn,hta,hTd];exact jN _)
   |exact Zf (tD ⟨by assumption,by omega,by assumption⟩)
   |(refine ab3 (tN (fun⟨a,b,c⟩=>by first|contradiction|omega) (fun⟨a,b,c⟩=>by first|contradiction|omega)) ?_;rw[hTe];exact jN _)
   |trace_state
theorem uQ(x:ah)(hsz:x.sz≤4194304):aI Tryz.prog 122 [x.v] (dU false x).v:=Ce _ x (Nat.lt_succ_self _) hsz
theorem H7(s:List UInt8)(hs:s.length≤1073741824):aI Tryz.prog 332 [.c (.d (.s s)),.c (.d (.s [39]))] (.c (.d (.b (decide (s.head? =some 39))))):=fun S=>by
 refine aD (rs:=[.tmp 4]) Tryz.checked.mixed Tryz.func332 Tryz.ntmps332 rfl rfl rfl rfl rfl ?_
 simp -implicitDefEqProofs (disch:=omega) only[go_sem]
 with_reducible refine aA (fun hb=> ?_) (fun hb=> ?_)<;>have h:=hb<;>(try simp only[wf_preprocess] at h)<;>simp -implicitDefEqProofs (disch:=omega) only[go_sem,hb]<;>(repeat(with_reducible refine And.intro ?_ ?_;focus first|omega|rfl|assumption|exact⟨_,rfl,rfl⟩|(simp;omega)|(simp;done)))
 ·exact aK (decide_eq_decide.2 (PD (by omega)))
 ·have:s=[]:=List.eq_nil_of_length_eq_zero (by omega)
  subst this
  rfl
theorem H8(s:List UInt8)(hs:s.length≤1073741824):aI Tryz.prog 289 [.c (.d (.s s)),.c (.d (.s [39]))] (.d9 [(false,[.d (.s (if s.head? =some 39 then s.tail else s))]),(false,[.d (.b (decide (s.head? =some 39)))])]):=fun S=>by
 refine aD (rs:=[.tmp 4,.tmp 5]) Tryz.checked.mixed Tryz.func289 Tryz.ntmps289 rfl rfl rfl rfl rfl ?_
 simp -implicitDefEqProofs (disch:=omega) only[go_sem]
 refine au (H7 s hs) ?_
 simp -implicitDefEqProofs (disch:=omega) only[go_sem]
 with_reducible refine aA (fun hb=> ?_) (fun hb=> ?_)<;>have h:=hb<;>(try simp only[wf_preprocess] at h)<;>simp -implicitDefEqProofs (disch:=omega) only[go_sem,hb]<;>(repeat(with_reducible refine And.intro ?_ ?_;focus first|omega|rfl|assumption|exact⟨_,rfl,rfl⟩|(simp;omega)|(simp;done)))
 ·rw[if_neg h,decide_eq_false h]
 ·have hl:0<s.length:=by
   cases s with
   |nil=>cases h
   |cons _ _=>simp
  (repeat(with_reducible refine And.intro ?_ ?_;focus first|omega|rfl|assumption|exact⟨_,rfl,rfl⟩|(simp;omega)|(simp;done)))
  rw[if_pos h,decide_eq_true h,H6 _ _ (Nat.le_refl _)]
theorem NG(s:List UInt8)(hs:s.length≤1073741824):aI Tryz.prog 219 [.c (.d (.s s)),.c (.d (.s [39]))] (.d9 [(false,[.d (.s (if s.head? =some 39 then s.tail else s))]),(false,[.d (.b (decide (s.head? =some 39)))])]):=fun S=>by
 refine aD (rs:=[.tmp 4,.tmp 5]) Tryz.checked.mixed Tryz.func219 Tryz.ntmps219 rfl rfl rfl rfl rfl ?_
 simp -implicitDefEqProofs (disch:=omega) only[go_sem]
 refine au (H8 s hs) ?_
 simp -implicitDefEqProofs (disch:=omega) only[go_sem]
theorem zA(xs:List ah)(hx:xs.length≤1073741824)(n:Nat):aI Tryz.prog 218 [.c (.d (.sl (xs.map ah.enc)))] (.d9 [(false,[.d (.ol n ((iN xs).map encS))]),(false,[.d (.b (allA xs))])]):=aI.of_le fun S=>by
 refine kD (n) (rs:=[.tmp 2,.tmp 3]) Tryz.checked.mixed Tryz.func218 Tryz.ntmps218 rfl rfl rfl rfl rfl ?_
 simp -implicitDefEqProofs (disch:=omega) only[go_sem]
 (repeat(with_reducible refine And.intro ?_ ?_;focus first|omega|rfl|assumption|exact⟨_,rfl,rfl⟩|(simp;omega)|(simp;done)))
 refine mJ n 4 1 [] (.inl rfl) (by simp) ?_
 refine aZ (ι:=Nat) Tryz.checked.mixed rfl [4,8,9,10] (fun i=>[.c (.bI (0,1) ((xs.take i).map uj)),.c (.d (.sl (xs.map ah.enc))),.c (.d (.i .i64 xs.length)),.c (.d (.i .i64 i))]) (fun i=>[.seed n,.dZ n 1 ((xs.take i).map uj)]::S)
  (fun i=>i≤xs.length∧∀j,∀hj:j<xs.length,j<i→xs[j].aU≠[]) (fun i=>xs.length-i) 0 rfl rfl ⟨Nat.zero_le _,fun j _ h=>by omega⟩ ?_
 rintro i ⟨p1,p2⟩
 have hl:=ET (l:=xs) (i:=i)
 simp -implicitDefEqProofs (disch:=omega) only[go_sem,ah.aG]
 with_reducible refine aA (fun hb=> ?_) (fun hb=> ?_)<;>have h:=hb<;>(try simp only[wf_preprocess] at h)<;>simp -implicitDefEqProofs (disch:=omega) only[go_sem,hb]<;>(repeat(with_reducible refine And.intro ?_ ?_;focus first|omega|rfl|assumption|exact⟨_,rfl,rfl⟩|(simp;omega)|(simp;done)))
 ·have hi':i<xs.length:=by omega
  have hs:=Dr hi'
  (repeat(with_reducible refine And.intro ?_ ?_;focus first|omega|rfl|assumption|exact⟨_,rfl,rfl⟩|(simp;omega)|(simp;done)))
  with_reducible refine aA (fun hb=> ?_) (fun hb=> ?_)<;>have h:=hb<;>(try simp only[wf_preprocess] at h)<;>simp -implicitDefEqProofs (disch:=omega) only[go_sem,hb]<;>(repeat(with_reducible refine And.intro ?_ ?_;focus first|omega|rfl|assumption|exact⟨_,rfl,rfl⟩|(simp;omega)|(simp;done)))
  ·obtain⟨e1,e2⟩:=Qu hi' h
   rw[e1,e2]
   exact(jM.cons (.cons (fD n) .nil) (.refl _)).less
  ·(repeat(with_reducible refine And.intro ?_ ?_;focus first|omega|rfl|assumption|exact⟨_,rfl,rfl⟩|(simp;omega)|(simp;done)))
   rw[hs]
   refine dO 2 (by decide) (i+1) (by omega) rfl rfl rfl rfl ⟨by omega,fun j hj hji=> ?_⟩
   by_cases e':j=i
   ·subst e';exact h
   ·exact p2 j hj (by omega)
 ·have hi':i=xs.length:=by omega
  subst hi'
  obtain⟨e1,e2⟩:=ND fun j hj=>p2 j hj hj
  rw[e1,e2,List.take_length]
  exact jN _
theorem Cg(x:ah)(hx:x.sz≤4194304)(n:Nat):aI Tryz.prog 124 [x.v] (.c (.d (.ol n ((iN x.ak).map encS)))):=fun S=>by
 have:=gY x
 refine aD (rs:=[.tmp 2]) Tryz.checked.mixed Tryz.func124 Tryz.ntmps124 rfl rfl rfl rfl rfl ?_
 simp -implicitDefEqProofs (disch:=omega) only[go_sem]
 refine au (zA x.ak (by omega) n) ?_
 simp -implicitDefEqProofs (disch:=omega) only[go_sem]
theorem PE(s:List UInt8)(n:Nat):aI Tryz.prog 220 [.c (.d (.s s))] (.agg [.d (.i .i64 1),.d (.s s),.d (.ol n [])]):=aI.of_le fun S=>by
 refine aD (rs:=[.cell 2 57]) Tryz.checked.mixed Tryz.func220 Tryz.ntmps220 rfl rfl rfl rfl rfl ?_
 simp -implicitDefEqProofs (disch:=omega) only[go_sem]
 (repeat(with_reducible refine And.intro ?_ ?_;focus first|omega|rfl|assumption|exact⟨_,rfl,rfl⟩|(simp;omega)|(simp;done)))
 exact Ji _ _ _
theorem PG(s:List UInt8)(n:Nat):aI Tryz.prog 221 [.c (.d (.s s))] (.agg [.d (.i .i64 4),.d (.s s),.d (.ol n [])]):=aI.of_le fun S=>by
 refine aD (rs:=[.cell 2 57]) Tryz.checked.mixed Tryz.func221 Tryz.ntmps221 rfl rfl rfl rfl rfl ?_
 simp -implicitDefEqProofs (disch:=omega) only[go_sem]
 (repeat(with_reducible refine And.intro ?_ ?_;focus first|omega|rfl|assumption|exact⟨_,rfl,rfl⟩|(simp;omega)|(simp;done)))
 exact Ji _ _ _
theorem Ch:∀N:Nat,(∀x:ah,SizeOf.sizeOf x<N→∀n:Nat,x.sz≤4194304→aI Tryz.prog 126 [x.v] ((dU true x).vl n))∧
 (∀xs:List ah,SizeOf.sizeOf xs<N→∀n q:Nat,xs.length≤4194304→(∀t∈xs,t.sz≤4194304)→aI Tryz.prog 222 [.c (.d (.sl (xs.map ah.enc)))] (.c (.d (.ol n (lt (xs.map (dU true)) q)))))
 |0=>⟨fun x h=>by omega,fun x h=>by omega⟩
 |N+1=>by
  obtain⟨ih,ni⟩:=Ch N
  refine⟨fun x hn n hsz=>aI.of_le fun S=> ?_,fun xs hn n q hlen hsz S=> ?_⟩
  ·have iF:=ah.kV x
   have h1:=gY x
   have h2:=BG x
   have hx:=Qr true x
   have hall:∀t∈x.ak,t.sz≤4194304:=fun t ht=>by have:=kg ht;omega
   refine aD (rs:=[.cell 2 57]) Tryz.checked.mixed Tryz.func126 Tryz.ntmps126 rfl rfl rfl rfl rfl ?_
   simp -implicitDefEqProofs (disch:=omega) only[go_sem]
   with_reducible refine aA (fun hb=> ?_) (fun hb=> ?_)<;>have h:=hb<;>(try simp only[wf_preprocess] at h)<;>simp -implicitDefEqProofs (disch:=omega) only[go_sem,hb]<;>(repeat(with_reducible refine And.intro ?_ ?_;focus first|omega|rfl|assumption|exact⟨_,rfl,rfl⟩|(simp;omega)|(simp;done)))
   ·rw[if_neg h] at hx
    refine au (NG x.aU (by omega)) ?_
    simp -implicitDefEqProofs (disch:=omega) only[go_sem]
    with_reducible refine aA (fun hb=> ?_) (fun hb=> ?_)<;>have h:=hb<;>(try simp only[wf_preprocess] at h)<;>simp -implicitDefEqProofs (disch:=omega) only[go_sem,hb]<;>(repeat(with_reducible refine And.intro ?_ ?_;focus first|omega|rfl|assumption|exact⟨_,rfl,rfl⟩|(simp;omega)|(simp;done)))
    ·rw[if_pos h] at hx ⊢
     refine au (PE _ n) ?_
     simp -implicitDefEqProofs (disch:=omega) only[go_sem]
     exact VI hx
    ·rw[if_neg h] at hx
     (repeat(with_reducible refine And.intro ?_ ?_;focus first|omega|rfl|assumption|exact⟨_,rfl,rfl⟩|(simp;omega)|(simp;done)))
     exact VH hx
   rw[if_pos h] at hx
   with_reducible refine aA (fun hb=> ?_) (fun hb=> ?_)<;>have h:=hb<;>(try simp only[wf_preprocess] at h)<;>simp -implicitDefEqProofs (disch:=omega) only[go_sem,hb]<;>(repeat(with_reducible refine And.intro ?_ ?_;focus first|omega|rfl|assumption|exact⟨_,rfl,rfl⟩|(simp;omega)|(simp;done)))
   ·rw[if_pos (by omega)] at hx
    exact VH hx
   rw[if_neg (by omega)] at hx
   have hl2:2≤x.ak.length:=by omega
   have a0:=lX (l:=x.ak) (i:=0) (by omega)
   have a1:=lX (l:=x.ak) (i:=1) (by omega)
   rw[a0,a1] at hx
   have hr:=gV (l:=x.ak)
   have hd:=fun i=>oP x.ak x.ak.length i (Nat.le_refl _)
   have hso:=fun i=>vZ i x.ak
   have hdl:∀i,(x.ak.drop i).length≤4194304:=fun i=>by rw[List.length_drop];omega
   have hda:∀i,∀t∈x.ak.drop i,t.sz≤4194304:=fun i t ht=>hall t (List.mem_of_mem_drop ht)
   (repeat(with_reducible refine And.intro ?_ ?_;focus first|omega|rfl|assumption|exact⟨_,rfl,rfl⟩|(simp;omega)|(simp;done)))
   with_reducible refine aA (fun hb=> ?_) (fun hb=> ?_)<;>have h:=hb<;>(try simp only[wf_preprocess] at h)<;>simp -implicitDefEqProofs (disch:=omega) only[go_sem,hb]<;>(repeat(with_reducible refine And.intro ?_ ?_;focus first|omega|rfl|assumption|exact⟨_,rfl,rfl⟩|(simp;omega)|(simp;done)))
   ·have hx:=hx.trans (if_pos ⟨h,.inl rfl⟩)
    (repeat(with_reducible refine And.intro ?_ ?_;focus first|omega|rfl|assumption|exact⟨_,rfl,rfl⟩|(simp;omega)|(simp;done)))
    refine au (PG _ n) ?_
    simp -implicitDefEqProofs (disch:=omega) only[go_sem]
    exact VI hx
   have hx:=hx.trans (if_neg fun e=>h e.1)
   with_reducible refine aA (fun hb=> ?_) (fun hb=> ?_)<;>have h:=hb<;>(try simp only[wf_preprocess] at h)<;>simp -implicitDefEqProofs (disch:=omega) only[go_sem,hb]<;>(repeat(with_reducible refine And.intro ?_ ?_;focus first|omega|rfl|assumption|exact⟨_,rfl,rfl⟩|(simp;omega)|(simp;done)))
   ·have hx:=hx.trans (if_pos ⟨h,.inl rfl⟩)
    refine⟨⟨by omega,by omega,hr⟩,?_⟩
    rw[hd]
    refine au (ni (x.ak.drop 2) (by have:=hso 2;omega) n (n+1) (hdl 2) (hda 2)) ?_
    simp -implicitDefEqProofs (disch:=omega) only[go_sem]
    refine Zh hx ?_
    rw[List.map_drop]
    exact jN _
   ·have hx:=hx.trans (if_neg fun e=>h e.1)
    refine⟨⟨by omega,by omega,hr⟩,?_⟩
    rw[hd]
    refine au (ni (x.ak.drop 1) (by have:=hso 1;omega) n (n+1) (hdl 1) (hda 1)) ?_
    simp -implicitDefEqProofs (disch:=omega) only[go_sem]
    refine Zh hx ?_
    rw[List.map_drop]
    exact jN _
  ·have xL:=fun(i:Nat) (hi:i<xs.length)=>aaE (l:=xs.map (dU true)) (i:=i) (by rw[List.length_map];exact hi) q
   refine kD (n) (rs:=[.tmp 2]) Tryz.checked.mixed Tryz.func222 Tryz.ntmps222 rfl rfl rfl rfl rfl ?_
   simp -implicitDefEqProofs (disch:=omega) only[go_sem]
   (repeat(with_reducible refine And.intro ?_ ?_;focus first|omega|rfl|assumption|exact⟨_,rfl,rfl⟩|(simp;omega)|(simp;done)))
   refine mJ n 3 3 [] (.inl rfl) (by simp) ?_
   refine aZ (ι:=Nat) Tryz.checked.mixed rfl [3,7,8,9] (fun i=>[.c (.bI (0,1) (lt ((xs.map (dU true)).take i) q)),.c (.d (.sl (xs.map ah.enc))),.c (.d (.i .i64 xs.length)),.c (.d (.i .i64 i))]) (fun i=>[.seed n,.dZ n 3 (lt ((xs.map (dU true)).take i) q)]::S)
    (fun i=>i≤xs.length) (fun i=>xs.length-i) 0 rfl rfl (Nat.zero_le _) ?_
   intro i hi
   simp -implicitDefEqProofs (disch:=omega) only[go_sem,ah.aG]
   with_reducible refine aA (fun hb=> ?_) (fun hb=> ?_)<;>have h:=hb<;>(try simp only[wf_preprocess] at h)<;>simp -implicitDefEqProofs (disch:=omega) only[go_sem,hb]<;>(repeat(with_reducible refine And.intro ?_ ?_;focus first|omega|rfl|assumption|exact⟨_,rfl,rfl⟩|(simp;omega)|(simp;done)))
   ·have hi':i<xs.length:=by omega
    have hs:=xL i hi'
    rw[List.getElem_map] at hs
    have hl:(lt ((xs.map (dU true)).take i) q).length≤i:=by rw[VF];exact List.length_take_le _ _
    (repeat(with_reducible refine And.intro ?_ ?_;focus first|omega|rfl|assumption|exact⟨_,rfl,rfl⟩|(simp;omega)|(simp;done)))
    refine au (ih xs[i] (by have:=List.sizeOf_lt_of_mem (List.getElem_mem hi');omega) (q+fT ((xs.map (dU true)).take i)) (hsz _ (List.getElem_mem hi'))) ?_
    simp -implicitDefEqProofs (disch:=omega) only[go_sem]
    (repeat(with_reducible refine And.intro ?_ ?_;focus first|omega|rfl|assumption|exact⟨_,rfl,rfl⟩|(simp;omega)|(simp;done)))
    rw[hs]
    exact dO 2 (by decide) (i+1) (by omega) rfl rfl rfl rfl (by omega)
   ·have hi':i=(xs.map (dU true)).length:=by rw[List.length_map];omega
    rw[hi',List.take_length]
theorem sI(x:ah)(n:Nat)(hsz:x.sz≤4194304):aI Tryz.prog 126 [x.v] ((dU true x).vl n):=(Ch _).1 x (Nat.lt_succ_self _) n hsz
theorem BH(x:ah)(s:List UInt8)(k:Nat)(hk:1≤k)(hk2:k≤100)(hsz:x.sz≤4194304):aI Tryz.prog 123 [x.v,.c (.d (.s s)),.c (.d (.i .i64 k))] (.c (.d (.b (dec (iL x=true∧k≤x.ak.length∧cO x.ak 0=s))))):=fun S=>by
 have h1:=gY x
 obtain⟨t,ht⟩:∃t,t=dec (iL x=true∧k≤x.ak.length∧cO x.ak 0=s):=⟨_,rfl⟩
 rw[←ht]
 refine aD (rs:=[.tmp 6]) Tryz.checked.mixed Tryz.func123 Tryz.ntmps123 rfl rfl rfl rfl rfl ?_
 simp -implicitDefEqProofs (disch:=omega) only[go_sem]
 refine au (KM x (by omega)) ?_
 simp -implicitDefEqProofs (disch:=omega) only[go_sem]
 with_reducible refine aA (fun hb=> ?_) (fun hb=> ?_)<;>have h:=hb<;>(try simp only[wf_preprocess] at h)<;>simp -implicitDefEqProofs (disch:=omega) only[go_sem,hb]<;>(repeat(with_reducible refine And.intro ?_ ?_;focus first|omega|rfl|assumption|exact⟨_,rfl,rfl⟩|(simp;omega)|(simp;done)))
 ·have hv:=h
  with_reducible refine aA (fun hb=> ?_) (fun hb=> ?_)<;>have h:=hb<;>(try simp only[wf_preprocess] at h)<;>simp -implicitDefEqProofs (disch:=omega) only[go_sem,hb]<;>(repeat(with_reducible refine And.intro ?_ ?_;focus first|omega|rfl|assumption|exact⟨_,rfl,rfl⟩|(simp;omega)|(simp;done)))
  ·have hl:0<x.ak.length:=by omega
   have hl2:k≤x.ak.length:=by omega
   have a0:=lX hl
   (repeat(with_reducible refine And.intro ?_ ?_;focus first|omega|rfl|assumption|exact⟨_,rfl,rfl⟩|(simp;omega)|(simp;done)))
   refine aK ?_
   rw[jW,ht]
   exact iY ⟨fun e=>⟨hv,hl2,by rw[a0];exact e⟩,fun e=>by rw[←a0];exact e.2.2⟩
  ·exact aK (ht.trans (aQ fun e=>by omega)).symm
 ·exact aK (ht.trans (aQ fun e=>by rw[e.1] at h;cases h)).symm
end Go.Proofs.YtlmhknhlmicmeaaGreatDoor
namespace Go.Ab
theorem lY(b:Bool)(x:ah):dK b x=if x.aU=[] then
 if b=true∧(x.ak.length<2∨cO x.ak 0=gy∧x.ak.length<3) then pV
 else if cO x.ak 0=lg then .mk 4 [] (cO x.ak 1) 0 gI ((x.ak.map (dK b)).drop 2) []
 else if cO x.ak 0=oh then .mk 6 [] (cO x.ak 1) 0 gI ((x.ak.map (dK b)).drop 2) []
 else if cO x.ak 0=om then .mk 8 [] (cO x.ak 1) 0 gI ((x.ak.map (dK b)).drop 2) []
 else if cO x.ak 0=lq then .mk 11 (cO x.ak 1) [] 0 gI ((x.ak.map (dK b)).drop 2) []
 else if cO x.ak 0=gy then .mk 5 (cO x.ak 1) (cO x.ak 2) 0 gI ((x.ak.map (dK b)).drop 3) []
 else if cO x.ak 0=sD then .mk 9 [] [] 0 gI ((x.ak.map (dK b)).drop 1) []
 else if cO x.ak 0=oJ then .mk 12 [] [] 0 (dU b (x.ak.getD 1 fu)) ((x.ak.map (dK b)).drop 2) []
 else if cO x.ak 0=iG then .mk 7 [] [] 0 gI (((x.ak.map (dK b)).drop 1).take 1) ((x.ak.map (mU b)).drop 2)
 else .mk 10 [] (cO x.ak 0) 0 gI ((x.ak.map (dK b)).drop 1) []
 else match fC x.aU with
  |some n=>.mk 1 [] [] n gI [] []
  |none=>if x.aU=vY then .mk 2 [] [] 1 gI [] [] else if x.aU=uO then .mk 2 [] [] 0 gI [] [] else .mk 3 [] x.aU 0 gI [] []:=by
 cases x;rw[dK,wN,zu];rfl
theorem Qw(b:Bool)(x:ah)(h:2≤x.ak.length):mU b x=.mk (cO x.ak 0) (iN ((x.ak.drop 1).dropLast)) (dK b (x.ak[x.ak.length-1]'(by omega))):=by
 obtain⟨a,l⟩:=x
 simp only[ah.ak] at h ⊢
 rw[mU,if_neg (by omega),wN]
 congr 1
 rw[List.getLastD_eq_getLast?,List.getLast?_eq_getElem?,List.length_map,List.getElem?_eq_getElem (by rw[List.length_map];omega)]
 simp
theorem Qx(b:Bool)(x:ah)(h:x.ak.length<2):mU b x=.mk [] [] pV:=by
 obtain⟨a,l⟩:=x
 rw[mU]
 exact if_pos h
def sJ(b:Bool)(l:List ah):Prop:=¬(b=true∧(l.length<2∨cO l 0=gy∧l.length<3))
theorem J6{b:Bool}{x:ah}(ha:x.aU=[])(hg:sJ b x.ak)(h:cO x.ak 0=lg):dK b x=.mk 4 [] (cO x.ak 1) 0 gI ((x.ak.drop 2).map (dK b)) []:=by
 rw[lY,if_pos ha,if_neg hg,if_pos h]
 simp only[List.map_drop,List.map_take]
theorem NH{b:Bool}{x:ah}(ha:x.aU=[])(hg:sJ b x.ak)(h:cO x.ak 0=oh):dK b x=.mk 6 [] (cO x.ak 1) 0 gI ((x.ak.drop 2).map (dK b)) []:=by
 rw[lY,if_pos ha,if_neg hg,if_neg (by rw[h];decide),if_pos h]
 simp only[List.map_drop,List.map_take]
theorem NI{b:Bool}{x:ah}(ha:x.aU=[])(hg:sJ b x.ak)(h:cO x.ak 0=om):dK b x=.mk 8 [] (cO x.ak 1) 0 gI ((x.ak.drop 2).map (dK b)) []:=by
 rw[lY,if_pos ha,if_neg hg,if_neg (by rw[h];decide),if_neg (by rw[h];decide),if_pos h]
 simp only[List.map_drop,List.map_take]
theorem J7{b:Bool}{x:ah}(ha:x.aU=[])(hg:sJ b x.ak)(h:cO x.ak 0=lq):dK b x=.mk 11 (cO x.ak 1) [] 0 gI ((x.ak.drop 2).map (dK b)) []:=by
 rw[lY,if_pos ha,if_neg hg,if_neg (by rw[h];decide),if_neg (by rw[h];decide),if_neg (by rw[h];decide),if_pos h]
 simp only[List.map_drop,List.map_take]
theorem EW{b:Bool}{x:ah}(ha:x.aU=[])(hg:sJ b x.ak)(h:cO x.ak 0=gy):dK b x=.mk 5 (cO x.ak 1) (cO x.ak 2) 0 gI ((x.ak.drop 3).map (dK b)) []:=by
 rw[lY,if_pos ha,if_neg hg,if_neg (by rw[h];decide),if_neg (by rw[h];decide),if_neg (by rw[h];decide),if_neg (by rw[h];decide),if_pos h]
 simp only[List.map_drop,List.map_take]
theorem Qy{b:Bool}{x:ah}(ha:x.aU=[])(hg:sJ b x.ak)(h:cO x.ak 0=sD):dK b x=.mk 9 [] [] 0 gI ((x.ak.drop 1).map (dK b)) []:=by
 rw[lY,if_pos ha,if_neg hg,if_neg (by rw[h];decide),if_neg (by rw[h];decide),if_neg (by rw[h];decide),if_neg (by rw[h];decide),if_neg (by rw[h];decide),if_pos h]
 simp only[List.map_drop,List.map_take]
theorem NJ{b:Bool}{x:ah}(ha:x.aU=[])(hg:sJ b x.ak)(h:cO x.ak 0=oJ):dK b x=.mk 12 [] [] 0 (dU b (x.ak.getD 1 fu)) ((x.ak.drop 2).map (dK b)) []:=by
 rw[lY,if_pos ha,if_neg hg,if_neg (by rw[h];decide),if_neg (by rw[h];decide),if_neg (by rw[h];decide),if_neg (by rw[h];decide),if_neg (by rw[h];decide),if_neg (by rw[h];decide),if_pos h]
 simp only[List.map_drop,List.map_take]
theorem J8{b:Bool}{x:ah}(ha:x.aU=[])(hg:sJ b x.ak)(h:cO x.ak 0=iG):dK b x=.mk 7 [] [] 0 gI (((x.ak.drop 1).take 1).map (dK b)) ((x.ak.drop 2).map (mU b)):=by
 rw[lY,if_pos ha,if_neg hg,if_neg (by rw[h];decide),if_neg (by rw[h];decide),if_neg (by rw[h];decide),if_neg (by rw[h];decide),if_neg (by rw[h];decide),if_neg (by rw[h];decide),if_neg (by rw[h];decide),if_pos h]
 simp only[List.map_drop,List.map_take]
theorem J9{b:Bool}{x:ah}(ha:x.aU=[])(hg:sJ b x.ak)(h0:cO x.ak 0≠lg)(h1:cO x.ak 0≠oh)(h2:cO x.ak 0≠om)(h3:cO x.ak 0≠lq)(h4:cO x.ak 0≠gy)(h5:cO x.ak 0≠sD)(h6:cO x.ak 0≠oJ)(h7:cO x.ak 0≠iG):dK b x=.mk 10 [] (cO x.ak 0) 0 gI ((x.ak.drop 1).map (dK b)) []:=by
 rw[lY,if_pos ha,if_neg hg,if_neg h0,if_neg h1,if_neg h2,if_neg h3,if_neg h4,if_neg h5,if_neg h6,if_neg h7]
 simp only[List.map_drop,List.map_take]
theorem Ka{x:ah}(ha:x.aU=[])(hg:¬sJ true x.ak):dK true x=pV:=by
 rw[lY,if_pos ha,if_pos (Decidable.not_not.1 hg)]
theorem NK{b:Bool}{x:ah}{n:Int}(ha:x.aU≠[])(h:fC x.aU=some n):dK b x=.mk 1 [] [] n gI [] []:=by
 rw[lY,if_neg ha,h]
theorem Kc{b:Bool}{x:ah}(ha:x.aU≠[])(h:fC x.aU=none)(h1:x.aU=vY):dK b x=.mk 2 [] [] 1 gI [] []:=by
 rw[lY,if_neg ha,h];exact if_pos h1
theorem H9{b:Bool}{x:ah}(ha:x.aU≠[])(h:fC x.aU=none)(h1:x.aU≠vY)(h2:x.aU=uO):dK b x=.mk 2 [] [] 0 gI [] []:=by
 rw[lY,if_neg ha,h];exact(if_neg h1).trans (if_pos h2)
theorem NM{b:Bool}{x:ah}(ha:x.aU≠[])(h:fC x.aU=none)(h1:x.aU≠vY)(h2:x.aU≠uO):dK b x=.mk 3 [] x.aU 0 gI [] []:=by
 rw[lY,if_neg ha,h];exact(if_neg h1).trans (if_neg h2)
def lE(l:List ay)(n:Nat):List (List D):=eG (l.map ay.enc) n
def lZ(l:List ay):Nat:=jy (l.map ay.enc)
def lM(l:List aJ)(n:Nat):List (List D):=eG (l.map aJ.enc) n
def SQ(l:List aJ):Nat:=jy (l.map aJ.enc)
abbrev ay.vl (x:ay) (n:Nat):V:=.agg [.d (.i .i64 x.aH),.d (.s x.aW),.d (.s x.fName),.d (.i .i64 x.fN),.d (.i .i64 x.fType.aH),.d (.s x.fType.fName),.d (.ol n (lt x.fType.fArgs (n+1))),
 .d (.ol (n+(fT x.fType.fArgs+1)) (lE x.fArgs (n+(fT x.fType.fArgs+1)+1))),.d (.ol (n+(fT x.fType.fArgs+1)+(lZ x.fArgs+1)) (lM x.aL (n+(fT x.fType.fArgs+1)+(lZ x.fArgs+1)+1)))]
theorem NN(x:ay)(n:Nat):eB x.enc n=[.i .i64 x.aH,.s x.aW,.s x.fName,.i .i64 x.fN,.i .i64 x.fType.aH,.s x.fType.fName,.ol n (lt x.fType.fArgs (n+1)),
 .ol (n+(fT x.fType.fArgs+1)) (lE x.fArgs (n+(fT x.fType.fArgs+1)+1)),.ol (n+(fT x.fType.fArgs+1)+(lZ x.fArgs+1)) (lM x.aL (n+(fT x.fType.fArgs+1)+(lZ x.fArgs+1)+1))]:=by
 simp only[ay.aG,aj.aG,List.cons_append,List.nil_append,eB,lH,nZ,Nat.add_zero,lt,lE,lM,fT,lZ]
theorem YA(x:aJ)(n:Nat):eB x.enc n=[.s x.bR,.ol n (x.aC.map encS)]++eB x.fBody.enc (n+1):=by
 rw[aJ.aG,ED]
 simp only[eB,lH,oC,nZ,Nat.add_zero,Bo,FJ,Nat.zero_add]
abbrev aJ.vl (x:aJ) (n:Nat):V:=.agg [.d (.s x.bR),.d (.ol n (x.aC.map encS)),.d (.i .i64 x.fBody.aH),.d (.s x.fBody.aW),.d (.s x.fBody.fName),.d (.i .i64 x.fBody.fN),.d (.i .i64 x.fBody.fType.aH),.d (.s x.fBody.fType.fName),.d (.ol (n+1) (lt x.fBody.fType.fArgs (n+1+1))),
 .d (.ol (n+1+(fT x.fBody.fType.fArgs+1)) (lE x.fBody.fArgs (n+1+(fT x.fBody.fType.fArgs+1)+1))),.d (.ol (n+1+(fT x.fBody.fType.fArgs+1)+(lZ x.fBody.fArgs+1)) (lM x.fBody.aL (n+1+(fT x.fBody.fType.fArgs+1)+(lZ x.fBody.fArgs+1)+1)))]
theorem VJ(l:List ay)(n:Nat):(lE l n).length=l.length:=by unfold lE;rw[jk,List.length_map]
theorem VK(l:List aJ)(n:Nat):(lM l n).length=l.length:=by unfold lM;rw[jk,List.length_map]
theorem aaF{l:List ay}{i:Nat}(hi:i<l.length)(n:Nat):lE (l.take i) n++[eB l[i].enc (n+lZ (l.take i))]=lE (l.take (i+1)) n:=by
 rw[List.take_succ_eq_append_getElem hi]
 unfold lE lZ
 rw[List.map_append,oD];rfl
theorem aaG{l:List aJ}{i:Nat}(hi:i<l.length)(n:Nat):lM (l.take i) n++[eB l[i].enc (n+SQ (l.take i))]=lM (l.take (i+1)) n:=by
 rw[List.take_succ_eq_append_getElem hi]
 unfold lM SQ
 rw[List.map_append,oD];rfl
theorem VL{l:List ay}{i:Nat}(hi:i<l.length):(l.take i).map ay.enc++[l[i].enc]=(l.take (i+1)).map ay.enc:=by
 rw[List.take_succ_eq_append_getElem hi,List.map_append];rfl
theorem VN{l:List aJ}{i:Nat}(hi:i<l.length):(l.take i).map aJ.enc++[l[i].enc]=(l.take (i+1)).map aJ.enc:=by
 rw[List.take_succ_eq_append_getElem hi,List.map_append];rfl
theorem Qz{x:ay}{n:Nat}{k N:Int}{tr nm:List UInt8}(h:x=.mk k tr nm N gI [] []):Less (.agg [.d (.i .i64 k),.d (.s tr),.d (.s nm),.d (.i .i64 N),.d (.i .i64 0),.d (.s []),.aM [],.aM [],.aM []]) (x.vl n):=by
 rw[h]
 exact(eD.cons (.refl _) (.cons (.refl _) (.cons (.refl _) (.cons (.refl _) (.cons (.refl _) (.cons (.refl _) (.cons (fD _) (.cons (fD _) (.cons (fD _) .nil))))))))).less
theorem NP{x:ay}{n:Nat}{k N:Int}{tr nm:List UInt8}{args:List ay}(h:x=.mk k tr nm N gI args []):Less (.agg [.d (.i .i64 k),.d (.s tr),.d (.s nm),.d (.i .i64 N),.d (.i .i64 0),.d (.s []),.aM [],.d (.ol (n+1) (lE args (n+1+1))),.aM []]) (x.vl n):=by
 rw[h]
 exact(eD.cons (.refl _) (.cons (.refl _) (.cons (.refl _) (.cons (.refl _) (.cons (.refl _) (.cons (.refl _) (.cons (fD _) (.cons (.refl _) (.cons (fD _) .nil))))))))).less
theorem ie2{x:ay}{n:Nat}{k N:Int}{tr nm:List UInt8}{ty:aj}{args:List ay}(h:x=.mk k tr nm N ty args []):Less (.agg [.d (.i .i64 k),.d (.s tr),.d (.s nm),.d (.i .i64 N),.d (.i .i64 ty.aH),.d (.s ty.fName),.d (.ol n (lt ty.fArgs (n+1))),.d (.ol (n+(fT ty.fArgs+1)) (lE args (n+(fT ty.fArgs+1)+1))),.aM []]) (x.vl n):=by
 rw[h]
 exact(eD.cons (.refl _) (.cons (.refl _) (.cons (.refl _) (.cons (.refl _) (.cons (.refl _) (.cons (.refl _) (.cons (.refl _) (.cons (.refl _) (.cons (fD _) .nil))))))))).less
theorem ie3{x:ay}{n:Nat}{k N:Int}{tr nm:List UInt8}{args:List ay}{arms:List aJ}(h:x=.mk k tr nm N gI args arms):Less (.agg [.d (.i .i64 k),.d (.s tr),.d (.s nm),.d (.i .i64 N),.d (.i .i64 0),.d (.s []),.aM [],.d (.ol (n+1) (lE args (n+1+1))),.d (.ol (n+1+(lZ args+1)) (lM arms (n+1+(lZ args+1)+1)))]) (x.vl n):=by
 rw[h]
 exact(eD.cons (.refl _) (.cons (.refl _) (.cons (.refl _) (.cons (.refl _) (.cons (.refl _) (.cons (.refl _) (.cons (fD _) (.cons (.refl _) (.cons (.refl _) .nil))))))))).less
theorem Zi{x:ay}{k N:Int}{tr nm:List UInt8}(h:x=.mk k tr nm N gI [] []):Less (.agg [.d (.i .i64 k),.d (.s tr),.d (.s nm),.d (.i .i64 N),.d (.i .i64 0),.d (.s []),.aM [],.aM [],.aM []]) x.v:=by
 rw[h]
 exact(eD.cons (.refl _) (.cons (.refl _) (.cons (.refl _) (.cons (.refl _) (.cons (.refl _) (.cons (.refl _) (.cons (gN _) (.cons (gN _) (.cons (gN _) .nil))))))))).less
theorem NQ{x:ay}{k N:Int}{tr nm:List UInt8}{args:List ay}(h:x=.mk k tr nm N gI args []):Less (.agg [.d (.i .i64 k),.d (.s tr),.d (.s nm),.d (.i .i64 N),.d (.i .i64 0),.d (.s []),.aM [],.d (.sl (args.map ay.enc)),.aM []]) x.v:=by
 rw[h]
 exact(eD.cons (.refl _) (.cons (.refl _) (.cons (.refl _) (.cons (.refl _) (.cons (.refl _) (.cons (.refl _) (.cons (gN _) (.cons (.refl _) (.cons (gN _) .nil))))))))).less
theorem se2{x:ay}{k N:Int}{tr nm:List UInt8}{ty:aj}{args:List ay}(h:x=.mk k tr nm N ty args []):Less (.agg [.d (.i .i64 k),.d (.s tr),.d (.s nm),.d (.i .i64 N),.d (.i .i64 ty.aH),.d (.s ty.fName),.d (.sl (ty.fArgs.map aj.enc)),.d (.sl (args.map ay.enc)),.aM []]) x.v:=by
 rw[h]
 exact(eD.cons (.refl _) (.cons (.refl _) (.cons (.refl _) (.cons (.refl _) (.cons (.refl _) (.cons (.refl _) (.cons (.refl _) (.cons (.refl _) (.cons (gN _) .nil))))))))).less
theorem se3{x:ay}{k N:Int}{tr nm:List UInt8}{args:List ay}{arms:List aJ}(h:x=.mk k tr nm N gI args arms):Less (.agg [.d (.i .i64 k),.d (.s tr),.d (.s nm),.d (.i .i64 N),.d (.i .i64 0),.d (.s []),.aM [],.d (.sl (args.map ay.enc)),.d (.sl (arms.map aJ.enc))]) x.v:=by
 rw[h]
 exact(eD.cons (.refl _) (.cons (.refl _) (.cons (.refl _) (.cons (.refl _) (.cons (.refl _) (.cons (.refl _) (.cons (gN _) (.cons (.refl _) (.cons (.refl _) .nil))))))))).less
theorem PI(l:List ah)(i:Nat):((l.map ah.enc).take l.length).drop (min i l.length)=(l.drop i).map ah.enc:=by
 rw[oP _ _ _ (Nat.le_refl _)]
 by_cases h:i≤l.length
 ·rw[Nat.min_eq_left h]
 ·rw[Nat.min_eq_right (by omega),List.drop_length,List.drop_of_length_le (by omega)]
theorem aaH(l:List ah):((l.map ah.enc).take (min 2 l.length)).drop 1=((l.drop 1).take 1).map ah.enc:=by
 match l with
 |[]=>rfl
 |[x]=>rfl
 |x::y::l=>simp[show min 2 (l.length+1+1)=2 by omega]
theorem SS(l:List ah)(i:Nat)(h:i<l.length+3):(l.map ah.enc++([[.s [],.sl []],[.s [],.sl []],[.s [],.sl []]]:List (List D))).getD i []=[.s (cO l i),.sl ((l.getD i fu).ak.map ah.enc)]:=by
 rw[List.getD_eq_getElem?_getD,List.getElem?_append]
 split
 ·rename_i hi
  rw[List.length_map] at hi
  rw[List.getElem?_map,List.getElem?_eq_getElem hi]
  simp only[Option.map_some,Option.getD_some]
  rw[ah.aG,lX hi,List.getD_eq_getElem?_getD,List.getElem?_eq_getElem hi];rfl
 ·rename_i hi
  rw[List.length_map] at hi
  rw[Aq (by omega),List.getD_eq_getElem?_getD,List.getElem?_eq_none (by omega:l.length≤i),List.length_map]
  have:i-l.length=0∨i-l.length=1∨i-l.length=2:=by omega
  rcases this with e|e|e<;>rw[e]<;>rfl
theorem Ke(l:List ah)(h:2≤l.length):((l.map ah.enc).take ((l.length:Int)-1).toNat).drop 1=((l.drop 1).dropLast).map ah.enc:=by
 rw[show((l.length:Int)-1).toNat=l.length-1 by omega,←List.map_take,←List.map_drop,List.dropLast_eq_take,List.length_drop,List.drop_take]
theorem yR(x:ah)(i:Nat){m:Nat}(h:x.sz≤m):(x.ak.getD i fu).sz≤m:=by
 have:=Yz x.ak i
 have:=gY x
 omega
theorem tq{l:List ah}(h:iC l=true){t:ah}(ht:t∈l):iB t=true:=xJ.1 h t ht
theorem nT{l:List ah}(h:iC l=true)(i:Nat):iC (l.drop i)=true:=xJ.2 fun t ht=>tq h (List.mem_of_mem_drop ht)
theorem VO{l:List ah}(h:iC l=true)(i:Nat):iC (l.take i)=true:=xJ.2 fun t ht=>tq h (List.mem_of_mem_take ht)
theorem zT{α:Type}[SizeOf α]:∀(i:Nat) (l:List α),SizeOf.sizeOf (l.take i)≤SizeOf.sizeOf l
 |0,[]=>by simp
 |0,x::l=>by rw[List.take_zero];simp only[List.cons.sizeOf_spec,List.nil.sizeOf_spec];omega
 |i+1,[]=>by simp
 |i+1,x::l=>by
  have:=zT i l
  rw[List.take_succ_cons];simp only[List.cons.sizeOf_spec];omega
end Go.Ab
namespace Go.Proofs.YtlmhknhlmicmeaaGreatDoor
open Go Go.Ab
theorem SV(n:Int):aI Tryz.prog 198 [.c (.d (.i .i64 n))] (.agg [.d (.i .i64 1),.d (.s []),.d (.s []),.d (.i .i64 n),.d (.i .i64 0),.d (.s []),.aM [],.aM [],.aM []]):=fun S=>by
 refine aD (rs:=[.cell 2 61]) Tryz.checked.mixed Tryz.func198 Tryz.ntmps198 rfl rfl rfl rfl rfl ?_
 simp -implicitDefEqProofs (disch:=omega) only[go_sem]
theorem PK(s:List UInt8):aI Tryz.prog 199 [.c (.d (.s s))] (.agg [.d (.i .i64 3),.d (.s []),.d (.s s),.d (.i .i64 0),.d (.i .i64 0),.d (.s []),.aM [],.aM [],.aM []]):=fun S=>by
 refine aD (rs:=[.cell 2 61]) Tryz.checked.mixed Tryz.func199 Tryz.ntmps199 rfl rfl rfl rfl rfl ?_
 simp -implicitDefEqProofs (disch:=omega) only[go_sem]
theorem Dv:∀N:Nat,(∀x:ah,SizeOf.sizeOf x<N→x.sz≤4194304→aI Tryz.prog 105 [x.v] (dK false x).v)∧
 (∀xs:List ah,SizeOf.sizeOf xs<N→xs.length≤4194304→(∀t∈xs,t.sz≤4194304)→aI Tryz.prog 200 [.c (.d (.sl (xs.map ah.enc)))] (.c (.d (.sl ((xs.map (dK false)).map ay.enc)))))∧
 (∀x:ah,SizeOf.sizeOf x<N→x.sz≤4194304→aI Tryz.prog 202 [x.v] (mU false x).v)
 |0=>⟨fun x h=>by omega,fun x h=>by omega,fun x h=>by omega⟩
 |N+1=>by
  obtain⟨ih,ni,ihM⟩:=Dv N
  refine⟨fun x hn hsz=>aI.of_le fun S=> ?_,fun xs hn hlen hsz S=> ?_,fun x hn hsz=>aI.of_le fun S=> ?_⟩
  ·have iF:=ah.kV x
   have h1:=gY x
   have h2:=BG x
   have hall:∀t∈x.ak,t.sz≤4194304:=fun t ht=>by have:=kg ht;omega
   have hr:=gV (l:=x.ak)
   have hso:=fun i=>vZ i x.ak
   have hdl:∀i,(x.ak.drop i).length≤4194304:=fun i=>by rw[List.length_drop];omega
   have hda:∀i,∀t∈x.ak.drop i,t.sz≤4194304:=fun i t ht=>hall t (List.mem_of_mem_drop ht)
   have hg:sJ false x.ak:=fun e=>by cases e.1
   refine aD (rs:=[.cell 2 61]) Tryz.checked.mixed Tryz.func105 Tryz.ntmps105 rfl rfl rfl rfl rfl ?_
   simp -implicitDefEqProofs (disch:=omega) only[go_sem]
   with_reducible refine aA (fun hb=> ?_) (fun hb=> ?_)<;>have h:=hb<;>(try simp only[wf_preprocess] at h)<;>simp -implicitDefEqProofs (disch:=omega) only[go_sem,hb]<;>(repeat(with_reducible refine And.intro ?_ ?_;focus first|omega|rfl|assumption|exact⟨_,rfl,rfl⟩|(simp;omega)|(simp;done)))
   ·have hne:=h
    refine au (HZ x.aU (by omega)) ?_
    cases wR:fC x.aU with
    |some m=>
     simp -implicitDefEqProofs (disch:=omega) only[go_sem,Option.getD_some,Option.isSome_some]
     refine au (SV m) ?_
     simp -implicitDefEqProofs (disch:=omega) only[go_sem]
     exact Zi (NK hne wR)
    |none=>
     simp -implicitDefEqProofs (disch:=omega) only[go_sem,Option.getD_none,Option.isSome_none]
     with_reducible refine aA (fun hb=> ?_) (fun hb=> ?_)<;>have h:=hb<;>(try simp only[wf_preprocess] at h)<;>simp -implicitDefEqProofs (disch:=omega) only[go_sem,hb]<;>(repeat(with_reducible refine And.intro ?_ ?_;focus first|omega|rfl|assumption|exact⟨_,rfl,rfl⟩|(simp;omega)|(simp;done)))
     ·exact Zi (Kc hne wR h)
     have k1:=h
     with_reducible refine aA (fun hb=> ?_) (fun hb=> ?_)<;>have h:=hb<;>(try simp only[wf_preprocess] at h)<;>simp -implicitDefEqProofs (disch:=omega) only[go_sem,hb]<;>(repeat(with_reducible refine And.intro ?_ ?_;focus first|omega|rfl|assumption|exact⟨_,rfl,rfl⟩|(simp;omega)|(simp;done)))
     ·exact Zi (H9 hne wR k1 h)
     have k2:=h
     refine au (PK _) ?_
     simp -implicitDefEqProofs (disch:=omega) only[go_sem]
     exact Zi (NM hne wR k1 k2)
   have ha:=h
   have l0:=SS x.ak 0 (by omega)
   have l1:=SS x.ak 1 (by omega)
   have l2:=SS x.ak 2 (by omega)
   have hm1:min (1:Int) (x.ak.length:Int)=((min 1 x.ak.length:Nat):Int):=by omega
   have hm2:min (2:Int) (x.ak.length:Int)=((min 2 x.ak.length:Nat):Int):=by omega
   have hm3:min (3:Int) (x.ak.length:Int)=((min 3 x.ak.length:Nat):Int):=by omega
   have hd:=fun i=>PI x.ak i
   have hdd:=oP x.ak x.ak.length 1 (Nat.le_refl _)
   simp -implicitDefEqProofs (disch:=omega) only[go_sem,l0,l1,l2]
   (repeat(with_reducible refine And.intro ?_ ?_;focus first|omega|rfl|assumption|exact⟨_,rfl,rfl⟩|(simp;omega)|(simp;done)))
   with_reducible refine aA (fun hb=> ?_) (fun hb=> ?_)<;>have h:=hb<;>(try simp only[wf_preprocess] at h)<;>simp -implicitDefEqProofs (disch:=omega) only[go_sem,hb,l0,l1,l2]<;>(repeat(with_reducible refine And.intro ?_ ?_;focus first|omega|rfl|assumption|exact⟨_,rfl,rfl⟩|(simp;omega)|(simp;done)))
   ·refine au (pG _ _) ?_
    rw[hm2]
    simp -implicitDefEqProofs (disch:=omega) only[go_sem]
    refine⟨⟨by omega,by omega,by omega,hr⟩,?_⟩
    rw[hd]
    refine au (ni (x.ak.drop 2) (by have:=hso 2;omega) (hdl 2) (hda 2)) ?_
    simp -implicitDefEqProofs (disch:=omega) only[go_sem]
    exact NQ (J6 ha hg h)
   have SX:=h
   with_reducible refine aA (fun hb=> ?_) (fun hb=> ?_)<;>have h:=hb<;>(try simp only[wf_preprocess] at h)<;>simp -implicitDefEqProofs (disch:=omega) only[go_sem,hb,l0,l1,l2]<;>(repeat(with_reducible refine And.intro ?_ ?_;focus first|omega|rfl|assumption|exact⟨_,rfl,rfl⟩|(simp;omega)|(simp;done)))
   ·refine au (pG _ _) ?_
    rw[hm3]
    simp -implicitDefEqProofs (disch:=omega) only[go_sem]
    refine⟨⟨by omega,by omega,by omega,hr⟩,?_⟩
    rw[hd]
    refine au (ni (x.ak.drop 3) (by have:=hso 3;omega) (hdl 3) (hda 3)) ?_
    simp -implicitDefEqProofs (disch:=omega) only[go_sem]
    exact NQ (EW ha hg h)
   have Ec:=h
   with_reducible refine aA (fun hb=> ?_) (fun hb=> ?_)<;>have h:=hb<;>(try simp only[wf_preprocess] at h)<;>simp -implicitDefEqProofs (disch:=omega) only[go_sem,hb,l0,l1,l2]<;>(repeat(with_reducible refine And.intro ?_ ?_;focus first|omega|rfl|assumption|exact⟨_,rfl,rfl⟩|(simp;omega)|(simp;done)))
   ·refine au (pG _ _) ?_
    rw[hm2]
    simp -implicitDefEqProofs (disch:=omega) only[go_sem]
    refine⟨⟨by omega,by omega,by omega,hr⟩,?_⟩
    rw[hd]
    refine au (ni (x.ak.drop 2) (by have:=hso 2;omega) (hdl 2) (hda 2)) ?_
    simp -implicitDefEqProofs (disch:=omega) only[go_sem]
    exact NQ (NH ha hg h)
   have nNew:=h
   with_reducible refine aA (fun hb=> ?_) (fun hb=> ?_)<;>have h:=hb<;>(try simp only[wf_preprocess] at h)<;>simp -implicitDefEqProofs (disch:=omega) only[go_sem,hb,l0,l1,l2]<;>(repeat(with_reducible refine And.intro ?_ ?_;focus first|omega|rfl|assumption|exact⟨_,rfl,rfl⟩|(simp;omega)|(simp;done)))
   ·refine au (pG _ _) ?_
    rw[hm2]
    simp -implicitDefEqProofs (disch:=omega) only[go_sem]
    refine⟨⟨by omega,by omega,by omega,hr⟩,?_⟩
    rw[hd]
    refine au (ni (x.ak.drop 2) (by have:=hso 2;omega) (hdl 2) (hda 2)) ?_
    simp -implicitDefEqProofs (disch:=omega) only[go_sem]
    exact NQ (NI ha hg h)
   have YB:=h
   with_reducible refine aA (fun hb=> ?_) (fun hb=> ?_)<;>have h:=hb<;>(try simp only[wf_preprocess] at h)<;>simp -implicitDefEqProofs (disch:=omega) only[go_sem,hb,l0,l1,l2]<;>(repeat(with_reducible refine And.intro ?_ ?_;focus first|omega|rfl|assumption|exact⟨_,rfl,rfl⟩|(simp;omega)|(simp;done)))
   ·have hpos:0<x.ak.length:=by
     rcases Nat.eq_zero_or_pos x.ak.length with e|e
     ·rw[Aq (by omega)] at h;cases h
     ·exact e
    refine⟨⟨by omega,by omega,hr⟩,?_⟩
    rw[hdd]
    refine au (ni (x.ak.drop 1) (by have:=hso 1;omega) (hdl 1) (hda 1)) ?_
    simp -implicitDefEqProofs (disch:=omega) only[go_sem]
    exact NQ (Qy ha hg h)
   have nIf:=h
   with_reducible refine aA (fun hb=> ?_) (fun hb=> ?_)<;>have h:=hb<;>(try simp only[wf_preprocess] at h)<;>simp -implicitDefEqProofs (disch:=omega) only[go_sem,hb,l0,l1,l2]<;>(repeat(with_reducible refine And.intro ?_ ?_;focus first|omega|rfl|assumption|exact⟨_,rfl,rfl⟩|(simp;omega)|(simp;done)))
   ·refine au (pG _ _) ?_
    rw[hm2]
    simp -implicitDefEqProofs (disch:=omega) only[go_sem]
    refine⟨⟨by omega,by omega,by omega,hr⟩,?_⟩
    rw[hd]
    refine au (ni (x.ak.drop 2) (by have:=hso 2;omega) (hdl 2) (hda 2)) ?_
    simp -implicitDefEqProofs (disch:=omega) only[go_sem]
    exact NQ (J7 ha hg h)
   have SY:=h
   with_reducible refine aA (fun hb=> ?_) (fun hb=> ?_)<;>have h:=hb<;>(try simp only[wf_preprocess] at h)<;>simp -implicitDefEqProofs (disch:=omega) only[go_sem,hb,l0,l1,l2]<;>(repeat(with_reducible refine And.intro ?_ ?_;focus first|omega|rfl|assumption|exact⟨_,rfl,rfl⟩|(simp;omega)|(simp;done)))
   ·refine au (uQ (x.ak.getD 1 fu) (yR x 1 hsz)) ?_
    simp -implicitDefEqProofs (disch:=omega) only[go_sem]
    refine au (pG _ _) ?_
    rw[hm2]
    simp -implicitDefEqProofs (disch:=omega) only[go_sem]
    refine⟨⟨by omega,by omega,by omega,hr⟩,?_⟩
    rw[hd]
    refine au (ni (x.ak.drop 2) (by have:=hso 2;omega) (hdl 2) (hda 2)) ?_
    simp -implicitDefEqProofs (disch:=omega) only[go_sem]
    exact se2 (NJ ha hg h)
   have nThe:=h
   with_reducible refine aA (fun hb=> ?_) (fun hb=> ?_)<;>have h:=hb<;>(try simp only[wf_preprocess] at h)<;>simp -implicitDefEqProofs (disch:=omega) only[go_sem,hb,l0,l1,l2]<;>(repeat(with_reducible refine And.intro ?_ ?_;focus first|omega|rfl|assumption|exact⟨_,rfl,rfl⟩|(simp;omega)|(simp;done)))
   ·have hpos:0<x.ak.length:=by
     rcases Nat.eq_zero_or_pos x.ak.length with e|e
     ·rw[Aq (by omega)] at h;cases h
     ·exact e
    have hdec:=J8 ha hg h
    refine au (pG _ _) ?_
    rw[hm2]
    simp -implicitDefEqProofs (disch:=omega) only[go_sem]
    refine⟨⟨by omega,by omega,hr⟩,?_⟩
    rw[aaH]
    refine au (ni ((x.ak.drop 1).take 1) (by have:=hso 1;have:=zT 1 (x.ak.drop 1);omega) (by rw[List.length_take];omega) (fun t ht=>hda 1 t (List.mem_of_mem_take ht))) ?_
    simp -implicitDefEqProofs (disch:=omega) only[go_sem]
    obtain⟨Kg,S9⟩:∃Kg,Kg=((x.ak.drop 1).take 1).map (dK false):=⟨_,rfl⟩
    obtain⟨T,hT⟩:∃T:Nat→List (List D),T=fun k=>(((x.ak.drop 2).map (mU false)).take k).map aJ.enc:=⟨_,rfl⟩
    have hT0:T 0=[]:=by rw[hT];rfl
    have kF:∀k,(T k).length≤k:=fun k=>by rw[hT];simp only[List.length_map];exact List.length_take_le _ _
    have hTs:∀k (hk:k+2<x.ak.length),T k++[(mU false x.ak[k+2]).enc]=T (k+1):=fun k hk=>by
     have:=VN (l:=(x.ak.drop 2).map (mU false)) (i:=k) (by rw[List.length_map,List.length_drop];omega)
     rw[List.getElem_map,List.getElem_drop] at this
     rw[hT];simp only[Nat.add_comm 2 k] at this ⊢;exact this
    have hTe:T (x.ak.length-2)=((x.ak.drop 2).map (mU false)).map aJ.enc:=by
     rw[hT];simp only
     rw[List.take_of_length_le (by simp)]
    clear hT
    rw[←S9] at hdec ⊢
    refine Dq 3 8 11 _ rfl rfl ?_
    refine aZ (ι:=Nat) Tryz.checked.mixed rfl [1,2,6,8,9] (fun k=>[.c (.ptr (0,0) 0),.c (.ptr (0,1) 0),.c (.d (.i .i64 x.ak.length)),.c (.ptr (0,3) 0),.c (.d (.i .i64 ((k+2:Nat):Int)))])
     (fun k=>[.box [.d (.s x.aU),.d (.sl (x.ak.map ah.enc))],.box [.d (.i .i64 0),.d (.s []),.d (.s []),.d (.i .i64 0),.d (.i .i64 0),.d (.s []),.aM [],.aM [],.aM []],.tok 2 (x.ak.map ah.enc++[[.s [],.sl []],[.s [],.sl []],[.s [],.sl []]]),
       .box [.d (.i .i64 7),.d (.s []),.d (.s []),.d (.i .i64 0),.d (.i .i64 0),.d (.s []),.aM [],.d (.sl (Kg.map ay.enc)),.bI (0,4) (T k)],.tok 11 (T k)]::S)
     (fun k=>k≤x.ak.length-2) (fun k=>x.ak.length-(k+2)) 0 rfl (by rw[hT0];rfl) (Nat.zero_le _) ?_
    intro k hk
    have hlk:=kF k
    clear l0 l1 l2
    simp -implicitDefEqProofs (disch:=omega) only[go_sem]
    with_reducible refine aA (fun hb=> ?_) (fun hb=> ?_)<;>have h:=hb<;>(try simp only[wf_preprocess] at h)<;>simp -implicitDefEqProofs (disch:=omega) only[go_sem,hb]<;>(repeat(with_reducible refine And.intro ?_ ?_;focus first|omega|rfl|assumption|exact⟨_,rfl,rfl⟩|(simp;omega)|(simp;done)))
    ·have hk':k+2<x.ak.length:=by omega
     have hm:=List.getElem_mem hk'
     have hs:=hTs k hk'
     simp only[aJ.aG,ay.aG,aj.aG,List.cons_append,List.nil_append] at hs
     (repeat(with_reducible refine And.intro ?_ ?_;focus first|omega|rfl|assumption|exact⟨_,rfl,rfl⟩|(simp;omega)|(simp;done)))
     refine au (ihM x.ak[k+2] (by have:=List.sizeOf_lt_of_mem hm;omega) (hall _ hm)) ?_
     simp -implicitDefEqProofs (disch:=omega) only[go_sem]
     (repeat(with_reducible refine And.intro ?_ ?_;focus first|omega|rfl|assumption|exact⟨_,rfl,rfl⟩|(simp;omega)|(simp;done)))
     rw[hs]
     exact bL (k+1) (by omega) rfl rfl (by omega)
    ·have hk':k=x.ak.length-2:=by omega
     subst hk'
     rw[hTe]
     exact se3 hdec
   have Ta:=h
   refine au (pG _ _) ?_
   rw[hm1]
   simp -implicitDefEqProofs (disch:=omega) only[go_sem]
   refine⟨⟨by omega,by omega,by omega,hr⟩,?_⟩
   rw[hd]
   refine au (ni (x.ak.drop 1) (by have:=hso 1;omega) (hdl 1) (hda 1)) ?_
   simp -implicitDefEqProofs (disch:=omega) only[go_sem]
   exact NQ (J9 ha hg SX nNew YB SY Ec nIf nThe Ta)
  ·have xL:=fun(i:Nat) (hi:i<xs.length)=>VL (l:=xs.map (dK false)) (i:=i) (by rw[List.length_map];exact hi)
   refine aD (rs:=[.tmp 2]) Tryz.checked.mixed Tryz.func200 Tryz.ntmps200 rfl rfl rfl rfl rfl ?_
   simp -implicitDefEqProofs (disch:=omega) only[go_sem]
   (repeat(with_reducible refine And.intro ?_ ?_;focus first|omega|rfl|assumption|exact⟨_,rfl,rfl⟩|(simp;omega)|(simp;done)))
   refine yu 3 9 [] rfl (by simp) ?_
   refine aZ (ι:=Nat) Tryz.checked.mixed rfl [0,3,4] (fun i=>[.c (.d (.sl (xs.map ah.enc))),.c (.bI (0,0) (((xs.map (dK false)).take i).map ay.enc)),.c (.d (.i .i64 i))]) (fun i=>[.tok 9 (((xs.map (dK false)).take i).map ay.enc)]::S)
    (fun i=>i≤xs.length) (fun i=>xs.length-i) 0 rfl rfl (Nat.zero_le _) ?_
   intro i hi
   have hl:(((xs.map (dK false)).take i).map ay.enc).length≤i:=by rw[List.length_map];exact List.length_take_le _ _
   simp -implicitDefEqProofs (disch:=omega) only[go_sem]
   with_reducible refine aA (fun hb=> ?_) (fun hb=> ?_)<;>have h:=hb<;>(try simp only[wf_preprocess] at h)<;>simp -implicitDefEqProofs (disch:=omega) only[go_sem,hb]<;>(repeat(with_reducible refine And.intro ?_ ?_;focus first|omega|rfl|assumption|exact⟨_,rfl,rfl⟩|(simp;omega)|(simp;done)))
   ·have hi':i<xs.length:=by omega
    have hs:=xL i hi'
    rw[List.getElem_map] at hs
    simp only[ay.aG,aj.aG,List.cons_append,List.nil_append] at hs
    (repeat(with_reducible refine And.intro ?_ ?_;focus first|omega|rfl|assumption|exact⟨_,rfl,rfl⟩|(simp;omega)|(simp;done)))
    refine au (ih xs[i] (by have:=List.sizeOf_lt_of_mem (List.getElem_mem hi');omega) (hsz _ (List.getElem_mem hi'))) ?_
    simp -implicitDefEqProofs (disch:=omega) only[go_sem]
    (repeat(with_reducible refine And.intro ?_ ?_;focus first|omega|rfl|assumption|exact⟨_,rfl,rfl⟩|(simp;omega)|(simp;done)))
    rw[hs]
    exact bL (i+1) (by omega) rfl rfl (by omega)
   ·have hi':i=(xs.map (dK false)).length:=by rw[List.length_map];omega
    rw[hi',List.take_length]
  ·have iF:=ah.kV x
   have h1:=gY x
   have hall:∀t∈x.ak,t.sz≤4194304:=fun t ht=>by have:=kg ht;omega
   have hr:=gV (l:=x.ak)
   refine aD (rs:=[.cell 2 223]) Tryz.checked.mixed Tryz.func202 Tryz.ntmps202 rfl rfl rfl rfl rfl ?_
   simp -implicitDefEqProofs (disch:=omega) only[go_sem]
   with_reducible refine aA (fun hb=> ?_) (fun hb=> ?_)<;>have h:=hb<;>(try simp only[wf_preprocess] at h)<;>simp -implicitDefEqProofs (disch:=omega) only[go_sem,hb]<;>(repeat(with_reducible refine And.intro ?_ ?_;focus first|omega|rfl|assumption|exact⟨_,rfl,rfl⟩|(simp;omega)|(simp;done)))
   ·rw[Qx false x (by omega)]
    exact(eD.cons (.refl _) (.cons (gN _) (.cons (.refl _) (.cons (.refl _) (.cons (.refl _) (.cons (.refl _) (.cons (.refl _) (.cons (.refl _) (.cons (gN _) (.cons (gN _) (.cons (gN _) .nil))))))))))).less
   have hl2:2≤x.ak.length:=by omega
   have a0:=lX (l:=x.ak) (i:=0) (by omega)
   have hm:=List.getElem_mem (l:=x.ak) (n:=x.ak.length-1) (by omega)
   rw[Qw false x hl2,a0]
   refine⟨⟨by omega,by omega,hr⟩,?_⟩
   rw[Ke _ hl2]
   refine au (Dt ((x.ak.drop 1).dropLast) (by rw[List.length_dropLast,List.length_drop];omega)) ?_
   simp -implicitDefEqProofs (disch:=omega) only[go_sem]
   (repeat(with_reducible refine And.intro ?_ ?_;focus first|omega|rfl|assumption|exact⟨_,rfl,rfl⟩|(simp;omega)|(simp;done)))
   have el:((x.ak.length:Int)-1).toNat=x.ak.length-1:=by omega
   simp only[el]
   refine au (ih (x.ak[x.ak.length-1]) (by have:=List.sizeOf_lt_of_mem hm;omega) (hall _ hm)) ?_
   simp -implicitDefEqProofs (disch:=omega) only[go_sem]
   exact jN _
theorem PL(x:ah)(hsz:x.sz≤4194304):aI Tryz.prog 105 [x.v] (dK false x).v:=(Dv _).1 x (Nat.lt_succ_self _) hsz
end Go.Proofs.YtlmhknhlmicmeaaGreatDoor
namespace Go.Proofs
open Go.Shelf
def Tryz.lays172_ren:Go.Shelf.Ren:=⟨fun|172=>326|244=>347|245=>348|247=>363|279=>364|280=>365|281=>366|282=>367|287=>377|316=>378|171=>287|205=>379|321=>386|322=>387|243=>331|246=>350|283=>369|284=>370|285=>371|286=>372|129=>382|317=>381|318=>383|319=>384|320=>385|337=>391|338=>392|n=>n,fun|9=>9|3=>3|75=>286|76=>287|4=>4|5=>5|167=>351|37=>227|0=>0|85=>352|2=>2|168=>354|53=>359|175=>367|46=>369|210=>372|127=>290|145=>384|143=>382|21=>21|171=>358|173=>362|212=>376|51=>377|20=>20|213=>378|232=>388|233=>389|80=>231|n=>n,fun|15=>0|16=>1|17=>2|18=>4|19=>5|n=>n⟩
theorem Tryz.lays172:Go.Proofs.Lays.n172 Tryz.prog Tryz.lays172_ren:={
 mixed:=by kernel_rfl
 f129:=Tryz.func382.trans (congrArg some (by kernel_rfl))
 f171:=Tryz.func287.trans (congrArg some (by kernel_rfl))
 f172:=Tryz.func326.trans (congrArg some (by kernel_rfl))
 f205:=Tryz.func379.trans (congrArg some (by kernel_rfl))
 f243:=Tryz.func331.trans (congrArg some (by kernel_rfl))
 f244:=Tryz.func347.trans (congrArg some (by kernel_rfl))
 f245:=Tryz.func348.trans (congrArg some (by kernel_rfl))
 f246:=Tryz.func350.trans (congrArg some (by kernel_rfl))
 f247:=Tryz.func363.trans (congrArg some (by kernel_rfl))
 f279:=Tryz.func364.trans (congrArg some (by kernel_rfl))
 f280:=Tryz.func365.trans (congrArg some (by kernel_rfl))
 f281:=Tryz.func366.trans (congrArg some (by kernel_rfl))
 f282:=Tryz.func367.trans (congrArg some (by kernel_rfl))
 f283:=Tryz.func369.trans (congrArg some (by kernel_rfl))
 f284:=Tryz.func370.trans (congrArg some (by kernel_rfl))
 f285:=Tryz.func371.trans (congrArg some (by kernel_rfl))
 f286:=Tryz.func372.trans (congrArg some (by kernel_rfl))
 f287:=Tryz.func377.trans (congrArg some (by kernel_rfl))
 f316:=Tryz.func378.trans (congrArg some (by kernel_rfl))
 f317:=Tryz.func381.trans (congrArg some (by kernel_rfl))
 f318:=Tryz.func383.trans (congrArg some (by kernel_rfl))
 f319:=Tryz.func384.trans (congrArg some (by kernel_rfl))
 f320:=Tryz.func385.trans (congrArg some (by kernel_rfl))
 f321:=Tryz.func386.trans (congrArg some (by kernel_rfl))
 f322:=Tryz.func387.trans (congrArg some (by kernel_rfl))
 f337:=Tryz.func391.trans (congrArg some (by kernel_rfl))
 f338:=Tryz.func392.trans (congrArg some (by kernel_rfl))
 t0:=Tryz.underlying0
 a0:=Tryz.isAgg0
 z0:=Tryz.sizeOf0
 v0:=Tryz.zeroValue0
 t2:=Tryz.underlying2
 a2:=Tryz.isAgg2
 z2:=Tryz.sizeOf2
 v2:=Tryz.zeroValue2
 t3:=Tryz.underlying3
 a3:=Tryz.isAgg3
 z3:=Tryz.sizeOf3
 v3:=Tryz.zeroValue3
 t4:=Tryz.underlying4
 a4:=Tryz.isAgg4
 z4:=Tryz.sizeOf4
 v4:=Tryz.zeroValue4
 t5:=Tryz.underlying5
 a5:=Tryz.isAgg5
 z5:=Tryz.sizeOf5
 v5:=Tryz.zeroValue5
 t9:=Tryz.underlying9
 a9:=Tryz.isAgg9
 z9:=Tryz.sizeOf9
 v9:=Tryz.zeroValue9
 t20:=Tryz.underlying20
 a20:=Tryz.isAgg20
 z20:=Tryz.sizeOf20
 v20:=Tryz.zeroValue20
 t21:=Tryz.underlying21
 a21:=Tryz.isAgg21
 z21:=Tryz.sizeOf21
 v21:=Tryz.zeroValue21
 t37:=Tryz.underlying227
 a37:=Tryz.isAgg227
 z37:=Tryz.sizeOf227
 v37:=Tryz.zeroValue227
 t46:=Tryz.underlying369
 a46:=Tryz.isAgg369
 z46:=Tryz.sizeOf369
 v46:=Tryz.zeroValue369
 t51:=Tryz.underlying377
 a51:=Tryz.isAgg377
 z51:=Tryz.sizeOf377
 v51:=Tryz.zeroValue377
 t53:=Tryz.underlying359
 a53:=Tryz.isAgg359
 z53:=Tryz.sizeOf359
 v53:=Tryz.zeroValue359
 t75:=Tryz.underlying286
 a75:=Tryz.isAgg286
 z75:=Tryz.sizeOf286
 v75:=Tryz.zeroValue286
 t76:=Tryz.underlying287
 a76:=Tryz.isAgg287
 z76:=Tryz.sizeOf287
 v76:=Tryz.zeroValue287
 t85:=Tryz.underlying352
 a85:=Tryz.isAgg352
 z85:=Tryz.sizeOf352
 v85:=Tryz.zeroValue352
 t127:=Tryz.underlying290
 a127:=Tryz.isAgg290
 z127:=Tryz.sizeOf290
 v127:=Tryz.zeroValue290
 t143:=Tryz.underlying382
 a143:=Tryz.isAgg382
 z143:=Tryz.sizeOf382
 v143:=Tryz.zeroValue382
 t145:=Tryz.underlying384
 a145:=Tryz.isAgg384
 z145:=Tryz.sizeOf384
 v145:=Tryz.zeroValue384
 t167:=Tryz.underlying351
 a167:=Tryz.isAgg351
 z167:=Tryz.sizeOf351
 v167:=Tryz.zeroValue351
 t168:=Tryz.underlying354
 a168:=Tryz.isAgg354
 z168:=Tryz.sizeOf354
 v168:=Tryz.zeroValue354
 t171:=Tryz.underlying358
 a171:=Tryz.isAgg358
 z171:=Tryz.sizeOf358
 v171:=Tryz.zeroValue358
 t173:=Tryz.underlying362
 a173:=Tryz.isAgg362
 z173:=Tryz.sizeOf362
 v173:=Tryz.zeroValue362
 t175:=Tryz.underlying367
 a175:=Tryz.isAgg367
 z175:=Tryz.sizeOf367
 v175:=Tryz.zeroValue367
 t210:=Tryz.underlying372
 a210:=Tryz.isAgg372
 z210:=Tryz.sizeOf372
 v210:=Tryz.zeroValue372
 t212:=Tryz.underlying376
 a212:=Tryz.isAgg376
 z212:=Tryz.sizeOf376
 v212:=Tryz.zeroValue376
 t213:=Tryz.underlying378
 a213:=Tryz.isAgg378
 z213:=Tryz.sizeOf378
 t232:=Tryz.underlying388
 a232:=Tryz.isAgg388
 z232:=Tryz.sizeOf388
 v232:=Tryz.zeroValue388
 t233:=Tryz.underlying389
 a233:=Tryz.isAgg389
 z233:=Tryz.sizeOf389
 v233:=Tryz.zeroValue389
 g15:=by kernel_rfl
 g16:=by kernel_rfl
 g17:=by kernel_rfl
 g18:=by kernel_rfl
 g19:=by kernel_rfl}
open Go.RowKit in
theorem Tryz.strconv_Atoi(s:ByteArray)(n:Int)(hl:s.size≤18)(h:Lib.atoi s.data.toList=some n)(w:World):
 Calls Tryz.prog 326 #[.string s] w fun e w'=>e=.returned (.tuple #[.int .i64 n,.nilIface])∧∃t,w'=Lib.bytesWorld w 5 t:=Any.strconv_Atoi Tryz.lays172 s n hl h w
def Tryz.laysC172_ren:Go.Shelf.Ren:=⟨fun|172=>326|244=>347|245=>348|247=>363|279=>364|280=>365|281=>366|282=>367|287=>377|316=>378|171=>287|205=>379|321=>386|322=>387|243=>331|246=>350|283=>369|284=>370|285=>371|286=>372|129=>382|317=>381|318=>383|319=>384|320=>385|337=>391|338=>392|n=>n,fun|9=>9|3=>3|75=>286|76=>287|4=>4|5=>5|167=>351|37=>227|0=>0|85=>352|2=>2|168=>354|53=>359|175=>367|46=>369|210=>372|127=>290|145=>384|143=>382|21=>21|171=>358|173=>362|212=>376|51=>377|20=>20|213=>378|232=>388|233=>389|80=>231|n=>n,fun|15=>0|16=>1|17=>2|18=>4|19=>5|n=>n⟩
theorem Tryz.laysC172:Go.Proofs.LaysC.n172 Tryz.prog Tryz.laysC172_ren:={
 mixed:=by kernel_rfl
 f129:=Tryz.func382.trans (congrArg some (by kernel_rfl))
 f171:=Tryz.func287.trans (congrArg some (by kernel_rfl))
 f172:=Tryz.func326.trans (congrArg some (by kernel_rfl))
 f205:=Tryz.func379.trans (congrArg some (by kernel_rfl))
 f243:=Tryz.func331.trans (congrArg some (by kernel_rfl))
 f244:=Tryz.func347.trans (congrArg some (by kernel_rfl))
 f245:=Tryz.func348.trans (congrArg some (by kernel_rfl))
 f246:=Tryz.func350.trans (congrArg some (by kernel_rfl))
 f247:=Tryz.func363.trans (congrArg some (by kernel_rfl))
 f279:=Tryz.func364.trans (congrArg some (by kernel_rfl))
 f280:=Tryz.func365.trans (congrArg some (by kernel_rfl))
 f281:=Tryz.func366.trans (congrArg some (by kernel_rfl))
 f282:=Tryz.func367.trans (congrArg some (by kernel_rfl))
 f283:=Tryz.func369.trans (congrArg some (by kernel_rfl))
 f284:=Tryz.func370.trans (congrArg some (by kernel_rfl))
 f285:=Tryz.func371.trans (congrArg some (by kernel_rfl))
 f286:=Tryz.func372.trans (congrArg some (by kernel_rfl))
 f287:=Tryz.func377.trans (congrArg some (by kernel_rfl))
 f316:=Tryz.func378.trans (congrArg some (by kernel_rfl))
 f317:=Tryz.func381.trans (congrArg some (by kernel_rfl))
 f318:=Tryz.func383.trans (congrArg some (by kernel_rfl))
 f319:=Tryz.func384.trans (congrArg some (by kernel_rfl))
 f320:=Tryz.func385.trans (congrArg some (by kernel_rfl))
 f321:=Tryz.func386.trans (congrArg some (by kernel_rfl))
 f322:=Tryz.func387.trans (congrArg some (by kernel_rfl))
 f337:=Tryz.func391.trans (congrArg some (by kernel_rfl))
 f338:=Tryz.func392.trans (congrArg some (by kernel_rfl))
 t0:=Tryz.underlying0
 a0:=Tryz.isAgg0
 z0:=Tryz.sizeOf0
 v0:=Tryz.zeroValue0
 t2:=Tryz.underlying2
 a2:=Tryz.isAgg2
 z2:=Tryz.sizeOf2
 v2:=Tryz.zeroValue2
 t3:=Tryz.underlying3
 a3:=Tryz.isAgg3
 z3:=Tryz.sizeOf3
 v3:=Tryz.zeroValue3
 t4:=Tryz.underlying4
 a4:=Tryz.isAgg4
 z4:=Tryz.sizeOf4
 v4:=Tryz.zeroValue4
 t5:=Tryz.underlying5
 a5:=Tryz.isAgg5
 z5:=Tryz.sizeOf5
 v5:=Tryz.zeroValue5
 t9:=Tryz.underlying9
 a9:=Tryz.isAgg9
 z9:=Tryz.sizeOf9
 v9:=Tryz.zeroValue9
 t20:=Tryz.underlying20
 a20:=Tryz.isAgg20
 z20:=Tryz.sizeOf20
 v20:=Tryz.zeroValue20
 t21:=Tryz.underlying21
 a21:=Tryz.isAgg21
 z21:=Tryz.sizeOf21
 v21:=Tryz.zeroValue21
 t37:=Tryz.underlying227
 a37:=Tryz.isAgg227
 z37:=Tryz.sizeOf227
 v37:=Tryz.zeroValue227
 t46:=Tryz.underlying369
 a46:=Tryz.isAgg369
 z46:=Tryz.sizeOf369
 v46:=Tryz.zeroValue369
 t51:=Tryz.underlying377
 a51:=Tryz.isAgg377
 z51:=Tryz.sizeOf377
 v51:=Tryz.zeroValue377
 t53:=Tryz.underlying359
 a53:=Tryz.isAgg359
 z53:=Tryz.sizeOf359
 v53:=Tryz.zeroValue359
 t75:=Tryz.underlying286
 a75:=Tryz.isAgg286
 z75:=Tryz.sizeOf286
 v75:=Tryz.zeroValue286
 t76:=Tryz.underlying287
 a76:=Tryz.isAgg287
 z76:=Tryz.sizeOf287
 v76:=Tryz.zeroValue287
 t85:=Tryz.underlying352
 a85:=Tryz.isAgg352
 z85:=Tryz.sizeOf352
 v85:=Tryz.zeroValue352
 t127:=Tryz.underlying290
 a127:=Tryz.isAgg290
 z127:=Tryz.sizeOf290
 v127:=Tryz.zeroValue290
 t143:=Tryz.underlying382
 a143:=Tryz.isAgg382
 z143:=Tryz.sizeOf382
 v143:=Tryz.zeroValue382
 t145:=Tryz.underlying384
 a145:=Tryz.isAgg384
 z145:=Tryz.sizeOf384
 v145:=Tryz.zeroValue384
 t167:=Tryz.underlying351
 a167:=Tryz.isAgg351
 z167:=Tryz.sizeOf351
 v167:=Tryz.zeroValue351
 t168:=Tryz.underlying354
 a168:=Tryz.isAgg354
 z168:=Tryz.sizeOf354
 v168:=Tryz.zeroValue354
 t171:=Tryz.underlying358
 a171:=Tryz.isAgg358
 z171:=Tryz.sizeOf358
 v171:=Tryz.zeroValue358
 t173:=Tryz.underlying362
 a173:=Tryz.isAgg362
 z173:=Tryz.sizeOf362
 v173:=Tryz.zeroValue362
 t175:=Tryz.underlying367
 a175:=Tryz.isAgg367
 z175:=Tryz.sizeOf367
 v175:=Tryz.zeroValue367
 t210:=Tryz.underlying372
 a210:=Tryz.isAgg372
 z210:=Tryz.sizeOf372
 v210:=Tryz.zeroValue372
 t212:=Tryz.underlying376
 a212:=Tryz.isAgg376
 z212:=Tryz.sizeOf376
 v212:=Tryz.zeroValue376
 t213:=Tryz.underlying378
 a213:=Tryz.isAgg378
 z213:=Tryz.sizeOf378
 t232:=Tryz.underlying388
 a232:=Tryz.isAgg388
 z232:=Tryz.sizeOf388
 v232:=Tryz.zeroValue388
 t233:=Tryz.underlying389
 a233:=Tryz.isAgg389
 z233:=Tryz.sizeOf389
 v233:=Tryz.zeroValue389
 g15:=by kernel_rfl
 g16:=by kernel_rfl
 g17:=by kernel_rfl
 g18:=by kernel_rfl
 g19:=by kernel_rfl
 t80:=Tryz.underlying231
 a80:=Tryz.isAgg231
 z80:=Tryz.sizeOf231
 v80:=Tryz.zeroValue231
 i0:=by kernel_rfl
 i2:=by kernel_rfl
 i3:=by kernel_rfl
 i4:=by kernel_rfl
 i5:=by kernel_rfl
 i9:=by kernel_rfl
 i20:=by kernel_rfl
 i21:=by kernel_rfl
 i37:=by kernel_rfl
 i46:=by kernel_rfl
 i51:=by kernel_rfl
 i53:=by kernel_rfl
 i75:=by kernel_rfl
 i76:=by kernel_rfl
 i80:=by kernel_rfl
 i85:=by kernel_rfl
 i127:=by kernel_rfl
 i143:=by kernel_rfl
 i145:=by kernel_rfl
 i167:=by kernel_rfl
 i168:=by kernel_rfl
 i171:=by kernel_rfl
 i173:=by kernel_rfl
 i175:=by kernel_rfl
 i210:=by kernel_rfl
 i212:=by kernel_rfl
 i232:=by kernel_rfl
 i233:=by kernel_rfl
 m15:=by kernel_rfl
 m16:=by kernel_rfl
 m17:=by kernel_rfl
 m18:=by kernel_rfl
 m19:=by kernel_rfl
 c0:=by kernel_rfl
 c2:=by kernel_rfl
 c3:=by kernel_rfl
 c4:=by kernel_rfl
 c5:=by kernel_rfl
 c9:=by kernel_rfl
 c20:=by kernel_rfl
 c21:=by kernel_rfl
 c37:=by kernel_rfl
 c46:=by kernel_rfl
 c51:=by kernel_rfl
 c53:=by kernel_rfl
 c75:=by kernel_rfl
 c76:=by kernel_rfl
 c80:=by kernel_rfl
 c85:=by kernel_rfl
 c127:=by kernel_rfl
 c143:=by kernel_rfl
 c145:=by kernel_rfl
 c167:=by kernel_rfl
 c168:=by kernel_rfl
 c171:=by kernel_rfl
 c173:=by kernel_rfl
 c175:=by kernel_rfl
 c210:=by kernel_rfl
 c212:=by kernel_rfl
 c213:=by kernel_rfl
 c232:=by kernel_rfl
 c233:=by kernel_rfl}
open Go.RowKit in
theorem Tryz.strconv_Atoi_err_var(s:ByteArray)(hl:s.size≤18)(h:Lib.atoi s.data.toList=none)(tp:TypeId)(p:Value)(w:World)(hvar:w.var? Tryz.prog "strconv.ErrSyntax" =some #[.iface tp p]):
 Calls Tryz.prog 326 #[.string s] w fun e w'=>∃N,e=.returned (.tuple #[.int .i64 0,.iface 354 (.pointer (some ⟨N,0,none⟩))])∧w.heap.size≤N∧w'.heap[N]? =some (.cells #[.string ⟨#[65,116,111,105]⟩,.string s,.iface tp p] 372 (0,0))∧Below w.heap.size w w':=Any.strconv_Atoi_err_var Tryz.laysC172 s hl h tp p w hvar
end Go.Proofs
namespace Go.Ab
theorem KP{w w':World}{σ:Nat→Nat}(hl:∀b,b<w.heap.size∨σ b=0)(h:Go.RowKit.Below w.heap.size w w'):Grow w σ w' σ:=
 ⟨h.size,h.os,h.output,fun b hb=>⟨h.block b hb,rfl⟩,fun b=>(hl b).elim (fun x=>.inl (Nat.lt_of_lt_of_le x h.size)) .inr⟩
theorem VP{x y z:V}{vs:List Value}{w:World}{σ:Nat→Nat}{S:Store}{β:Hs}(h:lS w σ S β [x,y,z] vs):∃u v t,vs=[u,v,t]∧bV w σ S β x u∧bV w σ S β y v∧bV w σ S β z t:=by
 obtain⟨hl,h⟩:=h
 obtain⟨u,e0,h0⟩:=h 0 x rfl
 obtain⟨v,e1,h1⟩:=h 1 y rfl
 obtain⟨t,e2,h2⟩:=h 2 z rfl
 match vs,hl,e0,e1,e2 with
 |[a,b,c],_,e0,e1,e2=>simp at e0 e1 e2;subst e0;subst e1;subst e2;exact⟨_,_,_,rfl,h0,h1,h2⟩
end Go.Ab
namespace Go.Proofs.YtlmhknhlmicmeaaGreatDoor
open Go Go.Ab
theorem Tc(n:Int)(h0: -9223372036854775808≤n)(h1:n≤9223372036854775807)(w:World)(htab:Lib.TabIs Tryz.prog w "internal/strconv.uint64pow10" .u64 Lib.pow10Tab):
 Calls Tryz.prog 287 #[.int .i64 n] w fun e w'=>e=.returned (.string ⟨(Lib.itoa n).toArray⟩)∧Go.RowKit.Below w.heap.size w w':=
 (Tryz.strconv_Itoa n h0 h1 w htab).mono fun e w' ⟨he,k,os,hw⟩=>⟨he,by
   subst hw
   exact⟨rfl,rfl,rfl,by show w.heap.size≤(w.heap++os).size;simp,fun b hb=>by show(w.heap++os)[b]? =_;rw[Array.getElem?_append_left hb]⟩⟩
set_option maxHeartbeats 2000000 in
theorem PN(s:List UInt8)(hs:s.length≤18)(tp:TypeId)(p:Value)(w:World)(htab:Lib.TabIs Tryz.prog w "internal/strconv.uint64pow10" .u64 Lib.pow10Tab)(hvar:w.var? Tryz.prog "strconv.ErrSyntax" =some #[.iface tp p]):
 Calls Tryz.prog 281 #[.string ⟨s.toArray⟩,.int .i64 (-999999999999),.int .i64 999999999999] w fun e w'=>e=.returned (.tuple #[.int .i64 ((fC s).getD 0),.bool (fC s).isSome])∧Go.RowKit.Below w.heap.size w w':=by
 have hsz:(⟨s.toArray⟩:ByteArray).size≤18:=by show s.toArray.size≤18;simpa using hs
 cases h:Lib.atoi s with
 |none=>
  have hc:=Tryz.strconv_Atoi_err_var ⟨s.toArray⟩ hsz (by simpa using h) tp p w hvar
  have wR:fC s=none:=by unfold fC;rw[h]
  rw[wR]
  clear hsz
  go_enter Tryz.func281,Tryz.ntmps281
  go_wp2_with (go_at_call 326;refine hc.mono ?_;rintro e W1 ⟨N,rfl,-,-,hb⟩)
  go_ret2
  exact⟨rfl,hb⟩
 |some n=>
  have hbd:=Lib.atoi_bound h hs
  have hc:=Tryz.strconv_Atoi ⟨s.toArray⟩ n hsz (by simpa using h) w
  have wR:fC s=if(-999999999999≤n∧n≤999999999999)∧Lib.itoa n=s then some n else none:=by unfold fC;rw[h]
  have hc':Calls Tryz.prog 326 #[.string ⟨s.toArray⟩] w fun e w'=>e=.returned (.tuple #[.int .i64 n,.nilIface])∧Go.RowKit.Below w.heap.size w w':=hc.mono fun e w' ⟨he,t,hw⟩=>⟨he,by rw[hw];exact Lib.bytesWorld_below _ _ _⟩
  have hi:∀W1,Go.RowKit.Below w.heap.size w W1→Calls Tryz.prog 287 #[.int .i64 n] W1 fun e w'=>e=.returned (.string ⟨(Lib.itoa n).toArray⟩)∧Go.RowKit.Below w.heap.size w w':=fun W1 hw=>
   (Tc n (by omega) (by omega) _ ((Lib.tabBelow_of_tabIs htab).on hw).here).mono fun e w' ⟨he,hb⟩=>⟨he,hw.trans (hb.mono hw.size)⟩
  clear hsz h hc
  go_enter Tryz.func281,Tryz.ntmps281
  go_wp2_with (first|(go_at_call 326;refine hc'.mono ?_;rintro e W1 ⟨rfl,hb1⟩)|(go_at_call 287;refine(hi _ hb1).mono ?_;rintro e W2 ⟨rfl,hb2⟩))
  all_goals go_ret2
  all_goals first
   |(exfalso;omega)
   |exact⟨rfl,hb2⟩
   |exact⟨rfl,hb1⟩
   |(rw[wR,if_pos ⟨⟨by omega,by omega⟩,by simp_all;done⟩];exact⟨rfl,hb2⟩)
   |(rw[wR,if_neg (by rintro⟨hc,_⟩;omega)];exact⟨rfl,hb1⟩)
   |(rw[wR,if_neg (by rintro⟨_,hc⟩;simp[hc] at *;omega)];exact⟨rfl,hb2⟩)
   |(rw[wR,if_neg (by rintro⟨_,hc⟩;simp_all;done)];exact⟨rfl,hb2⟩)
   |trace_state
theorem KQ{w:World}{σ:Nat→Nat}(h:zG w σ):∃tp p,w.var? Tryz.prog "strconv.ErrSyntax" =some #[.iface tp p]:=by
 obtain⟨c,t,fz,q1,q2,q3⟩:=h 0 (fun l=>∃te pe,l=[Value.iface te pe]) (List.mem_cons_of_mem _ (List.mem_cons_of_mem _ (List.mem_cons_self ..)))
 obtain⟨te,pe,e⟩:=q2
 have hn:Tryz.prog.globalNamed "strconv.ErrSyntax" =some 0:=by kernel_rfl
 refine⟨te,pe,?_⟩
 unfold World.var?
 rw[hn]
 simp only[Option.bind_some,q1,Option.some.injEq]
 exact Array.ext' e
theorem Jj(s:List UInt8)(hs:s.length≤18):aI Tryz.prog 281 [.c (.d (.s s)),.c (.d (.i .i64 (-999999999999))),.c (.d (.i .i64 999999999999))] (.d9 [(false,[.d (.i .i64 ((fC s).getD 0))]),(false,[.d (.b (fC s).isSome)])]):=fun S=>by
 refine⟨⟨_,Tryz.func281,by kernel_rfl,by kernel_rfl⟩,fun w σ β vs hS hv=> ?_⟩
 obtain⟨u,v,t,rfl,⟨hu,_⟩,⟨hv,_⟩,⟨ht,_⟩⟩:=VP hv
 have hu0:u=.string ⟨s.toArray⟩:=by cases hu;rfl
 have hv0:v=.int .i64 (-999999999999):=by cases hv;rfl
 have ht0:t=.int .i64 999999999999:=by cases ht;rfl
 subst hu0 hv0 ht0
 obtain⟨tp,p,hvar⟩:=KQ hS.qp
 refine(PN s hs tp p w (J3 hS.qp) hvar).mono fun e w' ⟨he,hb⟩=> ?_
 have hg:Grow w σ w' σ:=KP hS.live hb
 exact⟨_,.d9 [(false,[.d (.i .i64 ((fC s).getD 0))]),(false,[.d (.b (fC s).isSome)])],S,σ,β,he,hS.grow hg,Keep.refl _ _,Step.kP hg,⟨_,rfl,rfl,fun j y hy=>by
  match j,hy with
  |0,hy=>simp at hy;subst hy;exact⟨_,rfl,_,rfl,.i _ _,rfl⟩
  |1,hy=>simp at hy;subst hy;exact⟨_,rfl,_,rfl,.b _,rfl⟩
  |j+2,hy=>simp at hy⟩,rfl,rfl⟩
theorem Ia(s:List UInt8)(hs:s.length≤18):aI Tryz.prog 207 [.c (.d (.s s))] (.d9 [(false,[.d (.i .i64 ((fC s).getD 0))]),(false,[.d (.b (fC s).isSome)])]):=fun S=>by
 refine aD (rs:=[.tmp 2,.tmp 3]) Tryz.checked.mixed Tryz.func207 Tryz.ntmps207 rfl rfl rfl rfl rfl ?_
 simp -implicitDefEqProofs (disch:=omega) only[go_sem]
 refine au (Jj s hs) ?_
 simp -implicitDefEqProofs (disch:=omega) only[go_sem]<;>(repeat(with_reducible refine And.intro ?_ ?_;focus first|omega|rfl|assumption|exact⟨_,rfl,rfl⟩|(simp;omega)|(simp;done)))
end Go.Proofs.YtlmhknhlmicmeaaGreatDoor
namespace Go.Ab
theorem xS{l:List ah}(h2:2≤l.length)(h:cO l 0=gy→3≤l.length):sJ true l:=fun e=>by
 rcases e.2 with e|e
 ·omega
 ·have:=h e.1;omega
theorem Kh{x:ah}(h:iB x=true)(ha:x.aU=[]):iC x.ak=true:=by rw[yG,if_pos ha] at h;exact h
theorem VQ{x:ah}(h:iB x=true)(ha:x.aU≠[]):x.aU.length≤18:=by
 rw[yG,if_neg ha,Bool.and_eq_true] at h
 have h1:=h.1
 unfold validAtom at h1
 rw[Bool.and_eq_true,decide_eq_true_eq] at h1
 omega
theorem Dw{x:ah}(h:iB x=true)(ha:x.ak≠[]):iC x.ak=true:=by
 by_cases e:x.aU=[]
 ·exact Kh h e
 ·rw[yG,if_neg e,Bool.and_eq_true,decide_eq_true_eq] at h
  exact absurd (List.eq_nil_of_length_eq_zero h.2) ha
theorem ma0{x:aJ}{n:Nat}(h:x=.mk [] [] pV):Less (.agg [.d (.s []),.aM [],.d (.i .i64 0),.d (.s []),.d (.s []),.d (.i .i64 0),.d (.i .i64 0),.d (.s []),.aM [],.aM [],.aM []]) (x.vl n):=by
 rw[h]
 exact(eD.cons (.refl _) (.cons (fD _) (.cons (.refl _) (.cons (.refl _) (.cons (.refl _) (.cons (.refl _) (.cons (.refl _) (.cons (.refl _) (.cons (fD _) (.cons (fD _) (.cons (fD _) .nil))))))))))).less
end Go.Ab
namespace Go.Proofs.YtlmhknhlmicmeaaGreatDoor
open Go Go.Ab
theorem Dx:∀N:Nat,(∀x:ah,SizeOf.sizeOf x<N→∀n:Nat,iB x=true→x.sz≤4194304→aI Tryz.prog 110 [x.v] ((dK true x).vl n))∧
 (∀xs:List ah,SizeOf.sizeOf xs<N→∀n q:Nat,iC xs=true→xs.length≤4194304→(∀t∈xs,t.sz≤4194304)→aI Tryz.prog 208 [.c (.d (.sl (xs.map ah.enc)))] (.c (.d (.ol n (lE (xs.map (dK true)) q)))))∧
 (∀x:ah,SizeOf.sizeOf x<N→∀n:Nat,iB x=true→x.sz≤4194304→aI Tryz.prog 209 [x.v] ((mU true x).vl n))
 |0=>⟨fun x h=>by omega,fun x h=>by omega,fun x h=>by omega⟩
 |N+1=>by
  obtain⟨ih,ni,ihM⟩:=Dx N
  refine⟨fun x hn n hfo hsz=>aI.of_le fun S=> ?_,fun xs hn n q hfo hlen hsz S=> ?_,fun x hn n hfo hsz=>aI.of_le fun S=> ?_⟩
  ·have iF:=ah.kV x
   have h1:=gY x
   have h2:=BG x
   have hall:∀t∈x.ak,t.sz≤4194304:=fun t ht=>by have:=kg ht;omega
   have hr:=gV (l:=x.ak)
   have hso:=fun i=>vZ i x.ak
   have hdl:∀i,(x.ak.drop i).length≤4194304:=fun i=>by rw[List.length_drop];omega
   have hda:∀i,∀t∈x.ak.drop i,t.sz≤4194304:=fun i t ht=>hall t (List.mem_of_mem_drop ht)
   have hdd:=oP x.ak x.ak.length 1 (Nat.le_refl _)
   refine kD (n) (rs:=[.cell 2 61]) Tryz.checked.mixed Tryz.func110 Tryz.ntmps110 rfl rfl rfl rfl rfl ?_
   simp -implicitDefEqProofs (disch:=omega) only[go_sem]
   with_reducible refine aA (fun hb=> ?_) (fun hb=> ?_)<;>have h:=hb<;>(try simp only[wf_preprocess] at h)<;>simp -implicitDefEqProofs (disch:=omega) only[go_sem,hb]<;>(repeat(with_reducible refine And.intro ?_ ?_;focus first|omega|rfl|assumption|exact⟨_,rfl,rfl⟩|(simp;omega)|(simp;done)))
   ·have hne:=h
    refine au (Ia x.aU (VQ hfo hne)) ?_
    cases wR:fC x.aU with
    |some m=>
     simp -implicitDefEqProofs (disch:=omega) only[go_sem,Option.getD_some,Option.isSome_some]
     exact Qz (NK hne wR)
    |none=>
     simp -implicitDefEqProofs (disch:=omega) only[go_sem,Option.getD_none,Option.isSome_none]
     with_reducible refine aA (fun hb=> ?_) (fun hb=> ?_)<;>have h:=hb<;>(try simp only[wf_preprocess] at h)<;>simp -implicitDefEqProofs (disch:=omega) only[go_sem,hb]<;>(repeat(with_reducible refine And.intro ?_ ?_;focus first|omega|rfl|assumption|exact⟨_,rfl,rfl⟩|(simp;omega)|(simp;done)))
     ·exact Qz (Kc hne wR h)
     have k1:=h
     with_reducible refine aA (fun hb=> ?_) (fun hb=> ?_)<;>have h:=hb<;>(try simp only[wf_preprocess] at h)<;>simp -implicitDefEqProofs (disch:=omega) only[go_sem,hb]<;>(repeat(with_reducible refine And.intro ?_ ?_;focus first|omega|rfl|assumption|exact⟨_,rfl,rfl⟩|(simp;omega)|(simp;done)))
     ·exact Qz (H9 hne wR k1 h)
     have k2:=h
     exact Qz (NM hne wR k1 k2)
   have ha:=h
   have hfs:=Kh hfo ha
   with_reducible refine aA (fun hb=> ?_) (fun hb=> ?_)<;>have h:=hb<;>(try simp only[wf_preprocess] at h)<;>simp -implicitDefEqProofs (disch:=omega) only[go_sem,hb]<;>(repeat(with_reducible refine And.intro ?_ ?_;focus first|omega|rfl|assumption|exact⟨_,rfl,rfl⟩|(simp;omega)|(simp;done)))
   ·exact Qz (Ka ha fun e=>e ⟨rfl,.inl (by omega)⟩)
   have hl2:2≤x.ak.length:=by omega
   have a0:=lX (l:=x.ak) (i:=0) (by omega)
   obtain⟨m,hm⟩:∃m,m=x.ak.drop 1:=⟨_,rfl⟩
   have hml:m.length=x.ak.length-1:=by rw[hm,List.length_drop]
   have hmi:∀i (hi:i<m.length),m[i]=x.ak[i+1]'(by omega):=fun i hi=>by simp only[hm,List.getElem_drop,Nat.add_comm 1 i]
   have hrm:=gV (l:=m)
   have hmd:∀i,m.drop i=x.ak.drop (i+1):=fun i=>by rw[hm,List.drop_drop,Nat.add_comm 1 i]
   have hme:=fun i=>oP m m.length i (Nat.le_refl _)
   have b1:cO x.ak 1=(m[0]'(by omega)).aU:=by rw[hmi 0 (by omega),lX (by omega)]
   refine⟨⟨by omega,by omega,hr⟩,?_⟩
   rw[hdd,←hm]
   simp only[←a0]
   with_reducible refine aA (fun hb=> ?_) (fun hb=> ?_)<;>have h:=hb<;>(try simp only[wf_preprocess] at h)<;>simp -implicitDefEqProofs (disch:=omega) only[go_sem,hb]<;>(repeat(with_reducible refine And.intro ?_ ?_;focus first|omega|rfl|assumption|exact⟨_,rfl,rfl⟩|(simp;omega)|(simp;done)))
   ·have hg:=xS hl2 fun e=>by rw[h] at e;exact absurd e (by decide)
    have hdec:=J6 ha hg h
    (repeat(with_reducible refine And.intro ?_ ?_;focus first|omega|rfl|assumption|exact⟨_,rfl,rfl⟩|(simp;omega)|(simp;done)))
    refine⟨⟨by omega,by omega,hrm⟩,?_⟩
    rw[hme,hmd,←b1]
    refine au (ni (x.ak.drop 2) (by have:=hso 2;omega) (n+1) (n+1+1) (nT hfs 2) (hdl 2) (hda 2)) ?_
    simp -implicitDefEqProofs (disch:=omega) only[go_sem]
    exact NP hdec
   have SX:=h
   with_reducible refine aA (fun hb=> ?_) (fun hb=> ?_)<;>have h:=hb<;>(try simp only[wf_preprocess] at h)<;>simp -implicitDefEqProofs (disch:=omega) only[go_sem,hb]<;>(repeat(with_reducible refine And.intro ?_ ?_;focus first|omega|rfl|assumption|exact⟨_,rfl,rfl⟩|(simp;omega)|(simp;done)))
   ·have hg:=xS hl2 fun e=>by rw[h] at e;exact absurd e (by decide)
    have hdec:=NH ha hg h
    (repeat(with_reducible refine And.intro ?_ ?_;focus first|omega|rfl|assumption|exact⟨_,rfl,rfl⟩|(simp;omega)|(simp;done)))
    refine⟨⟨by omega,by omega,hrm⟩,?_⟩
    rw[hme,hmd,←b1]
    refine au (ni (x.ak.drop 2) (by have:=hso 2;omega) (n+1) (n+1+1) (nT hfs 2) (hdl 2) (hda 2)) ?_
    simp -implicitDefEqProofs (disch:=omega) only[go_sem]
    exact NP hdec
   have nNew:=h
   with_reducible refine aA (fun hb=> ?_) (fun hb=> ?_)<;>have h:=hb<;>(try simp only[wf_preprocess] at h)<;>simp -implicitDefEqProofs (disch:=omega) only[go_sem,hb]<;>(repeat(with_reducible refine And.intro ?_ ?_;focus first|omega|rfl|assumption|exact⟨_,rfl,rfl⟩|(simp;omega)|(simp;done)))
   ·have hg:=xS hl2 fun e=>by rw[h] at e;exact absurd e (by decide)
    have hdec:=NI ha hg h
    (repeat(with_reducible refine And.intro ?_ ?_;focus first|omega|rfl|assumption|exact⟨_,rfl,rfl⟩|(simp;omega)|(simp;done)))
    refine⟨⟨by omega,by omega,hrm⟩,?_⟩
    rw[hme,hmd,←b1]
    refine au (ni (x.ak.drop 2) (by have:=hso 2;omega) (n+1) (n+1+1) (nT hfs 2) (hdl 2) (hda 2)) ?_
    simp -implicitDefEqProofs (disch:=omega) only[go_sem]
    exact NP hdec
   have YB:=h
   with_reducible refine aA (fun hb=> ?_) (fun hb=> ?_)<;>have h:=hb<;>(try simp only[wf_preprocess] at h)<;>simp -implicitDefEqProofs (disch:=omega) only[go_sem,hb]<;>(repeat(with_reducible refine And.intro ?_ ?_;focus first|omega|rfl|assumption|exact⟨_,rfl,rfl⟩|(simp;omega)|(simp;done)))
   ·have hg:=xS hl2 fun e=>by rw[h] at e;exact absurd e (by decide)
    have hdec:=J7 ha hg h
    (repeat(with_reducible refine And.intro ?_ ?_;focus first|omega|rfl|assumption|exact⟨_,rfl,rfl⟩|(simp;omega)|(simp;done)))
    refine⟨⟨by omega,by omega,hrm⟩,?_⟩
    rw[hme,hmd,←b1]
    refine au (ni (x.ak.drop 2) (by have:=hso 2;omega) (n+1) (n+1+1) (nT hfs 2) (hdl 2) (hda 2)) ?_
    simp -implicitDefEqProofs (disch:=omega) only[go_sem]
    exact NP hdec
   have SY:=h
   with_reducible refine aA (fun hb=> ?_) (fun hb=> ?_)<;>have h:=hb<;>(try simp only[wf_preprocess] at h)<;>simp -implicitDefEqProofs (disch:=omega) only[go_sem,hb]<;>(repeat(with_reducible refine And.intro ?_ ?_;focus first|omega|rfl|assumption|exact⟨_,rfl,rfl⟩|(simp;omega)|(simp;done)))
   ·have hM:=h
    with_reducible refine aA (fun hb=> ?_) (fun hb=> ?_)<;>have h:=hb<;>(try simp only[wf_preprocess] at h)<;>simp -implicitDefEqProofs (disch:=omega) only[go_sem,hb]<;>(repeat(with_reducible refine And.intro ?_ ?_;focus first|omega|rfl|assumption|exact⟨_,rfl,rfl⟩|(simp;omega)|(simp;done)))
    ·exact Qz (Ka ha fun e=>e ⟨rfl,.inr ⟨hM,by omega⟩⟩)
    have hl3:3≤x.ak.length:=by omega
    have hg:=xS hl2 fun _=>hl3
    have hdec:=EW ha hg hM
    have b2:cO x.ak 2=(m[1]'(by omega)).aU:=by rw[hmi 1 (by omega),lX (by omega)]
    (repeat(with_reducible refine And.intro ?_ ?_;focus first|omega|rfl|assumption|exact⟨_,rfl,rfl⟩|(simp;omega)|(simp;done)))
    refine⟨⟨by omega,by omega,hrm⟩,?_⟩
    rw[hme,hmd,←b1,←b2]
    refine au (ni (x.ak.drop 3) (by have:=hso 3;omega) (n+1) (n+1+1) (nT hfs 3) (hdl 3) (hda 3)) ?_
    simp -implicitDefEqProofs (disch:=omega) only[go_sem]
    exact NP hdec
   have Ec:=h
   have hg:=xS hl2 fun e=>(Ec e).elim
   with_reducible refine aA (fun hb=> ?_) (fun hb=> ?_)<;>have h:=hb<;>(try simp only[wf_preprocess] at h)<;>simp -implicitDefEqProofs (disch:=omega) only[go_sem,hb]<;>(repeat(with_reducible refine And.intro ?_ ?_;focus first|omega|rfl|assumption|exact⟨_,rfl,rfl⟩|(simp;omega)|(simp;done)))
   ·have hdec:=Qy ha hg h
    rw[hm]
    refine au (ni (x.ak.drop 1) (by have:=hso 1;omega) (n+1) (n+1+1) (nT hfs 1) (hdl 1) (hda 1)) ?_
    simp -implicitDefEqProofs (disch:=omega) only[go_sem]
    exact NP hdec
   have nIf:=h
   with_reducible refine aA (fun hb=> ?_) (fun hb=> ?_)<;>have h:=hb<;>(try simp only[wf_preprocess] at h)<;>simp -implicitDefEqProofs (disch:=omega) only[go_sem,hb]<;>(repeat(with_reducible refine And.intro ?_ ?_;focus first|omega|rfl|assumption|exact⟨_,rfl,rfl⟩|(simp;omega)|(simp;done)))
   ·have hdec:=NJ ha hg h
    have g1:x.ak.getD 1 fu=m[0]'(by omega):=by rw[hmi 0 (by omega),List.getD_eq_getElem?_getD,List.getElem?_eq_getElem (by omega)];rfl
    have gz:=yR x 1 hsz
    rw[g1] at hdec gz
    (repeat(with_reducible refine And.intro ?_ ?_;focus first|omega|rfl|assumption|exact⟨_,rfl,rfl⟩|(simp;omega)|(simp;done)))
    refine au (sI m[0] n gz) ?_
    simp -implicitDefEqProofs (disch:=omega) only[go_sem]
    refine⟨⟨by omega,by omega,hrm⟩,?_⟩
    rw[hme,hmd]
    refine au (ni (x.ak.drop 2) (by have:=hso 2;omega) (n+(fT (dU true m[0]).fArgs+1)) (n+(fT (dU true m[0]).fArgs+1)+1) (nT hfs 2) (hdl 2) (hda 2)) ?_
    simp -implicitDefEqProofs (disch:=omega) only[go_sem]
    exact ie2 hdec
   have nThe:=h
   with_reducible refine aA (fun hb=> ?_) (fun hb=> ?_)<;>have h:=hb<;>(try simp only[wf_preprocess] at h)<;>simp -implicitDefEqProofs (disch:=omega) only[go_sem,hb]<;>(repeat(with_reducible refine And.intro ?_ ?_;focus first|omega|rfl|assumption|exact⟨_,rfl,rfl⟩|(simp;omega)|(simp;done)))
   ·have hdec:=J8 ha hg h
    refine⟨⟨by omega,hrm⟩,?_⟩
    rw[←List.map_take]
    refine au (ni (m.take 1) (by have:=hso 1;have:=zT 1 m;rw[hm] at this ⊢;omega) (n+1) (n+1+1) (VO (by rw[hm];exact nT hfs 1) 1) (by rw[List.length_take];omega) (fun t ht=>hda 1 t (by rw[←hm];exact List.mem_of_mem_take ht))) ?_
    simp -implicitDefEqProofs (disch:=omega) only[go_sem]
    refine⟨⟨by omega,by omega,hrm⟩,?_⟩
    rw[hme,hmd]
    obtain⟨Kg,S9⟩:∃Kg,Kg=(m.take 1).map (dK true):=⟨_,rfl⟩
    obtain⟨r,hrr⟩:∃r,r=x.ak.drop 2:=⟨_,rfl⟩
    have hrl:r.length=x.ak.length-2:=by rw[hrr,List.length_drop]
    have hrs:∀t∈r,t.sz≤4194304∧SizeOf.sizeOf t<N∧iB t=true:=fun t ht=>by
     rw[hrr] at ht
     have h5:=List.mem_of_mem_drop ht
     have:=List.sizeOf_lt_of_mem h5
     exact⟨hda 2 t ht,by omega,tq hfs h5⟩
    obtain⟨q,hq⟩:∃q,q=n+1+(lZ Kg+1):=⟨_,rfl⟩
    obtain⟨L,hL⟩:∃L:Nat→Nat,L=fun k=>q+1+SQ ((r.map (mU true)).take k):=⟨_,rfl⟩
    obtain⟨T,hT⟩:∃T:Nat→List (List D),T=fun k=>lM ((r.map (mU true)).take k) (q+1):=⟨_,rfl⟩
    have hT0:T 0=[]:=by rw[hT];rfl
    have kF:∀k,(T k).length≤k:=fun k=>by rw[hT];simp only[VK];exact List.length_take_le _ _
    have hTs:∀k (hk:k<r.length),T k++[eB (mU true r[k]).enc (L k)]=T (k+1):=fun k hk=>by
     have:=aaG (l:=r.map (mU true)) (i:=k) (by rw[List.length_map];exact hk) (q+1)
     rw[List.getElem_map] at this
     rw[hT,hL];exact this
    have hTe:T r.length=lM (r.map (mU true)) (q+1):=by
     rw[hT];simp only
     rw[List.take_of_length_le (by simp)]
    clear hT hL
    rw[←hm,←S9,←hrr] at hdec
    rw[←S9,←hrr]
    simp -implicitDefEqProofs (disch:=omega) only[go_sem]
    refine BF q 3 8 11 _ rfl rfl ?_
    refine aZ (ι:=Nat) Tryz.checked.mixed rfl [2,7,127,128,129] (fun k=>[.c (.ptr (0,2) 0),.c (.ptr (0,3) 0),.c (.d (.sl (r.map ah.enc))),.c (.d (.i .i64 r.length)),.c (.d (.i .i64 k))])
     (fun k=>[.seed n,.box [.d (.s x.aU),.d (.sl (x.ak.map ah.enc))],.box [.d (.i .i64 0),.d (.s []),.d (.s []),.d (.i .i64 0),.d (.i .i64 0),.d (.s []),.aM [],.aM [],.aM []],
       .box [.d (.i .i64 7),.d (.s []),.d (.s []),.d (.i .i64 0),.d (.i .i64 0),.d (.s []),.aM [],.d (.ol (n+1) (lE Kg (n+1+1))),.bI (0,4) (T k)],.dZ q 11 (T k)]::S)
     (fun k=>k≤r.length) (fun k=>r.length-k) 0 rfl (by rw[hT0];rfl) (Nat.zero_le _) ?_
    intro k hk
    have hlk:=kF k
    simp -implicitDefEqProofs (disch:=omega) only[go_sem]
    with_reducible refine aA (fun hb=> ?_) (fun hb=> ?_)<;>have h:=hb<;>(try simp only[wf_preprocess] at h)<;>simp -implicitDefEqProofs (disch:=omega) only[go_sem,hb]<;>(repeat(with_reducible refine And.intro ?_ ?_;focus first|omega|rfl|assumption|exact⟨_,rfl,rfl⟩|(simp;omega)|(simp;done)))
    ·have hk':k<r.length:=by omega
     have hmm:=hrs _ (List.getElem_mem hk')
     have hs:=hTs k hk'
     simp only[YA,NN,List.cons_append,List.nil_append] at hs
     (repeat(with_reducible refine And.intro ?_ ?_;focus first|omega|rfl|assumption|exact⟨_,rfl,rfl⟩|(simp;omega)|(simp;done)))
     refine au (ihM r[k] hmm.2.1 (L k) hmm.2.2 hmm.1) ?_
     simp -implicitDefEqProofs (disch:=omega) only[go_sem]
     (repeat(with_reducible refine And.intro ?_ ?_;focus first|omega|rfl|assumption|exact⟨_,rfl,rfl⟩|(simp;omega)|(simp;done)))
     rw[hs]
     exact dO 5 (by decide) (k+1) (by omega) rfl rfl rfl rfl (by omega)
    ·have hk':k=r.length:=by omega
     rw[hk',hTe,hq]
     exact ie3 hdec
   have Ta:=h
   have hdec:=J9 ha hg SX nNew YB SY Ec nIf nThe Ta
   rw[hm]
   refine au (ni (x.ak.drop 1) (by have:=hso 1;omega) (n+1) (n+1+1) (nT hfs 1) (hdl 1) (hda 1)) ?_
   simp -implicitDefEqProofs (disch:=omega) only[go_sem]
   exact NP hdec
  ·have xL:=fun(i:Nat) (hi:i<xs.length)=>aaF (l:=xs.map (dK true)) (i:=i) (by rw[List.length_map];exact hi) q
   refine kD (n) (rs:=[.tmp 2]) Tryz.checked.mixed Tryz.func208 Tryz.ntmps208 rfl rfl rfl rfl rfl ?_
   simp -implicitDefEqProofs (disch:=omega) only[go_sem]
   (repeat(with_reducible refine And.intro ?_ ?_;focus first|omega|rfl|assumption|exact⟨_,rfl,rfl⟩|(simp;omega)|(simp;done)))
   refine mJ n 3 9 [] (.inl rfl) (by simp) ?_
   refine aZ (ι:=Nat) Tryz.checked.mixed rfl [3,7,8,9] (fun i=>[.c (.bI (0,1) (lE ((xs.map (dK true)).take i) q)),.c (.d (.sl (xs.map ah.enc))),.c (.d (.i .i64 xs.length)),.c (.d (.i .i64 i))]) (fun i=>[.seed n,.dZ n 9 (lE ((xs.map (dK true)).take i) q)]::S)
    (fun i=>i≤xs.length) (fun i=>xs.length-i) 0 rfl rfl (Nat.zero_le _) ?_
   intro i hi
   simp -implicitDefEqProofs (disch:=omega) only[go_sem]
   with_reducible refine aA (fun hb=> ?_) (fun hb=> ?_)<;>have h:=hb<;>(try simp only[wf_preprocess] at h)<;>simp -implicitDefEqProofs (disch:=omega) only[go_sem,hb]<;>(repeat(with_reducible refine And.intro ?_ ?_;focus first|omega|rfl|assumption|exact⟨_,rfl,rfl⟩|(simp;omega)|(simp;done)))
   ·have hi':i<xs.length:=by omega
    have hs:=xL i hi'
    rw[List.getElem_map] at hs
    simp only[NN] at hs
    have hl:(lE ((xs.map (dK true)).take i) q).length≤i:=by rw[VJ];exact List.length_take_le _ _
    (repeat(with_reducible refine And.intro ?_ ?_;focus first|omega|rfl|assumption|exact⟨_,rfl,rfl⟩|(simp;omega)|(simp;done)))
    refine au (ih xs[i] (by have:=List.sizeOf_lt_of_mem (List.getElem_mem hi');omega) (q+lZ ((xs.map (dK true)).take i)) (tq hfo (List.getElem_mem hi')) (hsz _ (List.getElem_mem hi'))) ?_
    simp -implicitDefEqProofs (disch:=omega) only[go_sem]
    (repeat(with_reducible refine And.intro ?_ ?_;focus first|omega|rfl|assumption|exact⟨_,rfl,rfl⟩|(simp;omega)|(simp;done)))
    rw[hs]
    exact dO 2 (by decide) (i+1) (by omega) rfl rfl rfl rfl (by omega)
   ·have hi':i=(xs.map (dK true)).length:=by rw[List.length_map];omega
    rw[hi',List.take_length]
  ·have iF:=ah.kV x
   have h1:=gY x
   have hall:∀t∈x.ak,t.sz≤4194304:=fun t ht=>by have:=kg ht;omega
   have hr:=gV (l:=x.ak)
   refine aD (rs:=[.cell 2 223]) Tryz.checked.mixed Tryz.func209 Tryz.ntmps209 rfl rfl rfl rfl rfl ?_
   simp -implicitDefEqProofs (disch:=omega) only[go_sem]
   with_reducible refine aA (fun hb=> ?_) (fun hb=> ?_)<;>have h:=hb<;>(try simp only[wf_preprocess] at h)<;>simp -implicitDefEqProofs (disch:=omega) only[go_sem,hb]<;>(repeat(with_reducible refine And.intro ?_ ?_;focus first|omega|rfl|assumption|exact⟨_,rfl,rfl⟩|(simp;omega)|(simp;done)))
   ·exact ma0 (Qx true x (by omega))
   have hl2:2≤x.ak.length:=by omega
   have a0:=lX (l:=x.ak) (i:=0) (by omega)
   have hm:=List.getElem_mem (l:=x.ak) (n:=x.ak.length-1) (by omega)
   have hfs:=Dw hfo (fun e=>by rw[e] at hl2;simp at hl2)
   rw[Qw true x hl2,a0]
   refine⟨⟨by omega,by omega,hr⟩,?_⟩
   rw[Ke _ hl2]
   refine au (zA ((x.ak.drop 1).dropLast) (by rw[List.length_dropLast,List.length_drop];omega) n) ?_
   simp -implicitDefEqProofs (disch:=omega) only[go_sem]
   (repeat(with_reducible refine And.intro ?_ ?_;focus first|omega|rfl|assumption|exact⟨_,rfl,rfl⟩|(simp;omega)|(simp;done)))
   have el:((x.ak.length:Int)-1).toNat=x.ak.length-1:=by omega
   simp only[el]
   refine au (ih (x.ak[x.ak.length-1]) (by have:=List.sizeOf_lt_of_mem hm;omega) (n+1) (tq hfs hm) (hall _ hm)) ?_
   simp -implicitDefEqProofs (disch:=omega) only[go_sem]
   exact jN _
theorem NR(x:ah)(n:Nat)(hf:iB x=true)(hsz:x.sz≤4194304):aI Tryz.prog 110 [x.v] ((dK true x).vl n):=(Dx _).1 x (Nat.lt_succ_self _) n hf hsz
end Go.Proofs.YtlmhknhlmicmeaaGreatDoor
namespace Go.Ab
theorem Dy{P:Program}{w:World}{t u ty e:TypeId}{base:Option Addr}{n:Nat}{i:TypeInfo}{z:Value}(ht:P.underlying t=some (.slice e))(hu:P.underlying u=some (.int .i64))(hi:P.info? e=some i)
 (hz:i.zero=some z) (h1:1≤n) (hn:n≤1073741824) (hb:i.bytes≤4096) (hs:i.size=z.cells.size):
 ∃(cap:Nat) (row:Array Value),n≤cap∧row.size=cap*z.cells.size∧(Builtin.append_ #[t,u] ty #[.slice base 0 0,.int .i64 n]).run P w=
  .ok (.slice (some ⟨w.heap.size,0,none⟩) n cap) {w.drew with heap:=w.heap.push (.cells row e)}:=by
 have hn1:=F3 n 0 (by omega)
 have h48:¬(281474976710656<Builtin.nextslicecap n 0*i.bytes):=by
  have:Builtin.nextslicecap n 0*i.bytes≤(2*n+512)*4096:=Nat.mul_le_mul hn1 hb
  omega
 have h49:¬(281474976710656<(n:Int)*(i.bytes:Int)):=by
  have h2:n*i.bytes≤1073741824*4096:=Nat.mul_le_mul hn hb
  have:(n:Int)*(i.bytes:Int)=((n*i.bytes:Nat):Int):=by simp
  rw[this];omega
 have h63':¬(9223372036854775807<(n:Int)):=by omega
 have hroom':¬(n≤0):=by omega
 have hneg:¬((n:Int)<0):=by omega
 have hn0:¬n=0:=by omega
 have hw:IntKind.i64.wrap (n:Int)=n:=Qj _ (by omega)
 have hmax:IntKind.i64.max=9223372036854775807:=by decide
 have ha:∀w:World,(asInt (.int .i64 (n:Int))).run P w=.ok (n:Int) w:=fun w=>by simp[asInt,asIntOf]
 let cap:=(Question.appendCap n 0 e).cut (w.tape w.drawn (Question.appendCap n 0 e))
 have hcap:n≤cap:=by simp[cap,Question.cut]
 refine⟨cap,#[]++(if n*i.size=0 then #[] else Builtin.zeroCells z.cells n)++Builtin.zeroCells z.cells (cap-n),hcap,?_,?_⟩
 ·by_cases h0:n*i.size=0
  ·rw[if_pos h0]
   have hsz:z.cells.size=0:=by
    rcases Nat.mul_eq_zero.1 h0 with h|h
    ·omega
    ·omega
   simp[Builtin.zeroCells,hsz]
  ·rw[if_neg h0]
   simp only[Builtin.zeroCells,Array.size_append,Array.size_map,Array.size_range,Array.size_empty,Nat.zero_add]
   rw[←Nat.add_mul]
   congr 1
   omega
 ·by_cases h0:n*i.size=0
  ·rw[if_pos h0]
   cases base<;>simp[Builtin.append_,run_underlying ht,run_underlying hu,sizeOf,typeInfo,zeroValue,hi,hz,hroom',h48,h49,h63',hneg,hw,hmax,Question.forced,newRow,ha,hn0,loadCellsFrom,h0,Builtin.firstCells,loadCells]<;>exact⟨rfl,rfl⟩
  ·rw[if_neg h0]
   cases base<;>simp[Builtin.append_,run_underlying ht,run_underlying hu,sizeOf,typeInfo,zeroValue,hi,hz,hroom',h48,h49,h63',hneg,hw,hmax,Question.forced,newRow,ha,hn0,loadCellsFrom,h0,Builtin.firstCells,loadCells]<;>exact⟨rfl,rfl⟩
end Go.Ab
namespace Go.Proofs.YtlmhknhlmicmeaaGreatDoor
open Go Go.Ab
theorem VR(base:Option Addr)(n:Nat)(h1:1≤n)(hn:n≤1073741824)(w:World):Calls Tryz.prog 373 #[.slice base 0 0,.int .i64 n] w fun e w'=>
 ∃cap row,n≤cap∧row.size=cap∧e=.returned (.slice (some ⟨w.heap.size,0,none⟩) 0 cap)∧w'={w.drew with heap:=w.heap.push (.cells row 9)}:=by
 obtain⟨cap,row,hc,hr,hm⟩:=Dy (P:=Tryz.prog) (w:=w) (t:=22) (u:=3) (ty:=22) (e:=9) (base:=base) (n:=n) Tryz.underlying22 Tryz.underlying3 rfl rfl h1 hn (by decide +kernel) rfl
 have h0:¬((n:Int)<0):=by omega
 have h2:(0:Int)<n:=by omega
 go_enter Tryz.func373,Tryz.ntmps373
 go_wp2_with (at_builtin;refine Lib.wpList_append_run _ rfl _ _ _ _ rfl _ _ rfl rfl _ _ hm ?_)
 all_goals go_ret
 exact⟨cap,hc,row,hr.trans (Nat.mul_one _),rfl,rfl⟩
theorem Td(base:Option Addr)(w:World):Calls Tryz.prog 373 #[.slice base 0 0,.int .i64 0] w fun e w'=>e=.returned (.slice base 0 0)∧w'=w:=by
 go_enter Tryz.func373,Tryz.ntmps373
 go_wp2
 all_goals go_ret
 exact⟨rfl,rfl⟩
theorem YC(n:Nat)(hn:n≤1073741824)(bg:List Ab.Obj)(Ω:Store):bD Tryz.prog 373 [.c (.aM []),.c (.d (.i .i64 n))] (bg::Ω)
 (fun r S'=>r=.c (.bI (0,bg.length) [])∧S'=(bg++[.tok 1 []])::Ω):=by
 refine⟨⟨_,Tryz.func373,by kernel_rfl,by kernel_rfl⟩,fun w σ β vs hS hv=> ?_⟩
 obtain⟨hl,h⟩:=hv
 obtain⟨v0,e0,⟨h0,a,m,h00⟩,_⟩:=h 0 _ rfl
 obtain⟨v1,e1,h1,_⟩:=h 1 _ rfl
 have h1':v1=.int .i64 n:=by cases h1;rfl
 subst h1'
 have hm:m=0:=by rw[h00] at h0;cases h0<;>rfl
 subst hm
 subst h00
 have hvs:vs=[.slice a 0 0,.int .i64 n]:=by
  match vs,hl,e0,e1 with
  |[x,y],_,e0,e1=>simp at e0 e1;rw[e0,e1]
 subst hvs
 cases β with
 |nil=>have:=hS.shape.1;simp at this
 |cons bo bΩ=>
 have hlen:bo.length=bg.length:=by
  obtain⟨gr,g1,g2⟩:=hS.shape.2 0 bg rfl
  simp at g1;rw[g1];exact g2
 by_cases hz:n=0
 ·subst hz
  refine(Td a w).mono fun e w' ⟨he,hw⟩=> ?_
  subst hw
  obtain⟨hS',hk,hst⟩:=hS.push (o:=.tok 1 []) (h:=.slice a 0 0) (Grow.refl hS.live) hlen ⟨h0,by simp,a,0,rfl,by simp,.inl rfl⟩ (fun b hb=>by cases a<;>simp[owns,blk] at hb)
  refine⟨_,.c (.bI (0,bg.length) []),_,_,_,he,hS',hk,hst,⟨⟨h0,.tok 1 [],?_,fun aR es e=> ?_⟩,rfl⟩,rfl,rfl⟩
  ·rw[bN]
  ·obtain⟨_,rfl⟩:=kQ (lab:=none) e;exact⟨Nat.le_refl _,fun _=>by rw[←hlen,bN]⟩
 ·refine(VR a n (by omega) hn w).mono fun e w' ⟨cap,row,hc,hr,he,hw⟩=> ?_
  subst hw
  have hσ:σ w.heap.size=0:=(hS.live w.heap.size).resolve_left (by omega)
  have hg:Grow w σ {w.drew with heap:=w.heap.push (.cells row 9)} σ:=by
   refine⟨by simp,rfl,rfl,fun b hb=>⟨?_,rfl⟩,fun b=> ?_⟩
   ·simp only[Array.getElem?_push]
    rw[if_neg (by omega)]
   ·rcases hS.live b with hb|hb
    ·left;simp;omega
    ·exact .inr hb
  obtain⟨hS',hk,hst⟩:=hS.push (o:=.tok 1 []) (h:=.slice (some ⟨w.heap.size,0,none⟩) 0 cap) hg hlen ⟨.nil _ _,by simp,_,cap,rfl,by simp,.inr ⟨w.heap.size,0,row,9,rfl,by simp,by simp[hσ],by omega⟩⟩ (fun b hb=>by
   simp only[owns,blk] at hb
   split at hb
   ·cases hb
   ·cases hb;exact Nat.le_refl _)
  refine⟨_,.c (.bI (0,bg.length) []),_,_,_,he,hS',hk,hst,⟨⟨.nil _ _,.tok 1 [],?_,fun aR es e=> ?_⟩,rfl⟩,rfl,rfl⟩
  ·rw[bN]
  ·obtain⟨_,rfl⟩:=kQ (lab:=none) e;exact⟨Nat.le_refl _,fun _=>by rw[←hlen,bN]⟩
theorem yS{xs:List (List UInt8)}:∀y∈xs.map encS,y.length=1:=fun y hy=>by
 obtain⟨z,_,rfl⟩:=List.mem_map.1 hy
 rfl
theorem BI{α:Type}(xss:List (List α)){i:Nat}(hi:i<xss.length):(xss.take (i+1)).flatten.length=(xss.take i).flatten.length+xss[i].length:=by
 rw[List.take_succ_eq_append_getElem hi,List.flatten_append,List.length_append]
 simp only[List.flatten_cons,List.flatten_nil,List.append_nil]
theorem um{α:Type}(xss:List (List α))(i:Nat):(xss.take i).flatten.length≤xss.flatten.length:=by
 conv=>rhs;rw[←List.take_append_drop i xss]
 rw[List.flatten_append,List.length_append]
 omega
theorem Te(xss:List (List (List UInt8)))(hl:xss.length≤1073741824)(hf:xss.flatten.length≤1073741824):aI Tryz.prog 354 [.c (.d (.sl (xss.map fun a=>[.sl (a.map encS)])))] (.c (.d (.sl (xss.flatten.map encS)))):=fun S=>by
 refine aD (rs:=[.tmp 2]) Tryz.checked.mixed Tryz.func354 Tryz.ntmps354 rfl rfl rfl rfl rfl ?_
 simp -implicitDefEqProofs (disch:=omega) only[go_sem]
 refine aZ (ι:=Nat) Tryz.checked.mixed rfl [0,3,9,10,11] (fun i=>[.c (.d (.sl (xss.map fun a=>[.sl (a.map encS)]))),.c (.d (.i .i64 (xss.take i).flatten.length)),.c (.d (.sl (xss.map fun a=>[.sl (a.map encS)]))),.c (.d (.i .i64 xss.length)),.c (.d (.i .i64 i))]) (fun _=>[]::S)
  (fun i=>i≤xss.length) (fun i=>xss.length-i) 0 rfl rfl (Nat.zero_le _) ?_
 rintro i p1
 have hfi:=um xss i
 by_cases hi:i<xss.length
 ·have hs:=BI xss hi
  have YD:=um xss (i+1)
  simp -implicitDefEqProofs (disch:=omega) only[go_sem]
  with_reducible refine aA (fun hb=> ?_) (fun hb=> ?_)<;>have h:=hb<;>(try simp only[wf_preprocess] at h)<;>simp -implicitDefEqProofs (disch:=omega) only[go_sem,hb]<;>(repeat(with_reducible refine And.intro ?_ ?_;focus first|omega|rfl|assumption|exact⟨_,rfl,rfl⟩|(simp;omega)|(simp;done)))
  ·(repeat(with_reducible refine And.intro ?_ ?_;focus first|omega|rfl|assumption|exact⟨_,rfl,rfl⟩|(simp;omega)|(simp;done)))
   with_reducible refine aA (fun hb=> ?_) (fun hb=> ?_)<;>have h:=hb<;>(try simp only[wf_preprocess] at h)<;>simp -implicitDefEqProofs (disch:=omega) only[go_sem,hb]<;>(repeat(with_reducible refine And.intro ?_ ?_;focus first|omega|rfl|assumption|exact⟨_,rfl,rfl⟩|(simp;omega)|(simp;done)))
   ·omega
   ·refine bL (i+1) (by omega) ?_ rfl (by omega)
    rw[hs];rfl
  ·omega
 have hi:i=xss.length:=by omega
 subst hi
 simp -implicitDefEqProofs (disch:=omega) only[go_sem]
 with_reducible refine aA (fun hb=> ?_) (fun hb=> ?_)<;>have h:=hb<;>(try simp only[wf_preprocess] at h)<;>simp -implicitDefEqProofs (disch:=omega) only[go_sem,hb]<;>(repeat(with_reducible refine And.intro ?_ ?_;focus first|omega|rfl|assumption|exact⟨_,rfl,rfl⟩|(simp;omega)|(simp;done)))
 ·omega
 rw[List.take_length]
 clear hfi
 refine bA rfl (YC xss.flatten.length hf [] S) ?_
 simp -implicitDefEqProofs (disch:=omega) only[go_sem]
 refine aZ (ι:=Nat) Tryz.checked.mixed rfl [6,25,26,27] (fun i=>[.c (.bI (0,0) ((xss.take i).flatten.map encS)),.c (.d (.sl (xss.map fun a=>[.sl (a.map encS)]))),.c (.d (.i .i64 xss.length)),.c (.d (.i .i64 i))]) (fun i=>[.tok 1 ((xss.take i).flatten.map encS)]::S)
  (fun i=>i≤xss.length) (fun i=>xss.length-i) 0 rfl rfl (Nat.zero_le _) ?_
 rintro i p1
 have hfi:=um xss i
 by_cases hi:i<xss.length
 ·have hs:=BI xss hi
  have YD:=um xss (i+1)
  have e:(xss.take (i+1)).flatten.map encS=(xss.take i).flatten.map encS++xss[i].map encS:=by
   rw[List.take_succ_eq_append_getElem hi,List.flatten_append,List.map_append]
   simp only[List.flatten_cons,List.flatten_nil,List.append_nil]
  simp -implicitDefEqProofs (disch:=omega) only[go_sem]
  with_reducible refine aA (fun hb=> ?_) (fun hb=> ?_)<;>have h:=hb<;>(try simp only[wf_preprocess] at h)<;>simp -implicitDefEqProofs (disch:=omega) only[go_sem,hb]<;>(repeat(with_reducible refine And.intro ?_ ?_;focus first|omega|rfl|assumption|exact⟨_,rfl,rfl⟩|(simp;omega)|(simp;done)))
  ·(repeat(with_reducible refine And.intro ?_ ?_;focus first|omega|rfl|assumption|exact⟨_,rfl,rfl⟩|(simp;omega)|(simp;done)))
   refine⟨yS,⟨_,rfl,rfl⟩,by omega,?_⟩
   exact bL (i+1) (by omega) (by rw[e];rfl) (by rw[e]) (by omega)
  ·omega
 ·have hi:i=xss.length:=by omega
  subst hi
  simp -implicitDefEqProofs (disch:=omega) only[go_sem]
  with_reducible refine aA (fun hb=> ?_) (fun hb=> ?_)<;>have h:=hb<;>(try simp only[wf_preprocess] at h)<;>simp -implicitDefEqProofs (disch:=omega) only[go_sem,hb]<;>(repeat(with_reducible refine And.intro ?_ ?_;focus first|omega|rfl|assumption|exact⟨_,rfl,rfl⟩|(simp;omega)|(simp;done)))
  ·omega
  rw[List.take_length]
theorem Tf(c:Nat)(w:World):Calls Tryz.prog 353 #[.slice none 0 c] w fun e w'=>e=.returned (.slice none 0 0)∧w'=w:=by
 have hb:(binOp .eql 22 (.slice none 0 c) (.slice none 0 0)).run Tryz.prog w=.ok (.bool true) w:=by
  simp[binOp,run_equal_slice_nil w _ _ _ _ _ Tryz.underlying22]
 go_enter Tryz.func353,Tryz.ntmps353
 go_wp2
 all_goals go_ret
 exact⟨rfl,rfl⟩
theorem Tg(w w':World)(a:Addr)(n c:Nat)(r:Value)(hm:(Builtin.append_ #[22,22] 22 #[.slice (some ⟨w.heap.size,0,none⟩) 0 0,.slice (some a) n c]).run Tryz.prog (w.alloc (.cells #[] 9))=.ok r w'):
 Calls Tryz.prog 353 #[.slice (some a) n c] w fun e w''=>e=.returned r∧w''=w':=by
 have hb:(binOp .eql 22 (.slice (some a) n c) (.slice none 0 0)).run Tryz.prog w=.ok (.bool false) w:=by
  simp[binOp,run_equal_slice_nil w _ _ _ _ _ Tryz.underlying22]
 go_enter Tryz.func353,Tryz.ntmps353
 go_wp2_with (at_builtin;refine Lib.wpList_append_run _ rfl _ _ _ _ rfl _ _ rfl rfl _ _ hm ?_)
 all_goals go_ret
 exact⟨rfl,rfl⟩
theorem VT(xs:List (List UInt8))(hx:xs.length≤1073741824)(bg:List Ab.Obj)(Ω:Store):bD Tryz.prog 353 [.c (.d (.sl (xs.map encS)))] (bg::Ω)
 (fun r S'=>r=.c (.bI (0,bg.length) (xs.map encS))∧S'=(bg++[.tok 1 (xs.map encS)])::Ω):=by
 have aex:(xs.map encS).length≤1073741824:=by simpa using hx
 have h1:=yS (xs:=xs)
 generalize xs.map encS=es at *
 refine⟨⟨_,Tryz.func353,by kernel_rfl,by kernel_rfl⟩,fun w σ β vs hS hv=> ?_⟩
 obtain⟨hl,h⟩:=hv
 obtain⟨v,e0,hd,_⟩:=h 0 _ rfl
 have hd:bZ w σ (.sl es) v:=hd
 have hvs:vs=[v]:=by
  match vs,hl,e0 with
  |[x],_,e0=>simp at e0;rw[e0]
 subst hvs
 cases β with
 |nil=>have:=hS.shape.1;simp at this
 |cons bo bΩ=>
 have hlen:bo.length=bg.length:=by
  obtain⟨gr,g1,g2⟩:=hS.shape.2 0 bg rfl
  simp at g1;rw[g1];exact g2
 have hv:∃a c,v=.slice a es.length c∧(a=none→es=[]):=by
  cases hd with
  |nil a cap=>exact⟨a,cap,rfl,fun _=>rfl⟩
  |sl b off cap aR es vals c t fz=>exact⟨_,_,rfl,fun h=>by cases h⟩
 obtain⟨a,c,rfl,ha⟩:=hv
 cases a with
 |none=>
  have:=ha rfl
  subst this
  refine(Tf c w).mono fun e w' ⟨he,hw⟩=> ?_
  subst hw
  obtain⟨hS',hk,hst⟩:=hS.push (o:=.tok 1 []) (h:=.slice none 0 0) (Grow.refl hS.live) hlen ⟨.nil _ _,by simp,none,0,rfl,by simp,.inl rfl⟩ (fun b hb=>by simp[owns,blk] at hb)
  refine⟨_,.c (.bI (0,bg.length) []),_,_,_,he,hS',hk,hst,⟨⟨.nil _ _,.tok 1 [],?_,fun aR es e=> ?_⟩,rfl⟩,rfl,rfl⟩
  ·rw[bN]
  ·obtain⟨_,rfl⟩:=kQ (lab:=none) e;exact⟨Nat.le_refl _,fun _=>by rw[←hlen,bN]⟩
 |some a=>
  have hσ:σ w.heap.size=0:=(hS.live w.heap.size).resolve_left (by omega)
  have hg:Grow w σ (w.alloc (.cells #[] 9)) σ:=by
   have hh:(w.alloc (.cells #[] 9)).heap=w.heap.push (.cells #[] 9):=rfl
   refine⟨by rw[hh];simp,rfl,rfl,fun b hb=>⟨?_,rfl⟩,fun b=> ?_⟩
   ·rw[hh,Array.getElem?_push]
    rw[if_neg (by omega)]
   ·rcases hS.live b with hb|hb
    ·left;rw[hh];simp;omega
    ·exact .inr hb
  have wV:gB (w.alloc (.cells #[] 9)) σ [] [] (.tok 1 []) (.slice (some ⟨w.heap.size,0,none⟩) 0 0):=⟨.nil _ _,by simp,_,0,rfl,by simp,.inl rfl⟩
  obtain⟨r,w',σ',hr,hro,hsz,hos,hout,hn,hli,wU,hbk,hzero,h1c⟩:=uy (lab:=none) (P:=Tryz.prog) (w:=w.alloc (.cells #[] 9)) (σ:=σ) (S:=[]) (β:=[]) (t:=22) (u:=22) (ty:=22) (e:=9) (size:=1) (es:=[]) (ys:=es) hg.live Tryz.underlying22 (.inl ⟨_,Tryz.underlying22⟩) ⟨[.d (.s [])],by kernel_rfl,rfl⟩ rfl (by decide +kernel) wV (Cn (bZ.mono hg.near hd) h1) (by simpa using aex)
  rw[List.nil_append] at hro hbk
  refine(Tg w w' a es.length c r hr).mono fun e w'' ⟨he,hw⟩=> ?_
  subst hw
  have hg2:Grow (w.alloc (.cells #[] 9)) σ w'' σ':=⟨hsz,hos,hout,fun b hb=>wU b hb (by simp[gJ,owns,blk]),hli⟩
  have hg3:=hg.trans hg2
  obtain⟨hS',hk,hst⟩:=hS.push (o:=.tok 1 es) (h:=r) hg3 hlen (hro _ _) (fun b hb=>by
   rcases hbk b hb with h|h
   ·simp[gJ,owns,blk] at h
   ·exact Nat.le_trans hg.size h)
  refine⟨_,.c (.bI (0,bg.length) es),_,_,_,he,hS',hk,hst,⟨⟨(hro [] []).1,.tok 1 es,?_,fun aR es' e=> ?_⟩,h1c⟩,rfl,rfl⟩
  ·rw[bN]
  ·obtain⟨_,rfl⟩:=kQ (lab:=none) e;exact⟨Nat.le_refl _,fun _=>by rw[←hlen,bN]⟩
end Go.Proofs.YtlmhknhlmicmeaaGreatDoor
namespace Go.Ab
theorem bD.args{P:Program}{f:FuncId}{args args':List V}{S:Store}{post:V→Store→Prop}(h:bD P f args' S post)(hl:pQ args args'):bD P f args S post:=h.weaken hl.length fun j x y hx hy w σ β v hr=>hl.at j x y hx hy w σ S β v hr
theorem lQ(n:Nat)(es:List (List D)):Less (.c (.iO n es)) (.c (.d (.sl es))):=fun w σ S β v h=>⟨qJ h.1.1,h.2⟩
end Go.Ab
namespace Go.Proofs.YtlmhknhlmicmeaaGreatDoor
open Go Go.Ab
theorem kG(xs:List (List UInt8))(hx:xs.length≤1073741824)(n q:Nat)(bg:List Ab.Obj)(Ω:Store):bD Tryz.prog 173 [.c (.d (.sl (xs.map encS)))] (bg::Ω)
 (fun r S'=>r=.c (.bI (0,bg.length+1) (lx (aN xs) q))∧S'=(bg++[.seed n,.dZ n 2 (lx (aN xs) q)])::Ω):=by
 refine Sj (n) (rs:=[.tmp 2]) Tryz.checked.mixed Tryz.func173 Tryz.ntmps173 rfl rfl rfl rfl rfl ?_
 simp -implicitDefEqProofs (disch:=omega) only[go_sem]
 (repeat(with_reducible refine And.intro ?_ ?_;focus first|omega|rfl|assumption|exact⟨_,rfl,rfl⟩|(simp;omega)|(simp;done)))
 refine mJ n 3 2 [] (.inl rfl) (by simp) ?_
 refine aZ (ι:=Nat) Tryz.checked.mixed rfl [3,7,8,9] (fun i=>[.c (.bI (0,1) (lx ((aN xs).take i) q)),.c (.d (.sl (xs.map encS))),.c (.d (.i .i64 xs.length)),.c (.d (.i .i64 i))]) (fun i=>[.seed n,.dZ n 2 (lx ((aN xs).take i) q)]::bg::Ω)
  (fun i=>i≤xs.length) (fun i=>xs.length-i) 0 rfl rfl (Nat.zero_le _) ?_
 intro i hi
 simp -implicitDefEqProofs (disch:=omega) only[go_sem]
 with_reducible refine aA (fun hb=> ?_) (fun hb=> ?_)<;>have h:=hb<;>(try simp only[wf_preprocess] at h)<;>simp -implicitDefEqProofs (disch:=omega) only[go_sem,hb]<;>(repeat(with_reducible refine And.intro ?_ ?_;focus first|omega|rfl|assumption|exact⟨_,rfl,rfl⟩|(simp;omega)|(simp;done)))
 ·have hi':i<xs.length:=by omega
  have hw:i<(aN xs).length:=by rw[jI];exact hi'
  have hg:(aN xs)[i]=bq xs[i]:=by simp[aN]
  have hl:(lx ((aN xs).take i) q).length≤i:=by rw[gT];exact List.length_take_le _ _
  (repeat(with_reducible refine And.intro ?_ ?_;focus first|omega|rfl|assumption|exact⟨_,rfl,rfl⟩|(simp;omega)|(simp;done)))
  refine au (dJ xs[i] (q+iw ((aN xs).take i))) ?_
  simp -implicitDefEqProofs (disch:=omega) only[go_sem]
  (repeat(with_reducible refine And.intro ?_ ?_;focus first|omega|rfl|assumption|exact⟨_,rfl,rfl⟩|(simp;omega)|(simp;done)))
  have hs:=Je hw q
  rw[hg,wL] at hs
  rw[hs]
  exact bL (i+1) (by omega) rfl rfl (by omega)
 ·have hi':i=(aN xs).length:=by rw[jI];omega
  rw[hi',List.take_length]
  exact⟨rfl,rfl⟩
theorem VU(base:Option Addr)(n:Nat)(h1:1≤n)(hn:n≤1073741824)(w:World):Calls Tryz.prog 288 #[.slice base 0 0,.int .i64 n] w fun e w'=>
 ∃cap row,n≤cap∧row.size=cap*2∧e=.returned (.slice (some ⟨w.heap.size,0,none⟩) 0 cap)∧w'={w.drew with heap:=w.heap.push (.cells row 32)}:=by
 obtain⟨cap,row,hc,hr,hm⟩:=Dy (P:=Tryz.prog) (w:=w) (t:=30) (u:=3) (ty:=30) (e:=32) (base:=base) (n:=n) Tryz.underlying30 Tryz.underlying3 rfl rfl h1 hn (by decide +kernel) rfl
 have h0:¬((n:Int)<0):=by omega
 have h2:(0:Int)<n:=by omega
 go_enter Tryz.func288,Tryz.ntmps288
 go_wp2_with (at_builtin;refine Lib.wpList_append_run _ rfl _ _ _ _ rfl _ _ rfl rfl _ _ hm ?_)
 all_goals go_ret
 exact⟨cap,hc,row,hr,rfl,rfl⟩
theorem Ti(base:Option Addr)(w:World):Calls Tryz.prog 288 #[.slice base 0 0,.int .i64 0] w fun e w'=>e=.returned (.slice base 0 0)∧w'=w:=by
 go_enter Tryz.func288,Tryz.ntmps288
 go_wp2
 all_goals go_ret
 exact⟨rfl,rfl⟩
theorem VW(m n:Nat)(hn:n≤1073741824)(bg:List Ab.Obj)(Ω:Store):bD Tryz.prog 288 [.c (.aM []),.c (.d (.i .i64 n))] (bg::Ω)
 (fun r S'=>r=.c (.bI (0,bg.length) [])∧S'=(bg++[.dZ m 2 []])::Ω):=by
 refine⟨⟨_,Tryz.func288,by kernel_rfl,by kernel_rfl⟩,fun w σ β vs hS hv=> ?_⟩
 obtain⟨hl,h⟩:=hv
 obtain⟨v0,e0,⟨h0,a,m',h00⟩,_⟩:=h 0 _ rfl
 obtain⟨v1,e1,h1,_⟩:=h 1 _ rfl
 have h1':v1=.int .i64 n:=by cases h1;rfl
 subst h1'
 have hm:m'=0:=by rw[h00] at h0;cases h0<;>rfl
 subst hm
 subst h00
 have hvs:vs=[.slice a 0 0,.int .i64 n]:=by
  match vs,hl,e0,e1 with
  |[x,y],_,e0,e1=>simp at e0 e1;rw[e0,e1]
 subst hvs
 cases β with
 |nil=>have:=hS.shape.1;simp at this
 |cons bo bΩ=>
 have hlen:bo.length=bg.length:=by
  obtain⟨gr,g1,g2⟩:=hS.shape.2 0 bg rfl
  simp at g1;rw[g1];exact g2
 by_cases hz:n=0
 ·subst hz
  refine(Ti a w).mono fun e w' ⟨he,hw⟩=> ?_
  subst hw
  obtain⟨hS',hk,hst⟩:=hS.push (o:=.dZ m 2 []) (h:=.slice a 0 0) (Grow.refl hS.live) hlen ⟨h0,by simp,a,0,rfl,by simp,.inl ⟨rfl,.qF _ _ _⟩⟩ (fun b hb=>by cases a<;>simp[owns,blk] at hb)
  refine⟨_,.c (.bI (0,bg.length) []),_,_,_,he,hS',hk,hst,⟨⟨h0,.dZ m 2 [],?_,fun aR es e=> ?_⟩,rfl⟩,rfl,rfl⟩
  ·rw[bN]
  ·obtain⟨_,rfl⟩:=kQ (lab:=some m) e;exact⟨Nat.le_refl _,fun _=>by rw[←hlen,bN]⟩
 ·refine(VU a n (by omega) hn w).mono fun e w' ⟨cap,row,hc,hr,he,hw⟩=> ?_
  subst hw
  have hσ:σ w.heap.size=0:=(hS.live w.heap.size).resolve_left (by omega)
  have hg:Grow w σ {w.drew with heap:=w.heap.push (.cells row 32)} σ:=by
   refine⟨by simp,rfl,rfl,fun b hb=>⟨?_,rfl⟩,fun b=> ?_⟩
   ·simp only[Array.getElem?_push]
    rw[if_neg (by omega)]
   ·rcases hS.live b with hb|hb
    ·left;simp;omega
    ·exact .inr hb
  obtain⟨hS',hk,hst⟩:=hS.push (o:=.dZ m 2 []) (h:=.slice (some ⟨w.heap.size,0,none⟩) 0 cap) hg hlen ⟨.nil _ _,by simp,_,cap,rfl,by simp,.inr ⟨by simp;omega,w.heap.size,0,row,32,rfl,by simp,by simp[hσ],by omega⟩⟩ (fun b hb=>by
   simp only[owns,blk] at hb
   split at hb
   ·cases hb
   ·cases hb;exact Nat.le_refl _)
  refine⟨_,.c (.bI (0,bg.length) []),_,_,_,he,hS',hk,hst,⟨⟨.nil _ _,.dZ m 2 [],?_,fun aR es e=> ?_⟩,rfl⟩,rfl,rfl⟩
  ·rw[bN]
  ·obtain⟨_,rfl⟩:=kQ (lab:=some m) e;exact⟨Nat.le_refl _,fun _=>by rw[←hlen,bN]⟩
theorem PO(m l:Nat)(xss:List (Nat×List (List D)))(hl:xss.length≤1073741824)(hr:∀p∈xss,∀r∈p.2,r.length=2)(hf:(xss.map (·.2)).flatten.length≤1073741824):aI Tryz.prog 213 [.c (.iO l (xss.map fun p=>[.ol p.1 p.2]))] (.c (.d (.ol m (xss.map (·.2)).flatten))):=fun S=>by
 obtain⟨ys,hys⟩:∃ys:List (List (List D)),ys=xss.map (·.2):=⟨_,rfl⟩
 rw[←hys] at hf ⊢
 have hyl:ys.length=xss.length:=by rw[hys,List.length_map]
 have hyi:∀i (hi:i<xss.length),ys[i]'(by omega)=xss[i].2:=fun i hi=>by simp[hys]
 have Y1:∀i (hi:i<xss.length),∀r∈xss[i].2,r.length=2:=fun i hi=>hr _ (List.getElem_mem hi)
 refine kD (m) (rs:=[.tmp 2]) Tryz.checked.mixed Tryz.func213 Tryz.ntmps213 rfl rfl rfl rfl rfl ?_
 simp -implicitDefEqProofs (disch:=omega) only[go_sem]
 refine aZ (ι:=Nat) Tryz.checked.mixed rfl [0,3,9,10,11] (fun i=>[.c (.iO l (xss.map fun p=>[.ol p.1 p.2])),.c (.d (.i .i64 (ys.take i).flatten.length)),.c (.iO l (xss.map fun p=>[.ol p.1 p.2])),.c (.d (.i .i64 xss.length)),.c (.d (.i .i64 i))]) (fun _=>[.seed m]::S)
  (fun i=>i≤xss.length) (fun i=>xss.length-i) 0 rfl rfl (Nat.zero_le _) ?_
 rintro i p1
 have hfi:=um ys i
 by_cases hi:i<xss.length
 ·have hs:=BI ys (i:=i) (by omega)
  rw[hyi i hi] at hs
  have YD:=um ys (i+1)
  simp -implicitDefEqProofs (disch:=omega) only[go_sem]
  with_reducible refine aA (fun hb=> ?_) (fun hb=> ?_)<;>have h:=hb<;>(try simp only[wf_preprocess] at h)<;>simp -implicitDefEqProofs (disch:=omega) only[go_sem,hb]<;>(repeat(with_reducible refine And.intro ?_ ?_;focus first|omega|rfl|assumption|exact⟨_,rfl,rfl⟩|(simp;omega)|(simp;done)))
  ·(repeat(with_reducible refine And.intro ?_ ?_;focus first|omega|rfl|assumption|exact⟨_,rfl,rfl⟩|(simp;omega)|(simp;done)))
   with_reducible refine aA (fun hb=> ?_) (fun hb=> ?_)<;>have h:=hb<;>(try simp only[wf_preprocess] at h)<;>simp -implicitDefEqProofs (disch:=omega) only[go_sem,hb]<;>(repeat(with_reducible refine And.intro ?_ ?_;focus first|omega|rfl|assumption|exact⟨_,rfl,rfl⟩|(simp;omega)|(simp;done)))
   ·omega
   ·refine bL (i+1) (by omega) ?_ rfl (by omega)
    rw[hs];rfl
  ·omega
 have hi:i=xss.length:=by omega
 subst hi
 simp -implicitDefEqProofs (disch:=omega) only[go_sem]
 with_reducible refine aA (fun hb=> ?_) (fun hb=> ?_)<;>have h:=hb<;>(try simp only[wf_preprocess] at h)<;>simp -implicitDefEqProofs (disch:=omega) only[go_sem,hb]<;>(repeat(with_reducible refine And.intro ?_ ?_;focus first|omega|rfl|assumption|exact⟨_,rfl,rfl⟩|(simp;omega)|(simp;done)))
 ·omega
 rw[←hyl,List.take_length]
 clear hfi
 refine bA rfl (VW m ys.flatten.length hf [.seed m] S) ?_
 simp -implicitDefEqProofs (disch:=omega) only[go_sem]
 refine aZ (ι:=Nat) Tryz.checked.mixed rfl [6,25,26,27] (fun i=>[.c (.bI (0,1) (ys.take i).flatten),.c (.iO l (xss.map fun p=>[.ol p.1 p.2])),.c (.d (.i .i64 xss.length)),.c (.d (.i .i64 i))]) (fun i=>[.seed m,.dZ m 2 (ys.take i).flatten]::S)
  (fun i=>i≤xss.length) (fun i=>xss.length-i) 0 (by rw[←hyl];rfl) rfl (Nat.zero_le _) ?_
 rintro i p1
 have hfi:=um ys i
 by_cases hi:i<xss.length
 ·have hs:=BI ys (i:=i) (by omega)
  rw[hyi i hi] at hs
  have YD:=um ys (i+1)
  have e:(ys.take (i+1)).flatten=(ys.take i).flatten++xss[i].2:=by
   rw[List.take_succ_eq_append_getElem (by omega),List.flatten_append,hyi i hi]
   simp only[List.flatten_cons,List.flatten_nil,List.append_nil]
  have wR:=Y1 i hi
  simp -implicitDefEqProofs (disch:=omega) only[go_sem]
  with_reducible refine aA (fun hb=> ?_) (fun hb=> ?_)<;>have h:=hb<;>(try simp only[wf_preprocess] at h)<;>simp -implicitDefEqProofs (disch:=omega) only[go_sem,hb]<;>(repeat(with_reducible refine And.intro ?_ ?_;focus first|omega|rfl|assumption|exact⟨_,rfl,rfl⟩|(simp;omega)|(simp;done)))
  ·(repeat(with_reducible refine And.intro ?_ ?_;focus first|omega|rfl|assumption|exact⟨_,rfl,rfl⟩|(simp;omega)|(simp;done)))
   exact bL (i+1) (by omega) (by rw[e];rfl) (by rw[e]) (by omega)
  ·omega
 ·have hi:i=ys.length:=by omega
  simp -implicitDefEqProofs (disch:=omega) only[go_sem]
  with_reducible refine aA (fun hb=> ?_) (fun hb=> ?_)<;>have h:=hb<;>(try simp only[wf_preprocess] at h)<;>simp -implicitDefEqProofs (disch:=omega) only[go_sem,hb]<;>(repeat(with_reducible refine And.intro ?_ ?_;focus first|omega|rfl|assumption|exact⟨_,rfl,rfl⟩|(simp;omega)|(simp;done)))
  ·omega
  rw[hi,List.take_length]
end Go.Proofs.YtlmhknhlmicmeaaGreatDoor
namespace Go.Ab
theorem iA{x:ay}{k:Int}(h:x.aH=k):gu x.aH x.aW x.fName x.fType=gu k x.aW x.fName x.fType:=by rw[h]
theorem Ki{l:List ay}{t:ay}(h:t∈l):t.sz≤pU l:=by
 rw[←FD];exact eP (List.mem_map_of_mem h)
theorem Ib{l:List aJ}{t:aJ}(h:t∈l):t.sz≤xA l:=by
 rw[←FE];exact eP (List.mem_map_of_mem h)
theorem zU:∀{xs:List ay},je xs=true↔∀t∈xs,gD t=true
 |[]=>by simp[je]
 |t::ts=>by simp[je,zU (xs:=ts)]
theorem BJ:∀{xs:List aJ},lJ xs=true↔∀t∈xs,rM t=true
 |[]=>by simp[lJ]
 |t::ts=>by simp[lJ,BJ (xs:=ts)]
theorem iV{x:ay}(h1:x.aH≠1)(h2:x.aH≠2)(h3:x.aH≠3)(h:x.aH=4∨x.aH=5∨x.aH=6∨x.aH=8∨x.aH=9∨x.aH=10∨x.aH=11∨x.aH=12):
 dQ x=bS (gu x.aH x.aW x.fName x.fType++x.fArgs.map dQ):=by rw[Di,if_neg h1,if_neg h2,if_neg h3,if_pos h,List.append_nil]
end Go.Ab
namespace Go.Proofs.YtlmhknhlmicmeaaGreatDoor
open Go Go.Ab
theorem Ic:∀N:Nat,∀x:ay,SizeOf.sizeOf x<N→∀n:Nat,gD x=true→x.sz≤4194304→aI Tryz.prog 112 [x.v] (.agg [.d (.s (dQ x).aU),.d (.ol n (lx (dQ x).ak (n+1)))])
 |0=>fun x h=>by omega
 |N+1=>by
  have ih:=Ic N
  intro x hn n hok hsz S
  have iF:=ay.fF x
  have zl:=ay.mK x
  have hzz:=sW x
  rw[ug,Bool.and_eq_true,Bool.and_eq_true] at hok
  obtain⟨hfi,hoa,NS⟩:=hok
  have hfi:=gq hfi
  have hoa:=zU.1 hoa
  have NS:=BJ.1 NS
  obtain⟨qa,uU⟩:∃qa,qa=n+1+iw (gu x.aH x.aW x.fName x.fType):=⟨_,rfl⟩
  obtain⟨T,hT⟩:∃T:Nat→List (List D),T=fun i=>lx ((x.fArgs.map dQ).take i) qa:=⟨_,rfl⟩
  have hT0:T 0=[]:=by rw[hT];rfl
  have kF:∀i,(T i).length≤i:=fun i=>by rw[hT];simp only[gT];exact List.length_take_le _ _
  have hTr:∀i,∀r∈T i,r.length=2:=fun i=>by rw[hT];exact lW
  have hTs:∀i (hi:i<x.fArgs.length),T i++[[.s (dQ x.fArgs[i]).aU,.ol (qa+iw ((x.fArgs.map dQ).take i)) (lx (dQ x.fArgs[i]).ak (qa+iw ((x.fArgs.map dQ).take i)+1))]]=T (i+1):=fun i hi=>by
   have:=Fz (l:=x.fArgs.map dQ) (i:=i) (by rw[List.length_map];exact hi) qa
   rw[List.getElem_map] at this
   rw[hT];exact this
  have hTe:T x.fArgs.length=lx (x.fArgs.map dQ) qa:=by rw[hT];simp only;rw[List.take_of_length_le (by simp)]
  clear hT
  refine kD (n) (rs:=[.cell 2 32]) Tryz.checked.mixed Tryz.func112 Tryz.ntmps112 rfl rfl rfl rfl rfl ?_
  simp -implicitDefEqProofs (disch:=omega) only[go_sem]
  (repeat(with_reducible refine And.intro ?_ ?_;focus first|omega|rfl|assumption|exact⟨_,rfl,rfl⟩|(simp;omega)|(simp;done)))
  refine mJ n 3 2 [] (.inl rfl) (by simp) ?_
  refine aZ (ι:=Nat) Tryz.checked.mixed rfl [1,2,3,11,12,13] (fun i=>[.c (.ptr (0,1) 0),.c (.ptr (0,2) 0),.c (.bI (0,3) (T i)),.c (.d (.sl (x.fArgs.map ay.enc))),.c (.d (.i .i64 x.fArgs.length)),.c (.d (.i .i64 i))])
   (fun i=>[.seed n,.box [.d (.i .i64 x.aH),.d (.s x.aW),.d (.s x.fName),.d (.i .i64 x.fN),.d (.i .i64 x.fType.aH),.d (.s x.fType.fName),.d (.sl (x.fType.fArgs.map aj.enc)),.d (.sl (x.fArgs.map ay.enc)),.d (.sl (x.aL.map aJ.enc))],.box [.d (.s []),.aM []],.dZ n 2 (T i)]::S)
   (fun i=>i≤x.fArgs.length) (fun i=>x.fArgs.length-i) 0 (by rw[hT0];rfl) (by rw[hT0];rfl) (Nat.zero_le _) ?_
  intro i hi
  have hl:=kF i
  simp -implicitDefEqProofs (disch:=omega) only[go_sem]
  with_reducible refine aA (fun hb=> ?_) (fun hb=> ?_)<;>have h:=hb<;>(try simp only[wf_preprocess] at h)<;>simp -implicitDefEqProofs (disch:=omega) only[go_sem,hb]<;>(repeat(with_reducible refine And.intro ?_ ?_;focus first|omega|rfl|assumption|exact⟨_,rfl,rfl⟩|(simp;omega)|(simp;done)))
  ·have hi':i<x.fArgs.length:=by omega
   have hm:=List.getElem_mem hi'
   have Y4:=Ki hm
   have hs:=hTs i hi'
   (repeat(with_reducible refine And.intro ?_ ?_;focus first|omega|rfl|assumption|exact⟨_,rfl,rfl⟩|(simp;omega)|(simp;done)))
   refine au (ih x.fArgs[i] (by have:=List.sizeOf_lt_of_mem hm;omega) (qa+iw ((x.fArgs.map dQ).take i)) (hoa _ hm) (by omega)) ?_
   simp -implicitDefEqProofs (disch:=omega) only[go_sem]
   (repeat(with_reducible refine And.intro ?_ ?_;focus first|omega|rfl|assumption|exact⟨_,rfl,rfl⟩|(simp;omega)|(simp;done)))
   rw[hs]
   exact dO 4 (by decide) (i+1) (by omega) rfl rfl rfl rfl (by omega)
  have hi':i=x.fArgs.length:=by omega
  subst hi'
  clear hTs hi h hb
  have hTT:=hTr x.fArgs.length
  have hxe:=Di x
  with_reducible refine aA (fun hb=> ?_) (fun hb=> ?_)<;>have h:=hb<;>(try simp only[wf_preprocess] at h)<;>simp -implicitDefEqProofs (disch:=omega) only[go_sem,hb]<;>(repeat(with_reducible refine And.intro ?_ ?_;focus first|omega|rfl|assumption|exact⟨_,rfl,rfl⟩|(simp;omega)|(simp;done)))
  ·rw[if_pos h] at hxe
   rw[hxe]
   have hb:=hfi.2.2.2.1
   rw[if_pos h] at hb
   refine au (FI x.fN (by omega) (by omega)) ?_
   simp -implicitDefEqProofs (disch:=omega) only[go_sem]
   refine au (dJ _ n) ?_
   simp -implicitDefEqProofs (disch:=omega) only[go_sem]
   rfl
  have k1:=h
  rw[if_neg h] at hxe
  with_reducible refine aA (fun hb=> ?_) (fun hb=> ?_)<;>have h:=hb<;>(try simp only[wf_preprocess] at h)<;>simp -implicitDefEqProofs (disch:=omega) only[go_sem,hb]<;>(repeat(with_reducible refine And.intro ?_ ?_;focus first|omega|rfl|assumption|exact⟨_,rfl,rfl⟩|(simp;omega)|(simp;done)))
  ·rw[if_pos h] at hxe
   rw[hxe]
   with_reducible refine aA (fun hb=> ?_) (fun hb=> ?_)<;>have h:=hb<;>(try simp only[wf_preprocess] at h)<;>simp -implicitDefEqProofs (disch:=omega) only[go_sem,hb]<;>(repeat(with_reducible refine And.intro ?_ ?_;focus first|omega|rfl|assumption|exact⟨_,rfl,rfl⟩|(simp;omega)|(simp;done)))
   ·rw[if_pos h]
    refine au (dJ _ n) ?_
    simp -implicitDefEqProofs (disch:=omega) only[go_sem]
    rfl
   ·rw[if_neg h]
    refine au (dJ _ n) ?_
    simp -implicitDefEqProofs (disch:=omega) only[go_sem]
    rfl
  have k2:=h
  rw[if_neg h] at hxe
  with_reducible refine aA (fun hb=> ?_) (fun hb=> ?_)<;>have h:=hb<;>(try simp only[wf_preprocess] at h)<;>simp -implicitDefEqProofs (disch:=omega) only[go_sem,hb]<;>(repeat(with_reducible refine And.intro ?_ ?_;focus first|omega|rfl|assumption|exact⟨_,rfl,rfl⟩|(simp;omega)|(simp;done)))
  ·rw[if_pos h] at hxe
   rw[hxe]
   refine au (dJ _ n) ?_
   simp -implicitDefEqProofs (disch:=omega) only[go_sem]
   rfl
  have k3:=h
  clear hxe
  with_reducible refine aA (fun hb=> ?_) (fun hb=> ?_)<;>have h:=hb<;>(try simp only[wf_preprocess] at h)<;>simp -implicitDefEqProofs (disch:=omega) only[go_sem,hb]<;>(repeat(with_reducible refine And.intro ?_ ?_;focus first|omega|rfl|assumption|exact⟨_,rfl,rfl⟩|(simp;omega)|(simp;done)))
  ·have hx:=iV k1 k2 k3 (by omega)
   have hh:gu x.aH x.aW x.fName x.fType=aN [lg,x.fName]:=by rw[iA h];rfl
   rw[hh] at hx uU
   (repeat(with_reducible refine And.intro ?_ ?_;focus first|omega|rfl|assumption|exact⟨_,rfl,rfl⟩|(simp;omega)|(simp;done)))
   refine bA rfl (bD.args (kG [lg,x.fName] (by simp) n (n+1) _ _) (.cons (lQ n _) .nil)) ?_
   have Kj:(lx (aN [lg,x.fName]) (n+1)).length=2:=by rw[gT];rfl
   have Kk:=lW (l:=aN [lg,x.fName]) (n:=n+1)
   simp -implicitDefEqProofs (disch:=omega) only[go_sem]
   (repeat(with_reducible refine And.intro ?_ ?_;focus first|omega|rfl|assumption|exact⟨_,rfl,rfl⟩|(simp;omega)|(simp;done)))
   refine bA rfl (j3 0 5 _ _) ?_
   simp -implicitDefEqProofs (disch:=omega) only[go_sem]
   rw[hx,hTe,uU,dY,dI,jL]
  have k4:=h
  with_reducible refine aA (fun hb=> ?_) (fun hb=> ?_)<;>have h:=hb<;>(try simp only[wf_preprocess] at h)<;>simp -implicitDefEqProofs (disch:=omega) only[go_sem,hb]<;>(repeat(with_reducible refine And.intro ?_ ?_;focus first|omega|rfl|assumption|exact⟨_,rfl,rfl⟩|(simp;omega)|(simp;done)))
  ·have hx:=iV k1 k2 k3 (by omega)
   have hh:gu x.aH x.aW x.fName x.fType=aN [gy,x.aW,x.fName]:=by rw[iA h];rfl
   rw[hh] at hx uU
   (repeat(with_reducible refine And.intro ?_ ?_;focus first|omega|rfl|assumption|exact⟨_,rfl,rfl⟩|(simp;omega)|(simp;done)))
   refine bA rfl (bD.args (kG [gy,x.aW,x.fName] (by simp) n (n+1) _ _) (.cons (lQ n _) .nil)) ?_
   have Kj:(lx (aN [gy,x.aW,x.fName]) (n+1)).length=3:=by rw[gT];rfl
   have Kk:=lW (l:=aN [gy,x.aW,x.fName]) (n:=n+1)
   simp -implicitDefEqProofs (disch:=omega) only[go_sem]
   (repeat(with_reducible refine And.intro ?_ ?_;focus first|omega|rfl|assumption|exact⟨_,rfl,rfl⟩|(simp;omega)|(simp;done)))
   refine bA rfl (j3 0 5 _ _) ?_
   simp -implicitDefEqProofs (disch:=omega) only[go_sem]
   rw[hx,hTe,uU,dY,dI,jL]
  have k5:=h
  with_reducible refine aA (fun hb=> ?_) (fun hb=> ?_)<;>have h:=hb<;>(try simp only[wf_preprocess] at h)<;>simp -implicitDefEqProofs (disch:=omega) only[go_sem,hb]<;>(repeat(with_reducible refine And.intro ?_ ?_;focus first|omega|rfl|assumption|exact⟨_,rfl,rfl⟩|(simp;omega)|(simp;done)))
  ·have hx:=iV k1 k2 k3 (by omega)
   have hh:gu x.aH x.aW x.fName x.fType=aN [oh,x.fName]:=by rw[iA h];rfl
   rw[hh] at hx uU
   (repeat(with_reducible refine And.intro ?_ ?_;focus first|omega|rfl|assumption|exact⟨_,rfl,rfl⟩|(simp;omega)|(simp;done)))
   refine bA rfl (bD.args (kG [oh,x.fName] (by simp) n (n+1) _ _) (.cons (lQ n _) .nil)) ?_
   have Kj:(lx (aN [oh,x.fName]) (n+1)).length=2:=by rw[gT];rfl
   have Kk:=lW (l:=aN [oh,x.fName]) (n:=n+1)
   simp -implicitDefEqProofs (disch:=omega) only[go_sem]
   (repeat(with_reducible refine And.intro ?_ ?_;focus first|omega|rfl|assumption|exact⟨_,rfl,rfl⟩|(simp;omega)|(simp;done)))
   refine bA rfl (j3 0 5 _ _) ?_
   simp -implicitDefEqProofs (disch:=omega) only[go_sem]
   rw[hx,hTe,uU,dY,dI,jL]
  have k6:=h
  with_reducible refine aA (fun hb=> ?_) (fun hb=> ?_)<;>have h:=hb<;>(try simp only[wf_preprocess] at h)<;>simp -implicitDefEqProofs (disch:=omega) only[go_sem,hb]<;>(repeat(with_reducible refine And.intro ?_ ?_;focus first|omega|rfl|assumption|exact⟨_,rfl,rfl⟩|(simp;omega)|(simp;done)))
  ·have hx:=Di x
   rw[if_neg k1,if_neg k2,if_neg k3,if_neg (by omega)] at hx
   have hh:gu x.aH x.aW x.fName x.fType=aN [iG]:=by rw[iA h];rfl
   rw[hh] at hx uU
   obtain⟨B,hB⟩:∃B:Nat→List (List D),B=fun i=>lx (x.fArgs.map dQ++(x.aL.map uT).take i) qa:=⟨_,rfl⟩
   obtain⟨L,hL⟩:∃L:Nat→Nat,L=fun i=>qa+iw (x.fArgs.map dQ++(x.aL.map uT).take i):=⟨_,rfl⟩
   have hB0:T x.fArgs.length=B 0:=by rw[hTe,hB];simp only[List.take_zero,List.append_nil]
   have hBl:∀i,(B i).length≤i+x.fArgs.length:=fun i=>by
    rw[hB];simp only[gT,List.length_append,List.length_map]
    have:=List.length_take_le i (x.aL.map uT)
    omega
   have hBr:∀i,∀r∈B i,r.length=2:=fun i=>by rw[hB];exact lW
   have hBs:∀i (hi:i<x.aL.length),B i++[[.s [],.ol (L i) (lx ([bq x.aL[i].bR]++aN x.aL[i].aC++[dQ x.aL[i].fBody]) (L i+1))]]=B (i+1):=fun i hi=>by
    have:=Ns (base:=x.fArgs.map dQ) (l:=x.aL.map uT) (i:=i) (by rw[List.length_map];exact hi) qa
    rw[List.getElem_map,Vx,dY,dI] at this
    rw[hB,hL];exact this
   have hBe:B x.aL.length=lx (x.fArgs.map dQ++x.aL.map uT) qa:=by rw[hB];simp only;rw[List.take_of_length_le (by simp)]
   clear hB hL hTT
   (repeat(with_reducible refine And.intro ?_ ?_;focus first|omega|rfl|assumption|exact⟨_,rfl,rfl⟩|(simp;omega)|(simp;done)))
   refine bA rfl (bD.args (kG [iG] (by simp) n (n+1) _ _) (.cons (lQ n _) .nil)) ?_
   have Kj:(lx (aN [iG]) (n+1)).length=1:=by rw[gT];rfl
   have Kk:=lW (l:=aN [iG]) (n:=n+1)
   simp -implicitDefEqProofs (disch:=omega) only[go_sem]
   rw[hB0]
   obtain⟨HD,hHD⟩:∃HD,HD=lx (aN [iG]) (n+1):=⟨_,rfl⟩
   rw[←hHD] at Kj Kk ⊢
   refine aZ (ι:=Nat) Tryz.checked.mixed rfl [2,3,6,69,70,71] (fun i=>[.c (.ptr (0,2) 0),.c (.bI (0,3) (B i)),.c (.bI (0,5) HD),.c (.d (.sl (x.aL.map aJ.enc))),.c (.d (.i .i64 x.aL.length)),.c (.d (.i .i64 i))])
    (fun i=>[.seed n,.box [.d (.i .i64 x.aH),.d (.s x.aW),.d (.s x.fName),.d (.i .i64 x.fN),.d (.i .i64 x.fType.aH),.d (.s x.fType.fName),.d (.sl (x.fType.fArgs.map aj.enc)),.d (.sl (x.fArgs.map ay.enc)),.d (.sl (x.aL.map aJ.enc))],.box [.d (.s []),.aM []],.dZ n 2 (B i),.seed n,.dZ n 2 HD]::S)
    (fun i=>i≤x.aL.length) (fun i=>x.aL.length-i) 0 rfl rfl (Nat.zero_le _) ?_
   intro i hi
   have hl:=hBl i
   have hr:=hBr i
   simp -implicitDefEqProofs (disch:=omega) only[go_sem]
   with_reducible refine aA (fun hb=> ?_) (fun hb=> ?_)<;>have h:=hb<;>(try simp only[wf_preprocess] at h)<;>simp -implicitDefEqProofs (disch:=omega) only[go_sem,hb]<;>(repeat(with_reducible refine And.intro ?_ ?_;focus first|omega|rfl|assumption|exact⟨_,rfl,rfl⟩|(simp;omega)|(simp;done)))
   ·have hi':i<x.aL.length:=by omega
    have hm:=List.getElem_mem hi'
    have Y4:=Ib hm
    have hea:=wM x.aL[i]
    have hs:=hBs i hi'
    have hak:=NS _ hm
    rw[og,Bool.and_eq_true,Bool.and_eq_true] at hak
    have hls:=List.sizeOf_lt_of_mem hm
    have hlb:=aJ.lU x.aL[i]
    (repeat(with_reducible refine And.intro ?_ ?_;focus first|omega|rfl|assumption|exact⟨_,rfl,rfl⟩|(simp;omega)|(simp;done)))
    refine yH (wY [x.aL[i].bR] (by simp) 0 (L i+1)) (.cons (lQ n _) .nil) ?_
    simp -implicitDefEqProofs (disch:=omega) only[go_sem]
    refine au (wY x.aL[i].aC (by omega) 0 (L i+1+iw (aN [x.aL[i].bR]))) ?_
    simp -implicitDefEqProofs (disch:=omega) only[go_sem]
    refine au (ih x.aL[i].fBody (by omega) (L i+1+iw (aN [x.aL[i].bR]++aN x.aL[i].aC)) hak.2.2 (by omega)) ?_
    simp -implicitDefEqProofs (disch:=omega) only[go_sem]
    (repeat(with_reducible refine And.intro ?_ ?_;focus first|omega|rfl|assumption|exact⟨_,rfl,rfl⟩|(simp;omega)|(simp;done)))
    refine au (PO (L i) n [(0,lx (aN [x.aL[i].bR]) (L i+1)),(0,lx (aN x.aL[i].aC) (L i+1+iw (aN [x.aL[i].bR]))),(n,[[.s (dQ x.aL[i].fBody).aU,.ol (L i+1+iw (aN [x.aL[i].bR]++aN x.aL[i].aC)) (lx (dQ x.aL[i].fBody).ak (L i+1+iw (aN [x.aL[i].bR]++aN x.aL[i].aC)+1))]])] (by simp) ?_ ?_) ?_
    ·intro p hp
     simp only[List.mem_cons,List.not_mem_nil,or_false] at hp
     rcases hp with rfl|rfl|rfl
     ·exact lW
     ·exact lW
     ·simp
    ·simp only[List.map_cons,List.map_nil,List.flatten_cons,List.flatten_nil,List.length_append,gT,jI,List.length_cons,List.length_nil];omega
    simp -implicitDefEqProofs (disch:=omega) only[go_sem]
    refine au (uM _) ?_
    simp -implicitDefEqProofs (disch:=omega) only[go_sem]
    (repeat(with_reducible refine And.intro ?_ ?_;focus first|omega|rfl|assumption|exact⟨_,rfl,rfl⟩|(simp;omega)|(simp;done)))
    have hrow:[lx (aN [x.aL[i].bR]) (L i+1),lx (aN x.aL[i].aC) (L i+1+iw (aN [x.aL[i].bR])),[[.s (dQ x.aL[i].fBody).aU,.ol (L i+1+iw (aN [x.aL[i].bR]++aN x.aL[i].aC)) (lx (dQ x.aL[i].fBody).ak (L i+1+iw (aN [x.aL[i].bR]++aN x.aL[i].aC)+1))]]].flatten=lx ([bq x.aL[i].bR]++aN x.aL[i].aC++[dQ x.aL[i].fBody]) (L i+1):=by
     have e1:[bq x.aL[i].bR]=aN [x.aL[i].bR]:=rfl
     rw[e1,jL,jL,oI (dQ x.aL[i].fBody) [],sw,nD (dQ x.aL[i].fBody)]
     simp only[List.flatten_cons,List.flatten_nil,List.append_nil,List.append_assoc]
    rw[hrow,hs]
    exact dO 6 (by decide) (i+1) (by omega) rfl rfl rfl rfl (by omega)
   ·have hi':i=x.aL.length:=by omega
    subst hi'
    have hr2:=hBr x.aL.length
    (repeat(with_reducible refine And.intro ?_ ?_;focus first|omega|rfl|assumption|exact⟨_,rfl,rfl⟩|(simp;omega)|(simp;done)))
    refine bA rfl (j3 0 5 _ _) ?_
    simp -implicitDefEqProofs (disch:=omega) only[go_sem]
    rw[hx,hBe,uU,hHD,dY,dI,List.append_assoc,jL (aN [iG])]
  have k7:=h
  with_reducible refine aA (fun hb=> ?_) (fun hb=> ?_)<;>have h:=hb<;>(try simp only[wf_preprocess] at h)<;>simp -implicitDefEqProofs (disch:=omega) only[go_sem,hb]<;>(repeat(with_reducible refine And.intro ?_ ?_;focus first|omega|rfl|assumption|exact⟨_,rfl,rfl⟩|(simp;omega)|(simp;done)))
  ·have hx:=iV k1 k2 k3 (by omega)
   have hh:gu x.aH x.aW x.fName x.fType=aN [om,x.fName]:=by rw[iA h];rfl
   rw[hh] at hx uU
   (repeat(with_reducible refine And.intro ?_ ?_;focus first|omega|rfl|assumption|exact⟨_,rfl,rfl⟩|(simp;omega)|(simp;done)))
   refine bA rfl (bD.args (kG [om,x.fName] (by simp) n (n+1) _ _) (.cons (lQ n _) .nil)) ?_
   have Kj:(lx (aN [om,x.fName]) (n+1)).length=2:=by rw[gT];rfl
   have Kk:=lW (l:=aN [om,x.fName]) (n:=n+1)
   simp -implicitDefEqProofs (disch:=omega) only[go_sem]
   (repeat(with_reducible refine And.intro ?_ ?_;focus first|omega|rfl|assumption|exact⟨_,rfl,rfl⟩|(simp;omega)|(simp;done)))
   refine bA rfl (j3 0 5 _ _) ?_
   simp -implicitDefEqProofs (disch:=omega) only[go_sem]
   rw[hx,hTe,uU,dY,dI,jL]
  have k8:=h
  with_reducible refine aA (fun hb=> ?_) (fun hb=> ?_)<;>have h:=hb<;>(try simp only[wf_preprocess] at h)<;>simp -implicitDefEqProofs (disch:=omega) only[go_sem,hb]<;>(repeat(with_reducible refine And.intro ?_ ?_;focus first|omega|rfl|assumption|exact⟨_,rfl,rfl⟩|(simp;omega)|(simp;done)))
  ·have hx:=iV k1 k2 k3 (by omega)
   have hh:gu x.aH x.aW x.fName x.fType=aN [sD]:=by rw[iA h];rfl
   rw[hh] at hx uU
   (repeat(with_reducible refine And.intro ?_ ?_;focus first|omega|rfl|assumption|exact⟨_,rfl,rfl⟩|(simp;omega)|(simp;done)))
   refine bA rfl (bD.args (kG [sD] (by simp) n (n+1) _ _) (.cons (lQ n _) .nil)) ?_
   have Kj:(lx (aN [sD]) (n+1)).length=1:=by rw[gT];rfl
   have Kk:=lW (l:=aN [sD]) (n:=n+1)
   simp -implicitDefEqProofs (disch:=omega) only[go_sem]
   (repeat(with_reducible refine And.intro ?_ ?_;focus first|omega|rfl|assumption|exact⟨_,rfl,rfl⟩|(simp;omega)|(simp;done)))
   refine bA rfl (j3 0 5 _ _) ?_
   simp -implicitDefEqProofs (disch:=omega) only[go_sem]
   rw[hx,hTe,uU,dY,dI,jL]
  have k9:=h
  with_reducible refine aA (fun hb=> ?_) (fun hb=> ?_)<;>have h:=hb<;>(try simp only[wf_preprocess] at h)<;>simp -implicitDefEqProofs (disch:=omega) only[go_sem,hb]<;>(repeat(with_reducible refine And.intro ?_ ?_;focus first|omega|rfl|assumption|exact⟨_,rfl,rfl⟩|(simp;omega)|(simp;done)))
  ·have hx:=iV k1 k2 k3 (by omega)
   have hh:gu x.aH x.aW x.fName x.fType=aN [x.fName]:=by rw[iA h];rfl
   rw[hh] at hx uU
   (repeat(with_reducible refine And.intro ?_ ?_;focus first|omega|rfl|assumption|exact⟨_,rfl,rfl⟩|(simp;omega)|(simp;done)))
   refine bA rfl (bD.args (kG [x.fName] (by simp) n (n+1) _ _) (.cons (lQ n _) .nil)) ?_
   have Kj:(lx (aN [x.fName]) (n+1)).length=1:=by rw[gT];rfl
   have Kk:=lW (l:=aN [x.fName]) (n:=n+1)
   simp -implicitDefEqProofs (disch:=omega) only[go_sem]
   (repeat(with_reducible refine And.intro ?_ ?_;focus first|omega|rfl|assumption|exact⟨_,rfl,rfl⟩|(simp;omega)|(simp;done)))
   refine bA rfl (j3 0 5 _ _) ?_
   simp -implicitDefEqProofs (disch:=omega) only[go_sem]
   rw[hx,hTe,uU,dY,dI,jL]
  have k10:=h
  with_reducible refine aA (fun hb=> ?_) (fun hb=> ?_)<;>have h:=hb<;>(try simp only[wf_preprocess] at h)<;>simp -implicitDefEqProofs (disch:=omega) only[go_sem,hb]<;>(repeat(with_reducible refine And.intro ?_ ?_;focus first|omega|rfl|assumption|exact⟨_,rfl,rfl⟩|(simp;omega)|(simp;done)))
  ·have hx:=iV k1 k2 k3 (by omega)
   have hh:gu x.aH x.aW x.fName x.fType=aN [lq,x.aW]:=by rw[iA h];rfl
   rw[hh] at hx uU
   (repeat(with_reducible refine And.intro ?_ ?_;focus first|omega|rfl|assumption|exact⟨_,rfl,rfl⟩|(simp;omega)|(simp;done)))
   refine bA rfl (bD.args (kG [lq,x.aW] (by simp) n (n+1) _ _) (.cons (lQ n _) .nil)) ?_
   have Kj:(lx (aN [lq,x.aW]) (n+1)).length=2:=by rw[gT];rfl
   have Kk:=lW (l:=aN [lq,x.aW]) (n:=n+1)
   simp -implicitDefEqProofs (disch:=omega) only[go_sem]
   (repeat(with_reducible refine And.intro ?_ ?_;focus first|omega|rfl|assumption|exact⟨_,rfl,rfl⟩|(simp;omega)|(simp;done)))
   refine bA rfl (j3 0 5 _ _) ?_
   simp -implicitDefEqProofs (disch:=omega) only[go_sem]
   rw[hx,hTe,uU,dY,dI,jL]
  have k11:=h
  with_reducible refine aA (fun hb=> ?_) (fun hb=> ?_)<;>have h:=hb<;>(try simp only[wf_preprocess] at h)<;>simp -implicitDefEqProofs (disch:=omega) only[go_sem,hb]<;>(repeat(with_reducible refine And.intro ?_ ?_;focus first|omega|rfl|assumption|exact⟨_,rfl,rfl⟩|(simp;omega)|(simp;done)))
  ·have hx:=iV k1 k2 k3 (by omega)
   have hh:gu x.aH x.aW x.fName x.fType=[bq oJ,dx x.fType]:=by rw[iA h];rfl
   rw[hh] at hx uU
   have hty:=hfi.2.2.2.2.1
   rw[if_pos h] at hty
   refine au (dJ _ (n+1)) ?_
   simp -implicitDefEqProofs (disch:=omega) only[go_sem]
   refine au (nS x.fType (n+1+1) (uJ hty) (by omega)) ?_
   simp -implicitDefEqProofs (disch:=omega) only[go_sem]
   (repeat(with_reducible refine And.intro ?_ ?_;focus first|omega|rfl|assumption|exact⟨_,rfl,rfl⟩|(simp;omega)|(simp;done)))
   refine bA rfl (j3 0 4 _ _) ?_
   simp -implicitDefEqProofs (disch:=omega) only[go_sem]
   rw[hx,hTe,uU,dY,dI,jL]
   simp only[oI,sw,nD,uH,uI,uh,SF,Vu,oJ,List.cons_append,List.nil_append]
  ·have:=hfi.1
   omega
theorem Tj(x:ay)(n:Nat)(hok:gD x=true)(hsz:x.sz≤4194304):aI Tryz.prog 112 [x.v] (.agg [.d (.s (dQ x).aU),.d (.ol n (lx (dQ x).ak (n+1)))]):=Ic _ x (Nat.lt_succ_self _) n hok hsz
end Go.Proofs.YtlmhknhlmicmeaaGreatDoor
namespace Go.Proofs.YtlmhknhlmicmeaaGreatDoor
open Go Go.Ab
theorem mI(hd:List ah)(xs:List ay)(S:Store)(hA:∀t∈xs,aI Tryz.prog 108 [t.v] (dQ t).v)(hl:xs.length≤4194304)(hh:hd.length≤4):bD Tryz.prog 206 [.c (.aM (hd.map ah.enc)),.c (.d (.sl (xs.map ay.enc)))] S
 (fun r S'=>r=.agg [.d (.s []),.d (.sl ((hd++xs.map dQ).map ah.enc))]∧S'=S):=by
 obtain⟨T,hT⟩:∃T:Nat→List (List D),T=fun i=>(hd++(xs.map dQ).take i).map ah.enc:=⟨_,rfl⟩
 have hT0:T 0=hd.map ah.enc:=by rw[hT];simp only[List.take_zero,List.append_nil]
 have kF:∀i,(T i).length≤i+hd.length:=fun i=>by
  rw[hT];simp only[List.length_map,List.length_append]
  have:=List.length_take_le i (xs.map dQ)
  omega
 have hTs:∀i (hi:i<xs.length),T i++[[.s (dQ xs[i]).aU,.sl ((dQ xs[i]).ak.map ah.enc)]]=T (i+1):=fun i hi=>by
  have:=kE (base:=hd) (l:=xs.map dQ) (i:=i) (by rw[List.length_map];exact hi)
  rw[List.getElem_map] at this
  rw[hT];exact this
 have hTe:T xs.length=(hd++xs.map dQ).map ah.enc:=by rw[hT];simp only;rw[List.take_of_length_le (by simp)]
 clear hT
 rw[←hT0]
 rw[←hTe]
 refine aD (rs:=[.cell 4 32]) Tryz.checked.mixed Tryz.func206 Tryz.ntmps206 rfl rfl rfl rfl rfl ?_
 simp -implicitDefEqProofs (disch:=omega) only[go_sem]
 refine y9 1 1 2 (T 0) [.d (.s []),.aM (T 0)] rfl rfl (by rw[hT0];exact gV) ?_
 refine aZ (ι:=Nat) Tryz.checked.mixed rfl [1,4,5,6] (fun i=>[.c (.d (.sl (xs.map ay.enc))),.c (.ptr (0,0) 0),.c (.ptr (0,1) 0),.c (.d (.i .i64 i))])
  (fun i=>[.box [.d (.s []),.aM []],.box [.d (.s []),.bI (0,2) (T i)],.tok 2 (T i)]::S)
  (fun i=>i≤xs.length) (fun i=>xs.length-i) 0 rfl rfl (Nat.zero_le _) ?_
 intro i hi
 have hl:=kF i
 simp -implicitDefEqProofs (disch:=omega) only[go_sem]
 with_reducible refine aA (fun hb=> ?_) (fun hb=> ?_)<;>have h:=hb<;>(try simp only[wf_preprocess] at h)<;>simp -implicitDefEqProofs (disch:=omega) only[go_sem,hb]<;>(repeat(with_reducible refine And.intro ?_ ?_;focus first|omega|rfl|assumption|exact⟨_,rfl,rfl⟩|(simp;omega)|(simp;done)))
 ·have hi':i<xs.length:=by omega
  have hs:=hTs i hi'
  (repeat(with_reducible refine And.intro ?_ ?_;focus first|omega|rfl|assumption|exact⟨_,rfl,rfl⟩|(simp;omega)|(simp;done)))
  refine au (hA xs[i] (List.getElem_mem hi')) ?_
  simp -implicitDefEqProofs (disch:=omega) only[go_sem]
  (repeat(with_reducible refine And.intro ?_ ?_;focus first|omega|rfl|assumption|exact⟨_,rfl,rfl⟩|(simp;omega)|(simp;done)))
  rw[hs]
  exact bL (i+1) (by omega) rfl rfl (by omega)
 ·have hi':i=xs.length:=by omega
  subst hi'
  rfl
theorem NT(hd:List ah)(xs:List ay)(bg:List Ab.Obj)(Ω:Store)(hA:∀t∈xs,aI Tryz.prog 108 [t.v] (dQ t).v)(hl:xs.length≤4194304)(hh:hd.length≤4):bD Tryz.prog 206 [.c (.aM (hd.map ah.enc)),.c (.d (.sl (xs.map ay.enc)))] (bg::Ω)
 (fun r S'=>r=.agg [.d (.s []),.bI (0,bg.length+2) ((hd++xs.map dQ).map ah.enc)]∧S'=(bg++[.box [.d (.s []),.bI (0,bg.length+2) ((hd++xs.map dQ).map ah.enc)],.box [.d (.s []),.bI (0,bg.length+2) ((hd++xs.map dQ).map ah.enc)],.tok 2 ((hd++xs.map dQ).map ah.enc)])::Ω):=by
 obtain⟨T,hT⟩:∃T:Nat→List (List D),T=fun i=>(hd++(xs.map dQ).take i).map ah.enc:=⟨_,rfl⟩
 have hT0:T 0=hd.map ah.enc:=by rw[hT];simp only[List.take_zero,List.append_nil]
 have kF:∀i,(T i).length≤i+hd.length:=fun i=>by
  rw[hT];simp only[List.length_map,List.length_append]
  have:=List.length_take_le i (xs.map dQ)
  omega
 have hTs:∀i (hi:i<xs.length),T i++[[.s (dQ xs[i]).aU,.sl ((dQ xs[i]).ak.map ah.enc)]]=T (i+1):=fun i hi=>by
  have:=kE (base:=hd) (l:=xs.map dQ) (i:=i) (by rw[List.length_map];exact hi)
  rw[List.getElem_map] at this
  rw[hT];exact this
 have hTe:T xs.length=(hd++xs.map dQ).map ah.enc:=by rw[hT];simp only;rw[List.take_of_length_le (by simp)]
 clear hT
 rw[←hT0]
 rw[←hTe]
 refine JQ (rs:=[.cell 4 32]) Tryz.checked.mixed Tryz.func206 Tryz.ntmps206 rfl rfl rfl rfl rfl ?_
 simp -implicitDefEqProofs (disch:=omega) only[go_sem]
 refine y9 1 1 2 (T 0) [.d (.s []),.aM (T 0)] rfl rfl (by rw[hT0];exact gV) ?_
 refine aZ (ι:=Nat) Tryz.checked.mixed rfl [1,4,5,6] (fun i=>[.c (.d (.sl (xs.map ay.enc))),.c (.ptr (0,0) 0),.c (.ptr (0,1) 0),.c (.d (.i .i64 i))])
  (fun i=>[.box [.d (.s []),.aM []],.box [.d (.s []),.bI (0,2) (T i)],.tok 2 (T i)]::bg::Ω)
  (fun i=>i≤xs.length) (fun i=>xs.length-i) 0 rfl rfl (Nat.zero_le _) ?_
 intro i hi
 have hl:=kF i
 simp -implicitDefEqProofs (disch:=omega) only[go_sem]
 with_reducible refine aA (fun hb=> ?_) (fun hb=> ?_)<;>have h:=hb<;>(try simp only[wf_preprocess] at h)<;>simp -implicitDefEqProofs (disch:=omega) only[go_sem,hb]<;>(repeat(with_reducible refine And.intro ?_ ?_;focus first|omega|rfl|assumption|exact⟨_,rfl,rfl⟩|(simp;omega)|(simp;done)))
 ·have hi':i<xs.length:=by omega
  have hs:=hTs i hi'
  (repeat(with_reducible refine And.intro ?_ ?_;focus first|omega|rfl|assumption|exact⟨_,rfl,rfl⟩|(simp;omega)|(simp;done)))
  refine au (hA xs[i] (List.getElem_mem hi')) ?_
  simp -implicitDefEqProofs (disch:=omega) only[go_sem]
  (repeat(with_reducible refine And.intro ?_ ?_;focus first|omega|rfl|assumption|exact⟨_,rfl,rfl⟩|(simp;omega)|(simp;done)))
  rw[hs]
  exact bL (i+1) (by omega) rfl rfl (by omega)
 ·have hi':i=xs.length:=by omega
  subst hi'
  exact⟨rfl,rfl⟩
theorem Ie:∀N:Nat,∀x:ay,SizeOf.sizeOf x<N→gD x=true→x.sz≤4194304→aI Tryz.prog 108 [x.v] (dQ x).v
 |0=>fun x h=>by omega
 |N+1=>by
  have ih:=Ie N
  intro x hn hok hsz S
  have iF:=ay.fF x
  have zl:=ay.mK x
  have hzz:=sW x
  rw[ug,Bool.and_eq_true,Bool.and_eq_true] at hok
  obtain⟨hfi,hoa,NS⟩:=hok
  have hfi:=gq hfi
  have hoa:=zU.1 hoa
  have NS:=BJ.1 NS
  have hA:∀t∈x.fArgs,aI Tryz.prog 108 [t.v] (dQ t).v:=fun t ht=>ih t (by have:=List.sizeOf_lt_of_mem ht;omega) (hoa t ht) (by have:=Ki ht;omega)
  have hxe:=Di x
  refine aD (rs:=[.cell 2 32]) Tryz.checked.mixed Tryz.func108 Tryz.ntmps108 rfl rfl rfl rfl rfl ?_
  simp -implicitDefEqProofs (disch:=omega) only[go_sem]
  with_reducible refine aA (fun hb=> ?_) (fun hb=> ?_)<;>have h:=hb<;>(try simp only[wf_preprocess] at h)<;>simp -implicitDefEqProofs (disch:=omega) only[go_sem,hb]<;>(repeat(with_reducible refine And.intro ?_ ?_;focus first|omega|rfl|assumption|exact⟨_,rfl,rfl⟩|(simp;omega)|(simp;done)))
  ·rw[if_pos h] at hxe
   rw[hxe]
   have hb:=hfi.2.2.2.1
   rw[if_pos h] at hb
   refine au (sZ x.fN (by omega) (by omega)) ?_
   simp -implicitDefEqProofs (disch:=omega) only[go_sem]
   refine au (bO _) ?_
   simp -implicitDefEqProofs (disch:=omega) only[go_sem]
   rfl
  have k1:=h
  rw[if_neg h] at hxe
  with_reducible refine aA (fun hb=> ?_) (fun hb=> ?_)<;>have h:=hb<;>(try simp only[wf_preprocess] at h)<;>simp -implicitDefEqProofs (disch:=omega) only[go_sem,hb]<;>(repeat(with_reducible refine And.intro ?_ ?_;focus first|omega|rfl|assumption|exact⟨_,rfl,rfl⟩|(simp;omega)|(simp;done)))
  ·rw[if_pos h] at hxe
   rw[hxe]
   have hb:=hfi.2.2.2.1
   rw[if_neg k1,if_pos h] at hb
   rcases hb with e|e
   ·rw[e]
    simp -implicitDefEqProofs (disch:=omega) only[go_sem,List.getD_cons_zero]
    (repeat(with_reducible refine And.intro ?_ ?_;focus first|omega|rfl|assumption|exact⟨_,rfl,rfl⟩|(simp;omega)|(simp;done)))
    refine au (bO _) ?_
    simp -implicitDefEqProofs (disch:=omega) only[go_sem]
    rfl
   ·rw[e]
    simp -implicitDefEqProofs (disch:=omega) only[go_sem,List.getD_cons_zero,List.getD_cons_succ]
    (repeat(with_reducible refine And.intro ?_ ?_;focus first|omega|rfl|assumption|exact⟨_,rfl,rfl⟩|(simp;omega)|(simp;done)))
    refine au (bO _) ?_
    simp -implicitDefEqProofs (disch:=omega) only[go_sem]
    rfl
  have k2:=h
  rw[if_neg h] at hxe
  with_reducible refine aA (fun hb=> ?_) (fun hb=> ?_)<;>have h:=hb<;>(try simp only[wf_preprocess] at h)<;>simp -implicitDefEqProofs (disch:=omega) only[go_sem,hb]<;>(repeat(with_reducible refine And.intro ?_ ?_;focus first|omega|rfl|assumption|exact⟨_,rfl,rfl⟩|(simp;omega)|(simp;done)))
  ·rw[if_pos h] at hxe
   rw[hxe]
   refine au (bO _) ?_
   simp -implicitDefEqProofs (disch:=omega) only[go_sem]
   rfl
  have k3:=h
  clear hxe
  with_reducible refine aA (fun hb=> ?_) (fun hb=> ?_)<;>have h:=hb<;>(try simp only[wf_preprocess] at h)<;>simp -implicitDefEqProofs (disch:=omega) only[go_sem,hb]<;>(repeat(with_reducible refine And.intro ?_ ?_;focus first|omega|rfl|assumption|exact⟨_,rfl,rfl⟩|(simp;omega)|(simp;done)))
  ·have hx:=iV k1 k2 k3 (by omega)
   have hh:gu x.aH x.aW x.fName x.fType=[bq lg,bq x.fName]:=by rw[iA h];rfl
   rw[hh] at hx
   refine au (bO _) ?_
   simp -implicitDefEqProofs (disch:=omega) only[go_sem]
   refine au (bO _) ?_
   simp -implicitDefEqProofs (disch:=omega) only[go_sem]
   have hE:=fun S=>mI [bq lg,bq x.fName] x.fArgs S hA (by omega) (by simp)
   simp only[List.map_cons,List.map_nil,fJ] at hE
   refine bA rfl (hE _) ?_
   simp -implicitDefEqProofs (disch:=omega) only[go_sem]
   rw[hx]
   rfl
  have k4:=h
  with_reducible refine aA (fun hb=> ?_) (fun hb=> ?_)<;>have h:=hb<;>(try simp only[wf_preprocess] at h)<;>simp -implicitDefEqProofs (disch:=omega) only[go_sem,hb]<;>(repeat(with_reducible refine And.intro ?_ ?_;focus first|omega|rfl|assumption|exact⟨_,rfl,rfl⟩|(simp;omega)|(simp;done)))
  ·have hx:=iV k1 k2 k3 (by omega)
   have hh:gu x.aH x.aW x.fName x.fType=[bq gy,bq x.aW,bq x.fName]:=by rw[iA h];rfl
   rw[hh] at hx
   refine au (bO _) ?_
   simp -implicitDefEqProofs (disch:=omega) only[go_sem]
   refine au (bO _) ?_
   simp -implicitDefEqProofs (disch:=omega) only[go_sem]
   refine au (bO _) ?_
   simp -implicitDefEqProofs (disch:=omega) only[go_sem]
   have hE:=fun S=>mI [bq gy,bq x.aW,bq x.fName] x.fArgs S hA (by omega) (by simp)
   simp only[List.map_cons,List.map_nil,fJ] at hE
   refine bA rfl (hE _) ?_
   simp -implicitDefEqProofs (disch:=omega) only[go_sem]
   rw[hx]
   rfl
  have k5:=h
  with_reducible refine aA (fun hb=> ?_) (fun hb=> ?_)<;>have h:=hb<;>(try simp only[wf_preprocess] at h)<;>simp -implicitDefEqProofs (disch:=omega) only[go_sem,hb]<;>(repeat(with_reducible refine And.intro ?_ ?_;focus first|omega|rfl|assumption|exact⟨_,rfl,rfl⟩|(simp;omega)|(simp;done)))
  ·have hx:=iV k1 k2 k3 (by omega)
   have hh:gu x.aH x.aW x.fName x.fType=[bq oh,bq x.fName]:=by rw[iA h];rfl
   rw[hh] at hx
   refine au (bO _) ?_
   simp -implicitDefEqProofs (disch:=omega) only[go_sem]
   refine au (bO _) ?_
   simp -implicitDefEqProofs (disch:=omega) only[go_sem]
   have hE:=fun S=>mI [bq oh,bq x.fName] x.fArgs S hA (by omega) (by simp)
   simp only[List.map_cons,List.map_nil,fJ] at hE
   refine bA rfl (hE _) ?_
   simp -implicitDefEqProofs (disch:=omega) only[go_sem]
   rw[hx]
   rfl
  have k6:=h
  with_reducible refine aA (fun hb=> ?_) (fun hb=> ?_)<;>have h:=hb<;>(try simp only[wf_preprocess] at h)<;>simp -implicitDefEqProofs (disch:=omega) only[go_sem,hb]<;>(repeat(with_reducible refine And.intro ?_ ?_;focus first|omega|rfl|assumption|exact⟨_,rfl,rfl⟩|(simp;omega)|(simp;done)))
  ·have hx:=iV k1 k2 k3 (by omega)
   have hh:gu x.aH x.aW x.fName x.fType=[bq om,bq x.fName]:=by rw[iA h];rfl
   rw[hh] at hx
   refine au (bO _) ?_
   simp -implicitDefEqProofs (disch:=omega) only[go_sem]
   refine au (bO _) ?_
   simp -implicitDefEqProofs (disch:=omega) only[go_sem]
   have hE:=fun S=>mI [bq om,bq x.fName] x.fArgs S hA (by omega) (by simp)
   simp only[List.map_cons,List.map_nil,fJ] at hE
   refine bA rfl (hE _) ?_
   simp -implicitDefEqProofs (disch:=omega) only[go_sem]
   rw[hx]
   rfl
  have k8:=h
  with_reducible refine aA (fun hb=> ?_) (fun hb=> ?_)<;>have h:=hb<;>(try simp only[wf_preprocess] at h)<;>simp -implicitDefEqProofs (disch:=omega) only[go_sem,hb]<;>(repeat(with_reducible refine And.intro ?_ ?_;focus first|omega|rfl|assumption|exact⟨_,rfl,rfl⟩|(simp;omega)|(simp;done)))
  ·have hx:=iV k1 k2 k3 (by omega)
   have hh:gu x.aH x.aW x.fName x.fType=[bq sD]:=by rw[iA h];rfl
   rw[hh] at hx
   refine au (bO _) ?_
   simp -implicitDefEqProofs (disch:=omega) only[go_sem]
   have hE:=fun S=>mI [bq sD] x.fArgs S hA (by omega) (by simp)
   simp only[List.map_cons,List.map_nil,fJ] at hE
   refine bA rfl (hE _) ?_
   simp -implicitDefEqProofs (disch:=omega) only[go_sem]
   rw[hx]
   rfl
  have k9:=h
  with_reducible refine aA (fun hb=> ?_) (fun hb=> ?_)<;>have h:=hb<;>(try simp only[wf_preprocess] at h)<;>simp -implicitDefEqProofs (disch:=omega) only[go_sem,hb]<;>(repeat(with_reducible refine And.intro ?_ ?_;focus first|omega|rfl|assumption|exact⟨_,rfl,rfl⟩|(simp;omega)|(simp;done)))
  ·have hx:=iV k1 k2 k3 (by omega)
   have hh:gu x.aH x.aW x.fName x.fType=[bq x.fName]:=by rw[iA h];rfl
   rw[hh] at hx
   refine au (bO _) ?_
   simp -implicitDefEqProofs (disch:=omega) only[go_sem]
   have hE:=fun S=>mI [bq x.fName] x.fArgs S hA (by omega) (by simp)
   simp only[List.map_cons,List.map_nil,fJ] at hE
   refine bA rfl (hE _) ?_
   simp -implicitDefEqProofs (disch:=omega) only[go_sem]
   rw[hx]
   rfl
  have k10:=h
  with_reducible refine aA (fun hb=> ?_) (fun hb=> ?_)<;>have h:=hb<;>(try simp only[wf_preprocess] at h)<;>simp -implicitDefEqProofs (disch:=omega) only[go_sem,hb]<;>(repeat(with_reducible refine And.intro ?_ ?_;focus first|omega|rfl|assumption|exact⟨_,rfl,rfl⟩|(simp;omega)|(simp;done)))
  ·have hx:=iV k1 k2 k3 (by omega)
   have hh:gu x.aH x.aW x.fName x.fType=[bq lq,bq x.aW]:=by rw[iA h];rfl
   rw[hh] at hx
   refine au (bO _) ?_
   simp -implicitDefEqProofs (disch:=omega) only[go_sem]
   refine au (bO _) ?_
   simp -implicitDefEqProofs (disch:=omega) only[go_sem]
   have hE:=fun S=>mI [bq lq,bq x.aW] x.fArgs S hA (by omega) (by simp)
   simp only[List.map_cons,List.map_nil,fJ] at hE
   refine bA rfl (hE _) ?_
   simp -implicitDefEqProofs (disch:=omega) only[go_sem]
   rw[hx]
   rfl
  have k11:=h
  with_reducible refine aA (fun hb=> ?_) (fun hb=> ?_)<;>have h:=hb<;>(try simp only[wf_preprocess] at h)<;>simp -implicitDefEqProofs (disch:=omega) only[go_sem,hb]<;>(repeat(with_reducible refine And.intro ?_ ?_;focus first|omega|rfl|assumption|exact⟨_,rfl,rfl⟩|(simp;omega)|(simp;done)))
  ·have hx:=iV k1 k2 k3 (by omega)
   have hh:gu x.aH x.aW x.fName x.fType=[bq oJ,dx x.fType]:=by rw[iA h];rfl
   rw[hh] at hx
   refine au (bO _) ?_
   simp -implicitDefEqProofs (disch:=omega) only[go_sem]
   refine au (oO x.fType (by omega)) ?_
   simp -implicitDefEqProofs (disch:=omega) only[go_sem]
   have hE:=fun S=>mI [bq oJ,dx x.fType] x.fArgs S hA (by omega) (by simp)
   simp only[List.map_cons,List.map_nil,fJ,ah.aG (dx x.fType)] at hE
   refine bA rfl (hE _) ?_
   simp -implicitDefEqProofs (disch:=omega) only[go_sem]
   rw[hx]
   show _=V.agg [.d (.s []),.d (.sl (List.map ah.enc (bq oJ::dx x.fType::x.fArgs.map dQ)))]
   simp only[List.cons_append,List.nil_append,List.map_cons,fJ,ah.aG (dx x.fType)]
   rfl
  have k12:=h
  have hk7:x.aH=7:=by have:=hfi.1;omega
  have hx:=Di x
  rw[if_neg k1,if_neg k2,if_neg k3,if_neg (by omega)] at hx
  have hh:gu x.aH x.aW x.fName x.fType=[bq iG]:=by rw[iA hk7];rfl
  rw[hh] at hx
  refine au (bO _) ?_
  simp -implicitDefEqProofs (disch:=omega) only[go_sem]
  have hE:=fun bg Ω=>NT [bq iG] x.fArgs bg Ω hA (by omega) (by simp)
  obtain⟨B,hB⟩:∃B:Nat→List (List D),B=fun i=>(([bq iG]++x.fArgs.map dQ)++(x.aL.map uT).take i).map ah.enc:=⟨_,rfl⟩
  have hB0:([bq iG]++x.fArgs.map dQ).map ah.enc=B 0:=by rw[hB];simp only[List.take_zero,List.append_nil]
  have hBl:∀i,(B i).length≤i+x.fArgs.length+1:=fun i=>by
   rw[hB];simp only[List.length_append,List.length_map,List.length_cons,List.length_nil]
   have:=List.length_take_le i (x.aL.map uT)
   omega
  have hBr:∀i,∀r∈B i,r.length=2:=fun i=>by rw[hB];exact gV
  have hBs:∀i (hi:i<x.aL.length),B i++[[.s [],.sl (([bq x.aL[i].bR]++aN x.aL[i].aC++[dQ x.aL[i].fBody]).map ah.enc)]]=B (i+1):=fun i hi=>by
   have:=kE (base:=[bq iG]++x.fArgs.map dQ) (l:=x.aL.map uT) (i:=i) (by rw[List.length_map];exact hi)
   rw[List.getElem_map,Vx,dY,dI] at this
   rw[hB];exact this
  have hBe:B x.aL.length=([bq iG]++x.fArgs.map dQ++x.aL.map uT).map ah.enc:=by rw[hB];simp only;rw[List.take_of_length_le (by simp)]
  clear hB
  simp only[hB0] at hE
  simp only[List.map_cons,List.map_nil,fJ] at hE
  refine bA rfl (hE _ _) ?_
  simp -implicitDefEqProofs (disch:=omega) only[go_sem]
  refine aZ (ι:=Nat) Tryz.checked.mixed rfl [1,2,3,4] (fun i=>[.c (.ptr (0,0) 0),.c (.ptr (0,1) 0),.c (.ptr (0,5) 0),.c (.d (.i .i64 i))])
   (fun i=>[.box [.d (.i .i64 x.aH),.d (.s x.aW),.d (.s x.fName),.d (.i .i64 x.fN),.d (.i .i64 x.fType.aH),.d (.s x.fType.fName),.d (.sl (x.fType.fArgs.map aj.enc)),.d (.sl (x.fArgs.map ay.enc)),.d (.sl (x.aL.map aJ.enc))],.box [.d (.s []),.aM []],.box [.d (.s []),.bI (0,4) (B 0)],.box [.d (.s []),.bI (0,4) (B 0)],.tok 2 (B i),.box [.d (.s []),.bI (0,4) (B i)]]::S)
   (fun i=>i≤x.aL.length) (fun i=>x.aL.length-i) 0 rfl rfl (Nat.zero_le _) ?_
  intro i hi
  have hl:=hBl i
  have hr:=hBr i
  simp -implicitDefEqProofs (disch:=omega) only[go_sem]
  with_reducible refine aA (fun hb=> ?_) (fun hb=> ?_)<;>have h:=hb<;>(try simp only[wf_preprocess] at h)<;>simp -implicitDefEqProofs (disch:=omega) only[go_sem,hb]<;>(repeat(with_reducible refine And.intro ?_ ?_;focus first|omega|rfl|assumption|exact⟨_,rfl,rfl⟩|(simp;omega)|(simp;done)))
  ·have hi':i<x.aL.length:=by omega
   have hm:=List.getElem_mem hi'
   have Y4:=Ib hm
   have hea:=wM x.aL[i]
   have hs:=hBs i hi'
   have hak:=NS _ hm
   rw[og,Bool.and_eq_true,Bool.and_eq_true] at hak
   have hls:=List.sizeOf_lt_of_mem hm
   have hlb:=aJ.lU x.aL[i]
   (repeat(with_reducible refine And.intro ?_ ?_;focus first|omega|rfl|assumption|exact⟨_,rfl,rfl⟩|(simp;omega)|(simp;done)))
   refine au (bO _) ?_
   simp -implicitDefEqProofs (disch:=omega) only[go_sem]
   (repeat(with_reducible refine And.intro ?_ ?_;focus first|omega|rfl|assumption|exact⟨_,rfl,rfl⟩|(simp;omega)|(simp;done)))
   refine au (Dc x.aL[i].aC (by omega)) ?_
   have hwr:=gV (l:=aN x.aL[i].aC)
   have hwl:(aN x.aL[i].aC).length=x.aL[i].aC.length:=by rw[jI]
   simp -implicitDefEqProofs (disch:=omega) only[go_sem]
   (repeat(with_reducible refine And.intro ?_ ?_;focus first|omega|rfl|assumption|exact⟨_,rfl,rfl⟩|(simp;omega)|(simp;done)))
   refine au (ih x.aL[i].fBody (by omega) hak.2.2 (by omega)) ?_
   simp -implicitDefEqProofs (disch:=omega) only[go_sem]
   (repeat(with_reducible refine And.intro ?_ ?_;focus first|omega|rfl|assumption|exact⟨_,rfl,rfl⟩|(simp;omega)|(simp;done)))
   simp only[List.cons_append,List.nil_append,List.map_cons,List.map_nil,List.map_append,fJ,ah.aG (dQ x.aL[i].fBody)] at hs
   rw[hs]
   exact dO 6 (by decide) (i+1) (by omega) rfl rfl rfl rfl (by omega)
  ·have hi':i=x.aL.length:=by omega
   subst hi'
   rw[hx,hBe]
   rfl
theorem zB(x:ay)(hok:gD x=true)(hsz:x.sz≤4194304):aI Tryz.prog 108 [x.v] (dQ x).v:=Ie _ x (Nat.lt_succ_self _) hok hsz
end Go.Proofs.YtlmhknhlmicmeaaGreatDoor
namespace Go.Ab
theorem ay.bounds{x:ay}(h:x.sz≤4194304):x.aW.length≤4194304∧x.fName.length≤4194304∧x.fArgs.length≤4194304∧x.aL.length≤4194304∧x.fType.sz≤4194304:=by
 simp only[ay.sz,ay.aG,bQ,bP,D.sz,List.length_map,aj.dP] at h
 omega
theorem ay.arg_b{x:ay}{i:Nat}(hi:i<x.fArgs.length)(h:x.sz≤4194304):x.fArgs[i].sz≤4194304:=by
 have hx:x.fArgs[i].sz≤bG (x.fArgs.map ay.enc):=eP (List.mem_map_of_mem (List.getElem_mem hi))
 simp only[ay.sz,ay.aG,bQ,bP,D.sz,List.length_map] at h
 omega
theorem ay.Ld{x:ay}{i:Nat}(hi:i<x.aL.length)(h:x.sz≤4194304):x.aL[i].sz≤4194304:=by
 have hx:x.aL[i].sz≤bG (x.aL.map aJ.enc):=eP (List.mem_map_of_mem (List.getElem_mem hi))
 simp only[ay.sz,ay.aG,bQ,bP,D.sz,List.length_map] at h
 omega
theorem aJ.bounds{x:aJ}(h:x.sz≤4194304):x.bR.length≤4194304∧x.aC.length≤4194304∧(∀s∈x.aC,s.length≤4194304)∧x.fBody.sz≤4194304:=by
 have hb:=aJ.Jb x
 simp only[aJ.sz,aJ.aG,bQ,bP,D.sz,List.length_map] at h hb
 refine⟨by omega,by omega,fun s hs=> ?_,by omega⟩
 have:=Al hs
 omega
theorem Ig(k:Int):(k<1∨12<k)∨k=1∨k=2∨k=3∨k=4∨k=5∨k=6∨k=7∨k=8∨k=9∨k=10∨k=11∨k=12:=by omega
end Go.Ab
namespace Go.Proofs.YtlmhknhlmicmeaaGreatDoor
open Go Go.Ab
set_option maxHeartbeats 8000000 in
theorem NU(x:ay)(hsz:x.sz≤4194304)(hc:x.fArgs.length≤300):aI Tryz.prog 282 [x.v] (.c (.d (.b (dec (ql x))))):=fun S=>by
 have hb0:=ay.bounds hsz
 have hz:sH x.fType→kC x.fType=false:=Hl
 rcases Ig x.aH with hk|hk|hk|hk|hk|hk|hk|hk|hk|hk|hk|hk|hk
 ·have h1:¬ql x:=fun h=>by have:=h.1;omega
  refine aD (rs:=[.tmp 2]) Tryz.checked.mixed Tryz.func282 Tryz.ntmps282 rfl rfl rfl rfl rfl ?_
  simp -implicitDefEqProofs (disch:=omega) only[go_sem]
  refine au (EO x.aH) ?_
  simp -implicitDefEqProofs (disch:=omega) only[go_sem]<;>(repeat(with_reducible refine And.intro ?_ ?_;focus first|omega|rfl|assumption|exact⟨_,rfl,rfl⟩|(simp;omega)|(simp;done)))
  with_reducible refine aA (fun hb=> ?_) (fun hb=> ?_)<;>have h:=hb<;>(try simp only[wf_preprocess] at h)<;>simp -implicitDefEqProofs (disch:=omega) only[go_sem,hb]<;>(repeat(with_reducible refine And.intro ?_ ?_;focus first|omega|rfl|assumption|exact⟨_,rfl,rfl⟩|(simp;omega)|(simp;done)))
  ·exact aK (aQ h1).symm
  with_reducible refine aA (fun hb=> ?_) (fun hb=> ?_)<;>have h:=hb<;>(try simp only[wf_preprocess] at h)<;>simp -implicitDefEqProofs (disch:=omega) only[go_sem,hb]<;>(repeat(with_reducible refine And.intro ?_ ?_;focus first|omega|rfl|assumption|exact⟨_,rfl,rfl⟩|(simp;omega)|(simp;done)))
  ·exact aK (aQ h1).symm
  ·omega
 all_goals
  refine aD (rs:=[.tmp 2]) Tryz.checked.mixed Tryz.func282 Tryz.ntmps282 rfl rfl rfl rfl rfl ?_
  simp -implicitDefEqProofs (disch:=omega) only[go_sem,hk]
  refine au (EO _) ?_
  simp -implicitDefEqProofs (disch:=omega) only[go_sem,hk,SA,SB]
  repeat' (first
   |with_reducible refine aA (fun hb=> ?_) (fun hb=> ?_)<;>have h:=hb<;>(try simp only[wf_preprocess] at h)<;>simp -implicitDefEqProofs (disch:=omega) only[go_sem,hb,hk]<;>(repeat(with_reducible refine And.intro ?_ ?_;focus first|omega|rfl|assumption|exact⟨_,rfl,rfl⟩|(simp;omega)|(simp;done)))
   |((with_reducible show fO _ _ 168 _ _ _ _);refine au (jD x.fName (by omega)) ?_;simp -implicitDefEqProofs (disch:=omega) only[go_sem,hk])
   |((with_reducible show fO _ _ 168 _ _ _ _);refine au (jD x.aW (by omega)) ?_;simp -implicitDefEqProofs (disch:=omega) only[go_sem,hk])
   |((with_reducible show fO _ _ 328 _ _ _ _);refine au (KI x.fName) ?_;simp -implicitDefEqProofs (disch:=omega) only[go_sem,hk])
   |((with_reducible show fO _ _ 238 _ _ _ _);refine au (Ca x.fType) ?_;simp -implicitDefEqProofs (disch:=omega) only[go_sem,hk])
   |((with_reducible show fO _ _ 295 _ _ _ _);refine au (sU x.fType (by omega)) ?_;simp -implicitDefEqProofs (disch:=omega) only[go_sem,hk])
   |(refine aK (Bool.eq_iff_iff.2 ?_);simp only[vU,ql,hk];grind [gq,jh,bK,aQ]))
end Go.Proofs.YtlmhknhlmicmeaaGreatDoor
namespace Go.Ab
theorem ay.aaI{x:ay}{y:ay}(h:y∈x.fArgs):y.cnt+1≤x.cnt:=by
 rw[ay.l9 x]
 have:∀xs:List ay,y∈xs→y.cnt≤ay.dh xs:=by
  intro xs
  induction xs with
  |nil=>intro h;cases h
  |cons z zs ih=>
   intro h
   rw[ay.dh]
   rcases List.mem_cons.1 h with e|e
   ·subst e;omega
   ·have:=ih e;omega
 have:=this _ h
 omega
theorem ay.aaJ{x:ay}{y:aJ}(h:y∈x.aL):y.fBody.cnt+1≤x.cnt:=by
 rw[ay.l9 x]
 have:∀xs:List aJ,y∈xs→y.fBody.cnt≤aJ.dh xs:=by
  intro xs
  induction xs with
  |nil=>intro h;cases h
  |cons z zs ih=>
   intro h
   rw[aJ.dh]
   rcases List.mem_cons.1 h with e|e
   ·subst e;rw[aJ.l9];omega
   ·have:=ih e;omega
 have:=this _ h
 omega
theorem ay.aaK(x:ay):x.fArgs.length+1≤x.cnt:=by
 rw[ay.l9 x]
 have:∀xs:List ay,xs.length≤ay.dh xs:=by
  intro xs
  induction xs with
  |nil=>simp
  |cons z zs ih=>rw[ay.dh,List.length_cons];have:=ay.l9 z;omega
 have:=this x.fArgs
 omega
def Tk(k:Int):Bool:=if k=5∨k=11 then true else false
def Tm(k:Int):Bool:=if k=3∨k=4∨k=6∨k=5∨k=8∨k=10 then true else false
def Tn(k:Int):Bool:=if k=1∨k=2 then true else false
def Tp(k:Int):Bool:=if k=1∨k=2∨k=3∨k=4∨k=6∨k=5∨k=7∨k=8∨k=10∨k=9∨k=11 then false else true
def Tq(k:Int):Int:=if k=1∨k=2∨k=3 then 0 else if k=4∨k=6∨k=5 then -1 else if k=8∨k=10 then 2 else if k=9 then 3 else 1
def Tt(k:Int):Bool:=if k=7 then true else false
end Go.Ab
namespace Go.Proofs.YtlmhknhlmicmeaaGreatDoor
open Go Go.Ab
theorem Ih:∀n:Nat,∀x:ay,SizeOf.sizeOf x<n→x.sz≤4194304→x.cnt≤300→aI Tryz.prog 211 [x.v] (.c (.d (.b (gD x))))
 |0=>fun x h=>by omega
 |n+1=>by
  have ih:=Ih n
  intro x hn hsz hc S
  have hb0:=ay.bounds hsz
  have iF:=ay.fF x
  have zl:=ay.mK x
  have hl:=ay.aaK x
  have h1:∀y∈x.fArgs,aI Tryz.prog 284 [y.v] (.c (.d (.b (!gD y)))):=fun y hy S=>by
   have hys:=List.sizeOf_lt_of_mem hy
   have hyc:=ay.aaI hy
   have hyz:y.sz≤4194304:=by obtain⟨i,hi,e⟩:=List.getElem_of_mem hy;rw[←e];exact ay.arg_b hi hsz
   refine aD (rs:=[.tmp 2]) Tryz.checked.mixed Tryz.func284 Tryz.ntmps284 rfl rfl rfl rfl rfl ?_
   simp -implicitDefEqProofs (disch:=omega) only[go_sem]
   refine au (ih y (by omega) hyz (by omega)) ?_
   simp -implicitDefEqProofs (disch:=omega) only[go_sem]<;>(repeat(with_reducible refine And.intro ?_ ?_;focus first|omega|rfl|assumption|exact⟨_,rfl,rfl⟩|(simp;omega)|(simp;done)))
  have h2:∀y∈x.aL,aI Tryz.prog 286 [y.v] (.c (.d (.b (!rM y)))):=fun y hy S=>by
   have hys:=List.sizeOf_lt_of_mem hy
   have hyb:=aJ.lU y
   have hyc:=ay.aaJ hy
   have hyz:y.sz≤4194304:=by obtain⟨i,hi,e⟩:=List.getElem_of_mem hy;rw[←e];exact ay.Ld hi hsz
   have hyy:=aJ.bounds hyz
   refine aD (rs:=[.tmp 2]) Tryz.checked.mixed Tryz.func286 Tryz.ntmps286 rfl rfl rfl rfl rfl ?_
   simp -implicitDefEqProofs (disch:=omega) only[go_sem]
   refine au (jD y.bR (by omega)) ?_
   simp -implicitDefEqProofs (disch:=omega) only[go_sem]<;>(repeat(with_reducible refine And.intro ?_ ?_;focus first|omega|rfl|assumption|exact⟨_,rfl,rfl⟩|(simp;omega)|(simp;done)))
   with_reducible refine aA (fun hb=> ?_) (fun hb=> ?_)<;>have h:=hb<;>(try simp only[wf_preprocess] at h)<;>simp -implicitDefEqProofs (disch:=omega) only[go_sem,hb]<;>(repeat(with_reducible refine And.intro ?_ ?_;focus first|omega|rfl|assumption|exact⟨_,rfl,rfl⟩|(simp;omega)|(simp;done)))
   ·exact aK (by rw[og,h];rfl)
   have k1:=h
   refine au (vW y.aC (by omega) hyy.2.2.1) ?_
   simp -implicitDefEqProofs (disch:=omega) only[go_sem]<;>(repeat(with_reducible refine And.intro ?_ ?_;focus first|omega|rfl|assumption|exact⟨_,rfl,rfl⟩|(simp;omega)|(simp;done)))
   with_reducible refine aA (fun hb=> ?_) (fun hb=> ?_)<;>have h:=hb<;>(try simp only[wf_preprocess] at h)<;>simp -implicitDefEqProofs (disch:=omega) only[go_sem,hb]<;>(repeat(with_reducible refine And.intro ?_ ?_;focus first|omega|rfl|assumption|exact⟨_,rfl,rfl⟩|(simp;omega)|(simp;done)))
   ·exact aK (by rw[og,h];simp)
   have k2:=h
   refine au (ih y.fBody (by omega) hyy.2.2.2 (by omega)) ?_
   simp -implicitDefEqProofs (disch:=omega) only[go_sem]<;>(repeat(with_reducible refine And.intro ?_ ?_;focus first|omega|rfl|assumption|exact⟨_,rfl,rfl⟩|(simp;omega)|(simp;done)))
   exact aK (by rw[og,k1,k2];simp)
  refine aD (rs:=[.tmp 2]) Tryz.checked.mixed Tryz.func211 Tryz.ntmps211 rfl rfl rfl rfl rfl ?_
  simp -implicitDefEqProofs (disch:=omega) only[go_sem]
  refine au (NU x hsz (by omega)) ?_
  simp -implicitDefEqProofs (disch:=omega) only[go_sem]<;>(repeat(with_reducible refine And.intro ?_ ?_;focus first|omega|rfl|assumption|exact⟨_,rfl,rfl⟩|(simp;omega)|(simp;done)))
  with_reducible refine aA (fun hb=> ?_) (fun hb=> ?_)<;>have h:=hb<;>(try simp only[wf_preprocess] at h)<;>simp -implicitDefEqProofs (disch:=omega) only[go_sem,hb]<;>(repeat(with_reducible refine And.intro ?_ ?_;focus first|omega|rfl|assumption|exact⟨_,rfl,rfl⟩|(simp;omega)|(simp;done)))
  ·exact aK (by rw[ug,aQ h];rfl)
  have k1:=h
  (repeat(with_reducible refine And.intro ?_ ?_;focus first|omega|rfl|assumption|exact⟨_,rfl,rfl⟩|(simp;omega)|(simp;done)))
  refine bA rfl (Cj 284 [] _ x.fArgs (fun y=> !gD y) (by omega) fun y hy=>mY.I6 (h1 y hy)) ?_
  simp -implicitDefEqProofs (disch:=omega) only[go_sem]
  rw[EN]
  with_reducible refine aA (fun hb=> ?_) (fun hb=> ?_)<;>have h:=hb<;>(try simp only[wf_preprocess] at h)<;>simp -implicitDefEqProofs (disch:=omega) only[go_sem,hb]<;>(repeat(with_reducible refine And.intro ?_ ?_;focus first|omega|rfl|assumption|exact⟨_,rfl,rfl⟩|(simp;omega)|(simp;done)))
  ·exact aK (by rw[ug,h];simp)
  have k2:=h
  (repeat(with_reducible refine And.intro ?_ ?_;focus first|omega|rfl|assumption|exact⟨_,rfl,rfl⟩|(simp;omega)|(simp;done)))
  refine bA rfl (CY 286 [] _ x.aL (fun y=> !rM y) (by omega) fun y hy=>mY.I6 (h2 y hy)) ?_
  simp -implicitDefEqProofs (disch:=omega) only[go_sem]
  rw[Hg]
  exact aK (by rw[ug,bK k1,k2];simp)
theorem FK(x:ay)(hsz:x.sz≤4194304):aI Tryz.prog 111 [x.v] (.c (.d (.b (nR x)))):=fun S=>by
 refine aD (rs:=[.tmp 2]) Tryz.checked.mixed Tryz.func111 Tryz.ntmps111 rfl rfl rfl rfl rfl ?_
 simp -implicitDefEqProofs (disch:=omega) only[go_sem]
 refine au (GY x hsz) ?_
 simp -implicitDefEqProofs (disch:=omega) only[go_sem]<;>(repeat(with_reducible refine And.intro ?_ ?_;focus first|omega|rfl|assumption|exact⟨_,rfl,rfl⟩|(simp;omega)|(simp;done)))
 with_reducible refine aA (fun hb=> ?_) (fun hb=> ?_)<;>have h:=hb<;>(try simp only[wf_preprocess] at h)<;>simp -implicitDefEqProofs (disch:=omega) only[go_sem,hb]<;>(repeat(with_reducible refine And.intro ?_ ?_;focus first|omega|rfl|assumption|exact⟨_,rfl,rfl⟩|(simp;omega)|(simp;done)))
 ·refine au (Ih _ x (Nat.lt_succ_self _) hsz (by omega)) ?_
  simp -implicitDefEqProofs (disch:=omega) only[go_sem]<;>(repeat(with_reducible refine And.intro ?_ ?_;focus first|omega|rfl|assumption|exact⟨_,rfl,rfl⟩|(simp;omega)|(simp;done)))
  exact aK (by unfold nR;rw[bK (by omega)];rfl)
 ·exact aK (by unfold nR;rw[aQ (by omega)];rfl)
theorem Kl(k:Int):aI Tryz.prog 278 [.c (.d (.i .i64 k))] (.d9 [(false,[.d (.b (Tk k))]),(false,[.d (.b (Tm k))]),(false,[.d (.b (Tn k))]),(false,[.d (.b (Tp k))]),(false,[.d (.i .i64 (Tq k))]),(false,[.d (.b (Tt k))])]):=fun S=>by
 refine aD (rs:=[.tmp 2,.tmp 3,.tmp 4,.tmp 5,.tmp 6,.tmp 7]) Tryz.checked.mixed Tryz.func278 Tryz.ntmps278 rfl rfl rfl rfl rfl ?_
 simp -implicitDefEqProofs (disch:=omega) only[go_sem]
 repeat' (first
  |with_reducible refine aA (fun hb=> ?_) (fun hb=> ?_)<;>have h:=hb<;>(try simp only[wf_preprocess] at h)<;>simp -implicitDefEqProofs (disch:=omega) only[go_sem,hb]<;>(repeat(with_reducible refine And.intro ?_ ?_;focus first|omega|rfl|assumption|exact⟨_,rfl,rfl⟩|(simp;omega)|(simp;done)))
  |(unfold Tk Tm Tn Tp Tq Tt;grind))
theorem Ii(t:aj):aI Tryz.prog 254 [t.v] (.c (.d (.b (dec (sH t))))):=fun S=>by
 refine aD (rs:=[.tmp 2]) Tryz.checked.mixed Tryz.func254 Tryz.ntmps254 rfl rfl rfl rfl rfl ?_
 simp -implicitDefEqProofs (disch:=omega) only[go_sem]
 repeat' (first
  |with_reducible refine aA (fun hb=> ?_) (fun hb=> ?_)<;>have h:=hb<;>(try simp only[wf_preprocess] at h)<;>simp -implicitDefEqProofs (disch:=omega) only[go_sem,hb]<;>(repeat(with_reducible refine And.intro ?_ ?_;focus first|omega|rfl|assumption|exact⟨_,rfl,rfl⟩|(simp;omega)|(simp;done)))
  |(refine aK ?_;unfold sH;grind [bK,aQ,gq,jh]))
theorem Tv(s:List UInt8):aI Tryz.prog 279 [.c (.d (.s s))] (.c (.d (.b (dec (s∈ops))))):=fun S=>by
 refine aD (rs:=[.tmp 2]) Tryz.checked.mixed Tryz.func279 Tryz.ntmps279 rfl rfl rfl rfl rfl ?_
 simp -implicitDefEqProofs (disch:=omega) only[go_sem]
 (repeat(with_reducible refine And.intro ?_ ?_;focus first|omega|rfl|assumption|exact⟨_,rfl,rfl⟩|(simp;omega)|(simp;done)))
 refine au (qY ops s (by decide)) ?_
 simp -implicitDefEqProofs (disch:=omega) only[go_sem]<;>(repeat(with_reducible refine And.intro ?_ ?_;focus first|omega|rfl|assumption|exact⟨_,rfl,rfl⟩|(simp;omega)|(simp;done)))
theorem EX:∀n:Nat,∀x:ay,SizeOf.sizeOf x<n→x.sz≤4194304→∀l:Int,0≤l→l≤1048576→aI Tryz.prog 203 [x.v,.c (.d (.i .i64 l))] (.c (.d (.i .i64 (lK l x.cnt))))
 |0=>fun x h=>by omega
 |n+1=>by
  have ih:=EX n
  intro x hn hsz l hl hl2 S
  have hb0:=ay.bounds hsz
  have iF:=ay.fF x
  have zl:=ay.mK x
  have he:=ay.l9 x
  refine aD (rs:=[.tmp 4]) Tryz.checked.mixed Tryz.func203 Tryz.ntmps203 rfl rfl rfl rfl rfl ?_
  simp -implicitDefEqProofs (disch:=omega) only[go_sem]
  refine aZ (ι:=Nat×Int) Tryz.checked.mixed rfl [1,2,5] (fun y=>[.c (.d (.i .i64 y.2)),.c (.ptr (0,0) 0),.c (.d (.i .i64 y.1))]) (fun y=>[.box (x.enc.map .d)]::S)
   (fun y=>y.1≤x.fArgs.length∧(-1≤y.2∧y.2≤1048576)∧lK y.2 (ay.dh (x.fArgs.drop y.1))=lK (l-1) (ay.dh x.fArgs)) (fun y=>x.fArgs.length-y.1) (0,l-1) rfl ?_ ⟨Nat.zero_le _,by simp only;omega,rfl⟩ ?_
  ·simp -implicitDefEqProofs (disch:=omega) only[go_sem]
  rintro⟨i,c⟩ ⟨p1,p2,p3⟩
  simp only at p1 p2 p3
  have out:(i=x.fArgs.length∨c<0)→c=lK (l-1) (ay.dh x.fArgs):=fun h=>by
   rcases h with h|h
   ·rw[h,List.drop_length,ay.dh,C8 p2.1] at p3
    exact p3
   ·rw[←p3,Fx h];omega
  have second:(i=x.fArgs.length∨c<0)→lK c (aJ.dh x.aL)=lK l x.cnt:=fun h=>by
   rw[out h,Bw,he]
   unfold lK
   split<;>split<;>(try split)<;>omega
  simp -implicitDefEqProofs (disch:=omega) only[go_sem]
  with_reducible refine aA (fun hb=> ?_) (fun hb=> ?_)<;>have h:=hb<;>(try simp only[wf_preprocess] at h)<;>simp -implicitDefEqProofs (disch:=omega) only[go_sem,hb]<;>(repeat(with_reducible refine And.intro ?_ ?_;focus first|omega|rfl|assumption|exact⟨_,rfl,rfl⟩|(simp;omega)|(simp;done)))
  ·have hi:i<x.fArgs.length:=by omega
   with_reducible refine aA (fun hb=> ?_) (fun hb=> ?_)<;>have h:=hb<;>(try simp only[wf_preprocess] at h)<;>simp -implicitDefEqProofs (disch:=omega) only[go_sem,hb]<;>(repeat(with_reducible refine And.intro ?_ ?_;focus first|omega|rfl|assumption|exact⟨_,rfl,rfl⟩|(simp;omega)|(simp;done)))
   ·have hs:=List.sizeOf_lt_of_mem (List.getElem_mem hi)
    have hr:=Jd (l:=c) (c:=x.fArgs[i].cnt) (by omega)
    rw[ay.jK hi,←Bw] at p3
    (repeat(with_reducible refine And.intro ?_ ?_;focus first|omega|rfl|assumption|exact⟨_,rfl,rfl⟩|(simp;omega)|(simp;done)))
    refine au (ih x.fArgs[i] (by omega) (ay.arg_b hi hsz) c (by omega) (by omega)) ?_
    simp -implicitDefEqProofs (disch:=omega) only[go_sem]<;>(repeat(with_reducible refine And.intro ?_ ?_;focus first|omega|rfl|assumption|exact⟨_,rfl,rfl⟩|(simp;omega)|(simp;done)))
    exact bL (i+1,lK c x.fArgs[i].cnt) (by simp only;omega) rfl rfl ⟨by simp only;omega,by simp only;omega,p3⟩
   ·have p4:=second (.inr (by omega))
    clear second out p3
    refine aZ (ι:=Nat×Int) Tryz.checked.mixed rfl [1,2,6] (fun y=>[.c (.d (.i .i64 y.2)),.c (.ptr (0,0) 0),.c (.d (.i .i64 y.1))]) (fun y=>[.box (x.enc.map .d)]::S)
     (fun y=>y.1≤x.aL.length∧(-1≤y.2∧y.2≤1048576)∧lK y.2 (aJ.dh (x.aL.drop y.1))=lK l x.cnt) (fun y=>x.aL.length-y.1) (0,c) rfl ?_ ⟨Nat.zero_le _,by simp only;omega,p4⟩ ?_
    ·simp -implicitDefEqProofs (disch:=omega) only[go_sem]
    clear p1 p2 p4
    rintro⟨i,d⟩ ⟨p1,p2,p3⟩
    simp only at p1 p2 p3
    simp -implicitDefEqProofs (disch:=omega) only[go_sem]
    with_reducible refine aA (fun hb=> ?_) (fun hb=> ?_)<;>have h:=hb<;>(try simp only[wf_preprocess] at h)<;>simp -implicitDefEqProofs (disch:=omega) only[go_sem,hb]<;>(repeat(with_reducible refine And.intro ?_ ?_;focus first|omega|rfl|assumption|exact⟨_,rfl,rfl⟩|(simp;omega)|(simp;done)))
    ·have hi:i<x.aL.length:=by omega
     with_reducible refine aA (fun hb=> ?_) (fun hb=> ?_)<;>have h:=hb<;>(try simp only[wf_preprocess] at h)<;>simp -implicitDefEqProofs (disch:=omega) only[go_sem,hb]<;>(repeat(with_reducible refine And.intro ?_ ?_;focus first|omega|rfl|assumption|exact⟨_,rfl,rfl⟩|(simp;omega)|(simp;done)))
     ·have hs:=List.sizeOf_lt_of_mem (List.getElem_mem hi)
      have hs':=aJ.lU x.aL[i]
      have hr:=Jd (l:=d) (c:=x.aL[i].fBody.cnt) (by omega)
      rw[aJ.jK hi,←Bw] at p3
      (repeat(with_reducible refine And.intro ?_ ?_;focus first|omega|rfl|assumption|exact⟨_,rfl,rfl⟩|(simp;omega)|(simp;done)))
      refine au (ih x.aL[i].fBody (by omega) (aJ.bounds (ay.Ld hi hsz)).2.2.2 d (by omega) (by omega)) ?_
      simp -implicitDefEqProofs (disch:=omega) only[go_sem]<;>(repeat(with_reducible refine And.intro ?_ ?_;focus first|omega|rfl|assumption|exact⟨_,rfl,rfl⟩|(simp;omega)|(simp;done)))
      exact bL (i+1,lK d x.aL[i].fBody.cnt) (by simp only;omega) rfl rfl ⟨by simp only;omega,by simp only;omega,p3⟩
     ·rw[Fx (by omega)] at p3
      exact int_eq (by omega)
    ·have hi:i=x.aL.length:=by omega
     rw[hi,List.drop_length,aJ.dh,C8 p2.1] at p3
     exact int_eq (by omega)
  ·have p4:=second (.inl (by omega))
   clear second out p3
   refine aZ (ι:=Nat×Int) Tryz.checked.mixed rfl [1,2,6] (fun y=>[.c (.d (.i .i64 y.2)),.c (.ptr (0,0) 0),.c (.d (.i .i64 y.1))]) (fun y=>[.box (x.enc.map .d)]::S)
    (fun y=>y.1≤x.aL.length∧(-1≤y.2∧y.2≤1048576)∧lK y.2 (aJ.dh (x.aL.drop y.1))=lK l x.cnt) (fun y=>x.aL.length-y.1) (0,c) rfl ?_ ⟨Nat.zero_le _,by simp only;omega,p4⟩ ?_
   ·simp -implicitDefEqProofs (disch:=omega) only[go_sem]
   clear p1 p2 p4
   rintro⟨i,d⟩ ⟨p1,p2,p3⟩
   simp only at p1 p2 p3
   simp -implicitDefEqProofs (disch:=omega) only[go_sem]
   with_reducible refine aA (fun hb=> ?_) (fun hb=> ?_)<;>have h:=hb<;>(try simp only[wf_preprocess] at h)<;>simp -implicitDefEqProofs (disch:=omega) only[go_sem,hb]<;>(repeat(with_reducible refine And.intro ?_ ?_;focus first|omega|rfl|assumption|exact⟨_,rfl,rfl⟩|(simp;omega)|(simp;done)))
   ·have hi:i<x.aL.length:=by omega
    with_reducible refine aA (fun hb=> ?_) (fun hb=> ?_)<;>have h:=hb<;>(try simp only[wf_preprocess] at h)<;>simp -implicitDefEqProofs (disch:=omega) only[go_sem,hb]<;>(repeat(with_reducible refine And.intro ?_ ?_;focus first|omega|rfl|assumption|exact⟨_,rfl,rfl⟩|(simp;omega)|(simp;done)))
    ·have hs:=List.sizeOf_lt_of_mem (List.getElem_mem hi)
     have hs':=aJ.lU x.aL[i]
     have hr:=Jd (l:=d) (c:=x.aL[i].fBody.cnt) (by omega)
     rw[aJ.jK hi,←Bw] at p3
     (repeat(with_reducible refine And.intro ?_ ?_;focus first|omega|rfl|assumption|exact⟨_,rfl,rfl⟩|(simp;omega)|(simp;done)))
     refine au (ih x.aL[i].fBody (by omega) (aJ.bounds (ay.Ld hi hsz)).2.2.2 d (by omega) (by omega)) ?_
     simp -implicitDefEqProofs (disch:=omega) only[go_sem]<;>(repeat(with_reducible refine And.intro ?_ ?_;focus first|omega|rfl|assumption|exact⟨_,rfl,rfl⟩|(simp;omega)|(simp;done)))
     exact bL (i+1,lK d x.aL[i].fBody.cnt) (by simp only;omega) rfl rfl ⟨by simp only;omega,by simp only;omega,p3⟩
    ·rw[Fx (by omega)] at p3
     exact int_eq (by omega)
   ·have hi:i=x.aL.length:=by omega
    rw[hi,List.drop_length,aJ.dh,C8 p2.1] at p3
    exact int_eq (by omega)
end Go.Proofs.YtlmhknhlmicmeaaGreatDoor
