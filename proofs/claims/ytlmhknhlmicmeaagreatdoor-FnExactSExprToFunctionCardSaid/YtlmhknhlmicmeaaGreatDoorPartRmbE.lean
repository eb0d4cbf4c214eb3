/-
  SEVERAL TEXTS IN ONE (merged by program): contracts and models, each with its own heading.
-/
import Derived.Test.YtlmhknhlmicmeaaGreatDoorPartRmbD
import Derived.Shelf.Strconv.Atoi
import Derived.Shelf.LaysC
import Derived.Shelf.Strconv.AtoiErr
import Derived.Shelf.Strconv.ErrVar
import Derived.Test.YtlmhknhlmicmeaaGreatDoorProg
import Derived.Lib.AppendIntMem
import Derived.Lib.AtoiBound
import Derived.WalkKit
import Derived.ProofKit
import Derived.Lib.AppendZeros
import Derived.Laws.Cover3
set_option linter.unusedSimpArgs false
set_option linter.unusedVariables false
set_option maxRecDepth 4000
namespace Go.Ab
def tF(s:List UInt8):Prop:=s.head? =some 45
instance (s:List UInt8):Decidable (tF s):=inferInstanceAs (Decidable (_=_))
def dI(s:List UInt8):List UInt8:=if tF s then s.tail else s
theorem vD:∀(l:List UInt8) (acc v:Nat),Lib.decFrom acc l=some v→∀b∈l,48≤b.toNat∧b.toNat≤57
 |[],_,_,_,b,hb=>by cases hb
 |a::l,acc,v,h,b,hb=>by
  rw[Lib.decFrom] at h
  cases hd:Lib.digitVal a with
  |none=>rw[hd] at h;cases h
  |some d=>
   rw[hd] at h
   rcases List.mem_cons.1 hb with rfl|hb
   ·unfold Lib.digitVal at hd
    split at hd
    ·assumption
    ·cases hd
   ·exact vD l _ v h b hb
theorem OL{b:UInt8}(h:48≤b.toNat∧b.toNat≤57):Lib.digitVal b=some (b.toNat-48):=if_pos h
theorem decFrom_take{t:List UInt8}{i acc:Nat}(hi:i<t.length)(h:Lib.decFrom 0 (t.take i)=some acc)(hd:48≤t[i].toNat∧t[i].toNat≤57):Lib.decFrom 0 (t.take (i+1))=some (acc*10+(t[i].toNat-48)):=by
 rw[List.take_succ_eq_append_getElem hi,xI,h,OL hd];rfl
theorem Ck{s:List UInt8}{m:Int}(h:eY s=some m):(tF s↔m<0)∧dI s=Lib.decDigits m.natAbs∧1≤(dI s).length∧(dI s).length≤12:=by
 obtain⟨hr,he⟩:=Gq h
 have hl:(Lib.decDigits m.natAbs).length≤12:=zB 11 _ (by omega)
 obtain⟨b,r,e,b1,b2⟩:=uE m.natAbs
 have hl1:1≤(Lib.decDigits m.natAbs).length:=by rw[e];simp
 unfold Lib.itoa at he
 by_cases hn:m<0
 ·rw[if_pos hn] at he
  have hs:tF s:=by rw[←he];rfl
  have hb:dI s=Lib.decDigits m.natAbs:=by unfold dI;rw[if_pos hs,←he];rfl
  exact⟨⟨fun _=>hn,fun _=>hs⟩,hb,by rw[hb];exact⟨hl1,hl⟩⟩
 ·rw[if_neg hn,show m.toNat=m.natAbs by omega] at he
  have hs:¬tF s:=fun x=>by
   rw[←he,e] at x
   unfold tF at x
   simp only[List.head?_cons,Option.some.injEq] at x
   rw[x] at b1;revert b1;decide
  have hb:dI s=Lib.decDigits m.natAbs:=by unfold dI;rw[if_neg hs,←he]
  exact⟨⟨fun x=>(hs x).elim,fun x=>(hn x).elim⟩,hb,by rw[hb];exact⟨hl1,hl⟩⟩
theorem qY{s:List UInt8}(h:(dI s).length<1∨12<(dI s).length):eY s=none:=by
 cases hr:eY s with
 |none=>rfl
 |some m=>have:=(Ck hr).2.2;omega
theorem yE{s:List UInt8}{i:Nat}(hi:i<(dI s).length)(h:¬(48≤(dI s)[i].toNat∧(dI s)[i].toNat≤57)):eY s=none:=by
 cases hr:eY s with
 |none=>rfl
 |some m=>
  have hk:=(Ck hr).2.1
  have hd:=uD m.natAbs
  rw[←hk] at hd
  exact absurd (vD _ _ _ hd _ (List.getElem_mem hi)) h
theorem Jm{s:List UInt8}{v:Nat}(hv:Lib.decFrom 0 (dI s)=some v)(hb:v≤999999999999):eY s=if Lib.itoa (if tF s then -(v:Int) else v)=s then some (if tF s then -(v:Int) else v) else none:=by
 obtain⟨z,hz⟩:∃z,z=(if tF s then -(v:Int) else v):=⟨_,rfl⟩
 have hzb: -999999999999≤z∧z≤999999999999:=by rw[hz];split<;>omega
 rw[←hz]
 by_cases h:Lib.itoa z=s
 ·rw[if_pos h]
  conv=>lhs;rw[←h]
  exact Gp hzb
 ·rw[if_neg h]
  cases hr:eY s with
  |none=>rfl
  |some m=>
   have hk:=Ck hr
   have hd:=uD m.natAbs
   rw[←hk.2.1,hv] at hd
   have hm:v=m.natAbs:=by simpa using hd
   have:z=m:=by
    rw[hz]
    by_cases hn:tF s
    ·have:=hk.1.1 hn
     rw[if_pos hn];omega
    ·rw[if_neg hn]
     have:¬m<0:=fun x=>hn (hk.1.2 x)
     omega
   rw[this] at h
   exact absurd (Gq hr).2 h
end Go.Ab
namespace Go.Proofs.YtlmhknhlmicmeaaGreatDoor
open Go Go.Ab
theorem OM(s:List UInt8)(hs:s.length≤1073741824):aH Tryz.prog 277 [.c (.d (.s s)),.c (.d (.i .i64 12))] (.dS [(false,[.d (.i .i64 ((eY s).getD 0))]),(false,[.d (.b (eY s).isSome)])]):=fun S=>by
 have d0:eY s=none→V.dS [(false,[.d (.i .i64 0)]),(false,[.d (.b false)])]=.dS [(false,[.d (.i .i64 ((eY s).getD 0))]),(false,[.d (.b (eY s).isSome)])]:=fun e=>by rw[e];rfl
 refine aC (rs:=[.tmp 4,.tmp 5]) Tryz.checked.mixed Tryz.func277 Tryz.ntmps277 rfl rfl rfl rfl rfl ?_
 simp -implicitDefEqProofs (disch:=omega) only[go_sem]
 with_reducible refine aA (fun hb=> ?_) (fun hb=> ?_)<;>have h:=hb<;>(try simp only[wf_preprocess] at h)<;>simp -implicitDefEqProofs (disch:=omega) only[go_sem,hb]<;>(repeat(with_reducible refine And.intro ?_ ?_;focus first|omega|rfl|assumption|exact⟨_,rfl,rfl⟩|(simp;omega)|(simp;done)))
 ·have hpos:0<s.length:=by omega
  have h0:(s.getD 0 0).toNat=45↔tF s:=by
   cases s with
   |nil=>simp at hpos
   |cons b s=>
    unfold tF
    simp only[List.getD_cons_zero,List.head?_cons,Option.some.injEq]
    constructor
    ·intro e;exact UInt8.toNat.inj e
    ·intro e;rw[e];rfl
  (repeat(with_reducible refine And.intro ?_ ?_;focus first|omega|rfl|assumption|exact⟨_,rfl,rfl⟩|(simp;omega)|(simp;done)))
  with_reducible refine aA (fun hb=> ?_) (fun hb=> ?_)<;>have h:=hb<;>(try simp only[wf_preprocess] at h)<;>simp -implicitDefEqProofs (disch:=omega) only[go_sem,hb]<;>(repeat(with_reducible refine And.intro ?_ ?_;focus first|omega|rfl|assumption|exact⟨_,rfl,rfl⟩|(simp;omega)|(simp;done)))
  ·have hn:tF s:=h0.1 (by omega)
   have hb:dI s=(s.take s.length).drop 1:=by unfold dI;rw[if_pos hn,List.take_length,List.drop_one]
   (repeat(with_reducible refine And.intro ?_ ?_;focus first|omega|rfl|assumption|exact⟨_,rfl,rfl⟩|(simp;omega)|(simp;done)))
   rw[←hb]
   have hbl:(dI s).length≤s.length:=by rw[hb];simp
   with_reducible refine aA (fun hb=> ?_) (fun hb=> ?_)<;>have h:=hb<;>(try simp only[wf_preprocess] at h)<;>simp -implicitDefEqProofs (disch:=omega) only[go_sem,hb]<;>(repeat(with_reducible refine And.intro ?_ ?_;focus first|omega|rfl|assumption|exact⟨_,rfl,rfl⟩|(simp;omega)|(simp;done)))
   ·exact d0 (qY (by omega))
   with_reducible refine aA (fun hb=> ?_) (fun hb=> ?_)<;>have h:=hb<;>(try simp only[wf_preprocess] at h)<;>simp -implicitDefEqProofs (disch:=omega) only[go_sem,hb]<;>(repeat(with_reducible refine And.intro ?_ ?_;focus first|omega|rfl|assumption|exact⟨_,rfl,rfl⟩|(simp;omega)|(simp;done)))
   ·exact d0 (qY (by omega))
   have hl1:1≤(dI s).length:=by omega
   have hl12:(dI s).length≤12:=by omega
   refine aV (ι:=Nat×Nat) Tryz.checked.mixed rfl [0,6,7,8,9] (fun y=>[.c (.d (.s s)),.c (.d (.b true)),.c (.d (.s (dI s))),.c (.d (.i .i64 y.2)),.c (.d (.i .i64 y.1))]) (fun _=>[]::S)
    (fun y=>y.1≤(dI s).length∧Lib.decFrom 0 ((dI s).take y.1)=some y.2∧y.2<10^y.1) (fun y=>(dI s).length-y.1) (0,0) rfl rfl ⟨Nat.zero_le _,rfl,by decide⟩ ?_
   rintro⟨i,acc⟩ ⟨p1,p2,p3⟩
   simp only at p1 p2 p3
   have p4:10^i≤10^12:=Nat.pow_le_pow_right (by decide) (by omega)
   simp -implicitDefEqProofs (disch:=omega) only[go_sem]
   with_reducible refine aA (fun hb=> ?_) (fun hb=> ?_)<;>have h:=hb<;>(try simp only[wf_preprocess] at h)<;>simp -implicitDefEqProofs (disch:=omega) only[go_sem,hb]<;>(repeat(with_reducible refine And.intro ?_ ?_;focus first|omega|rfl|assumption|exact⟨_,rfl,rfl⟩|(simp;omega)|(simp;done)))
   ·have hi:i<(dI s).length:=by omega
    have e:(dI s).getD i 0=(dI s)[i]:=by simp[List.getD,hi]
    have hbb:=(dI s)[i].toNat_lt
    (repeat(with_reducible refine And.intro ?_ ?_;focus first|omega|rfl|assumption|exact⟨_,rfl,rfl⟩|(simp;omega)|(simp;done)))
    simp only[e]
    with_reducible refine aA (fun hb=> ?_) (fun hb=> ?_)<;>have h:=hb<;>(try simp only[wf_preprocess] at h)<;>simp -implicitDefEqProofs (disch:=omega) only[go_sem,hb]<;>(repeat(with_reducible refine And.intro ?_ ?_;focus first|omega|rfl|assumption|exact⟨_,rfl,rfl⟩|(simp;omega)|(simp;done)))
    ·exact d0 (yE hi (by omega))
    (repeat(with_reducible refine And.intro ?_ ?_;focus first|omega|rfl|assumption|exact⟨_,rfl,rfl⟩|(simp;omega)|(simp;done)))
    simp only[e]
    with_reducible refine aA (fun hb=> ?_) (fun hb=> ?_)<;>have h:=hb<;>(try simp only[wf_preprocess] at h)<;>simp -implicitDefEqProofs (disch:=omega) only[go_sem,hb]<;>(repeat(with_reducible refine And.intro ?_ ?_;focus first|omega|rfl|assumption|exact⟨_,rfl,rfl⟩|(simp;omega)|(simp;done)))
    ·exact d0 (yE hi (by omega))
    have hdg:48≤(dI s)[i].toNat∧(dI s)[i].toNat≤57:=by omega
    have ht:=decFrom_take hi p2 hdg
    have e2:(10:Int)*acc+(((dI s)[i].toNat:Int)-48)=((acc*10+((dI s)[i].toNat-48):Nat):Int):=by omega
    (repeat(with_reducible refine And.intro ?_ ?_;focus first|omega|rfl|assumption|exact⟨_,rfl,rfl⟩|(simp;omega)|(simp;done)))
    simp -implicitDefEqProofs (disch:=omega) only[go_sem,wrap_u8,e]
    rw[e2]
    exact bH (i+1,acc*10+((dI s)[i].toNat-48)) (by simp only;omega) rfl rfl ⟨by simp only;omega,ht,by simp only[Nat.pow_succ];omega⟩
   ·have hi:i=(dI s).length:=by omega
    have hv:Lib.decFrom 0 (dI s)=some acc:=by rw[hi,List.take_length] at p2;exact p2
    have AQ:=Jm hv (by omega)
    rw[if_pos hn] at AQ
    rw[show(0:Int)-acc= -(acc:Int) by omega]
    refine ay (rP (-(acc:Int)) (by omega) (by omega)) ?_
    simp -implicitDefEqProofs (disch:=omega) only[go_sem]
    with_reducible refine aA (fun hb=> ?_) (fun hb=> ?_)<;>have h:=hb<;>(try simp only[wf_preprocess] at h)<;>simp -implicitDefEqProofs (disch:=omega) only[go_sem,hb]<;>(repeat(with_reducible refine And.intro ?_ ?_;focus first|omega|rfl|assumption|exact⟨_,rfl,rfl⟩|(simp;omega)|(simp;done)))
    ·exact d0 (AQ.trans (if_neg h))
    ·rw[AQ.trans (if_pos h)];rfl
  ·have hn:¬tF s:=fun x=>h (by rw[h0.2 x];rfl)
   have hbs:dI s=s:=by unfold dI;rw[if_neg hn]
   have hbl:(dI s).length=s.length:=by rw[hbs]
   with_reducible refine aA (fun hb=> ?_) (fun hb=> ?_)<;>have h:=hb<;>(try simp only[wf_preprocess] at h)<;>simp -implicitDefEqProofs (disch:=omega) only[go_sem,hb]<;>(repeat(with_reducible refine And.intro ?_ ?_;focus first|omega|rfl|assumption|exact⟨_,rfl,rfl⟩|(simp;omega)|(simp;done)))
   ·exact d0 (qY (by omega))
   with_reducible refine aA (fun hb=> ?_) (fun hb=> ?_)<;>have h:=hb<;>(try simp only[wf_preprocess] at h)<;>simp -implicitDefEqProofs (disch:=omega) only[go_sem,hb]<;>(repeat(with_reducible refine And.intro ?_ ?_;focus first|omega|rfl|assumption|exact⟨_,rfl,rfl⟩|(simp;omega)|(simp;done)))
   ·exact d0 (qY (by omega))
   have hl1:1≤(dI s).length:=by omega
   have hl12:(dI s).length≤12:=by omega
   refine aV (ι:=Nat×Nat) Tryz.checked.mixed rfl [0,6,7,8,9] (fun y=>[.c (.d (.s s)),.c (.d (.b false)),.c (.d (.s (dI s))),.c (.d (.i .i64 y.2)),.c (.d (.i .i64 y.1))]) (fun _=>[]::S)
    (fun y=>y.1≤(dI s).length∧Lib.decFrom 0 ((dI s).take y.1)=some y.2∧y.2<10^y.1) (fun y=>(dI s).length-y.1) (0,0) (by rw[hbs];rfl) rfl ⟨Nat.zero_le _,rfl,by decide⟩ ?_
   rintro⟨i,acc⟩ ⟨p1,p2,p3⟩
   simp only at p1 p2 p3
   have p4:10^i≤10^12:=Nat.pow_le_pow_right (by decide) (by omega)
   simp -implicitDefEqProofs (disch:=omega) only[go_sem]
   with_reducible refine aA (fun hb=> ?_) (fun hb=> ?_)<;>have h:=hb<;>(try simp only[wf_preprocess] at h)<;>simp -implicitDefEqProofs (disch:=omega) only[go_sem,hb]<;>(repeat(with_reducible refine And.intro ?_ ?_;focus first|omega|rfl|assumption|exact⟨_,rfl,rfl⟩|(simp;omega)|(simp;done)))
   ·have hi:i<(dI s).length:=by omega
    have e:(dI s).getD i 0=(dI s)[i]:=by simp[List.getD,hi]
    have hbb:=(dI s)[i].toNat_lt
    (repeat(with_reducible refine And.intro ?_ ?_;focus first|omega|rfl|assumption|exact⟨_,rfl,rfl⟩|(simp;omega)|(simp;done)))
    simp only[e]
    with_reducible refine aA (fun hb=> ?_) (fun hb=> ?_)<;>have h:=hb<;>(try simp only[wf_preprocess] at h)<;>simp -implicitDefEqProofs (disch:=omega) only[go_sem,hb]<;>(repeat(with_reducible refine And.intro ?_ ?_;focus first|omega|rfl|assumption|exact⟨_,rfl,rfl⟩|(simp;omega)|(simp;done)))
    ·exact d0 (yE hi (by omega))
    (repeat(with_reducible refine And.intro ?_ ?_;focus first|omega|rfl|assumption|exact⟨_,rfl,rfl⟩|(simp;omega)|(simp;done)))
    simp only[e]
    with_reducible refine aA (fun hb=> ?_) (fun hb=> ?_)<;>have h:=hb<;>(try simp only[wf_preprocess] at h)<;>simp -implicitDefEqProofs (disch:=omega) only[go_sem,hb]<;>(repeat(with_reducible refine And.intro ?_ ?_;focus first|omega|rfl|assumption|exact⟨_,rfl,rfl⟩|(simp;omega)|(simp;done)))
    ·exact d0 (yE hi (by omega))
    have hdg:48≤(dI s)[i].toNat∧(dI s)[i].toNat≤57:=by omega
    have ht:=decFrom_take hi p2 hdg
    have e2:(10:Int)*acc+(((dI s)[i].toNat:Int)-48)=((acc*10+((dI s)[i].toNat-48):Nat):Int):=by omega
    (repeat(with_reducible refine And.intro ?_ ?_;focus first|omega|rfl|assumption|exact⟨_,rfl,rfl⟩|(simp;omega)|(simp;done)))
    simp -implicitDefEqProofs (disch:=omega) only[go_sem,wrap_u8,e]
    rw[e2]
    exact bH (i+1,acc*10+((dI s)[i].toNat-48)) (by simp only;omega) rfl rfl ⟨by simp only;omega,ht,by simp only[Nat.pow_succ];omega⟩
   ·have hi:i=(dI s).length:=by omega
    have hv:Lib.decFrom 0 (dI s)=some acc:=by rw[hi,List.take_length] at p2;exact p2
    have AQ:=Jm hv (by omega)
    rw[if_neg hn] at AQ
    refine ay (rP ((acc:Int)) (by omega) (by omega)) ?_
    simp -implicitDefEqProofs (disch:=omega) only[go_sem]
    with_reducible refine aA (fun hb=> ?_) (fun hb=> ?_)<;>have h:=hb<;>(try simp only[wf_preprocess] at h)<;>simp -implicitDefEqProofs (disch:=omega) only[go_sem,hb]<;>(repeat(with_reducible refine And.intro ?_ ?_;focus first|omega|rfl|assumption|exact⟨_,rfl,rfl⟩|(simp;omega)|(simp;done)))
    ·exact d0 (AQ.trans (if_neg h))
    ·rw[AQ.trans (if_pos h)];rfl
 ·have hs0:s=[]:=List.eq_nil_of_length_eq_zero (by omega)
  have hb0:(dI s).length=0:=by rw[hs0];rfl
  with_reducible refine aA (fun hb=> ?_) (fun hb=> ?_)<;>have h:=hb<;>(try simp only[wf_preprocess] at h)<;>simp -implicitDefEqProofs (disch:=omega) only[go_sem,hb]<;>(repeat(with_reducible refine And.intro ?_ ?_;focus first|omega|rfl|assumption|exact⟨_,rfl,rfl⟩|(simp;omega)|(simp;done)))
  ·exact d0 (qY (by omega))
  ·omega
theorem Gt(s:List UInt8)(hs:s.length≤1073741824):aH Tryz.prog 197 [.c (.d (.s s))] (.dS [(false,[.d (.i .i64 ((eY s).getD 0))]),(false,[.d (.b (eY s).isSome)])]):=fun S=>by
 refine aC (rs:=[.tmp 2,.tmp 3]) Tryz.checked.mixed Tryz.func197 Tryz.ntmps197 rfl rfl rfl rfl rfl ?_
 simp -implicitDefEqProofs (disch:=omega) only[go_sem]
 refine ay (OM s hs) ?_
 simp -implicitDefEqProofs (disch:=omega) only[go_sem]<;>(repeat(with_reducible refine And.intro ?_ ?_;focus first|omega|rfl|assumption|exact⟨_,rfl,rfl⟩|(simp;omega)|(simp;done)))
end Go.Proofs.YtlmhknhlmicmeaaGreatDoor
namespace Go.Ab
theorem Vb{x:ah}{i:Nat}(hi:i<x.ak.length)(h:x.sz≤4194304):x.ak[i].sz≤4194304:=by
 have:=jG (List.getElem_mem hi)
 rw[jo,kY] at h
 omega
theorem Vd{x:ah}(h:x.sz≤4194304):x.aT.length≤4194304∧x.ak.length≤4194304:=by
 rw[jo] at h
 omega
end Go.Ab
namespace Go.Proofs.YtlmhknhlmicmeaaGreatDoor
open Go Go.Ab
theorem vE:∀n:Nat,∀x:ah,SizeOf.sizeOf x<n→∀y:ah,x.sz≤4194304→aH Tryz.prog 107 [x.v,y.v] (.c (.d (.b (dec (x=y)))))
 |0=>fun x h=>by omega
 |n+1=>by
  have ih:=vE n
  intro x hn y hsz S
  have FP:=ah.jU x
  have hb:=Vd hsz
  refine aC (rs:=[.tmp 4]) Tryz.checked.mixed Tryz.func107 Tryz.ntmps107 rfl rfl rfl rfl rfl ?_
  simp -implicitDefEqProofs (disch:=omega) only[go_sem]
  with_reducible refine aA (fun hb=> ?_) (fun hb=> ?_)<;>have h:=hb<;>(try simp only[wf_preprocess] at h)<;>simp -implicitDefEqProofs (disch:=omega) only[go_sem,hb]<;>(repeat(with_reducible refine And.intro ?_ ?_;focus first|omega|rfl|assumption|exact⟨_,rfl,rfl⟩|(simp;omega)|(simp;done)))
  ·exact aJ (aQ (fun e=>h (by rw[e]))).symm
  have h1:=h
  with_reducible refine aA (fun hb=> ?_) (fun hb=> ?_)<;>have h:=hb<;>(try simp only[wf_preprocess] at h)<;>simp -implicitDefEqProofs (disch:=omega) only[go_sem,hb]<;>(repeat(with_reducible refine And.intro ?_ ?_;focus first|omega|rfl|assumption|exact⟨_,rfl,rfl⟩|(simp;omega)|(simp;done)))
  ·exact aJ (aQ (fun e=>h (by rw[e]))).symm
  have hl:x.ak.length=y.ak.length:=by omega
  refine aV (ι:=Nat) Tryz.checked.mixed rfl [2,3,5] (fun i=>[.c (.ptr (0,0) 0),.c (.ptr (0,1) 0),.c (.d (.i .i64 i))]) (fun i=>[.box [.d (.s x.aT),.d (.sl (x.ak.map ah.enc))],.box [.d (.s y.aT),.d (.sl (y.ak.map ah.enc))]]::S)
   (fun i=>i≤x.ak.length∧∀j,j<i→x.ak[j]? =y.ak[j]?) (fun i=>x.ak.length-i) 0 rfl rfl ⟨Nat.zero_le _,fun j h=>by omega⟩ ?_
  rintro i ⟨p1,p2⟩
  simp -implicitDefEqProofs (disch:=omega) only[go_sem,ah.aD]
  with_reducible refine aA (fun hb=> ?_) (fun hb=> ?_)<;>have h:=hb<;>(try simp only[wf_preprocess] at h)<;>simp -implicitDefEqProofs (disch:=omega) only[go_sem,hb]<;>(repeat(with_reducible refine And.intro ?_ ?_;focus first|omega|rfl|assumption|exact⟨_,rfl,rfl⟩|(simp;omega)|(simp;done)))
  ·have hi:i<x.ak.length:=by omega
   have hi':i<y.ak.length:=by omega
   (repeat(with_reducible refine And.intro ?_ ?_;focus first|omega|rfl|assumption|exact⟨_,rfl,rfl⟩|(simp;omega)|(simp;done)))
   refine ay (ih x.ak[i] (by have:=List.sizeOf_lt_of_mem (List.getElem_mem hi);omega) y.ak[i] (Vb hi hsz)) ?_
   simp -implicitDefEqProofs (disch:=omega) only[go_sem]
   with_reducible refine aA (fun hb=> ?_) (fun hb=> ?_)<;>have h:=hb<;>(try simp only[wf_preprocess] at h)<;>simp -implicitDefEqProofs (disch:=omega) only[go_sem,hb]<;>(repeat(with_reducible refine And.intro ?_ ?_;focus first|omega|rfl|assumption|exact⟨_,rfl,rfl⟩|(simp;omega)|(simp;done)))
   ·exact aJ (aQ (fun e=>h (by simp only[e]))).symm
   refine bH (i+1) (by omega) rfl rfl ⟨by omega,fun j hj=> ?_⟩
   by_cases e:j=i
   ·subst e
    rw[List.getElem?_eq_getElem hi,List.getElem?_eq_getElem hi',h]
   ·exact p2 j (by omega)
  ·have hi:i=x.ak.length:=by omega
   refine aJ (bR ?_).symm
   refine ah.ext (by first|exact h1|(simp at h1;exact h1)) (List.ext_getElem? fun j=> ?_)
   by_cases hj:j<i
   ·exact p2 j hj
   ·rw[List.getElem?_eq_none (by omega),List.getElem?_eq_none (by omega)]
theorem Dn(x y:ah)(h:x.sz≤4194304):aH Tryz.prog 107 [x.v,y.v] (.c (.d (.b (dec (x=y))))):=vE _ x (Nat.lt_succ_self _) y h
theorem vF:∀n:Nat,(∀x:ah,SizeOf.sizeOf x<n→∀y:ah,x.sz≤4194304→aH Tryz.prog 98 [x.v,y.v] (.c (.d (.b (dec (x=y))))))∧
 (∀xs:List ah,SizeOf.sizeOf xs<n→∀ys:List ah,xs.length≤4194304→(∀t∈xs,t.sz≤4194304)→aH Tryz.prog 189 [.c (.d (.sl (xs.map ah.enc))),.c (.d (.sl (ys.map ah.enc))),.c (.fn 98 [])] (.c (.d (.b (dec (xs=ys))))))
 |0=>⟨fun x h=>by omega,fun x h=>by omega⟩
 |n+1=>by
  obtain⟨ih,l9⟩:=vF n
  refine⟨fun x hn y hsz S=> ?_,fun xs hn ys hlen hsz S=> ?_⟩
  ·have FP:=ah.jU x
   have hb:=Vd hsz
   refine aC (rs:=[.tmp 4]) Tryz.checked.mixed Tryz.func98 Tryz.ntmps98 rfl rfl rfl rfl rfl ?_
   simp -implicitDefEqProofs (disch:=omega) only[go_sem]
   with_reducible refine aA (fun hb=> ?_) (fun hb=> ?_)<;>have h:=hb<;>(try simp only[wf_preprocess] at h)<;>simp -implicitDefEqProofs (disch:=omega) only[go_sem,hb]<;>(repeat(with_reducible refine And.intro ?_ ?_;focus first|omega|rfl|assumption|exact⟨_,rfl,rfl⟩|(simp;omega)|(simp;done)))
   ·have h1:=h
    (repeat(with_reducible refine And.intro ?_ ?_;focus first|omega|rfl|assumption|exact⟨_,rfl,rfl⟩|(simp;omega)|(simp;done)))
    refine ay (l9 x.ak (by omega) y.ak (by omega) (fun t ht=>by
     obtain⟨i,hi,e⟩:=List.getElem_of_mem ht
     rw[←e];exact Vb hi hsz)) ?_
    simp -implicitDefEqProofs (disch:=omega) only[go_sem]
    refine aJ (kF ⟨fun e=>ah.ext h1 e,fun e=>by rw[e]⟩)
   ·exact aJ (aQ (fun e=>h (by rw[e]))).symm
  ·refine aC (rs:=[.tmp 6]) Tryz.checked.mixed Tryz.func189 Tryz.ntmps189 rfl rfl rfl rfl rfl ?_
   simp -implicitDefEqProofs (disch:=omega) only[go_sem]
   with_reducible refine aA (fun hb=> ?_) (fun hb=> ?_)<;>have h:=hb<;>(try simp only[wf_preprocess] at h)<;>simp -implicitDefEqProofs (disch:=omega) only[go_sem,hb]<;>(repeat(with_reducible refine And.intro ?_ ?_;focus first|omega|rfl|assumption|exact⟨_,rfl,rfl⟩|(simp;omega)|(simp;done)))
   ·exact aJ (aQ (fun e=>h (by rw[e]))).symm
   have hl:xs.length=ys.length:=by omega
   refine aV (ι:=Nat) Tryz.checked.mixed rfl [1,2,15,16,17] (fun y=>[.c (.d (.sl (ys.map ah.enc))),.c (.fn 98 []),.c (.d (.sl (xs.map ah.enc))),.c (.d (.i .i64 xs.length)),.c (.d (.i .i64 y))]) (fun y=>[]::S)
    (fun i=>i≤xs.length∧∀j,j<i→xs[j]? =ys[j]?) (fun y=>xs.length-y) 0 rfl rfl ⟨Nat.zero_le _,fun j h=>by omega⟩ ?_
   rintro i ⟨p1,p2⟩
   simp -implicitDefEqProofs (disch:=omega) only[go_sem]
   with_reducible refine aA (fun hb=> ?_) (fun hb=> ?_)<;>have h:=hb<;>(try simp only[wf_preprocess] at h)<;>simp -implicitDefEqProofs (disch:=omega) only[go_sem,hb]<;>(repeat(with_reducible refine And.intro ?_ ?_;focus first|omega|rfl|assumption|exact⟨_,rfl,rfl⟩|(simp;omega)|(simp;done)))
   ·have hi:i<xs.length:=by omega
    have hi':i<ys.length:=by omega
    (repeat(with_reducible refine And.intro ?_ ?_;focus first|omega|rfl|assumption|exact⟨_,rfl,rfl⟩|(simp;omega)|(simp;done)))
    refine ay (ih xs[i] (by have:=List.sizeOf_lt_of_mem (List.getElem_mem hi);omega) ys[i] (hsz _ (List.getElem_mem hi))) ?_
    simp -implicitDefEqProofs (disch:=omega) only[go_sem]
    with_reducible refine aA (fun hb=> ?_) (fun hb=> ?_)<;>have h:=hb<;>(try simp only[wf_preprocess] at h)<;>simp -implicitDefEqProofs (disch:=omega) only[go_sem,hb]<;>(repeat(with_reducible refine And.intro ?_ ?_;focus first|omega|rfl|assumption|exact⟨_,rfl,rfl⟩|(simp;omega)|(simp;done)))
    ·exact aJ (aQ (fun e=>h (by simp only[e]))).symm
    refine dV 0 (by decide) (i+1) (by omega) rfl rfl rfl rfl ⟨by omega,fun j hj=> ?_⟩
    by_cases e:j=i
    ·subst e
     rw[List.getElem?_eq_getElem hi,List.getElem?_eq_getElem hi',h]
    ·exact p2 j (by omega)
   ·have hi:i=xs.length:=by omega
    refine aJ (bR (List.ext_getElem? fun j=> ?_)).symm
    by_cases hj:j<i
    ·exact p2 j hj
    ·rw[List.getElem?_eq_none (by omega),List.getElem?_eq_none (by omega)]
theorem Dp(x y:ah)(h:x.sz≤4194304):aH Tryz.prog 98 [x.v,y.v] (.c (.d (.b (dec (x=y))))):=(vF _).1 x (Nat.lt_succ_self _) y h
end Go.Proofs.YtlmhknhlmicmeaaGreatDoor
namespace Go.Ab
section
variable {P:Program} {w w':World} {σ σ':Nat→Nat} {S:Store} {β:Hs}
end
end Go.Ab
namespace Go.Ab
section
variable {P:Program} {w w':World} {σ σ':Nat→Nat} {β:Hs}
theorem Z0{own:List Obj}{Ω:Store}(lab:Option Nat)(j i aO:Nat)(es:List (List D))(cs:List C)(hj:own[j]? =some (.box cs))(hi:cs[i]? =some (match lab with|some n=>.ig n es|none=>.aL es))(hes:∀e∈es,e.length=aO)(hS:dx w σ (own::Ω) β):
 ∃β',dx w σ ((own.set j (.box (cs.set i (.bK (0,own.length) es)))++[fU lab aO es])::Ω) β'∧Step (own::Ω) β σ w ((own.set j (.box (cs.set i (.bK (0,own.length) es)))++[fU lab aO es])::Ω) β' σ w∧Keep (own::Ω) β ((own.set j (.box (cs.set i (.bK (0,own.length) es)))++[fU lab aO es])::Ω) β':=by
 cases β with
 |nil=>have:=hS.shape.1;simp at this
 |cons bo bΩ=>
 have hlen:bo.length=own.length:=by
  obtain⟨gr,g1,g2⟩:=hS.shape.2 0 own rfl
  simp at g1;rw[g1];exact g2
 have hjl:=(List.getElem?_eq_some_iff.1 hj).1
 have hg0:aR (own::Ω) (0,j)=some (.box cs):=by rw[aZ];exact hj
 obtain⟨hb,Dw,hr⟩:=hS.obj (0,j) _ hg0
 obtain⟨b,cv,ty,rfl,hbc,hσ,hcs⟩:=hr
 have hcs:eF w σ (own::Ω) (bo::bΩ) cs cv.toList:=hcs
 obtain⟨v,hv,hc0,hone⟩:=hcs.2 i _ hi
 have hx:∃ad:Option Addr,bU w σ (.sl es) v∧v=.slice ad es.length es.length∧∀n,lab=some n→bU w σ (.ol n es) v:=by
  cases lab with
  |none=>
   obtain⟨hd,ad,n,hval⟩:=hc0
   have hn:n=es.length:=by rw[hval] at hd;cases hd<;>rfl
   exact⟨ad,hd,by rw[hval,hn],fun n e=>by cases e⟩
  |some n=>
   obtain⟨hd,ad,m,hval⟩:=hc0
   have hn:m=es.length:=by
    have:=qP hd
    rw[hval] at this
    cases this<;>rfl
   exact⟨ad,qP hd,by rw[hval,hn],fun n' e=>by cases e;exact hd⟩
 obtain⟨ad,hd,hval,hol⟩:=hx
 have hg:Grow w σ w σ:=Grow.refl hS.live
 obtain⟨hS',hk,hst⟩:=hS.push (o:=fU lab aO es) (h:=v) hg hlen (by
  cases lab with
  |none=>exact⟨hd,hes,ad,es.length,hval,Nat.le_refl _,.inl rfl⟩
  |some n=>exact⟨hd,hes,ad,es.length,hval,Nat.le_refl _,.inl ⟨rfl,hol n rfl⟩⟩) (fun b hb=>by
  rw[hval] at hb
  cases lab<;>cases ad<;>simp[fU,owns,blk] at hb)
 have hk1:aR ((own++[fU lab aO es])::Ω) (0,j)=some (.box cs):=jc _ _ _ _ _ hg0
 have AV:aR ((bo++[v])::bΩ) (0,j)=some (.pointer (some ⟨b,0,none⟩)):=jc _ _ _ _ _ Dw
 have hko:jm (.box cs) (some (Value.pointer (some ⟨b,0,none⟩))) (.box (cs.set i (.bK (0,own.length) es))) (some (Value.pointer (some ⟨b,0,none⟩))):=.inr ⟨⟨_,rfl⟩,rfl⟩
 have hK:Keep ((own++[fU lab aO es])::Ω) ((bo++[v])::bΩ) (aW ((own++[fU lab aO es])::Ω) (0,j) (.box (cs.set i (.bK (0,own.length) es)))) (aW ((bo++[v])::bΩ) (0,j) (.pointer (some ⟨b,0,none⟩))):=by
  intro k1 o1 e1
  by_cases e:k1=(0,j)
  ·subst e
   rw[hk1] at e1;cases e1
   exact⟨_,bS _ _ _ _ hk1,by rw[AV,bS _ _ _ _ AV];exact hko⟩
  ·exact⟨o1,(dH _ _ _ _ (Ne.symm e)).trans e1,by rw[dH _ _ _ _ (Ne.symm e)];exact .refl _ _⟩
 have hne:(0,own.length)≠(0,j):=fun e=>by injection e with _ e;omega
 obtain⟨hS2,hk2,wY⟩:=hS'.set (w':=w) (σ':=σ) (o':=.box (cs.set i (.bK (0,own.length) es))) (h':=.pointer (some ⟨b,0,none⟩)) hk1 AV (Nat.le_refl _) rfl rfl (dU.refl _ _) hS'.live (fun _ _ _=>⟨rfl,rfl⟩) hko
  ⟨b,cv,ty,rfl,hbc,hσ,by
    refine⟨by rw[List.length_set];exact hcs.1,fun m x hm=> ?_⟩
    rw[List.getElem?_set] at hm
    by_cases e:i=m
    ·subst e
     rw[if_pos rfl] at hm
     split at hm
     ·cases hm
      refine⟨v,hv,⟨hd,fU lab aO es,?_,fun a1 b1 e1=> ?_⟩,hone⟩
      ·show aR (aW _ (0,j) _) (0,own.length)=_
       rw[dH _ _ _ _ (Ne.symm hne),bJ]
      ·obtain⟨_,rfl⟩:=jR e1
       refine⟨Nat.le_refl _,fun _=> ?_⟩
       show aR (aW _ (0,j) _) (0,own.length)=_
       rw[dH _ _ _ _ (Ne.symm hne),←hlen,bJ]
     ·cases hm
    ·rw[if_neg e] at hm
     obtain⟨u,hu,hc,ho⟩:=hcs.2 m x hm
     exact⟨u,hu,(hc.mono (dU.refl _ _) hk).mono (dU.refl _ _) hK,ho⟩⟩ (fun _ e=>.inl e)
 have est:aW ((own++[fU lab aO es])::Ω) (0,j) (.box (cs.set i (.bK (0,own.length) es)))=(own.set j (.box (cs.set i (.bK (0,own.length) es)))++[fU lab aO es])::Ω:=by
  rw[aW,List.set_append_left _ _ hjl]
 rw[est] at hS2 hk2 wY
 exact⟨_,hS2,hst.trans wY,hk.trans hk2⟩
end
end Go.Ab
namespace Go.Ab
section
variable {P:Program} {w w':World} {σ σ':Nat→Nat} {β:Hs} {N:Nat}
def lD(x y:C):Prop:=∀w σ S β v,fH w σ S β x v→fH w σ S β y v
theorem lD.refl(x:C):lD x x:=fun _ _ _ _ _ h=>h
theorem Cm(n:Nat):lD (.aL []) (.ig n []):=fun w σ S β v h=>by
 obtain⟨hd,a,m,hv⟩:=h
 have hm:m=0:=by rw[hv] at hd;cases hd<;>rfl
 subst hm
 exact⟨by rw[hv];exact .pK _ _ _,a,0,hv⟩
theorem eH(n:Nat):lD (.aL []) (.d (.ol n [])):=fun w σ S β v h=>(Cm n w σ S β v h).1
theorem fQ(es:List (List D)):lD (.aL es) (.d (.sl es)):=fun w σ S β v h=>h.1
theorem Z4(n:Nat)(es:List (List D)):lD (.d (.ol n es)) (.d (.sl es)):=fun w σ S β v h=>qP h
inductive dR:List C→List C→Prop
 |nil:dR [] []
 |cons {x y:C} {xs ys:List C}:lD x y→dR xs ys→dR (x::xs) (y::ys)
theorem dR.refl:∀xs,dR xs xs
 |[]=>.nil
 |x::xs=>.cons (.refl x) (dR.refl xs)
theorem dR.length:∀{xs ys:List C},dR xs ys→xs.length=ys.length
 |_,_,.nil=>rfl
 |_,_,.cons _ h=>by rw[List.length_cons,List.length_cons,dR.length h]
theorem dR.at:∀{xs ys:List C},dR xs ys→∀(j:Nat) (x y:C),xs[j]? =some x→ys[j]? =some y→lD x y
 |_,_,.nil,j,x,y,h,_=>by simp at h
 |_,_,.cons a h,0,x,y,h1,h2=>by simp at h1 h2;subst h1;subst h2;exact a
 |_,_,.cons a h,j+1,x,y,h1,h2=>dR.at h j x y (by simpa using h1) (by simpa using h2)
theorem dR.less{xs ys:List C}(h:dR xs ys):Less (.agg xs) (.agg ys):=by
 rintro w σ S β v ⟨a,ha,hc⟩
 refine⟨a,ha,h.length.symm.trans hc.1,fun j y hy=> ?_⟩
 have hj:j<xs.length:=by rw[h.length];exact(List.getElem?_eq_some_iff.1 hy).1
 obtain⟨v,h1,h2,h3⟩:=hc.2 j _ (List.getElem?_eq_getElem hj)
 exact⟨v,h1,h.at j _ y (List.getElem?_eq_getElem hj) hy w σ S β v h2,h3⟩
theorem dR.aby{xs ys:List C}(h:dR xs ys){w:World}{σ:Nat→Nat}{S:Store}{β:Hs}{vs:List Value}(hc:eF w σ S β xs vs):eF w σ S β ys vs:=by
 refine⟨h.length.symm.trans hc.1,fun j y hy=> ?_⟩
 have hj:j<xs.length:=by rw[h.length];exact(List.getElem?_eq_some_iff.1 hy).1
 obtain⟨v,h1,h2,h3⟩:=hc.2 j _ (List.getElem?_eq_getElem hj)
 exact⟨v,h1,h.at j _ y (List.getElem?_eq_getElem hj) hy w σ S β v h2,h3⟩
theorem Ya{own:List Obj}{Ω:Store}(j:Nat)(cs cs':List C)(hj:own[j]? =some (.box cs))(hle:dR cs cs')(hS:dx w σ (own::Ω) β):
 ∃β',dx w σ ((own.set j (.box cs'))::Ω) β'∧Step (own::Ω) β σ w ((own.set j (.box cs'))::Ω) β' σ w∧Keep (own::Ω) β ((own.set j (.box cs'))::Ω) β'∧eX β'=eX β∧β'.length=β.length:=by
 cases β with
 |nil=>have:=hS.shape.1;simp at this
 |cons bo bΩ=>
 have hg0:aR (own::Ω) (0,j)=some (.box cs):=by rw[aZ];exact hj
 obtain⟨hb,Dw,hr⟩:=hS.obj (0,j) _ hg0
 obtain⟨b,cv,ty,rfl,hbc,hσ,hcs⟩:=hr
 have hcs:eF w σ (own::Ω) (bo::bΩ) cs cv.toList:=hcs
 have hko:jm (.box cs) (some (Value.pointer (some ⟨b,0,none⟩))) (.box cs') (some (Value.pointer (some ⟨b,0,none⟩))):=.inr ⟨⟨_,rfl⟩,rfl⟩
 have hK:Keep (own::Ω) (bo::bΩ) (aW (own::Ω) (0,j) (.box cs')) (aW (bo::bΩ) (0,j) (.pointer (some ⟨b,0,none⟩))):=by
  intro k1 o1 e1
  by_cases e:k1=(0,j)
  ·subst e
   rw[hg0] at e1;cases e1
   exact⟨_,bS _ _ _ _ hg0,by rw[Dw,bS _ _ _ _ Dw];exact hko⟩
  ·exact⟨o1,(dH _ _ _ _ (Ne.symm e)).trans e1,by rw[dH _ _ _ _ (Ne.symm e)];exact .refl _ _⟩
 obtain⟨hS2,hk2,wY⟩:=hS.set (w':=w) (σ':=σ) (o':=.box cs') (h':=.pointer (some ⟨b,0,none⟩)) hg0 Dw (Nat.le_refl _) rfl rfl (dU.refl _ _) hS.live (fun _ _ _=>⟨rfl,rfl⟩) hko
  ⟨b,cv,ty,rfl,hbc,hσ,by
    have h1:=hle.aby hcs
    refine⟨h1.1,fun m x hm=> ?_⟩
    obtain⟨u,hu,hc,ho⟩:=h1.2 m x hm
    exact⟨u,hu,hc.mono (dU.refl _ _) hK,ho⟩⟩ (fun _ e=>.inl e)
 have est:aW (own::Ω) (0,j) (.box cs')=(own.set j (.box cs'))::Ω:=rfl
 rw[est] at hS2 hk2 wY
 exact⟨_,hS2,wY,hk2,rfl,by simp[aW]⟩
theorem J6{tm:List (Nat×V)}{own:List Obj}{Ω:Store}(j:Nat)(cs cs':List C)(hj:own[j]? =some (.box cs))(hle:dR cs cs'):fE N ⟨tm,own::Ω⟩ ⟨tm,(own.set j (.box cs'))::Ω⟩:=by
 intro a w σ β hR
 obtain⟨β',hS,hst,hk,ht,_⟩:=Ya j cs cs' hj hle hR.S
 refine⟨σ,β',⟨hR.size,hR.defers,hS,fun u=>(hR.T u).mono (dU.refl _ _) hk⟩,hst,?_⟩
 rw[ht];exact Keep.refl _ _
theorem Cn{tm:List (Nat×V)}{own:List Obj}{Ω:Store}(lab:Option Nat)(j i aO:Nat)(es:List (List D))(cs:List C)(hj:own[j]? =some (.box cs))(hi:cs[i]? =some (match lab with|some n=>.ig n es|none=>.aL es))(hes:∀e∈es,e.length=aO):
 fE N ⟨tm,own::Ω⟩ ⟨tm,(own.set j (.box (cs.set i (.bK (0,own.length) es)))++[fU lab aO es])::Ω⟩:=by
 intro a w σ β hR
 obtain⟨β',hS,hst,hk⟩:=Z0 lab j i aO es cs hj hi hes hR.S
 refine⟨σ,β',⟨hR.size,hR.defers,hS,fun u=>(hR.T u).mono (dU.refl _ _) hk⟩,hst,?_⟩
 intro k o hko
 obtain⟨o',h1,h2⟩:=hk (k.1+1,k.2) o (by
  obtain⟨l,i⟩:=k
  show aR (own::Ω) (l+1,i)=_
  rw[bF];exact hko)
 obtain⟨bo,bΩ,rfl,_⟩:=frames hR
 have h3:=hS.shape.1
 cases β' with
 |nil=>simp at h3
 |cons bo' bΩ'=>
  rw[bF] at h1
  rw[bF,bF] at h2
  exact⟨o',h1,h2⟩
theorem R7{c:Code}{Q:Exit→St→Prop}{tm:List (Nat×V)}{own:List Obj}{Ω:Store}(j:Nat)(cs cs':List C)(hj:own[j]? =some (.box cs))(hle:dR cs cs')(h:AW P N c Q ⟨tm,(own.set j (.box cs'))::Ω⟩):AW P N c Q ⟨tm,own::Ω⟩:=kW h (J6 j cs cs' hj hle)
theorem Jo{x y:C}(hle:lD x y):∀(i:Nat) (cs:List C),cs[i]? =some x→dR cs (cs.set i y)
 |0,[],h=>by simp at h
 |0,z::cs,h=>by simp at h;subst h;exact .cons hle (.refl cs)
 |i+1,[],h=>by simp at h
 |i+1,z::cs,h=>.cons (.refl z) (Jo hle i cs (by simpa using h))
theorem Gu{c:Code}{Q:Exit→St→Prop}{tm:List (Nat×V)}{own:List Obj}{Ω:Store}(n j i aO:Nat)(cs:List C)(hj:own[j]? =some (.box cs))(hi:cs[i]? =some (.aL []))
 (h:AW P N c Q ⟨tm,(own.set j (.box (cs.set i (.bK (0,own.length) [])))++[.eu n aO []])::Ω⟩):AW P N c Q ⟨tm,own::Ω⟩:=by
 have hjl:=(List.getElem?_eq_some_iff.1 hj).1
 have hil:=(List.getElem?_eq_some_iff.1 hi).1
 refine R7 j cs (cs.set i (.ig n [])) hj (Jo (Cm n) i cs hi) ?_
 refine kW ?_ (Cn (some n) j i aO [] (cs.set i (.ig n [])) (by rw[List.getElem?_set_self hjl]) (by rw[List.getElem?_set_self hil]) (by simp))
 rw[List.set_set,List.set_set,List.length_set]
 exact h
theorem Jp{c:Code}{Q:Exit→St→Prop}{tm:List (Nat×V)}{own:List Obj}{Ω:Store}(j i aO:Nat)(cs:List C)(hj:own[j]? =some (.box cs))(hi:cs[i]? =some (.aL []))
 (h:AW P N c Q ⟨tm,(own.set j (.box (cs.set i (.bK (0,own.length) [])))++[.tok aO []])::Ω⟩):AW P N c Q ⟨tm,own::Ω⟩:=
 kW h (Cn none j i aO [] cs hj hi (by simp))
def D6(x y:D):Prop:=∀w σ v,bU w σ x v→bU w σ y v
theorem D6.refl(x:D):D6 x x:=fun _ _ _ h=>h
theorem Z5(d:D)(n:Nat):D6 (kL d n) d:=fun w σ v h=>Xv d n v h
inductive jq:List D→List D→Prop
 |nil:jq [] []
 |cons {x y:D} {xs ys:List D}:D6 x y→jq xs ys→jq (x::xs) (y::ys)
theorem jq.refl:∀r,jq r r
 |[]=>.nil
 |x::xs=>.cons (.refl x) (jq.refl xs)
theorem jq.length:∀{r r':List D},jq r r'→r.length=r'.length
 |_,_,.nil=>rfl
 |_,_,.cons _ h=>by rw[List.length_cons,List.length_cons,h.length]
theorem jq.at:∀{r r':List D},jq r r'→∀(j:Nat) (y:D),r'[j]? =some y→∃x,r[j]? =some x∧D6 x y
 |_,_,.nil,j,y,h=>by simp at h
 |_,_,.cons a h,0,y,h2=>by simp at h2;subst h2;exact⟨_,rfl,a⟩
 |_,_,.cons a h,j+1,y,h2=>h.at j y (by simpa using h2)
theorem Jq:∀(r:List D) (n:Nat),jq (dO r n) r
 |[],n=>.nil
 |d::ds,n=>.cons (Z5 d n) (Jq ds _)
theorem jq.append:∀{a a' b b':List D},jq a a'→jq b b'→jq (a++b) (a'++b')
 |_,_,_,_,.nil,h=>h
 |_,_,_,_,.cons x h,k=>.cons x (h.append k)
inductive fP:List (List D)→List (List D)→Prop
 |nil:fP [] []
 |cons {x y:List D} {xs ys:List (List D)}:jq x y→fP xs ys→fP (x::xs) (y::ys)
theorem fP.length:∀{r r':List (List D)},fP r r'→r.length=r'.length
 |_,_,.nil=>rfl
 |_,_,.cons _ h=>by rw[List.length_cons,List.length_cons,h.length]
theorem fP.snoc:∀{a b:List (List D)} {x y:List D},fP a b→jq x y→fP (a++[x]) (b++[y])
 |_,_,_,_,.nil,h=>.cons h .nil
 |_,_,_,_,.cons z h,k=>.cons z (h.snoc k)
theorem fP.rows{z:Nat}:∀{a b:List (List D)},fP a b→(∀r∈b,r.length=z)→∀r∈a,r.length=z
 |_,_,.nil,h,r,hr=>by cases hr
 |_,_,.cons x h,k,r,hr=>by
  rcases List.mem_cons.1 hr with rfl|hr
  ·rw[x.length];exact k _ (by simp)
  ·exact h.rows (fun r hr=>k r (by simp[hr])) r hr
theorem fP.flat:∀{a b:List (List D)},fP a b→jq a.flatten b.flatten
 |_,_,.nil=>.nil
 |_,_,.cons x h=>by rw[List.flatten_cons,List.flatten_cons];exact x.append h.flat
theorem fP.rep{a b:List (List D)}(h:fP a b){w:World}{σ:Nat→Nat}{v:Value}(hr:bU w σ (.sl a) v):bU w σ (.sl b) v:=by
 cases hr with
 |nil ad cap=>
  cases h
  exact .nil ad cap
 |sl b0 off cap aO es vals c t fz hcap hlen hb hσ hc hv=>
  have hl:=h.length
  rw[hl] at hcap hσ hc ⊢
  have hlb:∀e∈b,e.length=aO:=fun e he=>by
   obtain⟨i,hi,rfl⟩:=List.getElem_of_mem he
   have:∀{a b:List (List D)} (h:fP a b) (i:Nat) (hi:i<b.length) (hi':i<a.length),jq a[i] b[i]:=by
    intro a b h
    induction h with
    |nil=>intro i hi;simp at hi
    |cons x h ih=>intro i hi hi';cases i with
     |zero=>exact x
     |succ i=>exact ih i (by simpa using hi) (by simpa using hi')
   have h1:=this h i hi (by omega)
   rw[←h1.length];exact hlen _ (List.getElem_mem _)
  refine .sl b0 off cap aO b vals c t fz hcap hlb hb hσ hc fun j d hd=> ?_
  obtain⟨x,hx,hle⟩:=h.flat.at j d hd
  exact hle w σ _ (hv j x hx)
theorem yU:∀(r:List (List D)) (n:Nat),fP (dZ r n) r
 |[],n=>.nil
 |d::ds,n=>.cons (Jq d n) (yU ds _)
inductive jk:List (Bool×List C)→List (Bool×List C)→Prop
 |nil:jk [] []
 |cons {b:Bool} {cs cs':List C} {xs ys:List (Bool×List C)}:dR cs cs'→jk xs ys→jk ((b,cs)::xs) ((b,cs')::ys)
theorem jk.refl:∀xs,jk xs xs
 |[]=>.nil
 |(b,cs)::xs=>.cons (.refl cs) (jk.refl xs)
theorem jk.length:∀{xs ys:List (Bool×List C)},jk xs ys→xs.length=ys.length
 |_,_,.nil=>rfl
 |_,_,.cons _ h=>by rw[List.length_cons,List.length_cons,h.length]
theorem jk.at:∀{xs ys:List (Bool×List C)},jk xs ys→∀(j:Nat) (y:Bool×List C),ys[j]? =some y→∃cs,xs[j]? =some (y.1,cs)∧dR cs y.2
 |_,_,.nil,j,y,h=>by simp at h
 |_,_,.cons a h,0,y,h2=>by simp at h2;subst h2;exact⟨_,rfl,a⟩
 |_,_,.cons a h,j+1,y,h2=>h.at j y (by simpa using h2)
theorem jk.less{xs ys:List (Bool×List C)}(h:jk xs ys):Less (.dS xs) (.dS ys):=by
 rintro w σ S β v ⟨a,ha,hl,hc⟩
 refine⟨a,ha,h.length.symm.trans hl,fun j y hy=> ?_⟩
 obtain⟨cs,h1,h2⟩:=h.at j y hy
 obtain⟨u,hu,hr⟩:=hc j _ h1
 refine⟨u,hu,?_⟩
 obtain⟨b,cs'⟩:=y
 cases b with
 |true=>
  obtain⟨a',e,hcs⟩:=hr
  exact⟨a',e,h2.aby hcs⟩
 |false=>
  obtain⟨x,e,hx,ho⟩:=hr
  simp only at e h2
  subst e
  cases h2 with
  |cons hxy hn=>
   cases hn
   exact⟨_,rfl,hxy w σ S β u hx,ho⟩
theorem aH.of_le{f:FuncId}{args:List V}{t:V}(h:∀S,bA P f args S fun r S'=>Less r t∧S'=S):aH P f args t:=fun S=>
 ⟨(h S).1,fun w σ β vs hS hv=>((h S).2 w σ β vs hS hv).mono fun e w' ⟨v,r,S',σ',β',h1,h2,h3,h4,h5,h6,h7⟩=>⟨v,t,S',σ',β',h1,h2,h3,h4,h6 _ _ _ _ _ h5,rfl,h7⟩⟩
theorem Ve{cs cs':List C}{xs:List (Bool×List C)}(h:∀w σ S β vs,eF w σ S β cs vs→eF w σ S β cs' vs):Less (.dS ((true,cs)::xs)) (.dS ((true,cs')::xs)):=by
 rintro w σ S β v ⟨a,ha,hl,hc⟩
 obtain⟨u,hu,a',rfl,hcs⟩:=hc 0 _ rfl
 refine⟨a,ha,hl,fun j y hy=> ?_⟩
 cases j with
 |zero=>
  simp at hy;subst hy
  exact⟨_,hu,a',rfl,h _ _ _ _ _ hcs⟩
 |succ j=>exact hc (j+1) y (by simpa using hy)
theorem jl(v:V):Less v v:=fun _ _ _ _ _ h=>h
end
end Go.Ab
namespace Go.Ab
theorem uQ{α:Type}[SizeOf α]:∀(i:Nat) (l:List α),SizeOf.sizeOf (l.drop i)≤SizeOf.sizeOf l
 |0,l=>by simp
 |i+1,[]=>by simp
 |i+1,x::l=>by
  have:=uQ i l
  rw[List.drop_succ_cons];simp only[List.cons.sizeOf_spec];omega
theorem vG(l:List ah)(n i:Nat)(h:l.length≤n):((l.map ah.enc).take n).drop i=(l.drop i).map ah.enc:=by
 rw[List.take_of_length_le (by rw[List.length_map];exact h),List.map_drop]
theorem Yb(l:List ah)(i:Nat):(l.getD i eZ).sz≤dG l:=by
 rw[List.getD_eq_getElem?_getD]
 by_cases h:i<l.length
 ·rw[List.getElem?_eq_getElem h];exact jG (List.getElem_mem h)
 ·rw[List.getElem?_eq_none (by omega)]
  rw[Option.getD_none,jo];simp[eZ,ah.aT,ah.ak,bG]
theorem gu(x:ah):x.ak.length+dG x.ak≤x.sz:=by rw[jo,kY];omega
theorem Av(x:ah):x.aT.length≤x.sz:=by rw[jo];omega
def sJ(x:ah):List D:=[.s x.aT]
def allA(l:List ah):Bool:=l.all fun x=>decide (x.aT≠[])
theorem PO{l:List ah}{i:Nat}(hi:i<l.length)(h:l[i].aT=[]):allA l=false∧iP l=[]:=by
 have:allA l=false:=by
  unfold allA
  rw[List.all_eq_false]
  exact⟨_,List.getElem_mem hi,by simp[h]⟩
 refine⟨this,?_⟩
 unfold iP
 unfold allA at this
 rw[this];rfl
theorem MZ{l:List ah}(h:∀j (hj:j<l.length),l[j].aT≠[]):allA l=true∧(iP l).map encS=l.map sJ:=by
 have:allA l=true:=by
  unfold allA
  rw[List.all_eq_true]
  intro x hx
  obtain⟨j,hj,rfl⟩:=List.getElem_of_mem hx
  exact decide_eq_true (h j hj)
 refine⟨this,?_⟩
 unfold iP
 unfold allA at this
 rw[this,if_pos rfl,List.map_map];rfl
theorem Co{l:List ah}{i:Nat}(hi:i<l.length):(l.take i).map sJ++[[.s l[i].aT]]=(l.take (i+1)).map sJ:=by
 rw[List.take_succ_eq_append_getElem hi,List.map_append];rfl
theorem D7{l:List ah}{i:Nat}:((l.take i).map sJ).length≤i:=by rw[List.length_map];exact List.length_take_le _ _
def lt(l:List aj)(n:Nat):List (List D):=dZ (l.map aj.enc) n
def fD(l:List aj):Nat:=iH (l.map aj.enc)
theorem Z6(x:aj)(n:Nat):dO x.enc n=[.i .i64 x.aG,.s x.fName,.ol n (lt x.fArgs (n+1))]:=by
 rw[aj.aD];simp only[dO,kL,mZ,Nat.add_zero,lt]
theorem Vf(l:List aj)(n:Nat):(lt l n).length=l.length:=by unfold lt;rw[iM,List.length_map]
theorem Z7{l:List aj}{i:Nat}(hi:i<l.length)(n:Nat):lt (l.take i) n++[[.i .i64 l[i].aG,.s l[i].fName,.ol (n+fD (l.take i)) (lt l[i].fArgs (n+fD (l.take i)+1))]]=lt (l.take (i+1)) n:=by
 rw[List.take_succ_eq_append_getElem hi]
 unfold lt fD
 rw[List.map_append,nK]
 simp only[List.map_cons,List.map_nil,dZ,Z6,lt]
theorem Vg{l:List aj}{i:Nat}(hi:i<l.length):(l.take i).map aj.enc++[[.i .i64 l[i].aG,.s l[i].fName,.sl (l[i].fArgs.map aj.enc)]]=(l.take (i+1)).map aj.enc:=by
 rw[List.take_succ_eq_append_getElem hi,List.map_append]
 simp only[List.map_cons,List.map_nil,aj.aD]
theorem Il(k:Int)(s:List UInt8)(n:Nat):Less (.agg [.d (.i .i64 k),.d (.s s),.aL []]) (.agg [.d (.i .i64 k),.d (.s s),.d (.ol n [])]):=(dR.cons (.refl _) (.cons (.refl _) (.cons (eH n) .nil))).less
theorem PS(k:Int)(s:List UInt8)(es:List (List D)):Less (.agg [.d (.i .i64 k),.d (.s s),.aL es]) (.agg [.d (.i .i64 k),.d (.s s),.d (.sl es)]):=(dR.cons (.refl _) (.cons (.refl _) (.cons (fQ es) .nil))).less
theorem abz{s:List UInt8}(h:s≠[]):((s.getD 0 0).toNat:Int)=39↔s.head? =some 39:=by
 cases s with
 |nil=>exact(h rfl).elim
 |cons b s=>
  simp only[List.getD_cons_zero,List.head?_cons,Option.some.injEq]
  constructor
  ·intro e
   have:b.toNat=39:=by omega
   exact UInt8.toNat.inj this
  ·intro e;rw[e];rfl
theorem Gv(s:List UInt8)(n:Nat)(h:s.length≤n):(s.take n).drop 1=s.tail:=by rw[List.take_of_length_le h,List.drop_one]
abbrev aj.vl (t:aj) (n:Nat):V:=.agg [.d (.i .i64 t.aG),.d (.s t.fName),.d (.ol n (lt t.fArgs (n+1)))]
theorem M0(l:List (List UInt8)):iH (l.map encS)=0:=by
 induction l with
 |nil=>rfl
 |cons s l ih=>rw[List.map_cons,iH,ih];rfl
theorem abA{b:Bool}{x:ah}{r:V}{k:Int}{s:List UInt8}{l:List aj}(h:dP b x=.mk k s l)(hl:Less r (.agg [.d (.i .i64 k),.d (.s s),.d (.sl (l.map aj.enc))])):Less r (dP b x).v:=by rw[h];exact hl
theorem YG{b:Bool}{x:ah}{k:Int}{s:List UInt8}(h:dP b x=.mk k s []):Less (.agg [.d (.i .i64 k),.d (.s s),.aL []]) (dP b x).v:=by rw[h];exact PS k s []
theorem YH{b:Bool}{x:ah}{k:Int}{s:List UInt8}(h:dP b x=.mk k s []):Less (.agg [.d (.i .i64 k),.d (.s s),.d (.sl [])]) (dP b x).v:=by rw[h];exact jl _
theorem YI{b:Bool}{x:ah}{r:V}{n:Nat}{k:Int}{s:List UInt8}{l:List aj}(h:dP b x=.mk k s l)(hl:Less r (.agg [.d (.i .i64 k),.d (.s s),.d (.ol n (lt l (n+1)))])):Less r ((dP b x).vl n):=by rw[h];exact hl
theorem Vh{b:Bool}{x:ah}{n:Nat}{k:Int}{s:List UInt8}(h:dP b x=.mk k s []):Less (.agg [.d (.i .i64 k),.d (.s s),.aL []]) ((dP b x).vl n):=by rw[h];exact Il k s n
theorem Vi{b:Bool}{x:ah}{n:Nat}{k:Int}{s:List UInt8}(h:dP b x=.mk k s []):Less (.agg [.d (.i .i64 k),.d (.s s),.d (.ol n [])]) ((dP b x).vl n):=by rw[h];exact jl _
theorem OO{s:List UInt8}(h:1≤s.length):(s.take 1).drop 0=[39]↔s.head? =some 39:=by
 cases s with
 |nil=>simp at h
 |cons b s=>simp
end Go.Ab
namespace Go.Proofs.YtlmhknhlmicmeaaGreatDoor
open Go Go.Ab
theorem Cq(xs:List ah)(hx:xs.length≤1073741824):aH Tryz.prog 215 [.c (.d (.sl (xs.map ah.enc)))] (.dS [(false,[.d (.sl ((iP xs).map encS))]),(false,[.d (.b (allA xs))])]):=aH.of_le fun S=>by
 refine aC (rs:=[.tmp 2,.tmp 3]) Tryz.checked.mixed Tryz.func215 Tryz.ntmps215 rfl rfl rfl rfl rfl ?_
 simp -implicitDefEqProofs (disch:=omega) only[go_sem]
 (repeat(with_reducible refine And.intro ?_ ?_;focus first|omega|rfl|assumption|exact⟨_,rfl,rfl⟩|(simp;omega)|(simp;done)))
 refine uX 4 1 [] rfl (by simp) ?_
 refine aV (ι:=Nat) Tryz.checked.mixed rfl [0,4,5] (fun i=>[.c (.d (.sl (xs.map ah.enc))),.c (.bK (0,0) ((xs.take i).map sJ)),.c (.d (.i .i64 i))]) (fun i=>[.tok 1 ((xs.take i).map sJ)]::S)
  (fun i=>i≤xs.length∧∀j,∀hj:j<xs.length,j<i→xs[j].aT≠[]) (fun i=>xs.length-i) 0 rfl rfl ⟨Nat.zero_le _,fun j _ h=>by omega⟩ ?_
 rintro i ⟨p1,p2⟩
 have hl:=D7 (l:=xs) (i:=i)
 simp -implicitDefEqProofs (disch:=omega) only[go_sem,ah.aD]
 with_reducible refine aA (fun hb=> ?_) (fun hb=> ?_)<;>have h:=hb<;>(try simp only[wf_preprocess] at h)<;>simp -implicitDefEqProofs (disch:=omega) only[go_sem,hb]<;>(repeat(with_reducible refine And.intro ?_ ?_;focus first|omega|rfl|assumption|exact⟨_,rfl,rfl⟩|(simp;omega)|(simp;done)))
 ·have hi':i<xs.length:=by omega
  have hs:=Co hi'
  (repeat(with_reducible refine And.intro ?_ ?_;focus first|omega|rfl|assumption|exact⟨_,rfl,rfl⟩|(simp;omega)|(simp;done)))
  with_reducible refine aA (fun hb=> ?_) (fun hb=> ?_)<;>have h:=hb<;>(try simp only[wf_preprocess] at h)<;>simp -implicitDefEqProofs (disch:=omega) only[go_sem,hb]<;>(repeat(with_reducible refine And.intro ?_ ?_;focus first|omega|rfl|assumption|exact⟨_,rfl,rfl⟩|(simp;omega)|(simp;done)))
  ·obtain⟨e1,e2⟩:=PO hi' h
   rw[e1,e2]
   exact(jk.cons (.cons (fQ _) .nil) (.refl _)).less
  ·(repeat(with_reducible refine And.intro ?_ ?_;focus first|omega|rfl|assumption|exact⟨_,rfl,rfl⟩|(simp;omega)|(simp;done)))
   rw[hs]
   refine bH (i+1) (by omega) rfl rfl ⟨by omega,fun j hj hji=> ?_⟩
   by_cases e':j=i
   ·subst e';exact h
   ·exact p2 j hj (by omega)
 ·have hi':i=xs.length:=by omega
  subst hi'
  obtain⟨e1,e2⟩:=MZ fun j hj=>p2 j hj hj
  rw[e1,e2,List.take_length]
  exact jl _
theorem M4(x:ah)(hx:x.sz≤4194304):aH Tryz.prog 120 [x.v] (.c (.d (.sl ((iP x.ak).map encS)))):=fun S=>by
 have:=gu x
 refine aC (rs:=[.tmp 2]) Tryz.checked.mixed Tryz.func120 Tryz.ntmps120 rfl rfl rfl rfl rfl ?_
 simp -implicitDefEqProofs (disch:=omega) only[go_sem]
 refine ay (Cq x.ak (by omega)) ?_
 simp -implicitDefEqProofs (disch:=omega) only[go_sem]
theorem lJ(x:ah)(i:Nat)(hx:x.sz≤4194304)(hi:i≤100):aH Tryz.prog 119 [x.v,.c (.d (.i .i64 i))] (x.ak.getD i eZ).v:=aH.of_le fun S=>by
 have:=gu x
 refine aC (rs:=[.cell 4 32]) Tryz.checked.mixed Tryz.func119 Tryz.ntmps119 rfl rfl rfl rfl rfl ?_
 simp -implicitDefEqProofs (disch:=omega) only[go_sem]
 with_reducible refine aA (fun hb=> ?_) (fun hb=> ?_)<;>have h:=hb<;>(try simp only[wf_preprocess] at h)<;>simp -implicitDefEqProofs (disch:=omega) only[go_sem,hb]<;>(repeat(with_reducible refine And.intro ?_ ?_;focus first|omega|rfl|assumption|exact⟨_,rfl,rfl⟩|(simp;omega)|(simp;done)))
 ·rw[List.getD_eq_getElem?_getD,List.getElem?_eq_none (by omega)]
  exact(dR.cons (.refl _) (.cons (fQ _) .nil)).less
 ·have hi:i<x.ak.length:=by omega
  rw[List.getD_eq_getElem?_getD,List.getElem?_eq_getElem hi]
  exact jl _
theorem qC(a b:Int):aH Tryz.prog 201 [.c (.d (.i .i64 a)),.c (.d (.i .i64 b))] (.c (.d (.i .i64 (min a b)))):=fun S=>by
 refine aC (rs:=[.tmp 4]) Tryz.checked.mixed Tryz.func201 Tryz.ntmps201 rfl rfl rfl rfl rfl ?_
 simp -implicitDefEqProofs (disch:=omega) only[go_sem]
 with_reducible refine aA (fun hb=> ?_) (fun hb=> ?_)<;>have h:=hb<;>(try simp only[wf_preprocess] at h)<;>simp -implicitDefEqProofs (disch:=omega) only[go_sem,hb]<;>(repeat(with_reducible refine And.intro ?_ ?_;focus first|omega|rfl|assumption|exact⟨_,rfl,rfl⟩|(simp;omega)|(simp;done)))
 ·exact int_eq (by omega)
 ·exact int_eq (by omega)
theorem R8(s:List UInt8):aH Tryz.prog 217 [.c (.d (.s s)),.c (.d (.sl []))] (.agg [.d (.i .i64 2),.d (.s s),.d (.sl [])]):=aH.of_le fun S=>by
 refine aC (rs:=[.cell 4 57]) Tryz.checked.mixed Tryz.func217 Tryz.ntmps217 rfl rfl rfl rfl rfl ?_
 simp -implicitDefEqProofs (disch:=omega) only[go_sem]
 (repeat(with_reducible refine And.intro ?_ ?_;focus first|omega|rfl|assumption|exact⟨_,rfl,rfl⟩|(simp;omega)|(simp;done)))
 exact jl _
theorem R9(s:List UInt8):aH Tryz.prog 216 [.c (.d (.s s))] (.agg [.d (.i .i64 1),.d (.s s),.d (.sl [])]):=aH.of_le fun S=>by
 refine aC (rs:=[.cell 2 57]) Tryz.checked.mixed Tryz.func216 Tryz.ntmps216 rfl rfl rfl rfl rfl ?_
 simp -implicitDefEqProofs (disch:=omega) only[go_sem]
 (repeat(with_reducible refine And.intro ?_ ?_;focus first|omega|rfl|assumption|exact⟨_,rfl,rfl⟩|(simp;omega)|(simp;done)))
 exact PS _ _ _
theorem Bb:∀N:Nat,(∀x:ah,SizeOf.sizeOf x<N→x.sz≤4194304→aH Tryz.prog 122 [x.v] (dP false x).v)
 |0=>fun x h=>by omega
 |N+1=>by
  have ih:=Bb N
  intro x hn hsz
  have iA:=ah.jU x
  have h1:=gu x
  have h2:=Av x
  have hx:=PI false x
  have hall:∀t∈x.ak,t.sz≤4194304:=fun t ht=>by have:=jG ht;omega
  refine aH.of_le fun S=> ?_
  refine aC (rs:=[.cell 2 57]) Tryz.checked.mixed Tryz.func122 Tryz.ntmps122 rfl rfl rfl rfl rfl ?_
  simp -implicitDefEqProofs (disch:=omega) only[go_sem]
  with_reducible refine aA (fun hb=> ?_) (fun hb=> ?_)<;>have h:=hb<;>(try simp only[wf_preprocess] at h)<;>simp -implicitDefEqProofs (disch:=omega) only[go_sem,hb]<;>(repeat(with_reducible refine And.intro ?_ ?_;focus first|omega|rfl|assumption|exact⟨_,rfl,rfl⟩|(simp;omega)|(simp;done)))
  ·have hne:=h
   rw[if_neg h] at hx
   have h39:=abz h
   have hln:0<x.aT.length:=List.length_pos_iff.2 hne
   have hsl:=Gv x.aT x.aT.length (Nat.le_refl _)
   (repeat(with_reducible refine And.intro ?_ ?_;focus first|omega|rfl|assumption|exact⟨_,rfl,rfl⟩|(simp;omega)|(simp;done)))
   with_reducible refine aA (fun hb=> ?_) (fun hb=> ?_)<;>have h:=hb<;>(try simp only[wf_preprocess] at h)<;>simp -implicitDefEqProofs (disch:=omega) only[go_sem,hb]<;>(repeat(with_reducible refine And.intro ?_ ?_;focus first|omega|rfl|assumption|exact⟨_,rfl,rfl⟩|(simp;omega)|(simp;done)))
   ·rw[if_pos (h39.1 h)] at hx
    (repeat(with_reducible refine And.intro ?_ ?_;focus first|omega|rfl|assumption|exact⟨_,rfl,rfl⟩|(simp;omega)|(simp;done)))
    rw[hsl]
    refine ay (R9 _) ?_
    simp -implicitDefEqProofs (disch:=omega) only[go_sem]
    exact YH hx
   ·rw[if_neg (fun e=>h (h39.2 e))] at hx
    refine ay (R8 _) ?_
    simp -implicitDefEqProofs (disch:=omega) only[go_sem]
    exact YH hx
  rw[if_pos h] at hx
  with_reducible refine aA (fun hb=> ?_) (fun hb=> ?_)<;>have h:=hb<;>(try simp only[wf_preprocess] at h)<;>simp -implicitDefEqProofs (disch:=omega) only[go_sem,hb]<;>(repeat(with_reducible refine And.intro ?_ ?_;focus first|omega|rfl|assumption|exact⟨_,rfl,rfl⟩|(simp;omega)|(simp;done)))
  ·rw[if_pos (by omega)] at hx
   exact YG hx
  rw[if_neg (by omega)] at hx
  have hl2:2≤x.ak.length:=by omega
  have a0:=jY (l:=x.ak) (i:=0) (by omega)
  have a1:=jY (l:=x.ak) (i:=1) (by omega)
  obtain⟨T,hT⟩:∃T:Nat→List (List D),T=fun i=>(((x.ak.map (dP false)).drop 1).take i).map aj.enc:=⟨_,rfl⟩
  have hT0:T 0=[]:=by rw[hT];rfl
  have nC:∀i,(T i).length≤i:=fun i=>by rw[hT];simp only[List.length_map];exact List.length_take_le _ _
  have hTr:∀i,∀r∈T i,r.length=3:=fun i=>by
   rw[hT];intro r hr
   obtain⟨z,_,rfl⟩:=List.mem_map.1 hr
   exact z.bC
  have hTs:∀i (hi:i+1<x.ak.length),T i++[[.i .i64 (dP false x.ak[i+1]).aG,.s (dP false x.ak[i+1]).fName,.sl ((dP false x.ak[i+1]).fArgs.map aj.enc)]]=T (i+1):=fun i hi=>by
   have:=Vg (l:=(x.ak.map (dP false)).drop 1) (i:=i) (by rw[List.length_drop,List.length_map];omega)
   rw[List.getElem_drop,List.getElem_map] at this
   rw[hT];simp only[Nat.add_comm 1 i] at this ⊢;exact this
  have hTe:T (x.ak.length-1)=((x.ak.map (dP false)).drop 1).map aj.enc:=by
   rw[hT];simp only
   rw[List.take_of_length_le (by simp)]
  have hTn:(T (x.ak.length-1)).length=x.ak.length-1:=by rw[hTe];simp
  have hTd:(T (x.ak.length-1)).drop 1=((x.ak.map (dP false)).drop 2).map aj.enc:=by rw[hTe,←List.map_drop,List.drop_drop]
  clear hT
  (repeat(with_reducible refine And.intro ?_ ?_;focus first|omega|rfl|assumption|exact⟨_,rfl,rfl⟩|(simp;omega)|(simp;done)))
  refine uX 4 3 [] rfl (by simp) ?_
  refine aV (ι:=Nat) Tryz.checked.mixed rfl [1,2,3,4,5] (fun i=>[.c (.ptr (0,0) 0),.c (.ptr (0,1) 0),.c (.d (.s x.ak[0].aT)),.c (.bK (0,2) (T i)),.c (.d (.i .i64 ((i+1:Nat):Int)))])
   (fun i=>[.box [.d (.s x.aT),.d (.sl (x.ak.map ah.enc))],.box [.d (.i .i64 0),.d (.s []),.aL []],.tok 3 (T i)]::S)
   (fun i=>i+1≤x.ak.length) (fun i=>x.ak.length-(i+1)) 0 (by rw[hT0];rfl) (by rw[hT0];rfl) (by omega) ?_
  intro i hi
  have hl:=nC i
  simp -implicitDefEqProofs (disch:=omega) only[go_sem]
  with_reducible refine aA (fun hb=> ?_) (fun hb=> ?_)<;>have h:=hb<;>(try simp only[wf_preprocess] at h)<;>simp -implicitDefEqProofs (disch:=omega) only[go_sem,hb]<;>(repeat(with_reducible refine And.intro ?_ ?_;focus first|omega|rfl|assumption|exact⟨_,rfl,rfl⟩|(simp;omega)|(simp;done)))
  ·have hi':i+1<x.ak.length:=by omega
   have hm:=List.getElem_mem hi'
   have hs:=hTs i hi'
   (repeat(with_reducible refine And.intro ?_ ?_;focus first|omega|rfl|assumption|exact⟨_,rfl,rfl⟩|(simp;omega)|(simp;done)))
   refine ay (ih x.ak[i+1] (by have:=List.sizeOf_lt_of_mem hm;omega) (hall _ hm)) ?_
   simp -implicitDefEqProofs (disch:=omega) only[go_sem,aj.aD]
   (repeat(with_reducible refine And.intro ?_ ?_;focus first|omega|rfl|assumption|exact⟨_,rfl,rfl⟩|(simp;omega)|(simp;done)))
   rw[hs]
   exact bH (i+1) (by omega) rfl rfl (by omega)
  have hi':i=x.ak.length-1:=by omega
  subst hi'
  have hrows:=hTr (x.ak.length-1)
  have hta:((T (x.ak.length-1)).take (x.ak.length-1))=T (x.ak.length-1):=List.take_of_length_le (by omega)
  rw[a0,a1] at hx
  have tD:x.ak[0].aT=[100,121,110]∧x.ak.length=2∧x.ak[1].aT≠[]→dP false x=.mk 4 x.ak[1].aT []:=fun e=>hx.trans (if_pos ⟨e.1,.inr e.2⟩)
  have tA:x.ak[0].aT=[97,115,115,111,99]∧x.ak.length=3∧x.ak[1].aT≠[]→dP false x=.mk 3 x.ak[1].aT ((x.ak.map (dP false)).drop 2):=fun e=>by
   rw[hx,if_neg (fun e'=>by have:=e'.1.symm.trans e.1;revert this;decide),if_pos ⟨e.1,.inr e.2⟩]
  have tN:¬(x.ak[0].aT=[100,121,110]∧x.ak.length=2∧x.ak[1].aT≠[])→¬(x.ak[0].aT=[97,115,115,111,99]∧x.ak.length=3∧x.ak[1].aT≠[])→dP false x=.mk 2 x.ak[0].aT ((x.ak.map (dP false)).drop 1):=fun e1 e2=>by
   rw[hx,if_neg (fun e'=>e1 ⟨e'.1,e'.2.resolve_left (by decide)⟩),if_neg (fun e'=>e2 ⟨e'.1,e'.2.resolve_left (by decide)⟩)]
  clear hx hTs ih
  repeat' (first|(with_reducible refine aA (fun hb=> ?_) (fun hb=> ?_)<;>have h:=hb<;>(try simp only[wf_preprocess] at h)<;>simp -implicitDefEqProofs (disch:=omega) only[go_sem,hb]<;>(repeat(with_reducible refine And.intro ?_ ?_;focus first|omega|rfl|assumption|exact⟨_,rfl,rfl⟩|(simp;omega)|(simp;done)))))
  all_goals first
   |(refine⟨⟨by omega,by omega,hrows⟩,?_⟩;refine abA (tA ⟨by assumption,by omega,by assumption⟩) ?_;rw[hTn,hta,hTd];exact jl _)
   |exact YG (tD ⟨by assumption,by omega,by assumption⟩)
   |(refine abA (tN (fun⟨a,b,c⟩=>by first|contradiction|omega) (fun⟨a,b,c⟩=>by first|contradiction|omega)) ?_;rw[hTe];exact jl _)
   |trace_state
theorem tH(x:ah)(hsz:x.sz≤4194304):aH Tryz.prog 122 [x.v] (dP false x).v:=Bb _ x (Nat.lt_succ_self _) hsz
theorem Gw(s:List UInt8)(hs:s.length≤1073741824):aH Tryz.prog 332 [.c (.d (.s s)),.c (.d (.s [39]))] (.c (.d (.b (decide (s.head? =some 39))))):=fun S=>by
 refine aC (rs:=[.tmp 4]) Tryz.checked.mixed Tryz.func332 Tryz.ntmps332 rfl rfl rfl rfl rfl ?_
 simp -implicitDefEqProofs (disch:=omega) only[go_sem]
 with_reducible refine aA (fun hb=> ?_) (fun hb=> ?_)<;>have h:=hb<;>(try simp only[wf_preprocess] at h)<;>simp -implicitDefEqProofs (disch:=omega) only[go_sem,hb]<;>(repeat(with_reducible refine And.intro ?_ ?_;focus first|omega|rfl|assumption|exact⟨_,rfl,rfl⟩|(simp;omega)|(simp;done)))
 ·exact aJ (decide_eq_decide.2 (OO (by omega)))
 ·have:s=[]:=List.eq_nil_of_length_eq_zero (by omega)
  subst this
  rfl
theorem Gx(s:List UInt8)(hs:s.length≤1073741824):aH Tryz.prog 289 [.c (.d (.s s)),.c (.d (.s [39]))] (.dS [(false,[.d (.s (if s.head? =some 39 then s.tail else s))]),(false,[.d (.b (decide (s.head? =some 39)))])]):=fun S=>by
 refine aC (rs:=[.tmp 4,.tmp 5]) Tryz.checked.mixed Tryz.func289 Tryz.ntmps289 rfl rfl rfl rfl rfl ?_
 simp -implicitDefEqProofs (disch:=omega) only[go_sem]
 refine ay (Gw s hs) ?_
 simp -implicitDefEqProofs (disch:=omega) only[go_sem]
 with_reducible refine aA (fun hb=> ?_) (fun hb=> ?_)<;>have h:=hb<;>(try simp only[wf_preprocess] at h)<;>simp -implicitDefEqProofs (disch:=omega) only[go_sem,hb]<;>(repeat(with_reducible refine And.intro ?_ ?_;focus first|omega|rfl|assumption|exact⟨_,rfl,rfl⟩|(simp;omega)|(simp;done)))
 ·rw[if_neg h,decide_eq_false h]
 ·have hl:0<s.length:=by
   cases s with
   |nil=>cases h
   |cons _ _=>simp
  (repeat(with_reducible refine And.intro ?_ ?_;focus first|omega|rfl|assumption|exact⟨_,rfl,rfl⟩|(simp;omega)|(simp;done)))
  rw[if_pos h,decide_eq_true h,Gv _ _ (Nat.le_refl _)]
theorem M5(s:List UInt8)(hs:s.length≤1073741824):aH Tryz.prog 219 [.c (.d (.s s)),.c (.d (.s [39]))] (.dS [(false,[.d (.s (if s.head? =some 39 then s.tail else s))]),(false,[.d (.b (decide (s.head? =some 39)))])]):=fun S=>by
 refine aC (rs:=[.tmp 4,.tmp 5]) Tryz.checked.mixed Tryz.func219 Tryz.ntmps219 rfl rfl rfl rfl rfl ?_
 simp -implicitDefEqProofs (disch:=omega) only[go_sem]
 refine ay (Gx s hs) ?_
 simp -implicitDefEqProofs (disch:=omega) only[go_sem]
theorem yF(xs:List ah)(hx:xs.length≤1073741824)(n:Nat):aH Tryz.prog 218 [.c (.d (.sl (xs.map ah.enc)))] (.dS [(false,[.d (.ol n ((iP xs).map encS))]),(false,[.d (.b (allA xs))])]):=aH.of_le fun S=>by
 refine kM (n) (rs:=[.tmp 2,.tmp 3]) Tryz.checked.mixed Tryz.func218 Tryz.ntmps218 rfl rfl rfl rfl rfl ?_
 simp -implicitDefEqProofs (disch:=omega) only[go_sem]
 (repeat(with_reducible refine And.intro ?_ ?_;focus first|omega|rfl|assumption|exact⟨_,rfl,rfl⟩|(simp;omega)|(simp;done)))
 refine oM n 4 1 [] (.inl rfl) (by simp) ?_
 refine aV (ι:=Nat) Tryz.checked.mixed rfl [4,8,9,10] (fun i=>[.c (.bK (0,1) ((xs.take i).map sJ)),.c (.d (.sl (xs.map ah.enc))),.c (.d (.i .i64 xs.length)),.c (.d (.i .i64 i))]) (fun i=>[.seed n,.eu n 1 ((xs.take i).map sJ)]::S)
  (fun i=>i≤xs.length∧∀j,∀hj:j<xs.length,j<i→xs[j].aT≠[]) (fun i=>xs.length-i) 0 rfl rfl ⟨Nat.zero_le _,fun j _ h=>by omega⟩ ?_
 rintro i ⟨p1,p2⟩
 have hl:=D7 (l:=xs) (i:=i)
 simp -implicitDefEqProofs (disch:=omega) only[go_sem,ah.aD]
 with_reducible refine aA (fun hb=> ?_) (fun hb=> ?_)<;>have h:=hb<;>(try simp only[wf_preprocess] at h)<;>simp -implicitDefEqProofs (disch:=omega) only[go_sem,hb]<;>(repeat(with_reducible refine And.intro ?_ ?_;focus first|omega|rfl|assumption|exact⟨_,rfl,rfl⟩|(simp;omega)|(simp;done)))
 ·have hi':i<xs.length:=by omega
  have hs:=Co hi'
  (repeat(with_reducible refine And.intro ?_ ?_;focus first|omega|rfl|assumption|exact⟨_,rfl,rfl⟩|(simp;omega)|(simp;done)))
  with_reducible refine aA (fun hb=> ?_) (fun hb=> ?_)<;>have h:=hb<;>(try simp only[wf_preprocess] at h)<;>simp -implicitDefEqProofs (disch:=omega) only[go_sem,hb]<;>(repeat(with_reducible refine And.intro ?_ ?_;focus first|omega|rfl|assumption|exact⟨_,rfl,rfl⟩|(simp;omega)|(simp;done)))
  ·obtain⟨e1,e2⟩:=PO hi' h
   rw[e1,e2]
   exact(jk.cons (.cons (eH n) .nil) (.refl _)).less
  ·(repeat(with_reducible refine And.intro ?_ ?_;focus first|omega|rfl|assumption|exact⟨_,rfl,rfl⟩|(simp;omega)|(simp;done)))
   rw[hs]
   refine dV 2 (by decide) (i+1) (by omega) rfl rfl rfl rfl ⟨by omega,fun j hj hji=> ?_⟩
   by_cases e':j=i
   ·subst e';exact h
   ·exact p2 j hj (by omega)
 ·have hi':i=xs.length:=by omega
  subst hi'
  obtain⟨e1,e2⟩:=MZ fun j hj=>p2 j hj hj
  rw[e1,e2,List.take_length]
  exact jl _
theorem J7(x:ah)(hx:x.sz≤4194304)(n:Nat):aH Tryz.prog 124 [x.v] (.c (.d (.ol n ((iP x.ak).map encS)))):=fun S=>by
 have:=gu x
 refine aC (rs:=[.tmp 2]) Tryz.checked.mixed Tryz.func124 Tryz.ntmps124 rfl rfl rfl rfl rfl ?_
 simp -implicitDefEqProofs (disch:=omega) only[go_sem]
 refine ay (yF x.ak (by omega) n) ?_
 simp -implicitDefEqProofs (disch:=omega) only[go_sem]
theorem OP(s:List UInt8)(n:Nat):aH Tryz.prog 220 [.c (.d (.s s))] (.agg [.d (.i .i64 1),.d (.s s),.d (.ol n [])]):=aH.of_le fun S=>by
 refine aC (rs:=[.cell 2 57]) Tryz.checked.mixed Tryz.func220 Tryz.ntmps220 rfl rfl rfl rfl rfl ?_
 simp -implicitDefEqProofs (disch:=omega) only[go_sem]
 (repeat(with_reducible refine And.intro ?_ ?_;focus first|omega|rfl|assumption|exact⟨_,rfl,rfl⟩|(simp;omega)|(simp;done)))
 exact Il _ _ _
theorem OQ(s:List UInt8)(n:Nat):aH Tryz.prog 221 [.c (.d (.s s))] (.agg [.d (.i .i64 4),.d (.s s),.d (.ol n [])]):=aH.of_le fun S=>by
 refine aC (rs:=[.cell 2 57]) Tryz.checked.mixed Tryz.func221 Tryz.ntmps221 rfl rfl rfl rfl rfl ?_
 simp -implicitDefEqProofs (disch:=omega) only[go_sem]
 (repeat(with_reducible refine And.intro ?_ ?_;focus first|omega|rfl|assumption|exact⟨_,rfl,rfl⟩|(simp;omega)|(simp;done)))
 exact Il _ _ _
theorem Bc:∀N:Nat,(∀x:ah,SizeOf.sizeOf x<N→∀n:Nat,x.sz≤4194304→aH Tryz.prog 126 [x.v] ((dP true x).vl n))∧
 (∀xs:List ah,SizeOf.sizeOf xs<N→∀n q:Nat,xs.length≤4194304→(∀t∈xs,t.sz≤4194304)→aH Tryz.prog 222 [.c (.d (.sl (xs.map ah.enc)))] (.c (.d (.ol n (lt (xs.map (dP true)) q)))))
 |0=>⟨fun x h=>by omega,fun x h=>by omega⟩
 |N+1=>by
  obtain⟨ih,l9⟩:=Bc N
  refine⟨fun x hn n hsz=>aH.of_le fun S=> ?_,fun xs hn n q hlen hsz S=> ?_⟩
  ·have iA:=ah.jU x
   have h1:=gu x
   have h2:=Av x
   have hx:=PI true x
   have hall:∀t∈x.ak,t.sz≤4194304:=fun t ht=>by have:=jG ht;omega
   refine aC (rs:=[.cell 2 57]) Tryz.checked.mixed Tryz.func126 Tryz.ntmps126 rfl rfl rfl rfl rfl ?_
   simp -implicitDefEqProofs (disch:=omega) only[go_sem]
   with_reducible refine aA (fun hb=> ?_) (fun hb=> ?_)<;>have h:=hb<;>(try simp only[wf_preprocess] at h)<;>simp -implicitDefEqProofs (disch:=omega) only[go_sem,hb]<;>(repeat(with_reducible refine And.intro ?_ ?_;focus first|omega|rfl|assumption|exact⟨_,rfl,rfl⟩|(simp;omega)|(simp;done)))
   ·rw[if_neg h] at hx
    refine ay (M5 x.aT (by omega)) ?_
    simp -implicitDefEqProofs (disch:=omega) only[go_sem]
    with_reducible refine aA (fun hb=> ?_) (fun hb=> ?_)<;>have h:=hb<;>(try simp only[wf_preprocess] at h)<;>simp -implicitDefEqProofs (disch:=omega) only[go_sem,hb]<;>(repeat(with_reducible refine And.intro ?_ ?_;focus first|omega|rfl|assumption|exact⟨_,rfl,rfl⟩|(simp;omega)|(simp;done)))
    ·rw[if_pos h] at hx ⊢
     refine ay (OP _ n) ?_
     simp -implicitDefEqProofs (disch:=omega) only[go_sem]
     exact Vi hx
    ·rw[if_neg h] at hx
     (repeat(with_reducible refine And.intro ?_ ?_;focus first|omega|rfl|assumption|exact⟨_,rfl,rfl⟩|(simp;omega)|(simp;done)))
     exact Vh hx
   rw[if_pos h] at hx
   with_reducible refine aA (fun hb=> ?_) (fun hb=> ?_)<;>have h:=hb<;>(try simp only[wf_preprocess] at h)<;>simp -implicitDefEqProofs (disch:=omega) only[go_sem,hb]<;>(repeat(with_reducible refine And.intro ?_ ?_;focus first|omega|rfl|assumption|exact⟨_,rfl,rfl⟩|(simp;omega)|(simp;done)))
   ·rw[if_pos (by omega)] at hx
    exact Vh hx
   rw[if_neg (by omega)] at hx
   have hl2:2≤x.ak.length:=by omega
   have a0:=jY (l:=x.ak) (i:=0) (by omega)
   have a1:=jY (l:=x.ak) (i:=1) (by omega)
   rw[a0,a1] at hx
   have hr:=jX (l:=x.ak)
   have hd:=fun i=>vG x.ak x.ak.length i (Nat.le_refl _)
   have hso:=fun i=>uQ i x.ak
   have hdl:∀i,(x.ak.drop i).length≤4194304:=fun i=>by rw[List.length_drop];omega
   have hda:∀i,∀t∈x.ak.drop i,t.sz≤4194304:=fun i t ht=>hall t (List.mem_of_mem_drop ht)
   (repeat(with_reducible refine And.intro ?_ ?_;focus first|omega|rfl|assumption|exact⟨_,rfl,rfl⟩|(simp;omega)|(simp;done)))
   with_reducible refine aA (fun hb=> ?_) (fun hb=> ?_)<;>have h:=hb<;>(try simp only[wf_preprocess] at h)<;>simp -implicitDefEqProofs (disch:=omega) only[go_sem,hb]<;>(repeat(with_reducible refine And.intro ?_ ?_;focus first|omega|rfl|assumption|exact⟨_,rfl,rfl⟩|(simp;omega)|(simp;done)))
   ·have hx:=hx.trans (if_pos ⟨h,.inl rfl⟩)
    (repeat(with_reducible refine And.intro ?_ ?_;focus first|omega|rfl|assumption|exact⟨_,rfl,rfl⟩|(simp;omega)|(simp;done)))
    refine ay (OQ _ n) ?_
    simp -implicitDefEqProofs (disch:=omega) only[go_sem]
    exact Vi hx
   have hx:=hx.trans (if_neg fun e=>h e.1)
   with_reducible refine aA (fun hb=> ?_) (fun hb=> ?_)<;>have h:=hb<;>(try simp only[wf_preprocess] at h)<;>simp -implicitDefEqProofs (disch:=omega) only[go_sem,hb]<;>(repeat(with_reducible refine And.intro ?_ ?_;focus first|omega|rfl|assumption|exact⟨_,rfl,rfl⟩|(simp;omega)|(simp;done)))
   ·have hx:=hx.trans (if_pos ⟨h,.inl rfl⟩)
    refine⟨⟨by omega,by omega,hr⟩,?_⟩
    rw[hd]
    refine ay (l9 (x.ak.drop 2) (by have:=hso 2;omega) n (n+1) (hdl 2) (hda 2)) ?_
    simp -implicitDefEqProofs (disch:=omega) only[go_sem]
    refine YI hx ?_
    rw[List.map_drop]
    exact jl _
   ·have hx:=hx.trans (if_neg fun e=>h e.1)
    refine⟨⟨by omega,by omega,hr⟩,?_⟩
    rw[hd]
    refine ay (l9 (x.ak.drop 1) (by have:=hso 1;omega) n (n+1) (hdl 1) (hda 1)) ?_
    simp -implicitDefEqProofs (disch:=omega) only[go_sem]
    refine YI hx ?_
    rw[List.map_drop]
    exact jl _
  ·have wG:=fun(i:Nat) (hi:i<xs.length)=>Z7 (l:=xs.map (dP true)) (i:=i) (by rw[List.length_map];exact hi) q
   refine kM (n) (rs:=[.tmp 2]) Tryz.checked.mixed Tryz.func222 Tryz.ntmps222 rfl rfl rfl rfl rfl ?_
   simp -implicitDefEqProofs (disch:=omega) only[go_sem]
   (repeat(with_reducible refine And.intro ?_ ?_;focus first|omega|rfl|assumption|exact⟨_,rfl,rfl⟩|(simp;omega)|(simp;done)))
   refine oM n 3 3 [] (.inl rfl) (by simp) ?_
   refine aV (ι:=Nat) Tryz.checked.mixed rfl [3,7,8,9] (fun i=>[.c (.bK (0,1) (lt ((xs.map (dP true)).take i) q)),.c (.d (.sl (xs.map ah.enc))),.c (.d (.i .i64 xs.length)),.c (.d (.i .i64 i))]) (fun i=>[.seed n,.eu n 3 (lt ((xs.map (dP true)).take i) q)]::S)
    (fun i=>i≤xs.length) (fun i=>xs.length-i) 0 rfl rfl (Nat.zero_le _) ?_
   intro i hi
   simp -implicitDefEqProofs (disch:=omega) only[go_sem,ah.aD]
   with_reducible refine aA (fun hb=> ?_) (fun hb=> ?_)<;>have h:=hb<;>(try simp only[wf_preprocess] at h)<;>simp -implicitDefEqProofs (disch:=omega) only[go_sem,hb]<;>(repeat(with_reducible refine And.intro ?_ ?_;focus first|omega|rfl|assumption|exact⟨_,rfl,rfl⟩|(simp;omega)|(simp;done)))
   ·have hi':i<xs.length:=by omega
    have hs:=wG i hi'
    rw[List.getElem_map] at hs
    have hl:(lt ((xs.map (dP true)).take i) q).length≤i:=by rw[Vf];exact List.length_take_le _ _
    (repeat(with_reducible refine And.intro ?_ ?_;focus first|omega|rfl|assumption|exact⟨_,rfl,rfl⟩|(simp;omega)|(simp;done)))
    refine ay (ih xs[i] (by have:=List.sizeOf_lt_of_mem (List.getElem_mem hi');omega) (q+fD ((xs.map (dP true)).take i)) (hsz _ (List.getElem_mem hi'))) ?_
    simp -implicitDefEqProofs (disch:=omega) only[go_sem]
    (repeat(with_reducible refine And.intro ?_ ?_;focus first|omega|rfl|assumption|exact⟨_,rfl,rfl⟩|(simp;omega)|(simp;done)))
    rw[hs]
    exact dV 2 (by decide) (i+1) (by omega) rfl rfl rfl rfl (by omega)
   ·have hi':i=(xs.map (dP true)).length:=by rw[List.length_map];omega
    rw[hi',List.take_length]
theorem q8(x:ah)(n:Nat)(hsz:x.sz≤4194304):aH Tryz.prog 126 [x.v] ((dP true x).vl n):=(Bc _).1 x (Nat.lt_succ_self _) n hsz
theorem Sb(x:ah)(s:List UInt8)(k:Nat)(hk:1≤k)(hk2:k≤100)(hsz:x.sz≤4194304):aH Tryz.prog 123 [x.v,.c (.d (.s s)),.c (.d (.i .i64 k))] (.c (.d (.b (dec (iL x=true∧k≤x.ak.length∧bY x.ak 0=s))))):=fun S=>by
 have h1:=gu x
 obtain⟨t,ht⟩:∃t,t=dec (iL x=true∧k≤x.ak.length∧bY x.ak 0=s):=⟨_,rfl⟩
 rw[←ht]
 refine aC (rs:=[.tmp 6]) Tryz.checked.mixed Tryz.func123 Tryz.ntmps123 rfl rfl rfl rfl rfl ?_
 simp -implicitDefEqProofs (disch:=omega) only[go_sem]
 refine ay (J4 x (by omega)) ?_
 simp -implicitDefEqProofs (disch:=omega) only[go_sem]
 with_reducible refine aA (fun hb=> ?_) (fun hb=> ?_)<;>have h:=hb<;>(try simp only[wf_preprocess] at h)<;>simp -implicitDefEqProofs (disch:=omega) only[go_sem,hb]<;>(repeat(with_reducible refine And.intro ?_ ?_;focus first|omega|rfl|assumption|exact⟨_,rfl,rfl⟩|(simp;omega)|(simp;done)))
 ·have hv:=h
  with_reducible refine aA (fun hb=> ?_) (fun hb=> ?_)<;>have h:=hb<;>(try simp only[wf_preprocess] at h)<;>simp -implicitDefEqProofs (disch:=omega) only[go_sem,hb]<;>(repeat(with_reducible refine And.intro ?_ ?_;focus first|omega|rfl|assumption|exact⟨_,rfl,rfl⟩|(simp;omega)|(simp;done)))
  ·have hl:0<x.ak.length:=by omega
   have hl2:k≤x.ak.length:=by omega
   have a0:=jY hl
   (repeat(with_reducible refine And.intro ?_ ?_;focus first|omega|rfl|assumption|exact⟨_,rfl,rfl⟩|(simp;omega)|(simp;done)))
   refine aJ ?_
   rw[j6,ht]
   exact kF ⟨fun e=>⟨hv,hl2,by rw[a0];exact e⟩,fun e=>by rw[←a0];exact e.2.2⟩
  ·exact aJ (ht.trans (aQ fun e=>by omega)).symm
 ·exact aJ (ht.trans (aQ fun e=>by rw[e.1] at h;cases h)).symm
end Go.Proofs.YtlmhknhlmicmeaaGreatDoor
namespace Go.Ab
theorem kU(b:Bool)(x:ah):dz b x=if x.aT=[] then
 if b=true∧(x.ak.length<2∨bY x.ak 0=fK∧x.ak.length<3) then qB
 else if bY x.ak 0=kr then .mk 4 [] (bY x.ak 1) 0 gK ((x.ak.map (dz b)).drop 2) []
 else if bY x.ak 0=ni then .mk 6 [] (bY x.ak 1) 0 gK ((x.ak.map (dz b)).drop 2) []
 else if bY x.ak 0=nk then .mk 8 [] (bY x.ak 1) 0 gK ((x.ak.map (dz b)).drop 2) []
 else if bY x.ak 0=ku then .mk 11 (bY x.ak 1) [] 0 gK ((x.ak.map (dz b)).drop 2) []
 else if bY x.ak 0=fK then .mk 5 (bY x.ak 1) (bY x.ak 2) 0 gK ((x.ak.map (dz b)).drop 3) []
 else if bY x.ak 0=qX then .mk 9 [] [] 0 gK ((x.ak.map (dz b)).drop 1) []
 else if bY x.ak 0=nN then .mk 12 [] [] 0 (dP b (x.ak.getD 1 eZ)) ((x.ak.map (dz b)).drop 2) []
 else if bY x.ak 0=gT then .mk 7 [] [] 0 gK (((x.ak.map (dz b)).drop 1).take 1) ((x.ak.map (l5 b)).drop 2)
 else .mk 10 [] (bY x.ak 0) 0 gK ((x.ak.map (dz b)).drop 1) []
 else match eY x.aT with
  |some n=>.mk 1 [] [] n gK [] []
  |none=>if x.aT=uP then .mk 2 [] [] 1 gK [] [] else if x.aT=tC then .mk 2 [] [] 0 gK [] [] else .mk 3 [] x.aT 0 gK [] []:=by
 cases x;rw[dz,vC,yC];rfl
theorem PU(b:Bool)(x:ah)(h:2≤x.ak.length):l5 b x=.mk (bY x.ak 0) (iP ((x.ak.drop 1).dropLast)) (dz b (x.ak[x.ak.length-1]'(by omega))):=by
 obtain⟨a,l⟩:=x
 simp only[ah.ak] at h ⊢
 rw[l5,if_neg (by omega),vC]
 congr 1
 rw[List.getLastD_eq_getLast?,List.getLast?_eq_getElem?,List.length_map,List.getElem?_eq_getElem (by rw[List.length_map];omega)]
 simp
theorem PV(b:Bool)(x:ah)(h:x.ak.length<2):l5 b x=.mk [] [] qB:=by
 obtain⟨a,l⟩:=x
 rw[l5]
 exact if_pos h
def q9(b:Bool)(l:List ah):Prop:=¬(b=true∧(l.length<2∨bY l 0=fK∧l.length<3))
theorem Jr{b:Bool}{x:ah}(ha:x.aT=[])(hg:q9 b x.ak)(h:bY x.ak 0=kr):dz b x=.mk 4 [] (bY x.ak 1) 0 gK ((x.ak.drop 2).map (dz b)) []:=by
 rw[kU,if_pos ha,if_neg hg,if_pos h]
 simp only[List.map_drop,List.map_take]
theorem M6{b:Bool}{x:ah}(ha:x.aT=[])(hg:q9 b x.ak)(h:bY x.ak 0=ni):dz b x=.mk 6 [] (bY x.ak 1) 0 gK ((x.ak.drop 2).map (dz b)) []:=by
 rw[kU,if_pos ha,if_neg hg,if_neg (by rw[h];decide),if_pos h]
 simp only[List.map_drop,List.map_take]
theorem M7{b:Bool}{x:ah}(ha:x.aT=[])(hg:q9 b x.ak)(h:bY x.ak 0=nk):dz b x=.mk 8 [] (bY x.ak 1) 0 gK ((x.ak.drop 2).map (dz b)) []:=by
 rw[kU,if_pos ha,if_neg hg,if_neg (by rw[h];decide),if_neg (by rw[h];decide),if_pos h]
 simp only[List.map_drop,List.map_take]
theorem Js{b:Bool}{x:ah}(ha:x.aT=[])(hg:q9 b x.ak)(h:bY x.ak 0=ku):dz b x=.mk 11 (bY x.ak 1) [] 0 gK ((x.ak.drop 2).map (dz b)) []:=by
 rw[kU,if_pos ha,if_neg hg,if_neg (by rw[h];decide),if_neg (by rw[h];decide),if_neg (by rw[h];decide),if_pos h]
 simp only[List.map_drop,List.map_take]
theorem D8{b:Bool}{x:ah}(ha:x.aT=[])(hg:q9 b x.ak)(h:bY x.ak 0=fK):dz b x=.mk 5 (bY x.ak 1) (bY x.ak 2) 0 gK ((x.ak.drop 3).map (dz b)) []:=by
 rw[kU,if_pos ha,if_neg hg,if_neg (by rw[h];decide),if_neg (by rw[h];decide),if_neg (by rw[h];decide),if_neg (by rw[h];decide),if_pos h]
 simp only[List.map_drop,List.map_take]
theorem PW{b:Bool}{x:ah}(ha:x.aT=[])(hg:q9 b x.ak)(h:bY x.ak 0=qX):dz b x=.mk 9 [] [] 0 gK ((x.ak.drop 1).map (dz b)) []:=by
 rw[kU,if_pos ha,if_neg hg,if_neg (by rw[h];decide),if_neg (by rw[h];decide),if_neg (by rw[h];decide),if_neg (by rw[h];decide),if_neg (by rw[h];decide),if_pos h]
 simp only[List.map_drop,List.map_take]
theorem M8{b:Bool}{x:ah}(ha:x.aT=[])(hg:q9 b x.ak)(h:bY x.ak 0=nN):dz b x=.mk 12 [] [] 0 (dP b (x.ak.getD 1 eZ)) ((x.ak.drop 2).map (dz b)) []:=by
 rw[kU,if_pos ha,if_neg hg,if_neg (by rw[h];decide),if_neg (by rw[h];decide),if_neg (by rw[h];decide),if_neg (by rw[h];decide),if_neg (by rw[h];decide),if_neg (by rw[h];decide),if_pos h]
 simp only[List.map_drop,List.map_take]
theorem Jt{b:Bool}{x:ah}(ha:x.aT=[])(hg:q9 b x.ak)(h:bY x.ak 0=gT):dz b x=.mk 7 [] [] 0 gK (((x.ak.drop 1).take 1).map (dz b)) ((x.ak.drop 2).map (l5 b)):=by
 rw[kU,if_pos ha,if_neg hg,if_neg (by rw[h];decide),if_neg (by rw[h];decide),if_neg (by rw[h];decide),if_neg (by rw[h];decide),if_neg (by rw[h];decide),if_neg (by rw[h];decide),if_neg (by rw[h];decide),if_pos h]
 simp only[List.map_drop,List.map_take]
theorem Ju{b:Bool}{x:ah}(ha:x.aT=[])(hg:q9 b x.ak)(h0:bY x.ak 0≠kr)(h1:bY x.ak 0≠ni)(h2:bY x.ak 0≠nk)(h3:bY x.ak 0≠ku)(h4:bY x.ak 0≠fK)(h5:bY x.ak 0≠qX)(h6:bY x.ak 0≠nN)(h7:bY x.ak 0≠gT):dz b x=.mk 10 [] (bY x.ak 0) 0 gK ((x.ak.drop 1).map (dz b)) []:=by
 rw[kU,if_pos ha,if_neg hg,if_neg h0,if_neg h1,if_neg h2,if_neg h3,if_neg h4,if_neg h5,if_neg h6,if_neg h7]
 simp only[List.map_drop,List.map_take]
theorem Jv{x:ah}(ha:x.aT=[])(hg:¬q9 true x.ak):dz true x=qB:=by
 rw[kU,if_pos ha,if_pos (Decidable.not_not.1 hg)]
theorem M9{b:Bool}{x:ah}{n:Int}(ha:x.aT≠[])(h:eY x.aT=some n):dz b x=.mk 1 [] [] n gK [] []:=by
 rw[kU,if_neg ha,h]
theorem Jw{b:Bool}{x:ah}(ha:x.aT≠[])(h:eY x.aT=none)(h1:x.aT=uP):dz b x=.mk 2 [] [] 1 gK [] []:=by
 rw[kU,if_neg ha,h];exact if_pos h1
theorem Gy{b:Bool}{x:ah}(ha:x.aT≠[])(h:eY x.aT=none)(h1:x.aT≠uP)(h2:x.aT=tC):dz b x=.mk 2 [] [] 0 gK [] []:=by
 rw[kU,if_neg ha,h];exact(if_neg h1).trans (if_pos h2)
theorem Na{b:Bool}{x:ah}(ha:x.aT≠[])(h:eY x.aT=none)(h1:x.aT≠uP)(h2:x.aT≠tC):dz b x=.mk 3 [] x.aT 0 gK [] []:=by
 rw[kU,if_neg ha,h];exact(if_neg h1).trans (if_neg h2)
def lE(l:List au)(n:Nat):List (List D):=dZ (l.map au.enc) n
def jN(l:List au):Nat:=iH (l.map au.enc)
def lM(l:List aF)(n:Nat):List (List D):=dZ (l.map aF.enc) n
def Sc(l:List aF):Nat:=iH (l.map aF.enc)
abbrev au.vl (x:au) (n:Nat):V:=.agg [.d (.i .i64 x.aG),.d (.s x.aY),.d (.s x.fName),.d (.i .i64 x.fN),.d (.i .i64 x.fType.aG),.d (.s x.fType.fName),.d (.ol n (lt x.fType.fArgs (n+1))),
 .d (.ol (n+(fD x.fType.fArgs+1)) (lE x.fArgs (n+(fD x.fType.fArgs+1)+1))),.d (.ol (n+(fD x.fType.fArgs+1)+(jN x.fArgs+1)) (lM x.aI (n+(fD x.fType.fArgs+1)+(jN x.fArgs+1)+1)))]
theorem Nb(x:au)(n:Nat):dO x.enc n=[.i .i64 x.aG,.s x.aY,.s x.fName,.i .i64 x.fN,.i .i64 x.fType.aG,.s x.fType.fName,.ol n (lt x.fType.fArgs (n+1)),
 .ol (n+(fD x.fType.fArgs+1)) (lE x.fArgs (n+(fD x.fType.fArgs+1)+1)),.ol (n+(fD x.fType.fArgs+1)+(jN x.fArgs+1)) (lM x.aI (n+(fD x.fType.fArgs+1)+(jN x.fArgs+1)+1))]:=by
 simp only[au.aD,aj.aD,List.cons_append,List.nil_append,dO,kL,mZ,Nat.add_zero,lt,lE,lM,fD,jN]
theorem Yc(x:aF)(n:Nat):dO x.enc n=[.s x.bL,.ol n (x.aK.map encS)]++dO x.fBody.enc (n+1):=by
 rw[aF.aD,DF]
 simp only[dO,kL,nJ,mZ,Nat.add_zero,Ep,M0,Nat.zero_add]
abbrev aF.vl (x:aF) (n:Nat):V:=.agg [.d (.s x.bL),.d (.ol n (x.aK.map encS)),.d (.i .i64 x.fBody.aG),.d (.s x.fBody.aY),.d (.s x.fBody.fName),.d (.i .i64 x.fBody.fN),.d (.i .i64 x.fBody.fType.aG),.d (.s x.fBody.fType.fName),.d (.ol (n+1) (lt x.fBody.fType.fArgs (n+1+1))),
 .d (.ol (n+1+(fD x.fBody.fType.fArgs+1)) (lE x.fBody.fArgs (n+1+(fD x.fBody.fType.fArgs+1)+1))),.d (.ol (n+1+(fD x.fBody.fType.fArgs+1)+(jN x.fBody.fArgs+1)) (lM x.fBody.aI (n+1+(fD x.fBody.fType.fArgs+1)+(jN x.fBody.fArgs+1)+1)))]
theorem Vj(l:List au)(n:Nat):(lE l n).length=l.length:=by unfold lE;rw[iM,List.length_map]
theorem Vk(l:List aF)(n:Nat):(lM l n).length=l.length:=by unfold lM;rw[iM,List.length_map]
theorem Z8{l:List au}{i:Nat}(hi:i<l.length)(n:Nat):lE (l.take i) n++[dO l[i].enc (n+jN (l.take i))]=lE (l.take (i+1)) n:=by
 rw[List.take_succ_eq_append_getElem hi]
 unfold lE jN
 rw[List.map_append,nK];rfl
theorem Z9{l:List aF}{i:Nat}(hi:i<l.length)(n:Nat):lM (l.take i) n++[dO l[i].enc (n+Sc (l.take i))]=lM (l.take (i+1)) n:=by
 rw[List.take_succ_eq_append_getElem hi]
 unfold lM Sc
 rw[List.map_append,nK];rfl
theorem Vl{l:List au}{i:Nat}(hi:i<l.length):(l.take i).map au.enc++[l[i].enc]=(l.take (i+1)).map au.enc:=by
 rw[List.take_succ_eq_append_getElem hi,List.map_append];rfl
theorem Vm{l:List aF}{i:Nat}(hi:i<l.length):(l.take i).map aF.enc++[l[i].enc]=(l.take (i+1)).map aF.enc:=by
 rw[List.take_succ_eq_append_getElem hi,List.map_append];rfl
theorem PX{x:au}{n:Nat}{k N:Int}{tr nm:List UInt8}(h:x=.mk k tr nm N gK [] []):Less (.agg [.d (.i .i64 k),.d (.s tr),.d (.s nm),.d (.i .i64 N),.d (.i .i64 0),.d (.s []),.aL [],.aL [],.aL []]) (x.vl n):=by
 rw[h]
 exact(dR.cons (.refl _) (.cons (.refl _) (.cons (.refl _) (.cons (.refl _) (.cons (.refl _) (.cons (.refl _) (.cons (eH _) (.cons (eH _) (.cons (eH _) .nil))))))))).less
theorem Nc{x:au}{n:Nat}{k N:Int}{tr nm:List UInt8}{args:List au}(h:x=.mk k tr nm N gK args []):Less (.agg [.d (.i .i64 k),.d (.s tr),.d (.s nm),.d (.i .i64 N),.d (.i .i64 0),.d (.s []),.aL [],.d (.ol (n+1) (lE args (n+1+1))),.aL []]) (x.vl n):=by
 rw[h]
 exact(dR.cons (.refl _) (.cons (.refl _) (.cons (.refl _) (.cons (.refl _) (.cons (.refl _) (.cons (.refl _) (.cons (eH _) (.cons (.refl _) (.cons (eH _) .nil))))))))).less
theorem ie2{x:au}{n:Nat}{k N:Int}{tr nm:List UInt8}{ty:aj}{args:List au}(h:x=.mk k tr nm N ty args []):Less (.agg [.d (.i .i64 k),.d (.s tr),.d (.s nm),.d (.i .i64 N),.d (.i .i64 ty.aG),.d (.s ty.fName),.d (.ol n (lt ty.fArgs (n+1))),.d (.ol (n+(fD ty.fArgs+1)) (lE args (n+(fD ty.fArgs+1)+1))),.aL []]) (x.vl n):=by
 rw[h]
 exact(dR.cons (.refl _) (.cons (.refl _) (.cons (.refl _) (.cons (.refl _) (.cons (.refl _) (.cons (.refl _) (.cons (.refl _) (.cons (.refl _) (.cons (eH _) .nil))))))))).less
theorem ie3{x:au}{n:Nat}{k N:Int}{tr nm:List UInt8}{args:List au}{arms:List aF}(h:x=.mk k tr nm N gK args arms):Less (.agg [.d (.i .i64 k),.d (.s tr),.d (.s nm),.d (.i .i64 N),.d (.i .i64 0),.d (.s []),.aL [],.d (.ol (n+1) (lE args (n+1+1))),.d (.ol (n+1+(jN args+1)) (lM arms (n+1+(jN args+1)+1)))]) (x.vl n):=by
 rw[h]
 exact(dR.cons (.refl _) (.cons (.refl _) (.cons (.refl _) (.cons (.refl _) (.cons (.refl _) (.cons (.refl _) (.cons (eH _) (.cons (.refl _) (.cons (.refl _) .nil))))))))).less
theorem YJ{x:au}{k N:Int}{tr nm:List UInt8}(h:x=.mk k tr nm N gK [] []):Less (.agg [.d (.i .i64 k),.d (.s tr),.d (.s nm),.d (.i .i64 N),.d (.i .i64 0),.d (.s []),.aL [],.aL [],.aL []]) x.v:=by
 rw[h]
 exact(dR.cons (.refl _) (.cons (.refl _) (.cons (.refl _) (.cons (.refl _) (.cons (.refl _) (.cons (.refl _) (.cons (fQ _) (.cons (fQ _) (.cons (fQ _) .nil))))))))).less
theorem Nf{x:au}{k N:Int}{tr nm:List UInt8}{args:List au}(h:x=.mk k tr nm N gK args []):Less (.agg [.d (.i .i64 k),.d (.s tr),.d (.s nm),.d (.i .i64 N),.d (.i .i64 0),.d (.s []),.aL [],.d (.sl (args.map au.enc)),.aL []]) x.v:=by
 rw[h]
 exact(dR.cons (.refl _) (.cons (.refl _) (.cons (.refl _) (.cons (.refl _) (.cons (.refl _) (.cons (.refl _) (.cons (fQ _) (.cons (.refl _) (.cons (fQ _) .nil))))))))).less
theorem se2{x:au}{k N:Int}{tr nm:List UInt8}{ty:aj}{args:List au}(h:x=.mk k tr nm N ty args []):Less (.agg [.d (.i .i64 k),.d (.s tr),.d (.s nm),.d (.i .i64 N),.d (.i .i64 ty.aG),.d (.s ty.fName),.d (.sl (ty.fArgs.map aj.enc)),.d (.sl (args.map au.enc)),.aL []]) x.v:=by
 rw[h]
 exact(dR.cons (.refl _) (.cons (.refl _) (.cons (.refl _) (.cons (.refl _) (.cons (.refl _) (.cons (.refl _) (.cons (.refl _) (.cons (.refl _) (.cons (fQ _) .nil))))))))).less
theorem se3{x:au}{k N:Int}{tr nm:List UInt8}{args:List au}{arms:List aF}(h:x=.mk k tr nm N gK args arms):Less (.agg [.d (.i .i64 k),.d (.s tr),.d (.s nm),.d (.i .i64 N),.d (.i .i64 0),.d (.s []),.aL [],.d (.sl (args.map au.enc)),.d (.sl (arms.map aF.enc))]) x.v:=by
 rw[h]
 exact(dR.cons (.refl _) (.cons (.refl _) (.cons (.refl _) (.cons (.refl _) (.cons (.refl _) (.cons (.refl _) (.cons (fQ _) (.cons (.refl _) (.cons (.refl _) .nil))))))))).less
theorem OT(l:List ah)(i:Nat):((l.map ah.enc).take l.length).drop (min i l.length)=(l.drop i).map ah.enc:=by
 rw[vG _ _ _ (Nat.le_refl _)]
 by_cases h:i≤l.length
 ·rw[Nat.min_eq_left h]
 ·rw[Nat.min_eq_right (by omega),List.drop_length,List.drop_of_length_le (by omega)]
theorem aac(l:List ah):((l.map ah.enc).take (min 2 l.length)).drop 1=((l.drop 1).take 1).map ah.enc:=by
 match l with
 |[]=>rfl
 |[x]=>rfl
 |x::y::l=>simp[show min 2 (l.length+1+1)=2 by omega]
theorem Sd(l:List ah)(i:Nat)(h:i<l.length+3):(l.map ah.enc++([[.s [],.sl []],[.s [],.sl []],[.s [],.sl []]]:List (List D))).getD i []=[.s (bY l i),.sl ((l.getD i eZ).ak.map ah.enc)]:=by
 rw[List.getD_eq_getElem?_getD,List.getElem?_append]
 split
 ·rename_i hi
  rw[List.length_map] at hi
  rw[List.getElem?_map,List.getElem?_eq_getElem hi]
  simp only[Option.map_some,Option.getD_some]
  rw[ah.aD,jY hi,List.getD_eq_getElem?_getD,List.getElem?_eq_getElem hi];rfl
 ·rename_i hi
  rw[List.length_map] at hi
  rw[zw (by omega),List.getD_eq_getElem?_getD,List.getElem?_eq_none (by omega:l.length≤i),List.length_map]
  have:i-l.length=0∨i-l.length=1∨i-l.length=2:=by omega
  rcases this with e|e|e<;>rw[e]<;>rfl
theorem Jy(l:List ah)(h:2≤l.length):((l.map ah.enc).take ((l.length:Int)-1).toNat).drop 1=((l.drop 1).dropLast).map ah.enc:=by
 rw[show((l.length:Int)-1).toNat=l.length-1 by omega,←List.map_take,←List.map_drop,List.dropLast_eq_take,List.length_drop,List.drop_take]
theorem xL(x:ah)(i:Nat){m:Nat}(h:x.sz≤m):(x.ak.getD i eZ).sz≤m:=by
 have:=Yb x.ak i
 have:=gu x
 omega
theorem uF{l:List ah}(h:gN l=true){t:ah}(ht:t∈l):gQ t=true:=wD.1 h t ht
theorem mR{l:List ah}(h:gN l=true)(i:Nat):gN (l.drop i)=true:=wD.2 fun t ht=>uF h (List.mem_of_mem_drop ht)
theorem Vn{l:List ah}(h:gN l=true)(i:Nat):gN (l.take i)=true:=wD.2 fun t ht=>uF h (List.mem_of_mem_take ht)
theorem yV{α:Type}[SizeOf α]:∀(i:Nat) (l:List α),SizeOf.sizeOf (l.take i)≤SizeOf.sizeOf l
 |0,[]=>by simp
 |0,x::l=>by rw[List.take_zero];simp only[List.cons.sizeOf_spec,List.nil.sizeOf_spec];omega
 |i+1,[]=>by simp
 |i+1,x::l=>by
  have:=yV i l
  rw[List.take_succ_cons];simp only[List.cons.sizeOf_spec];omega
end Go.Ab
namespace Go.Proofs.YtlmhknhlmicmeaaGreatDoor
open Go Go.Ab
theorem Sg(n:Int):aH Tryz.prog 198 [.c (.d (.i .i64 n))] (.agg [.d (.i .i64 1),.d (.s []),.d (.s []),.d (.i .i64 n),.d (.i .i64 0),.d (.s []),.aL [],.aL [],.aL []]):=fun S=>by
 refine aC (rs:=[.cell 2 61]) Tryz.checked.mixed Tryz.func198 Tryz.ntmps198 rfl rfl rfl rfl rfl ?_
 simp -implicitDefEqProofs (disch:=omega) only[go_sem]
theorem OU(s:List UInt8):aH Tryz.prog 199 [.c (.d (.s s))] (.agg [.d (.i .i64 3),.d (.s []),.d (.s s),.d (.i .i64 0),.d (.i .i64 0),.d (.s []),.aL [],.aL [],.aL []]):=fun S=>by
 refine aC (rs:=[.cell 2 61]) Tryz.checked.mixed Tryz.func199 Tryz.ntmps199 rfl rfl rfl rfl rfl ?_
 simp -implicitDefEqProofs (disch:=omega) only[go_sem]
theorem Ct:∀N:Nat,(∀x:ah,SizeOf.sizeOf x<N→x.sz≤4194304→aH Tryz.prog 105 [x.v] (dz false x).v)∧
 (∀xs:List ah,SizeOf.sizeOf xs<N→xs.length≤4194304→(∀t∈xs,t.sz≤4194304)→aH Tryz.prog 200 [.c (.d (.sl (xs.map ah.enc)))] (.c (.d (.sl ((xs.map (dz false)).map au.enc)))))∧
 (∀x:ah,SizeOf.sizeOf x<N→x.sz≤4194304→aH Tryz.prog 202 [x.v] (l5 false x).v)
 |0=>⟨fun x h=>by omega,fun x h=>by omega,fun x h=>by omega⟩
 |N+1=>by
  obtain⟨ih,l9,ihM⟩:=Ct N
  refine⟨fun x hn hsz=>aH.of_le fun S=> ?_,fun xs hn hlen hsz S=> ?_,fun x hn hsz=>aH.of_le fun S=> ?_⟩
  ·have iA:=ah.jU x
   have h1:=gu x
   have h2:=Av x
   have hall:∀t∈x.ak,t.sz≤4194304:=fun t ht=>by have:=jG ht;omega
   have hr:=jX (l:=x.ak)
   have hso:=fun i=>uQ i x.ak
   have hdl:∀i,(x.ak.drop i).length≤4194304:=fun i=>by rw[List.length_drop];omega
   have hda:∀i,∀t∈x.ak.drop i,t.sz≤4194304:=fun i t ht=>hall t (List.mem_of_mem_drop ht)
   have hg:q9 false x.ak:=fun e=>by cases e.1
   refine aC (rs:=[.cell 2 61]) Tryz.checked.mixed Tryz.func105 Tryz.ntmps105 rfl rfl rfl rfl rfl ?_
   simp -implicitDefEqProofs (disch:=omega) only[go_sem]
   with_reducible refine aA (fun hb=> ?_) (fun hb=> ?_)<;>have h:=hb<;>(try simp only[wf_preprocess] at h)<;>simp -implicitDefEqProofs (disch:=omega) only[go_sem,hb]<;>(repeat(with_reducible refine And.intro ?_ ?_;focus first|omega|rfl|assumption|exact⟨_,rfl,rfl⟩|(simp;omega)|(simp;done)))
   ·have hne:=h
    refine ay (Gt x.aT (by omega)) ?_
    cases vH:eY x.aT with
    |some m=>
     simp -implicitDefEqProofs (disch:=omega) only[go_sem,Option.getD_some,Option.isSome_some]
     refine ay (Sg m) ?_
     simp -implicitDefEqProofs (disch:=omega) only[go_sem]
     exact YJ (M9 hne vH)
    |none=>
     simp -implicitDefEqProofs (disch:=omega) only[go_sem,Option.getD_none,Option.isSome_none]
     with_reducible refine aA (fun hb=> ?_) (fun hb=> ?_)<;>have h:=hb<;>(try simp only[wf_preprocess] at h)<;>simp -implicitDefEqProofs (disch:=omega) only[go_sem,hb]<;>(repeat(with_reducible refine And.intro ?_ ?_;focus first|omega|rfl|assumption|exact⟨_,rfl,rfl⟩|(simp;omega)|(simp;done)))
     ·exact YJ (Jw hne vH h)
     have k1:=h
     with_reducible refine aA (fun hb=> ?_) (fun hb=> ?_)<;>have h:=hb<;>(try simp only[wf_preprocess] at h)<;>simp -implicitDefEqProofs (disch:=omega) only[go_sem,hb]<;>(repeat(with_reducible refine And.intro ?_ ?_;focus first|omega|rfl|assumption|exact⟨_,rfl,rfl⟩|(simp;omega)|(simp;done)))
     ·exact YJ (Gy hne vH k1 h)
     have k2:=h
     refine ay (OU _) ?_
     simp -implicitDefEqProofs (disch:=omega) only[go_sem]
     exact YJ (Na hne vH k1 k2)
   have ha:=h
   have l0:=Sd x.ak 0 (by omega)
   have l1:=Sd x.ak 1 (by omega)
   have l2:=Sd x.ak 2 (by omega)
   have hm1:min (1:Int) (x.ak.length:Int)=((min 1 x.ak.length:Nat):Int):=by omega
   have hm2:min (2:Int) (x.ak.length:Int)=((min 2 x.ak.length:Nat):Int):=by omega
   have hm3:min (3:Int) (x.ak.length:Int)=((min 3 x.ak.length:Nat):Int):=by omega
   have hd:=fun i=>OT x.ak i
   have hdd:=vG x.ak x.ak.length 1 (Nat.le_refl _)
   simp -implicitDefEqProofs (disch:=omega) only[go_sem,l0,l1,l2]
   (repeat(with_reducible refine And.intro ?_ ?_;focus first|omega|rfl|assumption|exact⟨_,rfl,rfl⟩|(simp;omega)|(simp;done)))
   with_reducible refine aA (fun hb=> ?_) (fun hb=> ?_)<;>have h:=hb<;>(try simp only[wf_preprocess] at h)<;>simp -implicitDefEqProofs (disch:=omega) only[go_sem,hb,l0,l1,l2]<;>(repeat(with_reducible refine And.intro ?_ ?_;focus first|omega|rfl|assumption|exact⟨_,rfl,rfl⟩|(simp;omega)|(simp;done)))
   ·refine ay (qC _ _) ?_
    rw[hm2]
    simp -implicitDefEqProofs (disch:=omega) only[go_sem]
    refine⟨⟨by omega,by omega,by omega,hr⟩,?_⟩
    rw[hd]
    refine ay (l9 (x.ak.drop 2) (by have:=hso 2;omega) (hdl 2) (hda 2)) ?_
    simp -implicitDefEqProofs (disch:=omega) only[go_sem]
    exact Nf (Jr ha hg h)
   have Si:=h
   with_reducible refine aA (fun hb=> ?_) (fun hb=> ?_)<;>have h:=hb<;>(try simp only[wf_preprocess] at h)<;>simp -implicitDefEqProofs (disch:=omega) only[go_sem,hb,l0,l1,l2]<;>(repeat(with_reducible refine And.intro ?_ ?_;focus first|omega|rfl|assumption|exact⟨_,rfl,rfl⟩|(simp;omega)|(simp;done)))
   ·refine ay (qC _ _) ?_
    rw[hm3]
    simp -implicitDefEqProofs (disch:=omega) only[go_sem]
    refine⟨⟨by omega,by omega,by omega,hr⟩,?_⟩
    rw[hd]
    refine ay (l9 (x.ak.drop 3) (by have:=hso 3;omega) (hdl 3) (hda 3)) ?_
    simp -implicitDefEqProofs (disch:=omega) only[go_sem]
    exact Nf (D8 ha hg h)
   have Db:=h
   with_reducible refine aA (fun hb=> ?_) (fun hb=> ?_)<;>have h:=hb<;>(try simp only[wf_preprocess] at h)<;>simp -implicitDefEqProofs (disch:=omega) only[go_sem,hb,l0,l1,l2]<;>(repeat(with_reducible refine And.intro ?_ ?_;focus first|omega|rfl|assumption|exact⟨_,rfl,rfl⟩|(simp;omega)|(simp;done)))
   ·refine ay (qC _ _) ?_
    rw[hm2]
    simp -implicitDefEqProofs (disch:=omega) only[go_sem]
    refine⟨⟨by omega,by omega,by omega,hr⟩,?_⟩
    rw[hd]
    refine ay (l9 (x.ak.drop 2) (by have:=hso 2;omega) (hdl 2) (hda 2)) ?_
    simp -implicitDefEqProofs (disch:=omega) only[go_sem]
    exact Nf (M6 ha hg h)
   have nNew:=h
   with_reducible refine aA (fun hb=> ?_) (fun hb=> ?_)<;>have h:=hb<;>(try simp only[wf_preprocess] at h)<;>simp -implicitDefEqProofs (disch:=omega) only[go_sem,hb,l0,l1,l2]<;>(repeat(with_reducible refine And.intro ?_ ?_;focus first|omega|rfl|assumption|exact⟨_,rfl,rfl⟩|(simp;omega)|(simp;done)))
   ·refine ay (qC _ _) ?_
    rw[hm2]
    simp -implicitDefEqProofs (disch:=omega) only[go_sem]
    refine⟨⟨by omega,by omega,by omega,hr⟩,?_⟩
    rw[hd]
    refine ay (l9 (x.ak.drop 2) (by have:=hso 2;omega) (hdl 2) (hda 2)) ?_
    simp -implicitDefEqProofs (disch:=omega) only[go_sem]
    exact Nf (M7 ha hg h)
   have Yd:=h
   with_reducible refine aA (fun hb=> ?_) (fun hb=> ?_)<;>have h:=hb<;>(try simp only[wf_preprocess] at h)<;>simp -implicitDefEqProofs (disch:=omega) only[go_sem,hb,l0,l1,l2]<;>(repeat(with_reducible refine And.intro ?_ ?_;focus first|omega|rfl|assumption|exact⟨_,rfl,rfl⟩|(simp;omega)|(simp;done)))
   ·have hpos:0<x.ak.length:=by
     rcases Nat.eq_zero_or_pos x.ak.length with e|e
     ·rw[zw (by omega)] at h;cases h
     ·exact e
    refine⟨⟨by omega,by omega,hr⟩,?_⟩
    rw[hdd]
    refine ay (l9 (x.ak.drop 1) (by have:=hso 1;omega) (hdl 1) (hda 1)) ?_
    simp -implicitDefEqProofs (disch:=omega) only[go_sem]
    exact Nf (PW ha hg h)
   have nIf:=h
   with_reducible refine aA (fun hb=> ?_) (fun hb=> ?_)<;>have h:=hb<;>(try simp only[wf_preprocess] at h)<;>simp -implicitDefEqProofs (disch:=omega) only[go_sem,hb,l0,l1,l2]<;>(repeat(with_reducible refine And.intro ?_ ?_;focus first|omega|rfl|assumption|exact⟨_,rfl,rfl⟩|(simp;omega)|(simp;done)))
   ·refine ay (qC _ _) ?_
    rw[hm2]
    simp -implicitDefEqProofs (disch:=omega) only[go_sem]
    refine⟨⟨by omega,by omega,by omega,hr⟩,?_⟩
    rw[hd]
    refine ay (l9 (x.ak.drop 2) (by have:=hso 2;omega) (hdl 2) (hda 2)) ?_
    simp -implicitDefEqProofs (disch:=omega) only[go_sem]
    exact Nf (Js ha hg h)
   have Sj:=h
   with_reducible refine aA (fun hb=> ?_) (fun hb=> ?_)<;>have h:=hb<;>(try simp only[wf_preprocess] at h)<;>simp -implicitDefEqProofs (disch:=omega) only[go_sem,hb,l0,l1,l2]<;>(repeat(with_reducible refine And.intro ?_ ?_;focus first|omega|rfl|assumption|exact⟨_,rfl,rfl⟩|(simp;omega)|(simp;done)))
   ·refine ay (tH (x.ak.getD 1 eZ) (xL x 1 hsz)) ?_
    simp -implicitDefEqProofs (disch:=omega) only[go_sem]
    refine ay (qC _ _) ?_
    rw[hm2]
    simp -implicitDefEqProofs (disch:=omega) only[go_sem]
    refine⟨⟨by omega,by omega,by omega,hr⟩,?_⟩
    rw[hd]
    refine ay (l9 (x.ak.drop 2) (by have:=hso 2;omega) (hdl 2) (hda 2)) ?_
    simp -implicitDefEqProofs (disch:=omega) only[go_sem]
    exact se2 (M8 ha hg h)
   have nThe:=h
   with_reducible refine aA (fun hb=> ?_) (fun hb=> ?_)<;>have h:=hb<;>(try simp only[wf_preprocess] at h)<;>simp -implicitDefEqProofs (disch:=omega) only[go_sem,hb,l0,l1,l2]<;>(repeat(with_reducible refine And.intro ?_ ?_;focus first|omega|rfl|assumption|exact⟨_,rfl,rfl⟩|(simp;omega)|(simp;done)))
   ·have hpos:0<x.ak.length:=by
     rcases Nat.eq_zero_or_pos x.ak.length with e|e
     ·rw[zw (by omega)] at h;cases h
     ·exact e
    have hdec:=Jt ha hg h
    refine ay (qC _ _) ?_
    rw[hm2]
    simp -implicitDefEqProofs (disch:=omega) only[go_sem]
    refine⟨⟨by omega,by omega,hr⟩,?_⟩
    rw[aac]
    refine ay (l9 ((x.ak.drop 1).take 1) (by have:=hso 1;have:=yV 1 (x.ak.drop 1);omega) (by rw[List.length_take];omega) (fun t ht=>hda 1 t (List.mem_of_mem_take ht))) ?_
    simp -implicitDefEqProofs (disch:=omega) only[go_sem]
    obtain⟨Jz,Sk⟩:∃Jz,Jz=((x.ak.drop 1).take 1).map (dz false):=⟨_,rfl⟩
    obtain⟨T,hT⟩:∃T:Nat→List (List D),T=fun k=>(((x.ak.drop 2).map (l5 false)).take k).map aF.enc:=⟨_,rfl⟩
    have hT0:T 0=[]:=by rw[hT];rfl
    have nC:∀k,(T k).length≤k:=fun k=>by rw[hT];simp only[List.length_map];exact List.length_take_le _ _
    have hTs:∀k (hk:k+2<x.ak.length),T k++[(l5 false x.ak[k+2]).enc]=T (k+1):=fun k hk=>by
     have:=Vm (l:=(x.ak.drop 2).map (l5 false)) (i:=k) (by rw[List.length_map,List.length_drop];omega)
     rw[List.getElem_map,List.getElem_drop] at this
     rw[hT];simp only[Nat.add_comm 2 k] at this ⊢;exact this
    have hTe:T (x.ak.length-2)=((x.ak.drop 2).map (l5 false)).map aF.enc:=by
     rw[hT];simp only
     rw[List.take_of_length_le (by simp)]
    clear hT
    rw[←Sk] at hdec ⊢
    refine Jp 3 8 11 _ rfl rfl ?_
    refine aV (ι:=Nat) Tryz.checked.mixed rfl [1,2,6,8,9] (fun k=>[.c (.ptr (0,0) 0),.c (.ptr (0,1) 0),.c (.d (.i .i64 x.ak.length)),.c (.ptr (0,3) 0),.c (.d (.i .i64 ((k+2:Nat):Int)))])
     (fun k=>[.box [.d (.s x.aT),.d (.sl (x.ak.map ah.enc))],.box [.d (.i .i64 0),.d (.s []),.d (.s []),.d (.i .i64 0),.d (.i .i64 0),.d (.s []),.aL [],.aL [],.aL []],.tok 2 (x.ak.map ah.enc++[[.s [],.sl []],[.s [],.sl []],[.s [],.sl []]]),
       .box [.d (.i .i64 7),.d (.s []),.d (.s []),.d (.i .i64 0),.d (.i .i64 0),.d (.s []),.aL [],.d (.sl (Jz.map au.enc)),.bK (0,4) (T k)],.tok 11 (T k)]::S)
     (fun k=>k≤x.ak.length-2) (fun k=>x.ak.length-(k+2)) 0 rfl (by rw[hT0];rfl) (Nat.zero_le _) ?_
    intro k hk
    have hlk:=nC k
    clear l0 l1 l2
    simp -implicitDefEqProofs (disch:=omega) only[go_sem]
    with_reducible refine aA (fun hb=> ?_) (fun hb=> ?_)<;>have h:=hb<;>(try simp only[wf_preprocess] at h)<;>simp -implicitDefEqProofs (disch:=omega) only[go_sem,hb]<;>(repeat(with_reducible refine And.intro ?_ ?_;focus first|omega|rfl|assumption|exact⟨_,rfl,rfl⟩|(simp;omega)|(simp;done)))
    ·have hk':k+2<x.ak.length:=by omega
     have hm:=List.getElem_mem hk'
     have hs:=hTs k hk'
     simp only[aF.aD,au.aD,aj.aD,List.cons_append,List.nil_append] at hs
     (repeat(with_reducible refine And.intro ?_ ?_;focus first|omega|rfl|assumption|exact⟨_,rfl,rfl⟩|(simp;omega)|(simp;done)))
     refine ay (ihM x.ak[k+2] (by have:=List.sizeOf_lt_of_mem hm;omega) (hall _ hm)) ?_
     simp -implicitDefEqProofs (disch:=omega) only[go_sem]
     (repeat(with_reducible refine And.intro ?_ ?_;focus first|omega|rfl|assumption|exact⟨_,rfl,rfl⟩|(simp;omega)|(simp;done)))
     rw[hs]
     exact bH (k+1) (by omega) rfl rfl (by omega)
    ·have hk':k=x.ak.length-2:=by omega
     subst hk'
     rw[hTe]
     exact se3 hdec
   have Sl:=h
   refine ay (qC _ _) ?_
   rw[hm1]
   simp -implicitDefEqProofs (disch:=omega) only[go_sem]
   refine⟨⟨by omega,by omega,by omega,hr⟩,?_⟩
   rw[hd]
   refine ay (l9 (x.ak.drop 1) (by have:=hso 1;omega) (hdl 1) (hda 1)) ?_
   simp -implicitDefEqProofs (disch:=omega) only[go_sem]
   exact Nf (Ju ha hg Si nNew Yd Sj Db nIf nThe Sl)
  ·have wG:=fun(i:Nat) (hi:i<xs.length)=>Vl (l:=xs.map (dz false)) (i:=i) (by rw[List.length_map];exact hi)
   refine aC (rs:=[.tmp 2]) Tryz.checked.mixed Tryz.func200 Tryz.ntmps200 rfl rfl rfl rfl rfl ?_
   simp -implicitDefEqProofs (disch:=omega) only[go_sem]
   (repeat(with_reducible refine And.intro ?_ ?_;focus first|omega|rfl|assumption|exact⟨_,rfl,rfl⟩|(simp;omega)|(simp;done)))
   refine uX 3 9 [] rfl (by simp) ?_
   refine aV (ι:=Nat) Tryz.checked.mixed rfl [0,3,4] (fun i=>[.c (.d (.sl (xs.map ah.enc))),.c (.bK (0,0) (((xs.map (dz false)).take i).map au.enc)),.c (.d (.i .i64 i))]) (fun i=>[.tok 9 (((xs.map (dz false)).take i).map au.enc)]::S)
    (fun i=>i≤xs.length) (fun i=>xs.length-i) 0 rfl rfl (Nat.zero_le _) ?_
   intro i hi
   have hl:(((xs.map (dz false)).take i).map au.enc).length≤i:=by rw[List.length_map];exact List.length_take_le _ _
   simp -implicitDefEqProofs (disch:=omega) only[go_sem]
   with_reducible refine aA (fun hb=> ?_) (fun hb=> ?_)<;>have h:=hb<;>(try simp only[wf_preprocess] at h)<;>simp -implicitDefEqProofs (disch:=omega) only[go_sem,hb]<;>(repeat(with_reducible refine And.intro ?_ ?_;focus first|omega|rfl|assumption|exact⟨_,rfl,rfl⟩|(simp;omega)|(simp;done)))
   ·have hi':i<xs.length:=by omega
    have hs:=wG i hi'
    rw[List.getElem_map] at hs
    simp only[au.aD,aj.aD,List.cons_append,List.nil_append] at hs
    (repeat(with_reducible refine And.intro ?_ ?_;focus first|omega|rfl|assumption|exact⟨_,rfl,rfl⟩|(simp;omega)|(simp;done)))
    refine ay (ih xs[i] (by have:=List.sizeOf_lt_of_mem (List.getElem_mem hi');omega) (hsz _ (List.getElem_mem hi'))) ?_
    simp -implicitDefEqProofs (disch:=omega) only[go_sem]
    (repeat(with_reducible refine And.intro ?_ ?_;focus first|omega|rfl|assumption|exact⟨_,rfl,rfl⟩|(simp;omega)|(simp;done)))
    rw[hs]
    exact bH (i+1) (by omega) rfl rfl (by omega)
   ·have hi':i=(xs.map (dz false)).length:=by rw[List.length_map];omega
    rw[hi',List.take_length]
  ·have iA:=ah.jU x
   have h1:=gu x
   have hall:∀t∈x.ak,t.sz≤4194304:=fun t ht=>by have:=jG ht;omega
   have hr:=jX (l:=x.ak)
   refine aC (rs:=[.cell 2 223]) Tryz.checked.mixed Tryz.func202 Tryz.ntmps202 rfl rfl rfl rfl rfl ?_
   simp -implicitDefEqProofs (disch:=omega) only[go_sem]
   with_reducible refine aA (fun hb=> ?_) (fun hb=> ?_)<;>have h:=hb<;>(try simp only[wf_preprocess] at h)<;>simp -implicitDefEqProofs (disch:=omega) only[go_sem,hb]<;>(repeat(with_reducible refine And.intro ?_ ?_;focus first|omega|rfl|assumption|exact⟨_,rfl,rfl⟩|(simp;omega)|(simp;done)))
   ·rw[PV false x (by omega)]
    exact(dR.cons (.refl _) (.cons (fQ _) (.cons (.refl _) (.cons (.refl _) (.cons (.refl _) (.cons (.refl _) (.cons (.refl _) (.cons (.refl _) (.cons (fQ _) (.cons (fQ _) (.cons (fQ _) .nil))))))))))).less
   have hl2:2≤x.ak.length:=by omega
   have a0:=jY (l:=x.ak) (i:=0) (by omega)
   have hm:=List.getElem_mem (l:=x.ak) (n:=x.ak.length-1) (by omega)
   rw[PU false x hl2,a0]
   refine⟨⟨by omega,by omega,hr⟩,?_⟩
   rw[Jy _ hl2]
   refine ay (Cq ((x.ak.drop 1).dropLast) (by rw[List.length_dropLast,List.length_drop];omega)) ?_
   simp -implicitDefEqProofs (disch:=omega) only[go_sem]
   (repeat(with_reducible refine And.intro ?_ ?_;focus first|omega|rfl|assumption|exact⟨_,rfl,rfl⟩|(simp;omega)|(simp;done)))
   have el:((x.ak.length:Int)-1).toNat=x.ak.length-1:=by omega
   simp only[el]
   refine ay (ih (x.ak[x.ak.length-1]) (by have:=List.sizeOf_lt_of_mem hm;omega) (hall _ hm)) ?_
   simp -implicitDefEqProofs (disch:=omega) only[go_sem]
   exact jl _
theorem OV(x:ah)(hsz:x.sz≤4194304):aH Tryz.prog 105 [x.v] (dz false x).v:=(Ct _).1 x (Nat.lt_succ_self _) hsz
end Go.Proofs.YtlmhknhlmicmeaaGreatDoor
namespace Go.Proofs
open Go.Shelf
def Tryz.lays172_ren:Go.Shelf.Ren:=⟨fun|172=>326|244=>347|245=>348|247=>363|279=>364|280=>365|281=>366|282=>367|287=>377|316=>378|171=>287|205=>379|321=>386|322=>387|243=>331|246=>350|283=>369|284=>370|285=>371|286=>372|129=>382|317=>381|318=>383|319=>384|320=>385|337=>391|338=>392|n=>n,fun|9=>9|3=>3|75=>286|76=>287|4=>4|5=>5|167=>351|37=>227|0=>0|85=>352|2=>2|168=>354|53=>359|175=>367|46=>369|210=>372|127=>290|145=>384|143=>382|21=>21|171=>358|173=>362|212=>376|51=>377|20=>20|213=>378|232=>388|233=>389|80=>231|n=>n,fun|15=>0|16=>1|17=>2|18=>4|19=>5|n=>n⟩
theorem Tryz.lays172:Go.Proofs.Lays.n172 Tryz.prog Tryz.lays172_ren:={
 mixed:=by kernel_rfl
 f129:=Tryz.func382.trans (congrArg some (by kernel_rfl))
 f171:=Tryz.func287.trans (congrArg some (by kernel_rfl))
 f172:=Tryz.func326.trans (congrArg some (by kernel_rfl))
 f205:=Tryz.func379.trans (congrArg some (by kernel_rfl))
 f243:=Tryz.func331.trans (congrArg some (by kernel_rfl))
 f244:=Tryz.func347.trans (congrArg some (by kernel_rfl))
 f245:=Tryz.func348.trans (congrArg some (by kernel_rfl))
 f246:=Tryz.func350.trans (congrArg some (by kernel_rfl))
 f247:=Tryz.func363.trans (congrArg some (by kernel_rfl))
 f279:=Tryz.func364.trans (congrArg some (by kernel_rfl))
 f280:=Tryz.func365.trans (congrArg some (by kernel_rfl))
 f281:=Tryz.func366.trans (congrArg some (by kernel_rfl))
 f282:=Tryz.func367.trans (congrArg some (by kernel_rfl))
 f283:=Tryz.func369.trans (congrArg some (by kernel_rfl))
 f284:=Tryz.func370.trans (congrArg some (by kernel_rfl))
 f285:=Tryz.func371.trans (congrArg some (by kernel_rfl))
 f286:=Tryz.func372.trans (congrArg some (by kernel_rfl))
 f287:=Tryz.func377.trans (congrArg some (by kernel_rfl))
 f316:=Tryz.func378.trans (congrArg some (by kernel_rfl))
 f317:=Tryz.func381.trans (congrArg some (by kernel_rfl))
 f318:=Tryz.func383.trans (congrArg some (by kernel_rfl))
 f319:=Tryz.func384.trans (congrArg some (by kernel_rfl))
 f320:=Tryz.func385.trans (congrArg some (by kernel_rfl))
 f321:=Tryz.func386.trans (congrArg some (by kernel_rfl))
 f322:=Tryz.func387.trans (congrArg some (by kernel_rfl))
 f337:=Tryz.func391.trans (congrArg some (by kernel_rfl))
 f338:=Tryz.func392.trans (congrArg some (by kernel_rfl))
 t0:=Tryz.underlying0
 a0:=Tryz.isAgg0
 z0:=Tryz.sizeOf0
 v0:=Tryz.zeroValue0
 t2:=Tryz.underlying2
 a2:=Tryz.isAgg2
 z2:=Tryz.sizeOf2
 v2:=Tryz.zeroValue2
 t3:=Tryz.underlying3
 a3:=Tryz.isAgg3
 z3:=Tryz.sizeOf3
 v3:=Tryz.zeroValue3
 t4:=Tryz.underlying4
 a4:=Tryz.isAgg4
 z4:=Tryz.sizeOf4
 v4:=Tryz.zeroValue4
 t5:=Tryz.underlying5
 a5:=Tryz.isAgg5
 z5:=Tryz.sizeOf5
 v5:=Tryz.zeroValue5
 t9:=Tryz.underlying9
 a9:=Tryz.isAgg9
 z9:=Tryz.sizeOf9
 v9:=Tryz.zeroValue9
 t20:=Tryz.underlying20
 a20:=Tryz.isAgg20
 z20:=Tryz.sizeOf20
 v20:=Tryz.zeroValue20
 t21:=Tryz.underlying21
 a21:=Tryz.isAgg21
 z21:=Tryz.sizeOf21
 v21:=Tryz.zeroValue21
 t37:=Tryz.underlying227
 a37:=Tryz.isAgg227
 z37:=Tryz.sizeOf227
 v37:=Tryz.zeroValue227
 t46:=Tryz.underlying369
 a46:=Tryz.isAgg369
 z46:=Tryz.sizeOf369
 v46:=Tryz.zeroValue369
 t51:=Tryz.underlying377
 a51:=Tryz.isAgg377
 z51:=Tryz.sizeOf377
 v51:=Tryz.zeroValue377
 t53:=Tryz.underlying359
 a53:=Tryz.isAgg359
 z53:=Tryz.sizeOf359
 v53:=Tryz.zeroValue359
 t75:=Tryz.underlying286
 a75:=Tryz.isAgg286
 z75:=Tryz.sizeOf286
 v75:=Tryz.zeroValue286
 t76:=Tryz.underlying287
 a76:=Tryz.isAgg287
 z76:=Tryz.sizeOf287
 v76:=Tryz.zeroValue287
 t85:=Tryz.underlying352
 a85:=Tryz.isAgg352
 z85:=Tryz.sizeOf352
 v85:=Tryz.zeroValue352
 t127:=Tryz.underlying290
 a127:=Tryz.isAgg290
 z127:=Tryz.sizeOf290
 v127:=Tryz.zeroValue290
 t143:=Tryz.underlying382
 a143:=Tryz.isAgg382
 z143:=Tryz.sizeOf382
 v143:=Tryz.zeroValue382
 t145:=Tryz.underlying384
 a145:=Tryz.isAgg384
 z145:=Tryz.sizeOf384
 v145:=Tryz.zeroValue384
 t167:=Tryz.underlying351
 a167:=Tryz.isAgg351
 z167:=Tryz.sizeOf351
 v167:=Tryz.zeroValue351
 t168:=Tryz.underlying354
 a168:=Tryz.isAgg354
 z168:=Tryz.sizeOf354
 v168:=Tryz.zeroValue354
 t171:=Tryz.underlying358
 a171:=Tryz.isAgg358
 z171:=Tryz.sizeOf358
 v171:=Tryz.zeroValue358
 t173:=Tryz.underlying362
 a173:=Tryz.isAgg362
 z173:=Tryz.sizeOf362
 v173:=Tryz.zeroValue362
 t175:=Tryz.underlying367
 a175:=Tryz.isAgg367
 z175:=Tryz.sizeOf367
 v175:=Tryz.zeroValue367
 t210:=Tryz.underlying372
 a210:=Tryz.isAgg372
 z210:=Tryz.sizeOf372
 v210:=Tryz.zeroValue372
 t212:=Tryz.underlying376
 a212:=Tryz.isAgg376
 z212:=Tryz.sizeOf376
 v212:=Tryz.zeroValue376
 t213:=Tryz.underlying378
 a213:=Tryz.isAgg378
 z213:=Tryz.sizeOf378
 t232:=Tryz.underlying388
 a232:=Tryz.isAgg388
 z232:=Tryz.sizeOf388
 v232:=Tryz.zeroValue388
 t233:=Tryz.underlying389
 a233:=Tryz.isAgg389
 z233:=Tryz.sizeOf389
 v233:=Tryz.zeroValue389
 g15:=by kernel_rfl
 g16:=by kernel_rfl
 g17:=by kernel_rfl
 g18:=by kernel_rfl
 g19:=by kernel_rfl}
open Go.RowKit in
theorem Tryz.strconv_Atoi(s:ByteArray)(n:Int)(hl:s.size≤18)(h:Lib.atoi s.data.toList=some n)(w:World):
 Calls Tryz.prog 326 #[.string s] w fun e w'=>e=.returned (.tuple #[.int .i64 n,.nilIface])∧∃t,w'=Lib.bytesWorld w 5 t:=Any.strconv_Atoi Tryz.lays172 s n hl h w
def Tryz.laysC172_ren:Go.Shelf.Ren:=⟨fun|172=>326|244=>347|245=>348|247=>363|279=>364|280=>365|281=>366|282=>367|287=>377|316=>378|171=>287|205=>379|321=>386|322=>387|243=>331|246=>350|283=>369|284=>370|285=>371|286=>372|129=>382|317=>381|318=>383|319=>384|320=>385|337=>391|338=>392|n=>n,fun|9=>9|3=>3|75=>286|76=>287|4=>4|5=>5|167=>351|37=>227|0=>0|85=>352|2=>2|168=>354|53=>359|175=>367|46=>369|210=>372|127=>290|145=>384|143=>382|21=>21|171=>358|173=>362|212=>376|51=>377|20=>20|213=>378|232=>388|233=>389|80=>231|n=>n,fun|15=>0|16=>1|17=>2|18=>4|19=>5|n=>n⟩
theorem Tryz.laysC172:Go.Proofs.LaysC.n172 Tryz.prog Tryz.laysC172_ren:={
 mixed:=by kernel_rfl
 f129:=Tryz.func382.trans (congrArg some (by kernel_rfl))
 f171:=Tryz.func287.trans (congrArg some (by kernel_rfl))
 f172:=Tryz.func326.trans (congrArg some (by kernel_rfl))
 f205:=Tryz.func379.trans (congrArg some (by kernel_rfl))
 f243:=Tryz.func331.trans (congrArg some (by kernel_rfl))
 f244:=Tryz.func347.trans (congrArg some (by kernel_rfl))
 f245:=Tryz.func348.trans (congrArg some (by kernel_rfl))
 f246:=Tryz.func350.trans (congrArg some (by kernel_rfl))
 f247:=Tryz.func363.trans (congrArg some (by kernel_rfl))
 f279:=Tryz.func364.trans (congrArg some (by kernel_rfl))
 f280:=Tryz.func365.trans (congrArg some (by kernel_rfl))
 f281:=Tryz.func366.trans (congrArg some (by kernel_rfl))
 f282:=Tryz.func367.trans (congrArg some (by kernel_rfl))
 f283:=Tryz.func369.trans (congrArg some (by kernel_rfl))
 f284:=Tryz.func370.trans (congrArg some (by kernel_rfl))
 f285:=Tryz.func371.trans (congrArg some (by kernel_rfl))
 f286:=Tryz.func372.trans (congrArg some (by kernel_rfl))
 f287:=Tryz.func377.trans (congrArg some (by kernel_rfl))
 f316:=Tryz.func378.trans (congrArg some (by kernel_rfl))
 f317:=Tryz.func381.trans (congrArg some (by kernel_rfl))
 f318:=Tryz.func383.trans (congrArg some (by kernel_rfl))
 f319:=Tryz.func384.trans (congrArg some (by kernel_rfl))
 f320:=Tryz.func385.trans (congrArg some (by kernel_rfl))
 f321:=Tryz.func386.trans (congrArg some (by kernel_rfl))
 f322:=Tryz.func387.trans (congrArg some (by kernel_rfl))
 f337:=Tryz.func391.trans (congrArg some (by kernel_rfl))
 f338:=Tryz.func392.trans (congrArg some (by kernel_rfl))
 t0:=Tryz.underlying0
 a0:=Tryz.isAgg0
 z0:=Tryz.sizeOf0
 v0:=Tryz.zeroValue0
 t2:=Tryz.underlying2
 a2:=Tryz.isAgg2
 z2:=Tryz.sizeOf2
 v2:=Tryz.zeroValue2
 t3:=Tryz.underlying3
 a3:=Tryz.isAgg3
 z3:=Tryz.sizeOf3
 v3:=Tryz.zeroValue3
 t4:=Tryz.underlying4
 a4:=Tryz.isAgg4
 z4:=Tryz.sizeOf4
 v4:=Tryz.zeroValue4
 t5:=Tryz.underlying5
 a5:=Tryz.isAgg5
 z5:=Tryz.sizeOf5
 v5:=Tryz.zeroValue5
 t9:=Tryz.underlying9
 a9:=Tryz.isAgg9
 z9:=Tryz.sizeOf9
 v9:=Tryz.zeroValue9
 t20:=Tryz.underlying20
 a20:=Tryz.isAgg20
 z20:=Tryz.sizeOf20
 v20:=Tryz.zeroValue20
 t21:=Tryz.underlying21
 a21:=Tryz.isAgg21
 z21:=Tryz.sizeOf21
 v21:=Tryz.zeroValue21
 t37:=Tryz.underlying227
 a37:=Tryz.isAgg227
 z37:=Tryz.sizeOf227
 v37:=Tryz.zeroValue227
 t46:=Tryz.underlying369
 a46:=Tryz.isAgg369
 z46:=Tryz.sizeOf369
 v46:=Tryz.zeroValue369
 t51:=Tryz.underlying377
 a51:=Tryz.isAgg377
 z51:=Tryz.sizeOf377
 v51:=Tryz.zeroValue377
 t53:=Tryz.underlying359
 a53:=Tryz.isAgg359
 z53:=Tryz.sizeOf359
 v53:=Tryz.zeroValue359
 t75:=Tryz.underlying286
 a75:=Tryz.isAgg286
 z75:=Tryz.sizeOf286
 v75:=Tryz.zeroValue286
 t76:=Tryz.underlying287
 a76:=Tryz.isAgg287
 z76:=Tryz.sizeOf287
 v76:=Tryz.zeroValue287
 t85:=Tryz.underlying352
 a85:=Tryz.isAgg352
 z85:=Tryz.sizeOf352
 v85:=Tryz.zeroValue352
 t127:=Tryz.underlying290
 a127:=Tryz.isAgg290
 z127:=Tryz.sizeOf290
 v127:=Tryz.zeroValue290
 t143:=Tryz.underlying382
 a143:=Tryz.isAgg382
 z143:=Tryz.sizeOf382
 v143:=Tryz.zeroValue382
 t145:=Tryz.underlying384
 a145:=Tryz.isAgg384
 z145:=Tryz.sizeOf384
 v145:=Tryz.zeroValue384
 t167:=Tryz.underlying351
 a167:=Tryz.isAgg351
 z167:=Tryz.sizeOf351
 v167:=Tryz.zeroValue351
 t168:=Tryz.underlying354
 a168:=Tryz.isAgg354
 z168:=Tryz.sizeOf354
 v168:=Tryz.zeroValue354
 t171:=Tryz.underlying358
 a171:=Tryz.isAgg358
 z171:=Tryz.sizeOf358
 v171:=Tryz.zeroValue358
 t173:=Tryz.underlying362
 a173:=Tryz.isAgg362
 z173:=Tryz.sizeOf362
 v173:=Tryz.zeroValue362
 t175:=Tryz.underlying367
 a175:=Tryz.isAgg367
 z175:=Tryz.sizeOf367
 v175:=Tryz.zeroValue367
 t210:=Tryz.underlying372
 a210:=Tryz.isAgg372
 z210:=Tryz.sizeOf372
 v210:=Tryz.zeroValue372
 t212:=Tryz.underlying376
 a212:=Tryz.isAgg376
 z212:=Tryz.sizeOf376
 v212:=Tryz.zeroValue376
 t213:=Tryz.underlying378
 a213:=Tryz.isAgg378
 z213:=Tryz.sizeOf378
 t232:=Tryz.underlying388
 a232:=Tryz.isAgg388
 z232:=Tryz.sizeOf388
 v232:=Tryz.zeroValue388
 t233:=Tryz.underlying389
 a233:=Tryz.isAgg389
 z233:=Tryz.sizeOf389
 v233:=Tryz.zeroValue389
 g15:=by kernel_rfl
 g16:=by kernel_rfl
 g17:=by kernel_rfl
 g18:=by kernel_rfl
 g19:=by kernel_rfl
 t80:=Tryz.underlying231
 a80:=Tryz.isAgg231
 z80:=Tryz.sizeOf231
 v80:=Tryz.zeroValue231
 i0:=by kernel_rfl
 i2:=by kernel_rfl
 i3:=by kernel_rfl
 i4:=by kernel_rfl
 i5:=by kernel_rfl
 i9:=by kernel_rfl
 i20:=by kernel_rfl
 i21:=by kernel_rfl
 i37:=by kernel_rfl
 i46:=by kernel_rfl
 i51:=by kernel_rfl
 i53:=by kernel_rfl
 i75:=by kernel_rfl
 i76:=by kernel_rfl
 i80:=by kernel_rfl
 i85:=by kernel_rfl
 i127:=by kernel_rfl
 i143:=by kernel_rfl
 i145:=by kernel_rfl
 i167:=by kernel_rfl
 i168:=by kernel_rfl
 i171:=by kernel_rfl
 i173:=by kernel_rfl
 i175:=by kernel_rfl
 i210:=by kernel_rfl
 i212:=by kernel_rfl
 i232:=by kernel_rfl
 i233:=by kernel_rfl
 m15:=by kernel_rfl
 m16:=by kernel_rfl
 m17:=by kernel_rfl
 m18:=by kernel_rfl
 m19:=by kernel_rfl
 c0:=by kernel_rfl
 c2:=by kernel_rfl
 c3:=by kernel_rfl
 c4:=by kernel_rfl
 c5:=by kernel_rfl
 c9:=by kernel_rfl
 c20:=by kernel_rfl
 c21:=by kernel_rfl
 c37:=by kernel_rfl
 c46:=by kernel_rfl
 c51:=by kernel_rfl
 c53:=by kernel_rfl
 c75:=by kernel_rfl
 c76:=by kernel_rfl
 c80:=by kernel_rfl
 c85:=by kernel_rfl
 c127:=by kernel_rfl
 c143:=by kernel_rfl
 c145:=by kernel_rfl
 c167:=by kernel_rfl
 c168:=by kernel_rfl
 c171:=by kernel_rfl
 c173:=by kernel_rfl
 c175:=by kernel_rfl
 c210:=by kernel_rfl
 c212:=by kernel_rfl
 c213:=by kernel_rfl
 c232:=by kernel_rfl
 c233:=by kernel_rfl}
open Go.RowKit in
theorem Tryz.strconv_Atoi_err_var(s:ByteArray)(hl:s.size≤18)(h:Lib.atoi s.data.toList=none)(tp:TypeId)(p:Value)(w:World)(hvar:w.var? Tryz.prog "strconv.ErrSyntax" =some #[.iface tp p]):
 Calls Tryz.prog 326 #[.string s] w fun e w'=>∃N,e=.returned (.tuple #[.int .i64 0,.iface 354 (.pointer (some ⟨N,0,none⟩))])∧w.heap.size≤N∧w'.heap[N]? =some (.cells #[.string ⟨#[65,116,111,105]⟩,.string s,.iface tp p] 372 (0,0))∧Below w.heap.size w w':=Any.strconv_Atoi_err_var Tryz.laysC172 s hl h tp p w hvar
end Go.Proofs
namespace Go.Ab
theorem J8{w w':World}{σ:Nat→Nat}(hl:∀b,b<w.heap.size∨σ b=0)(h:Go.RowKit.Below w.heap.size w w'):Grow w σ w' σ:=
 ⟨h.size,h.os,h.output,fun b hb=>⟨h.block b hb,rfl⟩,fun b=>(hl b).elim (fun x=>.inl (Nat.lt_of_lt_of_le x h.size)) .inr⟩
theorem Vo{x y z:V}{vs:List Value}{w:World}{σ:Nat→Nat}{S:Store}{β:Hs}(h:kQ w σ S β [x,y,z] vs):∃u v t,vs=[u,v,t]∧bQ w σ S β x u∧bQ w σ S β y v∧bQ w σ S β z t:=by
 obtain⟨hl,h⟩:=h
 obtain⟨u,e0,h0⟩:=h 0 x rfl
 obtain⟨v,e1,h1⟩:=h 1 y rfl
 obtain⟨t,e2,h2⟩:=h 2 z rfl
 match vs,hl,e0,e1,e2 with
 |[a,b,c],_,e0,e1,e2=>simp at e0 e1 e2;subst e0;subst e1;subst e2;exact⟨_,_,_,rfl,h0,h1,h2⟩
end Go.Ab
namespace Go.Proofs.YtlmhknhlmicmeaaGreatDoor
open Go Go.Ab
theorem Sm(n:Int)(h0: -9223372036854775808≤n)(h1:n≤9223372036854775807)(w:World)(htab:Lib.TabIs Tryz.prog w "internal/strconv.uint64pow10" .u64 Lib.pow10Tab):
 Calls Tryz.prog 287 #[.int .i64 n] w fun e w'=>e=.returned (.string ⟨(Lib.itoa n).toArray⟩)∧Go.RowKit.Below w.heap.size w w':=
 (Tryz.strconv_Itoa n h0 h1 w htab).mono fun e w' ⟨he,k,os,hw⟩=>⟨he,by
   subst hw
   exact⟨rfl,rfl,rfl,by show w.heap.size≤(w.heap++os).size;simp,fun b hb=>by show(w.heap++os)[b]? =_;rw[Array.getElem?_append_left hb]⟩⟩
set_option maxHeartbeats 2000000 in
theorem OW(s:List UInt8)(hs:s.length≤18)(tp:TypeId)(p:Value)(w:World)(htab:Lib.TabIs Tryz.prog w "internal/strconv.uint64pow10" .u64 Lib.pow10Tab)(hvar:w.var? Tryz.prog "strconv.ErrSyntax" =some #[.iface tp p]):
 Calls Tryz.prog 281 #[.string ⟨s.toArray⟩,.int .i64 (-999999999999),.int .i64 999999999999] w fun e w'=>e=.returned (.tuple #[.int .i64 ((eY s).getD 0),.bool (eY s).isSome])∧Go.RowKit.Below w.heap.size w w':=by
 have hsz:(⟨s.toArray⟩:ByteArray).size≤18:=by show s.toArray.size≤18;simpa using hs
 cases h:Lib.atoi s with
 |none=>
  have hc:=Tryz.strconv_Atoi_err_var ⟨s.toArray⟩ hsz (by simpa using h) tp p w hvar
  have vH:eY s=none:=by unfold eY;rw[h]
  rw[vH]
  clear hsz
  go_enter Tryz.func281,Tryz.ntmps281
  go_wp2_with (go_at_call 326;refine hc.mono ?_;rintro e W1 ⟨N,rfl,-,-,hb⟩)
  go_ret2
  exact⟨rfl,hb⟩
 |some n=>
  have hbd:=Lib.atoi_bound h hs
  have hc:=Tryz.strconv_Atoi ⟨s.toArray⟩ n hsz (by simpa using h) w
  have vH:eY s=if(-999999999999≤n∧n≤999999999999)∧Lib.itoa n=s then some n else none:=by unfold eY;rw[h]
  have hc':Calls Tryz.prog 326 #[.string ⟨s.toArray⟩] w fun e w'=>e=.returned (.tuple #[.int .i64 n,.nilIface])∧Go.RowKit.Below w.heap.size w w':=hc.mono fun e w' ⟨he,t,hw⟩=>⟨he,by rw[hw];exact Lib.bytesWorld_below _ _ _⟩
  have hi:∀W1,Go.RowKit.Below w.heap.size w W1→Calls Tryz.prog 287 #[.int .i64 n] W1 fun e w'=>e=.returned (.string ⟨(Lib.itoa n).toArray⟩)∧Go.RowKit.Below w.heap.size w w':=fun W1 hw=>
   (Sm n (by omega) (by omega) _ ((Lib.tabBelow_of_tabIs htab).on hw).here).mono fun e w' ⟨he,hb⟩=>⟨he,hw.trans (hb.mono hw.size)⟩
  clear hsz h hc
  go_enter Tryz.func281,Tryz.ntmps281
  go_wp2_with (first|(go_at_call 326;refine hc'.mono ?_;rintro e W1 ⟨rfl,hb1⟩)|(go_at_call 287;refine(hi _ hb1).mono ?_;rintro e W2 ⟨rfl,hb2⟩))
  all_goals go_ret2
  all_goals first
   |(exfalso;omega)
   |exact⟨rfl,hb2⟩
   |exact⟨rfl,hb1⟩
   |(rw[vH,if_pos ⟨⟨by omega,by omega⟩,by simp_all;done⟩];exact⟨rfl,hb2⟩)
   |(rw[vH,if_neg (by rintro⟨hc,_⟩;omega)];exact⟨rfl,hb1⟩)
   |(rw[vH,if_neg (by rintro⟨_,hc⟩;simp[hc] at *;omega)];exact⟨rfl,hb2⟩)
   |(rw[vH,if_neg (by rintro⟨_,hc⟩;simp_all;done)];exact⟨rfl,hb2⟩)
   |trace_state
theorem J9{w:World}{σ:Nat→Nat}(h:yH w σ):∃tp p,w.var? Tryz.prog "strconv.ErrSyntax" =some #[.iface tp p]:=by
 obtain⟨c,t,fz,q1,q2,q3⟩:=h 0 (fun l=>∃te pe,l=[Value.iface te pe]) (List.mem_cons_of_mem _ (List.mem_cons_of_mem _ (List.mem_cons_self ..)))
 obtain⟨te,pe,e⟩:=q2
 have hn:Tryz.prog.globalNamed "strconv.ErrSyntax" =some 0:=by kernel_rfl
 refine⟨te,pe,?_⟩
 unfold World.var?
 rw[hn]
 simp only[Option.bind_some,q1,Option.some.injEq]
 exact Array.ext' e
theorem Im(s:List UInt8)(hs:s.length≤18):aH Tryz.prog 281 [.c (.d (.s s)),.c (.d (.i .i64 (-999999999999))),.c (.d (.i .i64 999999999999))] (.dS [(false,[.d (.i .i64 ((eY s).getD 0))]),(false,[.d (.b (eY s).isSome)])]):=fun S=>by
 refine⟨⟨_,Tryz.func281,by kernel_rfl,by kernel_rfl⟩,fun w σ β vs hS hv=> ?_⟩
 obtain⟨u,v,t,rfl,⟨hu,_⟩,⟨hv,_⟩,⟨ht,_⟩⟩:=Vo hv
 have hu0:u=.string ⟨s.toArray⟩:=by cases hu;rfl
 have hv0:v=.int .i64 (-999999999999):=by cases hv;rfl
 have ht0:t=.int .i64 999999999999:=by cases ht;rfl
 subst hu0 hv0 ht0
 obtain⟨tp,p,hvar⟩:=J9 hS.oW
 refine(OW s hs tp p w (Jl hS.oW) hvar).mono fun e w' ⟨he,hb⟩=> ?_
 have hg:Grow w σ w' σ:=J8 hS.live hb
 exact⟨_,.dS [(false,[.d (.i .i64 ((eY s).getD 0))]),(false,[.d (.b (eY s).isSome)])],S,σ,β,he,hS.grow hg,Keep.refl _ _,Step.jQ hg,⟨_,rfl,rfl,fun j y hy=>by
  match j,hy with
  |0,hy=>simp at hy;subst hy;exact⟨_,rfl,_,rfl,.i _ _,rfl⟩
  |1,hy=>simp at hy;subst hy;exact⟨_,rfl,_,rfl,.b _,rfl⟩
  |j+2,hy=>simp at hy⟩,rfl,rfl⟩
theorem Gz(s:List UInt8)(hs:s.length≤18):aH Tryz.prog 207 [.c (.d (.s s))] (.dS [(false,[.d (.i .i64 ((eY s).getD 0))]),(false,[.d (.b (eY s).isSome)])]):=fun S=>by
 refine aC (rs:=[.tmp 2,.tmp 3]) Tryz.checked.mixed Tryz.func207 Tryz.ntmps207 rfl rfl rfl rfl rfl ?_
 simp -implicitDefEqProofs (disch:=omega) only[go_sem]
 refine ay (Im s hs) ?_
 simp -implicitDefEqProofs (disch:=omega) only[go_sem]<;>(repeat(with_reducible refine And.intro ?_ ?_;focus first|omega|rfl|assumption|exact⟨_,rfl,rfl⟩|(simp;omega)|(simp;done)))
end Go.Proofs.YtlmhknhlmicmeaaGreatDoor
namespace Go.Ab
theorem wM{l:List ah}(h2:2≤l.length)(h:bY l 0=fK→3≤l.length):q9 true l:=fun e=>by
 rcases e.2 with e|e
 ·omega
 ·have:=h e.1;omega
theorem JA{x:ah}(h:gQ x=true)(ha:x.aT=[]):gN x.ak=true:=by rw[xC,if_pos ha] at h;exact h
theorem Vp{x:ah}(h:gQ x=true)(ha:x.aT≠[]):x.aT.length≤18:=by
 rw[xC,if_neg ha,Bool.and_eq_true] at h
 have h1:=h.1
 unfold validAtom at h1
 rw[Bool.and_eq_true,decide_eq_true_eq] at h1
 omega
theorem JB{x:ah}(h:gQ x=true)(ha:x.ak≠[]):gN x.ak=true:=by
 by_cases e:x.aT=[]
 ·exact JA h e
 ·rw[xC,if_neg e,Bool.and_eq_true,decide_eq_true_eq] at h
  exact absurd (List.eq_nil_of_length_eq_zero h.2) ha
theorem ma0{x:aF}{n:Nat}(h:x=.mk [] [] qB):Less (.agg [.d (.s []),.aL [],.d (.i .i64 0),.d (.s []),.d (.s []),.d (.i .i64 0),.d (.i .i64 0),.d (.s []),.aL [],.aL [],.aL []]) (x.vl n):=by
 rw[h]
 exact(dR.cons (.refl _) (.cons (eH _) (.cons (.refl _) (.cons (.refl _) (.cons (.refl _) (.cons (.refl _) (.cons (.refl _) (.cons (.refl _) (.cons (eH _) (.cons (eH _) (.cons (eH _) .nil))))))))))).less
end Go.Ab
namespace Go.Proofs.YtlmhknhlmicmeaaGreatDoor
open Go Go.Ab
theorem Cu:∀N:Nat,(∀x:ah,SizeOf.sizeOf x<N→∀n:Nat,gQ x=true→x.sz≤4194304→aH Tryz.prog 110 [x.v] ((dz true x).vl n))∧
 (∀xs:List ah,SizeOf.sizeOf xs<N→∀n q:Nat,gN xs=true→xs.length≤4194304→(∀t∈xs,t.sz≤4194304)→aH Tryz.prog 208 [.c (.d (.sl (xs.map ah.enc)))] (.c (.d (.ol n (lE (xs.map (dz true)) q)))))∧
 (∀x:ah,SizeOf.sizeOf x<N→∀n:Nat,gQ x=true→x.sz≤4194304→aH Tryz.prog 209 [x.v] ((l5 true x).vl n))
 |0=>⟨fun x h=>by omega,fun x h=>by omega,fun x h=>by omega⟩
 |N+1=>by
  obtain⟨ih,l9,ihM⟩:=Cu N
  refine⟨fun x hn n hfo hsz=>aH.of_le fun S=> ?_,fun xs hn n q hfo hlen hsz S=> ?_,fun x hn n hfo hsz=>aH.of_le fun S=> ?_⟩
  ·have iA:=ah.jU x
   have h1:=gu x
   have h2:=Av x
   have hall:∀t∈x.ak,t.sz≤4194304:=fun t ht=>by have:=jG ht;omega
   have hr:=jX (l:=x.ak)
   have hso:=fun i=>uQ i x.ak
   have hdl:∀i,(x.ak.drop i).length≤4194304:=fun i=>by rw[List.length_drop];omega
   have hda:∀i,∀t∈x.ak.drop i,t.sz≤4194304:=fun i t ht=>hall t (List.mem_of_mem_drop ht)
   have hdd:=vG x.ak x.ak.length 1 (Nat.le_refl _)
   refine kM (n) (rs:=[.cell 2 61]) Tryz.checked.mixed Tryz.func110 Tryz.ntmps110 rfl rfl rfl rfl rfl ?_
   simp -implicitDefEqProofs (disch:=omega) only[go_sem]
   with_reducible refine aA (fun hb=> ?_) (fun hb=> ?_)<;>have h:=hb<;>(try simp only[wf_preprocess] at h)<;>simp -implicitDefEqProofs (disch:=omega) only[go_sem,hb]<;>(repeat(with_reducible refine And.intro ?_ ?_;focus first|omega|rfl|assumption|exact⟨_,rfl,rfl⟩|(simp;omega)|(simp;done)))
   ·have hne:=h
    refine ay (Gz x.aT (Vp hfo hne)) ?_
    cases vH:eY x.aT with
    |some m=>
     simp -implicitDefEqProofs (disch:=omega) only[go_sem,Option.getD_some,Option.isSome_some]
     exact PX (M9 hne vH)
    |none=>
     simp -implicitDefEqProofs (disch:=omega) only[go_sem,Option.getD_none,Option.isSome_none]
     with_reducible refine aA (fun hb=> ?_) (fun hb=> ?_)<;>have h:=hb<;>(try simp only[wf_preprocess] at h)<;>simp -implicitDefEqProofs (disch:=omega) only[go_sem,hb]<;>(repeat(with_reducible refine And.intro ?_ ?_;focus first|omega|rfl|assumption|exact⟨_,rfl,rfl⟩|(simp;omega)|(simp;done)))
     ·exact PX (Jw hne vH h)
     have k1:=h
     with_reducible refine aA (fun hb=> ?_) (fun hb=> ?_)<;>have h:=hb<;>(try simp only[wf_preprocess] at h)<;>simp -implicitDefEqProofs (disch:=omega) only[go_sem,hb]<;>(repeat(with_reducible refine And.intro ?_ ?_;focus first|omega|rfl|assumption|exact⟨_,rfl,rfl⟩|(simp;omega)|(simp;done)))
     ·exact PX (Gy hne vH k1 h)
     have k2:=h
     exact PX (Na hne vH k1 k2)
   have ha:=h
   have hfs:=JA hfo ha
   with_reducible refine aA (fun hb=> ?_) (fun hb=> ?_)<;>have h:=hb<;>(try simp only[wf_preprocess] at h)<;>simp -implicitDefEqProofs (disch:=omega) only[go_sem,hb]<;>(repeat(with_reducible refine And.intro ?_ ?_;focus first|omega|rfl|assumption|exact⟨_,rfl,rfl⟩|(simp;omega)|(simp;done)))
   ·exact PX (Jv ha fun e=>e ⟨rfl,.inl (by omega)⟩)
   have hl2:2≤x.ak.length:=by omega
   have a0:=jY (l:=x.ak) (i:=0) (by omega)
   obtain⟨m,hm⟩:∃m,m=x.ak.drop 1:=⟨_,rfl⟩
   have hml:m.length=x.ak.length-1:=by rw[hm,List.length_drop]
   have hmi:∀i (hi:i<m.length),m[i]=x.ak[i+1]'(by omega):=fun i hi=>by simp only[hm,List.getElem_drop,Nat.add_comm 1 i]
   have hrm:=jX (l:=m)
   have hmd:∀i,m.drop i=x.ak.drop (i+1):=fun i=>by rw[hm,List.drop_drop,Nat.add_comm 1 i]
   have hme:=fun i=>vG m m.length i (Nat.le_refl _)
   have b1:bY x.ak 1=(m[0]'(by omega)).aT:=by rw[hmi 0 (by omega),jY (by omega)]
   refine⟨⟨by omega,by omega,hr⟩,?_⟩
   rw[hdd,←hm]
   simp only[←a0]
   with_reducible refine aA (fun hb=> ?_) (fun hb=> ?_)<;>have h:=hb<;>(try simp only[wf_preprocess] at h)<;>simp -implicitDefEqProofs (disch:=omega) only[go_sem,hb]<;>(repeat(with_reducible refine And.intro ?_ ?_;focus first|omega|rfl|assumption|exact⟨_,rfl,rfl⟩|(simp;omega)|(simp;done)))
   ·have hg:=wM hl2 fun e=>by rw[h] at e;exact absurd e (by decide)
    have hdec:=Jr ha hg h
    (repeat(with_reducible refine And.intro ?_ ?_;focus first|omega|rfl|assumption|exact⟨_,rfl,rfl⟩|(simp;omega)|(simp;done)))
    refine⟨⟨by omega,by omega,hrm⟩,?_⟩
    rw[hme,hmd,←b1]
    refine ay (l9 (x.ak.drop 2) (by have:=hso 2;omega) (n+1) (n+1+1) (mR hfs 2) (hdl 2) (hda 2)) ?_
    simp -implicitDefEqProofs (disch:=omega) only[go_sem]
    exact Nc hdec
   have Si:=h
   with_reducible refine aA (fun hb=> ?_) (fun hb=> ?_)<;>have h:=hb<;>(try simp only[wf_preprocess] at h)<;>simp -implicitDefEqProofs (disch:=omega) only[go_sem,hb]<;>(repeat(with_reducible refine And.intro ?_ ?_;focus first|omega|rfl|assumption|exact⟨_,rfl,rfl⟩|(simp;omega)|(simp;done)))
   ·have hg:=wM hl2 fun e=>by rw[h] at e;exact absurd e (by decide)
    have hdec:=M6 ha hg h
    (repeat(with_reducible refine And.intro ?_ ?_;focus first|omega|rfl|assumption|exact⟨_,rfl,rfl⟩|(simp;omega)|(simp;done)))
    refine⟨⟨by omega,by omega,hrm⟩,?_⟩
    rw[hme,hmd,←b1]
    refine ay (l9 (x.ak.drop 2) (by have:=hso 2;omega) (n+1) (n+1+1) (mR hfs 2) (hdl 2) (hda 2)) ?_
    simp -implicitDefEqProofs (disch:=omega) only[go_sem]
    exact Nc hdec
   have nNew:=h
   with_reducible refine aA (fun hb=> ?_) (fun hb=> ?_)<;>have h:=hb<;>(try simp only[wf_preprocess] at h)<;>simp -implicitDefEqProofs (disch:=omega) only[go_sem,hb]<;>(repeat(with_reducible refine And.intro ?_ ?_;focus first|omega|rfl|assumption|exact⟨_,rfl,rfl⟩|(simp;omega)|(simp;done)))
   ·have hg:=wM hl2 fun e=>by rw[h] at e;exact absurd e (by decide)
    have hdec:=M7 ha hg h
    (repeat(with_reducible refine And.intro ?_ ?_;focus first|omega|rfl|assumption|exact⟨_,rfl,rfl⟩|(simp;omega)|(simp;done)))
    refine⟨⟨by omega,by omega,hrm⟩,?_⟩
    rw[hme,hmd,←b1]
    refine ay (l9 (x.ak.drop 2) (by have:=hso 2;omega) (n+1) (n+1+1) (mR hfs 2) (hdl 2) (hda 2)) ?_
    simp -implicitDefEqProofs (disch:=omega) only[go_sem]
    exact Nc hdec
   have Yd:=h
   with_reducible refine aA (fun hb=> ?_) (fun hb=> ?_)<;>have h:=hb<;>(try simp only[wf_preprocess] at h)<;>simp -implicitDefEqProofs (disch:=omega) only[go_sem,hb]<;>(repeat(with_reducible refine And.intro ?_ ?_;focus first|omega|rfl|assumption|exact⟨_,rfl,rfl⟩|(simp;omega)|(simp;done)))
   ·have hg:=wM hl2 fun e=>by rw[h] at e;exact absurd e (by decide)
    have hdec:=Js ha hg h
    (repeat(with_reducible refine And.intro ?_ ?_;focus first|omega|rfl|assumption|exact⟨_,rfl,rfl⟩|(simp;omega)|(simp;done)))
    refine⟨⟨by omega,by omega,hrm⟩,?_⟩
    rw[hme,hmd,←b1]
    refine ay (l9 (x.ak.drop 2) (by have:=hso 2;omega) (n+1) (n+1+1) (mR hfs 2) (hdl 2) (hda 2)) ?_
    simp -implicitDefEqProofs (disch:=omega) only[go_sem]
    exact Nc hdec
   have Sj:=h
   with_reducible refine aA (fun hb=> ?_) (fun hb=> ?_)<;>have h:=hb<;>(try simp only[wf_preprocess] at h)<;>simp -implicitDefEqProofs (disch:=omega) only[go_sem,hb]<;>(repeat(with_reducible refine And.intro ?_ ?_;focus first|omega|rfl|assumption|exact⟨_,rfl,rfl⟩|(simp;omega)|(simp;done)))
   ·have hM:=h
    with_reducible refine aA (fun hb=> ?_) (fun hb=> ?_)<;>have h:=hb<;>(try simp only[wf_preprocess] at h)<;>simp -implicitDefEqProofs (disch:=omega) only[go_sem,hb]<;>(repeat(with_reducible refine And.intro ?_ ?_;focus first|omega|rfl|assumption|exact⟨_,rfl,rfl⟩|(simp;omega)|(simp;done)))
    ·exact PX (Jv ha fun e=>e ⟨rfl,.inr ⟨hM,by omega⟩⟩)
    have hl3:3≤x.ak.length:=by omega
    have hg:=wM hl2 fun _=>hl3
    have hdec:=D8 ha hg hM
    have b2:bY x.ak 2=(m[1]'(by omega)).aT:=by rw[hmi 1 (by omega),jY (by omega)]
    (repeat(with_reducible refine And.intro ?_ ?_;focus first|omega|rfl|assumption|exact⟨_,rfl,rfl⟩|(simp;omega)|(simp;done)))
    refine⟨⟨by omega,by omega,hrm⟩,?_⟩
    rw[hme,hmd,←b1,←b2]
    refine ay (l9 (x.ak.drop 3) (by have:=hso 3;omega) (n+1) (n+1+1) (mR hfs 3) (hdl 3) (hda 3)) ?_
    simp -implicitDefEqProofs (disch:=omega) only[go_sem]
    exact Nc hdec
   have Db:=h
   have hg:=wM hl2 fun e=>(Db e).elim
   with_reducible refine aA (fun hb=> ?_) (fun hb=> ?_)<;>have h:=hb<;>(try simp only[wf_preprocess] at h)<;>simp -implicitDefEqProofs (disch:=omega) only[go_sem,hb]<;>(repeat(with_reducible refine And.intro ?_ ?_;focus first|omega|rfl|assumption|exact⟨_,rfl,rfl⟩|(simp;omega)|(simp;done)))
   ·have hdec:=PW ha hg h
    rw[hm]
    refine ay (l9 (x.ak.drop 1) (by have:=hso 1;omega) (n+1) (n+1+1) (mR hfs 1) (hdl 1) (hda 1)) ?_
    simp -implicitDefEqProofs (disch:=omega) only[go_sem]
    exact Nc hdec
   have nIf:=h
   with_reducible refine aA (fun hb=> ?_) (fun hb=> ?_)<;>have h:=hb<;>(try simp only[wf_preprocess] at h)<;>simp -implicitDefEqProofs (disch:=omega) only[go_sem,hb]<;>(repeat(with_reducible refine And.intro ?_ ?_;focus first|omega|rfl|assumption|exact⟨_,rfl,rfl⟩|(simp;omega)|(simp;done)))
   ·have hdec:=M8 ha hg h
    have g1:x.ak.getD 1 eZ=m[0]'(by omega):=by rw[hmi 0 (by omega),List.getD_eq_getElem?_getD,List.getElem?_eq_getElem (by omega)];rfl
    have gz:=xL x 1 hsz
    rw[g1] at hdec gz
    (repeat(with_reducible refine And.intro ?_ ?_;focus first|omega|rfl|assumption|exact⟨_,rfl,rfl⟩|(simp;omega)|(simp;done)))
    refine ay (q8 m[0] n gz) ?_
    simp -implicitDefEqProofs (disch:=omega) only[go_sem]
    refine⟨⟨by omega,by omega,hrm⟩,?_⟩
    rw[hme,hmd]
    refine ay (l9 (x.ak.drop 2) (by have:=hso 2;omega) (n+(fD (dP true m[0]).fArgs+1)) (n+(fD (dP true m[0]).fArgs+1)+1) (mR hfs 2) (hdl 2) (hda 2)) ?_
    simp -implicitDefEqProofs (disch:=omega) only[go_sem]
    exact ie2 hdec
   have nThe:=h
   with_reducible refine aA (fun hb=> ?_) (fun hb=> ?_)<;>have h:=hb<;>(try simp only[wf_preprocess] at h)<;>simp -implicitDefEqProofs (disch:=omega) only[go_sem,hb]<;>(repeat(with_reducible refine And.intro ?_ ?_;focus first|omega|rfl|assumption|exact⟨_,rfl,rfl⟩|(simp;omega)|(simp;done)))
   ·have hdec:=Jt ha hg h
    refine⟨⟨by omega,hrm⟩,?_⟩
    rw[←List.map_take]
    refine ay (l9 (m.take 1) (by have:=hso 1;have:=yV 1 m;rw[hm] at this ⊢;omega) (n+1) (n+1+1) (Vn (by rw[hm];exact mR hfs 1) 1) (by rw[List.length_take];omega) (fun t ht=>hda 1 t (by rw[←hm];exact List.mem_of_mem_take ht))) ?_
    simp -implicitDefEqProofs (disch:=omega) only[go_sem]
    refine⟨⟨by omega,by omega,hrm⟩,?_⟩
    rw[hme,hmd]
    obtain⟨Jz,Sk⟩:∃Jz,Jz=(m.take 1).map (dz true):=⟨_,rfl⟩
    obtain⟨r,hrr⟩:∃r,r=x.ak.drop 2:=⟨_,rfl⟩
    have hrl:r.length=x.ak.length-2:=by rw[hrr,List.length_drop]
    have hrs:∀t∈r,t.sz≤4194304∧SizeOf.sizeOf t<N∧gQ t=true:=fun t ht=>by
     rw[hrr] at ht
     have h5:=List.mem_of_mem_drop ht
     have:=List.sizeOf_lt_of_mem h5
     exact⟨hda 2 t ht,by omega,uF hfs h5⟩
    obtain⟨q,hq⟩:∃q,q=n+1+(jN Jz+1):=⟨_,rfl⟩
    obtain⟨L,hL⟩:∃L:Nat→Nat,L=fun k=>q+1+Sc ((r.map (l5 true)).take k):=⟨_,rfl⟩
    obtain⟨T,hT⟩:∃T:Nat→List (List D),T=fun k=>lM ((r.map (l5 true)).take k) (q+1):=⟨_,rfl⟩
    have hT0:T 0=[]:=by rw[hT];rfl
    have nC:∀k,(T k).length≤k:=fun k=>by rw[hT];simp only[Vk];exact List.length_take_le _ _
    have hTs:∀k (hk:k<r.length),T k++[dO (l5 true r[k]).enc (L k)]=T (k+1):=fun k hk=>by
     have:=Z9 (l:=r.map (l5 true)) (i:=k) (by rw[List.length_map];exact hk) (q+1)
     rw[List.getElem_map] at this
     rw[hT,hL];exact this
    have hTe:T r.length=lM (r.map (l5 true)) (q+1):=by
     rw[hT];simp only
     rw[List.take_of_length_le (by simp)]
    clear hT hL
    rw[←hm,←Sk,←hrr] at hdec
    rw[←Sk,←hrr]
    simp -implicitDefEqProofs (disch:=omega) only[go_sem]
    refine Gu q 3 8 11 _ rfl rfl ?_
    refine aV (ι:=Nat) Tryz.checked.mixed rfl [2,7,127,128,129] (fun k=>[.c (.ptr (0,2) 0),.c (.ptr (0,3) 0),.c (.d (.sl (r.map ah.enc))),.c (.d (.i .i64 r.length)),.c (.d (.i .i64 k))])
     (fun k=>[.seed n,.box [.d (.s x.aT),.d (.sl (x.ak.map ah.enc))],.box [.d (.i .i64 0),.d (.s []),.d (.s []),.d (.i .i64 0),.d (.i .i64 0),.d (.s []),.aL [],.aL [],.aL []],
       .box [.d (.i .i64 7),.d (.s []),.d (.s []),.d (.i .i64 0),.d (.i .i64 0),.d (.s []),.aL [],.d (.ol (n+1) (lE Jz (n+1+1))),.bK (0,4) (T k)],.eu q 11 (T k)]::S)
     (fun k=>k≤r.length) (fun k=>r.length-k) 0 rfl (by rw[hT0];rfl) (Nat.zero_le _) ?_
    intro k hk
    have hlk:=nC k
    simp -implicitDefEqProofs (disch:=omega) only[go_sem]
    with_reducible refine aA (fun hb=> ?_) (fun hb=> ?_)<;>have h:=hb<;>(try simp only[wf_preprocess] at h)<;>simp -implicitDefEqProofs (disch:=omega) only[go_sem,hb]<;>(repeat(with_reducible refine And.intro ?_ ?_;focus first|omega|rfl|assumption|exact⟨_,rfl,rfl⟩|(simp;omega)|(simp;done)))
    ·have hk':k<r.length:=by omega
     have hmm:=hrs _ (List.getElem_mem hk')
     have hs:=hTs k hk'
     simp only[Yc,Nb,List.cons_append,List.nil_append] at hs
     (repeat(with_reducible refine And.intro ?_ ?_;focus first|omega|rfl|assumption|exact⟨_,rfl,rfl⟩|(simp;omega)|(simp;done)))
     refine ay (ihM r[k] hmm.2.1 (L k) hmm.2.2 hmm.1) ?_
     simp -implicitDefEqProofs (disch:=omega) only[go_sem]
     (repeat(with_reducible refine And.intro ?_ ?_;focus first|omega|rfl|assumption|exact⟨_,rfl,rfl⟩|(simp;omega)|(simp;done)))
     rw[hs]
     exact dV 5 (by decide) (k+1) (by omega) rfl rfl rfl rfl (by omega)
    ·have hk':k=r.length:=by omega
     rw[hk',hTe,hq]
     exact ie3 hdec
   have Sl:=h
   have hdec:=Ju ha hg Si nNew Yd Sj Db nIf nThe Sl
   rw[hm]
   refine ay (l9 (x.ak.drop 1) (by have:=hso 1;omega) (n+1) (n+1+1) (mR hfs 1) (hdl 1) (hda 1)) ?_
   simp -implicitDefEqProofs (disch:=omega) only[go_sem]
   exact Nc hdec
  ·have wG:=fun(i:Nat) (hi:i<xs.length)=>Z8 (l:=xs.map (dz true)) (i:=i) (by rw[List.length_map];exact hi) q
   refine kM (n) (rs:=[.tmp 2]) Tryz.checked.mixed Tryz.func208 Tryz.ntmps208 rfl rfl rfl rfl rfl ?_
   simp -implicitDefEqProofs (disch:=omega) only[go_sem]
   (repeat(with_reducible refine And.intro ?_ ?_;focus first|omega|rfl|assumption|exact⟨_,rfl,rfl⟩|(simp;omega)|(simp;done)))
   refine oM n 3 9 [] (.inl rfl) (by simp) ?_
   refine aV (ι:=Nat) Tryz.checked.mixed rfl [3,7,8,9] (fun i=>[.c (.bK (0,1) (lE ((xs.map (dz true)).take i) q)),.c (.d (.sl (xs.map ah.enc))),.c (.d (.i .i64 xs.length)),.c (.d (.i .i64 i))]) (fun i=>[.seed n,.eu n 9 (lE ((xs.map (dz true)).take i) q)]::S)
    (fun i=>i≤xs.length) (fun i=>xs.length-i) 0 rfl rfl (Nat.zero_le _) ?_
   intro i hi
   simp -implicitDefEqProofs (disch:=omega) only[go_sem]
   with_reducible refine aA (fun hb=> ?_) (fun hb=> ?_)<;>have h:=hb<;>(try simp only[wf_preprocess] at h)<;>simp -implicitDefEqProofs (disch:=omega) only[go_sem,hb]<;>(repeat(with_reducible refine And.intro ?_ ?_;focus first|omega|rfl|assumption|exact⟨_,rfl,rfl⟩|(simp;omega)|(simp;done)))
   ·have hi':i<xs.length:=by omega
    have hs:=wG i hi'
    rw[List.getElem_map] at hs
    simp only[Nb] at hs
    have hl:(lE ((xs.map (dz true)).take i) q).length≤i:=by rw[Vj];exact List.length_take_le _ _
    (repeat(with_reducible refine And.intro ?_ ?_;focus first|omega|rfl|assumption|exact⟨_,rfl,rfl⟩|(simp;omega)|(simp;done)))
    refine ay (ih xs[i] (by have:=List.sizeOf_lt_of_mem (List.getElem_mem hi');omega) (q+jN ((xs.map (dz true)).take i)) (uF hfo (List.getElem_mem hi')) (hsz _ (List.getElem_mem hi'))) ?_
    simp -implicitDefEqProofs (disch:=omega) only[go_sem]
    (repeat(with_reducible refine And.intro ?_ ?_;focus first|omega|rfl|assumption|exact⟨_,rfl,rfl⟩|(simp;omega)|(simp;done)))
    rw[hs]
    exact dV 2 (by decide) (i+1) (by omega) rfl rfl rfl rfl (by omega)
   ·have hi':i=(xs.map (dz true)).length:=by rw[List.length_map];omega
    rw[hi',List.take_length]
  ·have iA:=ah.jU x
   have h1:=gu x
   have hall:∀t∈x.ak,t.sz≤4194304:=fun t ht=>by have:=jG ht;omega
   have hr:=jX (l:=x.ak)
   refine aC (rs:=[.cell 2 223]) Tryz.checked.mixed Tryz.func209 Tryz.ntmps209 rfl rfl rfl rfl rfl ?_
   simp -implicitDefEqProofs (disch:=omega) only[go_sem]
   with_reducible refine aA (fun hb=> ?_) (fun hb=> ?_)<;>have h:=hb<;>(try simp only[wf_preprocess] at h)<;>simp -implicitDefEqProofs (disch:=omega) only[go_sem,hb]<;>(repeat(with_reducible refine And.intro ?_ ?_;focus first|omega|rfl|assumption|exact⟨_,rfl,rfl⟩|(simp;omega)|(simp;done)))
   ·exact ma0 (PV true x (by omega))
   have hl2:2≤x.ak.length:=by omega
   have a0:=jY (l:=x.ak) (i:=0) (by omega)
   have hm:=List.getElem_mem (l:=x.ak) (n:=x.ak.length-1) (by omega)
   have hfs:=JB hfo (fun e=>by rw[e] at hl2;simp at hl2)
   rw[PU true x hl2,a0]
   refine⟨⟨by omega,by omega,hr⟩,?_⟩
   rw[Jy _ hl2]
   refine ay (yF ((x.ak.drop 1).dropLast) (by rw[List.length_dropLast,List.length_drop];omega) n) ?_
   simp -implicitDefEqProofs (disch:=omega) only[go_sem]
   (repeat(with_reducible refine And.intro ?_ ?_;focus first|omega|rfl|assumption|exact⟨_,rfl,rfl⟩|(simp;omega)|(simp;done)))
   have el:((x.ak.length:Int)-1).toNat=x.ak.length-1:=by omega
   simp only[el]
   refine ay (ih (x.ak[x.ak.length-1]) (by have:=List.sizeOf_lt_of_mem hm;omega) (n+1) (uF hfs hm) (hall _ hm)) ?_
   simp -implicitDefEqProofs (disch:=omega) only[go_sem]
   exact jl _
theorem Ng(x:ah)(n:Nat)(hf:gQ x=true)(hsz:x.sz≤4194304):aH Tryz.prog 110 [x.v] ((dz true x).vl n):=(Cu _).1 x (Nat.lt_succ_self _) n hf hsz
end Go.Proofs.YtlmhknhlmicmeaaGreatDoor
namespace Go.Ab
theorem Cv{P:Program}{w:World}{t u ty e:TypeId}{base:Option Addr}{n:Nat}{i:TypeInfo}{z:Value}(ht:P.underlying t=some (.slice e))(hu:P.underlying u=some (.int .i64))(hi:P.info? e=some i)
 (hz:i.zero=some z) (h1:1≤n) (hn:n≤1073741824) (hb:i.bytes≤4096) (hs:i.size=z.cells.size):
 ∃(cap:Nat) (row:Array Value),n≤cap∧row.size=cap*z.cells.size∧(Builtin.append_ #[t,u] ty #[.slice base 0 0,.int .i64 n]).run P w=
  .ok (.slice (some ⟨w.heap.size,0,none⟩) n cap) {w.drew with heap:=w.heap.push (.cells row e)}:=by
 have hn1:=EU n 0 (by omega)
 have h48:¬(281474976710656<Builtin.nextslicecap n 0*i.bytes):=by
  have:Builtin.nextslicecap n 0*i.bytes≤(2*n+512)*4096:=Nat.mul_le_mul hn1 hb
  omega
 have h49:¬(281474976710656<(n:Int)*(i.bytes:Int)):=by
  have h2:n*i.bytes≤1073741824*4096:=Nat.mul_le_mul hn hb
  have:(n:Int)*(i.bytes:Int)=((n*i.bytes:Nat):Int):=by simp
  rw[this];omega
 have h63':¬(9223372036854775807<(n:Int)):=by omega
 have hroom':¬(n≤0):=by omega
 have hneg:¬((n:Int)<0):=by omega
 have hn0:¬n=0:=by omega
 have hw:IntKind.i64.wrap (n:Int)=n:=Pv _ (by omega)
 have hmax:IntKind.i64.max=9223372036854775807:=by decide
 have ha:∀w:World,(asInt (.int .i64 (n:Int))).run P w=.ok (n:Int) w:=fun w=>by simp[asInt,asIntOf]
 let cap:=(Question.appendCap n 0 e).cut (w.tape w.drawn (Question.appendCap n 0 e))
 have hcap:n≤cap:=by simp[cap,Question.cut]
 refine⟨cap,#[]++(if n*i.size=0 then #[] else Builtin.zeroCells z.cells n)++Builtin.zeroCells z.cells (cap-n),hcap,?_,?_⟩
 ·by_cases h0:n*i.size=0
  ·rw[if_pos h0]
   have hsz:z.cells.size=0:=by
    rcases Nat.mul_eq_zero.1 h0 with h|h
    ·omega
    ·omega
   simp[Builtin.zeroCells,hsz]
  ·rw[if_neg h0]
   simp only[Builtin.zeroCells,Array.size_append,Array.size_map,Array.size_range,Array.size_empty,Nat.zero_add]
   rw[←Nat.add_mul]
   congr 1
   omega
 ·by_cases h0:n*i.size=0
  ·rw[if_pos h0]
   cases base<;>simp[Builtin.append_,run_underlying ht,run_underlying hu,sizeOf,typeInfo,zeroValue,hi,hz,hroom',h48,h49,h63',hneg,hw,hmax,Question.forced,newRow,ha,hn0,loadCellsFrom,h0,Builtin.firstCells,loadCells]<;>exact⟨rfl,rfl⟩
  ·rw[if_neg h0]
   cases base<;>simp[Builtin.append_,run_underlying ht,run_underlying hu,sizeOf,typeInfo,zeroValue,hi,hz,hroom',h48,h49,h63',hneg,hw,hmax,Question.forced,newRow,ha,hn0,loadCellsFrom,h0,Builtin.firstCells,loadCells]<;>exact⟨rfl,rfl⟩
end Go.Ab
namespace Go.Proofs.YtlmhknhlmicmeaaGreatDoor
open Go Go.Ab
theorem Vq(base:Option Addr)(n:Nat)(h1:1≤n)(hn:n≤1073741824)(w:World):Calls Tryz.prog 373 #[.slice base 0 0,.int .i64 n] w fun e w'=>
 ∃cap row,n≤cap∧row.size=cap∧e=.returned (.slice (some ⟨w.heap.size,0,none⟩) 0 cap)∧w'={w.drew with heap:=w.heap.push (.cells row 9)}:=by
 obtain⟨cap,row,hc,hr,hm⟩:=Cv (P:=Tryz.prog) (w:=w) (t:=22) (u:=3) (ty:=22) (e:=9) (base:=base) (n:=n) Tryz.underlying22 Tryz.underlying3 rfl rfl h1 hn (by decide +kernel) rfl
 have h0:¬((n:Int)<0):=by omega
 have h2:(0:Int)<n:=by omega
 go_enter Tryz.func373,Tryz.ntmps373
 go_wp2_with (at_builtin;refine Lib.wpList_append_run _ rfl _ _ _ _ rfl _ _ rfl rfl _ _ hm ?_)
 all_goals go_ret
 exact⟨cap,hc,row,hr.trans (Nat.mul_one _),rfl,rfl⟩
theorem Sn(base:Option Addr)(w:World):Calls Tryz.prog 373 #[.slice base 0 0,.int .i64 0] w fun e w'=>e=.returned (.slice base 0 0)∧w'=w:=by
 go_enter Tryz.func373,Tryz.ntmps373
 go_wp2
 all_goals go_ret
 exact⟨rfl,rfl⟩
theorem Ye(n:Nat)(hn:n≤1073741824)(bn:List Ab.Obj)(Ω:Store):bA Tryz.prog 373 [.c (.aL []),.c (.d (.i .i64 n))] (bn::Ω)
 (fun r S'=>r=.c (.bK (0,bn.length) [])∧S'=(bn++[.tok 1 []])::Ω):=by
 refine⟨⟨_,Tryz.func373,by kernel_rfl,by kernel_rfl⟩,fun w σ β vs hS hv=> ?_⟩
 obtain⟨hl,h⟩:=hv
 obtain⟨v0,e0,⟨h0,a,m,h00⟩,_⟩:=h 0 _ rfl
 obtain⟨v1,e1,h1,_⟩:=h 1 _ rfl
 have h1':v1=.int .i64 n:=by cases h1;rfl
 subst h1'
 have hm:m=0:=by rw[h00] at h0;cases h0<;>rfl
 subst hm
 subst h00
 have hvs:vs=[.slice a 0 0,.int .i64 n]:=by
  match vs,hl,e0,e1 with
  |[x,y],_,e0,e1=>simp at e0 e1;rw[e0,e1]
 subst hvs
 cases β with
 |nil=>have:=hS.shape.1;simp at this
 |cons bo bΩ=>
 have hlen:bo.length=bn.length:=by
  obtain⟨gr,g1,g2⟩:=hS.shape.2 0 bn rfl
  simp at g1;rw[g1];exact g2
 by_cases hz:n=0
 ·subst hz
  refine(Sn a w).mono fun e w' ⟨he,hw⟩=> ?_
  subst hw
  obtain⟨hS',hk,hst⟩:=hS.push (o:=.tok 1 []) (h:=.slice a 0 0) (Grow.refl hS.live) hlen ⟨h0,by simp,a,0,rfl,by simp,.inl rfl⟩ (fun b hb=>by cases a<;>simp[owns,blk] at hb)
  refine⟨_,.c (.bK (0,bn.length) []),_,_,_,he,hS',hk,hst,⟨⟨h0,.tok 1 [],?_,fun aO es e=> ?_⟩,rfl⟩,rfl,rfl⟩
  ·rw[bJ]
  ·obtain⟨_,rfl⟩:=jR (lab:=none) e;exact⟨Nat.le_refl _,fun _=>by rw[←hlen,bJ]⟩
 ·refine(Vq a n (by omega) hn w).mono fun e w' ⟨cap,row,hc,hr,he,hw⟩=> ?_
  subst hw
  have hσ:σ w.heap.size=0:=(hS.live w.heap.size).resolve_left (by omega)
  have hg:Grow w σ {w.drew with heap:=w.heap.push (.cells row 9)} σ:=by
   refine⟨by simp,rfl,rfl,fun b hb=>⟨?_,rfl⟩,fun b=> ?_⟩
   ·simp only[Array.getElem?_push]
    rw[if_neg (by omega)]
   ·rcases hS.live b with hb|hb
    ·left;simp;omega
    ·exact .inr hb
  obtain⟨hS',hk,hst⟩:=hS.push (o:=.tok 1 []) (h:=.slice (some ⟨w.heap.size,0,none⟩) 0 cap) hg hlen ⟨.nil _ _,by simp,_,cap,rfl,by simp,.inr ⟨w.heap.size,0,row,9,rfl,by simp,by simp[hσ],by omega⟩⟩ (fun b hb=>by
   simp only[owns,blk] at hb
   split at hb
   ·cases hb
   ·cases hb;exact Nat.le_refl _)
  refine⟨_,.c (.bK (0,bn.length) []),_,_,_,he,hS',hk,hst,⟨⟨.nil _ _,.tok 1 [],?_,fun aO es e=> ?_⟩,rfl⟩,rfl,rfl⟩
  ·rw[bJ]
  ·obtain⟨_,rfl⟩:=jR (lab:=none) e;exact⟨Nat.le_refl _,fun _=>by rw[←hlen,bJ]⟩
theorem xM{xs:List (List UInt8)}:∀y∈xs.map encS,y.length=1:=fun y hy=>by
 obtain⟨z,_,rfl⟩:=List.mem_map.1 hy
 rfl
theorem Aw{α:Type}(xss:List (List α)){i:Nat}(hi:i<xss.length):(xss.take (i+1)).flatten.length=(xss.take i).flatten.length+xss[i].length:=by
 rw[List.take_succ_eq_append_getElem hi,List.flatten_append,List.length_append]
 simp only[List.flatten_cons,List.flatten_nil,List.append_nil]
theorem sK{α:Type}(xss:List (List α))(i:Nat):(xss.take i).flatten.length≤xss.flatten.length:=by
 conv=>rhs;rw[←List.take_append_drop i xss]
 rw[List.flatten_append,List.length_append]
 omega
theorem Sq(xss:List (List (List UInt8)))(hl:xss.length≤1073741824)(hf:xss.flatten.length≤1073741824):aH Tryz.prog 354 [.c (.d (.sl (xss.map fun a=>[.sl (a.map encS)])))] (.c (.d (.sl (xss.flatten.map encS)))):=fun S=>by
 refine aC (rs:=[.tmp 2]) Tryz.checked.mixed Tryz.func354 Tryz.ntmps354 rfl rfl rfl rfl rfl ?_
 simp -implicitDefEqProofs (disch:=omega) only[go_sem]
 refine aV (ι:=Nat) Tryz.checked.mixed rfl [0,3,9,10,11] (fun i=>[.c (.d (.sl (xss.map fun a=>[.sl (a.map encS)]))),.c (.d (.i .i64 (xss.take i).flatten.length)),.c (.d (.sl (xss.map fun a=>[.sl (a.map encS)]))),.c (.d (.i .i64 xss.length)),.c (.d (.i .i64 i))]) (fun _=>[]::S)
  (fun i=>i≤xss.length) (fun i=>xss.length-i) 0 rfl rfl (Nat.zero_le _) ?_
 rintro i p1
 have hfi:=sK xss i
 by_cases hi:i<xss.length
 ·have hs:=Aw xss hi
  have Yf:=sK xss (i+1)
  simp -implicitDefEqProofs (disch:=omega) only[go_sem]
  with_reducible refine aA (fun hb=> ?_) (fun hb=> ?_)<;>have h:=hb<;>(try simp only[wf_preprocess] at h)<;>simp -implicitDefEqProofs (disch:=omega) only[go_sem,hb]<;>(repeat(with_reducible refine And.intro ?_ ?_;focus first|omega|rfl|assumption|exact⟨_,rfl,rfl⟩|(simp;omega)|(simp;done)))
  ·(repeat(with_reducible refine And.intro ?_ ?_;focus first|omega|rfl|assumption|exact⟨_,rfl,rfl⟩|(simp;omega)|(simp;done)))
   with_reducible refine aA (fun hb=> ?_) (fun hb=> ?_)<;>have h:=hb<;>(try simp only[wf_preprocess] at h)<;>simp -implicitDefEqProofs (disch:=omega) only[go_sem,hb]<;>(repeat(with_reducible refine And.intro ?_ ?_;focus first|omega|rfl|assumption|exact⟨_,rfl,rfl⟩|(simp;omega)|(simp;done)))
   ·omega
   ·refine bH (i+1) (by omega) ?_ rfl (by omega)
    rw[hs];rfl
  ·omega
 have hi:i=xss.length:=by omega
 subst hi
 simp -implicitDefEqProofs (disch:=omega) only[go_sem]
 with_reducible refine aA (fun hb=> ?_) (fun hb=> ?_)<;>have h:=hb<;>(try simp only[wf_preprocess] at h)<;>simp -implicitDefEqProofs (disch:=omega) only[go_sem,hb]<;>(repeat(with_reducible refine And.intro ?_ ?_;focus first|omega|rfl|assumption|exact⟨_,rfl,rfl⟩|(simp;omega)|(simp;done)))
 ·omega
 rw[List.take_length]
 clear hfi
 refine bf rfl (Ye xss.flatten.length hf [] S) ?_
 simp -implicitDefEqProofs (disch:=omega) only[go_sem]
 refine aV (ι:=Nat) Tryz.checked.mixed rfl [6,25,26,27] (fun i=>[.c (.bK (0,0) ((xss.take i).flatten.map encS)),.c (.d (.sl (xss.map fun a=>[.sl (a.map encS)]))),.c (.d (.i .i64 xss.length)),.c (.d (.i .i64 i))]) (fun i=>[.tok 1 ((xss.take i).flatten.map encS)]::S)
  (fun i=>i≤xss.length) (fun i=>xss.length-i) 0 rfl rfl (Nat.zero_le _) ?_
 rintro i p1
 have hfi:=sK xss i
 by_cases hi:i<xss.length
 ·have hs:=Aw xss hi
  have Yf:=sK xss (i+1)
  have e:(xss.take (i+1)).flatten.map encS=(xss.take i).flatten.map encS++xss[i].map encS:=by
   rw[List.take_succ_eq_append_getElem hi,List.flatten_append,List.map_append]
   simp only[List.flatten_cons,List.flatten_nil,List.append_nil]
  simp -implicitDefEqProofs (disch:=omega) only[go_sem]
  with_reducible refine aA (fun hb=> ?_) (fun hb=> ?_)<;>have h:=hb<;>(try simp only[wf_preprocess] at h)<;>simp -implicitDefEqProofs (disch:=omega) only[go_sem,hb]<;>(repeat(with_reducible refine And.intro ?_ ?_;focus first|omega|rfl|assumption|exact⟨_,rfl,rfl⟩|(simp;omega)|(simp;done)))
  ·(repeat(with_reducible refine And.intro ?_ ?_;focus first|omega|rfl|assumption|exact⟨_,rfl,rfl⟩|(simp;omega)|(simp;done)))
   refine⟨xM,⟨_,rfl,rfl⟩,by omega,?_⟩
   exact bH (i+1) (by omega) (by rw[e];rfl) (by rw[e]) (by omega)
  ·omega
 ·have hi:i=xss.length:=by omega
  subst hi
  simp -implicitDefEqProofs (disch:=omega) only[go_sem]
  with_reducible refine aA (fun hb=> ?_) (fun hb=> ?_)<;>have h:=hb<;>(try simp only[wf_preprocess] at h)<;>simp -implicitDefEqProofs (disch:=omega) only[go_sem,hb]<;>(repeat(with_reducible refine And.intro ?_ ?_;focus first|omega|rfl|assumption|exact⟨_,rfl,rfl⟩|(simp;omega)|(simp;done)))
  ·omega
  rw[List.take_length]
theorem Sr(c:Nat)(w:World):Calls Tryz.prog 353 #[.slice none 0 c] w fun e w'=>e=.returned (.slice none 0 0)∧w'=w:=by
 have hb:(binOp .eql 22 (.slice none 0 c) (.slice none 0 0)).run Tryz.prog w=.ok (.bool true) w:=by
  simp[binOp,run_equal_slice_nil w _ _ _ _ _ Tryz.underlying22]
 go_enter Tryz.func353,Tryz.ntmps353
 go_wp2
 all_goals go_ret
 exact⟨rfl,rfl⟩
theorem Sv(w w':World)(a:Addr)(n c:Nat)(r:Value)(hm:(Builtin.append_ #[22,22] 22 #[.slice (some ⟨w.heap.size,0,none⟩) 0 0,.slice (some a) n c]).run Tryz.prog (w.alloc (.cells #[] 9))=.ok r w'):
 Calls Tryz.prog 353 #[.slice (some a) n c] w fun e w''=>e=.returned r∧w''=w':=by
 have hb:(binOp .eql 22 (.slice (some a) n c) (.slice none 0 0)).run Tryz.prog w=.ok (.bool false) w:=by
  simp[binOp,run_equal_slice_nil w _ _ _ _ _ Tryz.underlying22]
 go_enter Tryz.func353,Tryz.ntmps353
 go_wp2_with (at_builtin;refine Lib.wpList_append_run _ rfl _ _ _ _ rfl _ _ rfl rfl _ _ hm ?_)
 all_goals go_ret
 exact⟨rfl,rfl⟩
theorem Vr(xs:List (List UInt8))(hx:xs.length≤1073741824)(bn:List Ab.Obj)(Ω:Store):bA Tryz.prog 353 [.c (.d (.sl (xs.map encS)))] (bn::Ω)
 (fun r S'=>r=.c (.bK (0,bn.length) (xs.map encS))∧S'=(bn++[.tok 1 (xs.map encS)])::Ω):=by
 have ad3:(xs.map encS).length≤1073741824:=by simpa using hx
 have h1:=xM (xs:=xs)
 generalize xs.map encS=es at *
 refine⟨⟨_,Tryz.func353,by kernel_rfl,by kernel_rfl⟩,fun w σ β vs hS hv=> ?_⟩
 obtain⟨hl,h⟩:=hv
 obtain⟨v,e0,hd,_⟩:=h 0 _ rfl
 have hd:bU w σ (.sl es) v:=hd
 have hvs:vs=[v]:=by
  match vs,hl,e0 with
  |[x],_,e0=>simp at e0;rw[e0]
 subst hvs
 cases β with
 |nil=>have:=hS.shape.1;simp at this
 |cons bo bΩ=>
 have hlen:bo.length=bn.length:=by
  obtain⟨gr,g1,g2⟩:=hS.shape.2 0 bn rfl
  simp at g1;rw[g1];exact g2
 have hv:∃a c,v=.slice a es.length c∧(a=none→es=[]):=by
  cases hd with
  |nil a cap=>exact⟨a,cap,rfl,fun _=>rfl⟩
  |sl b off cap aO es vals c t fz=>exact⟨_,_,rfl,fun h=>by cases h⟩
 obtain⟨a,c,rfl,ha⟩:=hv
 cases a with
 |none=>
  have:=ha rfl
  subst this
  refine(Sr c w).mono fun e w' ⟨he,hw⟩=> ?_
  subst hw
  obtain⟨hS',hk,hst⟩:=hS.push (o:=.tok 1 []) (h:=.slice none 0 0) (Grow.refl hS.live) hlen ⟨.nil _ _,by simp,none,0,rfl,by simp,.inl rfl⟩ (fun b hb=>by simp[owns,blk] at hb)
  refine⟨_,.c (.bK (0,bn.length) []),_,_,_,he,hS',hk,hst,⟨⟨.nil _ _,.tok 1 [],?_,fun aO es e=> ?_⟩,rfl⟩,rfl,rfl⟩
  ·rw[bJ]
  ·obtain⟨_,rfl⟩:=jR (lab:=none) e;exact⟨Nat.le_refl _,fun _=>by rw[←hlen,bJ]⟩
 |some a=>
  have hσ:σ w.heap.size=0:=(hS.live w.heap.size).resolve_left (by omega)
  have hg:Grow w σ (w.alloc (.cells #[] 9)) σ:=by
   have hh:(w.alloc (.cells #[] 9)).heap=w.heap.push (.cells #[] 9):=rfl
   refine⟨by rw[hh];simp,rfl,rfl,fun b hb=>⟨?_,rfl⟩,fun b=> ?_⟩
   ·rw[hh,Array.getElem?_push]
    rw[if_neg (by omega)]
   ·rcases hS.live b with hb|hb
    ·left;rw[hh];simp;omega
    ·exact .inr hb
  have vN:fM (w.alloc (.cells #[] 9)) σ [] [] (.tok 1 []) (.slice (some ⟨w.heap.size,0,none⟩) 0 0):=⟨.nil _ _,by simp,_,0,rfl,by simp,.inl rfl⟩
  obtain⟨r,w',σ',hr,hro,hsz,hos,hout,hn,hli,vM,hbk,hzero,h1c⟩:=sQ (lab:=none) (P:=Tryz.prog) (w:=w.alloc (.cells #[] 9)) (σ:=σ) (S:=[]) (β:=[]) (t:=22) (u:=22) (ty:=22) (e:=9) (size:=1) (es:=[]) (ys:=es) hg.live Tryz.underlying22 (.inl ⟨_,Tryz.underlying22⟩) ⟨[.d (.s [])],by kernel_rfl,rfl⟩ rfl (by decide +kernel) vN (Bn (bU.mono hg.near hd) h1) (by simpa using ad3)
  rw[List.nil_append] at hro hbk
  refine(Sv w w' a es.length c r hr).mono fun e w'' ⟨he,hw⟩=> ?_
  subst hw
  have hg2:Grow (w.alloc (.cells #[] 9)) σ w'' σ':=⟨hsz,hos,hout,fun b hb=>vM b hb (by simp[fU,owns,blk]),hli⟩
  have hg3:=hg.trans hg2
  obtain⟨hS',hk,hst⟩:=hS.push (o:=.tok 1 es) (h:=r) hg3 hlen (hro _ _) (fun b hb=>by
   rcases hbk b hb with h|h
   ·simp[fU,owns,blk] at h
   ·exact Nat.le_trans hg.size h)
  refine⟨_,.c (.bK (0,bn.length) es),_,_,_,he,hS',hk,hst,⟨⟨(hro [] []).1,.tok 1 es,?_,fun aO es' e=> ?_⟩,h1c⟩,rfl,rfl⟩
  ·rw[bJ]
  ·obtain⟨_,rfl⟩:=jR (lab:=none) e;exact⟨Nat.le_refl _,fun _=>by rw[←hlen,bJ]⟩
end Go.Proofs.YtlmhknhlmicmeaaGreatDoor
namespace Go.Ab
theorem bA.args{P:Program}{f:FuncId}{args args':List V}{S:Store}{post:V→Store→Prop}(h:bA P f args' S post)(hl:oC args args'):bA P f args S post:=h.weaken hl.length fun j x y hx hy w σ β v hr=>hl.at j x y hx hy w σ S β v hr
theorem mU(n:Nat)(es:List (List D)):Less (.c (.ig n es)) (.c (.d (.sl es))):=fun w σ S β v h=>⟨qP h.1.1,h.2⟩
end Go.Ab
namespace Go.Proofs.YtlmhknhlmicmeaaGreatDoor
open Go Go.Ab
theorem jJ(xs:List (List UInt8))(hx:xs.length≤1073741824)(n q:Nat)(bn:List Ab.Obj)(Ω:Store):bA Tryz.prog 173 [.c (.d (.sl (xs.map encS)))] (bn::Ω)
 (fun r S'=>r=.c (.bK (0,bn.length+1) (lx (aX xs) q))∧S'=(bn++[.seed n,.eu n 2 (lx (aX xs) q)])::Ω):=by
 refine RD (n) (rs:=[.tmp 2]) Tryz.checked.mixed Tryz.func173 Tryz.ntmps173 rfl rfl rfl rfl rfl ?_
 simp -implicitDefEqProofs (disch:=omega) only[go_sem]
 (repeat(with_reducible refine And.intro ?_ ?_;focus first|omega|rfl|assumption|exact⟨_,rfl,rfl⟩|(simp;omega)|(simp;done)))
 refine oM n 3 2 [] (.inl rfl) (by simp) ?_
 refine aV (ι:=Nat) Tryz.checked.mixed rfl [3,7,8,9] (fun i=>[.c (.bK (0,1) (lx ((aX xs).take i) q)),.c (.d (.sl (xs.map encS))),.c (.d (.i .i64 xs.length)),.c (.d (.i .i64 i))]) (fun i=>[.seed n,.eu n 2 (lx ((aX xs).take i) q)]::bn::Ω)
  (fun i=>i≤xs.length) (fun i=>xs.length-i) 0 rfl rfl (Nat.zero_le _) ?_
 intro i hi
 simp -implicitDefEqProofs (disch:=omega) only[go_sem]
 with_reducible refine aA (fun hb=> ?_) (fun hb=> ?_)<;>have h:=hb<;>(try simp only[wf_preprocess] at h)<;>simp -implicitDefEqProofs (disch:=omega) only[go_sem,hb]<;>(repeat(with_reducible refine And.intro ?_ ?_;focus first|omega|rfl|assumption|exact⟨_,rfl,rfl⟩|(simp;omega)|(simp;done)))
 ·have hi':i<xs.length:=by omega
  have hw:i<(aX xs).length:=by rw[kJ];exact hi'
  have hg:(aX xs)[i]=bg xs[i]:=by simp[aX]
  have hl:(lx ((aX xs).take i) q).length≤i:=by rw[gD];exact List.length_take_le _ _
  (repeat(with_reducible refine And.intro ?_ ?_;focus first|omega|rfl|assumption|exact⟨_,rfl,rfl⟩|(simp;omega)|(simp;done)))
  refine ay (eT xs[i] (q+gH ((aX xs).take i))) ?_
  simp -implicitDefEqProofs (disch:=omega) only[go_sem]
  (repeat(with_reducible refine And.intro ?_ ?_;focus first|omega|rfl|assumption|exact⟨_,rfl,rfl⟩|(simp;omega)|(simp;done)))
  have hs:=Ii hw q
  rw[hg,sH] at hs
  rw[hs]
  exact bH (i+1) (by omega) rfl rfl (by omega)
 ·have hi':i=(aX xs).length:=by rw[kJ];omega
  rw[hi',List.take_length]
  exact⟨rfl,rfl⟩
theorem Vs(base:Option Addr)(n:Nat)(h1:1≤n)(hn:n≤1073741824)(w:World):Calls Tryz.prog 288 #[.slice base 0 0,.int .i64 n] w fun e w'=>
 ∃cap row,n≤cap∧row.size=cap*2∧e=.returned (.slice (some ⟨w.heap.size,0,none⟩) 0 cap)∧w'={w.drew with heap:=w.heap.push (.cells row 32)}:=by
 obtain⟨cap,row,hc,hr,hm⟩:=Cv (P:=Tryz.prog) (w:=w) (t:=30) (u:=3) (ty:=30) (e:=32) (base:=base) (n:=n) Tryz.underlying30 Tryz.underlying3 rfl rfl h1 hn (by decide +kernel) rfl
 have h0:¬((n:Int)<0):=by omega
 have h2:(0:Int)<n:=by omega
 go_enter Tryz.func288,Tryz.ntmps288
 go_wp2_with (at_builtin;refine Lib.wpList_append_run _ rfl _ _ _ _ rfl _ _ rfl rfl _ _ hm ?_)
 all_goals go_ret
 exact⟨cap,hc,row,hr,rfl,rfl⟩
theorem Sw(base:Option Addr)(w:World):Calls Tryz.prog 288 #[.slice base 0 0,.int .i64 0] w fun e w'=>e=.returned (.slice base 0 0)∧w'=w:=by
 go_enter Tryz.func288,Tryz.ntmps288
 go_wp2
 all_goals go_ret
 exact⟨rfl,rfl⟩
theorem Vt(m n:Nat)(hn:n≤1073741824)(bn:List Ab.Obj)(Ω:Store):bA Tryz.prog 288 [.c (.aL []),.c (.d (.i .i64 n))] (bn::Ω)
 (fun r S'=>r=.c (.bK (0,bn.length) [])∧S'=(bn++[.eu m 2 []])::Ω):=by
 refine⟨⟨_,Tryz.func288,by kernel_rfl,by kernel_rfl⟩,fun w σ β vs hS hv=> ?_⟩
 obtain⟨hl,h⟩:=hv
 obtain⟨v0,e0,⟨h0,a,m',h00⟩,_⟩:=h 0 _ rfl
 obtain⟨v1,e1,h1,_⟩:=h 1 _ rfl
 have h1':v1=.int .i64 n:=by cases h1;rfl
 subst h1'
 have hm:m'=0:=by rw[h00] at h0;cases h0<;>rfl
 subst hm
 subst h00
 have hvs:vs=[.slice a 0 0,.int .i64 n]:=by
  match vs,hl,e0,e1 with
  |[x,y],_,e0,e1=>simp at e0 e1;rw[e0,e1]
 subst hvs
 cases β with
 |nil=>have:=hS.shape.1;simp at this
 |cons bo bΩ=>
 have hlen:bo.length=bn.length:=by
  obtain⟨gr,g1,g2⟩:=hS.shape.2 0 bn rfl
  simp at g1;rw[g1];exact g2
 by_cases hz:n=0
 ·subst hz
  refine(Sw a w).mono fun e w' ⟨he,hw⟩=> ?_
  subst hw
  obtain⟨hS',hk,hst⟩:=hS.push (o:=.eu m 2 []) (h:=.slice a 0 0) (Grow.refl hS.live) hlen ⟨h0,by simp,a,0,rfl,by simp,.inl ⟨rfl,.pK _ _ _⟩⟩ (fun b hb=>by cases a<;>simp[owns,blk] at hb)
  refine⟨_,.c (.bK (0,bn.length) []),_,_,_,he,hS',hk,hst,⟨⟨h0,.eu m 2 [],?_,fun aO es e=> ?_⟩,rfl⟩,rfl,rfl⟩
  ·rw[bJ]
  ·obtain⟨_,rfl⟩:=jR (lab:=some m) e;exact⟨Nat.le_refl _,fun _=>by rw[←hlen,bJ]⟩
 ·refine(Vs a n (by omega) hn w).mono fun e w' ⟨cap,row,hc,hr,he,hw⟩=> ?_
  subst hw
  have hσ:σ w.heap.size=0:=(hS.live w.heap.size).resolve_left (by omega)
  have hg:Grow w σ {w.drew with heap:=w.heap.push (.cells row 32)} σ:=by
   refine⟨by simp,rfl,rfl,fun b hb=>⟨?_,rfl⟩,fun b=> ?_⟩
   ·simp only[Array.getElem?_push]
    rw[if_neg (by omega)]
   ·rcases hS.live b with hb|hb
    ·left;simp;omega
    ·exact .inr hb
  obtain⟨hS',hk,hst⟩:=hS.push (o:=.eu m 2 []) (h:=.slice (some ⟨w.heap.size,0,none⟩) 0 cap) hg hlen ⟨.nil _ _,by simp,_,cap,rfl,by simp,.inr ⟨by simp;omega,w.heap.size,0,row,32,rfl,by simp,by simp[hσ],by omega⟩⟩ (fun b hb=>by
   simp only[owns,blk] at hb
   split at hb
   ·cases hb
   ·cases hb;exact Nat.le_refl _)
  refine⟨_,.c (.bK (0,bn.length) []),_,_,_,he,hS',hk,hst,⟨⟨.nil _ _,.eu m 2 [],?_,fun aO es e=> ?_⟩,rfl⟩,rfl,rfl⟩
  ·rw[bJ]
  ·obtain⟨_,rfl⟩:=jR (lab:=some m) e;exact⟨Nat.le_refl _,fun _=>by rw[←hlen,bJ]⟩
theorem OX(m l:Nat)(xss:List (Nat×List (List D)))(hl:xss.length≤1073741824)(hr:∀p∈xss,∀r∈p.2,r.length=2)(hf:(xss.map (·.2)).flatten.length≤1073741824):aH Tryz.prog 213 [.c (.ig l (xss.map fun p=>[.ol p.1 p.2]))] (.c (.d (.ol m (xss.map (·.2)).flatten))):=fun S=>by
 obtain⟨ys,hys⟩:∃ys:List (List (List D)),ys=xss.map (·.2):=⟨_,rfl⟩
 rw[←hys] at hf ⊢
 have hyl:ys.length=xss.length:=by rw[hys,List.length_map]
 have hyi:∀i (hi:i<xss.length),ys[i]'(by omega)=xss[i].2:=fun i hi=>by simp[hys]
 have Yr:∀i (hi:i<xss.length),∀r∈xss[i].2,r.length=2:=fun i hi=>hr _ (List.getElem_mem hi)
 refine kM (m) (rs:=[.tmp 2]) Tryz.checked.mixed Tryz.func213 Tryz.ntmps213 rfl rfl rfl rfl rfl ?_
 simp -implicitDefEqProofs (disch:=omega) only[go_sem]
 refine aV (ι:=Nat) Tryz.checked.mixed rfl [0,3,9,10,11] (fun i=>[.c (.ig l (xss.map fun p=>[.ol p.1 p.2])),.c (.d (.i .i64 (ys.take i).flatten.length)),.c (.ig l (xss.map fun p=>[.ol p.1 p.2])),.c (.d (.i .i64 xss.length)),.c (.d (.i .i64 i))]) (fun _=>[.seed m]::S)
  (fun i=>i≤xss.length) (fun i=>xss.length-i) 0 rfl rfl (Nat.zero_le _) ?_
 rintro i p1
 have hfi:=sK ys i
 by_cases hi:i<xss.length
 ·have hs:=Aw ys (i:=i) (by omega)
  rw[hyi i hi] at hs
  have Yf:=sK ys (i+1)
  simp -implicitDefEqProofs (disch:=omega) only[go_sem]
  with_reducible refine aA (fun hb=> ?_) (fun hb=> ?_)<;>have h:=hb<;>(try simp only[wf_preprocess] at h)<;>simp -implicitDefEqProofs (disch:=omega) only[go_sem,hb]<;>(repeat(with_reducible refine And.intro ?_ ?_;focus first|omega|rfl|assumption|exact⟨_,rfl,rfl⟩|(simp;omega)|(simp;done)))
  ·(repeat(with_reducible refine And.intro ?_ ?_;focus first|omega|rfl|assumption|exact⟨_,rfl,rfl⟩|(simp;omega)|(simp;done)))
   with_reducible refine aA (fun hb=> ?_) (fun hb=> ?_)<;>have h:=hb<;>(try simp only[wf_preprocess] at h)<;>simp -implicitDefEqProofs (disch:=omega) only[go_sem,hb]<;>(repeat(with_reducible refine And.intro ?_ ?_;focus first|omega|rfl|assumption|exact⟨_,rfl,rfl⟩|(simp;omega)|(simp;done)))
   ·omega
   ·refine bH (i+1) (by omega) ?_ rfl (by omega)
    rw[hs];rfl
  ·omega
 have hi:i=xss.length:=by omega
 subst hi
 simp -implicitDefEqProofs (disch:=omega) only[go_sem]
 with_reducible refine aA (fun hb=> ?_) (fun hb=> ?_)<;>have h:=hb<;>(try simp only[wf_preprocess] at h)<;>simp -implicitDefEqProofs (disch:=omega) only[go_sem,hb]<;>(repeat(with_reducible refine And.intro ?_ ?_;focus first|omega|rfl|assumption|exact⟨_,rfl,rfl⟩|(simp;omega)|(simp;done)))
 ·omega
 rw[←hyl,List.take_length]
 clear hfi
 refine bf rfl (Vt m ys.flatten.length hf [.seed m] S) ?_
 simp -implicitDefEqProofs (disch:=omega) only[go_sem]
 refine aV (ι:=Nat) Tryz.checked.mixed rfl [6,25,26,27] (fun i=>[.c (.bK (0,1) (ys.take i).flatten),.c (.ig l (xss.map fun p=>[.ol p.1 p.2])),.c (.d (.i .i64 xss.length)),.c (.d (.i .i64 i))]) (fun i=>[.seed m,.eu m 2 (ys.take i).flatten]::S)
  (fun i=>i≤xss.length) (fun i=>xss.length-i) 0 (by rw[←hyl];rfl) rfl (Nat.zero_le _) ?_
 rintro i p1
 have hfi:=sK ys i
 by_cases hi:i<xss.length
 ·have hs:=Aw ys (i:=i) (by omega)
  rw[hyi i hi] at hs
  have Yf:=sK ys (i+1)
  have e:(ys.take (i+1)).flatten=(ys.take i).flatten++xss[i].2:=by
   rw[List.take_succ_eq_append_getElem (by omega),List.flatten_append,hyi i hi]
   simp only[List.flatten_cons,List.flatten_nil,List.append_nil]
  have vH:=Yr i hi
  simp -implicitDefEqProofs (disch:=omega) only[go_sem]
  with_reducible refine aA (fun hb=> ?_) (fun hb=> ?_)<;>have h:=hb<;>(try simp only[wf_preprocess] at h)<;>simp -implicitDefEqProofs (disch:=omega) only[go_sem,hb]<;>(repeat(with_reducible refine And.intro ?_ ?_;focus first|omega|rfl|assumption|exact⟨_,rfl,rfl⟩|(simp;omega)|(simp;done)))
  ·(repeat(with_reducible refine And.intro ?_ ?_;focus first|omega|rfl|assumption|exact⟨_,rfl,rfl⟩|(simp;omega)|(simp;done)))
   exact bH (i+1) (by omega) (by rw[e];rfl) (by rw[e]) (by omega)
  ·omega
 ·have hi:i=ys.length:=by omega
  simp -implicitDefEqProofs (disch:=omega) only[go_sem]
  with_reducible refine aA (fun hb=> ?_) (fun hb=> ?_)<;>have h:=hb<;>(try simp only[wf_preprocess] at h)<;>simp -implicitDefEqProofs (disch:=omega) only[go_sem,hb]<;>(repeat(with_reducible refine And.intro ?_ ?_;focus first|omega|rfl|assumption|exact⟨_,rfl,rfl⟩|(simp;omega)|(simp;done)))
  ·omega
  rw[hi,List.take_length]
end Go.Proofs.YtlmhknhlmicmeaaGreatDoor
namespace Go.Ab
theorem gM{x:au}{k:Int}(h:x.aG=k):fJ x.aG x.aY x.fName x.fType=fJ k x.aY x.fName x.fType:=by rw[h]
theorem JC{l:List au}{t:au}(h:t∈l):t.sz≤oF l:=by
 rw[←EC];exact dY (List.mem_map_of_mem h)
theorem GA{l:List aF}{t:aF}(h:t∈l):t.sz≤vX l:=by
 rw[←ED];exact dY (List.mem_map_of_mem h)
theorem yX:∀{xs:List au},iI xs=true↔∀t∈xs,fT t=true
 |[]=>by simp[iI]
 |t::ts=>by simp[iI,yX (xs:=ts)]
theorem Ay:∀{xs:List aF},kN xs=true↔∀t∈xs,qI t=true
 |[]=>by simp[kN]
 |t::ts=>by simp[kN,Ay (xs:=ts)]
theorem iE{x:au}(h1:x.aG≠1)(h2:x.aG≠2)(h3:x.aG≠3)(h:x.aG=4∨x.aG=5∨x.aG=6∨x.aG=8∨x.aG=9∨x.aG=10∨x.aG=11∨x.aG=12):
 dW x=fC (fJ x.aG x.aY x.fName x.fType++x.fArgs.map dW):=by rw[Cg,if_neg h1,if_neg h2,if_neg h3,if_pos h,List.append_nil]
end Go.Ab
namespace Go.Proofs.YtlmhknhlmicmeaaGreatDoor
open Go Go.Ab
theorem GD:∀N:Nat,∀x:au,SizeOf.sizeOf x<N→∀n:Nat,fT x=true→x.sz≤4194304→aH Tryz.prog 112 [x.v] (.agg [.d (.s (dW x).aT),.d (.ol n (lx (dW x).ak (n+1)))])
 |0=>fun x h=>by omega
 |N+1=>by
  have ih:=GD N
  intro x hn n hok hsz S
  have iA:=au.fA x
  have yh:=au.lN x
  have hzz:=rO x
  rw[sG,Bool.and_eq_true,Bool.and_eq_true] at hok
  obtain⟨hfi,hoa,Nh⟩:=hok
  have hfi:=iB hfi
  have hoa:=yX.1 hoa
  have Nh:=Ay.1 Nh
  obtain⟨qa,tK⟩:∃qa,qa=n+1+gH (fJ x.aG x.aY x.fName x.fType):=⟨_,rfl⟩
  obtain⟨T,hT⟩:∃T:Nat→List (List D),T=fun i=>lx ((x.fArgs.map dW).take i) qa:=⟨_,rfl⟩
  have hT0:T 0=[]:=by rw[hT];rfl
  have nC:∀i,(T i).length≤i:=fun i=>by rw[hT];simp only[gD];exact List.length_take_le _ _
  have hTr:∀i,∀r∈T i,r.length=2:=fun i=>by rw[hT];exact lT
  have hTs:∀i (hi:i<x.fArgs.length),T i++[[.s (dW x.fArgs[i]).aT,.ol (qa+gH ((x.fArgs.map dW).take i)) (lx (dW x.fArgs[i]).ak (qa+gH ((x.fArgs.map dW).take i)+1))]]=T (i+1):=fun i hi=>by
   have:=Aq (l:=x.fArgs.map dW) (i:=i) (by rw[List.length_map];exact hi) qa
   rw[List.getElem_map] at this
   rw[hT];exact this
  have hTe:T x.fArgs.length=lx (x.fArgs.map dW) qa:=by rw[hT];simp only;rw[List.take_of_length_le (by simp)]
  clear hT
  refine kM (n) (rs:=[.cell 2 32]) Tryz.checked.mixed Tryz.func112 Tryz.ntmps112 rfl rfl rfl rfl rfl ?_
  simp -implicitDefEqProofs (disch:=omega) only[go_sem]
  (repeat(with_reducible refine And.intro ?_ ?_;focus first|omega|rfl|assumption|exact⟨_,rfl,rfl⟩|(simp;omega)|(simp;done)))
  refine oM n 3 2 [] (.inl rfl) (by simp) ?_
  refine aV (ι:=Nat) Tryz.checked.mixed rfl [1,2,3,11,12,13] (fun i=>[.c (.ptr (0,1) 0),.c (.ptr (0,2) 0),.c (.bK (0,3) (T i)),.c (.d (.sl (x.fArgs.map au.enc))),.c (.d (.i .i64 x.fArgs.length)),.c (.d (.i .i64 i))])
   (fun i=>[.seed n,.box [.d (.i .i64 x.aG),.d (.s x.aY),.d (.s x.fName),.d (.i .i64 x.fN),.d (.i .i64 x.fType.aG),.d (.s x.fType.fName),.d (.sl (x.fType.fArgs.map aj.enc)),.d (.sl (x.fArgs.map au.enc)),.d (.sl (x.aI.map aF.enc))],.box [.d (.s []),.aL []],.eu n 2 (T i)]::S)
   (fun i=>i≤x.fArgs.length) (fun i=>x.fArgs.length-i) 0 (by rw[hT0];rfl) (by rw[hT0];rfl) (Nat.zero_le _) ?_
  intro i hi
  have hl:=nC i
  simp -implicitDefEqProofs (disch:=omega) only[go_sem]
  with_reducible refine aA (fun hb=> ?_) (fun hb=> ?_)<;>have h:=hb<;>(try simp only[wf_preprocess] at h)<;>simp -implicitDefEqProofs (disch:=omega) only[go_sem,hb]<;>(repeat(with_reducible refine And.intro ?_ ?_;focus first|omega|rfl|assumption|exact⟨_,rfl,rfl⟩|(simp;omega)|(simp;done)))
  ·have hi':i<x.fArgs.length:=by omega
   have hm:=List.getElem_mem hi'
   have Yv:=JC hm
   have hs:=hTs i hi'
   (repeat(with_reducible refine And.intro ?_ ?_;focus first|omega|rfl|assumption|exact⟨_,rfl,rfl⟩|(simp;omega)|(simp;done)))
   refine ay (ih x.fArgs[i] (by have:=List.sizeOf_lt_of_mem hm;omega) (qa+gH ((x.fArgs.map dW).take i)) (hoa _ hm) (by omega)) ?_
   simp -implicitDefEqProofs (disch:=omega) only[go_sem]
   (repeat(with_reducible refine And.intro ?_ ?_;focus first|omega|rfl|assumption|exact⟨_,rfl,rfl⟩|(simp;omega)|(simp;done)))
   rw[hs]
   exact dV 4 (by decide) (i+1) (by omega) rfl rfl rfl rfl (by omega)
  have hi':i=x.fArgs.length:=by omega
  subst hi'
  clear hTs hi h hb
  have hTT:=hTr x.fArgs.length
  have hxe:=Cg x
  with_reducible refine aA (fun hb=> ?_) (fun hb=> ?_)<;>have h:=hb<;>(try simp only[wf_preprocess] at h)<;>simp -implicitDefEqProofs (disch:=omega) only[go_sem,hb]<;>(repeat(with_reducible refine And.intro ?_ ?_;focus first|omega|rfl|assumption|exact⟨_,rfl,rfl⟩|(simp;omega)|(simp;done)))
  ·rw[if_pos h] at hxe
   rw[hxe]
   have hb:=hfi.2.2.2.1
   rw[if_pos h] at hb
   refine ay (EG x.fN (by omega) (by omega)) ?_
   simp -implicitDefEqProofs (disch:=omega) only[go_sem]
   refine ay (eT _ n) ?_
   simp -implicitDefEqProofs (disch:=omega) only[go_sem]
   rfl
  have k1:=h
  rw[if_neg h] at hxe
  with_reducible refine aA (fun hb=> ?_) (fun hb=> ?_)<;>have h:=hb<;>(try simp only[wf_preprocess] at h)<;>simp -implicitDefEqProofs (disch:=omega) only[go_sem,hb]<;>(repeat(with_reducible refine And.intro ?_ ?_;focus first|omega|rfl|assumption|exact⟨_,rfl,rfl⟩|(simp;omega)|(simp;done)))
  ·rw[if_pos h] at hxe
   rw[hxe]
   with_reducible refine aA (fun hb=> ?_) (fun hb=> ?_)<;>have h:=hb<;>(try simp only[wf_preprocess] at h)<;>simp -implicitDefEqProofs (disch:=omega) only[go_sem,hb]<;>(repeat(with_reducible refine And.intro ?_ ?_;focus first|omega|rfl|assumption|exact⟨_,rfl,rfl⟩|(simp;omega)|(simp;done)))
   ·rw[if_pos h]
    refine ay (eT _ n) ?_
    simp -implicitDefEqProofs (disch:=omega) only[go_sem]
    rfl
   ·rw[if_neg h]
    refine ay (eT _ n) ?_
    simp -implicitDefEqProofs (disch:=omega) only[go_sem]
    rfl
  have k2:=h
  rw[if_neg h] at hxe
  with_reducible refine aA (fun hb=> ?_) (fun hb=> ?_)<;>have h:=hb<;>(try simp only[wf_preprocess] at h)<;>simp -implicitDefEqProofs (disch:=omega) only[go_sem,hb]<;>(repeat(with_reducible refine And.intro ?_ ?_;focus first|omega|rfl|assumption|exact⟨_,rfl,rfl⟩|(simp;omega)|(simp;done)))
  ·rw[if_pos h] at hxe
   rw[hxe]
   refine ay (eT _ n) ?_
   simp -implicitDefEqProofs (disch:=omega) only[go_sem]
   rfl
  have k3:=h
  clear hxe
  with_reducible refine aA (fun hb=> ?_) (fun hb=> ?_)<;>have h:=hb<;>(try simp only[wf_preprocess] at h)<;>simp -implicitDefEqProofs (disch:=omega) only[go_sem,hb]<;>(repeat(with_reducible refine And.intro ?_ ?_;focus first|omega|rfl|assumption|exact⟨_,rfl,rfl⟩|(simp;omega)|(simp;done)))
  ·have hx:=iE k1 k2 k3 (by omega)
   have hh:fJ x.aG x.aY x.fName x.fType=aX [kr,x.fName]:=by rw[gM h];rfl
   rw[hh] at hx tK
   (repeat(with_reducible refine And.intro ?_ ?_;focus first|omega|rfl|assumption|exact⟨_,rfl,rfl⟩|(simp;omega)|(simp;done)))
   refine bf rfl (bA.args (jJ [kr,x.fName] (by simp) n (n+1) _ _) (.cons (mU n _) .nil)) ?_
   have JD:(lx (aX [kr,x.fName]) (n+1)).length=2:=by rw[gD];rfl
   have JE:=lT (l:=aX [kr,x.fName]) (n:=n+1)
   simp -implicitDefEqProofs (disch:=omega) only[go_sem]
   (repeat(with_reducible refine And.intro ?_ ?_;focus first|omega|rfl|assumption|exact⟨_,rfl,rfl⟩|(simp;omega)|(simp;done)))
   refine bf rfl (kg 0 5 _ _) ?_
   simp -implicitDefEqProofs (disch:=omega) only[go_sem]
   rw[hx,hTe,tK,eP,dL,ji]
  have k4:=h
  with_reducible refine aA (fun hb=> ?_) (fun hb=> ?_)<;>have h:=hb<;>(try simp only[wf_preprocess] at h)<;>simp -implicitDefEqProofs (disch:=omega) only[go_sem,hb]<;>(repeat(with_reducible refine And.intro ?_ ?_;focus first|omega|rfl|assumption|exact⟨_,rfl,rfl⟩|(simp;omega)|(simp;done)))
  ·have hx:=iE k1 k2 k3 (by omega)
   have hh:fJ x.aG x.aY x.fName x.fType=aX [fK,x.aY,x.fName]:=by rw[gM h];rfl
   rw[hh] at hx tK
   (repeat(with_reducible refine And.intro ?_ ?_;focus first|omega|rfl|assumption|exact⟨_,rfl,rfl⟩|(simp;omega)|(simp;done)))
   refine bf rfl (bA.args (jJ [fK,x.aY,x.fName] (by simp) n (n+1) _ _) (.cons (mU n _) .nil)) ?_
   have JD:(lx (aX [fK,x.aY,x.fName]) (n+1)).length=3:=by rw[gD];rfl
   have JE:=lT (l:=aX [fK,x.aY,x.fName]) (n:=n+1)
   simp -implicitDefEqProofs (disch:=omega) only[go_sem]
   (repeat(with_reducible refine And.intro ?_ ?_;focus first|omega|rfl|assumption|exact⟨_,rfl,rfl⟩|(simp;omega)|(simp;done)))
   refine bf rfl (kg 0 5 _ _) ?_
   simp -implicitDefEqProofs (disch:=omega) only[go_sem]
   rw[hx,hTe,tK,eP,dL,ji]
  have k5:=h
  with_reducible refine aA (fun hb=> ?_) (fun hb=> ?_)<;>have h:=hb<;>(try simp only[wf_preprocess] at h)<;>simp -implicitDefEqProofs (disch:=omega) only[go_sem,hb]<;>(repeat(with_reducible refine And.intro ?_ ?_;focus first|omega|rfl|assumption|exact⟨_,rfl,rfl⟩|(simp;omega)|(simp;done)))
  ·have hx:=iE k1 k2 k3 (by omega)
   have hh:fJ x.aG x.aY x.fName x.fType=aX [ni,x.fName]:=by rw[gM h];rfl
   rw[hh] at hx tK
   (repeat(with_reducible refine And.intro ?_ ?_;focus first|omega|rfl|assumption|exact⟨_,rfl,rfl⟩|(simp;omega)|(simp;done)))
   refine bf rfl (bA.args (jJ [ni,x.fName] (by simp) n (n+1) _ _) (.cons (mU n _) .nil)) ?_
   have JD:(lx (aX [ni,x.fName]) (n+1)).length=2:=by rw[gD];rfl
   have JE:=lT (l:=aX [ni,x.fName]) (n:=n+1)
   simp -implicitDefEqProofs (disch:=omega) only[go_sem]
   (repeat(with_reducible refine And.intro ?_ ?_;focus first|omega|rfl|assumption|exact⟨_,rfl,rfl⟩|(simp;omega)|(simp;done)))
   refine bf rfl (kg 0 5 _ _) ?_
   simp -implicitDefEqProofs (disch:=omega) only[go_sem]
   rw[hx,hTe,tK,eP,dL,ji]
  have k6:=h
  with_reducible refine aA (fun hb=> ?_) (fun hb=> ?_)<;>have h:=hb<;>(try simp only[wf_preprocess] at h)<;>simp -implicitDefEqProofs (disch:=omega) only[go_sem,hb]<;>(repeat(with_reducible refine And.intro ?_ ?_;focus first|omega|rfl|assumption|exact⟨_,rfl,rfl⟩|(simp;omega)|(simp;done)))
  ·have hx:=Cg x
   rw[if_neg k1,if_neg k2,if_neg k3,if_neg (by omega)] at hx
   have hh:fJ x.aG x.aY x.fName x.fType=aX [gT]:=by rw[gM h];rfl
   rw[hh] at hx tK
   obtain⟨B,hB⟩:∃B:Nat→List (List D),B=fun i=>lx (x.fArgs.map dW++(x.aI.map tJ).take i) qa:=⟨_,rfl⟩
   obtain⟨L,hL⟩:∃L:Nat→Nat,L=fun i=>qa+gH (x.fArgs.map dW++(x.aI.map tJ).take i):=⟨_,rfl⟩
   have hB0:T x.fArgs.length=B 0:=by rw[hTe,hB];simp only[List.take_zero,List.append_nil]
   have hBl:∀i,(B i).length≤i+x.fArgs.length:=fun i=>by
    rw[hB];simp only[gD,List.length_append,List.length_map]
    have:=List.length_take_le i (x.aI.map tJ)
    omega
   have hBr:∀i,∀r∈B i,r.length=2:=fun i=>by rw[hB];exact lT
   have hBs:∀i (hi:i<x.aI.length),B i++[[.s [],.ol (L i) (lx ([bg x.aI[i].bL]++aX x.aI[i].aK++[dW x.aI[i].fBody]) (L i+1))]]=B (i+1):=fun i hi=>by
    have:=X3 (base:=x.fArgs.map dW) (l:=x.aI.map tJ) (i:=i) (by rw[List.length_map];exact hi) qa
    rw[List.getElem_map,U7,eP,dL] at this
    rw[hB,hL];exact this
   have hBe:B x.aI.length=lx (x.fArgs.map dW++x.aI.map tJ) qa:=by rw[hB];simp only;rw[List.take_of_length_le (by simp)]
   clear hB hL hTT
   (repeat(with_reducible refine And.intro ?_ ?_;focus first|omega|rfl|assumption|exact⟨_,rfl,rfl⟩|(simp;omega)|(simp;done)))
   refine bf rfl (bA.args (jJ [gT] (by simp) n (n+1) _ _) (.cons (mU n _) .nil)) ?_
   have JD:(lx (aX [gT]) (n+1)).length=1:=by rw[gD];rfl
   have JE:=lT (l:=aX [gT]) (n:=n+1)
   simp -implicitDefEqProofs (disch:=omega) only[go_sem]
   rw[hB0]
   obtain⟨HD,hHD⟩:∃HD,HD=lx (aX [gT]) (n+1):=⟨_,rfl⟩
   rw[←hHD] at JD JE ⊢
   refine aV (ι:=Nat) Tryz.checked.mixed rfl [2,3,6,69,70,71] (fun i=>[.c (.ptr (0,2) 0),.c (.bK (0,3) (B i)),.c (.bK (0,5) HD),.c (.d (.sl (x.aI.map aF.enc))),.c (.d (.i .i64 x.aI.length)),.c (.d (.i .i64 i))])
    (fun i=>[.seed n,.box [.d (.i .i64 x.aG),.d (.s x.aY),.d (.s x.fName),.d (.i .i64 x.fN),.d (.i .i64 x.fType.aG),.d (.s x.fType.fName),.d (.sl (x.fType.fArgs.map aj.enc)),.d (.sl (x.fArgs.map au.enc)),.d (.sl (x.aI.map aF.enc))],.box [.d (.s []),.aL []],.eu n 2 (B i),.seed n,.eu n 2 HD]::S)
    (fun i=>i≤x.aI.length) (fun i=>x.aI.length-i) 0 rfl rfl (Nat.zero_le _) ?_
   intro i hi
   have hl:=hBl i
   have hr:=hBr i
   simp -implicitDefEqProofs (disch:=omega) only[go_sem]
   with_reducible refine aA (fun hb=> ?_) (fun hb=> ?_)<;>have h:=hb<;>(try simp only[wf_preprocess] at h)<;>simp -implicitDefEqProofs (disch:=omega) only[go_sem,hb]<;>(repeat(with_reducible refine And.intro ?_ ?_;focus first|omega|rfl|assumption|exact⟨_,rfl,rfl⟩|(simp;omega)|(simp;done)))
   ·have hi':i<x.aI.length:=by omega
    have hm:=List.getElem_mem hi'
    have Yv:=GA hm
    have hea:=vB x.aI[i]
    have hs:=hBs i hi'
    have hak:=Nh _ hm
    rw[ng,Bool.and_eq_true,Bool.and_eq_true] at hak
    have hls:=List.sizeOf_lt_of_mem hm
    have hlb:=aF.kS x.aI[i]
    (repeat(with_reducible refine And.intro ?_ ?_;focus first|omega|rfl|assumption|exact⟨_,rfl,rfl⟩|(simp;omega)|(simp;done)))
    refine Mi (vQ [x.aI[i].bL] (by simp) 0 (L i+1)) (.cons (mU n _) .nil) ?_
    simp -implicitDefEqProofs (disch:=omega) only[go_sem]
    refine ay (vQ x.aI[i].aK (by omega) 0 (L i+1+gH (aX [x.aI[i].bL]))) ?_
    simp -implicitDefEqProofs (disch:=omega) only[go_sem]
    refine ay (ih x.aI[i].fBody (by omega) (L i+1+gH (aX [x.aI[i].bL]++aX x.aI[i].aK)) hak.2.2 (by omega)) ?_
    simp -implicitDefEqProofs (disch:=omega) only[go_sem]
    (repeat(with_reducible refine And.intro ?_ ?_;focus first|omega|rfl|assumption|exact⟨_,rfl,rfl⟩|(simp;omega)|(simp;done)))
    refine ay (OX (L i) n [(0,lx (aX [x.aI[i].bL]) (L i+1)),(0,lx (aX x.aI[i].aK) (L i+1+gH (aX [x.aI[i].bL]))),(n,[[.s (dW x.aI[i].fBody).aT,.ol (L i+1+gH (aX [x.aI[i].bL]++aX x.aI[i].aK)) (lx (dW x.aI[i].fBody).ak (L i+1+gH (aX [x.aI[i].bL]++aX x.aI[i].aK)+1))]])] (by simp) ?_ ?_) ?_
    ·intro p hp
     simp only[List.mem_cons,List.not_mem_nil,or_false] at hp
     rcases hp with rfl|rfl|rfl
     ·exact lT
     ·exact lT
     ·simp
    ·simp only[List.map_cons,List.map_nil,List.flatten_cons,List.flatten_nil,List.length_append,gD,kJ,List.length_cons,List.length_nil];omega
    simp -implicitDefEqProofs (disch:=omega) only[go_sem]
    refine ay (wF _) ?_
    simp -implicitDefEqProofs (disch:=omega) only[go_sem]
    (repeat(with_reducible refine And.intro ?_ ?_;focus first|omega|rfl|assumption|exact⟨_,rfl,rfl⟩|(simp;omega)|(simp;done)))
    have hrow:[lx (aX [x.aI[i].bL]) (L i+1),lx (aX x.aI[i].aK) (L i+1+gH (aX [x.aI[i].bL])),[[.s (dW x.aI[i].fBody).aT,.ol (L i+1+gH (aX [x.aI[i].bL]++aX x.aI[i].aK)) (lx (dW x.aI[i].fBody).ak (L i+1+gH (aX [x.aI[i].bL]++aX x.aI[i].aK)+1))]]].flatten=lx ([bg x.aI[i].bL]++aX x.aI[i].aK++[dW x.aI[i].fBody]) (L i+1):=by
     have e1:[bg x.aI[i].bL]=aX [x.aI[i].bL]:=rfl
     rw[e1,ji,ji,oU (dW x.aI[i].fBody) [],vw,oQ (dW x.aI[i].fBody)]
     simp only[List.flatten_cons,List.flatten_nil,List.append_nil,List.append_assoc]
    rw[hrow,hs]
    exact dV 6 (by decide) (i+1) (by omega) rfl rfl rfl rfl (by omega)
   ·have hi':i=x.aI.length:=by omega
    subst hi'
    have hr2:=hBr x.aI.length
    (repeat(with_reducible refine And.intro ?_ ?_;focus first|omega|rfl|assumption|exact⟨_,rfl,rfl⟩|(simp;omega)|(simp;done)))
    refine bf rfl (kg 0 5 _ _) ?_
    simp -implicitDefEqProofs (disch:=omega) only[go_sem]
    rw[hx,hBe,tK,hHD,eP,dL,List.append_assoc,ji (aX [gT])]
  have k7:=h
  with_reducible refine aA (fun hb=> ?_) (fun hb=> ?_)<;>have h:=hb<;>(try simp only[wf_preprocess] at h)<;>simp -implicitDefEqProofs (disch:=omega) only[go_sem,hb]<;>(repeat(with_reducible refine And.intro ?_ ?_;focus first|omega|rfl|assumption|exact⟨_,rfl,rfl⟩|(simp;omega)|(simp;done)))
  ·have hx:=iE k1 k2 k3 (by omega)
   have hh:fJ x.aG x.aY x.fName x.fType=aX [nk,x.fName]:=by rw[gM h];rfl
   rw[hh] at hx tK
   (repeat(with_reducible refine And.intro ?_ ?_;focus first|omega|rfl|assumption|exact⟨_,rfl,rfl⟩|(simp;omega)|(simp;done)))
   refine bf rfl (bA.args (jJ [nk,x.fName] (by simp) n (n+1) _ _) (.cons (mU n _) .nil)) ?_
   have JD:(lx (aX [nk,x.fName]) (n+1)).length=2:=by rw[gD];rfl
   have JE:=lT (l:=aX [nk,x.fName]) (n:=n+1)
   simp -implicitDefEqProofs (disch:=omega) only[go_sem]
   (repeat(with_reducible refine And.intro ?_ ?_;focus first|omega|rfl|assumption|exact⟨_,rfl,rfl⟩|(simp;omega)|(simp;done)))
   refine bf rfl (kg 0 5 _ _) ?_
   simp -implicitDefEqProofs (disch:=omega) only[go_sem]
   rw[hx,hTe,tK,eP,dL,ji]
  have k8:=h
  with_reducible refine aA (fun hb=> ?_) (fun hb=> ?_)<;>have h:=hb<;>(try simp only[wf_preprocess] at h)<;>simp -implicitDefEqProofs (disch:=omega) only[go_sem,hb]<;>(repeat(with_reducible refine And.intro ?_ ?_;focus first|omega|rfl|assumption|exact⟨_,rfl,rfl⟩|(simp;omega)|(simp;done)))
  ·have hx:=iE k1 k2 k3 (by omega)
   have hh:fJ x.aG x.aY x.fName x.fType=aX [qX]:=by rw[gM h];rfl
   rw[hh] at hx tK
   (repeat(with_reducible refine And.intro ?_ ?_;focus first|omega|rfl|assumption|exact⟨_,rfl,rfl⟩|(simp;omega)|(simp;done)))
   refine bf rfl (bA.args (jJ [qX] (by simp) n (n+1) _ _) (.cons (mU n _) .nil)) ?_
   have JD:(lx (aX [qX]) (n+1)).length=1:=by rw[gD];rfl
   have JE:=lT (l:=aX [qX]) (n:=n+1)
   simp -implicitDefEqProofs (disch:=omega) only[go_sem]
   (repeat(with_reducible refine And.intro ?_ ?_;focus first|omega|rfl|assumption|exact⟨_,rfl,rfl⟩|(simp;omega)|(simp;done)))
   refine bf rfl (kg 0 5 _ _) ?_
   simp -implicitDefEqProofs (disch:=omega) only[go_sem]
   rw[hx,hTe,tK,eP,dL,ji]
  have k9:=h
  with_reducible refine aA (fun hb=> ?_) (fun hb=> ?_)<;>have h:=hb<;>(try simp only[wf_preprocess] at h)<;>simp -implicitDefEqProofs (disch:=omega) only[go_sem,hb]<;>(repeat(with_reducible refine And.intro ?_ ?_;focus first|omega|rfl|assumption|exact⟨_,rfl,rfl⟩|(simp;omega)|(simp;done)))
  ·have hx:=iE k1 k2 k3 (by omega)
   have hh:fJ x.aG x.aY x.fName x.fType=aX [x.fName]:=by rw[gM h];rfl
   rw[hh] at hx tK
   (repeat(with_reducible refine And.intro ?_ ?_;focus first|omega|rfl|assumption|exact⟨_,rfl,rfl⟩|(simp;omega)|(simp;done)))
   refine bf rfl (bA.args (jJ [x.fName] (by simp) n (n+1) _ _) (.cons (mU n _) .nil)) ?_
   have JD:(lx (aX [x.fName]) (n+1)).length=1:=by rw[gD];rfl
   have JE:=lT (l:=aX [x.fName]) (n:=n+1)
   simp -implicitDefEqProofs (disch:=omega) only[go_sem]
   (repeat(with_reducible refine And.intro ?_ ?_;focus first|omega|rfl|assumption|exact⟨_,rfl,rfl⟩|(simp;omega)|(simp;done)))
   refine bf rfl (kg 0 5 _ _) ?_
   simp -implicitDefEqProofs (disch:=omega) only[go_sem]
   rw[hx,hTe,tK,eP,dL,ji]
  have k10:=h
  with_reducible refine aA (fun hb=> ?_) (fun hb=> ?_)<;>have h:=hb<;>(try simp only[wf_preprocess] at h)<;>simp -implicitDefEqProofs (disch:=omega) only[go_sem,hb]<;>(repeat(with_reducible refine And.intro ?_ ?_;focus first|omega|rfl|assumption|exact⟨_,rfl,rfl⟩|(simp;omega)|(simp;done)))
  ·have hx:=iE k1 k2 k3 (by omega)
   have hh:fJ x.aG x.aY x.fName x.fType=aX [ku,x.aY]:=by rw[gM h];rfl
   rw[hh] at hx tK
   (repeat(with_reducible refine And.intro ?_ ?_;focus first|omega|rfl|assumption|exact⟨_,rfl,rfl⟩|(simp;omega)|(simp;done)))
   refine bf rfl (bA.args (jJ [ku,x.aY] (by simp) n (n+1) _ _) (.cons (mU n _) .nil)) ?_
   have JD:(lx (aX [ku,x.aY]) (n+1)).length=2:=by rw[gD];rfl
   have JE:=lT (l:=aX [ku,x.aY]) (n:=n+1)
   simp -implicitDefEqProofs (disch:=omega) only[go_sem]
   (repeat(with_reducible refine And.intro ?_ ?_;focus first|omega|rfl|assumption|exact⟨_,rfl,rfl⟩|(simp;omega)|(simp;done)))
   refine bf rfl (kg 0 5 _ _) ?_
   simp -implicitDefEqProofs (disch:=omega) only[go_sem]
   rw[hx,hTe,tK,eP,dL,ji]
  have k11:=h
  with_reducible refine aA (fun hb=> ?_) (fun hb=> ?_)<;>have h:=hb<;>(try simp only[wf_preprocess] at h)<;>simp -implicitDefEqProofs (disch:=omega) only[go_sem,hb]<;>(repeat(with_reducible refine And.intro ?_ ?_;focus first|omega|rfl|assumption|exact⟨_,rfl,rfl⟩|(simp;omega)|(simp;done)))
  ·have hx:=iE k1 k2 k3 (by omega)
   have hh:fJ x.aG x.aY x.fName x.fType=[bg nN,eD x.fType]:=by rw[gM h];rfl
   rw[hh] at hx tK
   have hty:=hfi.2.2.2.2.1
   rw[if_pos h] at hty
   refine ay (eT _ (n+1)) ?_
   simp -implicitDefEqProofs (disch:=omega) only[go_sem]
   refine ay (wH x.fType (n+1+1) (qb hty) (by omega)) ?_
   simp -implicitDefEqProofs (disch:=omega) only[go_sem]
   (repeat(with_reducible refine And.intro ?_ ?_;focus first|omega|rfl|assumption|exact⟨_,rfl,rfl⟩|(simp;omega)|(simp;done)))
   refine bf rfl (kg 0 4 _ _) ?_
   simp -implicitDefEqProofs (disch:=omega) only[go_sem]
   rw[hx,hTe,tK,eP,dL,ji]
   simp only[oU,vw,oQ,wB,wC,sI,RZ,U3,nN,List.cons_append,List.nil_append]
  ·have:=hfi.1
   omega
theorem Sy(x:au)(n:Nat)(hok:fT x=true)(hsz:x.sz≤4194304):aH Tryz.prog 112 [x.v] (.agg [.d (.s (dW x).aT),.d (.ol n (lx (dW x).ak (n+1)))]):=GD _ x (Nat.lt_succ_self _) n hok hsz
end Go.Proofs.YtlmhknhlmicmeaaGreatDoor
namespace Go.Proofs.YtlmhknhlmicmeaaGreatDoor
open Go Go.Ab
theorem lK(hd:List ah)(xs:List au)(S:Store)(hA:∀t∈xs,aH Tryz.prog 108 [t.v] (dW t).v)(hl:xs.length≤4194304)(hh:hd.length≤4):bA Tryz.prog 206 [.c (.aL (hd.map ah.enc)),.c (.d (.sl (xs.map au.enc)))] S
 (fun r S'=>r=.agg [.d (.s []),.d (.sl ((hd++xs.map dW).map ah.enc))]∧S'=S):=by
 obtain⟨T,hT⟩:∃T:Nat→List (List D),T=fun i=>(hd++(xs.map dW).take i).map ah.enc:=⟨_,rfl⟩
 have hT0:T 0=hd.map ah.enc:=by rw[hT];simp only[List.take_zero,List.append_nil]
 have nC:∀i,(T i).length≤i+hd.length:=fun i=>by
  rw[hT];simp only[List.length_map,List.length_append]
  have:=List.length_take_le i (xs.map dW)
  omega
 have hTs:∀i (hi:i<xs.length),T i++[[.s (dW xs[i]).aT,.sl ((dW xs[i]).ak.map ah.enc)]]=T (i+1):=fun i hi=>by
  have:=mQ (base:=hd) (l:=xs.map dW) (i:=i) (by rw[List.length_map];exact hi)
  rw[List.getElem_map] at this
  rw[hT];exact this
 have hTe:T xs.length=(hd++xs.map dW).map ah.enc:=by rw[hT];simp only;rw[List.take_of_length_le (by simp)]
 clear hT
 rw[←hT0]
 rw[←hTe]
 refine aC (rs:=[.cell 4 32]) Tryz.checked.mixed Tryz.func206 Tryz.ntmps206 rfl rfl rfl rfl rfl ?_
 simp -implicitDefEqProofs (disch:=omega) only[go_sem]
 refine uZ 1 1 2 (T 0) [.d (.s []),.aL (T 0)] rfl rfl (by rw[hT0];exact jX) ?_
 refine aV (ι:=Nat) Tryz.checked.mixed rfl [1,4,5,6] (fun i=>[.c (.d (.sl (xs.map au.enc))),.c (.ptr (0,0) 0),.c (.ptr (0,1) 0),.c (.d (.i .i64 i))])
  (fun i=>[.box [.d (.s []),.aL []],.box [.d (.s []),.bK (0,2) (T i)],.tok 2 (T i)]::S)
  (fun i=>i≤xs.length) (fun i=>xs.length-i) 0 rfl rfl (Nat.zero_le _) ?_
 intro i hi
 have hl:=nC i
 simp -implicitDefEqProofs (disch:=omega) only[go_sem]
 with_reducible refine aA (fun hb=> ?_) (fun hb=> ?_)<;>have h:=hb<;>(try simp only[wf_preprocess] at h)<;>simp -implicitDefEqProofs (disch:=omega) only[go_sem,hb]<;>(repeat(with_reducible refine And.intro ?_ ?_;focus first|omega|rfl|assumption|exact⟨_,rfl,rfl⟩|(simp;omega)|(simp;done)))
 ·have hi':i<xs.length:=by omega
  have hs:=hTs i hi'
  (repeat(with_reducible refine And.intro ?_ ?_;focus first|omega|rfl|assumption|exact⟨_,rfl,rfl⟩|(simp;omega)|(simp;done)))
  refine ay (hA xs[i] (List.getElem_mem hi')) ?_
  simp -implicitDefEqProofs (disch:=omega) only[go_sem]
  (repeat(with_reducible refine And.intro ?_ ?_;focus first|omega|rfl|assumption|exact⟨_,rfl,rfl⟩|(simp;omega)|(simp;done)))
  rw[hs]
  exact bH (i+1) (by omega) rfl rfl (by omega)
 ·have hi':i=xs.length:=by omega
  subst hi'
  rfl
theorem Ni(hd:List ah)(xs:List au)(bn:List Ab.Obj)(Ω:Store)(hA:∀t∈xs,aH Tryz.prog 108 [t.v] (dW t).v)(hl:xs.length≤4194304)(hh:hd.length≤4):bA Tryz.prog 206 [.c (.aL (hd.map ah.enc)),.c (.d (.sl (xs.map au.enc)))] (bn::Ω)
 (fun r S'=>r=.agg [.d (.s []),.bK (0,bn.length+2) ((hd++xs.map dW).map ah.enc)]∧S'=(bn++[.box [.d (.s []),.bK (0,bn.length+2) ((hd++xs.map dW).map ah.enc)],.box [.d (.s []),.bK (0,bn.length+2) ((hd++xs.map dW).map ah.enc)],.tok 2 ((hd++xs.map dW).map ah.enc)])::Ω):=by
 obtain⟨T,hT⟩:∃T:Nat→List (List D),T=fun i=>(hd++(xs.map dW).take i).map ah.enc:=⟨_,rfl⟩
 have hT0:T 0=hd.map ah.enc:=by rw[hT];simp only[List.take_zero,List.append_nil]
 have nC:∀i,(T i).length≤i+hd.length:=fun i=>by
  rw[hT];simp only[List.length_map,List.length_append]
  have:=List.length_take_le i (xs.map dW)
  omega
 have hTs:∀i (hi:i<xs.length),T i++[[.s (dW xs[i]).aT,.sl ((dW xs[i]).ak.map ah.enc)]]=T (i+1):=fun i hi=>by
  have:=mQ (base:=hd) (l:=xs.map dW) (i:=i) (by rw[List.length_map];exact hi)
  rw[List.getElem_map] at this
  rw[hT];exact this
 have hTe:T xs.length=(hd++xs.map dW).map ah.enc:=by rw[hT];simp only;rw[List.take_of_length_le (by simp)]
 clear hT
 rw[←hT0]
 rw[←hTe]
 refine UC (rs:=[.cell 4 32]) Tryz.checked.mixed Tryz.func206 Tryz.ntmps206 rfl rfl rfl rfl rfl ?_
 simp -implicitDefEqProofs (disch:=omega) only[go_sem]
 refine uZ 1 1 2 (T 0) [.d (.s []),.aL (T 0)] rfl rfl (by rw[hT0];exact jX) ?_
 refine aV (ι:=Nat) Tryz.checked.mixed rfl [1,4,5,6] (fun i=>[.c (.d (.sl (xs.map au.enc))),.c (.ptr (0,0) 0),.c (.ptr (0,1) 0),.c (.d (.i .i64 i))])
  (fun i=>[.box [.d (.s []),.aL []],.box [.d (.s []),.bK (0,2) (T i)],.tok 2 (T i)]::bn::Ω)
  (fun i=>i≤xs.length) (fun i=>xs.length-i) 0 rfl rfl (Nat.zero_le _) ?_
 intro i hi
 have hl:=nC i
 simp -implicitDefEqProofs (disch:=omega) only[go_sem]
 with_reducible refine aA (fun hb=> ?_) (fun hb=> ?_)<;>have h:=hb<;>(try simp only[wf_preprocess] at h)<;>simp -implicitDefEqProofs (disch:=omega) only[go_sem,hb]<;>(repeat(with_reducible refine And.intro ?_ ?_;focus first|omega|rfl|assumption|exact⟨_,rfl,rfl⟩|(simp;omega)|(simp;done)))
 ·have hi':i<xs.length:=by omega
  have hs:=hTs i hi'
  (repeat(with_reducible refine And.intro ?_ ?_;focus first|omega|rfl|assumption|exact⟨_,rfl,rfl⟩|(simp;omega)|(simp;done)))
  refine ay (hA xs[i] (List.getElem_mem hi')) ?_
  simp -implicitDefEqProofs (disch:=omega) only[go_sem]
  (repeat(with_reducible refine And.intro ?_ ?_;focus first|omega|rfl|assumption|exact⟨_,rfl,rfl⟩|(simp;omega)|(simp;done)))
  rw[hs]
  exact bH (i+1) (by omega) rfl rfl (by omega)
 ·have hi':i=xs.length:=by omega
  subst hi'
  exact⟨rfl,rfl⟩
theorem GH:∀N:Nat,∀x:au,SizeOf.sizeOf x<N→fT x=true→x.sz≤4194304→aH Tryz.prog 108 [x.v] (dW x).v
 |0=>fun x h=>by omega
 |N+1=>by
  have ih:=GH N
  intro x hn hok hsz S
  have iA:=au.fA x
  have yh:=au.lN x
  have hzz:=rO x
  rw[sG,Bool.and_eq_true,Bool.and_eq_true] at hok
  obtain⟨hfi,hoa,Nh⟩:=hok
  have hfi:=iB hfi
  have hoa:=yX.1 hoa
  have Nh:=Ay.1 Nh
  have hA:∀t∈x.fArgs,aH Tryz.prog 108 [t.v] (dW t).v:=fun t ht=>ih t (by have:=List.sizeOf_lt_of_mem ht;omega) (hoa t ht) (by have:=JC ht;omega)
  have hxe:=Cg x
  refine aC (rs:=[.cell 2 32]) Tryz.checked.mixed Tryz.func108 Tryz.ntmps108 rfl rfl rfl rfl rfl ?_
  simp -implicitDefEqProofs (disch:=omega) only[go_sem]
  with_reducible refine aA (fun hb=> ?_) (fun hb=> ?_)<;>have h:=hb<;>(try simp only[wf_preprocess] at h)<;>simp -implicitDefEqProofs (disch:=omega) only[go_sem,hb]<;>(repeat(with_reducible refine And.intro ?_ ?_;focus first|omega|rfl|assumption|exact⟨_,rfl,rfl⟩|(simp;omega)|(simp;done)))
  ·rw[if_pos h] at hxe
   rw[hxe]
   have hb:=hfi.2.2.2.1
   rw[if_pos h] at hb
   refine ay (rP x.fN (by omega) (by omega)) ?_
   simp -implicitDefEqProofs (disch:=omega) only[go_sem]
   refine ay (bV _) ?_
   simp -implicitDefEqProofs (disch:=omega) only[go_sem]
   rfl
  have k1:=h
  rw[if_neg h] at hxe
  with_reducible refine aA (fun hb=> ?_) (fun hb=> ?_)<;>have h:=hb<;>(try simp only[wf_preprocess] at h)<;>simp -implicitDefEqProofs (disch:=omega) only[go_sem,hb]<;>(repeat(with_reducible refine And.intro ?_ ?_;focus first|omega|rfl|assumption|exact⟨_,rfl,rfl⟩|(simp;omega)|(simp;done)))
  ·rw[if_pos h] at hxe
   rw[hxe]
   have hb:=hfi.2.2.2.1
   rw[if_neg k1,if_pos h] at hb
   rcases hb with e|e
   ·rw[e]
    simp -implicitDefEqProofs (disch:=omega) only[go_sem,List.getD_cons_zero]
    (repeat(with_reducible refine And.intro ?_ ?_;focus first|omega|rfl|assumption|exact⟨_,rfl,rfl⟩|(simp;omega)|(simp;done)))
    refine ay (bV _) ?_
    simp -implicitDefEqProofs (disch:=omega) only[go_sem]
    rfl
   ·rw[e]
    simp -implicitDefEqProofs (disch:=omega) only[go_sem,List.getD_cons_zero,List.getD_cons_succ]
    (repeat(with_reducible refine And.intro ?_ ?_;focus first|omega|rfl|assumption|exact⟨_,rfl,rfl⟩|(simp;omega)|(simp;done)))
    refine ay (bV _) ?_
    simp -implicitDefEqProofs (disch:=omega) only[go_sem]
    rfl
  have k2:=h
  rw[if_neg h] at hxe
  with_reducible refine aA (fun hb=> ?_) (fun hb=> ?_)<;>have h:=hb<;>(try simp only[wf_preprocess] at h)<;>simp -implicitDefEqProofs (disch:=omega) only[go_sem,hb]<;>(repeat(with_reducible refine And.intro ?_ ?_;focus first|omega|rfl|assumption|exact⟨_,rfl,rfl⟩|(simp;omega)|(simp;done)))
  ·rw[if_pos h] at hxe
   rw[hxe]
   refine ay (bV _) ?_
   simp -implicitDefEqProofs (disch:=omega) only[go_sem]
   rfl
  have k3:=h
  clear hxe
  with_reducible refine aA (fun hb=> ?_) (fun hb=> ?_)<;>have h:=hb<;>(try simp only[wf_preprocess] at h)<;>simp -implicitDefEqProofs (disch:=omega) only[go_sem,hb]<;>(repeat(with_reducible refine And.intro ?_ ?_;focus first|omega|rfl|assumption|exact⟨_,rfl,rfl⟩|(simp;omega)|(simp;done)))
  ·have hx:=iE k1 k2 k3 (by omega)
   have hh:fJ x.aG x.aY x.fName x.fType=[bg kr,bg x.fName]:=by rw[gM h];rfl
   rw[hh] at hx
   refine ay (bV _) ?_
   simp -implicitDefEqProofs (disch:=omega) only[go_sem]
   refine ay (bV _) ?_
   simp -implicitDefEqProofs (disch:=omega) only[go_sem]
   have hE:=fun S=>lK [bg kr,bg x.fName] x.fArgs S hA (by omega) (by simp)
   simp only[List.map_cons,List.map_nil,gL] at hE
   refine bf rfl (hE _) ?_
   simp -implicitDefEqProofs (disch:=omega) only[go_sem]
   rw[hx]
   rfl
  have k4:=h
  with_reducible refine aA (fun hb=> ?_) (fun hb=> ?_)<;>have h:=hb<;>(try simp only[wf_preprocess] at h)<;>simp -implicitDefEqProofs (disch:=omega) only[go_sem,hb]<;>(repeat(with_reducible refine And.intro ?_ ?_;focus first|omega|rfl|assumption|exact⟨_,rfl,rfl⟩|(simp;omega)|(simp;done)))
  ·have hx:=iE k1 k2 k3 (by omega)
   have hh:fJ x.aG x.aY x.fName x.fType=[bg fK,bg x.aY,bg x.fName]:=by rw[gM h];rfl
   rw[hh] at hx
   refine ay (bV _) ?_
   simp -implicitDefEqProofs (disch:=omega) only[go_sem]
   refine ay (bV _) ?_
   simp -implicitDefEqProofs (disch:=omega) only[go_sem]
   refine ay (bV _) ?_
   simp -implicitDefEqProofs (disch:=omega) only[go_sem]
   have hE:=fun S=>lK [bg fK,bg x.aY,bg x.fName] x.fArgs S hA (by omega) (by simp)
   simp only[List.map_cons,List.map_nil,gL] at hE
   refine bf rfl (hE _) ?_
   simp -implicitDefEqProofs (disch:=omega) only[go_sem]
   rw[hx]
   rfl
  have k5:=h
  with_reducible refine aA (fun hb=> ?_) (fun hb=> ?_)<;>have h:=hb<;>(try simp only[wf_preprocess] at h)<;>simp -implicitDefEqProofs (disch:=omega) only[go_sem,hb]<;>(repeat(with_reducible refine And.intro ?_ ?_;focus first|omega|rfl|assumption|exact⟨_,rfl,rfl⟩|(simp;omega)|(simp;done)))
  ·have hx:=iE k1 k2 k3 (by omega)
   have hh:fJ x.aG x.aY x.fName x.fType=[bg ni,bg x.fName]:=by rw[gM h];rfl
   rw[hh] at hx
   refine ay (bV _) ?_
   simp -implicitDefEqProofs (disch:=omega) only[go_sem]
   refine ay (bV _) ?_
   simp -implicitDefEqProofs (disch:=omega) only[go_sem]
   have hE:=fun S=>lK [bg ni,bg x.fName] x.fArgs S hA (by omega) (by simp)
   simp only[List.map_cons,List.map_nil,gL] at hE
   refine bf rfl (hE _) ?_
   simp -implicitDefEqProofs (disch:=omega) only[go_sem]
   rw[hx]
   rfl
  have k6:=h
  with_reducible refine aA (fun hb=> ?_) (fun hb=> ?_)<;>have h:=hb<;>(try simp only[wf_preprocess] at h)<;>simp -implicitDefEqProofs (disch:=omega) only[go_sem,hb]<;>(repeat(with_reducible refine And.intro ?_ ?_;focus first|omega|rfl|assumption|exact⟨_,rfl,rfl⟩|(simp;omega)|(simp;done)))
  ·have hx:=iE k1 k2 k3 (by omega)
   have hh:fJ x.aG x.aY x.fName x.fType=[bg nk,bg x.fName]:=by rw[gM h];rfl
   rw[hh] at hx
   refine ay (bV _) ?_
   simp -implicitDefEqProofs (disch:=omega) only[go_sem]
   refine ay (bV _) ?_
   simp -implicitDefEqProofs (disch:=omega) only[go_sem]
   have hE:=fun S=>lK [bg nk,bg x.fName] x.fArgs S hA (by omega) (by simp)
   simp only[List.map_cons,List.map_nil,gL] at hE
   refine bf rfl (hE _) ?_
   simp -implicitDefEqProofs (disch:=omega) only[go_sem]
   rw[hx]
   rfl
  have k8:=h
  with_reducible refine aA (fun hb=> ?_) (fun hb=> ?_)<;>have h:=hb<;>(try simp only[wf_preprocess] at h)<;>simp -implicitDefEqProofs (disch:=omega) only[go_sem,hb]<;>(repeat(with_reducible refine And.intro ?_ ?_;focus first|omega|rfl|assumption|exact⟨_,rfl,rfl⟩|(simp;omega)|(simp;done)))
  ·have hx:=iE k1 k2 k3 (by omega)
   have hh:fJ x.aG x.aY x.fName x.fType=[bg qX]:=by rw[gM h];rfl
   rw[hh] at hx
   refine ay (bV _) ?_
   simp -implicitDefEqProofs (disch:=omega) only[go_sem]
   have hE:=fun S=>lK [bg qX] x.fArgs S hA (by omega) (by simp)
   simp only[List.map_cons,List.map_nil,gL] at hE
   refine bf rfl (hE _) ?_
   simp -implicitDefEqProofs (disch:=omega) only[go_sem]
   rw[hx]
   rfl
  have k9:=h
  with_reducible refine aA (fun hb=> ?_) (fun hb=> ?_)<;>have h:=hb<;>(try simp only[wf_preprocess] at h)<;>simp -implicitDefEqProofs (disch:=omega) only[go_sem,hb]<;>(repeat(with_reducible refine And.intro ?_ ?_;focus first|omega|rfl|assumption|exact⟨_,rfl,rfl⟩|(simp;omega)|(simp;done)))
  ·have hx:=iE k1 k2 k3 (by omega)
   have hh:fJ x.aG x.aY x.fName x.fType=[bg x.fName]:=by rw[gM h];rfl
   rw[hh] at hx
   refine ay (bV _) ?_
   simp -implicitDefEqProofs (disch:=omega) only[go_sem]
   have hE:=fun S=>lK [bg x.fName] x.fArgs S hA (by omega) (by simp)
   simp only[List.map_cons,List.map_nil,gL] at hE
   refine bf rfl (hE _) ?_
   simp -implicitDefEqProofs (disch:=omega) only[go_sem]
   rw[hx]
   rfl
  have k10:=h
  with_reducible refine aA (fun hb=> ?_) (fun hb=> ?_)<;>have h:=hb<;>(try simp only[wf_preprocess] at h)<;>simp -implicitDefEqProofs (disch:=omega) only[go_sem,hb]<;>(repeat(with_reducible refine And.intro ?_ ?_;focus first|omega|rfl|assumption|exact⟨_,rfl,rfl⟩|(simp;omega)|(simp;done)))
  ·have hx:=iE k1 k2 k3 (by omega)
   have hh:fJ x.aG x.aY x.fName x.fType=[bg ku,bg x.aY]:=by rw[gM h];rfl
   rw[hh] at hx
   refine ay (bV _) ?_
   simp -implicitDefEqProofs (disch:=omega) only[go_sem]
   refine ay (bV _) ?_
   simp -implicitDefEqProofs (disch:=omega) only[go_sem]
   have hE:=fun S=>lK [bg ku,bg x.aY] x.fArgs S hA (by omega) (by simp)
   simp only[List.map_cons,List.map_nil,gL] at hE
   refine bf rfl (hE _) ?_
   simp -implicitDefEqProofs (disch:=omega) only[go_sem]
   rw[hx]
   rfl
  have k11:=h
  with_reducible refine aA (fun hb=> ?_) (fun hb=> ?_)<;>have h:=hb<;>(try simp only[wf_preprocess] at h)<;>simp -implicitDefEqProofs (disch:=omega) only[go_sem,hb]<;>(repeat(with_reducible refine And.intro ?_ ?_;focus first|omega|rfl|assumption|exact⟨_,rfl,rfl⟩|(simp;omega)|(simp;done)))
  ·have hx:=iE k1 k2 k3 (by omega)
   have hh:fJ x.aG x.aY x.fName x.fType=[bg nN,eD x.fType]:=by rw[gM h];rfl
   rw[hh] at hx
   refine ay (bV _) ?_
   simp -implicitDefEqProofs (disch:=omega) only[go_sem]
   refine ay (yB x.fType (by omega)) ?_
   simp -implicitDefEqProofs (disch:=omega) only[go_sem]
   have hE:=fun S=>lK [bg nN,eD x.fType] x.fArgs S hA (by omega) (by simp)
   simp only[List.map_cons,List.map_nil,gL,ah.aD (eD x.fType)] at hE
   refine bf rfl (hE _) ?_
   simp -implicitDefEqProofs (disch:=omega) only[go_sem]
   rw[hx]
   show _=V.agg [.d (.s []),.d (.sl (List.map ah.enc (bg nN::eD x.fType::x.fArgs.map dW)))]
   simp only[List.cons_append,List.nil_append,List.map_cons,gL,ah.aD (eD x.fType)]
   rfl
  have k12:=h
  have hk7:x.aG=7:=by have:=hfi.1;omega
  have hx:=Cg x
  rw[if_neg k1,if_neg k2,if_neg k3,if_neg (by omega)] at hx
  have hh:fJ x.aG x.aY x.fName x.fType=[bg gT]:=by rw[gM hk7];rfl
  rw[hh] at hx
  refine ay (bV _) ?_
  simp -implicitDefEqProofs (disch:=omega) only[go_sem]
  have hE:=fun bn Ω=>Ni [bg gT] x.fArgs bn Ω hA (by omega) (by simp)
  obtain⟨B,hB⟩:∃B:Nat→List (List D),B=fun i=>(([bg gT]++x.fArgs.map dW)++(x.aI.map tJ).take i).map ah.enc:=⟨_,rfl⟩
  have hB0:([bg gT]++x.fArgs.map dW).map ah.enc=B 0:=by rw[hB];simp only[List.take_zero,List.append_nil]
  have hBl:∀i,(B i).length≤i+x.fArgs.length+1:=fun i=>by
   rw[hB];simp only[List.length_append,List.length_map,List.length_cons,List.length_nil]
   have:=List.length_take_le i (x.aI.map tJ)
   omega
  have hBr:∀i,∀r∈B i,r.length=2:=fun i=>by rw[hB];exact jX
  have hBs:∀i (hi:i<x.aI.length),B i++[[.s [],.sl (([bg x.aI[i].bL]++aX x.aI[i].aK++[dW x.aI[i].fBody]).map ah.enc)]]=B (i+1):=fun i hi=>by
   have:=mQ (base:=[bg gT]++x.fArgs.map dW) (l:=x.aI.map tJ) (i:=i) (by rw[List.length_map];exact hi)
   rw[List.getElem_map,U7,eP,dL] at this
   rw[hB];exact this
  have hBe:B x.aI.length=([bg gT]++x.fArgs.map dW++x.aI.map tJ).map ah.enc:=by rw[hB];simp only;rw[List.take_of_length_le (by simp)]
  clear hB
  simp only[hB0] at hE
  simp only[List.map_cons,List.map_nil,gL] at hE
  refine bf rfl (hE _ _) ?_
  simp -implicitDefEqProofs (disch:=omega) only[go_sem]
  refine aV (ι:=Nat) Tryz.checked.mixed rfl [1,2,3,4] (fun i=>[.c (.ptr (0,0) 0),.c (.ptr (0,1) 0),.c (.ptr (0,5) 0),.c (.d (.i .i64 i))])
   (fun i=>[.box [.d (.i .i64 x.aG),.d (.s x.aY),.d (.s x.fName),.d (.i .i64 x.fN),.d (.i .i64 x.fType.aG),.d (.s x.fType.fName),.d (.sl (x.fType.fArgs.map aj.enc)),.d (.sl (x.fArgs.map au.enc)),.d (.sl (x.aI.map aF.enc))],.box [.d (.s []),.aL []],.box [.d (.s []),.bK (0,4) (B 0)],.box [.d (.s []),.bK (0,4) (B 0)],.tok 2 (B i),.box [.d (.s []),.bK (0,4) (B i)]]::S)
   (fun i=>i≤x.aI.length) (fun i=>x.aI.length-i) 0 rfl rfl (Nat.zero_le _) ?_
  intro i hi
  have hl:=hBl i
  have hr:=hBr i
  simp -implicitDefEqProofs (disch:=omega) only[go_sem]
  with_reducible refine aA (fun hb=> ?_) (fun hb=> ?_)<;>have h:=hb<;>(try simp only[wf_preprocess] at h)<;>simp -implicitDefEqProofs (disch:=omega) only[go_sem,hb]<;>(repeat(with_reducible refine And.intro ?_ ?_;focus first|omega|rfl|assumption|exact⟨_,rfl,rfl⟩|(simp;omega)|(simp;done)))
  ·have hi':i<x.aI.length:=by omega
   have hm:=List.getElem_mem hi'
   have Yv:=GA hm
   have hea:=vB x.aI[i]
   have hs:=hBs i hi'
   have hak:=Nh _ hm
   rw[ng,Bool.and_eq_true,Bool.and_eq_true] at hak
   have hls:=List.sizeOf_lt_of_mem hm
   have hlb:=aF.kS x.aI[i]
   (repeat(with_reducible refine And.intro ?_ ?_;focus first|omega|rfl|assumption|exact⟨_,rfl,rfl⟩|(simp;omega)|(simp;done)))
   refine ay (bV _) ?_
   simp -implicitDefEqProofs (disch:=omega) only[go_sem]
   (repeat(with_reducible refine And.intro ?_ ?_;focus first|omega|rfl|assumption|exact⟨_,rfl,rfl⟩|(simp;omega)|(simp;done)))
   refine ay (Ca x.aI[i].aK (by omega)) ?_
   have hwr:=jX (l:=aX x.aI[i].aK)
   have hwl:(aX x.aI[i].aK).length=x.aI[i].aK.length:=by rw[kJ]
   simp -implicitDefEqProofs (disch:=omega) only[go_sem]
   (repeat(with_reducible refine And.intro ?_ ?_;focus first|omega|rfl|assumption|exact⟨_,rfl,rfl⟩|(simp;omega)|(simp;done)))
   refine ay (ih x.aI[i].fBody (by omega) hak.2.2 (by omega)) ?_
   simp -implicitDefEqProofs (disch:=omega) only[go_sem]
   (repeat(with_reducible refine And.intro ?_ ?_;focus first|omega|rfl|assumption|exact⟨_,rfl,rfl⟩|(simp;omega)|(simp;done)))
   simp only[List.cons_append,List.nil_append,List.map_cons,List.map_nil,List.map_append,gL,ah.aD (dW x.aI[i].fBody)] at hs
   rw[hs]
   exact dV 6 (by decide) (i+1) (by omega) rfl rfl rfl rfl (by omega)
  ·have hi':i=x.aI.length:=by omega
   subst hi'
   rw[hx,hBe]
   rfl
theorem Vu(x:au)(hok:fT x=true)(hsz:x.sz≤4194304):aH Tryz.prog 108 [x.v] (dW x).v:=GH _ x (Nat.lt_succ_self _) hok hsz
end Go.Proofs.YtlmhknhlmicmeaaGreatDoor
namespace Go.Ab
theorem au.bounds{x:au}(h:x.sz≤4194304):x.aY.length≤4194304∧x.fName.length≤4194304∧x.fArgs.length≤4194304∧x.aI.length≤4194304∧x.fType.sz≤4194304:=by
 simp only[au.sz,au.aD,bM,bN,D.sz,List.length_map,aj.dB] at h
 omega
theorem au.arg_b{x:au}{i:Nat}(hi:i<x.fArgs.length)(h:x.sz≤4194304):x.fArgs[i].sz≤4194304:=by
 have hx:x.fArgs[i].sz≤bG (x.fArgs.map au.enc):=dY (List.mem_map_of_mem (List.getElem_mem hi))
 simp only[au.sz,au.aD,bM,bN,D.sz,List.length_map] at h
 omega
theorem au.KE{x:au}{i:Nat}(hi:i<x.aI.length)(h:x.sz≤4194304):x.aI[i].sz≤4194304:=by
 have hx:x.aI[i].sz≤bG (x.aI.map aF.enc):=dY (List.mem_map_of_mem (List.getElem_mem hi))
 simp only[au.sz,au.aD,bM,bN,D.sz,List.length_map] at h
 omega
theorem aF.bounds{x:aF}(h:x.sz≤4194304):x.bL.length≤4194304∧x.aK.length≤4194304∧(∀s∈x.aK,s.length≤4194304)∧x.fBody.sz≤4194304:=by
 have hb:=aF.Ib x
 simp only[aF.sz,aF.aD,bM,bN,D.sz,List.length_map] at h hb
 refine⟨by omega,by omega,fun s hs=> ?_,by omega⟩
 have:=F8 hs
 omega
theorem GI(k:Int):(k<1∨12<k)∨k=1∨k=2∨k=3∨k=4∨k=5∨k=6∨k=7∨k=8∨k=9∨k=10∨k=11∨k=12:=by omega
end Go.Ab
namespace Go.Proofs.YtlmhknhlmicmeaaGreatDoor
open Go Go.Ab
set_option maxHeartbeats 8000000 in
theorem Nj(x:au)(hsz:x.sz≤4194304)(hc:x.fArgs.length≤300):aH Tryz.prog 282 [x.v] (.c (.d (.b (dec (oP x))))):=fun S=>by
 have hb0:=au.bounds hsz
 have hz:yA x.fType→kI x.fType=false:=Gd
 rcases GI x.aG with hk|hk|hk|hk|hk|hk|hk|hk|hk|hk|hk|hk|hk
 ·have h1:¬oP x:=fun h=>by have:=h.1;omega
  refine aC (rs:=[.tmp 2]) Tryz.checked.mixed Tryz.func282 Tryz.ntmps282 rfl rfl rfl rfl rfl ?_
  simp -implicitDefEqProofs (disch:=omega) only[go_sem]
  refine ay (DY x.aG) ?_
  simp -implicitDefEqProofs (disch:=omega) only[go_sem]<;>(repeat(with_reducible refine And.intro ?_ ?_;focus first|omega|rfl|assumption|exact⟨_,rfl,rfl⟩|(simp;omega)|(simp;done)))
  with_reducible refine aA (fun hb=> ?_) (fun hb=> ?_)<;>have h:=hb<;>(try simp only[wf_preprocess] at h)<;>simp -implicitDefEqProofs (disch:=omega) only[go_sem,hb]<;>(repeat(with_reducible refine And.intro ?_ ?_;focus first|omega|rfl|assumption|exact⟨_,rfl,rfl⟩|(simp;omega)|(simp;done)))
  ·exact aJ (aQ h1).symm
  with_reducible refine aA (fun hb=> ?_) (fun hb=> ?_)<;>have h:=hb<;>(try simp only[wf_preprocess] at h)<;>simp -implicitDefEqProofs (disch:=omega) only[go_sem,hb]<;>(repeat(with_reducible refine And.intro ?_ ?_;focus first|omega|rfl|assumption|exact⟨_,rfl,rfl⟩|(simp;omega)|(simp;done)))
  ·exact aJ (aQ h1).symm
  ·omega
 all_goals
  refine aC (rs:=[.tmp 2]) Tryz.checked.mixed Tryz.func282 Tryz.ntmps282 rfl rfl rfl rfl rfl ?_
  simp -implicitDefEqProofs (disch:=omega) only[go_sem,hk]
  refine ay (DY _) ?_
  simp -implicitDefEqProofs (disch:=omega) only[go_sem,hk,RU,RV]
  repeat' (first
   |with_reducible refine aA (fun hb=> ?_) (fun hb=> ?_)<;>have h:=hb<;>(try simp only[wf_preprocess] at h)<;>simp -implicitDefEqProofs (disch:=omega) only[go_sem,hb,hk]<;>(repeat(with_reducible refine And.intro ?_ ?_;focus first|omega|rfl|assumption|exact⟨_,rfl,rfl⟩|(simp;omega)|(simp;done)))
   |((with_reducible show fO _ _ 168 _ _ _ _);refine ay (iY x.fName (by omega)) ?_;simp -implicitDefEqProofs (disch:=omega) only[go_sem,hk])
   |((with_reducible show fO _ _ 168 _ _ _ _);refine ay (iY x.aY (by omega)) ?_;simp -implicitDefEqProofs (disch:=omega) only[go_sem,hk])
   |((with_reducible show fO _ _ 328 _ _ _ _);refine ay (JY x.fName) ?_;simp -implicitDefEqProofs (disch:=omega) only[go_sem,hk])
   |((with_reducible show fO _ _ 238 _ _ _ _);refine ay (JZ x.fType) ?_;simp -implicitDefEqProofs (disch:=omega) only[go_sem,hk])
   |((with_reducible show fO _ _ 295 _ _ _ _);refine ay (rH x.fType (by omega)) ?_;simp -implicitDefEqProofs (disch:=omega) only[go_sem,hk])
   |(refine aJ (Bool.eq_iff_iff.2 ?_);simp only[uM,oP,hk];grind [iB,lW,bR,aQ]))
end Go.Proofs.YtlmhknhlmicmeaaGreatDoor
namespace Go.Ab
theorem au.aad{x:au}{y:au}(h:y∈x.fArgs):y.cnt+1≤x.cnt:=by
 rw[au.lq x]
 have:∀xs:List au,y∈xs→y.cnt≤au.cu xs:=by
  intro xs
  induction xs with
  |nil=>intro h;cases h
  |cons z zs ih=>
   intro h
   rw[au.cu]
   rcases List.mem_cons.1 h with e|e
   ·subst e;omega
   ·have:=ih e;omega
 have:=this _ h
 omega
theorem au.aae{x:au}{y:aF}(h:y∈x.aI):y.fBody.cnt+1≤x.cnt:=by
 rw[au.lq x]
 have:∀xs:List aF,y∈xs→y.fBody.cnt≤aF.cu xs:=by
  intro xs
  induction xs with
  |nil=>intro h;cases h
  |cons z zs ih=>
   intro h
   rw[aF.cu]
   rcases List.mem_cons.1 h with e|e
   ·subst e;rw[aF.lq];omega
   ·have:=ih e;omega
 have:=this _ h
 omega
theorem au.aaf(x:au):x.fArgs.length+1≤x.cnt:=by
 rw[au.lq x]
 have:∀xs:List au,xs.length≤au.cu xs:=by
  intro xs
  induction xs with
  |nil=>simp
  |cons z zs ih=>rw[au.cu,List.length_cons];have:=au.lq z;omega
 have:=this x.fArgs
 omega
def Sz(k:Int):Bool:=if k=5∨k=11 then true else false
def SA(k:Int):Bool:=if k=3∨k=4∨k=6∨k=5∨k=8∨k=10 then true else false
def SB(k:Int):Bool:=if k=1∨k=2 then true else false
def SC(k:Int):Bool:=if k=1∨k=2∨k=3∨k=4∨k=6∨k=5∨k=7∨k=8∨k=10∨k=9∨k=11 then false else true
def SE(k:Int):Int:=if k=1∨k=2∨k=3 then 0 else if k=4∨k=6∨k=5 then -1 else if k=8∨k=10 then 2 else if k=9 then 3 else 1
def SF(k:Int):Bool:=if k=7 then true else false
end Go.Ab
namespace Go.Proofs.YtlmhknhlmicmeaaGreatDoor
open Go Go.Ab
theorem GJ:∀n:Nat,∀x:au,SizeOf.sizeOf x<n→x.sz≤4194304→x.cnt≤300→aH Tryz.prog 211 [x.v] (.c (.d (.b (fT x))))
 |0=>fun x h=>by omega
 |n+1=>by
  have ih:=GJ n
  intro x hn hsz hc S
  have hb0:=au.bounds hsz
  have iA:=au.fA x
  have yh:=au.lN x
  have hl:=au.aaf x
  have h1:∀y∈x.fArgs,aH Tryz.prog 284 [y.v] (.c (.d (.b (!fT y)))):=fun y hy S=>by
   have hys:=List.sizeOf_lt_of_mem hy
   have hyc:=au.aad hy
   have hyz:y.sz≤4194304:=by obtain⟨i,hi,e⟩:=List.getElem_of_mem hy;rw[←e];exact au.arg_b hi hsz
   refine aC (rs:=[.tmp 2]) Tryz.checked.mixed Tryz.func284 Tryz.ntmps284 rfl rfl rfl rfl rfl ?_
   simp -implicitDefEqProofs (disch:=omega) only[go_sem]
   refine ay (ih y (by omega) hyz (by omega)) ?_
   simp -implicitDefEqProofs (disch:=omega) only[go_sem]<;>(repeat(with_reducible refine And.intro ?_ ?_;focus first|omega|rfl|assumption|exact⟨_,rfl,rfl⟩|(simp;omega)|(simp;done)))
  have h2:∀y∈x.aI,aH Tryz.prog 286 [y.v] (.c (.d (.b (!qI y)))):=fun y hy S=>by
   have hys:=List.sizeOf_lt_of_mem hy
   have hyb:=aF.kS y
   have hyc:=au.aae hy
   have hyz:y.sz≤4194304:=by obtain⟨i,hi,e⟩:=List.getElem_of_mem hy;rw[←e];exact au.KE hi hsz
   have hyy:=aF.bounds hyz
   refine aC (rs:=[.tmp 2]) Tryz.checked.mixed Tryz.func286 Tryz.ntmps286 rfl rfl rfl rfl rfl ?_
   simp -implicitDefEqProofs (disch:=omega) only[go_sem]
   refine ay (iY y.bL (by omega)) ?_
   simp -implicitDefEqProofs (disch:=omega) only[go_sem]<;>(repeat(with_reducible refine And.intro ?_ ?_;focus first|omega|rfl|assumption|exact⟨_,rfl,rfl⟩|(simp;omega)|(simp;done)))
   with_reducible refine aA (fun hb=> ?_) (fun hb=> ?_)<;>have h:=hb<;>(try simp only[wf_preprocess] at h)<;>simp -implicitDefEqProofs (disch:=omega) only[go_sem,hb]<;>(repeat(with_reducible refine And.intro ?_ ?_;focus first|omega|rfl|assumption|exact⟨_,rfl,rfl⟩|(simp;omega)|(simp;done)))
   ·exact aJ (by rw[ng,h];rfl)
   have k1:=h
   refine ay (yR y.aK (by omega) hyy.2.2.1) ?_
   simp -implicitDefEqProofs (disch:=omega) only[go_sem]<;>(repeat(with_reducible refine And.intro ?_ ?_;focus first|omega|rfl|assumption|exact⟨_,rfl,rfl⟩|(simp;omega)|(simp;done)))
   with_reducible refine aA (fun hb=> ?_) (fun hb=> ?_)<;>have h:=hb<;>(try simp only[wf_preprocess] at h)<;>simp -implicitDefEqProofs (disch:=omega) only[go_sem,hb]<;>(repeat(with_reducible refine And.intro ?_ ?_;focus first|omega|rfl|assumption|exact⟨_,rfl,rfl⟩|(simp;omega)|(simp;done)))
   ·exact aJ (by rw[ng,h];simp)
   have k2:=h
   refine ay (ih y.fBody (by omega) hyy.2.2.2 (by omega)) ?_
   simp -implicitDefEqProofs (disch:=omega) only[go_sem]<;>(repeat(with_reducible refine And.intro ?_ ?_;focus first|omega|rfl|assumption|exact⟨_,rfl,rfl⟩|(simp;omega)|(simp;done)))
   exact aJ (by rw[ng,k1,k2];simp)
  refine aC (rs:=[.tmp 2]) Tryz.checked.mixed Tryz.func211 Tryz.ntmps211 rfl rfl rfl rfl rfl ?_
  simp -implicitDefEqProofs (disch:=omega) only[go_sem]
  refine ay (Nj x hsz (by omega)) ?_
  simp -implicitDefEqProofs (disch:=omega) only[go_sem]<;>(repeat(with_reducible refine And.intro ?_ ?_;focus first|omega|rfl|assumption|exact⟨_,rfl,rfl⟩|(simp;omega)|(simp;done)))
  with_reducible refine aA (fun hb=> ?_) (fun hb=> ?_)<;>have h:=hb<;>(try simp only[wf_preprocess] at h)<;>simp -implicitDefEqProofs (disch:=omega) only[go_sem,hb]<;>(repeat(with_reducible refine And.intro ?_ ?_;focus first|omega|rfl|assumption|exact⟨_,rfl,rfl⟩|(simp;omega)|(simp;done)))
  ·exact aJ (by rw[sG,aQ h];rfl)
  have k1:=h
  (repeat(with_reducible refine And.intro ?_ ?_;focus first|omega|rfl|assumption|exact⟨_,rfl,rfl⟩|(simp;omega)|(simp;done)))
  refine bf rfl (Bh 284 [] _ x.fArgs (fun y=> !fT y) (by omega) fun y hy=>j5.H6 (h1 y hy)) ?_
  simp -implicitDefEqProofs (disch:=omega) only[go_sem]
  rw[DX]
  with_reducible refine aA (fun hb=> ?_) (fun hb=> ?_)<;>have h:=hb<;>(try simp only[wf_preprocess] at h)<;>simp -implicitDefEqProofs (disch:=omega) only[go_sem,hb]<;>(repeat(with_reducible refine And.intro ?_ ?_;focus first|omega|rfl|assumption|exact⟨_,rfl,rfl⟩|(simp;omega)|(simp;done)))
  ·exact aJ (by rw[sG,h];simp)
  have k2:=h
  (repeat(with_reducible refine And.intro ?_ ?_;focus first|omega|rfl|assumption|exact⟨_,rfl,rfl⟩|(simp;omega)|(simp;done)))
  refine bf rfl (BQ 286 [] _ x.aI (fun y=> !qI y) (by omega) fun y hy=>j5.H6 (h2 y hy)) ?_
  simp -implicitDefEqProofs (disch:=omega) only[go_sem]
  rw[Gc]
  exact aJ (by rw[sG,bR k1,k2];simp)
theorem EH(x:au)(hsz:x.sz≤4194304):aH Tryz.prog 111 [x.v] (.c (.d (.b (mP x)))):=fun S=>by
 refine aC (rs:=[.tmp 2]) Tryz.checked.mixed Tryz.func111 Tryz.ntmps111 rfl rfl rfl rfl rfl ?_
 simp -implicitDefEqProofs (disch:=omega) only[go_sem]
 refine ay (FX x hsz) ?_
 simp -implicitDefEqProofs (disch:=omega) only[go_sem]<;>(repeat(with_reducible refine And.intro ?_ ?_;focus first|omega|rfl|assumption|exact⟨_,rfl,rfl⟩|(simp;omega)|(simp;done)))
 with_reducible refine aA (fun hb=> ?_) (fun hb=> ?_)<;>have h:=hb<;>(try simp only[wf_preprocess] at h)<;>simp -implicitDefEqProofs (disch:=omega) only[go_sem,hb]<;>(repeat(with_reducible refine And.intro ?_ ?_;focus first|omega|rfl|assumption|exact⟨_,rfl,rfl⟩|(simp;omega)|(simp;done)))
 ·refine ay (GJ _ x (Nat.lt_succ_self _) hsz (by omega)) ?_
  simp -implicitDefEqProofs (disch:=omega) only[go_sem]<;>(repeat(with_reducible refine And.intro ?_ ?_;focus first|omega|rfl|assumption|exact⟨_,rfl,rfl⟩|(simp;omega)|(simp;done)))
  exact aJ (by unfold mP;rw[bR (by omega)];rfl)
 ·exact aJ (by unfold mP;rw[aQ (by omega)];rfl)
theorem JF(k:Int):aH Tryz.prog 278 [.c (.d (.i .i64 k))] (.dS [(false,[.d (.b (Sz k))]),(false,[.d (.b (SA k))]),(false,[.d (.b (SB k))]),(false,[.d (.b (SC k))]),(false,[.d (.i .i64 (SE k))]),(false,[.d (.b (SF k))])]):=fun S=>by
 refine aC (rs:=[.tmp 2,.tmp 3,.tmp 4,.tmp 5,.tmp 6,.tmp 7]) Tryz.checked.mixed Tryz.func278 Tryz.ntmps278 rfl rfl rfl rfl rfl ?_
 simp -implicitDefEqProofs (disch:=omega) only[go_sem]
 repeat' (first
  |with_reducible refine aA (fun hb=> ?_) (fun hb=> ?_)<;>have h:=hb<;>(try simp only[wf_preprocess] at h)<;>simp -implicitDefEqProofs (disch:=omega) only[go_sem,hb]<;>(repeat(with_reducible refine And.intro ?_ ?_;focus first|omega|rfl|assumption|exact⟨_,rfl,rfl⟩|(simp;omega)|(simp;done)))
  |(unfold Sz SA SB SC SE SF;grind))
theorem SG(t:aj):aH Tryz.prog 254 [t.v] (.c (.d (.b (dec (yA t))))):=fun S=>by
 refine aC (rs:=[.tmp 2]) Tryz.checked.mixed Tryz.func254 Tryz.ntmps254 rfl rfl rfl rfl rfl ?_
 simp -implicitDefEqProofs (disch:=omega) only[go_sem]
 repeat' (first
  |with_reducible refine aA (fun hb=> ?_) (fun hb=> ?_)<;>have h:=hb<;>(try simp only[wf_preprocess] at h)<;>simp -implicitDefEqProofs (disch:=omega) only[go_sem,hb]<;>(repeat(with_reducible refine And.intro ?_ ?_;focus first|omega|rfl|assumption|exact⟨_,rfl,rfl⟩|(simp;omega)|(simp;done)))
  |(refine aJ ?_;unfold yA;grind [bR,aQ,iB,lW]))
theorem SH(s:List UInt8):aH Tryz.prog 279 [.c (.d (.s s))] (.c (.d (.b (dec (s∈ops))))):=fun S=>by
 refine aC (rs:=[.tmp 2]) Tryz.checked.mixed Tryz.func279 Tryz.ntmps279 rfl rfl rfl rfl rfl ?_
 simp -implicitDefEqProofs (disch:=omega) only[go_sem]
 (repeat(with_reducible refine And.intro ?_ ?_;focus first|omega|rfl|assumption|exact⟨_,rfl,rfl⟩|(simp;omega)|(simp;done)))
 refine ay (qo ops s (by decide)) ?_
 simp -implicitDefEqProofs (disch:=omega) only[go_sem]<;>(repeat(with_reducible refine And.intro ?_ ?_;focus first|omega|rfl|assumption|exact⟨_,rfl,rfl⟩|(simp;omega)|(simp;done)))
theorem D9:∀n:Nat,∀x:au,SizeOf.sizeOf x<n→x.sz≤4194304→∀l:Int,0≤l→l≤1048576→aH Tryz.prog 203 [x.v,.c (.d (.i .i64 l))] (.c (.d (.i .i64 (kP l x.cnt))))
 |0=>fun x h=>by omega
 |n+1=>by
  have ih:=D9 n
  intro x hn hsz l hl hl2 S
  have hb0:=au.bounds hsz
  have iA:=au.fA x
  have yh:=au.lN x
  have he:=au.lq x
  refine aC (rs:=[.tmp 4]) Tryz.checked.mixed Tryz.func203 Tryz.ntmps203 rfl rfl rfl rfl rfl ?_
  simp -implicitDefEqProofs (disch:=omega) only[go_sem]
  refine aV (ι:=Nat×Int) Tryz.checked.mixed rfl [1,2,5] (fun y=>[.c (.d (.i .i64 y.2)),.c (.ptr (0,0) 0),.c (.d (.i .i64 y.1))]) (fun y=>[.box (x.enc.map .d)]::S)
   (fun y=>y.1≤x.fArgs.length∧(-1≤y.2∧y.2≤1048576)∧kP y.2 (au.cu (x.fArgs.drop y.1))=kP (l-1) (au.cu x.fArgs)) (fun y=>x.fArgs.length-y.1) (0,l-1) rfl ?_ ⟨Nat.zero_le _,by simp only;omega,rfl⟩ ?_
  ·simp -implicitDefEqProofs (disch:=omega) only[go_sem]
  rintro⟨i,c⟩ ⟨p1,p2,p3⟩
  simp only at p1 p2 p3
  have out:(i=x.fArgs.length∨c<0)→c=kP (l-1) (au.cu x.fArgs):=fun h=>by
   rcases h with h|h
   ·rw[h,List.drop_length,au.cu,BS p2.1] at p3
    exact p3
   ·rw[←p3,Eu h];omega
  have second:(i=x.fArgs.length∨c<0)→kP c (aF.cu x.aI)=kP l x.cnt:=fun h=>by
   rw[out h,Ap,he]
   unfold kP
   split<;>split<;>(try split)<;>omega
  simp -implicitDefEqProofs (disch:=omega) only[go_sem]
  with_reducible refine aA (fun hb=> ?_) (fun hb=> ?_)<;>have h:=hb<;>(try simp only[wf_preprocess] at h)<;>simp -implicitDefEqProofs (disch:=omega) only[go_sem,hb]<;>(repeat(with_reducible refine And.intro ?_ ?_;focus first|omega|rfl|assumption|exact⟨_,rfl,rfl⟩|(simp;omega)|(simp;done)))
  ·have hi:i<x.fArgs.length:=by omega
   with_reducible refine aA (fun hb=> ?_) (fun hb=> ?_)<;>have h:=hb<;>(try simp only[wf_preprocess] at h)<;>simp -implicitDefEqProofs (disch:=omega) only[go_sem,hb]<;>(repeat(with_reducible refine And.intro ?_ ?_;focus first|omega|rfl|assumption|exact⟨_,rfl,rfl⟩|(simp;omega)|(simp;done)))
   ·have hs:=List.sizeOf_lt_of_mem (List.getElem_mem hi)
    have hr:=Ih (l:=c) (c:=x.fArgs[i].cnt) (by omega)
    rw[au.jh hi,←Ap] at p3
    (repeat(with_reducible refine And.intro ?_ ?_;focus first|omega|rfl|assumption|exact⟨_,rfl,rfl⟩|(simp;omega)|(simp;done)))
    refine ay (ih x.fArgs[i] (by omega) (au.arg_b hi hsz) c (by omega) (by omega)) ?_
    simp -implicitDefEqProofs (disch:=omega) only[go_sem]<;>(repeat(with_reducible refine And.intro ?_ ?_;focus first|omega|rfl|assumption|exact⟨_,rfl,rfl⟩|(simp;omega)|(simp;done)))
    exact bH (i+1,kP c x.fArgs[i].cnt) (by simp only;omega) rfl rfl ⟨by simp only;omega,by simp only;omega,p3⟩
   ·have p4:=second (.inr (by omega))
    clear second out p3
    refine aV (ι:=Nat×Int) Tryz.checked.mixed rfl [1,2,6] (fun y=>[.c (.d (.i .i64 y.2)),.c (.ptr (0,0) 0),.c (.d (.i .i64 y.1))]) (fun y=>[.box (x.enc.map .d)]::S)
     (fun y=>y.1≤x.aI.length∧(-1≤y.2∧y.2≤1048576)∧kP y.2 (aF.cu (x.aI.drop y.1))=kP l x.cnt) (fun y=>x.aI.length-y.1) (0,c) rfl ?_ ⟨Nat.zero_le _,by simp only;omega,p4⟩ ?_
    ·simp -implicitDefEqProofs (disch:=omega) only[go_sem]
    clear p1 p2 p4
    rintro⟨i,d⟩ ⟨p1,p2,p3⟩
    simp only at p1 p2 p3
    simp -implicitDefEqProofs (disch:=omega) only[go_sem]
    with_reducible refine aA (fun hb=> ?_) (fun hb=> ?_)<;>have h:=hb<;>(try simp only[wf_preprocess] at h)<;>simp -implicitDefEqProofs (disch:=omega) only[go_sem,hb]<;>(repeat(with_reducible refine And.intro ?_ ?_;focus first|omega|rfl|assumption|exact⟨_,rfl,rfl⟩|(simp;omega)|(simp;done)))
    ·have hi:i<x.aI.length:=by omega
     with_reducible refine aA (fun hb=> ?_) (fun hb=> ?_)<;>have h:=hb<;>(try simp only[wf_preprocess] at h)<;>simp -implicitDefEqProofs (disch:=omega) only[go_sem,hb]<;>(repeat(with_reducible refine And.intro ?_ ?_;focus first|omega|rfl|assumption|exact⟨_,rfl,rfl⟩|(simp;omega)|(simp;done)))
     ·have hs:=List.sizeOf_lt_of_mem (List.getElem_mem hi)
      have hs':=aF.kS x.aI[i]
      have hr:=Ih (l:=d) (c:=x.aI[i].fBody.cnt) (by omega)
      rw[aF.jh hi,←Ap] at p3
      (repeat(with_reducible refine And.intro ?_ ?_;focus first|omega|rfl|assumption|exact⟨_,rfl,rfl⟩|(simp;omega)|(simp;done)))
      refine ay (ih x.aI[i].fBody (by omega) (aF.bounds (au.KE hi hsz)).2.2.2 d (by omega) (by omega)) ?_
      simp -implicitDefEqProofs (disch:=omega) only[go_sem]<;>(repeat(with_reducible refine And.intro ?_ ?_;focus first|omega|rfl|assumption|exact⟨_,rfl,rfl⟩|(simp;omega)|(simp;done)))
      exact bH (i+1,kP d x.aI[i].fBody.cnt) (by simp only;omega) rfl rfl ⟨by simp only;omega,by simp only;omega,p3⟩
     ·rw[Eu (by omega)] at p3
      exact int_eq (by omega)
    ·have hi:i=x.aI.length:=by omega
     rw[hi,List.drop_length,aF.cu,BS p2.1] at p3
     exact int_eq (by omega)
  ·have p4:=second (.inl (by omega))
   clear second out p3
   refine aV (ι:=Nat×Int) Tryz.checked.mixed rfl [1,2,6] (fun y=>[.c (.d (.i .i64 y.2)),.c (.ptr (0,0) 0),.c (.d (.i .i64 y.1))]) (fun y=>[.box (x.enc.map .d)]::S)
    (fun y=>y.1≤x.aI.length∧(-1≤y.2∧y.2≤1048576)∧kP y.2 (aF.cu (x.aI.drop y.1))=kP l x.cnt) (fun y=>x.aI.length-y.1) (0,c) rfl ?_ ⟨Nat.zero_le _,by simp only;omega,p4⟩ ?_
   ·simp -implicitDefEqProofs (disch:=omega) only[go_sem]
   clear p1 p2 p4
   rintro⟨i,d⟩ ⟨p1,p2,p3⟩
   simp only at p1 p2 p3
   simp -implicitDefEqProofs (disch:=omega) only[go_sem]
   with_reducible refine aA (fun hb=> ?_) (fun hb=> ?_)<;>have h:=hb<;>(try simp only[wf_preprocess] at h)<;>simp -implicitDefEqProofs (disch:=omega) only[go_sem,hb]<;>(repeat(with_reducible refine And.intro ?_ ?_;focus first|omega|rfl|assumption|exact⟨_,rfl,rfl⟩|(simp;omega)|(simp;done)))
   ·have hi:i<x.aI.length:=by omega
    with_reducible refine aA (fun hb=> ?_) (fun hb=> ?_)<;>have h:=hb<;>(try simp only[wf_preprocess] at h)<;>simp -implicitDefEqProofs (disch:=omega) only[go_sem,hb]<;>(repeat(with_reducible refine And.intro ?_ ?_;focus first|omega|rfl|assumption|exact⟨_,rfl,rfl⟩|(simp;omega)|(simp;done)))
    ·have hs:=List.sizeOf_lt_of_mem (List.getElem_mem hi)
     have hs':=aF.kS x.aI[i]
     have hr:=Ih (l:=d) (c:=x.aI[i].fBody.cnt) (by omega)
     rw[aF.jh hi,←Ap] at p3
     (repeat(with_reducible refine And.intro ?_ ?_;focus first|omega|rfl|assumption|exact⟨_,rfl,rfl⟩|(simp;omega)|(simp;done)))
     refine ay (ih x.aI[i].fBody (by omega) (aF.bounds (au.KE hi hsz)).2.2.2 d (by omega) (by omega)) ?_
     simp -implicitDefEqProofs (disch:=omega) only[go_sem]<;>(repeat(with_reducible refine And.intro ?_ ?_;focus first|omega|rfl|assumption|exact⟨_,rfl,rfl⟩|(simp;omega)|(simp;done)))
     exact bH (i+1,kP d x.aI[i].fBody.cnt) (by simp only;omega) rfl rfl ⟨by simp only;omega,by simp only;omega,p3⟩
    ·rw[Eu (by omega)] at p3
     exact int_eq (by omega)
   ·have hi:i=x.aI.length:=by omega
    rw[hi,List.drop_length,aF.cu,BS p2.1] at p3
    exact int_eq (by omega)
end Go.Proofs.YtlmhknhlmicmeaaGreatDoor
