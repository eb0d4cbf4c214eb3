/-
  SEVERAL TEXTS IN ONE (merged by program): contracts and models, each with its own heading.
-/
import Derived.Test.YtlmhknhlmicmeaaGreatDoorPartRnbD
import Derived.Shelf.Strconv.Atoi
import Derived.Shelf.LaysC
import Derived.Shelf.Strconv.AtoiErr
import Derived.Shelf.Strconv.ErrVar
import Derived.Test.YtlmhknhlmicmeaaGreatDoorProg
import Derived.Lib.AppendIntMem
import Derived.Lib.AtoiBound
import Derived.WalkKit
import Derived.ProofKit
import Derived.Lib.AppendZeros
import Derived.Laws.Cover3
set_option linter.unusedSimpArgs false
set_option linter.unusedVariables false
set_option maxRecDepth 4000
namespace Go.Ab
def uh(s:List UInt8):Prop:=s.head? =some 45
instance (s:List UInt8):Decidable (uh s):=inferInstanceAs (Decidable (_=_))
def dS(s:List UInt8):List UInt8:=if uh s then s.tail else s
theorem vX:∀(l:List UInt8) (acc v:Nat),Lib.decFrom acc l=some v→∀b∈l,48≤b.toNat∧b.toNat≤57
 |[],_,_,_,b,hb=>by cases hb
 |a::l,acc,v,h,b,hb=>by
  rw[Lib.decFrom] at h
  cases hd:Lib.digitVal a with
  |none=>rw[hd] at h;cases h
  |some d=>
   rw[hd] at h
   rcases List.mem_cons.1 hb with rfl|hb
   ·unfold Lib.digitVal at hd
    split at hd
    ·assumption
    ·cases hd
   ·exact vX l _ v h b hb
theorem O5{b:UInt8}(h:48≤b.toNat∧b.toNat≤57):Lib.digitVal b=some (b.toNat-48):=if_pos h
theorem decFrom_take{t:List UInt8}{i acc:Nat}(hi:i<t.length)(h:Lib.decFrom 0 (t.take i)=some acc)(hd:48≤t[i].toNat∧t[i].toNat≤57):Lib.decFrom 0 (t.take (i+1))=some (acc*10+(t[i].toNat-48)):=by
 rw[List.take_succ_eq_append_getElem hi,yu,h,O5 hd];rfl
theorem CS{s:List UInt8}{m:Int}(h:fB s=some m):(uh s↔m<0)∧dS s=Lib.decDigits m.natAbs∧1≤(dS s).length∧(dS s).length≤12:=by
 obtain⟨hr,he⟩:=G9 h
 have hl:(Lib.decDigits m.natAbs).length≤12:=zT 11 _ (by omega)
 obtain⟨b,r,e,b1,b2⟩:=uR m.natAbs
 have hl1:1≤(Lib.decDigits m.natAbs).length:=by rw[e];simp
 unfold Lib.itoa at he
 by_cases hn:m<0
 ·rw[if_pos hn] at he
  have hs:uh s:=by rw[←he];rfl
  have hb:dS s=Lib.decDigits m.natAbs:=by unfold dS;rw[if_pos hs,←he];rfl
  exact⟨⟨fun _=>hn,fun _=>hs⟩,hb,by rw[hb];exact⟨hl1,hl⟩⟩
 ·rw[if_neg hn,show m.toNat=m.natAbs by omega] at he
  have hs:¬uh s:=fun x=>by
   rw[←he,e] at x
   unfold uh at x
   simp only[List.head?_cons,Option.some.injEq] at x
   rw[x] at b1;revert b1;decide
  have hb:dS s=Lib.decDigits m.natAbs:=by unfold dS;rw[if_neg hs,←he]
  exact⟨⟨fun x=>(hs x).elim,fun x=>(hn x).elim⟩,hb,by rw[hb];exact⟨hl1,hl⟩⟩
theorem rF{s:List UInt8}(h:(dS s).length<1∨12<(dS s).length):fB s=none:=by
 cases hr:fB s with
 |none=>rfl
 |some m=>have:=(CS hr).2.2;omega
theorem yY{s:List UInt8}{i:Nat}(hi:i<(dS s).length)(h:¬(48≤(dS s)[i].toNat∧(dS s)[i].toNat≤57)):fB s=none:=by
 cases hr:fB s with
 |none=>rfl
 |some m=>
  have hk:=(CS hr).2.1
  have hd:=uQ m.natAbs
  rw[←hk] at hd
  exact absurd (vX _ _ _ hd _ (List.getElem_mem hi)) h
theorem JV{s:List UInt8}{v:Nat}(hv:Lib.decFrom 0 (dS s)=some v)(hb:v≤999999999999):fB s=if Lib.itoa (if uh s then -(v:Int) else v)=s then some (if uh s then -(v:Int) else v) else none:=by
 obtain⟨z,hz⟩:∃z,z=(if uh s then -(v:Int) else v):=⟨_,rfl⟩
 have hzb: -999999999999≤z∧z≤999999999999:=by rw[hz];split<;>omega
 rw[←hz]
 by_cases h:Lib.itoa z=s
 ·rw[if_pos h]
  conv=>lhs;rw[←h]
  exact G8 hzb
 ·rw[if_neg h]
  cases hr:fB s with
  |none=>rfl
  |some m=>
   have hk:=CS hr
   have hd:=uQ m.natAbs
   rw[←hk.2.1,hv] at hd
   have hm:v=m.natAbs:=by simpa using hd
   have:z=m:=by
    rw[hz]
    by_cases hn:uh s
    ·have:=hk.1.1 hn
     rw[if_pos hn];omega
    ·rw[if_neg hn]
     have:¬m<0:=fun x=>hn (hk.1.2 x)
     omega
   rw[this] at h
   exact absurd (G9 hr).2 h
end Go.Ab
namespace Go.Proofs.YtlmhknhlmicmeaaGreatDoor
open Go Go.Ab
theorem O6(s:List UInt8)(hs:s.length≤1073741824):aI Tryz.prog 277 [.c (.d (.s s)),.c (.d (.i .i64 12))] (.d9 [(false,[.d (.i .i64 ((fB s).getD 0))]),(false,[.d (.b (fB s).isSome)])]):=fun S=>by
 have d0:fB s=none→V.d9 [(false,[.d (.i .i64 0)]),(false,[.d (.b false)])]=.d9 [(false,[.d (.i .i64 ((fB s).getD 0))]),(false,[.d (.b (fB s).isSome)])]:=fun e=>by rw[e];rfl
 refine aF (rs:=[.tmp 4,.tmp 5]) Tryz.checked.mixed Tryz.func277 Tryz.ntmps277 rfl rfl rfl rfl rfl ?_
 simp -implicitDefEqProofs (disch:=omega) only[go_sem]
 with_reducible refine aA (fun hb=> ?_) (fun hb=> ?_)<;>have h:=hb<;>(try simp only[wf_preprocess] at h)<;>simp -implicitDefEqProofs (disch:=omega) only[go_sem,hb]<;>(repeat(with_reducible refine And.intro ?_ ?_;focus first|omega|rfl|assumption|exact⟨_,rfl,rfl⟩|(simp;omega)|(simp;done)))
 ·have hpos:0<s.length:=by omega
  have h0:(s.getD 0 0).toNat=45↔uh s:=by
   cases s with
   |nil=>simp at hpos
   |cons b s=>
    unfold uh
    simp only[List.getD_cons_zero,List.head?_cons,Option.some.injEq]
    constructor
    ·intro e;exact UInt8.toNat.inj e
    ·intro e;rw[e];rfl
  (repeat(with_reducible refine And.intro ?_ ?_;focus first|omega|rfl|assumption|exact⟨_,rfl,rfl⟩|(simp;omega)|(simp;done)))
  with_reducible refine aA (fun hb=> ?_) (fun hb=> ?_)<;>have h:=hb<;>(try simp only[wf_preprocess] at h)<;>simp -implicitDefEqProofs (disch:=omega) only[go_sem,hb]<;>(repeat(with_reducible refine And.intro ?_ ?_;focus first|omega|rfl|assumption|exact⟨_,rfl,rfl⟩|(simp;omega)|(simp;done)))
  ·have hn:uh s:=h0.1 (by omega)
   have hb:dS s=(s.take s.length).drop 1:=by unfold dS;rw[if_pos hn,List.take_length,List.drop_one]
   (repeat(with_reducible refine And.intro ?_ ?_;focus first|omega|rfl|assumption|exact⟨_,rfl,rfl⟩|(simp;omega)|(simp;done)))
   rw[←hb]
   have hbl:(dS s).length≤s.length:=by rw[hb];simp
   with_reducible refine aA (fun hb=> ?_) (fun hb=> ?_)<;>have h:=hb<;>(try simp only[wf_preprocess] at h)<;>simp -implicitDefEqProofs (disch:=omega) only[go_sem,hb]<;>(repeat(with_reducible refine And.intro ?_ ?_;focus first|omega|rfl|assumption|exact⟨_,rfl,rfl⟩|(simp;omega)|(simp;done)))
   ·exact d0 (rF (by omega))
   with_reducible refine aA (fun hb=> ?_) (fun hb=> ?_)<;>have h:=hb<;>(try simp only[wf_preprocess] at h)<;>simp -implicitDefEqProofs (disch:=omega) only[go_sem,hb]<;>(repeat(with_reducible refine And.intro ?_ ?_;focus first|omega|rfl|assumption|exact⟨_,rfl,rfl⟩|(simp;omega)|(simp;done)))
   ·exact d0 (rF (by omega))
   have hl1:1≤(dS s).length:=by omega
   have hl12:(dS s).length≤12:=by omega
   refine aX (ι:=Nat×Nat) Tryz.checked.mixed rfl [0,6,7,8,9] (fun y=>[.c (.d (.s s)),.c (.d (.b true)),.c (.d (.s (dS s))),.c (.d (.i .i64 y.2)),.c (.d (.i .i64 y.1))]) (fun _=>[]::S)
    (fun y=>y.1≤(dS s).length∧Lib.decFrom 0 ((dS s).take y.1)=some y.2∧y.2<10^y.1) (fun y=>(dS s).length-y.1) (0,0) rfl rfl ⟨Nat.zero_le _,rfl,by decide⟩ ?_
   rintro⟨i,acc⟩ ⟨p1,p2,p3⟩
   simp only at p1 p2 p3
   have p4:10^i≤10^12:=Nat.pow_le_pow_right (by decide) (by omega)
   simp -implicitDefEqProofs (disch:=omega) only[go_sem]
   with_reducible refine aA (fun hb=> ?_) (fun hb=> ?_)<;>have h:=hb<;>(try simp only[wf_preprocess] at h)<;>simp -implicitDefEqProofs (disch:=omega) only[go_sem,hb]<;>(repeat(with_reducible refine And.intro ?_ ?_;focus first|omega|rfl|assumption|exact⟨_,rfl,rfl⟩|(simp;omega)|(simp;done)))
   ·have hi:i<(dS s).length:=by omega
    have e:(dS s).getD i 0=(dS s)[i]:=by simp[List.getD,hi]
    have hbb:=(dS s)[i].toNat_lt
    (repeat(with_reducible refine And.intro ?_ ?_;focus first|omega|rfl|assumption|exact⟨_,rfl,rfl⟩|(simp;omega)|(simp;done)))
    simp only[e]
    with_reducible refine aA (fun hb=> ?_) (fun hb=> ?_)<;>have h:=hb<;>(try simp only[wf_preprocess] at h)<;>simp -implicitDefEqProofs (disch:=omega) only[go_sem,hb]<;>(repeat(with_reducible refine And.intro ?_ ?_;focus first|omega|rfl|assumption|exact⟨_,rfl,rfl⟩|(simp;omega)|(simp;done)))
    ·exact d0 (yY hi (by omega))
    (repeat(with_reducible refine And.intro ?_ ?_;focus first|omega|rfl|assumption|exact⟨_,rfl,rfl⟩|(simp;omega)|(simp;done)))
    simp only[e]
    with_reducible refine aA (fun hb=> ?_) (fun hb=> ?_)<;>have h:=hb<;>(try simp only[wf_preprocess] at h)<;>simp -implicitDefEqProofs (disch:=omega) only[go_sem,hb]<;>(repeat(with_reducible refine And.intro ?_ ?_;focus first|omega|rfl|assumption|exact⟨_,rfl,rfl⟩|(simp;omega)|(simp;done)))
    ·exact d0 (yY hi (by omega))
    have hdg:48≤(dS s)[i].toNat∧(dS s)[i].toNat≤57:=by omega
    have ht:=decFrom_take hi p2 hdg
    have e2:(10:Int)*acc+(((dS s)[i].toNat:Int)-48)=((acc*10+((dS s)[i].toNat-48):Nat):Int):=by omega
    (repeat(with_reducible refine And.intro ?_ ?_;focus first|omega|rfl|assumption|exact⟨_,rfl,rfl⟩|(simp;omega)|(simp;done)))
    simp -implicitDefEqProofs (disch:=omega) only[go_sem,wrap_u8,e]
    rw[e2]
    exact bI (i+1,acc*10+((dS s)[i].toNat-48)) (by simp only;omega) rfl rfl ⟨by simp only;omega,ht,by simp only[Nat.pow_succ];omega⟩
   ·have hi:i=(dS s).length:=by omega
    have hv:Lib.decFrom 0 (dS s)=some acc:=by rw[hi,List.take_length] at p2;exact p2
    have Bp:=JV hv (by omega)
    rw[if_pos hn] at Bp
    rw[show(0:Int)-acc= -(acc:Int) by omega]
    refine ay (rY (-(acc:Int)) (by omega) (by omega)) ?_
    simp -implicitDefEqProofs (disch:=omega) only[go_sem]
    with_reducible refine aA (fun hb=> ?_) (fun hb=> ?_)<;>have h:=hb<;>(try simp only[wf_preprocess] at h)<;>simp -implicitDefEqProofs (disch:=omega) only[go_sem,hb]<;>(repeat(with_reducible refine And.intro ?_ ?_;focus first|omega|rfl|assumption|exact⟨_,rfl,rfl⟩|(simp;omega)|(simp;done)))
    ·exact d0 (Bp.trans (if_neg h))
    ·rw[Bp.trans (if_pos h)];rfl
  ·have hn:¬uh s:=fun x=>h (by rw[h0.2 x];rfl)
   have hbs:dS s=s:=by unfold dS;rw[if_neg hn]
   have hbl:(dS s).length=s.length:=by rw[hbs]
   with_reducible refine aA (fun hb=> ?_) (fun hb=> ?_)<;>have h:=hb<;>(try simp only[wf_preprocess] at h)<;>simp -implicitDefEqProofs (disch:=omega) only[go_sem,hb]<;>(repeat(with_reducible refine And.intro ?_ ?_;focus first|omega|rfl|assumption|exact⟨_,rfl,rfl⟩|(simp;omega)|(simp;done)))
   ·exact d0 (rF (by omega))
   with_reducible refine aA (fun hb=> ?_) (fun hb=> ?_)<;>have h:=hb<;>(try simp only[wf_preprocess] at h)<;>simp -implicitDefEqProofs (disch:=omega) only[go_sem,hb]<;>(repeat(with_reducible refine And.intro ?_ ?_;focus first|omega|rfl|assumption|exact⟨_,rfl,rfl⟩|(simp;omega)|(simp;done)))
   ·exact d0 (rF (by omega))
   have hl1:1≤(dS s).length:=by omega
   have hl12:(dS s).length≤12:=by omega
   refine aX (ι:=Nat×Nat) Tryz.checked.mixed rfl [0,6,7,8,9] (fun y=>[.c (.d (.s s)),.c (.d (.b false)),.c (.d (.s (dS s))),.c (.d (.i .i64 y.2)),.c (.d (.i .i64 y.1))]) (fun _=>[]::S)
    (fun y=>y.1≤(dS s).length∧Lib.decFrom 0 ((dS s).take y.1)=some y.2∧y.2<10^y.1) (fun y=>(dS s).length-y.1) (0,0) (by rw[hbs];rfl) rfl ⟨Nat.zero_le _,rfl,by decide⟩ ?_
   rintro⟨i,acc⟩ ⟨p1,p2,p3⟩
   simp only at p1 p2 p3
   have p4:10^i≤10^12:=Nat.pow_le_pow_right (by decide) (by omega)
   simp -implicitDefEqProofs (disch:=omega) only[go_sem]
   with_reducible refine aA (fun hb=> ?_) (fun hb=> ?_)<;>have h:=hb<;>(try simp only[wf_preprocess] at h)<;>simp -implicitDefEqProofs (disch:=omega) only[go_sem,hb]<;>(repeat(with_reducible refine And.intro ?_ ?_;focus first|omega|rfl|assumption|exact⟨_,rfl,rfl⟩|(simp;omega)|(simp;done)))
   ·have hi:i<(dS s).length:=by omega
    have e:(dS s).getD i 0=(dS s)[i]:=by simp[List.getD,hi]
    have hbb:=(dS s)[i].toNat_lt
    (repeat(with_reducible refine And.intro ?_ ?_;focus first|omega|rfl|assumption|exact⟨_,rfl,rfl⟩|(simp;omega)|(simp;done)))
    simp only[e]
    with_reducible refine aA (fun hb=> ?_) (fun hb=> ?_)<;>have h:=hb<;>(try simp only[wf_preprocess] at h)<;>simp -implicitDefEqProofs (disch:=omega) only[go_sem,hb]<;>(repeat(with_reducible refine And.intro ?_ ?_;focus first|omega|rfl|assumption|exact⟨_,rfl,rfl⟩|(simp;omega)|(simp;done)))
    ·exact d0 (yY hi (by omega))
    (repeat(with_reducible refine And.intro ?_ ?_;focus first|omega|rfl|assumption|exact⟨_,rfl,rfl⟩|(simp;omega)|(simp;done)))
    simp only[e]
    with_reducible refine aA (fun hb=> ?_) (fun hb=> ?_)<;>have h:=hb<;>(try simp only[wf_preprocess] at h)<;>simp -implicitDefEqProofs (disch:=omega) only[go_sem,hb]<;>(repeat(with_reducible refine And.intro ?_ ?_;focus first|omega|rfl|assumption|exact⟨_,rfl,rfl⟩|(simp;omega)|(simp;done)))
    ·exact d0 (yY hi (by omega))
    have hdg:48≤(dS s)[i].toNat∧(dS s)[i].toNat≤57:=by omega
    have ht:=decFrom_take hi p2 hdg
    have e2:(10:Int)*acc+(((dS s)[i].toNat:Int)-48)=((acc*10+((dS s)[i].toNat-48):Nat):Int):=by omega
    (repeat(with_reducible refine And.intro ?_ ?_;focus first|omega|rfl|assumption|exact⟨_,rfl,rfl⟩|(simp;omega)|(simp;done)))
    simp -implicitDefEqProofs (disch:=omega) only[go_sem,wrap_u8,e]
    rw[e2]
    exact bI (i+1,acc*10+((dS s)[i].toNat-48)) (by simp only;omega) rfl rfl ⟨by simp only;omega,ht,by simp only[Nat.pow_succ];omega⟩
   ·have hi:i=(dS s).length:=by omega
    have hv:Lib.decFrom 0 (dS s)=some acc:=by rw[hi,List.take_length] at p2;exact p2
    have Bp:=JV hv (by omega)
    rw[if_neg hn] at Bp
    refine ay (rY ((acc:Int)) (by omega) (by omega)) ?_
    simp -implicitDefEqProofs (disch:=omega) only[go_sem]
    with_reducible refine aA (fun hb=> ?_) (fun hb=> ?_)<;>have h:=hb<;>(try simp only[wf_preprocess] at h)<;>simp -implicitDefEqProofs (disch:=omega) only[go_sem,hb]<;>(repeat(with_reducible refine And.intro ?_ ?_;focus first|omega|rfl|assumption|exact⟨_,rfl,rfl⟩|(simp;omega)|(simp;done)))
    ·exact d0 (Bp.trans (if_neg h))
    ·rw[Bp.trans (if_pos h)];rfl
 ·have hs0:s=[]:=List.eq_nil_of_length_eq_zero (by omega)
  have hb0:(dS s).length=0:=by rw[hs0];rfl
  with_reducible refine aA (fun hb=> ?_) (fun hb=> ?_)<;>have h:=hb<;>(try simp only[wf_preprocess] at h)<;>simp -implicitDefEqProofs (disch:=omega) only[go_sem,hb]<;>(repeat(with_reducible refine And.intro ?_ ?_;focus first|omega|rfl|assumption|exact⟨_,rfl,rfl⟩|(simp;omega)|(simp;done)))
  ·exact d0 (rF (by omega))
  ·omega
theorem Hf(s:List UInt8)(hs:s.length≤1073741824):aI Tryz.prog 197 [.c (.d (.s s))] (.d9 [(false,[.d (.i .i64 ((fB s).getD 0))]),(false,[.d (.b (fB s).isSome)])]):=fun S=>by
 refine aF (rs:=[.tmp 2,.tmp 3]) Tryz.checked.mixed Tryz.func197 Tryz.ntmps197 rfl rfl rfl rfl rfl ?_
 simp -implicitDefEqProofs (disch:=omega) only[go_sem]
 refine ay (O6 s hs) ?_
 simp -implicitDefEqProofs (disch:=omega) only[go_sem]<;>(repeat(with_reducible refine And.intro ?_ ?_;focus first|omega|rfl|assumption|exact⟨_,rfl,rfl⟩|(simp;omega)|(simp;done)))
end Go.Proofs.YtlmhknhlmicmeaaGreatDoor
namespace Go.Ab
theorem Vo{x:ah}{i:Nat}(hi:i<x.ak.length)(h:x.sz≤4194304):x.ak[i].sz≤4194304:=by
 have:=j4 (List.getElem_mem hi)
 rw[jK,lQ] at h
 omega
theorem Vp{x:ah}(h:x.sz≤4194304):x.aV.length≤4194304∧x.ak.length≤4194304:=by
 rw[jK] at h
 omega
end Go.Ab
namespace Go.Proofs.YtlmhknhlmicmeaaGreatDoor
open Go Go.Ab
theorem vY:∀n:Nat,∀x:ah,SizeOf.sizeOf x<n→∀y:ah,x.sz≤4194304→aI Tryz.prog 107 [x.v,y.v] (.c (.d (.b (dec (x=y)))))
 |0=>fun x h=>by omega
 |n+1=>by
  have ih:=vY n
  intro x hn y hsz S
  have Gq:=ah.kK x
  have hb:=Vp hsz
  refine aF (rs:=[.tmp 4]) Tryz.checked.mixed Tryz.func107 Tryz.ntmps107 rfl rfl rfl rfl rfl ?_
  simp -implicitDefEqProofs (disch:=omega) only[go_sem]
  with_reducible refine aA (fun hb=> ?_) (fun hb=> ?_)<;>have h:=hb<;>(try simp only[wf_preprocess] at h)<;>simp -implicitDefEqProofs (disch:=omega) only[go_sem,hb]<;>(repeat(with_reducible refine And.intro ?_ ?_;focus first|omega|rfl|assumption|exact⟨_,rfl,rfl⟩|(simp;omega)|(simp;done)))
  ·exact aD (aL (fun e=>h (by rw[e]))).symm
  have h1:=h
  with_reducible refine aA (fun hb=> ?_) (fun hb=> ?_)<;>have h:=hb<;>(try simp only[wf_preprocess] at h)<;>simp -implicitDefEqProofs (disch:=omega) only[go_sem,hb]<;>(repeat(with_reducible refine And.intro ?_ ?_;focus first|omega|rfl|assumption|exact⟨_,rfl,rfl⟩|(simp;omega)|(simp;done)))
  ·exact aD (aL (fun e=>h (by rw[e]))).symm
  have hl:x.ak.length=y.ak.length:=by omega
  refine aX (ι:=Nat) Tryz.checked.mixed rfl [2,3,5] (fun i=>[.c (.ptr (0,0) 0),.c (.ptr (0,1) 0),.c (.d (.i .i64 i))]) (fun i=>[.box [.d (.s x.aV),.d (.sl (x.ak.map ah.enc))],.box [.d (.s y.aV),.d (.sl (y.ak.map ah.enc))]]::S)
   (fun i=>i≤x.ak.length∧∀j,j<i→x.ak[j]? =y.ak[j]?) (fun i=>x.ak.length-i) 0 rfl rfl ⟨Nat.zero_le _,fun j h=>by omega⟩ ?_
  rintro i ⟨p1,p2⟩
  simp -implicitDefEqProofs (disch:=omega) only[go_sem,ah.aH]
  with_reducible refine aA (fun hb=> ?_) (fun hb=> ?_)<;>have h:=hb<;>(try simp only[wf_preprocess] at h)<;>simp -implicitDefEqProofs (disch:=omega) only[go_sem,hb]<;>(repeat(with_reducible refine And.intro ?_ ?_;focus first|omega|rfl|assumption|exact⟨_,rfl,rfl⟩|(simp;omega)|(simp;done)))
  ·have hi:i<x.ak.length:=by omega
   have hi':i<y.ak.length:=by omega
   (repeat(with_reducible refine And.intro ?_ ?_;focus first|omega|rfl|assumption|exact⟨_,rfl,rfl⟩|(simp;omega)|(simp;done)))
   refine ay (ih x.ak[i] (by have:=List.sizeOf_lt_of_mem (List.getElem_mem hi);omega) y.ak[i] (Vo hi hsz)) ?_
   simp -implicitDefEqProofs (disch:=omega) only[go_sem]
   with_reducible refine aA (fun hb=> ?_) (fun hb=> ?_)<;>have h:=hb<;>(try simp only[wf_preprocess] at h)<;>simp -implicitDefEqProofs (disch:=omega) only[go_sem,hb]<;>(repeat(with_reducible refine And.intro ?_ ?_;focus first|omega|rfl|assumption|exact⟨_,rfl,rfl⟩|(simp;omega)|(simp;done)))
   ·exact aD (aL (fun e=>h (by simp only[e]))).symm
   refine bI (i+1) (by omega) rfl rfl ⟨by omega,fun j hj=> ?_⟩
   by_cases e:j=i
   ·subst e
    rw[List.getElem?_eq_getElem hi,List.getElem?_eq_getElem hi',h]
   ·exact p2 j (by omega)
  ·have hi:i=x.ak.length:=by omega
   refine aD (bC ?_).symm
   refine ah.ext (by first|exact h1|(simp at h1;exact h1)) (List.ext_getElem? fun j=> ?_)
   by_cases hj:j<i
   ·exact p2 j hj
   ·rw[List.getElem?_eq_none (by omega),List.getElem?_eq_none (by omega)]
theorem DY(x y:ah)(h:x.sz≤4194304):aI Tryz.prog 107 [x.v,y.v] (.c (.d (.b (dec (x=y))))):=vY _ x (Nat.lt_succ_self _) y h
theorem vZ:∀n:Nat,(∀x:ah,SizeOf.sizeOf x<n→∀y:ah,x.sz≤4194304→aI Tryz.prog 98 [x.v,y.v] (.c (.d (.b (dec (x=y))))))∧
 (∀xs:List ah,SizeOf.sizeOf xs<n→∀ys:List ah,xs.length≤4194304→(∀t∈xs,t.sz≤4194304)→aI Tryz.prog 189 [.c (.d (.sl (xs.map ah.enc))),.c (.d (.sl (ys.map ah.enc))),.c (.fn 98 [])] (.c (.d (.b (dec (xs=ys))))))
 |0=>⟨fun x h=>by omega,fun x h=>by omega⟩
 |n+1=>by
  obtain⟨ih,lF⟩:=vZ n
  refine⟨fun x hn y hsz S=> ?_,fun xs hn ys hlen hsz S=> ?_⟩
  ·have Gq:=ah.kK x
   have hb:=Vp hsz
   refine aF (rs:=[.tmp 4]) Tryz.checked.mixed Tryz.func98 Tryz.ntmps98 rfl rfl rfl rfl rfl ?_
   simp -implicitDefEqProofs (disch:=omega) only[go_sem]
   with_reducible refine aA (fun hb=> ?_) (fun hb=> ?_)<;>have h:=hb<;>(try simp only[wf_preprocess] at h)<;>simp -implicitDefEqProofs (disch:=omega) only[go_sem,hb]<;>(repeat(with_reducible refine And.intro ?_ ?_;focus first|omega|rfl|assumption|exact⟨_,rfl,rfl⟩|(simp;omega)|(simp;done)))
   ·have h1:=h
    (repeat(with_reducible refine And.intro ?_ ?_;focus first|omega|rfl|assumption|exact⟨_,rfl,rfl⟩|(simp;omega)|(simp;done)))
    refine ay (lF x.ak (by omega) y.ak (by omega) (fun t ht=>by
     obtain⟨i,hi,e⟩:=List.getElem_of_mem ht
     rw[←e];exact Vo hi hsz)) ?_
    simp -implicitDefEqProofs (disch:=omega) only[go_sem]
    refine aD (iq ⟨fun e=>ah.ext h1 e,fun e=>by rw[e]⟩)
   ·exact aD (aL (fun e=>h (by rw[e]))).symm
  ·refine aF (rs:=[.tmp 6]) Tryz.checked.mixed Tryz.func189 Tryz.ntmps189 rfl rfl rfl rfl rfl ?_
   simp -implicitDefEqProofs (disch:=omega) only[go_sem]
   with_reducible refine aA (fun hb=> ?_) (fun hb=> ?_)<;>have h:=hb<;>(try simp only[wf_preprocess] at h)<;>simp -implicitDefEqProofs (disch:=omega) only[go_sem,hb]<;>(repeat(with_reducible refine And.intro ?_ ?_;focus first|omega|rfl|assumption|exact⟨_,rfl,rfl⟩|(simp;omega)|(simp;done)))
   ·exact aD (aL (fun e=>h (by rw[e]))).symm
   have hl:xs.length=ys.length:=by omega
   refine aX (ι:=Nat) Tryz.checked.mixed rfl [1,2,15,16,17] (fun y=>[.c (.d (.sl (ys.map ah.enc))),.c (.fn 98 []),.c (.d (.sl (xs.map ah.enc))),.c (.d (.i .i64 xs.length)),.c (.d (.i .i64 y))]) (fun y=>[]::S)
    (fun i=>i≤xs.length∧∀j,j<i→xs[j]? =ys[j]?) (fun y=>xs.length-y) 0 rfl rfl ⟨Nat.zero_le _,fun j h=>by omega⟩ ?_
   rintro i ⟨p1,p2⟩
   simp -implicitDefEqProofs (disch:=omega) only[go_sem]
   with_reducible refine aA (fun hb=> ?_) (fun hb=> ?_)<;>have h:=hb<;>(try simp only[wf_preprocess] at h)<;>simp -implicitDefEqProofs (disch:=omega) only[go_sem,hb]<;>(repeat(with_reducible refine And.intro ?_ ?_;focus first|omega|rfl|assumption|exact⟨_,rfl,rfl⟩|(simp;omega)|(simp;done)))
   ·have hi:i<xs.length:=by omega
    have hi':i<ys.length:=by omega
    (repeat(with_reducible refine And.intro ?_ ?_;focus first|omega|rfl|assumption|exact⟨_,rfl,rfl⟩|(simp;omega)|(simp;done)))
    refine ay (ih xs[i] (by have:=List.sizeOf_lt_of_mem (List.getElem_mem hi);omega) ys[i] (hsz _ (List.getElem_mem hi))) ?_
    simp -implicitDefEqProofs (disch:=omega) only[go_sem]
    with_reducible refine aA (fun hb=> ?_) (fun hb=> ?_)<;>have h:=hb<;>(try simp only[wf_preprocess] at h)<;>simp -implicitDefEqProofs (disch:=omega) only[go_sem,hb]<;>(repeat(with_reducible refine And.intro ?_ ?_;focus first|omega|rfl|assumption|exact⟨_,rfl,rfl⟩|(simp;omega)|(simp;done)))
    ·exact aD (aL (fun e=>h (by simp only[e]))).symm
    refine dA 0 (by decide) (i+1) (by omega) rfl rfl rfl rfl ⟨by omega,fun j hj=> ?_⟩
    by_cases e:j=i
    ·subst e
     rw[List.getElem?_eq_getElem hi,List.getElem?_eq_getElem hi',h]
    ·exact p2 j (by omega)
   ·have hi:i=xs.length:=by omega
    refine aD (bC (List.ext_getElem? fun j=> ?_)).symm
    by_cases hj:j<i
    ·exact p2 j hj
    ·rw[List.getElem?_eq_none (by omega),List.getElem?_eq_none (by omega)]
theorem DZ(x y:ah)(h:x.sz≤4194304):aI Tryz.prog 98 [x.v,y.v] (.c (.d (.b (dec (x=y))))):=(vZ _).1 x (Nat.lt_succ_self _) y h
end Go.Proofs.YtlmhknhlmicmeaaGreatDoor
namespace Go.Ab
section
variable {P:Program} {w w':World} {σ σ':Nat→Nat} {S:Store} {β:Hs}
end
end Go.Ab
namespace Go.Ab
section
variable {P:Program} {w w':World} {σ σ':Nat→Nat} {β:Hs}
theorem aal{own:List Obj}{Ω:Store}(lab:Option Nat)(j i aQ:Nat)(es:List (List D))(cs:List C)(hj:own[j]? =some (.box cs))(hi:cs[i]? =some (match lab with|some n=>.iK n es|none=>.aO es))(hes:∀e∈es,e.length=aQ)(hS:dH w σ (own::Ω) β):
 ∃β',dH w σ ((own.set j (.box (cs.set i (.bL (0,own.length) es)))++[gG lab aQ es])::Ω) β'∧Step (own::Ω) β σ w ((own.set j (.box (cs.set i (.bL (0,own.length) es)))++[gG lab aQ es])::Ω) β' σ w∧Keep (own::Ω) β ((own.set j (.box (cs.set i (.bL (0,own.length) es)))++[gG lab aQ es])::Ω) β':=by
 cases β with
 |nil=>have:=hS.shape.1;simp at this
 |cons bo bΩ=>
 have hlen:bo.length=own.length:=by
  obtain⟨gr,g1,g2⟩:=hS.shape.2 0 own rfl
  simp at g1;rw[g1];exact g2
 have hjl:=(List.getElem?_eq_some_iff.1 hj).1
 have hg0:aU (own::Ω) (0,j)=some (.box cs):=by rw[bg];exact hj
 obtain⟨hb,Ed,hr⟩:=hS.obj (0,j) _ hg0
 obtain⟨b,cv,ty,rfl,hbc,hσ,hcs⟩:=hr
 have hcs:eU w σ (own::Ω) (bo::bΩ) cs cv.toList:=hcs
 obtain⟨v,hv,hc0,hone⟩:=hcs.2 i _ hi
 have hx:∃ad:Option Addr,bU w σ (.sl es) v∧v=.slice ad es.length es.length∧∀n,lab=some n→bU w σ (.ol n es) v:=by
  cases lab with
  |none=>
   obtain⟨hd,ad,n,hval⟩:=hc0
   have hn:n=es.length:=by rw[hval] at hd;cases hd<;>rfl
   exact⟨ad,hd,by rw[hval,hn],fun n e=>by cases e⟩
  |some n=>
   obtain⟨hd,ad,m,hval⟩:=hc0
   have hn:m=es.length:=by
    have:=tF hd
    rw[hval] at this
    cases this<;>rfl
   exact⟨ad,tF hd,by rw[hval,hn],fun n' e=>by cases e;exact hd⟩
 obtain⟨ad,hd,hval,hol⟩:=hx
 have hg:Grow w σ w σ:=Grow.refl hS.live
 obtain⟨hS',hk,hst⟩:=hS.push (o:=gG lab aQ es) (h:=v) hg hlen (by
  cases lab with
  |none=>exact⟨hd,hes,ad,es.length,hval,Nat.le_refl _,.inl rfl⟩
  |some n=>exact⟨hd,hes,ad,es.length,hval,Nat.le_refl _,.inl ⟨rfl,hol n rfl⟩⟩) (fun b hb=>by
  rw[hval] at hb
  cases lab<;>cases ad<;>simp[gG,owns,blk] at hb)
 have hk1:aU ((own++[gG lab aQ es])::Ω) (0,j)=some (.box cs):=jC _ _ _ _ _ hg0
 have Bt:aU ((bo++[v])::bΩ) (0,j)=some (.pointer (some ⟨b,0,none⟩)):=jC _ _ _ _ _ Ed
 have hko:jJ (.box cs) (some (Value.pointer (some ⟨b,0,none⟩))) (.box (cs.set i (.bL (0,own.length) es))) (some (Value.pointer (some ⟨b,0,none⟩))):=.inr ⟨⟨_,rfl⟩,rfl⟩
 have hK:Keep ((own++[gG lab aQ es])::Ω) ((bo++[v])::bΩ) (aY ((own++[gG lab aQ es])::Ω) (0,j) (.box (cs.set i (.bL (0,own.length) es)))) (aY ((bo++[v])::bΩ) (0,j) (.pointer (some ⟨b,0,none⟩))):=by
  intro k1 o1 e1
  by_cases e:k1=(0,j)
  ·subst e
   rw[hk1] at e1;cases e1
   exact⟨_,bZ _ _ _ _ hk1,by rw[Bt,bZ _ _ _ _ Bt];exact hko⟩
  ·exact⟨o1,(dQ _ _ _ _ (Ne.symm e)).trans e1,by rw[dQ _ _ _ _ (Ne.symm e)];exact .refl _ _⟩
 have hne:(0,own.length)≠(0,j):=fun e=>by injection e with _ e;omega
 obtain⟨hS2,hk2,xP⟩:=hS'.set (w':=w) (σ':=σ) (o':=.box (cs.set i (.bL (0,own.length) es))) (h':=.pointer (some ⟨b,0,none⟩)) hk1 Bt (Nat.le_refl _) rfl rfl (eu.refl _ _) hS'.live (fun _ _ _=>⟨rfl,rfl⟩) hko
  ⟨b,cv,ty,rfl,hbc,hσ,by
    refine⟨by rw[List.length_set];exact hcs.1,fun m x hm=> ?_⟩
    rw[List.getElem?_set] at hm
    by_cases e:i=m
    ·subst e
     rw[if_pos rfl] at hm
     split at hm
     ·cases hm
      refine⟨v,hv,⟨hd,gG lab aQ es,?_,fun a1 b1 e1=> ?_⟩,hone⟩
      ·show aU (aY _ (0,j) _) (0,own.length)=_
       rw[dQ _ _ _ _ (Ne.symm hne),bM]
      ·obtain⟨_,rfl⟩:=kG e1
       refine⟨Nat.le_refl _,fun _=> ?_⟩
       show aU (aY _ (0,j) _) (0,own.length)=_
       rw[dQ _ _ _ _ (Ne.symm hne),←hlen,bM]
     ·cases hm
    ·rw[if_neg e] at hm
     obtain⟨u,hu,hc,ho⟩:=hcs.2 m x hm
     exact⟨u,hu,(hc.mono (eu.refl _ _) hk).mono (eu.refl _ _) hK,ho⟩⟩ (fun _ e=>.inl e)
 have est:aY ((own++[gG lab aQ es])::Ω) (0,j) (.box (cs.set i (.bL (0,own.length) es)))=(own.set j (.box (cs.set i (.bL (0,own.length) es)))++[gG lab aQ es])::Ω:=by
  rw[aY,List.set_append_left _ _ hjl]
 rw[est] at hS2 hk2 xP
 exact⟨_,hS2,hst.trans xP,hk.trans hk2⟩
end
end Go.Ab
namespace Go.Ab
section
variable {P:Program} {w w':World} {σ σ':Nat→Nat} {β:Hs} {N:Nat}
def oo(x y:C):Prop:=∀w σ S β v,fO w σ S β x v→fO w σ S β y v
theorem oo.refl(x:C):oo x x:=fun _ _ _ _ _ h=>h
theorem CU(n:Nat):oo (.aO []) (.iK n []):=fun w σ S β v h=>by
 obtain⟨hd,a,m,hv⟩:=h
 have hm:m=0:=by rw[hv] at hd;cases hd<;>rfl
 subst hm
 exact⟨by rw[hv];exact .qm _ _ _,a,0,hv⟩
theorem gy(n:Nat):oo (.aO []) (.d (.ol n [])):=fun w σ S β v h=>(CU n w σ S β v h).1
theorem iW(es:List (List D)):oo (.aO es) (.d (.sl es)):=fun w σ S β v h=>h.1
inductive dZ:List C→List C→Prop
 |nil:dZ [] []
 |cons {x y:C} {xs ys:List C}:oo x y→dZ xs ys→dZ (x::xs) (y::ys)
theorem dZ.refl:∀xs,dZ xs xs
 |[]=>.nil
 |x::xs=>.cons (.refl x) (dZ.refl xs)
theorem dZ.length:∀{xs ys:List C},dZ xs ys→xs.length=ys.length
 |_,_,.nil=>rfl
 |_,_,.cons _ h=>by rw[List.length_cons,List.length_cons,dZ.length h]
theorem dZ.at:∀{xs ys:List C},dZ xs ys→∀(j:Nat) (x y:C),xs[j]? =some x→ys[j]? =some y→oo x y
 |_,_,.nil,j,x,y,h,_=>by simp at h
 |_,_,.cons a h,0,x,y,h1,h2=>by simp at h1 h2;subst h1;subst h2;exact a
 |_,_,.cons a h,j+1,x,y,h1,h2=>dZ.at h j x y (by simpa using h1) (by simpa using h2)
theorem dZ.less{xs ys:List C}(h:dZ xs ys):Less (.agg xs) (.agg ys):=by
 rintro w σ S β v ⟨a,ha,hc⟩
 refine⟨a,ha,h.length.symm.trans hc.1,fun j y hy=> ?_⟩
 have hj:j<xs.length:=by rw[h.length];exact(List.getElem?_eq_some_iff.1 hy).1
 obtain⟨v,h1,h2,h3⟩:=hc.2 j _ (List.getElem?_eq_getElem hj)
 exact⟨v,h1,h.at j _ y (List.getElem?_eq_getElem hj) hy w σ S β v h2,h3⟩
theorem dZ.abJ{xs ys:List C}(h:dZ xs ys){w:World}{σ:Nat→Nat}{S:Store}{β:Hs}{vs:List Value}(hc:eU w σ S β xs vs):eU w σ S β ys vs:=by
 refine⟨h.length.symm.trans hc.1,fun j y hy=> ?_⟩
 have hj:j<xs.length:=by rw[h.length];exact(List.getElem?_eq_some_iff.1 hy).1
 obtain⟨v,h1,h2,h3⟩:=hc.2 j _ (List.getElem?_eq_getElem hj)
 exact⟨v,h1,h.at j _ y (List.getElem?_eq_getElem hj) hy w σ S β v h2,h3⟩
theorem Yn{own:List Obj}{Ω:Store}(j:Nat)(cs cs':List C)(hj:own[j]? =some (.box cs))(hle:dZ cs cs')(hS:dH w σ (own::Ω) β):
 ∃β',dH w σ ((own.set j (.box cs'))::Ω) β'∧Step (own::Ω) β σ w ((own.set j (.box cs'))::Ω) β' σ w∧Keep (own::Ω) β ((own.set j (.box cs'))::Ω) β'∧fA β'=fA β∧β'.length=β.length:=by
 cases β with
 |nil=>have:=hS.shape.1;simp at this
 |cons bo bΩ=>
 have hg0:aU (own::Ω) (0,j)=some (.box cs):=by rw[bg];exact hj
 obtain⟨hb,Ed,hr⟩:=hS.obj (0,j) _ hg0
 obtain⟨b,cv,ty,rfl,hbc,hσ,hcs⟩:=hr
 have hcs:eU w σ (own::Ω) (bo::bΩ) cs cv.toList:=hcs
 have hko:jJ (.box cs) (some (Value.pointer (some ⟨b,0,none⟩))) (.box cs') (some (Value.pointer (some ⟨b,0,none⟩))):=.inr ⟨⟨_,rfl⟩,rfl⟩
 have hK:Keep (own::Ω) (bo::bΩ) (aY (own::Ω) (0,j) (.box cs')) (aY (bo::bΩ) (0,j) (.pointer (some ⟨b,0,none⟩))):=by
  intro k1 o1 e1
  by_cases e:k1=(0,j)
  ·subst e
   rw[hg0] at e1;cases e1
   exact⟨_,bZ _ _ _ _ hg0,by rw[Ed,bZ _ _ _ _ Ed];exact hko⟩
  ·exact⟨o1,(dQ _ _ _ _ (Ne.symm e)).trans e1,by rw[dQ _ _ _ _ (Ne.symm e)];exact .refl _ _⟩
 obtain⟨hS2,hk2,xP⟩:=hS.set (w':=w) (σ':=σ) (o':=.box cs') (h':=.pointer (some ⟨b,0,none⟩)) hg0 Ed (Nat.le_refl _) rfl rfl (eu.refl _ _) hS.live (fun _ _ _=>⟨rfl,rfl⟩) hko
  ⟨b,cv,ty,rfl,hbc,hσ,by
    have h1:=hle.abJ hcs
    refine⟨h1.1,fun m x hm=> ?_⟩
    obtain⟨u,hu,hc,ho⟩:=h1.2 m x hm
    exact⟨u,hu,hc.mono (eu.refl _ _) hK,ho⟩⟩ (fun _ e=>.inl e)
 have est:aY (own::Ω) (0,j) (.box cs')=(own.set j (.box cs'))::Ω:=rfl
 rw[est] at hS2 hk2 xP
 exact⟨_,hS2,xP,hk2,rfl,by simp[aY]⟩
theorem KD{tm:List (Nat×V)}{own:List Obj}{Ω:Store}(j:Nat)(cs cs':List C)(hj:own[j]? =some (.box cs))(hle:dZ cs cs'):gu N ⟨tm,own::Ω⟩ ⟨tm,(own.set j (.box cs'))::Ω⟩:=by
 intro a w σ β hR
 obtain⟨β',hS,hst,hk,ht,_⟩:=Yn j cs cs' hj hle hR.S
 refine⟨σ,β',⟨hR.size,hR.defers,hS,fun u=>(hR.T u).mono (eu.refl _ _) hk⟩,hst,?_⟩
 rw[ht];exact Keep.refl _ _
theorem CV{tm:List (Nat×V)}{own:List Obj}{Ω:Store}(lab:Option Nat)(j i aQ:Nat)(es:List (List D))(cs:List C)(hj:own[j]? =some (.box cs))(hi:cs[i]? =some (match lab with|some n=>.iK n es|none=>.aO es))(hes:∀e∈es,e.length=aQ):
 gu N ⟨tm,own::Ω⟩ ⟨tm,(own.set j (.box (cs.set i (.bL (0,own.length) es)))++[gG lab aQ es])::Ω⟩:=by
 intro a w σ β hR
 obtain⟨β',hS,hst,hk⟩:=aal lab j i aQ es cs hj hi hes hR.S
 refine⟨σ,β',⟨hR.size,hR.defers,hS,fun u=>(hR.T u).mono (eu.refl _ _) hk⟩,hst,?_⟩
 intro k o hko
 obtain⟨o',h1,h2⟩:=hk (k.1+1,k.2) o (by
  obtain⟨l,i⟩:=k
  show aU (own::Ω) (l+1,i)=_
  rw[bH];exact hko)
 obtain⟨bo,bΩ,rfl,_⟩:=frames hR
 have h3:=hS.shape.1
 cases β' with
 |nil=>simp at h3
 |cons bo' bΩ'=>
  rw[bH] at h1
  rw[bH,bH] at h2
  exact⟨o',h1,h2⟩
theorem Sq{c:Code}{Q:Exit→St→Prop}{tm:List (Nat×V)}{own:List Obj}{Ω:Store}(j:Nat)(cs cs':List C)(hj:own[j]? =some (.box cs))(hle:dZ cs cs')(h:AW P N c Q ⟨tm,(own.set j (.box cs'))::Ω⟩):AW P N c Q ⟨tm,own::Ω⟩:=lN h (KD j cs cs' hj hle)
theorem JW{x y:C}(hle:oo x y):∀(i:Nat) (cs:List C),cs[i]? =some x→dZ cs (cs.set i y)
 |0,[],h=>by simp at h
 |0,z::cs,h=>by simp at h;subst h;exact .cons hle (.refl cs)
 |i+1,[],h=>by simp at h
 |i+1,z::cs,h=>.cons (.refl z) (JW hle i cs (by simpa using h))
theorem Hg{c:Code}{Q:Exit→St→Prop}{tm:List (Nat×V)}{own:List Obj}{Ω:Store}(n j i aQ:Nat)(cs:List C)(hj:own[j]? =some (.box cs))(hi:cs[i]? =some (.aO []))
 (h:AW P N c Q ⟨tm,(own.set j (.box (cs.set i (.bL (0,own.length) [])))++[.eP n aQ []])::Ω⟩):AW P N c Q ⟨tm,own::Ω⟩:=by
 have hjl:=(List.getElem?_eq_some_iff.1 hj).1
 have hil:=(List.getElem?_eq_some_iff.1 hi).1
 refine Sq j cs (cs.set i (.iK n [])) hj (JW (CU n) i cs hi) ?_
 refine lN ?_ (CV (some n) j i aQ [] (cs.set i (.iK n [])) (by rw[List.getElem?_set_self hjl]) (by rw[List.getElem?_set_self hil]) (by simp))
 rw[List.set_set,List.set_set,List.length_set]
 exact h
theorem JX{c:Code}{Q:Exit→St→Prop}{tm:List (Nat×V)}{own:List Obj}{Ω:Store}(j i aQ:Nat)(cs:List C)(hj:own[j]? =some (.box cs))(hi:cs[i]? =some (.aO []))
 (h:AW P N c Q ⟨tm,(own.set j (.box (cs.set i (.bL (0,own.length) [])))++[.tok aQ []])::Ω⟩):AW P N c Q ⟨tm,own::Ω⟩:=
 lN h (CV none j i aQ [] cs hj hi (by simp))
def Hl(x y:D):Prop:=∀w σ v,bU w σ x v→bU w σ y v
theorem Hl.refl(x:D):Hl x x:=fun _ _ _ h=>h
inductive jY:List D→List D→Prop
 |nil:jY [] []
 |cons {x y:D} {xs ys:List D}:Hl x y→jY xs ys→jY (x::xs) (y::ys)
theorem jY.refl:∀r,jY r r
 |[]=>.nil
 |x::xs=>.cons (.refl x) (jY.refl xs)
theorem jY.length:∀{r r':List D},jY r r'→r.length=r'.length
 |_,_,.nil=>rfl
 |_,_,.cons _ h=>by rw[List.length_cons,List.length_cons,h.length]
theorem jY.at:∀{r r':List D},jY r r'→∀(j:Nat) (y:D),r'[j]? =some y→∃x,r[j]? =some x∧Hl x y
 |_,_,.nil,j,y,h=>by simp at h
 |_,_,.cons a h,0,y,h2=>by simp at h2;subst h2;exact⟨_,rfl,a⟩
 |_,_,.cons a h,j+1,y,h2=>h.at j y (by simpa using h2)
theorem jY.append:∀{a a' b b':List D},jY a a'→jY b b'→jY (a++b) (a'++b')
 |_,_,_,_,.nil,h=>h
 |_,_,_,_,.cons x h,k=>.cons x (h.append k)
inductive gW:List (List D)→List (List D)→Prop
 |nil:gW [] []
 |cons {x y:List D} {xs ys:List (List D)}:jY x y→gW xs ys→gW (x::xs) (y::ys)
theorem gW.length:∀{r r':List (List D)},gW r r'→r.length=r'.length
 |_,_,.nil=>rfl
 |_,_,.cons _ h=>by rw[List.length_cons,List.length_cons,h.length]
theorem gW.snoc:∀{a b:List (List D)} {x y:List D},gW a b→jY x y→gW (a++[x]) (b++[y])
 |_,_,_,_,.nil,h=>.cons h .nil
 |_,_,_,_,.cons z h,k=>.cons z (h.snoc k)
theorem gW.rows{z:Nat}:∀{a b:List (List D)},gW a b→(∀r∈b,r.length=z)→∀r∈a,r.length=z
 |_,_,.nil,h,r,hr=>by cases hr
 |_,_,.cons x h,k,r,hr=>by
  rcases List.mem_cons.1 hr with rfl|hr
  ·rw[x.length];exact k _ (by simp)
  ·exact h.rows (fun r hr=>k r (by simp[hr])) r hr
theorem gW.flat:∀{a b:List (List D)},gW a b→jY a.flatten b.flatten
 |_,_,.nil=>.nil
 |_,_,.cons x h=>by rw[List.flatten_cons,List.flatten_cons];exact x.append h.flat
theorem gW.rep{a b:List (List D)}(h:gW a b){w:World}{σ:Nat→Nat}{v:Value}(hr:bU w σ (.sl a) v):bU w σ (.sl b) v:=by
 cases hr with
 |nil ad cap=>
  cases h
  exact .nil ad cap
 |sl b0 off cap aQ es vals c t fz hcap hlen hb hσ hc hv=>
  have hl:=h.length
  rw[hl] at hcap hσ hc ⊢
  have hlb:∀e∈b,e.length=aQ:=fun e he=>by
   obtain⟨i,hi,rfl⟩:=List.getElem_of_mem he
   have:∀{a b:List (List D)} (h:gW a b) (i:Nat) (hi:i<b.length) (hi':i<a.length),jY a[i] b[i]:=by
    intro a b h
    induction h with
    |nil=>intro i hi;simp at hi
    |cons x h ih=>intro i hi hi';cases i with
     |zero=>exact x
     |succ i=>exact ih i (by simpa using hi) (by simpa using hi')
   have h1:=this h i hi (by omega)
   rw[←h1.length];exact hlen _ (List.getElem_mem _)
  refine .sl b0 off cap aQ b vals c t fz hcap hlb hb hσ hc fun j d hd=> ?_
  obtain⟨x,hx,hle⟩:=h.flat.at j d hd
  exact hle w σ _ (hv j x hx)
inductive j6:List (Bool×List C)→List (Bool×List C)→Prop
 |nil:j6 [] []
 |cons {b:Bool} {cs cs':List C} {xs ys:List (Bool×List C)}:dZ cs cs'→j6 xs ys→j6 ((b,cs)::xs) ((b,cs')::ys)
theorem j6.refl:∀xs,j6 xs xs
 |[]=>.nil
 |(b,cs)::xs=>.cons (.refl cs) (j6.refl xs)
theorem j6.length:∀{xs ys:List (Bool×List C)},j6 xs ys→xs.length=ys.length
 |_,_,.nil=>rfl
 |_,_,.cons _ h=>by rw[List.length_cons,List.length_cons,h.length]
theorem j6.at:∀{xs ys:List (Bool×List C)},j6 xs ys→∀(j:Nat) (y:Bool×List C),ys[j]? =some y→∃cs,xs[j]? =some (y.1,cs)∧dZ cs y.2
 |_,_,.nil,j,y,h=>by simp at h
 |_,_,.cons a h,0,y,h2=>by simp at h2;subst h2;exact⟨_,rfl,a⟩
 |_,_,.cons a h,j+1,y,h2=>h.at j y (by simpa using h2)
theorem j6.less{xs ys:List (Bool×List C)}(h:j6 xs ys):Less (.d9 xs) (.d9 ys):=by
 rintro w σ S β v ⟨a,ha,hl,hc⟩
 refine⟨a,ha,h.length.symm.trans hl,fun j y hy=> ?_⟩
 obtain⟨cs,h1,h2⟩:=h.at j y hy
 obtain⟨u,hu,hr⟩:=hc j _ h1
 refine⟨u,hu,?_⟩
 obtain⟨b,cs'⟩:=y
 cases b with
 |true=>
  obtain⟨a',e,hcs⟩:=hr
  exact⟨a',e,h2.abJ hcs⟩
 |false=>
  obtain⟨x,e,hx,ho⟩:=hr
  simp only at e h2
  subst e
  cases h2 with
  |cons hxy hn=>
   cases hn
   exact⟨_,rfl,hxy w σ S β u hx,ho⟩
theorem aI.of_le{f:FuncId}{args:List V}{t:V}(h:∀S,bD P f args S fun r S'=>Less r t∧S'=S):aI P f args t:=fun S=>
 ⟨(h S).1,fun w σ β vs hS hv=>((h S).2 w σ β vs hS hv).mono fun e w' ⟨v,r,S',σ',β',h1,h2,h3,h4,h5,h6,h7⟩=>⟨v,t,S',σ',β',h1,h2,h3,h4,h6 _ _ _ _ _ h5,rfl,h7⟩⟩
theorem Vq{cs cs':List C}{xs:List (Bool×List C)}(h:∀w σ S β vs,eU w σ S β cs vs→eU w σ S β cs' vs):Less (.d9 ((true,cs)::xs)) (.d9 ((true,cs')::xs)):=by
 rintro w σ S β v ⟨a,ha,hl,hc⟩
 obtain⟨u,hu,a',rfl,hcs⟩:=hc 0 _ rfl
 refine⟨a,ha,hl,fun j y hy=> ?_⟩
 cases j with
 |zero=>
  simp at hy;subst hy
  exact⟨_,hu,a',rfl,h _ _ _ _ _ hcs⟩
 |succ j=>exact hc (j+1) y (by simpa using hy)
theorem iw(v:V):Less v v:=fun _ _ _ _ _ h=>h
end
end Go.Ab
namespace Go.Ab
theorem vC{α:Type}[SizeOf α]:∀(i:Nat) (l:List α),SizeOf.sizeOf (l.drop i)≤SizeOf.sizeOf l
 |0,l=>by simp
 |i+1,[]=>by simp
 |i+1,x::l=>by
  have:=vC i l
  rw[List.drop_succ_cons];simp only[List.cons.sizeOf_spec];omega
theorem qM(l:List ah)(n i:Nat)(h:l.length≤n):((l.map ah.enc).take n).drop i=(l.drop i).map ah.enc:=by
 rw[List.take_of_length_le (by rw[List.length_map];exact h),List.map_drop]
theorem Yo(l:List ah)(i:Nat):(l.getD i fC).sz≤dR l:=by
 rw[List.getD_eq_getElem?_getD]
 by_cases h:i<l.length
 ·rw[List.getElem?_eq_getElem h];exact j4 (List.getElem_mem h)
 ·rw[List.getElem?_eq_none (by omega)]
  rw[Option.getD_none,jK];simp[fC,ah.aV,ah.ak,bF]
theorem gL(x:ah):x.ak.length+dR x.ak≤x.sz:=by rw[jK,lQ];omega
theorem Bb(x:ah):x.aV.length≤x.sz:=by rw[jK];omega
def sW(x:ah):List D:=[.s x.aV]
def allA(l:List ah):Bool:=l.all fun x=>decide (x.aV≠[])
theorem Qe{l:List ah}{i:Nat}(hi:i<l.length)(h:l[i].aV=[]):allA l=false∧fu l=[]:=by
 have:allA l=false:=by
  unfold allA
  rw[List.all_eq_false]
  exact⟨_,List.getElem_mem hi,by simp[h]⟩
 refine⟨this,?_⟩
 unfold fu
 unfold allA at this
 rw[this];rfl
theorem Ni{l:List ah}(h:∀j (hj:j<l.length),l[j].aV≠[]):allA l=true∧(fu l).map encS=l.map sW:=by
 have:allA l=true:=by
  unfold allA
  rw[List.all_eq_true]
  intro x hx
  obtain⟨j,hj,rfl⟩:=List.getElem_of_mem hx
  exact decide_eq_true (h j hj)
 refine⟨this,?_⟩
 unfold fu
 unfold allA at this
 rw[this,if_pos rfl,List.map_map];rfl
theorem CX{l:List ah}{i:Nat}(hi:i<l.length):(l.take i).map sW++[[.s l[i].aV]]=(l.take (i+1)).map sW:=by
 rw[List.take_succ_eq_append_getElem hi,List.map_append];rfl
theorem EC{l:List ah}{i:Nat}:((l.take i).map sW).length≤i:=by rw[List.length_map];exact List.length_take_le _ _
def lt(l:List aj)(n:Nat):List (List D):=eX (l.map aj.enc) n
def fU(l:List aj):Nat:=jU (l.map aj.enc)
theorem aam(x:aj)(n:Nat):eH x.enc n=[.i .i64 x.aM,.s x.fName,.ol n (lt x.fArgs (n+1))]:=by
 rw[aj.aH];simp only[eH,lX,nU,Nat.add_zero,lt]
theorem Vr(l:List aj)(n:Nat):(lt l n).length=l.length:=by unfold lt;rw[jV,List.length_map]
theorem aan{l:List aj}{i:Nat}(hi:i<l.length)(n:Nat):lt (l.take i) n++[[.i .i64 l[i].aM,.s l[i].fName,.ol (n+fU (l.take i)) (lt l[i].fArgs (n+fU (l.take i)+1))]]=lt (l.take (i+1)) n:=by
 rw[List.take_succ_eq_append_getElem hi]
 unfold lt fU
 rw[List.map_append,nW]
 simp only[List.map_cons,List.map_nil,eX,aam,lt]
theorem JY{l:List aj}{i:Nat}(hi:i<l.length):(l.take i).map aj.enc++[[.i .i64 l[i].aM,.s l[i].fName,.sl (l[i].fArgs.map aj.enc)]]=(l.take (i+1)).map aj.enc:=by
 rw[List.take_succ_eq_append_getElem hi,List.map_append]
 simp only[List.map_cons,List.map_nil,aj.aH]
theorem I9(k:Int)(s:List UInt8)(n:Nat):Less (.agg [.d (.i .i64 k),.d (.s s),.aO []]) (.agg [.d (.i .i64 k),.d (.s s),.d (.ol n [])]):=(dZ.cons (.refl _) (.cons (.refl _) (.cons (gy n) .nil))).less
theorem Qf(k:Int)(s:List UInt8)(es:List (List D)):Less (.agg [.d (.i .i64 k),.d (.s s),.aO es]) (.agg [.d (.i .i64 k),.d (.s s),.d (.sl es)]):=(dZ.cons (.refl _) (.cons (.refl _) (.cons (iW es) .nil))).less
theorem abK{s:List UInt8}(h:s≠[]):((s.getD 0 0).toNat:Int)=39↔s.head? =some 39:=by
 cases s with
 |nil=>exact(h rfl).elim
 |cons b s=>
  simp only[List.getD_cons_zero,List.head?_cons,Option.some.injEq]
  constructor
  ·intro e
   have:b.toNat=39:=by omega
   exact UInt8.toNat.inj this
  ·intro e;rw[e];rfl
theorem Ho(s:List UInt8)(n:Nat)(h:s.length≤n):(s.take n).drop 1=s.tail:=by rw[List.take_of_length_le h,List.drop_one]
abbrev aj.vl (t:aj) (n:Nat):V:=.agg [.d (.i .i64 t.aM),.d (.s t.fName),.d (.ol n (lt t.fArgs (n+1)))]
theorem Fg(l:List (List UInt8)):jU (l.map encS)=0:=by
 induction l with
 |nil=>rfl
 |cons s l ih=>rw[List.map_cons,jU,ih];rfl
theorem abL{b:Bool}{x:ah}{r:V}{k:Int}{s:List UInt8}{l:List aj}(h:dx b x=.mk k s l)(hl:Less r (.agg [.d (.i .i64 k),.d (.s s),.d (.sl (l.map aj.enc))])):Less r (dx b x).v:=by rw[h];exact hl
theorem YV{b:Bool}{x:ah}{k:Int}{s:List UInt8}(h:dx b x=.mk k s []):Less (.agg [.d (.i .i64 k),.d (.s s),.aO []]) (dx b x).v:=by rw[h];exact Qf k s []
theorem YW{b:Bool}{x:ah}{k:Int}{s:List UInt8}(h:dx b x=.mk k s []):Less (.agg [.d (.i .i64 k),.d (.s s),.d (.sl [])]) (dx b x).v:=by rw[h];exact iw _
theorem YX{b:Bool}{x:ah}{r:V}{n:Nat}{k:Int}{s:List UInt8}{l:List aj}(h:dx b x=.mk k s l)(hl:Less r (.agg [.d (.i .i64 k),.d (.s s),.d (.ol n (lt l (n+1)))])):Less r ((dx b x).vl n):=by rw[h];exact hl
theorem Vs{b:Bool}{x:ah}{n:Nat}{k:Int}{s:List UInt8}(h:dx b x=.mk k s []):Less (.agg [.d (.i .i64 k),.d (.s s),.aO []]) ((dx b x).vl n):=by rw[h];exact I9 k s n
theorem Vt{b:Bool}{x:ah}{n:Nat}{k:Int}{s:List UInt8}(h:dx b x=.mk k s []):Less (.agg [.d (.i .i64 k),.d (.s s),.d (.ol n [])]) ((dx b x).vl n):=by rw[h];exact iw _
theorem O7{s:List UInt8}(h:1≤s.length):(s.take 1).drop 0=[39]↔s.head? =some 39:=by
 cases s with
 |nil=>simp at h
 |cons b s=>simp
end Go.Ab
namespace Go.Proofs.YtlmhknhlmicmeaaGreatDoor
open Go Go.Ab
theorem CY(xs:List ah)(hx:xs.length≤1073741824):aI Tryz.prog 215 [.c (.d (.sl (xs.map ah.enc)))] (.d9 [(false,[.d (.sl ((fu xs).map encS))]),(false,[.d (.b (allA xs))])]):=aI.of_le fun S=>by
 refine aF (rs:=[.tmp 2,.tmp 3]) Tryz.checked.mixed Tryz.func215 Tryz.ntmps215 rfl rfl rfl rfl rfl ?_
 simp -implicitDefEqProofs (disch:=omega) only[go_sem]
 (repeat(with_reducible refine And.intro ?_ ?_;focus first|omega|rfl|assumption|exact⟨_,rfl,rfl⟩|(simp;omega)|(simp;done)))
 refine vJ 4 1 [] rfl (by simp) ?_
 refine aX (ι:=Nat) Tryz.checked.mixed rfl [0,4,5] (fun i=>[.c (.d (.sl (xs.map ah.enc))),.c (.bL (0,0) ((xs.take i).map sW)),.c (.d (.i .i64 i))]) (fun i=>[.tok 1 ((xs.take i).map sW)]::S)
  (fun i=>i≤xs.length∧∀j,∀hj:j<xs.length,j<i→xs[j].aV≠[]) (fun i=>xs.length-i) 0 rfl rfl ⟨Nat.zero_le _,fun j _ h=>by omega⟩ ?_
 rintro i ⟨p1,p2⟩
 have hl:=EC (l:=xs) (i:=i)
 simp -implicitDefEqProofs (disch:=omega) only[go_sem,ah.aH]
 with_reducible refine aA (fun hb=> ?_) (fun hb=> ?_)<;>have h:=hb<;>(try simp only[wf_preprocess] at h)<;>simp -implicitDefEqProofs (disch:=omega) only[go_sem,hb]<;>(repeat(with_reducible refine And.intro ?_ ?_;focus first|omega|rfl|assumption|exact⟨_,rfl,rfl⟩|(simp;omega)|(simp;done)))
 ·have hi':i<xs.length:=by omega
  have hs:=CX hi'
  (repeat(with_reducible refine And.intro ?_ ?_;focus first|omega|rfl|assumption|exact⟨_,rfl,rfl⟩|(simp;omega)|(simp;done)))
  with_reducible refine aA (fun hb=> ?_) (fun hb=> ?_)<;>have h:=hb<;>(try simp only[wf_preprocess] at h)<;>simp -implicitDefEqProofs (disch:=omega) only[go_sem,hb]<;>(repeat(with_reducible refine And.intro ?_ ?_;focus first|omega|rfl|assumption|exact⟨_,rfl,rfl⟩|(simp;omega)|(simp;done)))
  ·obtain⟨e1,e2⟩:=Qe hi' h
   rw[e1,e2]
   exact(j6.cons (.cons (iW _) .nil) (.refl _)).less
  ·(repeat(with_reducible refine And.intro ?_ ?_;focus first|omega|rfl|assumption|exact⟨_,rfl,rfl⟩|(simp;omega)|(simp;done)))
   rw[hs]
   refine bI (i+1) (by omega) rfl rfl ⟨by omega,fun j hj hji=> ?_⟩
   by_cases e':j=i
   ·subst e';exact h
   ·exact p2 j hj (by omega)
 ·have hi':i=xs.length:=by omega
  subst hi'
  obtain⟨e1,e2⟩:=Ni fun j hj=>p2 j hj hj
  rw[e1,e2,List.take_length]
  exact iw _
theorem yx(x:ah)(hx:x.sz≤4194304):aI Tryz.prog 120 [x.v] (.c (.d (.sl ((fu x.ak).map encS)))):=fun S=>by
 have:=gL x
 refine aF (rs:=[.tmp 2]) Tryz.checked.mixed Tryz.func120 Tryz.ntmps120 rfl rfl rfl rfl rfl ?_
 simp -implicitDefEqProofs (disch:=omega) only[go_sem]
 refine ay (CY x.ak (by omega)) ?_
 simp -implicitDefEqProofs (disch:=omega) only[go_sem]
theorem oD(x:ah)(i:Nat)(hx:x.sz≤4194304)(hi:i≤100):aI Tryz.prog 119 [x.v,.c (.d (.i .i64 i))] (x.ak.getD i fC).v:=aI.of_le fun S=>by
 have:=gL x
 refine aF (rs:=[.cell 4 32]) Tryz.checked.mixed Tryz.func119 Tryz.ntmps119 rfl rfl rfl rfl rfl ?_
 simp -implicitDefEqProofs (disch:=omega) only[go_sem]
 with_reducible refine aA (fun hb=> ?_) (fun hb=> ?_)<;>have h:=hb<;>(try simp only[wf_preprocess] at h)<;>simp -implicitDefEqProofs (disch:=omega) only[go_sem,hb]<;>(repeat(with_reducible refine And.intro ?_ ?_;focus first|omega|rfl|assumption|exact⟨_,rfl,rfl⟩|(simp;omega)|(simp;done)))
 ·rw[List.getD_eq_getElem?_getD,List.getElem?_eq_none (by omega)]
  exact(dZ.cons (.refl _) (.cons (iW _) .nil)).less
 ·have hi:i<x.ak.length:=by omega
  rw[List.getD_eq_getElem?_getD,List.getElem?_eq_getElem hi]
  exact iw _
theorem oQ(a b:Int):aI Tryz.prog 201 [.c (.d (.i .i64 a)),.c (.d (.i .i64 b))] (.c (.d (.i .i64 (min a b)))):=fun S=>by
 refine aF (rs:=[.tmp 4]) Tryz.checked.mixed Tryz.func201 Tryz.ntmps201 rfl rfl rfl rfl rfl ?_
 simp -implicitDefEqProofs (disch:=omega) only[go_sem]
 with_reducible refine aA (fun hb=> ?_) (fun hb=> ?_)<;>have h:=hb<;>(try simp only[wf_preprocess] at h)<;>simp -implicitDefEqProofs (disch:=omega) only[go_sem,hb]<;>(repeat(with_reducible refine And.intro ?_ ?_;focus first|omega|rfl|assumption|exact⟨_,rfl,rfl⟩|(simp;omega)|(simp;done)))
 ·exact int_eq (by omega)
 ·exact int_eq (by omega)
theorem O8(x:ah)(i:Nat)(hx:x.sz≤4194304):aI Tryz.prog 136 [x.v,.c (.d (.i .i64 i))] (.c (.d (.sl ((x.ak.drop i).map ah.enc)))):=fun S=>by
 have:=gL x
 refine aF (rs:=[.tmp 4]) Tryz.checked.mixed Tryz.func136 Tryz.ntmps136 rfl rfl rfl rfl rfl ?_
 simp -implicitDefEqProofs (disch:=omega) only[go_sem]
 refine ay (oQ _ _) ?_
 have e:min (i:Int) (x.ak.length:Int)=((min i x.ak.length:Nat):Int):=by omega
 rw[e]
 have hr:=iy (l:=x.ak)
 simp -implicitDefEqProofs (disch:=omega) only[go_sem]
 (repeat(with_reducible refine And.intro ?_ ?_;focus first|omega|rfl|assumption|exact⟨_,rfl,rfl⟩|(simp;omega)|(simp;done)))
 refine⟨⟨by omega,by omega,by omega,hr⟩,?_⟩
 rw[qM _ _ _ (Nat.le_refl _)]
 by_cases h:i≤x.ak.length
 ·rw[Nat.min_eq_left h]
 ·rw[Nat.min_eq_right (by omega),List.drop_length,List.drop_of_length_le (by omega)]
theorem Sr(s:List UInt8):aI Tryz.prog 217 [.c (.d (.s s)),.c (.d (.sl []))] (.agg [.d (.i .i64 2),.d (.s s),.d (.sl [])]):=aI.of_le fun S=>by
 refine aF (rs:=[.cell 4 57]) Tryz.checked.mixed Tryz.func217 Tryz.ntmps217 rfl rfl rfl rfl rfl ?_
 simp -implicitDefEqProofs (disch:=omega) only[go_sem]
 (repeat(with_reducible refine And.intro ?_ ?_;focus first|omega|rfl|assumption|exact⟨_,rfl,rfl⟩|(simp;omega)|(simp;done)))
 exact iw _
theorem Sv(s:List UInt8):aI Tryz.prog 216 [.c (.d (.s s))] (.agg [.d (.i .i64 1),.d (.s s),.d (.sl [])]):=aI.of_le fun S=>by
 refine aF (rs:=[.cell 2 57]) Tryz.checked.mixed Tryz.func216 Tryz.ntmps216 rfl rfl rfl rfl rfl ?_
 simp -implicitDefEqProofs (disch:=omega) only[go_sem]
 (repeat(with_reducible refine And.intro ?_ ?_;focus first|omega|rfl|assumption|exact⟨_,rfl,rfl⟩|(simp;omega)|(simp;done)))
 exact Qf _ _ _
theorem BG:∀N:Nat,(∀x:ah,SizeOf.sizeOf x<N→x.sz≤4194304→aI Tryz.prog 122 [x.v] (dx false x).v)
 |0=>fun x h=>by omega
 |N+1=>by
  have ih:=BG N
  intro x hn hsz
  have gZ:=ah.kK x
  have h1:=gL x
  have h2:=Bb x
  have hx:=Qb false x
  have hall:∀t∈x.ak,t.sz≤4194304:=fun t ht=>by have:=j4 ht;omega
  refine aI.of_le fun S=> ?_
  refine aF (rs:=[.cell 2 57]) Tryz.checked.mixed Tryz.func122 Tryz.ntmps122 rfl rfl rfl rfl rfl ?_
  simp -implicitDefEqProofs (disch:=omega) only[go_sem]
  with_reducible refine aA (fun hb=> ?_) (fun hb=> ?_)<;>have h:=hb<;>(try simp only[wf_preprocess] at h)<;>simp -implicitDefEqProofs (disch:=omega) only[go_sem,hb]<;>(repeat(with_reducible refine And.intro ?_ ?_;focus first|omega|rfl|assumption|exact⟨_,rfl,rfl⟩|(simp;omega)|(simp;done)))
  ·have hne:=h
   rw[if_neg h] at hx
   have h39:=abK h
   have hln:0<x.aV.length:=List.length_pos_iff.2 hne
   have hsl:=Ho x.aV x.aV.length (Nat.le_refl _)
   (repeat(with_reducible refine And.intro ?_ ?_;focus first|omega|rfl|assumption|exact⟨_,rfl,rfl⟩|(simp;omega)|(simp;done)))
   with_reducible refine aA (fun hb=> ?_) (fun hb=> ?_)<;>have h:=hb<;>(try simp only[wf_preprocess] at h)<;>simp -implicitDefEqProofs (disch:=omega) only[go_sem,hb]<;>(repeat(with_reducible refine And.intro ?_ ?_;focus first|omega|rfl|assumption|exact⟨_,rfl,rfl⟩|(simp;omega)|(simp;done)))
   ·rw[if_pos (h39.1 h)] at hx
    (repeat(with_reducible refine And.intro ?_ ?_;focus first|omega|rfl|assumption|exact⟨_,rfl,rfl⟩|(simp;omega)|(simp;done)))
    rw[hsl]
    refine ay (Sv _) ?_
    simp -implicitDefEqProofs (disch:=omega) only[go_sem]
    exact YW hx
   ·rw[if_neg (fun e=>h (h39.2 e))] at hx
    refine ay (Sr _) ?_
    simp -implicitDefEqProofs (disch:=omega) only[go_sem]
    exact YW hx
  rw[if_pos h] at hx
  with_reducible refine aA (fun hb=> ?_) (fun hb=> ?_)<;>have h:=hb<;>(try simp only[wf_preprocess] at h)<;>simp -implicitDefEqProofs (disch:=omega) only[go_sem,hb]<;>(repeat(with_reducible refine And.intro ?_ ?_;focus first|omega|rfl|assumption|exact⟨_,rfl,rfl⟩|(simp;omega)|(simp;done)))
  ·rw[if_pos (by omega)] at hx
   exact YV hx
  rw[if_neg (by omega)] at hx
  have hl2:2≤x.ak.length:=by omega
  have a0:=kL (l:=x.ak) (i:=0) (by omega)
  have a1:=kL (l:=x.ak) (i:=1) (by omega)
  obtain⟨T,hT⟩:∃T:Nat→List (List D),T=fun i=>(((x.ak.map (dx false)).drop 1).take i).map aj.enc:=⟨_,rfl⟩
  have hT0:T 0=[]:=by rw[hT];rfl
  have lV:∀i,(T i).length≤i:=fun i=>by rw[hT];simp only[List.length_map];exact List.length_take_le _ _
  have hTr:∀i,∀r∈T i,r.length=3:=fun i=>by
   rw[hT];intro r hr
   obtain⟨z,_,rfl⟩:=List.mem_map.1 hr
   exact z.bG
  have hTs:∀i (hi:i+1<x.ak.length),T i++[[.i .i64 (dx false x.ak[i+1]).aM,.s (dx false x.ak[i+1]).fName,.sl ((dx false x.ak[i+1]).fArgs.map aj.enc)]]=T (i+1):=fun i hi=>by
   have:=JY (l:=(x.ak.map (dx false)).drop 1) (i:=i) (by rw[List.length_drop,List.length_map];omega)
   rw[List.getElem_drop,List.getElem_map] at this
   rw[hT];simp only[Nat.add_comm 1 i] at this ⊢;exact this
  have hTe:T (x.ak.length-1)=((x.ak.map (dx false)).drop 1).map aj.enc:=by
   rw[hT];simp only
   rw[List.take_of_length_le (by simp)]
  have hTn:(T (x.ak.length-1)).length=x.ak.length-1:=by rw[hTe];simp
  have hTd:(T (x.ak.length-1)).drop 1=((x.ak.map (dx false)).drop 2).map aj.enc:=by rw[hTe,←List.map_drop,List.drop_drop]
  clear hT
  (repeat(with_reducible refine And.intro ?_ ?_;focus first|omega|rfl|assumption|exact⟨_,rfl,rfl⟩|(simp;omega)|(simp;done)))
  refine vJ 4 3 [] rfl (by simp) ?_
  refine aX (ι:=Nat) Tryz.checked.mixed rfl [1,2,3,4,5] (fun i=>[.c (.ptr (0,0) 0),.c (.ptr (0,1) 0),.c (.d (.s x.ak[0].aV)),.c (.bL (0,2) (T i)),.c (.d (.i .i64 ((i+1:Nat):Int)))])
   (fun i=>[.box [.d (.s x.aV),.d (.sl (x.ak.map ah.enc))],.box [.d (.i .i64 0),.d (.s []),.aO []],.tok 3 (T i)]::S)
   (fun i=>i+1≤x.ak.length) (fun i=>x.ak.length-(i+1)) 0 (by rw[hT0];rfl) (by rw[hT0];rfl) (by omega) ?_
  intro i hi
  have hl:=lV i
  simp -implicitDefEqProofs (disch:=omega) only[go_sem]
  with_reducible refine aA (fun hb=> ?_) (fun hb=> ?_)<;>have h:=hb<;>(try simp only[wf_preprocess] at h)<;>simp -implicitDefEqProofs (disch:=omega) only[go_sem,hb]<;>(repeat(with_reducible refine And.intro ?_ ?_;focus first|omega|rfl|assumption|exact⟨_,rfl,rfl⟩|(simp;omega)|(simp;done)))
  ·have hi':i+1<x.ak.length:=by omega
   have hm:=List.getElem_mem hi'
   have hs:=hTs i hi'
   (repeat(with_reducible refine And.intro ?_ ?_;focus first|omega|rfl|assumption|exact⟨_,rfl,rfl⟩|(simp;omega)|(simp;done)))
   refine ay (ih x.ak[i+1] (by have:=List.sizeOf_lt_of_mem hm;omega) (hall _ hm)) ?_
   simp -implicitDefEqProofs (disch:=omega) only[go_sem,aj.aH]
   (repeat(with_reducible refine And.intro ?_ ?_;focus first|omega|rfl|assumption|exact⟨_,rfl,rfl⟩|(simp;omega)|(simp;done)))
   rw[hs]
   exact bI (i+1) (by omega) rfl rfl (by omega)
  have hi':i=x.ak.length-1:=by omega
  subst hi'
  have hrows:=hTr (x.ak.length-1)
  have hta:((T (x.ak.length-1)).take (x.ak.length-1))=T (x.ak.length-1):=List.take_of_length_le (by omega)
  rw[a0,a1] at hx
  have tD:x.ak[0].aV=[100,121,110]∧x.ak.length=2∧x.ak[1].aV≠[]→dx false x=.mk 4 x.ak[1].aV []:=fun e=>hx.trans (if_pos ⟨e.1,.inr e.2⟩)
  have tA:x.ak[0].aV=[97,115,115,111,99]∧x.ak.length=3∧x.ak[1].aV≠[]→dx false x=.mk 3 x.ak[1].aV ((x.ak.map (dx false)).drop 2):=fun e=>by
   rw[hx,if_neg (fun e'=>by have:=e'.1.symm.trans e.1;revert this;decide),if_pos ⟨e.1,.inr e.2⟩]
  have tN:¬(x.ak[0].aV=[100,121,110]∧x.ak.length=2∧x.ak[1].aV≠[])→¬(x.ak[0].aV=[97,115,115,111,99]∧x.ak.length=3∧x.ak[1].aV≠[])→dx false x=.mk 2 x.ak[0].aV ((x.ak.map (dx false)).drop 1):=fun e1 e2=>by
   rw[hx,if_neg (fun e'=>e1 ⟨e'.1,e'.2.resolve_left (by decide)⟩),if_neg (fun e'=>e2 ⟨e'.1,e'.2.resolve_left (by decide)⟩)]
  clear hx hTs ih
  repeat' (first|(with_reducible refine aA (fun hb=> ?_) (fun hb=> ?_)<;>have h:=hb<;>(try simp only[wf_preprocess] at h)<;>simp -implicitDefEqProofs (disch:=omega) only[go_sem,hb]<;>(repeat(with_reducible refine And.intro ?_ ?_;focus first|omega|rfl|assumption|exact⟨_,rfl,rfl⟩|(simp;omega)|(simp;done)))))
  all_goals first
   |(refine⟨⟨by omega,by omega,hrows⟩,?_⟩;refine abL (tA ⟨by assumption,by omega,by assumption⟩) ?_;rw[hTn,hta,hTd];exact iw _)
   |exact YV (tD ⟨by assumption,by omega,by assumption⟩)
   |(refine abL (tN (fun⟨a,b,c⟩=>by first|contradiction|omega) (fun⟨a,b,c⟩=>by first|contradiction|omega)) ?_;rw[hTe];exact iw _)
   |trace_state
theorem yA(x:ah)(hsz:x.sz≤4194304):aI Tryz.prog 122 [x.v] (dx false x).v:=BG _ x (Nat.lt_succ_self _) hsz
theorem KE(xs:List ah)(hlen:xs.length≤4194304)(hsz:∀t∈xs,t.sz≤4194304):aI Tryz.prog 137 [.c (.d (.sl (xs.map ah.enc)))] (.c (.d (.sl ((xs.map (dx false)).map aj.enc)))):=fun S=>by
 refine aF (rs:=[.tmp 2]) Tryz.checked.mixed Tryz.func137 Tryz.ntmps137 rfl rfl rfl rfl rfl ?_
 simp -implicitDefEqProofs (disch:=omega) only[go_sem]
 (repeat(with_reducible refine And.intro ?_ ?_;focus first|omega|rfl|assumption|exact⟨_,rfl,rfl⟩|(simp;omega)|(simp;done)))
 refine vJ 3 3 [] rfl (by simp) ?_
 refine aX (ι:=Nat) Tryz.checked.mixed rfl [0,3,4] (fun i=>[.c (.d (.sl (xs.map ah.enc))),.c (.bL (0,0) (((xs.map (dx false)).take i).map aj.enc)),.c (.d (.i .i64 i))]) (fun i=>[.tok 3 (((xs.map (dx false)).take i).map aj.enc)]::S)
  (fun i=>i≤xs.length) (fun i=>xs.length-i) 0 rfl rfl (Nat.zero_le _) ?_
 intro i hi
 have hl:(((xs.map (dx false)).take i).map aj.enc).length≤i:=by rw[List.length_map];exact List.length_take_le _ _
 simp -implicitDefEqProofs (disch:=omega) only[go_sem]
 with_reducible refine aA (fun hb=> ?_) (fun hb=> ?_)<;>have h:=hb<;>(try simp only[wf_preprocess] at h)<;>simp -implicitDefEqProofs (disch:=omega) only[go_sem,hb]<;>(repeat(with_reducible refine And.intro ?_ ?_;focus first|omega|rfl|assumption|exact⟨_,rfl,rfl⟩|(simp;omega)|(simp;done)))
 ·have hi':i<xs.length:=by omega
  have hs:=JY (l:=xs.map (dx false)) (i:=i) (by rw[List.length_map];exact hi')
  rw[List.getElem_map] at hs
  (repeat(with_reducible refine And.intro ?_ ?_;focus first|omega|rfl|assumption|exact⟨_,rfl,rfl⟩|(simp;omega)|(simp;done)))
  refine ay (yA xs[i] (hsz _ (List.getElem_mem hi'))) ?_
  simp -implicitDefEqProofs (disch:=omega) only[go_sem]
  (repeat(with_reducible refine And.intro ?_ ?_;focus first|omega|rfl|assumption|exact⟨_,rfl,rfl⟩|(simp;omega)|(simp;done)))
  rw[hs]
  exact bI (i+1) (by omega) rfl rfl (by omega)
 ·have hi':i=(xs.map (dx false)).length:=by rw[List.length_map];omega
  rw[hi',List.take_length]
theorem Hq(s:List UInt8)(hs:s.length≤1073741824):aI Tryz.prog 332 [.c (.d (.s s)),.c (.d (.s [39]))] (.c (.d (.b (decide (s.head? =some 39))))):=fun S=>by
 refine aF (rs:=[.tmp 4]) Tryz.checked.mixed Tryz.func332 Tryz.ntmps332 rfl rfl rfl rfl rfl ?_
 simp -implicitDefEqProofs (disch:=omega) only[go_sem]
 with_reducible refine aA (fun hb=> ?_) (fun hb=> ?_)<;>have h:=hb<;>(try simp only[wf_preprocess] at h)<;>simp -implicitDefEqProofs (disch:=omega) only[go_sem,hb]<;>(repeat(with_reducible refine And.intro ?_ ?_;focus first|omega|rfl|assumption|exact⟨_,rfl,rfl⟩|(simp;omega)|(simp;done)))
 ·exact aD (decide_eq_decide.2 (O7 (by omega)))
 ·have:s=[]:=List.eq_nil_of_length_eq_zero (by omega)
  subst this
  rfl
theorem Hr(s:List UInt8)(hs:s.length≤1073741824):aI Tryz.prog 289 [.c (.d (.s s)),.c (.d (.s [39]))] (.d9 [(false,[.d (.s (if s.head? =some 39 then s.tail else s))]),(false,[.d (.b (decide (s.head? =some 39)))])]):=fun S=>by
 refine aF (rs:=[.tmp 4,.tmp 5]) Tryz.checked.mixed Tryz.func289 Tryz.ntmps289 rfl rfl rfl rfl rfl ?_
 simp -implicitDefEqProofs (disch:=omega) only[go_sem]
 refine ay (Hq s hs) ?_
 simp -implicitDefEqProofs (disch:=omega) only[go_sem]
 with_reducible refine aA (fun hb=> ?_) (fun hb=> ?_)<;>have h:=hb<;>(try simp only[wf_preprocess] at h)<;>simp -implicitDefEqProofs (disch:=omega) only[go_sem,hb]<;>(repeat(with_reducible refine And.intro ?_ ?_;focus first|omega|rfl|assumption|exact⟨_,rfl,rfl⟩|(simp;omega)|(simp;done)))
 ·rw[if_neg h,decide_eq_false h]
 ·have hl:0<s.length:=by
   cases s with
   |nil=>cases h
   |cons _ _=>simp
  (repeat(with_reducible refine And.intro ?_ ?_;focus first|omega|rfl|assumption|exact⟨_,rfl,rfl⟩|(simp;omega)|(simp;done)))
  rw[if_pos h,decide_eq_true h,Ho _ _ (Nat.le_refl _)]
theorem Nj(s:List UInt8)(hs:s.length≤1073741824):aI Tryz.prog 219 [.c (.d (.s s)),.c (.d (.s [39]))] (.d9 [(false,[.d (.s (if s.head? =some 39 then s.tail else s))]),(false,[.d (.b (decide (s.head? =some 39)))])]):=fun S=>by
 refine aF (rs:=[.tmp 4,.tmp 5]) Tryz.checked.mixed Tryz.func219 Tryz.ntmps219 rfl rfl rfl rfl rfl ?_
 simp -implicitDefEqProofs (disch:=omega) only[go_sem]
 refine ay (Hr s hs) ?_
 simp -implicitDefEqProofs (disch:=omega) only[go_sem]
theorem yZ(xs:List ah)(hx:xs.length≤1073741824)(n:Nat):aI Tryz.prog 218 [.c (.d (.sl (xs.map ah.enc)))] (.d9 [(false,[.d (.ol n ((fu xs).map encS))]),(false,[.d (.b (allA xs))])]):=aI.of_le fun S=>by
 refine l8 (n) (rs:=[.tmp 2,.tmp 3]) Tryz.checked.mixed Tryz.func218 Tryz.ntmps218 rfl rfl rfl rfl rfl ?_
 simp -implicitDefEqProofs (disch:=omega) only[go_sem]
 (repeat(with_reducible refine And.intro ?_ ?_;focus first|omega|rfl|assumption|exact⟨_,rfl,rfl⟩|(simp;omega)|(simp;done)))
 refine pR n 4 1 [] (.inl rfl) (by simp) ?_
 refine aX (ι:=Nat) Tryz.checked.mixed rfl [4,8,9,10] (fun i=>[.c (.bL (0,1) ((xs.take i).map sW)),.c (.d (.sl (xs.map ah.enc))),.c (.d (.i .i64 xs.length)),.c (.d (.i .i64 i))]) (fun i=>[.seed n,.eP n 1 ((xs.take i).map sW)]::S)
  (fun i=>i≤xs.length∧∀j,∀hj:j<xs.length,j<i→xs[j].aV≠[]) (fun i=>xs.length-i) 0 rfl rfl ⟨Nat.zero_le _,fun j _ h=>by omega⟩ ?_
 rintro i ⟨p1,p2⟩
 have hl:=EC (l:=xs) (i:=i)
 simp -implicitDefEqProofs (disch:=omega) only[go_sem,ah.aH]
 with_reducible refine aA (fun hb=> ?_) (fun hb=> ?_)<;>have h:=hb<;>(try simp only[wf_preprocess] at h)<;>simp -implicitDefEqProofs (disch:=omega) only[go_sem,hb]<;>(repeat(with_reducible refine And.intro ?_ ?_;focus first|omega|rfl|assumption|exact⟨_,rfl,rfl⟩|(simp;omega)|(simp;done)))
 ·have hi':i<xs.length:=by omega
  have hs:=CX hi'
  (repeat(with_reducible refine And.intro ?_ ?_;focus first|omega|rfl|assumption|exact⟨_,rfl,rfl⟩|(simp;omega)|(simp;done)))
  with_reducible refine aA (fun hb=> ?_) (fun hb=> ?_)<;>have h:=hb<;>(try simp only[wf_preprocess] at h)<;>simp -implicitDefEqProofs (disch:=omega) only[go_sem,hb]<;>(repeat(with_reducible refine And.intro ?_ ?_;focus first|omega|rfl|assumption|exact⟨_,rfl,rfl⟩|(simp;omega)|(simp;done)))
  ·obtain⟨e1,e2⟩:=Qe hi' h
   rw[e1,e2]
   exact(j6.cons (.cons (gy n) .nil) (.refl _)).less
  ·(repeat(with_reducible refine And.intro ?_ ?_;focus first|omega|rfl|assumption|exact⟨_,rfl,rfl⟩|(simp;omega)|(simp;done)))
   rw[hs]
   refine dA 2 (by decide) (i+1) (by omega) rfl rfl rfl rfl ⟨by omega,fun j hj hji=> ?_⟩
   by_cases e':j=i
   ·subst e';exact h
   ·exact p2 j hj (by omega)
 ·have hi':i=xs.length:=by omega
  subst hi'
  obtain⟨e1,e2⟩:=Ni fun j hj=>p2 j hj hj
  rw[e1,e2,List.take_length]
  exact iw _
theorem wF(x:ah)(hx:x.sz≤4194304)(n:Nat):aI Tryz.prog 124 [x.v] (.c (.d (.ol n ((fu x.ak).map encS)))):=fun S=>by
 have:=gL x
 refine aF (rs:=[.tmp 2]) Tryz.checked.mixed Tryz.func124 Tryz.ntmps124 rfl rfl rfl rfl rfl ?_
 simp -implicitDefEqProofs (disch:=omega) only[go_sem]
 refine ay (yZ x.ak (by omega) n) ?_
 simp -implicitDefEqProofs (disch:=omega) only[go_sem]
theorem O9(s:List UInt8)(n:Nat):aI Tryz.prog 220 [.c (.d (.s s))] (.agg [.d (.i .i64 1),.d (.s s),.d (.ol n [])]):=aI.of_le fun S=>by
 refine aF (rs:=[.cell 2 57]) Tryz.checked.mixed Tryz.func220 Tryz.ntmps220 rfl rfl rfl rfl rfl ?_
 simp -implicitDefEqProofs (disch:=omega) only[go_sem]
 (repeat(with_reducible refine And.intro ?_ ?_;focus first|omega|rfl|assumption|exact⟨_,rfl,rfl⟩|(simp;omega)|(simp;done)))
 exact I9 _ _ _
theorem Pb(s:List UInt8)(n:Nat):aI Tryz.prog 221 [.c (.d (.s s))] (.agg [.d (.i .i64 4),.d (.s s),.d (.ol n [])]):=aI.of_le fun S=>by
 refine aF (rs:=[.cell 2 57]) Tryz.checked.mixed Tryz.func221 Tryz.ntmps221 rfl rfl rfl rfl rfl ?_
 simp -implicitDefEqProofs (disch:=omega) only[go_sem]
 (repeat(with_reducible refine And.intro ?_ ?_;focus first|omega|rfl|assumption|exact⟨_,rfl,rfl⟩|(simp;omega)|(simp;done)))
 exact I9 _ _ _
theorem wG:∀N:Nat,(∀x:ah,SizeOf.sizeOf x<N→∀n:Nat,x.sz≤4194304→aI Tryz.prog 126 [x.v] ((dx true x).vl n))∧
 (∀xs:List ah,SizeOf.sizeOf xs<N→∀n q:Nat,xs.length≤4194304→(∀t∈xs,t.sz≤4194304)→aI Tryz.prog 222 [.c (.d (.sl (xs.map ah.enc)))] (.c (.d (.ol n (lt (xs.map (dx true)) q)))))
 |0=>⟨fun x h=>by omega,fun x h=>by omega⟩
 |N+1=>by
  obtain⟨ih,lF⟩:=wG N
  refine⟨fun x hn n hsz=>aI.of_le fun S=> ?_,fun xs hn n q hlen hsz S=> ?_⟩
  ·have gZ:=ah.kK x
   have h1:=gL x
   have h2:=Bb x
   have hx:=Qb true x
   have hall:∀t∈x.ak,t.sz≤4194304:=fun t ht=>by have:=j4 ht;omega
   refine aF (rs:=[.cell 2 57]) Tryz.checked.mixed Tryz.func126 Tryz.ntmps126 rfl rfl rfl rfl rfl ?_
   simp -implicitDefEqProofs (disch:=omega) only[go_sem]
   with_reducible refine aA (fun hb=> ?_) (fun hb=> ?_)<;>have h:=hb<;>(try simp only[wf_preprocess] at h)<;>simp -implicitDefEqProofs (disch:=omega) only[go_sem,hb]<;>(repeat(with_reducible refine And.intro ?_ ?_;focus first|omega|rfl|assumption|exact⟨_,rfl,rfl⟩|(simp;omega)|(simp;done)))
   ·rw[if_neg h] at hx
    refine ay (Nj x.aV (by omega)) ?_
    simp -implicitDefEqProofs (disch:=omega) only[go_sem]
    with_reducible refine aA (fun hb=> ?_) (fun hb=> ?_)<;>have h:=hb<;>(try simp only[wf_preprocess] at h)<;>simp -implicitDefEqProofs (disch:=omega) only[go_sem,hb]<;>(repeat(with_reducible refine And.intro ?_ ?_;focus first|omega|rfl|assumption|exact⟨_,rfl,rfl⟩|(simp;omega)|(simp;done)))
    ·rw[if_pos h] at hx ⊢
     refine ay (O9 _ n) ?_
     simp -implicitDefEqProofs (disch:=omega) only[go_sem]
     exact Vt hx
    ·rw[if_neg h] at hx
     (repeat(with_reducible refine And.intro ?_ ?_;focus first|omega|rfl|assumption|exact⟨_,rfl,rfl⟩|(simp;omega)|(simp;done)))
     exact Vs hx
   rw[if_pos h] at hx
   with_reducible refine aA (fun hb=> ?_) (fun hb=> ?_)<;>have h:=hb<;>(try simp only[wf_preprocess] at h)<;>simp -implicitDefEqProofs (disch:=omega) only[go_sem,hb]<;>(repeat(with_reducible refine And.intro ?_ ?_;focus first|omega|rfl|assumption|exact⟨_,rfl,rfl⟩|(simp;omega)|(simp;done)))
   ·rw[if_pos (by omega)] at hx
    exact Vs hx
   rw[if_neg (by omega)] at hx
   have hl2:2≤x.ak.length:=by omega
   have a0:=kL (l:=x.ak) (i:=0) (by omega)
   have a1:=kL (l:=x.ak) (i:=1) (by omega)
   rw[a0,a1] at hx
   have hr:=iy (l:=x.ak)
   have hd:=fun i=>qM x.ak x.ak.length i (Nat.le_refl _)
   have hso:=fun i=>vC i x.ak
   have hdl:∀i,(x.ak.drop i).length≤4194304:=fun i=>by rw[List.length_drop];omega
   have hda:∀i,∀t∈x.ak.drop i,t.sz≤4194304:=fun i t ht=>hall t (List.mem_of_mem_drop ht)
   (repeat(with_reducible refine And.intro ?_ ?_;focus first|omega|rfl|assumption|exact⟨_,rfl,rfl⟩|(simp;omega)|(simp;done)))
   with_reducible refine aA (fun hb=> ?_) (fun hb=> ?_)<;>have h:=hb<;>(try simp only[wf_preprocess] at h)<;>simp -implicitDefEqProofs (disch:=omega) only[go_sem,hb]<;>(repeat(with_reducible refine And.intro ?_ ?_;focus first|omega|rfl|assumption|exact⟨_,rfl,rfl⟩|(simp;omega)|(simp;done)))
   ·have hx:=hx.trans (if_pos ⟨h,.inl rfl⟩)
    (repeat(with_reducible refine And.intro ?_ ?_;focus first|omega|rfl|assumption|exact⟨_,rfl,rfl⟩|(simp;omega)|(simp;done)))
    refine ay (Pb _ n) ?_
    simp -implicitDefEqProofs (disch:=omega) only[go_sem]
    exact Vt hx
   have hx:=hx.trans (if_neg fun e=>h e.1)
   with_reducible refine aA (fun hb=> ?_) (fun hb=> ?_)<;>have h:=hb<;>(try simp only[wf_preprocess] at h)<;>simp -implicitDefEqProofs (disch:=omega) only[go_sem,hb]<;>(repeat(with_reducible refine And.intro ?_ ?_;focus first|omega|rfl|assumption|exact⟨_,rfl,rfl⟩|(simp;omega)|(simp;done)))
   ·have hx:=hx.trans (if_pos ⟨h,.inl rfl⟩)
    refine⟨⟨by omega,by omega,hr⟩,?_⟩
    rw[hd]
    refine ay (lF (x.ak.drop 2) (by have:=hso 2;omega) n (n+1) (hdl 2) (hda 2)) ?_
    simp -implicitDefEqProofs (disch:=omega) only[go_sem]
    refine YX hx ?_
    rw[List.map_drop]
    exact iw _
   ·have hx:=hx.trans (if_neg fun e=>h e.1)
    refine⟨⟨by omega,by omega,hr⟩,?_⟩
    rw[hd]
    refine ay (lF (x.ak.drop 1) (by have:=hso 1;omega) n (n+1) (hdl 1) (hda 1)) ?_
    simp -implicitDefEqProofs (disch:=omega) only[go_sem]
    refine YX hx ?_
    rw[List.map_drop]
    exact iw _
  ·have AY:=fun(i:Nat) (hi:i<xs.length)=>aan (l:=xs.map (dx true)) (i:=i) (by rw[List.length_map];exact hi) q
   refine l8 (n) (rs:=[.tmp 2]) Tryz.checked.mixed Tryz.func222 Tryz.ntmps222 rfl rfl rfl rfl rfl ?_
   simp -implicitDefEqProofs (disch:=omega) only[go_sem]
   (repeat(with_reducible refine And.intro ?_ ?_;focus first|omega|rfl|assumption|exact⟨_,rfl,rfl⟩|(simp;omega)|(simp;done)))
   refine pR n 3 3 [] (.inl rfl) (by simp) ?_
   refine aX (ι:=Nat) Tryz.checked.mixed rfl [3,7,8,9] (fun i=>[.c (.bL (0,1) (lt ((xs.map (dx true)).take i) q)),.c (.d (.sl (xs.map ah.enc))),.c (.d (.i .i64 xs.length)),.c (.d (.i .i64 i))]) (fun i=>[.seed n,.eP n 3 (lt ((xs.map (dx true)).take i) q)]::S)
    (fun i=>i≤xs.length) (fun i=>xs.length-i) 0 rfl rfl (Nat.zero_le _) ?_
   intro i hi
   simp -implicitDefEqProofs (disch:=omega) only[go_sem,ah.aH]
   with_reducible refine aA (fun hb=> ?_) (fun hb=> ?_)<;>have h:=hb<;>(try simp only[wf_preprocess] at h)<;>simp -implicitDefEqProofs (disch:=omega) only[go_sem,hb]<;>(repeat(with_reducible refine And.intro ?_ ?_;focus first|omega|rfl|assumption|exact⟨_,rfl,rfl⟩|(simp;omega)|(simp;done)))
   ·have hi':i<xs.length:=by omega
    have hs:=AY i hi'
    rw[List.getElem_map] at hs
    have hl:(lt ((xs.map (dx true)).take i) q).length≤i:=by rw[Vr];exact List.length_take_le _ _
    (repeat(with_reducible refine And.intro ?_ ?_;focus first|omega|rfl|assumption|exact⟨_,rfl,rfl⟩|(simp;omega)|(simp;done)))
    refine ay (ih xs[i] (by have:=List.sizeOf_lt_of_mem (List.getElem_mem hi');omega) (q+fU ((xs.map (dx true)).take i)) (hsz _ (List.getElem_mem hi'))) ?_
    simp -implicitDefEqProofs (disch:=omega) only[go_sem]
    (repeat(with_reducible refine And.intro ?_ ?_;focus first|omega|rfl|assumption|exact⟨_,rfl,rfl⟩|(simp;omega)|(simp;done)))
    rw[hs]
    exact dA 2 (by decide) (i+1) (by omega) rfl rfl rfl rfl (by omega)
   ·have hi':i=(xs.map (dx true)).length:=by rw[List.length_map];omega
    rw[hi',List.take_length]
theorem BH(x:ah)(n:Nat)(hsz:x.sz≤4194304):aI Tryz.prog 126 [x.v] ((dx true x).vl n):=(wG _).1 x (Nat.lt_succ_self _) n hsz
theorem Ja(xs:List ah)(n q:Nat)(hlen:xs.length≤4194304)(hsz:∀t∈xs,t.sz≤4194304):aI Tryz.prog 222 [.c (.d (.sl (xs.map ah.enc)))] (.c (.d (.ol n (lt (xs.map (dx true)) q)))):=(wG _).2 xs (Nat.lt_succ_self _) n q hlen hsz
theorem Sw(x:ah)(s:List UInt8)(k:Nat)(hk:1≤k)(hk2:k≤100)(hsz:x.sz≤4194304):aI Tryz.prog 123 [x.v,.c (.d (.s s)),.c (.d (.i .i64 k))] (.c (.d (.b (dec (jh x=true∧k≤x.ak.length∧cB x.ak 0=s))))):=fun S=>by
 have h1:=gL x
 obtain⟨t,ht⟩:∃t,t=dec (jh x=true∧k≤x.ak.length∧cB x.ak 0=s):=⟨_,rfl⟩
 rw[←ht]
 refine aF (rs:=[.tmp 6]) Tryz.checked.mixed Tryz.func123 Tryz.ntmps123 rfl rfl rfl rfl rfl ?_
 simp -implicitDefEqProofs (disch:=omega) only[go_sem]
 refine ay (KA x (by omega)) ?_
 simp -implicitDefEqProofs (disch:=omega) only[go_sem]
 with_reducible refine aA (fun hb=> ?_) (fun hb=> ?_)<;>have h:=hb<;>(try simp only[wf_preprocess] at h)<;>simp -implicitDefEqProofs (disch:=omega) only[go_sem,hb]<;>(repeat(with_reducible refine And.intro ?_ ?_;focus first|omega|rfl|assumption|exact⟨_,rfl,rfl⟩|(simp;omega)|(simp;done)))
 ·have hv:=h
  with_reducible refine aA (fun hb=> ?_) (fun hb=> ?_)<;>have h:=hb<;>(try simp only[wf_preprocess] at h)<;>simp -implicitDefEqProofs (disch:=omega) only[go_sem,hb]<;>(repeat(with_reducible refine And.intro ?_ ?_;focus first|omega|rfl|assumption|exact⟨_,rfl,rfl⟩|(simp;omega)|(simp;done)))
  ·have hl:0<x.ak.length:=by omega
   have hl2:k≤x.ak.length:=by omega
   have a0:=kL hl
   (repeat(with_reducible refine And.intro ?_ ?_;focus first|omega|rfl|assumption|exact⟨_,rfl,rfl⟩|(simp;omega)|(simp;done)))
   refine aD ?_
   rw[iN,ht]
   exact iq ⟨fun e=>⟨hv,hl2,by rw[a0];exact e⟩,fun e=>by rw[←a0];exact e.2.2⟩
  ·exact aD (ht.trans (aL fun e=>by omega)).symm
 ·exact aD (ht.trans (aL fun e=>by rw[e.1] at h;cases h)).symm
end Go.Proofs.YtlmhknhlmicmeaaGreatDoor
namespace Go.Ab
theorem lI(b:Bool)(x:ah):dD b x=if x.aV=[] then
 if b=true∧(x.ak.length<2∨cB x.ak 0=fZ∧x.ak.length<3) then kE
 else if cB x.ak 0=kS then .mk 4 [] (cB x.ak 1) 0 iL ((x.ak.map (dD b)).drop 2) []
 else if cB x.ak 0=nK then .mk 6 [] (cB x.ak 1) 0 iL ((x.ak.map (dD b)).drop 2) []
 else if cB x.ak 0=nL then .mk 8 [] (cB x.ak 1) 0 iL ((x.ak.map (dD b)).drop 2) []
 else if cB x.ak 0=kT then .mk 11 (cB x.ak 1) [] 0 iL ((x.ak.map (dD b)).drop 2) []
 else if cB x.ak 0=fZ then .mk 5 (cB x.ak 1) (cB x.ak 2) 0 iL ((x.ak.map (dD b)).drop 3) []
 else if cB x.ak 0=rE then .mk 9 [] [] 0 iL ((x.ak.map (dD b)).drop 1) []
 else if cB x.ak 0=oh then .mk 12 [] [] 0 (dx b (x.ak.getD 1 fC)) ((x.ak.map (dD b)).drop 2) []
 else if cB x.ak 0=iE then .mk 7 [] [] 0 iL (((x.ak.map (dD b)).drop 1).take 1) ((x.ak.map (mM b)).drop 2)
 else .mk 10 [] (cB x.ak 0) 0 iL ((x.ak.map (dD b)).drop 1) []
 else match fB x.aV with
  |some n=>.mk 1 [] [] n iL [] []
  |none=>if x.aV=vB then .mk 2 [] [] 1 iL [] [] else if x.aV=ug then .mk 2 [] [] 0 iL [] [] else .mk 3 [] x.aV 0 iL [] []:=by
 cases x;rw[dD,vV,yX];rfl
theorem Qg(b:Bool)(x:ah)(h:2≤x.ak.length):mM b x=.mk (cB x.ak 0) (fu ((x.ak.drop 1).dropLast)) (dD b (x.ak[x.ak.length-1]'(by omega))):=by
 obtain⟨a,l⟩:=x
 simp only[ah.ak] at h ⊢
 rw[mM,if_neg (by omega),vV]
 congr 1
 rw[List.getLastD_eq_getLast?,List.getLast?_eq_getElem?,List.length_map,List.getElem?_eq_getElem (by rw[List.length_map];omega)]
 simp
theorem Qh(b:Bool)(x:ah)(h:x.ak.length<2):mM b x=.mk [] [] kE:=by
 obtain⟨a,l⟩:=x
 rw[mM]
 exact if_pos h
def rO(b:Bool)(l:List ah):Prop:=¬(b=true∧(l.length<2∨cB l 0=fZ∧l.length<3))
theorem JZ{b:Bool}{x:ah}(ha:x.aV=[])(hg:rO b x.ak)(h:cB x.ak 0=kS):dD b x=.mk 4 [] (cB x.ak 1) 0 iL ((x.ak.drop 2).map (dD b)) []:=by
 rw[lI,if_pos ha,if_neg hg,if_pos h]
 simp only[List.map_drop,List.map_take]
theorem Nk{b:Bool}{x:ah}(ha:x.aV=[])(hg:rO b x.ak)(h:cB x.ak 0=nK):dD b x=.mk 6 [] (cB x.ak 1) 0 iL ((x.ak.drop 2).map (dD b)) []:=by
 rw[lI,if_pos ha,if_neg hg,if_neg (by rw[h];decide),if_pos h]
 simp only[List.map_drop,List.map_take]
theorem Nl{b:Bool}{x:ah}(ha:x.aV=[])(hg:rO b x.ak)(h:cB x.ak 0=nL):dD b x=.mk 8 [] (cB x.ak 1) 0 iL ((x.ak.drop 2).map (dD b)) []:=by
 rw[lI,if_pos ha,if_neg hg,if_neg (by rw[h];decide),if_neg (by rw[h];decide),if_pos h]
 simp only[List.map_drop,List.map_take]
theorem J2{b:Bool}{x:ah}(ha:x.aV=[])(hg:rO b x.ak)(h:cB x.ak 0=kT):dD b x=.mk 11 (cB x.ak 1) [] 0 iL ((x.ak.drop 2).map (dD b)) []:=by
 rw[lI,if_pos ha,if_neg hg,if_neg (by rw[h];decide),if_neg (by rw[h];decide),if_neg (by rw[h];decide),if_pos h]
 simp only[List.map_drop,List.map_take]
theorem ED{b:Bool}{x:ah}(ha:x.aV=[])(hg:rO b x.ak)(h:cB x.ak 0=fZ):dD b x=.mk 5 (cB x.ak 1) (cB x.ak 2) 0 iL ((x.ak.drop 3).map (dD b)) []:=by
 rw[lI,if_pos ha,if_neg hg,if_neg (by rw[h];decide),if_neg (by rw[h];decide),if_neg (by rw[h];decide),if_neg (by rw[h];decide),if_pos h]
 simp only[List.map_drop,List.map_take]
theorem Qi{b:Bool}{x:ah}(ha:x.aV=[])(hg:rO b x.ak)(h:cB x.ak 0=rE):dD b x=.mk 9 [] [] 0 iL ((x.ak.drop 1).map (dD b)) []:=by
 rw[lI,if_pos ha,if_neg hg,if_neg (by rw[h];decide),if_neg (by rw[h];decide),if_neg (by rw[h];decide),if_neg (by rw[h];decide),if_neg (by rw[h];decide),if_pos h]
 simp only[List.map_drop,List.map_take]
theorem Nn{b:Bool}{x:ah}(ha:x.aV=[])(hg:rO b x.ak)(h:cB x.ak 0=oh):dD b x=.mk 12 [] [] 0 (dx b (x.ak.getD 1 fC)) ((x.ak.drop 2).map (dD b)) []:=by
 rw[lI,if_pos ha,if_neg hg,if_neg (by rw[h];decide),if_neg (by rw[h];decide),if_neg (by rw[h];decide),if_neg (by rw[h];decide),if_neg (by rw[h];decide),if_neg (by rw[h];decide),if_pos h]
 simp only[List.map_drop,List.map_take]
theorem J3{b:Bool}{x:ah}(ha:x.aV=[])(hg:rO b x.ak)(h:cB x.ak 0=iE):dD b x=.mk 7 [] [] 0 iL (((x.ak.drop 1).take 1).map (dD b)) ((x.ak.drop 2).map (mM b)):=by
 rw[lI,if_pos ha,if_neg hg,if_neg (by rw[h];decide),if_neg (by rw[h];decide),if_neg (by rw[h];decide),if_neg (by rw[h];decide),if_neg (by rw[h];decide),if_neg (by rw[h];decide),if_neg (by rw[h];decide),if_pos h]
 simp only[List.map_drop,List.map_take]
theorem J4{b:Bool}{x:ah}(ha:x.aV=[])(hg:rO b x.ak)(h0:cB x.ak 0≠kS)(h1:cB x.ak 0≠nK)(h2:cB x.ak 0≠nL)(h3:cB x.ak 0≠kT)(h4:cB x.ak 0≠fZ)(h5:cB x.ak 0≠rE)(h6:cB x.ak 0≠oh)(h7:cB x.ak 0≠iE):dD b x=.mk 10 [] (cB x.ak 0) 0 iL ((x.ak.drop 1).map (dD b)) []:=by
 rw[lI,if_pos ha,if_neg hg,if_neg h0,if_neg h1,if_neg h2,if_neg h3,if_neg h4,if_neg h5,if_neg h6,if_neg h7]
 simp only[List.map_drop,List.map_take]
theorem J5{x:ah}(ha:x.aV=[])(hg:¬rO true x.ak):dD true x=kE:=by
 rw[lI,if_pos ha,if_pos (Decidable.not_not.1 hg)]
theorem Np{b:Bool}{x:ah}{n:Int}(ha:x.aV≠[])(h:fB x.aV=some n):dD b x=.mk 1 [] [] n iL [] []:=by
 rw[lI,if_neg ha,h]
theorem J6{b:Bool}{x:ah}(ha:x.aV≠[])(h:fB x.aV=none)(h1:x.aV=vB):dD b x=.mk 2 [] [] 1 iL [] []:=by
 rw[lI,if_neg ha,h];exact if_pos h1
theorem Ht{b:Bool}{x:ah}(ha:x.aV≠[])(h:fB x.aV=none)(h1:x.aV≠vB)(h2:x.aV=ug):dD b x=.mk 2 [] [] 0 iL [] []:=by
 rw[lI,if_neg ha,h];exact(if_neg h1).trans (if_pos h2)
theorem Nq{b:Bool}{x:ah}(ha:x.aV≠[])(h:fB x.aV=none)(h1:x.aV≠vB)(h2:x.aV≠ug):dD b x=.mk 3 [] x.aV 0 iL [] []:=by
 rw[lI,if_neg ha,h];exact(if_neg h1).trans (if_neg h2)
def lE(l:List au)(n:Nat):List (List D):=eX (l.map au.enc) n
def lJ(l:List au):Nat:=jU (l.map au.enc)
def lM(l:List aJ)(n:Nat):List (List D):=eX (l.map aJ.enc) n
def Sy(l:List aJ):Nat:=jU (l.map aJ.enc)
abbrev au.vl (x:au) (n:Nat):V:=.agg [.d (.i .i64 x.aM),.d (.s x.bB),.d (.s x.fName),.d (.i .i64 x.fN),.d (.i .i64 x.fType.aM),.d (.s x.fType.fName),.d (.ol n (lt x.fType.fArgs (n+1))),
 .d (.ol (n+(fU x.fType.fArgs+1)) (lE x.fArgs (n+(fU x.fType.fArgs+1)+1))),.d (.ol (n+(fU x.fType.fArgs+1)+(lJ x.fArgs+1)) (lM x.aK (n+(fU x.fType.fArgs+1)+(lJ x.fArgs+1)+1)))]
theorem Nr(x:au)(n:Nat):eH x.enc n=[.i .i64 x.aM,.s x.bB,.s x.fName,.i .i64 x.fN,.i .i64 x.fType.aM,.s x.fType.fName,.ol n (lt x.fType.fArgs (n+1)),
 .ol (n+(fU x.fType.fArgs+1)) (lE x.fArgs (n+(fU x.fType.fArgs+1)+1)),.ol (n+(fU x.fType.fArgs+1)+(lJ x.fArgs+1)) (lM x.aK (n+(fU x.fType.fArgs+1)+(lJ x.fArgs+1)+1))]:=by
 simp only[au.aH,aj.aH,List.cons_append,List.nil_append,eH,lX,nU,Nat.add_zero,lt,lE,lM,fU,lJ]
theorem Yp(x:aJ)(n:Nat):eH x.enc n=[.s x.bP,.ol n (x.aN.map encS)]++eH x.fBody.enc (n+1):=by
 rw[aJ.aH,El]
 simp only[eH,lX,nV,nU,Nat.add_zero,AA,Fg,Nat.zero_add]
abbrev aJ.vl (x:aJ) (n:Nat):V:=.agg [.d (.s x.bP),.d (.ol n (x.aN.map encS)),.d (.i .i64 x.fBody.aM),.d (.s x.fBody.bB),.d (.s x.fBody.fName),.d (.i .i64 x.fBody.fN),.d (.i .i64 x.fBody.fType.aM),.d (.s x.fBody.fType.fName),.d (.ol (n+1) (lt x.fBody.fType.fArgs (n+1+1))),
 .d (.ol (n+1+(fU x.fBody.fType.fArgs+1)) (lE x.fBody.fArgs (n+1+(fU x.fBody.fType.fArgs+1)+1))),.d (.ol (n+1+(fU x.fBody.fType.fArgs+1)+(lJ x.fBody.fArgs+1)) (lM x.fBody.aK (n+1+(fU x.fBody.fType.fArgs+1)+(lJ x.fBody.fArgs+1)+1)))]
theorem Vu(l:List au)(n:Nat):(lE l n).length=l.length:=by unfold lE;rw[jV,List.length_map]
theorem Vv(l:List aJ)(n:Nat):(lM l n).length=l.length:=by unfold lM;rw[jV,List.length_map]
theorem aao{l:List au}{i:Nat}(hi:i<l.length)(n:Nat):lE (l.take i) n++[eH l[i].enc (n+lJ (l.take i))]=lE (l.take (i+1)) n:=by
 rw[List.take_succ_eq_append_getElem hi]
 unfold lE lJ
 rw[List.map_append,nW];rfl
theorem aap{l:List aJ}{i:Nat}(hi:i<l.length)(n:Nat):lM (l.take i) n++[eH l[i].enc (n+Sy (l.take i))]=lM (l.take (i+1)) n:=by
 rw[List.take_succ_eq_append_getElem hi]
 unfold lM Sy
 rw[List.map_append,nW];rfl
theorem Vw{l:List au}{i:Nat}(hi:i<l.length):(l.take i).map au.enc++[l[i].enc]=(l.take (i+1)).map au.enc:=by
 rw[List.take_succ_eq_append_getElem hi,List.map_append];rfl
theorem Vx{l:List aJ}{i:Nat}(hi:i<l.length):(l.take i).map aJ.enc++[l[i].enc]=(l.take (i+1)).map aJ.enc:=by
 rw[List.take_succ_eq_append_getElem hi,List.map_append];rfl
theorem Qj{x:au}{n:Nat}{k N:Int}{tr nm:List UInt8}(h:x=.mk k tr nm N iL [] []):Less (.agg [.d (.i .i64 k),.d (.s tr),.d (.s nm),.d (.i .i64 N),.d (.i .i64 0),.d (.s []),.aO [],.aO [],.aO []]) (x.vl n):=by
 rw[h]
 exact(dZ.cons (.refl _) (.cons (.refl _) (.cons (.refl _) (.cons (.refl _) (.cons (.refl _) (.cons (.refl _) (.cons (gy _) (.cons (gy _) (.cons (gy _) .nil))))))))).less
theorem Ns{x:au}{n:Nat}{k N:Int}{tr nm:List UInt8}{args:List au}(h:x=.mk k tr nm N iL args []):Less (.agg [.d (.i .i64 k),.d (.s tr),.d (.s nm),.d (.i .i64 N),.d (.i .i64 0),.d (.s []),.aO [],.d (.ol (n+1) (lE args (n+1+1))),.aO []]) (x.vl n):=by
 rw[h]
 exact(dZ.cons (.refl _) (.cons (.refl _) (.cons (.refl _) (.cons (.refl _) (.cons (.refl _) (.cons (.refl _) (.cons (gy _) (.cons (.refl _) (.cons (gy _) .nil))))))))).less
theorem ie2{x:au}{n:Nat}{k N:Int}{tr nm:List UInt8}{ty:aj}{args:List au}(h:x=.mk k tr nm N ty args []):Less (.agg [.d (.i .i64 k),.d (.s tr),.d (.s nm),.d (.i .i64 N),.d (.i .i64 ty.aM),.d (.s ty.fName),.d (.ol n (lt ty.fArgs (n+1))),.d (.ol (n+(fU ty.fArgs+1)) (lE args (n+(fU ty.fArgs+1)+1))),.aO []]) (x.vl n):=by
 rw[h]
 exact(dZ.cons (.refl _) (.cons (.refl _) (.cons (.refl _) (.cons (.refl _) (.cons (.refl _) (.cons (.refl _) (.cons (.refl _) (.cons (.refl _) (.cons (gy _) .nil))))))))).less
theorem ie3{x:au}{n:Nat}{k N:Int}{tr nm:List UInt8}{args:List au}{arms:List aJ}(h:x=.mk k tr nm N iL args arms):Less (.agg [.d (.i .i64 k),.d (.s tr),.d (.s nm),.d (.i .i64 N),.d (.i .i64 0),.d (.s []),.aO [],.d (.ol (n+1) (lE args (n+1+1))),.d (.ol (n+1+(lJ args+1)) (lM arms (n+1+(lJ args+1)+1)))]) (x.vl n):=by
 rw[h]
 exact(dZ.cons (.refl _) (.cons (.refl _) (.cons (.refl _) (.cons (.refl _) (.cons (.refl _) (.cons (.refl _) (.cons (gy _) (.cons (.refl _) (.cons (.refl _) .nil))))))))).less
theorem YZ{x:au}{k N:Int}{tr nm:List UInt8}(h:x=.mk k tr nm N iL [] []):Less (.agg [.d (.i .i64 k),.d (.s tr),.d (.s nm),.d (.i .i64 N),.d (.i .i64 0),.d (.s []),.aO [],.aO [],.aO []]) x.v:=by
 rw[h]
 exact(dZ.cons (.refl _) (.cons (.refl _) (.cons (.refl _) (.cons (.refl _) (.cons (.refl _) (.cons (.refl _) (.cons (iW _) (.cons (iW _) (.cons (iW _) .nil))))))))).less
theorem Nt{x:au}{k N:Int}{tr nm:List UInt8}{args:List au}(h:x=.mk k tr nm N iL args []):Less (.agg [.d (.i .i64 k),.d (.s tr),.d (.s nm),.d (.i .i64 N),.d (.i .i64 0),.d (.s []),.aO [],.d (.sl (args.map au.enc)),.aO []]) x.v:=by
 rw[h]
 exact(dZ.cons (.refl _) (.cons (.refl _) (.cons (.refl _) (.cons (.refl _) (.cons (.refl _) (.cons (.refl _) (.cons (iW _) (.cons (.refl _) (.cons (iW _) .nil))))))))).less
theorem se2{x:au}{k N:Int}{tr nm:List UInt8}{ty:aj}{args:List au}(h:x=.mk k tr nm N ty args []):Less (.agg [.d (.i .i64 k),.d (.s tr),.d (.s nm),.d (.i .i64 N),.d (.i .i64 ty.aM),.d (.s ty.fName),.d (.sl (ty.fArgs.map aj.enc)),.d (.sl (args.map au.enc)),.aO []]) x.v:=by
 rw[h]
 exact(dZ.cons (.refl _) (.cons (.refl _) (.cons (.refl _) (.cons (.refl _) (.cons (.refl _) (.cons (.refl _) (.cons (.refl _) (.cons (.refl _) (.cons (iW _) .nil))))))))).less
theorem se3{x:au}{k N:Int}{tr nm:List UInt8}{args:List au}{arms:List aJ}(h:x=.mk k tr nm N iL args arms):Less (.agg [.d (.i .i64 k),.d (.s tr),.d (.s nm),.d (.i .i64 N),.d (.i .i64 0),.d (.s []),.aO [],.d (.sl (args.map au.enc)),.d (.sl (arms.map aJ.enc))]) x.v:=by
 rw[h]
 exact(dZ.cons (.refl _) (.cons (.refl _) (.cons (.refl _) (.cons (.refl _) (.cons (.refl _) (.cons (.refl _) (.cons (iW _) (.cons (.refl _) (.cons (.refl _) .nil))))))))).less
theorem Pf(l:List ah)(i:Nat):((l.map ah.enc).take l.length).drop (min i l.length)=(l.drop i).map ah.enc:=by
 rw[qM _ _ _ (Nat.le_refl _)]
 by_cases h:i≤l.length
 ·rw[Nat.min_eq_left h]
 ·rw[Nat.min_eq_right (by omega),List.drop_length,List.drop_of_length_le (by omega)]
theorem aaq(l:List ah):((l.map ah.enc).take (min 2 l.length)).drop 1=((l.drop 1).take 1).map ah.enc:=by
 match l with
 |[]=>rfl
 |[x]=>rfl
 |x::y::l=>simp[show min 2 (l.length+1+1)=2 by omega]
theorem Sz(l:List ah)(i:Nat)(h:i<l.length+3):(l.map ah.enc++([[.s [],.sl []],[.s [],.sl []],[.s [],.sl []]]:List (List D))).getD i []=[.s (cB l i),.sl ((l.getD i fC).ak.map ah.enc)]:=by
 rw[List.getD_eq_getElem?_getD,List.getElem?_append]
 split
 ·rename_i hi
  rw[List.length_map] at hi
  rw[List.getElem?_map,List.getElem?_eq_getElem hi]
  simp only[Option.map_some,Option.getD_some]
  rw[ah.aH,kL hi,List.getD_eq_getElem?_getD,List.getElem?_eq_getElem hi];rfl
 ·rename_i hi
  rw[List.length_map] at hi
  rw[zR (by omega),List.getD_eq_getElem?_getD,List.getElem?_eq_none (by omega:l.length≤i),List.length_map]
  have:i-l.length=0∨i-l.length=1∨i-l.length=2:=by omega
  rcases this with e|e|e<;>rw[e]<;>rfl
theorem J7(l:List ah)(h:2≤l.length):((l.map ah.enc).take ((l.length:Int)-1).toNat).drop 1=((l.drop 1).dropLast).map ah.enc:=by
 rw[show((l.length:Int)-1).toNat=l.length-1 by omega,←List.map_take,←List.map_drop,List.dropLast_eq_take,List.length_drop,List.drop_take]
theorem Bc(x:ah)(i:Nat){m:Nat}(h:x.sz≤m):(x.ak.getD i fC).sz≤m:=by
 have:=Yo x.ak i
 have:=gL x
 omega
theorem rZ{l:List ah}(h:iB l=true){t:ah}(ht:t∈l):gY t=true:=wX.1 h t ht
theorem nC{l:List ah}(h:iB l=true)(i:Nat):iB (l.drop i)=true:=wX.2 fun t ht=>rZ h (List.mem_of_mem_drop ht)
theorem Vy{l:List ah}(h:iB l=true)(i:Nat):iB (l.take i)=true:=wX.2 fun t ht=>rZ h (List.mem_of_mem_take ht)
theorem zu{α:Type}[SizeOf α]:∀(i:Nat) (l:List α),SizeOf.sizeOf (l.take i)≤SizeOf.sizeOf l
 |0,[]=>by simp
 |0,x::l=>by rw[List.take_zero];simp only[List.cons.sizeOf_spec,List.nil.sizeOf_spec];omega
 |i+1,[]=>by simp
 |i+1,x::l=>by
  have:=zu i l
  rw[List.take_succ_cons];simp only[List.cons.sizeOf_spec];omega
end Go.Ab
namespace Go.Proofs.YtlmhknhlmicmeaaGreatDoor
open Go Go.Ab
theorem SA(n:Int):aI Tryz.prog 198 [.c (.d (.i .i64 n))] (.agg [.d (.i .i64 1),.d (.s []),.d (.s []),.d (.i .i64 n),.d (.i .i64 0),.d (.s []),.aO [],.aO [],.aO []]):=fun S=>by
 refine aF (rs:=[.cell 2 61]) Tryz.checked.mixed Tryz.func198 Tryz.ntmps198 rfl rfl rfl rfl rfl ?_
 simp -implicitDefEqProofs (disch:=omega) only[go_sem]
theorem Pg(s:List UInt8):aI Tryz.prog 199 [.c (.d (.s s))] (.agg [.d (.i .i64 3),.d (.s []),.d (.s s),.d (.i .i64 0),.d (.i .i64 0),.d (.s []),.aO [],.aO [],.aO []]):=fun S=>by
 refine aF (rs:=[.cell 2 61]) Tryz.checked.mixed Tryz.func199 Tryz.ntmps199 rfl rfl rfl rfl rfl ?_
 simp -implicitDefEqProofs (disch:=omega) only[go_sem]
theorem CZ:∀N:Nat,(∀x:ah,SizeOf.sizeOf x<N→x.sz≤4194304→aI Tryz.prog 105 [x.v] (dD false x).v)∧
 (∀xs:List ah,SizeOf.sizeOf xs<N→xs.length≤4194304→(∀t∈xs,t.sz≤4194304)→aI Tryz.prog 200 [.c (.d (.sl (xs.map ah.enc)))] (.c (.d (.sl ((xs.map (dD false)).map au.enc)))))∧
 (∀x:ah,SizeOf.sizeOf x<N→x.sz≤4194304→aI Tryz.prog 202 [x.v] (mM false x).v)
 |0=>⟨fun x h=>by omega,fun x h=>by omega,fun x h=>by omega⟩
 |N+1=>by
  obtain⟨ih,lF,ihM⟩:=CZ N
  refine⟨fun x hn hsz=>aI.of_le fun S=> ?_,fun xs hn hlen hsz S=> ?_,fun x hn hsz=>aI.of_le fun S=> ?_⟩
  ·have gZ:=ah.kK x
   have h1:=gL x
   have h2:=Bb x
   have hall:∀t∈x.ak,t.sz≤4194304:=fun t ht=>by have:=j4 ht;omega
   have hr:=iy (l:=x.ak)
   have hso:=fun i=>vC i x.ak
   have hdl:∀i,(x.ak.drop i).length≤4194304:=fun i=>by rw[List.length_drop];omega
   have hda:∀i,∀t∈x.ak.drop i,t.sz≤4194304:=fun i t ht=>hall t (List.mem_of_mem_drop ht)
   have hg:rO false x.ak:=fun e=>by cases e.1
   refine aF (rs:=[.cell 2 61]) Tryz.checked.mixed Tryz.func105 Tryz.ntmps105 rfl rfl rfl rfl rfl ?_
   simp -implicitDefEqProofs (disch:=omega) only[go_sem]
   with_reducible refine aA (fun hb=> ?_) (fun hb=> ?_)<;>have h:=hb<;>(try simp only[wf_preprocess] at h)<;>simp -implicitDefEqProofs (disch:=omega) only[go_sem,hb]<;>(repeat(with_reducible refine And.intro ?_ ?_;focus first|omega|rfl|assumption|exact⟨_,rfl,rfl⟩|(simp;omega)|(simp;done)))
   ·have hne:=h
    refine ay (Hf x.aV (by omega)) ?_
    cases wh:fB x.aV with
    |some m=>
     simp -implicitDefEqProofs (disch:=omega) only[go_sem,Option.getD_some,Option.isSome_some]
     refine ay (SA m) ?_
     simp -implicitDefEqProofs (disch:=omega) only[go_sem]
     exact YZ (Np hne wh)
    |none=>
     simp -implicitDefEqProofs (disch:=omega) only[go_sem,Option.getD_none,Option.isSome_none]
     with_reducible refine aA (fun hb=> ?_) (fun hb=> ?_)<;>have h:=hb<;>(try simp only[wf_preprocess] at h)<;>simp -implicitDefEqProofs (disch:=omega) only[go_sem,hb]<;>(repeat(with_reducible refine And.intro ?_ ?_;focus first|omega|rfl|assumption|exact⟨_,rfl,rfl⟩|(simp;omega)|(simp;done)))
     ·exact YZ (J6 hne wh h)
     have k1:=h
     with_reducible refine aA (fun hb=> ?_) (fun hb=> ?_)<;>have h:=hb<;>(try simp only[wf_preprocess] at h)<;>simp -implicitDefEqProofs (disch:=omega) only[go_sem,hb]<;>(repeat(with_reducible refine And.intro ?_ ?_;focus first|omega|rfl|assumption|exact⟨_,rfl,rfl⟩|(simp;omega)|(simp;done)))
     ·exact YZ (Ht hne wh k1 h)
     have k2:=h
     refine ay (Pg _) ?_
     simp -implicitDefEqProofs (disch:=omega) only[go_sem]
     exact YZ (Nq hne wh k1 k2)
   have ha:=h
   have l0:=Sz x.ak 0 (by omega)
   have l1:=Sz x.ak 1 (by omega)
   have l2:=Sz x.ak 2 (by omega)
   have hm1:min (1:Int) (x.ak.length:Int)=((min 1 x.ak.length:Nat):Int):=by omega
   have hm2:min (2:Int) (x.ak.length:Int)=((min 2 x.ak.length:Nat):Int):=by omega
   have hm3:min (3:Int) (x.ak.length:Int)=((min 3 x.ak.length:Nat):Int):=by omega
   have hd:=fun i=>Pf x.ak i
   have hdd:=qM x.ak x.ak.length 1 (Nat.le_refl _)
   simp -implicitDefEqProofs (disch:=omega) only[go_sem,l0,l1,l2]
   (repeat(with_reducible refine And.intro ?_ ?_;focus first|omega|rfl|assumption|exact⟨_,rfl,rfl⟩|(simp;omega)|(simp;done)))
   with_reducible refine aA (fun hb=> ?_) (fun hb=> ?_)<;>have h:=hb<;>(try simp only[wf_preprocess] at h)<;>simp -implicitDefEqProofs (disch:=omega) only[go_sem,hb,l0,l1,l2]<;>(repeat(with_reducible refine And.intro ?_ ?_;focus first|omega|rfl|assumption|exact⟨_,rfl,rfl⟩|(simp;omega)|(simp;done)))
   ·refine ay (oQ _ _) ?_
    rw[hm2]
    simp -implicitDefEqProofs (disch:=omega) only[go_sem]
    refine⟨⟨by omega,by omega,by omega,hr⟩,?_⟩
    rw[hd]
    refine ay (lF (x.ak.drop 2) (by have:=hso 2;omega) (hdl 2) (hda 2)) ?_
    simp -implicitDefEqProofs (disch:=omega) only[go_sem]
    exact Nt (JZ ha hg h)
   have SB:=h
   with_reducible refine aA (fun hb=> ?_) (fun hb=> ?_)<;>have h:=hb<;>(try simp only[wf_preprocess] at h)<;>simp -implicitDefEqProofs (disch:=omega) only[go_sem,hb,l0,l1,l2]<;>(repeat(with_reducible refine And.intro ?_ ?_;focus first|omega|rfl|assumption|exact⟨_,rfl,rfl⟩|(simp;omega)|(simp;done)))
   ·refine ay (oQ _ _) ?_
    rw[hm3]
    simp -implicitDefEqProofs (disch:=omega) only[go_sem]
    refine⟨⟨by omega,by omega,by omega,hr⟩,?_⟩
    rw[hd]
    refine ay (lF (x.ak.drop 3) (by have:=hso 3;omega) (hdl 3) (hda 3)) ?_
    simp -implicitDefEqProofs (disch:=omega) only[go_sem]
    exact Nt (ED ha hg h)
   have DN:=h
   with_reducible refine aA (fun hb=> ?_) (fun hb=> ?_)<;>have h:=hb<;>(try simp only[wf_preprocess] at h)<;>simp -implicitDefEqProofs (disch:=omega) only[go_sem,hb,l0,l1,l2]<;>(repeat(with_reducible refine And.intro ?_ ?_;focus first|omega|rfl|assumption|exact⟨_,rfl,rfl⟩|(simp;omega)|(simp;done)))
   ·refine ay (oQ _ _) ?_
    rw[hm2]
    simp -implicitDefEqProofs (disch:=omega) only[go_sem]
    refine⟨⟨by omega,by omega,by omega,hr⟩,?_⟩
    rw[hd]
    refine ay (lF (x.ak.drop 2) (by have:=hso 2;omega) (hdl 2) (hda 2)) ?_
    simp -implicitDefEqProofs (disch:=omega) only[go_sem]
    exact Nt (Nk ha hg h)
   have nNew:=h
   with_reducible refine aA (fun hb=> ?_) (fun hb=> ?_)<;>have h:=hb<;>(try simp only[wf_preprocess] at h)<;>simp -implicitDefEqProofs (disch:=omega) only[go_sem,hb,l0,l1,l2]<;>(repeat(with_reducible refine And.intro ?_ ?_;focus first|omega|rfl|assumption|exact⟨_,rfl,rfl⟩|(simp;omega)|(simp;done)))
   ·refine ay (oQ _ _) ?_
    rw[hm2]
    simp -implicitDefEqProofs (disch:=omega) only[go_sem]
    refine⟨⟨by omega,by omega,by omega,hr⟩,?_⟩
    rw[hd]
    refine ay (lF (x.ak.drop 2) (by have:=hso 2;omega) (hdl 2) (hda 2)) ?_
    simp -implicitDefEqProofs (disch:=omega) only[go_sem]
    exact Nt (Nl ha hg h)
   have Yq:=h
   with_reducible refine aA (fun hb=> ?_) (fun hb=> ?_)<;>have h:=hb<;>(try simp only[wf_preprocess] at h)<;>simp -implicitDefEqProofs (disch:=omega) only[go_sem,hb,l0,l1,l2]<;>(repeat(with_reducible refine And.intro ?_ ?_;focus first|omega|rfl|assumption|exact⟨_,rfl,rfl⟩|(simp;omega)|(simp;done)))
   ·have hpos:0<x.ak.length:=by
     rcases Nat.eq_zero_or_pos x.ak.length with e|e
     ·rw[zR (by omega)] at h;cases h
     ·exact e
    refine⟨⟨by omega,by omega,hr⟩,?_⟩
    rw[hdd]
    refine ay (lF (x.ak.drop 1) (by have:=hso 1;omega) (hdl 1) (hda 1)) ?_
    simp -implicitDefEqProofs (disch:=omega) only[go_sem]
    exact Nt (Qi ha hg h)
   have nIf:=h
   with_reducible refine aA (fun hb=> ?_) (fun hb=> ?_)<;>have h:=hb<;>(try simp only[wf_preprocess] at h)<;>simp -implicitDefEqProofs (disch:=omega) only[go_sem,hb,l0,l1,l2]<;>(repeat(with_reducible refine And.intro ?_ ?_;focus first|omega|rfl|assumption|exact⟨_,rfl,rfl⟩|(simp;omega)|(simp;done)))
   ·refine ay (oQ _ _) ?_
    rw[hm2]
    simp -implicitDefEqProofs (disch:=omega) only[go_sem]
    refine⟨⟨by omega,by omega,by omega,hr⟩,?_⟩
    rw[hd]
    refine ay (lF (x.ak.drop 2) (by have:=hso 2;omega) (hdl 2) (hda 2)) ?_
    simp -implicitDefEqProofs (disch:=omega) only[go_sem]
    exact Nt (J2 ha hg h)
   have SC:=h
   with_reducible refine aA (fun hb=> ?_) (fun hb=> ?_)<;>have h:=hb<;>(try simp only[wf_preprocess] at h)<;>simp -implicitDefEqProofs (disch:=omega) only[go_sem,hb,l0,l1,l2]<;>(repeat(with_reducible refine And.intro ?_ ?_;focus first|omega|rfl|assumption|exact⟨_,rfl,rfl⟩|(simp;omega)|(simp;done)))
   ·refine ay (yA (x.ak.getD 1 fC) (Bc x 1 hsz)) ?_
    simp -implicitDefEqProofs (disch:=omega) only[go_sem]
    refine ay (oQ _ _) ?_
    rw[hm2]
    simp -implicitDefEqProofs (disch:=omega) only[go_sem]
    refine⟨⟨by omega,by omega,by omega,hr⟩,?_⟩
    rw[hd]
    refine ay (lF (x.ak.drop 2) (by have:=hso 2;omega) (hdl 2) (hda 2)) ?_
    simp -implicitDefEqProofs (disch:=omega) only[go_sem]
    exact se2 (Nn ha hg h)
   have nThe:=h
   with_reducible refine aA (fun hb=> ?_) (fun hb=> ?_)<;>have h:=hb<;>(try simp only[wf_preprocess] at h)<;>simp -implicitDefEqProofs (disch:=omega) only[go_sem,hb,l0,l1,l2]<;>(repeat(with_reducible refine And.intro ?_ ?_;focus first|omega|rfl|assumption|exact⟨_,rfl,rfl⟩|(simp;omega)|(simp;done)))
   ·have hpos:0<x.ak.length:=by
     rcases Nat.eq_zero_or_pos x.ak.length with e|e
     ·rw[zR (by omega)] at h;cases h
     ·exact e
    have hdec:=J3 ha hg h
    refine ay (oQ _ _) ?_
    rw[hm2]
    simp -implicitDefEqProofs (disch:=omega) only[go_sem]
    refine⟨⟨by omega,by omega,hr⟩,?_⟩
    rw[aaq]
    refine ay (lF ((x.ak.drop 1).take 1) (by have:=hso 1;have:=zu 1 (x.ak.drop 1);omega) (by rw[List.length_take];omega) (fun t ht=>hda 1 t (List.mem_of_mem_take ht))) ?_
    simp -implicitDefEqProofs (disch:=omega) only[go_sem]
    obtain⟨J8,SE⟩:∃J8,J8=((x.ak.drop 1).take 1).map (dD false):=⟨_,rfl⟩
    obtain⟨T,hT⟩:∃T:Nat→List (List D),T=fun k=>(((x.ak.drop 2).map (mM false)).take k).map aJ.enc:=⟨_,rfl⟩
    have hT0:T 0=[]:=by rw[hT];rfl
    have lV:∀k,(T k).length≤k:=fun k=>by rw[hT];simp only[List.length_map];exact List.length_take_le _ _
    have hTs:∀k (hk:k+2<x.ak.length),T k++[(mM false x.ak[k+2]).enc]=T (k+1):=fun k hk=>by
     have:=Vx (l:=(x.ak.drop 2).map (mM false)) (i:=k) (by rw[List.length_map,List.length_drop];omega)
     rw[List.getElem_map,List.getElem_drop] at this
     rw[hT];simp only[Nat.add_comm 2 k] at this ⊢;exact this
    have hTe:T (x.ak.length-2)=((x.ak.drop 2).map (mM false)).map aJ.enc:=by
     rw[hT];simp only
     rw[List.take_of_length_le (by simp)]
    clear hT
    rw[←SE] at hdec ⊢
    refine JX 3 8 11 _ rfl rfl ?_
    refine aX (ι:=Nat) Tryz.checked.mixed rfl [1,2,6,8,9] (fun k=>[.c (.ptr (0,0) 0),.c (.ptr (0,1) 0),.c (.d (.i .i64 x.ak.length)),.c (.ptr (0,3) 0),.c (.d (.i .i64 ((k+2:Nat):Int)))])
     (fun k=>[.box [.d (.s x.aV),.d (.sl (x.ak.map ah.enc))],.box [.d (.i .i64 0),.d (.s []),.d (.s []),.d (.i .i64 0),.d (.i .i64 0),.d (.s []),.aO [],.aO [],.aO []],.tok 2 (x.ak.map ah.enc++[[.s [],.sl []],[.s [],.sl []],[.s [],.sl []]]),
       .box [.d (.i .i64 7),.d (.s []),.d (.s []),.d (.i .i64 0),.d (.i .i64 0),.d (.s []),.aO [],.d (.sl (J8.map au.enc)),.bL (0,4) (T k)],.tok 11 (T k)]::S)
     (fun k=>k≤x.ak.length-2) (fun k=>x.ak.length-(k+2)) 0 rfl (by rw[hT0];rfl) (Nat.zero_le _) ?_
    intro k hk
    have hlk:=lV k
    clear l0 l1 l2
    simp -implicitDefEqProofs (disch:=omega) only[go_sem]
    with_reducible refine aA (fun hb=> ?_) (fun hb=> ?_)<;>have h:=hb<;>(try simp only[wf_preprocess] at h)<;>simp -implicitDefEqProofs (disch:=omega) only[go_sem,hb]<;>(repeat(with_reducible refine And.intro ?_ ?_;focus first|omega|rfl|assumption|exact⟨_,rfl,rfl⟩|(simp;omega)|(simp;done)))
    ·have hk':k+2<x.ak.length:=by omega
     have hm:=List.getElem_mem hk'
     have hs:=hTs k hk'
     simp only[aJ.aH,au.aH,aj.aH,List.cons_append,List.nil_append] at hs
     (repeat(with_reducible refine And.intro ?_ ?_;focus first|omega|rfl|assumption|exact⟨_,rfl,rfl⟩|(simp;omega)|(simp;done)))
     refine ay (ihM x.ak[k+2] (by have:=List.sizeOf_lt_of_mem hm;omega) (hall _ hm)) ?_
     simp -implicitDefEqProofs (disch:=omega) only[go_sem]
     (repeat(with_reducible refine And.intro ?_ ?_;focus first|omega|rfl|assumption|exact⟨_,rfl,rfl⟩|(simp;omega)|(simp;done)))
     rw[hs]
     exact bI (k+1) (by omega) rfl rfl (by omega)
    ·have hk':k=x.ak.length-2:=by omega
     subst hk'
     rw[hTe]
     exact se3 hdec
   have SF:=h
   refine ay (oQ _ _) ?_
   rw[hm1]
   simp -implicitDefEqProofs (disch:=omega) only[go_sem]
   refine⟨⟨by omega,by omega,by omega,hr⟩,?_⟩
   rw[hd]
   refine ay (lF (x.ak.drop 1) (by have:=hso 1;omega) (hdl 1) (hda 1)) ?_
   simp -implicitDefEqProofs (disch:=omega) only[go_sem]
   exact Nt (J4 ha hg SB nNew Yq SC DN nIf nThe SF)
  ·have AY:=fun(i:Nat) (hi:i<xs.length)=>Vw (l:=xs.map (dD false)) (i:=i) (by rw[List.length_map];exact hi)
   refine aF (rs:=[.tmp 2]) Tryz.checked.mixed Tryz.func200 Tryz.ntmps200 rfl rfl rfl rfl rfl ?_
   simp -implicitDefEqProofs (disch:=omega) only[go_sem]
   (repeat(with_reducible refine And.intro ?_ ?_;focus first|omega|rfl|assumption|exact⟨_,rfl,rfl⟩|(simp;omega)|(simp;done)))
   refine vJ 3 9 [] rfl (by simp) ?_
   refine aX (ι:=Nat) Tryz.checked.mixed rfl [0,3,4] (fun i=>[.c (.d (.sl (xs.map ah.enc))),.c (.bL (0,0) (((xs.map (dD false)).take i).map au.enc)),.c (.d (.i .i64 i))]) (fun i=>[.tok 9 (((xs.map (dD false)).take i).map au.enc)]::S)
    (fun i=>i≤xs.length) (fun i=>xs.length-i) 0 rfl rfl (Nat.zero_le _) ?_
   intro i hi
   have hl:(((xs.map (dD false)).take i).map au.enc).length≤i:=by rw[List.length_map];exact List.length_take_le _ _
   simp -implicitDefEqProofs (disch:=omega) only[go_sem]
   with_reducible refine aA (fun hb=> ?_) (fun hb=> ?_)<;>have h:=hb<;>(try simp only[wf_preprocess] at h)<;>simp -implicitDefEqProofs (disch:=omega) only[go_sem,hb]<;>(repeat(with_reducible refine And.intro ?_ ?_;focus first|omega|rfl|assumption|exact⟨_,rfl,rfl⟩|(simp;omega)|(simp;done)))
   ·have hi':i<xs.length:=by omega
    have hs:=AY i hi'
    rw[List.getElem_map] at hs
    simp only[au.aH,aj.aH,List.cons_append,List.nil_append] at hs
    (repeat(with_reducible refine And.intro ?_ ?_;focus first|omega|rfl|assumption|exact⟨_,rfl,rfl⟩|(simp;omega)|(simp;done)))
    refine ay (ih xs[i] (by have:=List.sizeOf_lt_of_mem (List.getElem_mem hi');omega) (hsz _ (List.getElem_mem hi'))) ?_
    simp -implicitDefEqProofs (disch:=omega) only[go_sem]
    (repeat(with_reducible refine And.intro ?_ ?_;focus first|omega|rfl|assumption|exact⟨_,rfl,rfl⟩|(simp;omega)|(simp;done)))
    rw[hs]
    exact bI (i+1) (by omega) rfl rfl (by omega)
   ·have hi':i=(xs.map (dD false)).length:=by rw[List.length_map];omega
    rw[hi',List.take_length]
  ·have gZ:=ah.kK x
   have h1:=gL x
   have hall:∀t∈x.ak,t.sz≤4194304:=fun t ht=>by have:=j4 ht;omega
   have hr:=iy (l:=x.ak)
   refine aF (rs:=[.cell 2 223]) Tryz.checked.mixed Tryz.func202 Tryz.ntmps202 rfl rfl rfl rfl rfl ?_
   simp -implicitDefEqProofs (disch:=omega) only[go_sem]
   with_reducible refine aA (fun hb=> ?_) (fun hb=> ?_)<;>have h:=hb<;>(try simp only[wf_preprocess] at h)<;>simp -implicitDefEqProofs (disch:=omega) only[go_sem,hb]<;>(repeat(with_reducible refine And.intro ?_ ?_;focus first|omega|rfl|assumption|exact⟨_,rfl,rfl⟩|(simp;omega)|(simp;done)))
   ·rw[Qh false x (by omega)]
    exact(dZ.cons (.refl _) (.cons (iW _) (.cons (.refl _) (.cons (.refl _) (.cons (.refl _) (.cons (.refl _) (.cons (.refl _) (.cons (.refl _) (.cons (iW _) (.cons (iW _) (.cons (iW _) .nil))))))))))).less
   have hl2:2≤x.ak.length:=by omega
   have a0:=kL (l:=x.ak) (i:=0) (by omega)
   have hm:=List.getElem_mem (l:=x.ak) (n:=x.ak.length-1) (by omega)
   rw[Qg false x hl2,a0]
   refine⟨⟨by omega,by omega,hr⟩,?_⟩
   rw[J7 _ hl2]
   refine ay (CY ((x.ak.drop 1).dropLast) (by rw[List.length_dropLast,List.length_drop];omega)) ?_
   simp -implicitDefEqProofs (disch:=omega) only[go_sem]
   (repeat(with_reducible refine And.intro ?_ ?_;focus first|omega|rfl|assumption|exact⟨_,rfl,rfl⟩|(simp;omega)|(simp;done)))
   have el:((x.ak.length:Int)-1).toNat=x.ak.length-1:=by omega
   simp only[el]
   refine ay (ih (x.ak[x.ak.length-1]) (by have:=List.sizeOf_lt_of_mem hm;omega) (hall _ hm)) ?_
   simp -implicitDefEqProofs (disch:=omega) only[go_sem]
   exact iw _
theorem Ph(x:ah)(hsz:x.sz≤4194304):aI Tryz.prog 105 [x.v] (dD false x).v:=(CZ _).1 x (Nat.lt_succ_self _) hsz
end Go.Proofs.YtlmhknhlmicmeaaGreatDoor
namespace Go.Proofs
open Go.Shelf
def Tryz.lays172_ren:Go.Shelf.Ren:=⟨fun|172=>326|244=>347|245=>348|247=>363|279=>364|280=>365|281=>366|282=>367|287=>377|316=>378|171=>287|205=>379|321=>386|322=>387|243=>331|246=>350|283=>369|284=>370|285=>371|286=>372|129=>382|317=>381|318=>383|319=>384|320=>385|337=>391|338=>392|n=>n,fun|9=>9|3=>3|75=>286|76=>287|4=>4|5=>5|167=>351|37=>227|0=>0|85=>352|2=>2|168=>354|53=>359|175=>367|46=>369|210=>372|127=>290|145=>384|143=>382|21=>21|171=>358|173=>362|212=>376|51=>377|20=>20|213=>378|232=>388|233=>389|80=>231|n=>n,fun|15=>0|16=>1|17=>2|18=>4|19=>5|n=>n⟩
theorem Tryz.lays172:Go.Proofs.Lays.n172 Tryz.prog Tryz.lays172_ren:={
 mixed:=by kernel_rfl
 f129:=Tryz.func382.trans (congrArg some (by kernel_rfl))
 f171:=Tryz.func287.trans (congrArg some (by kernel_rfl))
 f172:=Tryz.func326.trans (congrArg some (by kernel_rfl))
 f205:=Tryz.func379.trans (congrArg some (by kernel_rfl))
 f243:=Tryz.func331.trans (congrArg some (by kernel_rfl))
 f244:=Tryz.func347.trans (congrArg some (by kernel_rfl))
 f245:=Tryz.func348.trans (congrArg some (by kernel_rfl))
 f246:=Tryz.func350.trans (congrArg some (by kernel_rfl))
 f247:=Tryz.func363.trans (congrArg some (by kernel_rfl))
 f279:=Tryz.func364.trans (congrArg some (by kernel_rfl))
 f280:=Tryz.func365.trans (congrArg some (by kernel_rfl))
 f281:=Tryz.func366.trans (congrArg some (by kernel_rfl))
 f282:=Tryz.func367.trans (congrArg some (by kernel_rfl))
 f283:=Tryz.func369.trans (congrArg some (by kernel_rfl))
 f284:=Tryz.func370.trans (congrArg some (by kernel_rfl))
 f285:=Tryz.func371.trans (congrArg some (by kernel_rfl))
 f286:=Tryz.func372.trans (congrArg some (by kernel_rfl))
 f287:=Tryz.func377.trans (congrArg some (by kernel_rfl))
 f316:=Tryz.func378.trans (congrArg some (by kernel_rfl))
 f317:=Tryz.func381.trans (congrArg some (by kernel_rfl))
 f318:=Tryz.func383.trans (congrArg some (by kernel_rfl))
 f319:=Tryz.func384.trans (congrArg some (by kernel_rfl))
 f320:=Tryz.func385.trans (congrArg some (by kernel_rfl))
 f321:=Tryz.func386.trans (congrArg some (by kernel_rfl))
 f322:=Tryz.func387.trans (congrArg some (by kernel_rfl))
 f337:=Tryz.func391.trans (congrArg some (by kernel_rfl))
 f338:=Tryz.func392.trans (congrArg some (by kernel_rfl))
 t0:=Tryz.underlying0
 a0:=Tryz.isAgg0
 z0:=Tryz.sizeOf0
 v0:=Tryz.zeroValue0
 t2:=Tryz.underlying2
 a2:=Tryz.isAgg2
 z2:=Tryz.sizeOf2
 v2:=Tryz.zeroValue2
 t3:=Tryz.underlying3
 a3:=Tryz.isAgg3
 z3:=Tryz.sizeOf3
 v3:=Tryz.zeroValue3
 t4:=Tryz.underlying4
 a4:=Tryz.isAgg4
 z4:=Tryz.sizeOf4
 v4:=Tryz.zeroValue4
 t5:=Tryz.underlying5
 a5:=Tryz.isAgg5
 z5:=Tryz.sizeOf5
 v5:=Tryz.zeroValue5
 t9:=Tryz.underlying9
 a9:=Tryz.isAgg9
 z9:=Tryz.sizeOf9
 v9:=Tryz.zeroValue9
 t20:=Tryz.underlying20
 a20:=Tryz.isAgg20
 z20:=Tryz.sizeOf20
 v20:=Tryz.zeroValue20
 t21:=Tryz.underlying21
 a21:=Tryz.isAgg21
 z21:=Tryz.sizeOf21
 v21:=Tryz.zeroValue21
 t37:=Tryz.underlying227
 a37:=Tryz.isAgg227
 z37:=Tryz.sizeOf227
 v37:=Tryz.zeroValue227
 t46:=Tryz.underlying369
 a46:=Tryz.isAgg369
 z46:=Tryz.sizeOf369
 v46:=Tryz.zeroValue369
 t51:=Tryz.underlying377
 a51:=Tryz.isAgg377
 z51:=Tryz.sizeOf377
 v51:=Tryz.zeroValue377
 t53:=Tryz.underlying359
 a53:=Tryz.isAgg359
 z53:=Tryz.sizeOf359
 v53:=Tryz.zeroValue359
 t75:=Tryz.underlying286
 a75:=Tryz.isAgg286
 z75:=Tryz.sizeOf286
 v75:=Tryz.zeroValue286
 t76:=Tryz.underlying287
 a76:=Tryz.isAgg287
 z76:=Tryz.sizeOf287
 v76:=Tryz.zeroValue287
 t85:=Tryz.underlying352
 a85:=Tryz.isAgg352
 z85:=Tryz.sizeOf352
 v85:=Tryz.zeroValue352
 t127:=Tryz.underlying290
 a127:=Tryz.isAgg290
 z127:=Tryz.sizeOf290
 v127:=Tryz.zeroValue290
 t143:=Tryz.underlying382
 a143:=Tryz.isAgg382
 z143:=Tryz.sizeOf382
 v143:=Tryz.zeroValue382
 t145:=Tryz.underlying384
 a145:=Tryz.isAgg384
 z145:=Tryz.sizeOf384
 v145:=Tryz.zeroValue384
 t167:=Tryz.underlying351
 a167:=Tryz.isAgg351
 z167:=Tryz.sizeOf351
 v167:=Tryz.zeroValue351
 t168:=Tryz.underlying354
 a168:=Tryz.isAgg354
 z168:=Tryz.sizeOf354
 v168:=Tryz.zeroValue354
 t171:=Tryz.underlying358
 a171:=Tryz.isAgg358
 z171:=Tryz.sizeOf358
 v171:=Tryz.zeroValue358
 t173:=Tryz.underlying362
 a173:=Tryz.isAgg362
 z173:=Tryz.sizeOf362
 v173:=Tryz.zeroValue362
 t175:=Tryz.underlying367
 a175:=Tryz.isAgg367
 z175:=Tryz.sizeOf367
 v175:=Tryz.zeroValue367
 t210:=Tryz.underlying372
 a210:=Tryz.isAgg372
 z210:=Tryz.sizeOf372
 v210:=Tryz.zeroValue372
 t212:=Tryz.underlying376
 a212:=Tryz.isAgg376
 z212:=Tryz.sizeOf376
 v212:=Tryz.zeroValue376
 t213:=Tryz.underlying378
 a213:=Tryz.isAgg378
 z213:=Tryz.sizeOf378
 t232:=Tryz.underlying388
 a232:=Tryz.isAgg388
 z232:=Tryz.sizeOf388
 v232:=Tryz.zeroValue388
 t233:=Tryz.underlying389
 a233:=Tryz.isAgg389
 z233:=Tryz.sizeOf389
 v233:=Tryz.zeroValue389
 g15:=by kernel_rfl
 g16:=by kernel_rfl
 g17:=by kernel_rfl
 g18:=by kernel_rfl
 g19:=by kernel_rfl}
open Go.RowKit in
theorem Tryz.strconv_Atoi(s:ByteArray)(n:Int)(hl:s.size≤18)(h:Lib.atoi s.data.toList=some n)(w:World):
 Calls Tryz.prog 326 #[.string s] w fun e w'=>e=.returned (.tuple #[.int .i64 n,.nilIface])∧∃t,w'=Lib.bytesWorld w 5 t:=Any.strconv_Atoi Tryz.lays172 s n hl h w
def Tryz.laysC172_ren:Go.Shelf.Ren:=⟨fun|172=>326|244=>347|245=>348|247=>363|279=>364|280=>365|281=>366|282=>367|287=>377|316=>378|171=>287|205=>379|321=>386|322=>387|243=>331|246=>350|283=>369|284=>370|285=>371|286=>372|129=>382|317=>381|318=>383|319=>384|320=>385|337=>391|338=>392|n=>n,fun|9=>9|3=>3|75=>286|76=>287|4=>4|5=>5|167=>351|37=>227|0=>0|85=>352|2=>2|168=>354|53=>359|175=>367|46=>369|210=>372|127=>290|145=>384|143=>382|21=>21|171=>358|173=>362|212=>376|51=>377|20=>20|213=>378|232=>388|233=>389|80=>231|n=>n,fun|15=>0|16=>1|17=>2|18=>4|19=>5|n=>n⟩
theorem Tryz.laysC172:Go.Proofs.LaysC.n172 Tryz.prog Tryz.laysC172_ren:={
 mixed:=by kernel_rfl
 f129:=Tryz.func382.trans (congrArg some (by kernel_rfl))
 f171:=Tryz.func287.trans (congrArg some (by kernel_rfl))
 f172:=Tryz.func326.trans (congrArg some (by kernel_rfl))
 f205:=Tryz.func379.trans (congrArg some (by kernel_rfl))
 f243:=Tryz.func331.trans (congrArg some (by kernel_rfl))
 f244:=Tryz.func347.trans (congrArg some (by kernel_rfl))
 f245:=Tryz.func348.trans (congrArg some (by kernel_rfl))
 f246:=Tryz.func350.trans (congrArg some (by kernel_rfl))
 f247:=Tryz.func363.trans (congrArg some (by kernel_rfl))
 f279:=Tryz.func364.trans (congrArg some (by kernel_rfl))
 f280:=Tryz.func365.trans (congrArg some (by kernel_rfl))
 f281:=Tryz.func366.trans (congrArg some (by kernel_rfl))
 f282:=Tryz.func367.trans (congrArg some (by kernel_rfl))
 f283:=Tryz.func369.trans (congrArg some (by kernel_rfl))
 f284:=Tryz.func370.trans (congrArg some (by kernel_rfl))
 f285:=Tryz.func371.trans (congrArg some (by kernel_rfl))
 f286:=Tryz.func372.trans (congrArg some (by kernel_rfl))
 f287:=Tryz.func377.trans (congrArg some (by kernel_rfl))
 f316:=Tryz.func378.trans (congrArg some (by kernel_rfl))
 f317:=Tryz.func381.trans (congrArg some (by kernel_rfl))
 f318:=Tryz.func383.trans (congrArg some (by kernel_rfl))
 f319:=Tryz.func384.trans (congrArg some (by kernel_rfl))
 f320:=Tryz.func385.trans (congrArg some (by kernel_rfl))
 f321:=Tryz.func386.trans (congrArg some (by kernel_rfl))
 f322:=Tryz.func387.trans (congrArg some (by kernel_rfl))
 f337:=Tryz.func391.trans (congrArg some (by kernel_rfl))
 f338:=Tryz.func392.trans (congrArg some (by kernel_rfl))
 t0:=Tryz.underlying0
 a0:=Tryz.isAgg0
 z0:=Tryz.sizeOf0
 v0:=Tryz.zeroValue0
 t2:=Tryz.underlying2
 a2:=Tryz.isAgg2
 z2:=Tryz.sizeOf2
 v2:=Tryz.zeroValue2
 t3:=Tryz.underlying3
 a3:=Tryz.isAgg3
 z3:=Tryz.sizeOf3
 v3:=Tryz.zeroValue3
 t4:=Tryz.underlying4
 a4:=Tryz.isAgg4
 z4:=Tryz.sizeOf4
 v4:=Tryz.zeroValue4
 t5:=Tryz.underlying5
 a5:=Tryz.isAgg5
 z5:=Tryz.sizeOf5
 v5:=Tryz.zeroValue5
 t9:=Tryz.underlying9
 a9:=Tryz.isAgg9
 z9:=Tryz.sizeOf9
 v9:=Tryz.zeroValue9
 t20:=Tryz.underlying20
 a20:=Tryz.isAgg20
 z20:=Tryz.sizeOf20
 v20:=Tryz.zeroValue20
 t21:=Tryz.underlying21
 a21:=Tryz.isAgg21
 z21:=Tryz.sizeOf21
 v21:=Tryz.zeroValue21
 t37:=Tryz.underlying227
 a37:=Tryz.isAgg227
 z37:=Tryz.sizeOf227
 v37:=Tryz.zeroValue227
 t46:=Tryz.underlying369
 a46:=Tryz.isAgg369
 z46:=Tryz.sizeOf369
 v46:=Tryz.zeroValue369
 t51:=Tryz.underlying377
 a51:=Tryz.isAgg377
 z51:=Tryz.sizeOf377
 v51:=Tryz.zeroValue377
 t53:=Tryz.underlying359
 a53:=Tryz.isAgg359
 z53:=Tryz.sizeOf359
 v53:=Tryz.zeroValue359
 t75:=Tryz.underlying286
 a75:=Tryz.isAgg286
 z75:=Tryz.sizeOf286
 v75:=Tryz.zeroValue286
 t76:=Tryz.underlying287
 a76:=Tryz.isAgg287
 z76:=Tryz.sizeOf287
 v76:=Tryz.zeroValue287
 t85:=Tryz.underlying352
 a85:=Tryz.isAgg352
 z85:=Tryz.sizeOf352
 v85:=Tryz.zeroValue352
 t127:=Tryz.underlying290
 a127:=Tryz.isAgg290
 z127:=Tryz.sizeOf290
 v127:=Tryz.zeroValue290
 t143:=Tryz.underlying382
 a143:=Tryz.isAgg382
 z143:=Tryz.sizeOf382
 v143:=Tryz.zeroValue382
 t145:=Tryz.underlying384
 a145:=Tryz.isAgg384
 z145:=Tryz.sizeOf384
 v145:=Tryz.zeroValue384
 t167:=Tryz.underlying351
 a167:=Tryz.isAgg351
 z167:=Tryz.sizeOf351
 v167:=Tryz.zeroValue351
 t168:=Tryz.underlying354
 a168:=Tryz.isAgg354
 z168:=Tryz.sizeOf354
 v168:=Tryz.zeroValue354
 t171:=Tryz.underlying358
 a171:=Tryz.isAgg358
 z171:=Tryz.sizeOf358
 v171:=Tryz.zeroValue358
 t173:=Tryz.underlying362
 a173:=Tryz.isAgg362
 z173:=Tryz.sizeOf362
 v173:=Tryz.zeroValue362
 t175:=Tryz.underlying367
 a175:=Tryz.isAgg367
 z175:=Tryz.sizeOf367
 v175:=Tryz.zeroValue367
 t210:=Tryz.underlying372
 a210:=Tryz.isAgg372
 z210:=Tryz.sizeOf372
 v210:=Tryz.zeroValue372
 t212:=Tryz.underlying376
 a212:=Tryz.isAgg376
 z212:=Tryz.sizeOf376
 v212:=Tryz.zeroValue376
 t213:=Tryz.underlying378
 a213:=Tryz.isAgg378
 z213:=Tryz.sizeOf378
 t232:=Tryz.underlying388
 a232:=Tryz.isAgg388
 z232:=Tryz.sizeOf388
 v232:=Tryz.zeroValue388
 t233:=Tryz.underlying389
 a233:=Tryz.isAgg389
 z233:=Tryz.sizeOf389
 v233:=Tryz.zeroValue389
 g15:=by kernel_rfl
 g16:=by kernel_rfl
 g17:=by kernel_rfl
 g18:=by kernel_rfl
 g19:=by kernel_rfl
 t80:=Tryz.underlying231
 a80:=Tryz.isAgg231
 z80:=Tryz.sizeOf231
 v80:=Tryz.zeroValue231
 i0:=by kernel_rfl
 i2:=by kernel_rfl
 i3:=by kernel_rfl
 i4:=by kernel_rfl
 i5:=by kernel_rfl
 i9:=by kernel_rfl
 i20:=by kernel_rfl
 i21:=by kernel_rfl
 i37:=by kernel_rfl
 i46:=by kernel_rfl
 i51:=by kernel_rfl
 i53:=by kernel_rfl
 i75:=by kernel_rfl
 i76:=by kernel_rfl
 i80:=by kernel_rfl
 i85:=by kernel_rfl
 i127:=by kernel_rfl
 i143:=by kernel_rfl
 i145:=by kernel_rfl
 i167:=by kernel_rfl
 i168:=by kernel_rfl
 i171:=by kernel_rfl
 i173:=by kernel_rfl
 i175:=by kernel_rfl
 i210:=by kernel_rfl
 i212:=by kernel_rfl
 i232:=by kernel_rfl
 i233:=by kernel_rfl
 m15:=by kernel_rfl
 m16:=by kernel_rfl
 m17:=by kernel_rfl
 m18:=by kernel_rfl
 m19:=by kernel_rfl
 c0:=by kernel_rfl
 c2:=by kernel_rfl
 c3:=by kernel_rfl
 c4:=by kernel_rfl
 c5:=by kernel_rfl
 c9:=by kernel_rfl
 c20:=by kernel_rfl
 c21:=by kernel_rfl
 c37:=by kernel_rfl
 c46:=by kernel_rfl
 c51:=by kernel_rfl
 c53:=by kernel_rfl
 c75:=by kernel_rfl
 c76:=by kernel_rfl
 c80:=by kernel_rfl
 c85:=by kernel_rfl
 c127:=by kernel_rfl
 c143:=by kernel_rfl
 c145:=by kernel_rfl
 c167:=by kernel_rfl
 c168:=by kernel_rfl
 c171:=by kernel_rfl
 c173:=by kernel_rfl
 c175:=by kernel_rfl
 c210:=by kernel_rfl
 c212:=by kernel_rfl
 c213:=by kernel_rfl
 c232:=by kernel_rfl
 c233:=by kernel_rfl}
open Go.RowKit in
theorem Tryz.strconv_Atoi_err_var(s:ByteArray)(hl:s.size≤18)(h:Lib.atoi s.data.toList=none)(tp:TypeId)(p:Value)(w:World)(hvar:w.var? Tryz.prog "strconv.ErrSyntax" =some #[.iface tp p]):
 Calls Tryz.prog 326 #[.string s] w fun e w'=>∃N,e=.returned (.tuple #[.int .i64 0,.iface 354 (.pointer (some ⟨N,0,none⟩))])∧w.heap.size≤N∧w'.heap[N]? =some (.cells #[.string ⟨#[65,116,111,105]⟩,.string s,.iface tp p] 372 (0,0))∧Below w.heap.size w w':=Any.strconv_Atoi_err_var Tryz.laysC172 s hl h tp p w hvar
end Go.Proofs
namespace Go.Ab
theorem KF{w w':World}{σ:Nat→Nat}(hl:∀b,b<w.heap.size∨σ b=0)(h:Go.RowKit.Below w.heap.size w w'):Grow w σ w' σ:=
 ⟨h.size,h.os,h.output,fun b hb=>⟨h.block b hb,rfl⟩,fun b=>(hl b).elim (fun x=>.inl (Nat.lt_of_lt_of_le x h.size)) .inr⟩
theorem Vz{x y z:V}{vs:List Value}{w:World}{σ:Nat→Nat}{S:Store}{β:Hs}(h:lu w σ S β [x,y,z] vs):∃u v t,vs=[u,v,t]∧bR w σ S β x u∧bR w σ S β y v∧bR w σ S β z t:=by
 obtain⟨hl,h⟩:=h
 obtain⟨u,e0,h0⟩:=h 0 x rfl
 obtain⟨v,e1,h1⟩:=h 1 y rfl
 obtain⟨t,e2,h2⟩:=h 2 z rfl
 match vs,hl,e0,e1,e2 with
 |[a,b,c],_,e0,e1,e2=>simp at e0 e1 e2;subst e0;subst e1;subst e2;exact⟨_,_,_,rfl,h0,h1,h2⟩
end Go.Ab
namespace Go.Proofs.YtlmhknhlmicmeaaGreatDoor
open Go Go.Ab
theorem SG(n:Int)(h0: -9223372036854775808≤n)(h1:n≤9223372036854775807)(w:World)(htab:Lib.TabIs Tryz.prog w "internal/strconv.uint64pow10" .u64 Lib.pow10Tab):
 Calls Tryz.prog 287 #[.int .i64 n] w fun e w'=>e=.returned (.string ⟨(Lib.itoa n).toArray⟩)∧Go.RowKit.Below w.heap.size w w':=
 (Tryz.strconv_Itoa n h0 h1 w htab).mono fun e w' ⟨he,k,os,hw⟩=>⟨he,by
   subst hw
   exact⟨rfl,rfl,rfl,by show w.heap.size≤(w.heap++os).size;simp,fun b hb=>by show(w.heap++os)[b]? =_;rw[Array.getElem?_append_left hb]⟩⟩
set_option maxHeartbeats 2000000 in
theorem Pj(s:List UInt8)(hs:s.length≤18)(tp:TypeId)(p:Value)(w:World)(htab:Lib.TabIs Tryz.prog w "internal/strconv.uint64pow10" .u64 Lib.pow10Tab)(hvar:w.var? Tryz.prog "strconv.ErrSyntax" =some #[.iface tp p]):
 Calls Tryz.prog 281 #[.string ⟨s.toArray⟩,.int .i64 (-999999999999),.int .i64 999999999999] w fun e w'=>e=.returned (.tuple #[.int .i64 ((fB s).getD 0),.bool (fB s).isSome])∧Go.RowKit.Below w.heap.size w w':=by
 have hsz:(⟨s.toArray⟩:ByteArray).size≤18:=by show s.toArray.size≤18;simpa using hs
 cases h:Lib.atoi s with
 |none=>
  have hc:=Tryz.strconv_Atoi_err_var ⟨s.toArray⟩ hsz (by simpa using h) tp p w hvar
  have wh:fB s=none:=by unfold fB;rw[h]
  rw[wh]
  clear hsz
  go_enter Tryz.func281,Tryz.ntmps281
  go_wp2_with (go_at_call 326;refine hc.mono ?_;rintro e W1 ⟨N,rfl,-,-,hb⟩)
  go_ret2
  exact⟨rfl,hb⟩
 |some n=>
  have hbd:=Lib.atoi_bound h hs
  have hc:=Tryz.strconv_Atoi ⟨s.toArray⟩ n hsz (by simpa using h) w
  have wh:fB s=if(-999999999999≤n∧n≤999999999999)∧Lib.itoa n=s then some n else none:=by unfold fB;rw[h]
  have hc':Calls Tryz.prog 326 #[.string ⟨s.toArray⟩] w fun e w'=>e=.returned (.tuple #[.int .i64 n,.nilIface])∧Go.RowKit.Below w.heap.size w w':=hc.mono fun e w' ⟨he,t,hw⟩=>⟨he,by rw[hw];exact Lib.bytesWorld_below _ _ _⟩
  have hi:∀W1,Go.RowKit.Below w.heap.size w W1→Calls Tryz.prog 287 #[.int .i64 n] W1 fun e w'=>e=.returned (.string ⟨(Lib.itoa n).toArray⟩)∧Go.RowKit.Below w.heap.size w w':=fun W1 hw=>
   (SG n (by omega) (by omega) _ ((Lib.tabBelow_of_tabIs htab).on hw).here).mono fun e w' ⟨he,hb⟩=>⟨he,hw.trans (hb.mono hw.size)⟩
  clear hsz h hc
  go_enter Tryz.func281,Tryz.ntmps281
  go_wp2_with (first|(go_at_call 326;refine hc'.mono ?_;rintro e W1 ⟨rfl,hb1⟩)|(go_at_call 287;refine(hi _ hb1).mono ?_;rintro e W2 ⟨rfl,hb2⟩))
  all_goals go_ret2
  all_goals first
   |(exfalso;omega)
   |exact⟨rfl,hb2⟩
   |exact⟨rfl,hb1⟩
   |(rw[wh,if_pos ⟨⟨by omega,by omega⟩,by simp_all;done⟩];exact⟨rfl,hb2⟩)
   |(rw[wh,if_neg (by rintro⟨hc,_⟩;omega)];exact⟨rfl,hb1⟩)
   |(rw[wh,if_neg (by rintro⟨_,hc⟩;simp[hc] at *;omega)];exact⟨rfl,hb2⟩)
   |(rw[wh,if_neg (by rintro⟨_,hc⟩;simp_all;done)];exact⟨rfl,hb2⟩)
   |trace_state
theorem KG{w:World}{σ:Nat→Nat}(h:y7 w σ):∃tp p,w.var? Tryz.prog "strconv.ErrSyntax" =some #[.iface tp p]:=by
 obtain⟨c,t,fz,q1,q2,q3⟩:=h 0 (fun l=>∃te pe,l=[Value.iface te pe]) (List.mem_cons_of_mem _ (List.mem_cons_of_mem _ (List.mem_cons_self ..)))
 obtain⟨te,pe,e⟩:=q2
 have hn:Tryz.prog.globalNamed "strconv.ErrSyntax" =some 0:=by kernel_rfl
 refine⟨te,pe,?_⟩
 unfold World.var?
 rw[hn]
 simp only[Option.bind_some,q1,Option.some.injEq]
 exact Array.ext' e
theorem Jb(s:List UInt8)(hs:s.length≤18):aI Tryz.prog 281 [.c (.d (.s s)),.c (.d (.i .i64 (-999999999999))),.c (.d (.i .i64 999999999999))] (.d9 [(false,[.d (.i .i64 ((fB s).getD 0))]),(false,[.d (.b (fB s).isSome)])]):=fun S=>by
 refine⟨⟨_,Tryz.func281,by kernel_rfl,by kernel_rfl⟩,fun w σ β vs hS hv=> ?_⟩
 obtain⟨u,v,t,rfl,⟨hu,_⟩,⟨hv,_⟩,⟨ht,_⟩⟩:=Vz hv
 have hu0:u=.string ⟨s.toArray⟩:=by cases hu;rfl
 have hv0:v=.int .i64 (-999999999999):=by cases hv;rfl
 have ht0:t=.int .i64 999999999999:=by cases ht;rfl
 subst hu0 hv0 ht0
 obtain⟨tp,p,hvar⟩:=KG hS.p8
 refine(Pj s hs tp p w (JU hS.p8) hvar).mono fun e w' ⟨he,hb⟩=> ?_
 have hg:Grow w σ w' σ:=KF hS.live hb
 exact⟨_,.d9 [(false,[.d (.i .i64 ((fB s).getD 0))]),(false,[.d (.b (fB s).isSome)])],S,σ,β,he,hS.grow hg,Keep.refl _ _,Step.kF hg,⟨_,rfl,rfl,fun j y hy=>by
  match j,hy with
  |0,hy=>simp at hy;subst hy;exact⟨_,rfl,_,rfl,.i _ _,rfl⟩
  |1,hy=>simp at hy;subst hy;exact⟨_,rfl,_,rfl,.b _,rfl⟩
  |j+2,hy=>simp at hy⟩,rfl,rfl⟩
theorem Hu(s:List UInt8)(hs:s.length≤18):aI Tryz.prog 207 [.c (.d (.s s))] (.d9 [(false,[.d (.i .i64 ((fB s).getD 0))]),(false,[.d (.b (fB s).isSome)])]):=fun S=>by
 refine aF (rs:=[.tmp 2,.tmp 3]) Tryz.checked.mixed Tryz.func207 Tryz.ntmps207 rfl rfl rfl rfl rfl ?_
 simp -implicitDefEqProofs (disch:=omega) only[go_sem]
 refine ay (Jb s hs) ?_
 simp -implicitDefEqProofs (disch:=omega) only[go_sem]<;>(repeat(with_reducible refine And.intro ?_ ?_;focus first|omega|rfl|assumption|exact⟨_,rfl,rfl⟩|(simp;omega)|(simp;done)))
end Go.Proofs.YtlmhknhlmicmeaaGreatDoor
namespace Go.Ab
theorem xB{l:List ah}(h2:2≤l.length)(h:cB l 0=fZ→3≤l.length):rO true l:=fun e=>by
 rcases e.2 with e|e
 ·omega
 ·have:=h e.1;omega
theorem J9{x:ah}(h:gY x=true)(ha:x.aV=[]):iB x.ak=true:=by rw[xZ,if_pos ha] at h;exact h
theorem VA{x:ah}(h:gY x=true)(ha:x.aV≠[]):x.aV.length≤18:=by
 rw[xZ,if_neg ha,Bool.and_eq_true] at h
 have h1:=h.1
 unfold validAtom at h1
 rw[Bool.and_eq_true,decide_eq_true_eq] at h1
 omega
theorem C8{x:ah}(h:gY x=true)(ha:x.ak≠[]):iB x.ak=true:=by
 by_cases e:x.aV=[]
 ·exact J9 h e
 ·rw[xZ,if_neg e,Bool.and_eq_true,decide_eq_true_eq] at h
  exact absurd (List.eq_nil_of_length_eq_zero h.2) ha
theorem ma0{x:aJ}{n:Nat}(h:x=.mk [] [] kE):Less (.agg [.d (.s []),.aO [],.d (.i .i64 0),.d (.s []),.d (.s []),.d (.i .i64 0),.d (.i .i64 0),.d (.s []),.aO [],.aO [],.aO []]) (x.vl n):=by
 rw[h]
 exact(dZ.cons (.refl _) (.cons (gy _) (.cons (.refl _) (.cons (.refl _) (.cons (.refl _) (.cons (.refl _) (.cons (.refl _) (.cons (.refl _) (.cons (gy _) (.cons (gy _) (.cons (gy _) .nil))))))))))).less
end Go.Ab
namespace Go.Proofs.YtlmhknhlmicmeaaGreatDoor
open Go Go.Ab
theorem C9:∀N:Nat,(∀x:ah,SizeOf.sizeOf x<N→∀n:Nat,gY x=true→x.sz≤4194304→aI Tryz.prog 110 [x.v] ((dD true x).vl n))∧
 (∀xs:List ah,SizeOf.sizeOf xs<N→∀n q:Nat,iB xs=true→xs.length≤4194304→(∀t∈xs,t.sz≤4194304)→aI Tryz.prog 208 [.c (.d (.sl (xs.map ah.enc)))] (.c (.d (.ol n (lE (xs.map (dD true)) q)))))∧
 (∀x:ah,SizeOf.sizeOf x<N→∀n:Nat,gY x=true→x.sz≤4194304→aI Tryz.prog 209 [x.v] ((mM true x).vl n))
 |0=>⟨fun x h=>by omega,fun x h=>by omega,fun x h=>by omega⟩
 |N+1=>by
  obtain⟨ih,lF,ihM⟩:=C9 N
  refine⟨fun x hn n hfo hsz=>aI.of_le fun S=> ?_,fun xs hn n q hfo hlen hsz S=> ?_,fun x hn n hfo hsz=>aI.of_le fun S=> ?_⟩
  ·have gZ:=ah.kK x
   have h1:=gL x
   have h2:=Bb x
   have hall:∀t∈x.ak,t.sz≤4194304:=fun t ht=>by have:=j4 ht;omega
   have hr:=iy (l:=x.ak)
   have hso:=fun i=>vC i x.ak
   have hdl:∀i,(x.ak.drop i).length≤4194304:=fun i=>by rw[List.length_drop];omega
   have hda:∀i,∀t∈x.ak.drop i,t.sz≤4194304:=fun i t ht=>hall t (List.mem_of_mem_drop ht)
   have hdd:=qM x.ak x.ak.length 1 (Nat.le_refl _)
   refine l8 (n) (rs:=[.cell 2 61]) Tryz.checked.mixed Tryz.func110 Tryz.ntmps110 rfl rfl rfl rfl rfl ?_
   simp -implicitDefEqProofs (disch:=omega) only[go_sem]
   with_reducible refine aA (fun hb=> ?_) (fun hb=> ?_)<;>have h:=hb<;>(try simp only[wf_preprocess] at h)<;>simp -implicitDefEqProofs (disch:=omega) only[go_sem,hb]<;>(repeat(with_reducible refine And.intro ?_ ?_;focus first|omega|rfl|assumption|exact⟨_,rfl,rfl⟩|(simp;omega)|(simp;done)))
   ·have hne:=h
    refine ay (Hu x.aV (VA hfo hne)) ?_
    cases wh:fB x.aV with
    |some m=>
     simp -implicitDefEqProofs (disch:=omega) only[go_sem,Option.getD_some,Option.isSome_some]
     exact Qj (Np hne wh)
    |none=>
     simp -implicitDefEqProofs (disch:=omega) only[go_sem,Option.getD_none,Option.isSome_none]
     with_reducible refine aA (fun hb=> ?_) (fun hb=> ?_)<;>have h:=hb<;>(try simp only[wf_preprocess] at h)<;>simp -implicitDefEqProofs (disch:=omega) only[go_sem,hb]<;>(repeat(with_reducible refine And.intro ?_ ?_;focus first|omega|rfl|assumption|exact⟨_,rfl,rfl⟩|(simp;omega)|(simp;done)))
     ·exact Qj (J6 hne wh h)
     have k1:=h
     with_reducible refine aA (fun hb=> ?_) (fun hb=> ?_)<;>have h:=hb<;>(try simp only[wf_preprocess] at h)<;>simp -implicitDefEqProofs (disch:=omega) only[go_sem,hb]<;>(repeat(with_reducible refine And.intro ?_ ?_;focus first|omega|rfl|assumption|exact⟨_,rfl,rfl⟩|(simp;omega)|(simp;done)))
     ·exact Qj (Ht hne wh k1 h)
     have k2:=h
     exact Qj (Nq hne wh k1 k2)
   have ha:=h
   have hfs:=J9 hfo ha
   with_reducible refine aA (fun hb=> ?_) (fun hb=> ?_)<;>have h:=hb<;>(try simp only[wf_preprocess] at h)<;>simp -implicitDefEqProofs (disch:=omega) only[go_sem,hb]<;>(repeat(with_reducible refine And.intro ?_ ?_;focus first|omega|rfl|assumption|exact⟨_,rfl,rfl⟩|(simp;omega)|(simp;done)))
   ·exact Qj (J5 ha fun e=>e ⟨rfl,.inl (by omega)⟩)
   have hl2:2≤x.ak.length:=by omega
   have a0:=kL (l:=x.ak) (i:=0) (by omega)
   obtain⟨m,hm⟩:∃m,m=x.ak.drop 1:=⟨_,rfl⟩
   have hml:m.length=x.ak.length-1:=by rw[hm,List.length_drop]
   have hmi:∀i (hi:i<m.length),m[i]=x.ak[i+1]'(by omega):=fun i hi=>by simp only[hm,List.getElem_drop,Nat.add_comm 1 i]
   have hrm:=iy (l:=m)
   have hmd:∀i,m.drop i=x.ak.drop (i+1):=fun i=>by rw[hm,List.drop_drop,Nat.add_comm 1 i]
   have hme:=fun i=>qM m m.length i (Nat.le_refl _)
   have b1:cB x.ak 1=(m[0]'(by omega)).aV:=by rw[hmi 0 (by omega),kL (by omega)]
   refine⟨⟨by omega,by omega,hr⟩,?_⟩
   rw[hdd,←hm]
   simp only[←a0]
   with_reducible refine aA (fun hb=> ?_) (fun hb=> ?_)<;>have h:=hb<;>(try simp only[wf_preprocess] at h)<;>simp -implicitDefEqProofs (disch:=omega) only[go_sem,hb]<;>(repeat(with_reducible refine And.intro ?_ ?_;focus first|omega|rfl|assumption|exact⟨_,rfl,rfl⟩|(simp;omega)|(simp;done)))
   ·have hg:=xB hl2 fun e=>by rw[h] at e;exact absurd e (by decide)
    have hdec:=JZ ha hg h
    (repeat(with_reducible refine And.intro ?_ ?_;focus first|omega|rfl|assumption|exact⟨_,rfl,rfl⟩|(simp;omega)|(simp;done)))
    refine⟨⟨by omega,by omega,hrm⟩,?_⟩
    rw[hme,hmd,←b1]
    refine ay (lF (x.ak.drop 2) (by have:=hso 2;omega) (n+1) (n+1+1) (nC hfs 2) (hdl 2) (hda 2)) ?_
    simp -implicitDefEqProofs (disch:=omega) only[go_sem]
    exact Ns hdec
   have SB:=h
   with_reducible refine aA (fun hb=> ?_) (fun hb=> ?_)<;>have h:=hb<;>(try simp only[wf_preprocess] at h)<;>simp -implicitDefEqProofs (disch:=omega) only[go_sem,hb]<;>(repeat(with_reducible refine And.intro ?_ ?_;focus first|omega|rfl|assumption|exact⟨_,rfl,rfl⟩|(simp;omega)|(simp;done)))
   ·have hg:=xB hl2 fun e=>by rw[h] at e;exact absurd e (by decide)
    have hdec:=Nk ha hg h
    (repeat(with_reducible refine And.intro ?_ ?_;focus first|omega|rfl|assumption|exact⟨_,rfl,rfl⟩|(simp;omega)|(simp;done)))
    refine⟨⟨by omega,by omega,hrm⟩,?_⟩
    rw[hme,hmd,←b1]
    refine ay (lF (x.ak.drop 2) (by have:=hso 2;omega) (n+1) (n+1+1) (nC hfs 2) (hdl 2) (hda 2)) ?_
    simp -implicitDefEqProofs (disch:=omega) only[go_sem]
    exact Ns hdec
   have nNew:=h
   with_reducible refine aA (fun hb=> ?_) (fun hb=> ?_)<;>have h:=hb<;>(try simp only[wf_preprocess] at h)<;>simp -implicitDefEqProofs (disch:=omega) only[go_sem,hb]<;>(repeat(with_reducible refine And.intro ?_ ?_;focus first|omega|rfl|assumption|exact⟨_,rfl,rfl⟩|(simp;omega)|(simp;done)))
   ·have hg:=xB hl2 fun e=>by rw[h] at e;exact absurd e (by decide)
    have hdec:=Nl ha hg h
    (repeat(with_reducible refine And.intro ?_ ?_;focus first|omega|rfl|assumption|exact⟨_,rfl,rfl⟩|(simp;omega)|(simp;done)))
    refine⟨⟨by omega,by omega,hrm⟩,?_⟩
    rw[hme,hmd,←b1]
    refine ay (lF (x.ak.drop 2) (by have:=hso 2;omega) (n+1) (n+1+1) (nC hfs 2) (hdl 2) (hda 2)) ?_
    simp -implicitDefEqProofs (disch:=omega) only[go_sem]
    exact Ns hdec
   have Yq:=h
   with_reducible refine aA (fun hb=> ?_) (fun hb=> ?_)<;>have h:=hb<;>(try simp only[wf_preprocess] at h)<;>simp -implicitDefEqProofs (disch:=omega) only[go_sem,hb]<;>(repeat(with_reducible refine And.intro ?_ ?_;focus first|omega|rfl|assumption|exact⟨_,rfl,rfl⟩|(simp;omega)|(simp;done)))
   ·have hg:=xB hl2 fun e=>by rw[h] at e;exact absurd e (by decide)
    have hdec:=J2 ha hg h
    (repeat(with_reducible refine And.intro ?_ ?_;focus first|omega|rfl|assumption|exact⟨_,rfl,rfl⟩|(simp;omega)|(simp;done)))
    refine⟨⟨by omega,by omega,hrm⟩,?_⟩
    rw[hme,hmd,←b1]
    refine ay (lF (x.ak.drop 2) (by have:=hso 2;omega) (n+1) (n+1+1) (nC hfs 2) (hdl 2) (hda 2)) ?_
    simp -implicitDefEqProofs (disch:=omega) only[go_sem]
    exact Ns hdec
   have SC:=h
   with_reducible refine aA (fun hb=> ?_) (fun hb=> ?_)<;>have h:=hb<;>(try simp only[wf_preprocess] at h)<;>simp -implicitDefEqProofs (disch:=omega) only[go_sem,hb]<;>(repeat(with_reducible refine And.intro ?_ ?_;focus first|omega|rfl|assumption|exact⟨_,rfl,rfl⟩|(simp;omega)|(simp;done)))
   ·have hM:=h
    with_reducible refine aA (fun hb=> ?_) (fun hb=> ?_)<;>have h:=hb<;>(try simp only[wf_preprocess] at h)<;>simp -implicitDefEqProofs (disch:=omega) only[go_sem,hb]<;>(repeat(with_reducible refine And.intro ?_ ?_;focus first|omega|rfl|assumption|exact⟨_,rfl,rfl⟩|(simp;omega)|(simp;done)))
    ·exact Qj (J5 ha fun e=>e ⟨rfl,.inr ⟨hM,by omega⟩⟩)
    have hl3:3≤x.ak.length:=by omega
    have hg:=xB hl2 fun _=>hl3
    have hdec:=ED ha hg hM
    have b2:cB x.ak 2=(m[1]'(by omega)).aV:=by rw[hmi 1 (by omega),kL (by omega)]
    (repeat(with_reducible refine And.intro ?_ ?_;focus first|omega|rfl|assumption|exact⟨_,rfl,rfl⟩|(simp;omega)|(simp;done)))
    refine⟨⟨by omega,by omega,hrm⟩,?_⟩
    rw[hme,hmd,←b1,←b2]
    refine ay (lF (x.ak.drop 3) (by have:=hso 3;omega) (n+1) (n+1+1) (nC hfs 3) (hdl 3) (hda 3)) ?_
    simp -implicitDefEqProofs (disch:=omega) only[go_sem]
    exact Ns hdec
   have DN:=h
   have hg:=xB hl2 fun e=>(DN e).elim
   with_reducible refine aA (fun hb=> ?_) (fun hb=> ?_)<;>have h:=hb<;>(try simp only[wf_preprocess] at h)<;>simp -implicitDefEqProofs (disch:=omega) only[go_sem,hb]<;>(repeat(with_reducible refine And.intro ?_ ?_;focus first|omega|rfl|assumption|exact⟨_,rfl,rfl⟩|(simp;omega)|(simp;done)))
   ·have hdec:=Qi ha hg h
    rw[hm]
    refine ay (lF (x.ak.drop 1) (by have:=hso 1;omega) (n+1) (n+1+1) (nC hfs 1) (hdl 1) (hda 1)) ?_
    simp -implicitDefEqProofs (disch:=omega) only[go_sem]
    exact Ns hdec
   have nIf:=h
   with_reducible refine aA (fun hb=> ?_) (fun hb=> ?_)<;>have h:=hb<;>(try simp only[wf_preprocess] at h)<;>simp -implicitDefEqProofs (disch:=omega) only[go_sem,hb]<;>(repeat(with_reducible refine And.intro ?_ ?_;focus first|omega|rfl|assumption|exact⟨_,rfl,rfl⟩|(simp;omega)|(simp;done)))
   ·have hdec:=Nn ha hg h
    have g1:x.ak.getD 1 fC=m[0]'(by omega):=by rw[hmi 0 (by omega),List.getD_eq_getElem?_getD,List.getElem?_eq_getElem (by omega)];rfl
    have gz:=Bc x 1 hsz
    rw[g1] at hdec gz
    (repeat(with_reducible refine And.intro ?_ ?_;focus first|omega|rfl|assumption|exact⟨_,rfl,rfl⟩|(simp;omega)|(simp;done)))
    refine ay (BH m[0] n gz) ?_
    simp -implicitDefEqProofs (disch:=omega) only[go_sem]
    refine⟨⟨by omega,by omega,hrm⟩,?_⟩
    rw[hme,hmd]
    refine ay (lF (x.ak.drop 2) (by have:=hso 2;omega) (n+(fU (dx true m[0]).fArgs+1)) (n+(fU (dx true m[0]).fArgs+1)+1) (nC hfs 2) (hdl 2) (hda 2)) ?_
    simp -implicitDefEqProofs (disch:=omega) only[go_sem]
    exact ie2 hdec
   have nThe:=h
   with_reducible refine aA (fun hb=> ?_) (fun hb=> ?_)<;>have h:=hb<;>(try simp only[wf_preprocess] at h)<;>simp -implicitDefEqProofs (disch:=omega) only[go_sem,hb]<;>(repeat(with_reducible refine And.intro ?_ ?_;focus first|omega|rfl|assumption|exact⟨_,rfl,rfl⟩|(simp;omega)|(simp;done)))
   ·have hdec:=J3 ha hg h
    refine⟨⟨by omega,hrm⟩,?_⟩
    rw[←List.map_take]
    refine ay (lF (m.take 1) (by have:=hso 1;have:=zu 1 m;rw[hm] at this ⊢;omega) (n+1) (n+1+1) (Vy (by rw[hm];exact nC hfs 1) 1) (by rw[List.length_take];omega) (fun t ht=>hda 1 t (by rw[←hm];exact List.mem_of_mem_take ht))) ?_
    simp -implicitDefEqProofs (disch:=omega) only[go_sem]
    refine⟨⟨by omega,by omega,hrm⟩,?_⟩
    rw[hme,hmd]
    obtain⟨J8,SE⟩:∃J8,J8=(m.take 1).map (dD true):=⟨_,rfl⟩
    obtain⟨r,hrr⟩:∃r,r=x.ak.drop 2:=⟨_,rfl⟩
    have hrl:r.length=x.ak.length-2:=by rw[hrr,List.length_drop]
    have hrs:∀t∈r,t.sz≤4194304∧SizeOf.sizeOf t<N∧gY t=true:=fun t ht=>by
     rw[hrr] at ht
     have h5:=List.mem_of_mem_drop ht
     have:=List.sizeOf_lt_of_mem h5
     exact⟨hda 2 t ht,by omega,rZ hfs h5⟩
    obtain⟨q,hq⟩:∃q,q=n+1+(lJ J8+1):=⟨_,rfl⟩
    obtain⟨L,hL⟩:∃L:Nat→Nat,L=fun k=>q+1+Sy ((r.map (mM true)).take k):=⟨_,rfl⟩
    obtain⟨T,hT⟩:∃T:Nat→List (List D),T=fun k=>lM ((r.map (mM true)).take k) (q+1):=⟨_,rfl⟩
    have hT0:T 0=[]:=by rw[hT];rfl
    have lV:∀k,(T k).length≤k:=fun k=>by rw[hT];simp only[Vv];exact List.length_take_le _ _
    have hTs:∀k (hk:k<r.length),T k++[eH (mM true r[k]).enc (L k)]=T (k+1):=fun k hk=>by
     have:=aap (l:=r.map (mM true)) (i:=k) (by rw[List.length_map];exact hk) (q+1)
     rw[List.getElem_map] at this
     rw[hT,hL];exact this
    have hTe:T r.length=lM (r.map (mM true)) (q+1):=by
     rw[hT];simp only
     rw[List.take_of_length_le (by simp)]
    clear hT hL
    rw[←hm,←SE,←hrr] at hdec
    rw[←SE,←hrr]
    simp -implicitDefEqProofs (disch:=omega) only[go_sem]
    refine Hg q 3 8 11 _ rfl rfl ?_
    refine aX (ι:=Nat) Tryz.checked.mixed rfl [2,7,127,128,129] (fun k=>[.c (.ptr (0,2) 0),.c (.ptr (0,3) 0),.c (.d (.sl (r.map ah.enc))),.c (.d (.i .i64 r.length)),.c (.d (.i .i64 k))])
     (fun k=>[.seed n,.box [.d (.s x.aV),.d (.sl (x.ak.map ah.enc))],.box [.d (.i .i64 0),.d (.s []),.d (.s []),.d (.i .i64 0),.d (.i .i64 0),.d (.s []),.aO [],.aO [],.aO []],
       .box [.d (.i .i64 7),.d (.s []),.d (.s []),.d (.i .i64 0),.d (.i .i64 0),.d (.s []),.aO [],.d (.ol (n+1) (lE J8 (n+1+1))),.bL (0,4) (T k)],.eP q 11 (T k)]::S)
     (fun k=>k≤r.length) (fun k=>r.length-k) 0 rfl (by rw[hT0];rfl) (Nat.zero_le _) ?_
    intro k hk
    have hlk:=lV k
    simp -implicitDefEqProofs (disch:=omega) only[go_sem]
    with_reducible refine aA (fun hb=> ?_) (fun hb=> ?_)<;>have h:=hb<;>(try simp only[wf_preprocess] at h)<;>simp -implicitDefEqProofs (disch:=omega) only[go_sem,hb]<;>(repeat(with_reducible refine And.intro ?_ ?_;focus first|omega|rfl|assumption|exact⟨_,rfl,rfl⟩|(simp;omega)|(simp;done)))
    ·have hk':k<r.length:=by omega
     have hmm:=hrs _ (List.getElem_mem hk')
     have hs:=hTs k hk'
     simp only[Yp,Nr,List.cons_append,List.nil_append] at hs
     (repeat(with_reducible refine And.intro ?_ ?_;focus first|omega|rfl|assumption|exact⟨_,rfl,rfl⟩|(simp;omega)|(simp;done)))
     refine ay (ihM r[k] hmm.2.1 (L k) hmm.2.2 hmm.1) ?_
     simp -implicitDefEqProofs (disch:=omega) only[go_sem]
     (repeat(with_reducible refine And.intro ?_ ?_;focus first|omega|rfl|assumption|exact⟨_,rfl,rfl⟩|(simp;omega)|(simp;done)))
     rw[hs]
     exact dA 5 (by decide) (k+1) (by omega) rfl rfl rfl rfl (by omega)
    ·have hk':k=r.length:=by omega
     rw[hk',hTe,hq]
     exact ie3 hdec
   have SF:=h
   have hdec:=J4 ha hg SB nNew Yq SC DN nIf nThe SF
   rw[hm]
   refine ay (lF (x.ak.drop 1) (by have:=hso 1;omega) (n+1) (n+1+1) (nC hfs 1) (hdl 1) (hda 1)) ?_
   simp -implicitDefEqProofs (disch:=omega) only[go_sem]
   exact Ns hdec
  ·have AY:=fun(i:Nat) (hi:i<xs.length)=>aao (l:=xs.map (dD true)) (i:=i) (by rw[List.length_map];exact hi) q
   refine l8 (n) (rs:=[.tmp 2]) Tryz.checked.mixed Tryz.func208 Tryz.ntmps208 rfl rfl rfl rfl rfl ?_
   simp -implicitDefEqProofs (disch:=omega) only[go_sem]
   (repeat(with_reducible refine And.intro ?_ ?_;focus first|omega|rfl|assumption|exact⟨_,rfl,rfl⟩|(simp;omega)|(simp;done)))
   refine pR n 3 9 [] (.inl rfl) (by simp) ?_
   refine aX (ι:=Nat) Tryz.checked.mixed rfl [3,7,8,9] (fun i=>[.c (.bL (0,1) (lE ((xs.map (dD true)).take i) q)),.c (.d (.sl (xs.map ah.enc))),.c (.d (.i .i64 xs.length)),.c (.d (.i .i64 i))]) (fun i=>[.seed n,.eP n 9 (lE ((xs.map (dD true)).take i) q)]::S)
    (fun i=>i≤xs.length) (fun i=>xs.length-i) 0 rfl rfl (Nat.zero_le _) ?_
   intro i hi
   simp -implicitDefEqProofs (disch:=omega) only[go_sem]
   with_reducible refine aA (fun hb=> ?_) (fun hb=> ?_)<;>have h:=hb<;>(try simp only[wf_preprocess] at h)<;>simp -implicitDefEqProofs (disch:=omega) only[go_sem,hb]<;>(repeat(with_reducible refine And.intro ?_ ?_;focus first|omega|rfl|assumption|exact⟨_,rfl,rfl⟩|(simp;omega)|(simp;done)))
   ·have hi':i<xs.length:=by omega
    have hs:=AY i hi'
    rw[List.getElem_map] at hs
    simp only[Nr] at hs
    have hl:(lE ((xs.map (dD true)).take i) q).length≤i:=by rw[Vu];exact List.length_take_le _ _
    (repeat(with_reducible refine And.intro ?_ ?_;focus first|omega|rfl|assumption|exact⟨_,rfl,rfl⟩|(simp;omega)|(simp;done)))
    refine ay (ih xs[i] (by have:=List.sizeOf_lt_of_mem (List.getElem_mem hi');omega) (q+lJ ((xs.map (dD true)).take i)) (rZ hfo (List.getElem_mem hi')) (hsz _ (List.getElem_mem hi'))) ?_
    simp -implicitDefEqProofs (disch:=omega) only[go_sem]
    (repeat(with_reducible refine And.intro ?_ ?_;focus first|omega|rfl|assumption|exact⟨_,rfl,rfl⟩|(simp;omega)|(simp;done)))
    rw[hs]
    exact dA 2 (by decide) (i+1) (by omega) rfl rfl rfl rfl (by omega)
   ·have hi':i=(xs.map (dD true)).length:=by rw[List.length_map];omega
    rw[hi',List.take_length]
  ·have gZ:=ah.kK x
   have h1:=gL x
   have hall:∀t∈x.ak,t.sz≤4194304:=fun t ht=>by have:=j4 ht;omega
   have hr:=iy (l:=x.ak)
   refine aF (rs:=[.cell 2 223]) Tryz.checked.mixed Tryz.func209 Tryz.ntmps209 rfl rfl rfl rfl rfl ?_
   simp -implicitDefEqProofs (disch:=omega) only[go_sem]
   with_reducible refine aA (fun hb=> ?_) (fun hb=> ?_)<;>have h:=hb<;>(try simp only[wf_preprocess] at h)<;>simp -implicitDefEqProofs (disch:=omega) only[go_sem,hb]<;>(repeat(with_reducible refine And.intro ?_ ?_;focus first|omega|rfl|assumption|exact⟨_,rfl,rfl⟩|(simp;omega)|(simp;done)))
   ·exact ma0 (Qh true x (by omega))
   have hl2:2≤x.ak.length:=by omega
   have a0:=kL (l:=x.ak) (i:=0) (by omega)
   have hm:=List.getElem_mem (l:=x.ak) (n:=x.ak.length-1) (by omega)
   have hfs:=C8 hfo (fun e=>by rw[e] at hl2;simp at hl2)
   rw[Qg true x hl2,a0]
   refine⟨⟨by omega,by omega,hr⟩,?_⟩
   rw[J7 _ hl2]
   refine ay (yZ ((x.ak.drop 1).dropLast) (by rw[List.length_dropLast,List.length_drop];omega) n) ?_
   simp -implicitDefEqProofs (disch:=omega) only[go_sem]
   (repeat(with_reducible refine And.intro ?_ ?_;focus first|omega|rfl|assumption|exact⟨_,rfl,rfl⟩|(simp;omega)|(simp;done)))
   have el:((x.ak.length:Int)-1).toNat=x.ak.length-1:=by omega
   simp only[el]
   refine ay (ih (x.ak[x.ak.length-1]) (by have:=List.sizeOf_lt_of_mem hm;omega) (n+1) (rZ hfs hm) (hall _ hm)) ?_
   simp -implicitDefEqProofs (disch:=omega) only[go_sem]
   exact iw _
theorem Nu(x:ah)(n:Nat)(hf:gY x=true)(hsz:x.sz≤4194304):aI Tryz.prog 110 [x.v] ((dD true x).vl n):=(C9 _).1 x (Nat.lt_succ_self _) n hf hsz
end Go.Proofs.YtlmhknhlmicmeaaGreatDoor
namespace Go.Ab
theorem Da{P:Program}{w:World}{t u ty e:TypeId}{base:Option Addr}{n:Nat}{i:TypeInfo}{z:Value}(ht:P.underlying t=some (.slice e))(hu:P.underlying u=some (.int .i64))(hi:P.info? e=some i)
 (hz:i.zero=some z) (h1:1≤n) (hn:n≤1073741824) (hb:i.bytes≤4096) (hs:i.size=z.cells.size):
 ∃(cap:Nat) (row:Array Value),n≤cap∧row.size=cap*z.cells.size∧(Builtin.append_ #[t,u] ty #[.slice base 0 0,.int .i64 n]).run P w=
  .ok (.slice (some ⟨w.heap.size,0,none⟩) n cap) {w.drew with heap:=w.heap.push (.cells row e)}:=by
 have hn1:=FN n 0 (by omega)
 have h48:¬(281474976710656<Builtin.nextslicecap n 0*i.bytes):=by
  have:Builtin.nextslicecap n 0*i.bytes≤(2*n+512)*4096:=Nat.mul_le_mul hn1 hb
  omega
 have h49:¬(281474976710656<(n:Int)*(i.bytes:Int)):=by
  have h2:n*i.bytes≤1073741824*4096:=Nat.mul_le_mul hn hb
  have:(n:Int)*(i.bytes:Int)=((n*i.bytes:Nat):Int):=by simp
  rw[this];omega
 have h63':¬(9223372036854775807<(n:Int)):=by omega
 have hroom':¬(n≤0):=by omega
 have hneg:¬((n:Int)<0):=by omega
 have hn0:¬n=0:=by omega
 have hw:IntKind.i64.wrap (n:Int)=n:=PZ _ (by omega)
 have hmax:IntKind.i64.max=9223372036854775807:=by decide
 have ha:∀w:World,(asInt (.int .i64 (n:Int))).run P w=.ok (n:Int) w:=fun w=>by simp[asInt,asIntOf]
 let cap:=(Question.appendCap n 0 e).cut (w.tape w.drawn (Question.appendCap n 0 e))
 have hcap:n≤cap:=by simp[cap,Question.cut]
 refine⟨cap,#[]++(if n*i.size=0 then #[] else Builtin.zeroCells z.cells n)++Builtin.zeroCells z.cells (cap-n),hcap,?_,?_⟩
 ·by_cases h0:n*i.size=0
  ·rw[if_pos h0]
   have hsz:z.cells.size=0:=by
    rcases Nat.mul_eq_zero.1 h0 with h|h
    ·omega
    ·omega
   simp[Builtin.zeroCells,hsz]
  ·rw[if_neg h0]
   simp only[Builtin.zeroCells,Array.size_append,Array.size_map,Array.size_range,Array.size_empty,Nat.zero_add]
   rw[←Nat.add_mul]
   congr 1
   omega
 ·by_cases h0:n*i.size=0
  ·rw[if_pos h0]
   cases base<;>simp[Builtin.append_,run_underlying ht,run_underlying hu,sizeOf,typeInfo,zeroValue,hi,hz,hroom',h48,h49,h63',hneg,hw,hmax,Question.forced,newRow,ha,hn0,loadCellsFrom,h0,Builtin.firstCells,loadCells]<;>exact⟨rfl,rfl⟩
  ·rw[if_neg h0]
   cases base<;>simp[Builtin.append_,run_underlying ht,run_underlying hu,sizeOf,typeInfo,zeroValue,hi,hz,hroom',h48,h49,h63',hneg,hw,hmax,Question.forced,newRow,ha,hn0,loadCellsFrom,h0,Builtin.firstCells,loadCells]<;>exact⟨rfl,rfl⟩
end Go.Ab
namespace Go.Proofs.YtlmhknhlmicmeaaGreatDoor
open Go Go.Ab
theorem VB(base:Option Addr)(n:Nat)(h1:1≤n)(hn:n≤1073741824)(w:World):Calls Tryz.prog 373 #[.slice base 0 0,.int .i64 n] w fun e w'=>
 ∃cap row,n≤cap∧row.size=cap∧e=.returned (.slice (some ⟨w.heap.size,0,none⟩) 0 cap)∧w'={w.drew with heap:=w.heap.push (.cells row 9)}:=by
 obtain⟨cap,row,hc,hr,hm⟩:=Da (P:=Tryz.prog) (w:=w) (t:=22) (u:=3) (ty:=22) (e:=9) (base:=base) (n:=n) Tryz.underlying22 Tryz.underlying3 rfl rfl h1 hn (by decide +kernel) rfl
 have h0:¬((n:Int)<0):=by omega
 have h2:(0:Int)<n:=by omega
 go_enter Tryz.func373,Tryz.ntmps373
 go_wp2_with (at_builtin;refine Lib.wpList_append_run _ rfl _ _ _ _ rfl _ _ rfl rfl _ _ hm ?_)
 all_goals go_ret
 exact⟨cap,hc,row,hr.trans (Nat.mul_one _),rfl,rfl⟩
theorem SH(base:Option Addr)(w:World):Calls Tryz.prog 373 #[.slice base 0 0,.int .i64 0] w fun e w'=>e=.returned (.slice base 0 0)∧w'=w:=by
 go_enter Tryz.func373,Tryz.ntmps373
 go_wp2
 all_goals go_ret
 exact⟨rfl,rfl⟩
theorem Yr(n:Nat)(hn:n≤1073741824)(bf:List Ab.Obj)(Ω:Store):bD Tryz.prog 373 [.c (.aO []),.c (.d (.i .i64 n))] (bf::Ω)
 (fun r S'=>r=.c (.bL (0,bf.length) [])∧S'=(bf++[.tok 1 []])::Ω):=by
 refine⟨⟨_,Tryz.func373,by kernel_rfl,by kernel_rfl⟩,fun w σ β vs hS hv=> ?_⟩
 obtain⟨hl,h⟩:=hv
 obtain⟨v0,e0,⟨h0,a,m,h00⟩,_⟩:=h 0 _ rfl
 obtain⟨v1,e1,h1,_⟩:=h 1 _ rfl
 have h1':v1=.int .i64 n:=by cases h1;rfl
 subst h1'
 have hm:m=0:=by rw[h00] at h0;cases h0<;>rfl
 subst hm
 subst h00
 have hvs:vs=[.slice a 0 0,.int .i64 n]:=by
  match vs,hl,e0,e1 with
  |[x,y],_,e0,e1=>simp at e0 e1;rw[e0,e1]
 subst hvs
 cases β with
 |nil=>have:=hS.shape.1;simp at this
 |cons bo bΩ=>
 have hlen:bo.length=bf.length:=by
  obtain⟨gr,g1,g2⟩:=hS.shape.2 0 bf rfl
  simp at g1;rw[g1];exact g2
 by_cases hz:n=0
 ·subst hz
  refine(SH a w).mono fun e w' ⟨he,hw⟩=> ?_
  subst hw
  obtain⟨hS',hk,hst⟩:=hS.push (o:=.tok 1 []) (h:=.slice a 0 0) (Grow.refl hS.live) hlen ⟨h0,by simp,a,0,rfl,by simp,.inl rfl⟩ (fun b hb=>by cases a<;>simp[owns,blk] at hb)
  refine⟨_,.c (.bL (0,bf.length) []),_,_,_,he,hS',hk,hst,⟨⟨h0,.tok 1 [],?_,fun aQ es e=> ?_⟩,rfl⟩,rfl,rfl⟩
  ·rw[bM]
  ·obtain⟨_,rfl⟩:=kG (lab:=none) e;exact⟨Nat.le_refl _,fun _=>by rw[←hlen,bM]⟩
 ·refine(VB a n (by omega) hn w).mono fun e w' ⟨cap,row,hc,hr,he,hw⟩=> ?_
  subst hw
  have hσ:σ w.heap.size=0:=(hS.live w.heap.size).resolve_left (by omega)
  have hg:Grow w σ {w.drew with heap:=w.heap.push (.cells row 9)} σ:=by
   refine⟨by simp,rfl,rfl,fun b hb=>⟨?_,rfl⟩,fun b=> ?_⟩
   ·simp only[Array.getElem?_push]
    rw[if_neg (by omega)]
   ·rcases hS.live b with hb|hb
    ·left;simp;omega
    ·exact .inr hb
  obtain⟨hS',hk,hst⟩:=hS.push (o:=.tok 1 []) (h:=.slice (some ⟨w.heap.size,0,none⟩) 0 cap) hg hlen ⟨.nil _ _,by simp,_,cap,rfl,by simp,.inr ⟨w.heap.size,0,row,9,rfl,by simp,by simp[hσ],by omega⟩⟩ (fun b hb=>by
   simp only[owns,blk] at hb
   split at hb
   ·cases hb
   ·cases hb;exact Nat.le_refl _)
  refine⟨_,.c (.bL (0,bf.length) []),_,_,_,he,hS',hk,hst,⟨⟨.nil _ _,.tok 1 [],?_,fun aQ es e=> ?_⟩,rfl⟩,rfl,rfl⟩
  ·rw[bM]
  ·obtain⟨_,rfl⟩:=kG (lab:=none) e;exact⟨Nat.le_refl _,fun _=>by rw[←hlen,bM]⟩
theorem yB{xs:List (List UInt8)}:∀y∈xs.map encS,y.length=1:=fun y hy=>by
 obtain⟨z,_,rfl⟩:=List.mem_map.1 hy
 rfl
theorem Bd{α:Type}(xss:List (List α)){i:Nat}(hi:i<xss.length):(xss.take (i+1)).flatten.length=(xss.take i).flatten.length+xss[i].length:=by
 rw[List.take_succ_eq_append_getElem hi,List.flatten_append,List.length_append]
 simp only[List.flatten_cons,List.flatten_nil,List.append_nil]
theorem sZ{α:Type}(xss:List (List α))(i:Nat):(xss.take i).flatten.length≤xss.flatten.length:=by
 conv=>rhs;rw[←List.take_append_drop i xss]
 rw[List.flatten_append,List.length_append]
 omega
theorem SI(xss:List (List (List UInt8)))(hl:xss.length≤1073741824)(hf:xss.flatten.length≤1073741824):aI Tryz.prog 354 [.c (.d (.sl (xss.map fun a=>[.sl (a.map encS)])))] (.c (.d (.sl (xss.flatten.map encS)))):=fun S=>by
 refine aF (rs:=[.tmp 2]) Tryz.checked.mixed Tryz.func354 Tryz.ntmps354 rfl rfl rfl rfl rfl ?_
 simp -implicitDefEqProofs (disch:=omega) only[go_sem]
 refine aX (ι:=Nat) Tryz.checked.mixed rfl [0,3,9,10,11] (fun i=>[.c (.d (.sl (xss.map fun a=>[.sl (a.map encS)]))),.c (.d (.i .i64 (xss.take i).flatten.length)),.c (.d (.sl (xss.map fun a=>[.sl (a.map encS)]))),.c (.d (.i .i64 xss.length)),.c (.d (.i .i64 i))]) (fun _=>[]::S)
  (fun i=>i≤xss.length) (fun i=>xss.length-i) 0 rfl rfl (Nat.zero_le _) ?_
 rintro i p1
 have hfi:=sZ xss i
 by_cases hi:i<xss.length
 ·have hs:=Bd xss hi
  have Yt:=sZ xss (i+1)
  simp -implicitDefEqProofs (disch:=omega) only[go_sem]
  with_reducible refine aA (fun hb=> ?_) (fun hb=> ?_)<;>have h:=hb<;>(try simp only[wf_preprocess] at h)<;>simp -implicitDefEqProofs (disch:=omega) only[go_sem,hb]<;>(repeat(with_reducible refine And.intro ?_ ?_;focus first|omega|rfl|assumption|exact⟨_,rfl,rfl⟩|(simp;omega)|(simp;done)))
  ·(repeat(with_reducible refine And.intro ?_ ?_;focus first|omega|rfl|assumption|exact⟨_,rfl,rfl⟩|(simp;omega)|(simp;done)))
   with_reducible refine aA (fun hb=> ?_) (fun hb=> ?_)<;>have h:=hb<;>(try simp only[wf_preprocess] at h)<;>simp -implicitDefEqProofs (disch:=omega) only[go_sem,hb]<;>(repeat(with_reducible refine And.intro ?_ ?_;focus first|omega|rfl|assumption|exact⟨_,rfl,rfl⟩|(simp;omega)|(simp;done)))
   ·omega
   ·refine bI (i+1) (by omega) ?_ rfl (by omega)
    rw[hs];rfl
  ·omega
 have hi:i=xss.length:=by omega
 subst hi
 simp -implicitDefEqProofs (disch:=omega) only[go_sem]
 with_reducible refine aA (fun hb=> ?_) (fun hb=> ?_)<;>have h:=hb<;>(try simp only[wf_preprocess] at h)<;>simp -implicitDefEqProofs (disch:=omega) only[go_sem,hb]<;>(repeat(with_reducible refine And.intro ?_ ?_;focus first|omega|rfl|assumption|exact⟨_,rfl,rfl⟩|(simp;omega)|(simp;done)))
 ·omega
 rw[List.take_length]
 clear hfi
 refine bq rfl (Yr xss.flatten.length hf [] S) ?_
 simp -implicitDefEqProofs (disch:=omega) only[go_sem]
 refine aX (ι:=Nat) Tryz.checked.mixed rfl [6,25,26,27] (fun i=>[.c (.bL (0,0) ((xss.take i).flatten.map encS)),.c (.d (.sl (xss.map fun a=>[.sl (a.map encS)]))),.c (.d (.i .i64 xss.length)),.c (.d (.i .i64 i))]) (fun i=>[.tok 1 ((xss.take i).flatten.map encS)]::S)
  (fun i=>i≤xss.length) (fun i=>xss.length-i) 0 rfl rfl (Nat.zero_le _) ?_
 rintro i p1
 have hfi:=sZ xss i
 by_cases hi:i<xss.length
 ·have hs:=Bd xss hi
  have Yt:=sZ xss (i+1)
  have e:(xss.take (i+1)).flatten.map encS=(xss.take i).flatten.map encS++xss[i].map encS:=by
   rw[List.take_succ_eq_append_getElem hi,List.flatten_append,List.map_append]
   simp only[List.flatten_cons,List.flatten_nil,List.append_nil]
  simp -implicitDefEqProofs (disch:=omega) only[go_sem]
  with_reducible refine aA (fun hb=> ?_) (fun hb=> ?_)<;>have h:=hb<;>(try simp only[wf_preprocess] at h)<;>simp -implicitDefEqProofs (disch:=omega) only[go_sem,hb]<;>(repeat(with_reducible refine And.intro ?_ ?_;focus first|omega|rfl|assumption|exact⟨_,rfl,rfl⟩|(simp;omega)|(simp;done)))
  ·(repeat(with_reducible refine And.intro ?_ ?_;focus first|omega|rfl|assumption|exact⟨_,rfl,rfl⟩|(simp;omega)|(simp;done)))
   refine⟨yB,⟨_,rfl,rfl⟩,by omega,?_⟩
   exact bI (i+1) (by omega) (by rw[e];rfl) (by rw[e]) (by omega)
  ·omega
 ·have hi:i=xss.length:=by omega
  subst hi
  simp -implicitDefEqProofs (disch:=omega) only[go_sem]
  with_reducible refine aA (fun hb=> ?_) (fun hb=> ?_)<;>have h:=hb<;>(try simp only[wf_preprocess] at h)<;>simp -implicitDefEqProofs (disch:=omega) only[go_sem,hb]<;>(repeat(with_reducible refine And.intro ?_ ?_;focus first|omega|rfl|assumption|exact⟨_,rfl,rfl⟩|(simp;omega)|(simp;done)))
  ·omega
  rw[List.take_length]
theorem SK(c:Nat)(w:World):Calls Tryz.prog 353 #[.slice none 0 c] w fun e w'=>e=.returned (.slice none 0 0)∧w'=w:=by
 have hb:(binOp .eql 22 (.slice none 0 c) (.slice none 0 0)).run Tryz.prog w=.ok (.bool true) w:=by
  simp[binOp,run_equal_slice_nil w _ _ _ _ _ Tryz.underlying22]
 go_enter Tryz.func353,Tryz.ntmps353
 go_wp2
 all_goals go_ret
 exact⟨rfl,rfl⟩
theorem SL(w w':World)(a:Addr)(n c:Nat)(r:Value)(hm:(Builtin.append_ #[22,22] 22 #[.slice (some ⟨w.heap.size,0,none⟩) 0 0,.slice (some a) n c]).run Tryz.prog (w.alloc (.cells #[] 9))=.ok r w'):
 Calls Tryz.prog 353 #[.slice (some a) n c] w fun e w''=>e=.returned r∧w''=w':=by
 have hb:(binOp .eql 22 (.slice (some a) n c) (.slice none 0 0)).run Tryz.prog w=.ok (.bool false) w:=by
  simp[binOp,run_equal_slice_nil w _ _ _ _ _ Tryz.underlying22]
 go_enter Tryz.func353,Tryz.ntmps353
 go_wp2_with (at_builtin;refine Lib.wpList_append_run _ rfl _ _ _ _ rfl _ _ rfl rfl _ _ hm ?_)
 all_goals go_ret
 exact⟨rfl,rfl⟩
theorem VD(xs:List (List UInt8))(hx:xs.length≤1073741824)(bf:List Ab.Obj)(Ω:Store):bD Tryz.prog 353 [.c (.d (.sl (xs.map encS)))] (bf::Ω)
 (fun r S'=>r=.c (.bL (0,bf.length) (xs.map encS))∧S'=(bf++[.tok 1 (xs.map encS)])::Ω):=by
 have ad9:(xs.map encS).length≤1073741824:=by simpa using hx
 have h1:=yB (xs:=xs)
 generalize xs.map encS=es at *
 refine⟨⟨_,Tryz.func353,by kernel_rfl,by kernel_rfl⟩,fun w σ β vs hS hv=> ?_⟩
 obtain⟨hl,h⟩:=hv
 obtain⟨v,e0,hd,_⟩:=h 0 _ rfl
 have hd:bU w σ (.sl es) v:=hd
 have hvs:vs=[v]:=by
  match vs,hl,e0 with
  |[x],_,e0=>simp at e0;rw[e0]
 subst hvs
 cases β with
 |nil=>have:=hS.shape.1;simp at this
 |cons bo bΩ=>
 have hlen:bo.length=bf.length:=by
  obtain⟨gr,g1,g2⟩:=hS.shape.2 0 bf rfl
  simp at g1;rw[g1];exact g2
 have hv:∃a c,v=.slice a es.length c∧(a=none→es=[]):=by
  cases hd with
  |nil a cap=>exact⟨a,cap,rfl,fun _=>rfl⟩
  |sl b off cap aQ es vals c t fz=>exact⟨_,_,rfl,fun h=>by cases h⟩
 obtain⟨a,c,rfl,ha⟩:=hv
 cases a with
 |none=>
  have:=ha rfl
  subst this
  refine(SK c w).mono fun e w' ⟨he,hw⟩=> ?_
  subst hw
  obtain⟨hS',hk,hst⟩:=hS.push (o:=.tok 1 []) (h:=.slice none 0 0) (Grow.refl hS.live) hlen ⟨.nil _ _,by simp,none,0,rfl,by simp,.inl rfl⟩ (fun b hb=>by simp[owns,blk] at hb)
  refine⟨_,.c (.bL (0,bf.length) []),_,_,_,he,hS',hk,hst,⟨⟨.nil _ _,.tok 1 [],?_,fun aQ es e=> ?_⟩,rfl⟩,rfl,rfl⟩
  ·rw[bM]
  ·obtain⟨_,rfl⟩:=kG (lab:=none) e;exact⟨Nat.le_refl _,fun _=>by rw[←hlen,bM]⟩
 |some a=>
  have hσ:σ w.heap.size=0:=(hS.live w.heap.size).resolve_left (by omega)
  have hg:Grow w σ (w.alloc (.cells #[] 9)) σ:=by
   have hh:(w.alloc (.cells #[] 9)).heap=w.heap.push (.cells #[] 9):=rfl
   refine⟨by rw[hh];simp,rfl,rfl,fun b hb=>⟨?_,rfl⟩,fun b=> ?_⟩
   ·rw[hh,Array.getElem?_push]
    rw[if_neg (by omega)]
   ·rcases hS.live b with hb|hb
    ·left;rw[hh];simp;omega
    ·exact .inr hb
  have wz:gq (w.alloc (.cells #[] 9)) σ [] [] (.tok 1 []) (.slice (some ⟨w.heap.size,0,none⟩) 0 0):=⟨.nil _ _,by simp,_,0,rfl,by simp,.inl rfl⟩
  obtain⟨r,w',σ',hr,hro,hsz,hos,hout,hn,hli,wu,hbk,hzero,h1c⟩:=tK (lab:=none) (P:=Tryz.prog) (w:=w.alloc (.cells #[] 9)) (σ:=σ) (S:=[]) (β:=[]) (t:=22) (u:=22) (ty:=22) (e:=9) (size:=1) (es:=[]) (ys:=es) hg.live Tryz.underlying22 (.inl ⟨_,Tryz.underlying22⟩) ⟨[.d (.s [])],by kernel_rfl,rfl⟩ rfl (by decide +kernel) wz (BN (bU.mono hg.near hd) h1) (by simpa using ad9)
  rw[List.nil_append] at hro hbk
  refine(SL w w' a es.length c r hr).mono fun e w'' ⟨he,hw⟩=> ?_
  subst hw
  have hg2:Grow (w.alloc (.cells #[] 9)) σ w'' σ':=⟨hsz,hos,hout,fun b hb=>wu b hb (by simp[gG,owns,blk]),hli⟩
  have hg3:=hg.trans hg2
  obtain⟨hS',hk,hst⟩:=hS.push (o:=.tok 1 es) (h:=r) hg3 hlen (hro _ _) (fun b hb=>by
   rcases hbk b hb with h|h
   ·simp[gG,owns,blk] at h
   ·exact Nat.le_trans hg.size h)
  refine⟨_,.c (.bL (0,bf.length) es),_,_,_,he,hS',hk,hst,⟨⟨(hro [] []).1,.tok 1 es,?_,fun aQ es' e=> ?_⟩,h1c⟩,rfl,rfl⟩
  ·rw[bM]
  ·obtain⟨_,rfl⟩:=kG (lab:=none) e;exact⟨Nat.le_refl _,fun _=>by rw[←hlen,bM]⟩
end Go.Proofs.YtlmhknhlmicmeaaGreatDoor
namespace Go.Ab
theorem bD.args{P:Program}{f:FuncId}{args args':List V}{S:Store}{post:V→Store→Prop}(h:bD P f args' S post)(hl:o9 args args'):bD P f args S post:=h.weaken hl.length fun j x y hx hy w σ β v hr=>hl.at j x y hx hy w σ S β v hr
theorem mo(n:Nat)(es:List (List D)):Less (.c (.iK n es)) (.c (.d (.sl es))):=fun w σ S β v h=>⟨tF h.1.1,h.2⟩
end Go.Ab
namespace Go.Proofs.YtlmhknhlmicmeaaGreatDoor
open Go Go.Ab
theorem kr(xs:List (List UInt8))(hx:xs.length≤1073741824)(n q:Nat)(bf:List Ab.Obj)(Ω:Store):bD Tryz.prog 173 [.c (.d (.sl (xs.map encS)))] (bf::Ω)
 (fun r S'=>r=.c (.bL (0,bf.length+1) (lx (aS xs) q))∧S'=(bf++[.seed n,.eP n 2 (lx (aS xs) q)])::Ω):=by
 refine RV (n) (rs:=[.tmp 2]) Tryz.checked.mixed Tryz.func173 Tryz.ntmps173 rfl rfl rfl rfl rfl ?_
 simp -implicitDefEqProofs (disch:=omega) only[go_sem]
 (repeat(with_reducible refine And.intro ?_ ?_;focus first|omega|rfl|assumption|exact⟨_,rfl,rfl⟩|(simp;omega)|(simp;done)))
 refine pR n 3 2 [] (.inl rfl) (by simp) ?_
 refine aX (ι:=Nat) Tryz.checked.mixed rfl [3,7,8,9] (fun i=>[.c (.bL (0,1) (lx ((aS xs).take i) q)),.c (.d (.sl (xs.map encS))),.c (.d (.i .i64 xs.length)),.c (.d (.i .i64 i))]) (fun i=>[.seed n,.eP n 2 (lx ((aS xs).take i) q)]::bf::Ω)
  (fun i=>i≤xs.length) (fun i=>xs.length-i) 0 rfl rfl (Nat.zero_le _) ?_
 intro i hi
 simp -implicitDefEqProofs (disch:=omega) only[go_sem]
 with_reducible refine aA (fun hb=> ?_) (fun hb=> ?_)<;>have h:=hb<;>(try simp only[wf_preprocess] at h)<;>simp -implicitDefEqProofs (disch:=omega) only[go_sem,hb]<;>(repeat(with_reducible refine And.intro ?_ ?_;focus first|omega|rfl|assumption|exact⟨_,rfl,rfl⟩|(simp;omega)|(simp;done)))
 ·have hi':i<xs.length:=by omega
  have hw:i<(aS xs).length:=by rw[jG];exact hi'
  have hg:(aS xs)[i]=bn xs[i]:=by simp[aS]
  have hl:(lx ((aS xs).take i) q).length≤i:=by rw[gI];exact List.length_take_le _ _
  (repeat(with_reducible refine And.intro ?_ ?_;focus first|omega|rfl|assumption|exact⟨_,rfl,rfl⟩|(simp;omega)|(simp;done)))
  refine ay (dM xs[i] (q+gT ((aS xs).take i))) ?_
  simp -implicitDefEqProofs (disch:=omega) only[go_sem]
  (repeat(with_reducible refine And.intro ?_ ?_;focus first|omega|rfl|assumption|exact⟨_,rfl,rfl⟩|(simp;omega)|(simp;done)))
  have hs:=I4 hw q
  rw[hg,yU] at hs
  rw[hs]
  exact bI (i+1) (by omega) rfl rfl (by omega)
 ·have hi':i=(aS xs).length:=by rw[jG];omega
  rw[hi',List.take_length]
  exact⟨rfl,rfl⟩
theorem VE(base:Option Addr)(n:Nat)(h1:1≤n)(hn:n≤1073741824)(w:World):Calls Tryz.prog 288 #[.slice base 0 0,.int .i64 n] w fun e w'=>
 ∃cap row,n≤cap∧row.size=cap*2∧e=.returned (.slice (some ⟨w.heap.size,0,none⟩) 0 cap)∧w'={w.drew with heap:=w.heap.push (.cells row 32)}:=by
 obtain⟨cap,row,hc,hr,hm⟩:=Da (P:=Tryz.prog) (w:=w) (t:=30) (u:=3) (ty:=30) (e:=32) (base:=base) (n:=n) Tryz.underlying30 Tryz.underlying3 rfl rfl h1 hn (by decide +kernel) rfl
 have h0:¬((n:Int)<0):=by omega
 have h2:(0:Int)<n:=by omega
 go_enter Tryz.func288,Tryz.ntmps288
 go_wp2_with (at_builtin;refine Lib.wpList_append_run _ rfl _ _ _ _ rfl _ _ rfl rfl _ _ hm ?_)
 all_goals go_ret
 exact⟨cap,hc,row,hr,rfl,rfl⟩
theorem SN(base:Option Addr)(w:World):Calls Tryz.prog 288 #[.slice base 0 0,.int .i64 0] w fun e w'=>e=.returned (.slice base 0 0)∧w'=w:=by
 go_enter Tryz.func288,Tryz.ntmps288
 go_wp2
 all_goals go_ret
 exact⟨rfl,rfl⟩
theorem VF(m n:Nat)(hn:n≤1073741824)(bf:List Ab.Obj)(Ω:Store):bD Tryz.prog 288 [.c (.aO []),.c (.d (.i .i64 n))] (bf::Ω)
 (fun r S'=>r=.c (.bL (0,bf.length) [])∧S'=(bf++[.eP m 2 []])::Ω):=by
 refine⟨⟨_,Tryz.func288,by kernel_rfl,by kernel_rfl⟩,fun w σ β vs hS hv=> ?_⟩
 obtain⟨hl,h⟩:=hv
 obtain⟨v0,e0,⟨h0,a,m',h00⟩,_⟩:=h 0 _ rfl
 obtain⟨v1,e1,h1,_⟩:=h 1 _ rfl
 have h1':v1=.int .i64 n:=by cases h1;rfl
 subst h1'
 have hm:m'=0:=by rw[h00] at h0;cases h0<;>rfl
 subst hm
 subst h00
 have hvs:vs=[.slice a 0 0,.int .i64 n]:=by
  match vs,hl,e0,e1 with
  |[x,y],_,e0,e1=>simp at e0 e1;rw[e0,e1]
 subst hvs
 cases β with
 |nil=>have:=hS.shape.1;simp at this
 |cons bo bΩ=>
 have hlen:bo.length=bf.length:=by
  obtain⟨gr,g1,g2⟩:=hS.shape.2 0 bf rfl
  simp at g1;rw[g1];exact g2
 by_cases hz:n=0
 ·subst hz
  refine(SN a w).mono fun e w' ⟨he,hw⟩=> ?_
  subst hw
  obtain⟨hS',hk,hst⟩:=hS.push (o:=.eP m 2 []) (h:=.slice a 0 0) (Grow.refl hS.live) hlen ⟨h0,by simp,a,0,rfl,by simp,.inl ⟨rfl,.qm _ _ _⟩⟩ (fun b hb=>by cases a<;>simp[owns,blk] at hb)
  refine⟨_,.c (.bL (0,bf.length) []),_,_,_,he,hS',hk,hst,⟨⟨h0,.eP m 2 [],?_,fun aQ es e=> ?_⟩,rfl⟩,rfl,rfl⟩
  ·rw[bM]
  ·obtain⟨_,rfl⟩:=kG (lab:=some m) e;exact⟨Nat.le_refl _,fun _=>by rw[←hlen,bM]⟩
 ·refine(VE a n (by omega) hn w).mono fun e w' ⟨cap,row,hc,hr,he,hw⟩=> ?_
  subst hw
  have hσ:σ w.heap.size=0:=(hS.live w.heap.size).resolve_left (by omega)
  have hg:Grow w σ {w.drew with heap:=w.heap.push (.cells row 32)} σ:=by
   refine⟨by simp,rfl,rfl,fun b hb=>⟨?_,rfl⟩,fun b=> ?_⟩
   ·simp only[Array.getElem?_push]
    rw[if_neg (by omega)]
   ·rcases hS.live b with hb|hb
    ·left;simp;omega
    ·exact .inr hb
  obtain⟨hS',hk,hst⟩:=hS.push (o:=.eP m 2 []) (h:=.slice (some ⟨w.heap.size,0,none⟩) 0 cap) hg hlen ⟨.nil _ _,by simp,_,cap,rfl,by simp,.inr ⟨by simp;omega,w.heap.size,0,row,32,rfl,by simp,by simp[hσ],by omega⟩⟩ (fun b hb=>by
   simp only[owns,blk] at hb
   split at hb
   ·cases hb
   ·cases hb;exact Nat.le_refl _)
  refine⟨_,.c (.bL (0,bf.length) []),_,_,_,he,hS',hk,hst,⟨⟨.nil _ _,.eP m 2 [],?_,fun aQ es e=> ?_⟩,rfl⟩,rfl,rfl⟩
  ·rw[bM]
  ·obtain⟨_,rfl⟩:=kG (lab:=some m) e;exact⟨Nat.le_refl _,fun _=>by rw[←hlen,bM]⟩
theorem Pk(m l:Nat)(xss:List (Nat×List (List D)))(hl:xss.length≤1073741824)(hr:∀p∈xss,∀r∈p.2,r.length=2)(hf:(xss.map (·.2)).flatten.length≤1073741824):aI Tryz.prog 213 [.c (.iK l (xss.map fun p=>[.ol p.1 p.2]))] (.c (.d (.ol m (xss.map (·.2)).flatten))):=fun S=>by
 obtain⟨ys,hys⟩:∃ys:List (List (List D)),ys=xss.map (·.2):=⟨_,rfl⟩
 rw[←hys] at hf ⊢
 have hyl:ys.length=xss.length:=by rw[hys,List.length_map]
 have hyi:∀i (hi:i<xss.length),ys[i]'(by omega)=xss[i].2:=fun i hi=>by simp[hys]
 have YG:∀i (hi:i<xss.length),∀r∈xss[i].2,r.length=2:=fun i hi=>hr _ (List.getElem_mem hi)
 refine l8 (m) (rs:=[.tmp 2]) Tryz.checked.mixed Tryz.func213 Tryz.ntmps213 rfl rfl rfl rfl rfl ?_
 simp -implicitDefEqProofs (disch:=omega) only[go_sem]
 refine aX (ι:=Nat) Tryz.checked.mixed rfl [0,3,9,10,11] (fun i=>[.c (.iK l (xss.map fun p=>[.ol p.1 p.2])),.c (.d (.i .i64 (ys.take i).flatten.length)),.c (.iK l (xss.map fun p=>[.ol p.1 p.2])),.c (.d (.i .i64 xss.length)),.c (.d (.i .i64 i))]) (fun _=>[.seed m]::S)
  (fun i=>i≤xss.length) (fun i=>xss.length-i) 0 rfl rfl (Nat.zero_le _) ?_
 rintro i p1
 have hfi:=sZ ys i
 by_cases hi:i<xss.length
 ·have hs:=Bd ys (i:=i) (by omega)
  rw[hyi i hi] at hs
  have Yt:=sZ ys (i+1)
  simp -implicitDefEqProofs (disch:=omega) only[go_sem]
  with_reducible refine aA (fun hb=> ?_) (fun hb=> ?_)<;>have h:=hb<;>(try simp only[wf_preprocess] at h)<;>simp -implicitDefEqProofs (disch:=omega) only[go_sem,hb]<;>(repeat(with_reducible refine And.intro ?_ ?_;focus first|omega|rfl|assumption|exact⟨_,rfl,rfl⟩|(simp;omega)|(simp;done)))
  ·(repeat(with_reducible refine And.intro ?_ ?_;focus first|omega|rfl|assumption|exact⟨_,rfl,rfl⟩|(simp;omega)|(simp;done)))
   with_reducible refine aA (fun hb=> ?_) (fun hb=> ?_)<;>have h:=hb<;>(try simp only[wf_preprocess] at h)<;>simp -implicitDefEqProofs (disch:=omega) only[go_sem,hb]<;>(repeat(with_reducible refine And.intro ?_ ?_;focus first|omega|rfl|assumption|exact⟨_,rfl,rfl⟩|(simp;omega)|(simp;done)))
   ·omega
   ·refine bI (i+1) (by omega) ?_ rfl (by omega)
    rw[hs];rfl
  ·omega
 have hi:i=xss.length:=by omega
 subst hi
 simp -implicitDefEqProofs (disch:=omega) only[go_sem]
 with_reducible refine aA (fun hb=> ?_) (fun hb=> ?_)<;>have h:=hb<;>(try simp only[wf_preprocess] at h)<;>simp -implicitDefEqProofs (disch:=omega) only[go_sem,hb]<;>(repeat(with_reducible refine And.intro ?_ ?_;focus first|omega|rfl|assumption|exact⟨_,rfl,rfl⟩|(simp;omega)|(simp;done)))
 ·omega
 rw[←hyl,List.take_length]
 clear hfi
 refine bq rfl (VF m ys.flatten.length hf [.seed m] S) ?_
 simp -implicitDefEqProofs (disch:=omega) only[go_sem]
 refine aX (ι:=Nat) Tryz.checked.mixed rfl [6,25,26,27] (fun i=>[.c (.bL (0,1) (ys.take i).flatten),.c (.iK l (xss.map fun p=>[.ol p.1 p.2])),.c (.d (.i .i64 xss.length)),.c (.d (.i .i64 i))]) (fun i=>[.seed m,.eP m 2 (ys.take i).flatten]::S)
  (fun i=>i≤xss.length) (fun i=>xss.length-i) 0 (by rw[←hyl];rfl) rfl (Nat.zero_le _) ?_
 rintro i p1
 have hfi:=sZ ys i
 by_cases hi:i<xss.length
 ·have hs:=Bd ys (i:=i) (by omega)
  rw[hyi i hi] at hs
  have Yt:=sZ ys (i+1)
  have e:(ys.take (i+1)).flatten=(ys.take i).flatten++xss[i].2:=by
   rw[List.take_succ_eq_append_getElem (by omega),List.flatten_append,hyi i hi]
   simp only[List.flatten_cons,List.flatten_nil,List.append_nil]
  have wh:=YG i hi
  simp -implicitDefEqProofs (disch:=omega) only[go_sem]
  with_reducible refine aA (fun hb=> ?_) (fun hb=> ?_)<;>have h:=hb<;>(try simp only[wf_preprocess] at h)<;>simp -implicitDefEqProofs (disch:=omega) only[go_sem,hb]<;>(repeat(with_reducible refine And.intro ?_ ?_;focus first|omega|rfl|assumption|exact⟨_,rfl,rfl⟩|(simp;omega)|(simp;done)))
  ·(repeat(with_reducible refine And.intro ?_ ?_;focus first|omega|rfl|assumption|exact⟨_,rfl,rfl⟩|(simp;omega)|(simp;done)))
   exact bI (i+1) (by omega) (by rw[e];rfl) (by rw[e]) (by omega)
  ·omega
 ·have hi:i=ys.length:=by omega
  simp -implicitDefEqProofs (disch:=omega) only[go_sem]
  with_reducible refine aA (fun hb=> ?_) (fun hb=> ?_)<;>have h:=hb<;>(try simp only[wf_preprocess] at h)<;>simp -implicitDefEqProofs (disch:=omega) only[go_sem,hb]<;>(repeat(with_reducible refine And.intro ?_ ?_;focus first|omega|rfl|assumption|exact⟨_,rfl,rfl⟩|(simp;omega)|(simp;done)))
  ·omega
  rw[hi,List.take_length]
end Go.Proofs.YtlmhknhlmicmeaaGreatDoor
namespace Go.Ab
theorem iA{x:au}{k:Int}(h:x.aM=k):fT x.aM x.bB x.fName x.fType=fT k x.bB x.fName x.fType:=by rw[h]
theorem Ka{l:List au}{t:au}(h:t∈l):t.sz≤pF l:=by
 rw[←E8];exact dP (List.mem_map_of_mem h)
theorem Hw{l:List aJ}{t:aJ}(h:t∈l):t.sz≤wL l:=by
 rw[←E9];exact dP (List.mem_map_of_mem h)
theorem zw:∀{xs:List au},jd xs=true↔∀t∈xs,gK t=true
 |[]=>by simp[jd]
 |t::ts=>by simp[jd,zw (xs:=ts)]
theorem Bf:∀{xs:List aJ},kZ xs=true↔∀t∈xs,qU t=true
 |[]=>by simp[kZ]
 |t::ts=>by simp[kZ,Bf (xs:=ts)]
theorem iX{x:au}(h1:x.aM≠1)(h2:x.aM≠2)(h3:x.aM≠3)(h:x.aM=4∨x.aM=5∨x.aM=6∨x.aM=8∨x.aM=9∨x.aM=10∨x.aM=11∨x.aM=12):
 dW x=dn (fT x.aM x.bB x.fName x.fType++x.fArgs.map dW):=by rw[CK,if_neg h1,if_neg h2,if_neg h3,if_pos h,List.append_nil]
end Go.Ab
namespace Go.Proofs.YtlmhknhlmicmeaaGreatDoor
open Go Go.Ab
theorem Hy:∀N:Nat,∀x:au,SizeOf.sizeOf x<N→∀n:Nat,gK x=true→x.sz≤4194304→aI Tryz.prog 112 [x.v] (.agg [.d (.s (dW x).aV),.d (.ol n (lx (dW x).ak (n+1)))])
 |0=>fun x h=>by omega
 |N+1=>by
  have ih:=Hy N
  intro x hn n hok hsz S
  have gZ:=au.fq x
  have vw:=au.kJ x
  have hzz:=rX x
  rw[sV,Bool.and_eq_true,Bool.and_eq_true] at hok
  obtain⟨hfi,hoa,Nv⟩:=hok
  have hfi:=iH hfi
  have hoa:=zw.1 hoa
  have Nv:=Bf.1 Nv
  obtain⟨qa,uo⟩:∃qa,qa=n+1+gT (fT x.aM x.bB x.fName x.fType):=⟨_,rfl⟩
  obtain⟨T,hT⟩:∃T:Nat→List (List D),T=fun i=>lx ((x.fArgs.map dW).take i) qa:=⟨_,rfl⟩
  have hT0:T 0=[]:=by rw[hT];rfl
  have lV:∀i,(T i).length≤i:=fun i=>by rw[hT];simp only[gI];exact List.length_take_le _ _
  have hTr:∀i,∀r∈T i,r.length=2:=fun i=>by rw[hT];exact j5
  have hTs:∀i (hi:i<x.fArgs.length),T i++[[.s (dW x.fArgs[i]).aV,.ol (qa+gT ((x.fArgs.map dW).take i)) (lx (dW x.fArgs[i]).ak (qa+gT ((x.fArgs.map dW).take i)+1))]]=T (i+1):=fun i hi=>by
   have:=M8 (l:=x.fArgs.map dW) (i:=i) (by rw[List.length_map];exact hi) qa
   rw[List.getElem_map] at this
   rw[hT];exact this
  have hTe:T x.fArgs.length=lx (x.fArgs.map dW) qa:=by rw[hT];simp only;rw[List.take_of_length_le (by simp)]
  clear hT
  refine l8 (n) (rs:=[.cell 2 32]) Tryz.checked.mixed Tryz.func112 Tryz.ntmps112 rfl rfl rfl rfl rfl ?_
  simp -implicitDefEqProofs (disch:=omega) only[go_sem]
  (repeat(with_reducible refine And.intro ?_ ?_;focus first|omega|rfl|assumption|exact⟨_,rfl,rfl⟩|(simp;omega)|(simp;done)))
  refine pR n 3 2 [] (.inl rfl) (by simp) ?_
  refine aX (ι:=Nat) Tryz.checked.mixed rfl [1,2,3,11,12,13] (fun i=>[.c (.ptr (0,1) 0),.c (.ptr (0,2) 0),.c (.bL (0,3) (T i)),.c (.d (.sl (x.fArgs.map au.enc))),.c (.d (.i .i64 x.fArgs.length)),.c (.d (.i .i64 i))])
   (fun i=>[.seed n,.box [.d (.i .i64 x.aM),.d (.s x.bB),.d (.s x.fName),.d (.i .i64 x.fN),.d (.i .i64 x.fType.aM),.d (.s x.fType.fName),.d (.sl (x.fType.fArgs.map aj.enc)),.d (.sl (x.fArgs.map au.enc)),.d (.sl (x.aK.map aJ.enc))],.box [.d (.s []),.aO []],.eP n 2 (T i)]::S)
   (fun i=>i≤x.fArgs.length) (fun i=>x.fArgs.length-i) 0 (by rw[hT0];rfl) (by rw[hT0];rfl) (Nat.zero_le _) ?_
  intro i hi
  have hl:=lV i
  simp -implicitDefEqProofs (disch:=omega) only[go_sem]
  with_reducible refine aA (fun hb=> ?_) (fun hb=> ?_)<;>have h:=hb<;>(try simp only[wf_preprocess] at h)<;>simp -implicitDefEqProofs (disch:=omega) only[go_sem,hb]<;>(repeat(with_reducible refine And.intro ?_ ?_;focus first|omega|rfl|assumption|exact⟨_,rfl,rfl⟩|(simp;omega)|(simp;done)))
  ·have hi':i<x.fArgs.length:=by omega
   have hm:=List.getElem_mem hi'
   have YJ:=Ka hm
   have hs:=hTs i hi'
   (repeat(with_reducible refine And.intro ?_ ?_;focus first|omega|rfl|assumption|exact⟨_,rfl,rfl⟩|(simp;omega)|(simp;done)))
   refine ay (ih x.fArgs[i] (by have:=List.sizeOf_lt_of_mem hm;omega) (qa+gT ((x.fArgs.map dW).take i)) (hoa _ hm) (by omega)) ?_
   simp -implicitDefEqProofs (disch:=omega) only[go_sem]
   (repeat(with_reducible refine And.intro ?_ ?_;focus first|omega|rfl|assumption|exact⟨_,rfl,rfl⟩|(simp;omega)|(simp;done)))
   rw[hs]
   exact dA 4 (by decide) (i+1) (by omega) rfl rfl rfl rfl (by omega)
  have hi':i=x.fArgs.length:=by omega
  subst hi'
  clear hTs hi h hb
  have hTT:=hTr x.fArgs.length
  have hxe:=CK x
  with_reducible refine aA (fun hb=> ?_) (fun hb=> ?_)<;>have h:=hb<;>(try simp only[wf_preprocess] at h)<;>simp -implicitDefEqProofs (disch:=omega) only[go_sem,hb]<;>(repeat(with_reducible refine And.intro ?_ ?_;focus first|omega|rfl|assumption|exact⟨_,rfl,rfl⟩|(simp;omega)|(simp;done)))
  ·rw[if_pos h] at hxe
   rw[hxe]
   have hb:=hfi.2.2.2.1
   rw[if_pos h] at hb
   refine ay (Fe x.fN (by omega) (by omega)) ?_
   simp -implicitDefEqProofs (disch:=omega) only[go_sem]
   refine ay (dM _ n) ?_
   simp -implicitDefEqProofs (disch:=omega) only[go_sem]
   rfl
  have k1:=h
  rw[if_neg h] at hxe
  with_reducible refine aA (fun hb=> ?_) (fun hb=> ?_)<;>have h:=hb<;>(try simp only[wf_preprocess] at h)<;>simp -implicitDefEqProofs (disch:=omega) only[go_sem,hb]<;>(repeat(with_reducible refine And.intro ?_ ?_;focus first|omega|rfl|assumption|exact⟨_,rfl,rfl⟩|(simp;omega)|(simp;done)))
  ·rw[if_pos h] at hxe
   rw[hxe]
   with_reducible refine aA (fun hb=> ?_) (fun hb=> ?_)<;>have h:=hb<;>(try simp only[wf_preprocess] at h)<;>simp -implicitDefEqProofs (disch:=omega) only[go_sem,hb]<;>(repeat(with_reducible refine And.intro ?_ ?_;focus first|omega|rfl|assumption|exact⟨_,rfl,rfl⟩|(simp;omega)|(simp;done)))
   ·rw[if_pos h]
    refine ay (dM _ n) ?_
    simp -implicitDefEqProofs (disch:=omega) only[go_sem]
    rfl
   ·rw[if_neg h]
    refine ay (dM _ n) ?_
    simp -implicitDefEqProofs (disch:=omega) only[go_sem]
    rfl
  have k2:=h
  rw[if_neg h] at hxe
  with_reducible refine aA (fun hb=> ?_) (fun hb=> ?_)<;>have h:=hb<;>(try simp only[wf_preprocess] at h)<;>simp -implicitDefEqProofs (disch:=omega) only[go_sem,hb]<;>(repeat(with_reducible refine And.intro ?_ ?_;focus first|omega|rfl|assumption|exact⟨_,rfl,rfl⟩|(simp;omega)|(simp;done)))
  ·rw[if_pos h] at hxe
   rw[hxe]
   refine ay (dM _ n) ?_
   simp -implicitDefEqProofs (disch:=omega) only[go_sem]
   rfl
  have k3:=h
  clear hxe
  with_reducible refine aA (fun hb=> ?_) (fun hb=> ?_)<;>have h:=hb<;>(try simp only[wf_preprocess] at h)<;>simp -implicitDefEqProofs (disch:=omega) only[go_sem,hb]<;>(repeat(with_reducible refine And.intro ?_ ?_;focus first|omega|rfl|assumption|exact⟨_,rfl,rfl⟩|(simp;omega)|(simp;done)))
  ·have hx:=iX k1 k2 k3 (by omega)
   have hh:fT x.aM x.bB x.fName x.fType=aS [kS,x.fName]:=by rw[iA h];rfl
   rw[hh] at hx uo
   (repeat(with_reducible refine And.intro ?_ ?_;focus first|omega|rfl|assumption|exact⟨_,rfl,rfl⟩|(simp;omega)|(simp;done)))
   refine bq rfl (bD.args (kr [kS,x.fName] (by simp) n (n+1) _ _) (.cons (mo n _) .nil)) ?_
   have Kc:(lx (aS [kS,x.fName]) (n+1)).length=2:=by rw[gI];rfl
   have Ke:=j5 (l:=aS [kS,x.fName]) (n:=n+1)
   simp -implicitDefEqProofs (disch:=omega) only[go_sem]
   (repeat(with_reducible refine And.intro ?_ ?_;focus first|omega|rfl|assumption|exact⟨_,rfl,rfl⟩|(simp;omega)|(simp;done)))
   refine bq rfl (jq 0 5 _ _) ?_
   simp -implicitDefEqProofs (disch:=omega) only[go_sem]
   rw[hx,hTe,uo,eF,dX,jI]
  have k4:=h
  with_reducible refine aA (fun hb=> ?_) (fun hb=> ?_)<;>have h:=hb<;>(try simp only[wf_preprocess] at h)<;>simp -implicitDefEqProofs (disch:=omega) only[go_sem,hb]<;>(repeat(with_reducible refine And.intro ?_ ?_;focus first|omega|rfl|assumption|exact⟨_,rfl,rfl⟩|(simp;omega)|(simp;done)))
  ·have hx:=iX k1 k2 k3 (by omega)
   have hh:fT x.aM x.bB x.fName x.fType=aS [fZ,x.bB,x.fName]:=by rw[iA h];rfl
   rw[hh] at hx uo
   (repeat(with_reducible refine And.intro ?_ ?_;focus first|omega|rfl|assumption|exact⟨_,rfl,rfl⟩|(simp;omega)|(simp;done)))
   refine bq rfl (bD.args (kr [fZ,x.bB,x.fName] (by simp) n (n+1) _ _) (.cons (mo n _) .nil)) ?_
   have Kc:(lx (aS [fZ,x.bB,x.fName]) (n+1)).length=3:=by rw[gI];rfl
   have Ke:=j5 (l:=aS [fZ,x.bB,x.fName]) (n:=n+1)
   simp -implicitDefEqProofs (disch:=omega) only[go_sem]
   (repeat(with_reducible refine And.intro ?_ ?_;focus first|omega|rfl|assumption|exact⟨_,rfl,rfl⟩|(simp;omega)|(simp;done)))
   refine bq rfl (jq 0 5 _ _) ?_
   simp -implicitDefEqProofs (disch:=omega) only[go_sem]
   rw[hx,hTe,uo,eF,dX,jI]
  have k5:=h
  with_reducible refine aA (fun hb=> ?_) (fun hb=> ?_)<;>have h:=hb<;>(try simp only[wf_preprocess] at h)<;>simp -implicitDefEqProofs (disch:=omega) only[go_sem,hb]<;>(repeat(with_reducible refine And.intro ?_ ?_;focus first|omega|rfl|assumption|exact⟨_,rfl,rfl⟩|(simp;omega)|(simp;done)))
  ·have hx:=iX k1 k2 k3 (by omega)
   have hh:fT x.aM x.bB x.fName x.fType=aS [nK,x.fName]:=by rw[iA h];rfl
   rw[hh] at hx uo
   (repeat(with_reducible refine And.intro ?_ ?_;focus first|omega|rfl|assumption|exact⟨_,rfl,rfl⟩|(simp;omega)|(simp;done)))
   refine bq rfl (bD.args (kr [nK,x.fName] (by simp) n (n+1) _ _) (.cons (mo n _) .nil)) ?_
   have Kc:(lx (aS [nK,x.fName]) (n+1)).length=2:=by rw[gI];rfl
   have Ke:=j5 (l:=aS [nK,x.fName]) (n:=n+1)
   simp -implicitDefEqProofs (disch:=omega) only[go_sem]
   (repeat(with_reducible refine And.intro ?_ ?_;focus first|omega|rfl|assumption|exact⟨_,rfl,rfl⟩|(simp;omega)|(simp;done)))
   refine bq rfl (jq 0 5 _ _) ?_
   simp -implicitDefEqProofs (disch:=omega) only[go_sem]
   rw[hx,hTe,uo,eF,dX,jI]
  have k6:=h
  with_reducible refine aA (fun hb=> ?_) (fun hb=> ?_)<;>have h:=hb<;>(try simp only[wf_preprocess] at h)<;>simp -implicitDefEqProofs (disch:=omega) only[go_sem,hb]<;>(repeat(with_reducible refine And.intro ?_ ?_;focus first|omega|rfl|assumption|exact⟨_,rfl,rfl⟩|(simp;omega)|(simp;done)))
  ·have hx:=CK x
   rw[if_neg k1,if_neg k2,if_neg k3,if_neg (by omega)] at hx
   have hh:fT x.aM x.bB x.fName x.fType=aS [iE]:=by rw[iA h];rfl
   rw[hh] at hx uo
   obtain⟨B,hB⟩:∃B:Nat→List (List D),B=fun i=>lx (x.fArgs.map dW++(x.aK.map um).take i) qa:=⟨_,rfl⟩
   obtain⟨L,hL⟩:∃L:Nat→Nat,L=fun i=>qa+gT (x.fArgs.map dW++(x.aK.map um).take i):=⟨_,rfl⟩
   have hB0:T x.fArgs.length=B 0:=by rw[hTe,hB];simp only[List.take_zero,List.append_nil]
   have hBl:∀i,(B i).length≤i+x.fArgs.length:=fun i=>by
    rw[hB];simp only[gI,List.length_append,List.length_map]
    have:=List.length_take_le i (x.aK.map um)
    omega
   have hBr:∀i,∀r∈B i,r.length=2:=fun i=>by rw[hB];exact j5
   have hBs:∀i (hi:i<x.aK.length),B i++[[.s [],.ol (L i) (lx ([bn x.aK[i].bP]++aS x.aK[i].aN++[dW x.aK[i].fBody]) (L i+1))]]=B (i+1):=fun i hi=>by
    have:=AV (base:=x.fArgs.map dW) (l:=x.aK.map um) (i:=i) (by rw[List.length_map];exact hi) qa
    rw[List.getElem_map,Vk,eF,dX] at this
    rw[hB,hL];exact this
   have hBe:B x.aK.length=lx (x.fArgs.map dW++x.aK.map um) qa:=by rw[hB];simp only;rw[List.take_of_length_le (by simp)]
   clear hB hL hTT
   (repeat(with_reducible refine And.intro ?_ ?_;focus first|omega|rfl|assumption|exact⟨_,rfl,rfl⟩|(simp;omega)|(simp;done)))
   refine bq rfl (bD.args (kr [iE] (by simp) n (n+1) _ _) (.cons (mo n _) .nil)) ?_
   have Kc:(lx (aS [iE]) (n+1)).length=1:=by rw[gI];rfl
   have Ke:=j5 (l:=aS [iE]) (n:=n+1)
   simp -implicitDefEqProofs (disch:=omega) only[go_sem]
   rw[hB0]
   obtain⟨HD,hHD⟩:∃HD,HD=lx (aS [iE]) (n+1):=⟨_,rfl⟩
   rw[←hHD] at Kc Ke ⊢
   refine aX (ι:=Nat) Tryz.checked.mixed rfl [2,3,6,69,70,71] (fun i=>[.c (.ptr (0,2) 0),.c (.bL (0,3) (B i)),.c (.bL (0,5) HD),.c (.d (.sl (x.aK.map aJ.enc))),.c (.d (.i .i64 x.aK.length)),.c (.d (.i .i64 i))])
    (fun i=>[.seed n,.box [.d (.i .i64 x.aM),.d (.s x.bB),.d (.s x.fName),.d (.i .i64 x.fN),.d (.i .i64 x.fType.aM),.d (.s x.fType.fName),.d (.sl (x.fType.fArgs.map aj.enc)),.d (.sl (x.fArgs.map au.enc)),.d (.sl (x.aK.map aJ.enc))],.box [.d (.s []),.aO []],.eP n 2 (B i),.seed n,.eP n 2 HD]::S)
    (fun i=>i≤x.aK.length) (fun i=>x.aK.length-i) 0 rfl rfl (Nat.zero_le _) ?_
   intro i hi
   have hl:=hBl i
   have hr:=hBr i
   simp -implicitDefEqProofs (disch:=omega) only[go_sem]
   with_reducible refine aA (fun hb=> ?_) (fun hb=> ?_)<;>have h:=hb<;>(try simp only[wf_preprocess] at h)<;>simp -implicitDefEqProofs (disch:=omega) only[go_sem,hb]<;>(repeat(with_reducible refine And.intro ?_ ?_;focus first|omega|rfl|assumption|exact⟨_,rfl,rfl⟩|(simp;omega)|(simp;done)))
   ·have hi':i<x.aK.length:=by omega
    have hm:=List.getElem_mem hi'
    have YJ:=Hw hm
    have hea:=vU x.aK[i]
    have hs:=hBs i hi'
    have hak:=Nv _ hm
    rw[nJ,Bool.and_eq_true,Bool.and_eq_true] at hak
    have hls:=List.sizeOf_lt_of_mem hm
    have hlb:=aJ.j3 x.aK[i]
    (repeat(with_reducible refine And.intro ?_ ?_;focus first|omega|rfl|assumption|exact⟨_,rfl,rfl⟩|(simp;omega)|(simp;done)))
    refine vP (wD [x.aK[i].bP] (by simp) 0 (L i+1)) (.cons (mo n _) .nil) ?_
    simp -implicitDefEqProofs (disch:=omega) only[go_sem]
    refine ay (wD x.aK[i].aN (by omega) 0 (L i+1+gT (aS [x.aK[i].bP]))) ?_
    simp -implicitDefEqProofs (disch:=omega) only[go_sem]
    refine ay (ih x.aK[i].fBody (by omega) (L i+1+gT (aS [x.aK[i].bP]++aS x.aK[i].aN)) hak.2.2 (by omega)) ?_
    simp -implicitDefEqProofs (disch:=omega) only[go_sem]
    (repeat(with_reducible refine And.intro ?_ ?_;focus first|omega|rfl|assumption|exact⟨_,rfl,rfl⟩|(simp;omega)|(simp;done)))
    refine ay (Pk (L i) n [(0,lx (aS [x.aK[i].bP]) (L i+1)),(0,lx (aS x.aK[i].aN) (L i+1+gT (aS [x.aK[i].bP]))),(n,[[.s (dW x.aK[i].fBody).aV,.ol (L i+1+gT (aS [x.aK[i].bP]++aS x.aK[i].aN)) (lx (dW x.aK[i].fBody).ak (L i+1+gT (aS [x.aK[i].bP]++aS x.aK[i].aN)+1))]])] (by simp) ?_ ?_) ?_
    ·intro p hp
     simp only[List.mem_cons,List.not_mem_nil,or_false] at hp
     rcases hp with rfl|rfl|rfl
     ·exact j5
     ·exact j5
     ·simp
    ·simp only[List.map_cons,List.map_nil,List.flatten_cons,List.flatten_nil,List.length_append,gI,jG,List.length_cons,List.length_nil];omega
    simp -implicitDefEqProofs (disch:=omega) only[go_sem]
    refine ay (lY _) ?_
    simp -implicitDefEqProofs (disch:=omega) only[go_sem]
    (repeat(with_reducible refine And.intro ?_ ?_;focus first|omega|rfl|assumption|exact⟨_,rfl,rfl⟩|(simp;omega)|(simp;done)))
    have hrow:[lx (aS [x.aK[i].bP]) (L i+1),lx (aS x.aK[i].aN) (L i+1+gT (aS [x.aK[i].bP])),[[.s (dW x.aK[i].fBody).aV,.ol (L i+1+gT (aS [x.aK[i].bP]++aS x.aK[i].aN)) (lx (dW x.aK[i].fBody).ak (L i+1+gT (aS [x.aK[i].bP]++aS x.aK[i].aN)+1))]]].flatten=lx ([bn x.aK[i].bP]++aS x.aK[i].aN++[dW x.aK[i].fBody]) (L i+1):=by
     have e1:[bn x.aK[i].bP]=aS [x.aK[i].bP]:=rfl
     rw[e1,jI,jI,mV (dW x.aK[i].fBody) [],pE,lH (dW x.aK[i].fBody)]
     simp only[List.flatten_cons,List.flatten_nil,List.append_nil,List.append_assoc]
    rw[hrow,hs]
    exact dA 6 (by decide) (i+1) (by omega) rfl rfl rfl rfl (by omega)
   ·have hi':i=x.aK.length:=by omega
    subst hi'
    have hr2:=hBr x.aK.length
    (repeat(with_reducible refine And.intro ?_ ?_;focus first|omega|rfl|assumption|exact⟨_,rfl,rfl⟩|(simp;omega)|(simp;done)))
    refine bq rfl (jq 0 5 _ _) ?_
    simp -implicitDefEqProofs (disch:=omega) only[go_sem]
    rw[hx,hBe,uo,hHD,eF,dX,List.append_assoc,jI (aS [iE])]
  have k7:=h
  with_reducible refine aA (fun hb=> ?_) (fun hb=> ?_)<;>have h:=hb<;>(try simp only[wf_preprocess] at h)<;>simp -implicitDefEqProofs (disch:=omega) only[go_sem,hb]<;>(repeat(with_reducible refine And.intro ?_ ?_;focus first|omega|rfl|assumption|exact⟨_,rfl,rfl⟩|(simp;omega)|(simp;done)))
  ·have hx:=iX k1 k2 k3 (by omega)
   have hh:fT x.aM x.bB x.fName x.fType=aS [nL,x.fName]:=by rw[iA h];rfl
   rw[hh] at hx uo
   (repeat(with_reducible refine And.intro ?_ ?_;focus first|omega|rfl|assumption|exact⟨_,rfl,rfl⟩|(simp;omega)|(simp;done)))
   refine bq rfl (bD.args (kr [nL,x.fName] (by simp) n (n+1) _ _) (.cons (mo n _) .nil)) ?_
   have Kc:(lx (aS [nL,x.fName]) (n+1)).length=2:=by rw[gI];rfl
   have Ke:=j5 (l:=aS [nL,x.fName]) (n:=n+1)
   simp -implicitDefEqProofs (disch:=omega) only[go_sem]
   (repeat(with_reducible refine And.intro ?_ ?_;focus first|omega|rfl|assumption|exact⟨_,rfl,rfl⟩|(simp;omega)|(simp;done)))
   refine bq rfl (jq 0 5 _ _) ?_
   simp -implicitDefEqProofs (disch:=omega) only[go_sem]
   rw[hx,hTe,uo,eF,dX,jI]
  have k8:=h
  with_reducible refine aA (fun hb=> ?_) (fun hb=> ?_)<;>have h:=hb<;>(try simp only[wf_preprocess] at h)<;>simp -implicitDefEqProofs (disch:=omega) only[go_sem,hb]<;>(repeat(with_reducible refine And.intro ?_ ?_;focus first|omega|rfl|assumption|exact⟨_,rfl,rfl⟩|(simp;omega)|(simp;done)))
  ·have hx:=iX k1 k2 k3 (by omega)
   have hh:fT x.aM x.bB x.fName x.fType=aS [rE]:=by rw[iA h];rfl
   rw[hh] at hx uo
   (repeat(with_reducible refine And.intro ?_ ?_;focus first|omega|rfl|assumption|exact⟨_,rfl,rfl⟩|(simp;omega)|(simp;done)))
   refine bq rfl (bD.args (kr [rE] (by simp) n (n+1) _ _) (.cons (mo n _) .nil)) ?_
   have Kc:(lx (aS [rE]) (n+1)).length=1:=by rw[gI];rfl
   have Ke:=j5 (l:=aS [rE]) (n:=n+1)
   simp -implicitDefEqProofs (disch:=omega) only[go_sem]
   (repeat(with_reducible refine And.intro ?_ ?_;focus first|omega|rfl|assumption|exact⟨_,rfl,rfl⟩|(simp;omega)|(simp;done)))
   refine bq rfl (jq 0 5 _ _) ?_
   simp -implicitDefEqProofs (disch:=omega) only[go_sem]
   rw[hx,hTe,uo,eF,dX,jI]
  have k9:=h
  with_reducible refine aA (fun hb=> ?_) (fun hb=> ?_)<;>have h:=hb<;>(try simp only[wf_preprocess] at h)<;>simp -implicitDefEqProofs (disch:=omega) only[go_sem,hb]<;>(repeat(with_reducible refine And.intro ?_ ?_;focus first|omega|rfl|assumption|exact⟨_,rfl,rfl⟩|(simp;omega)|(simp;done)))
  ·have hx:=iX k1 k2 k3 (by omega)
   have hh:fT x.aM x.bB x.fName x.fType=aS [x.fName]:=by rw[iA h];rfl
   rw[hh] at hx uo
   (repeat(with_reducible refine And.intro ?_ ?_;focus first|omega|rfl|assumption|exact⟨_,rfl,rfl⟩|(simp;omega)|(simp;done)))
   refine bq rfl (bD.args (kr [x.fName] (by simp) n (n+1) _ _) (.cons (mo n _) .nil)) ?_
   have Kc:(lx (aS [x.fName]) (n+1)).length=1:=by rw[gI];rfl
   have Ke:=j5 (l:=aS [x.fName]) (n:=n+1)
   simp -implicitDefEqProofs (disch:=omega) only[go_sem]
   (repeat(with_reducible refine And.intro ?_ ?_;focus first|omega|rfl|assumption|exact⟨_,rfl,rfl⟩|(simp;omega)|(simp;done)))
   refine bq rfl (jq 0 5 _ _) ?_
   simp -implicitDefEqProofs (disch:=omega) only[go_sem]
   rw[hx,hTe,uo,eF,dX,jI]
  have k10:=h
  with_reducible refine aA (fun hb=> ?_) (fun hb=> ?_)<;>have h:=hb<;>(try simp only[wf_preprocess] at h)<;>simp -implicitDefEqProofs (disch:=omega) only[go_sem,hb]<;>(repeat(with_reducible refine And.intro ?_ ?_;focus first|omega|rfl|assumption|exact⟨_,rfl,rfl⟩|(simp;omega)|(simp;done)))
  ·have hx:=iX k1 k2 k3 (by omega)
   have hh:fT x.aM x.bB x.fName x.fType=aS [kT,x.bB]:=by rw[iA h];rfl
   rw[hh] at hx uo
   (repeat(with_reducible refine And.intro ?_ ?_;focus first|omega|rfl|assumption|exact⟨_,rfl,rfl⟩|(simp;omega)|(simp;done)))
   refine bq rfl (bD.args (kr [kT,x.bB] (by simp) n (n+1) _ _) (.cons (mo n _) .nil)) ?_
   have Kc:(lx (aS [kT,x.bB]) (n+1)).length=2:=by rw[gI];rfl
   have Ke:=j5 (l:=aS [kT,x.bB]) (n:=n+1)
   simp -implicitDefEqProofs (disch:=omega) only[go_sem]
   (repeat(with_reducible refine And.intro ?_ ?_;focus first|omega|rfl|assumption|exact⟨_,rfl,rfl⟩|(simp;omega)|(simp;done)))
   refine bq rfl (jq 0 5 _ _) ?_
   simp -implicitDefEqProofs (disch:=omega) only[go_sem]
   rw[hx,hTe,uo,eF,dX,jI]
  have k11:=h
  with_reducible refine aA (fun hb=> ?_) (fun hb=> ?_)<;>have h:=hb<;>(try simp only[wf_preprocess] at h)<;>simp -implicitDefEqProofs (disch:=omega) only[go_sem,hb]<;>(repeat(with_reducible refine And.intro ?_ ?_;focus first|omega|rfl|assumption|exact⟨_,rfl,rfl⟩|(simp;omega)|(simp;done)))
  ·have hx:=iX k1 k2 k3 (by omega)
   have hh:fT x.aM x.bB x.fName x.fType=[bn oh,dB x.fType]:=by rw[iA h];rfl
   rw[hh] at hx uo
   have hty:=hfi.2.2.2.2.1
   rw[if_pos h] at hty
   refine ay (dM _ (n+1)) ?_
   simp -implicitDefEqProofs (disch:=omega) only[go_sem]
   refine ay (wZ x.fType (n+1+1) (tX hty) (by omega)) ?_
   simp -implicitDefEqProofs (disch:=omega) only[go_sem]
   (repeat(with_reducible refine And.intro ?_ ?_;focus first|omega|rfl|assumption|exact⟨_,rfl,rfl⟩|(simp;omega)|(simp;done)))
   refine bq rfl (jq 0 4 _ _) ?_
   simp -implicitDefEqProofs (disch:=omega) only[go_sem]
   rw[hx,hTe,uo,eF,dX,jI]
   simp only[mV,pE,lH,kQ,kR,mh,Sj,Vh,oh,List.cons_append,List.nil_append]
  ·have:=hfi.1
   omega
theorem Bg(x:au)(n:Nat)(hok:gK x=true)(hsz:x.sz≤4194304):aI Tryz.prog 112 [x.v] (.agg [.d (.s (dW x).aV),.d (.ol n (lx (dW x).ak (n+1)))]):=Hy _ x (Nat.lt_succ_self _) n hok hsz
end Go.Proofs.YtlmhknhlmicmeaaGreatDoor
namespace Go.Proofs.YtlmhknhlmicmeaaGreatDoor
open Go Go.Ab
theorem mq(hd:List ah)(xs:List au)(S:Store)(hA:∀t∈xs,aI Tryz.prog 108 [t.v] (dW t).v)(hl:xs.length≤4194304)(hh:hd.length≤4):bD Tryz.prog 206 [.c (.aO (hd.map ah.enc)),.c (.d (.sl (xs.map au.enc)))] S
 (fun r S'=>r=.agg [.d (.s []),.d (.sl ((hd++xs.map dW).map ah.enc))]∧S'=S):=by
 obtain⟨T,hT⟩:∃T:Nat→List (List D),T=fun i=>(hd++(xs.map dW).take i).map ah.enc:=⟨_,rfl⟩
 have hT0:T 0=hd.map ah.enc:=by rw[hT];simp only[List.take_zero,List.append_nil]
 have lV:∀i,(T i).length≤i+hd.length:=fun i=>by
  rw[hT];simp only[List.length_map,List.length_append]
  have:=List.length_take_le i (xs.map dW)
  omega
 have hTs:∀i (hi:i<xs.length),T i++[[.s (dW xs[i]).aV,.sl ((dW xs[i]).ak.map ah.enc)]]=T (i+1):=fun i hi=>by
  have:=lq (base:=hd) (l:=xs.map dW) (i:=i) (by rw[List.length_map];exact hi)
  rw[List.getElem_map] at this
  rw[hT];exact this
 have hTe:T xs.length=(hd++xs.map dW).map ah.enc:=by rw[hT];simp only;rw[List.take_of_length_le (by simp)]
 clear hT
 rw[←hT0]
 rw[←hTe]
 refine aF (rs:=[.cell 4 32]) Tryz.checked.mixed Tryz.func206 Tryz.ntmps206 rfl rfl rfl rfl rfl ?_
 simp -implicitDefEqProofs (disch:=omega) only[go_sem]
 refine Cb 1 1 2 (T 0) [.d (.s []),.aO (T 0)] rfl rfl (by rw[hT0];exact iy) ?_
 refine aX (ι:=Nat) Tryz.checked.mixed rfl [1,4,5,6] (fun i=>[.c (.d (.sl (xs.map au.enc))),.c (.ptr (0,0) 0),.c (.ptr (0,1) 0),.c (.d (.i .i64 i))])
  (fun i=>[.box [.d (.s []),.aO []],.box [.d (.s []),.bL (0,2) (T i)],.tok 2 (T i)]::S)
  (fun i=>i≤xs.length) (fun i=>xs.length-i) 0 rfl rfl (Nat.zero_le _) ?_
 intro i hi
 have hl:=lV i
 simp -implicitDefEqProofs (disch:=omega) only[go_sem]
 with_reducible refine aA (fun hb=> ?_) (fun hb=> ?_)<;>have h:=hb<;>(try simp only[wf_preprocess] at h)<;>simp -implicitDefEqProofs (disch:=omega) only[go_sem,hb]<;>(repeat(with_reducible refine And.intro ?_ ?_;focus first|omega|rfl|assumption|exact⟨_,rfl,rfl⟩|(simp;omega)|(simp;done)))
 ·have hi':i<xs.length:=by omega
  have hs:=hTs i hi'
  (repeat(with_reducible refine And.intro ?_ ?_;focus first|omega|rfl|assumption|exact⟨_,rfl,rfl⟩|(simp;omega)|(simp;done)))
  refine ay (hA xs[i] (List.getElem_mem hi')) ?_
  simp -implicitDefEqProofs (disch:=omega) only[go_sem]
  (repeat(with_reducible refine And.intro ?_ ?_;focus first|omega|rfl|assumption|exact⟨_,rfl,rfl⟩|(simp;omega)|(simp;done)))
  rw[hs]
  exact bI (i+1) (by omega) rfl rfl (by omega)
 ·have hi':i=xs.length:=by omega
  subst hi'
  rfl
theorem Nw(hd:List ah)(xs:List au)(bf:List Ab.Obj)(Ω:Store)(hA:∀t∈xs,aI Tryz.prog 108 [t.v] (dW t).v)(hl:xs.length≤4194304)(hh:hd.length≤4):bD Tryz.prog 206 [.c (.aO (hd.map ah.enc)),.c (.d (.sl (xs.map au.enc)))] (bf::Ω)
 (fun r S'=>r=.agg [.d (.s []),.bL (0,bf.length+2) ((hd++xs.map dW).map ah.enc)]∧S'=(bf++[.box [.d (.s []),.bL (0,bf.length+2) ((hd++xs.map dW).map ah.enc)],.box [.d (.s []),.bL (0,bf.length+2) ((hd++xs.map dW).map ah.enc)],.tok 2 ((hd++xs.map dW).map ah.enc)])::Ω):=by
 obtain⟨T,hT⟩:∃T:Nat→List (List D),T=fun i=>(hd++(xs.map dW).take i).map ah.enc:=⟨_,rfl⟩
 have hT0:T 0=hd.map ah.enc:=by rw[hT];simp only[List.take_zero,List.append_nil]
 have lV:∀i,(T i).length≤i+hd.length:=fun i=>by
  rw[hT];simp only[List.length_map,List.length_append]
  have:=List.length_take_le i (xs.map dW)
  omega
 have hTs:∀i (hi:i<xs.length),T i++[[.s (dW xs[i]).aV,.sl ((dW xs[i]).ak.map ah.enc)]]=T (i+1):=fun i hi=>by
  have:=lq (base:=hd) (l:=xs.map dW) (i:=i) (by rw[List.length_map];exact hi)
  rw[List.getElem_map] at this
  rw[hT];exact this
 have hTe:T xs.length=(hd++xs.map dW).map ah.enc:=by rw[hT];simp only;rw[List.take_of_length_le (by simp)]
 clear hT
 rw[←hT0]
 rw[←hTe]
 refine JG (rs:=[.cell 4 32]) Tryz.checked.mixed Tryz.func206 Tryz.ntmps206 rfl rfl rfl rfl rfl ?_
 simp -implicitDefEqProofs (disch:=omega) only[go_sem]
 refine Cb 1 1 2 (T 0) [.d (.s []),.aO (T 0)] rfl rfl (by rw[hT0];exact iy) ?_
 refine aX (ι:=Nat) Tryz.checked.mixed rfl [1,4,5,6] (fun i=>[.c (.d (.sl (xs.map au.enc))),.c (.ptr (0,0) 0),.c (.ptr (0,1) 0),.c (.d (.i .i64 i))])
  (fun i=>[.box [.d (.s []),.aO []],.box [.d (.s []),.bL (0,2) (T i)],.tok 2 (T i)]::bf::Ω)
  (fun i=>i≤xs.length) (fun i=>xs.length-i) 0 rfl rfl (Nat.zero_le _) ?_
 intro i hi
 have hl:=lV i
 simp -implicitDefEqProofs (disch:=omega) only[go_sem]
 with_reducible refine aA (fun hb=> ?_) (fun hb=> ?_)<;>have h:=hb<;>(try simp only[wf_preprocess] at h)<;>simp -implicitDefEqProofs (disch:=omega) only[go_sem,hb]<;>(repeat(with_reducible refine And.intro ?_ ?_;focus first|omega|rfl|assumption|exact⟨_,rfl,rfl⟩|(simp;omega)|(simp;done)))
 ·have hi':i<xs.length:=by omega
  have hs:=hTs i hi'
  (repeat(with_reducible refine And.intro ?_ ?_;focus first|omega|rfl|assumption|exact⟨_,rfl,rfl⟩|(simp;omega)|(simp;done)))
  refine ay (hA xs[i] (List.getElem_mem hi')) ?_
  simp -implicitDefEqProofs (disch:=omega) only[go_sem]
  (repeat(with_reducible refine And.intro ?_ ?_;focus first|omega|rfl|assumption|exact⟨_,rfl,rfl⟩|(simp;omega)|(simp;done)))
  rw[hs]
  exact bI (i+1) (by omega) rfl rfl (by omega)
 ·have hi':i=xs.length:=by omega
  subst hi'
  exact⟨rfl,rfl⟩
theorem Hz:∀N:Nat,∀x:au,SizeOf.sizeOf x<N→gK x=true→x.sz≤4194304→aI Tryz.prog 108 [x.v] (dW x).v
 |0=>fun x h=>by omega
 |N+1=>by
  have ih:=Hz N
  intro x hn hok hsz S
  have gZ:=au.fq x
  have vw:=au.kJ x
  have hzz:=rX x
  rw[sV,Bool.and_eq_true,Bool.and_eq_true] at hok
  obtain⟨hfi,hoa,Nv⟩:=hok
  have hfi:=iH hfi
  have hoa:=zw.1 hoa
  have Nv:=Bf.1 Nv
  have hA:∀t∈x.fArgs,aI Tryz.prog 108 [t.v] (dW t).v:=fun t ht=>ih t (by have:=List.sizeOf_lt_of_mem ht;omega) (hoa t ht) (by have:=Ka ht;omega)
  have hxe:=CK x
  refine aF (rs:=[.cell 2 32]) Tryz.checked.mixed Tryz.func108 Tryz.ntmps108 rfl rfl rfl rfl rfl ?_
  simp -implicitDefEqProofs (disch:=omega) only[go_sem]
  with_reducible refine aA (fun hb=> ?_) (fun hb=> ?_)<;>have h:=hb<;>(try simp only[wf_preprocess] at h)<;>simp -implicitDefEqProofs (disch:=omega) only[go_sem,hb]<;>(repeat(with_reducible refine And.intro ?_ ?_;focus first|omega|rfl|assumption|exact⟨_,rfl,rfl⟩|(simp;omega)|(simp;done)))
  ·rw[if_pos h] at hxe
   rw[hxe]
   have hb:=hfi.2.2.2.1
   rw[if_pos h] at hb
   refine ay (rY x.fN (by omega) (by omega)) ?_
   simp -implicitDefEqProofs (disch:=omega) only[go_sem]
   refine ay (bQ _) ?_
   simp -implicitDefEqProofs (disch:=omega) only[go_sem]
   rfl
  have k1:=h
  rw[if_neg h] at hxe
  with_reducible refine aA (fun hb=> ?_) (fun hb=> ?_)<;>have h:=hb<;>(try simp only[wf_preprocess] at h)<;>simp -implicitDefEqProofs (disch:=omega) only[go_sem,hb]<;>(repeat(with_reducible refine And.intro ?_ ?_;focus first|omega|rfl|assumption|exact⟨_,rfl,rfl⟩|(simp;omega)|(simp;done)))
  ·rw[if_pos h] at hxe
   rw[hxe]
   have hb:=hfi.2.2.2.1
   rw[if_neg k1,if_pos h] at hb
   rcases hb with e|e
   ·rw[e]
    simp -implicitDefEqProofs (disch:=omega) only[go_sem,List.getD_cons_zero]
    (repeat(with_reducible refine And.intro ?_ ?_;focus first|omega|rfl|assumption|exact⟨_,rfl,rfl⟩|(simp;omega)|(simp;done)))
    refine ay (bQ _) ?_
    simp -implicitDefEqProofs (disch:=omega) only[go_sem]
    rfl
   ·rw[e]
    simp -implicitDefEqProofs (disch:=omega) only[go_sem,List.getD_cons_zero,List.getD_cons_succ]
    (repeat(with_reducible refine And.intro ?_ ?_;focus first|omega|rfl|assumption|exact⟨_,rfl,rfl⟩|(simp;omega)|(simp;done)))
    refine ay (bQ _) ?_
    simp -implicitDefEqProofs (disch:=omega) only[go_sem]
    rfl
  have k2:=h
  rw[if_neg h] at hxe
  with_reducible refine aA (fun hb=> ?_) (fun hb=> ?_)<;>have h:=hb<;>(try simp only[wf_preprocess] at h)<;>simp -implicitDefEqProofs (disch:=omega) only[go_sem,hb]<;>(repeat(with_reducible refine And.intro ?_ ?_;focus first|omega|rfl|assumption|exact⟨_,rfl,rfl⟩|(simp;omega)|(simp;done)))
  ·rw[if_pos h] at hxe
   rw[hxe]
   refine ay (bQ _) ?_
   simp -implicitDefEqProofs (disch:=omega) only[go_sem]
   rfl
  have k3:=h
  clear hxe
  with_reducible refine aA (fun hb=> ?_) (fun hb=> ?_)<;>have h:=hb<;>(try simp only[wf_preprocess] at h)<;>simp -implicitDefEqProofs (disch:=omega) only[go_sem,hb]<;>(repeat(with_reducible refine And.intro ?_ ?_;focus first|omega|rfl|assumption|exact⟨_,rfl,rfl⟩|(simp;omega)|(simp;done)))
  ·have hx:=iX k1 k2 k3 (by omega)
   have hh:fT x.aM x.bB x.fName x.fType=[bn kS,bn x.fName]:=by rw[iA h];rfl
   rw[hh] at hx
   refine ay (bQ _) ?_
   simp -implicitDefEqProofs (disch:=omega) only[go_sem]
   refine ay (bQ _) ?_
   simp -implicitDefEqProofs (disch:=omega) only[go_sem]
   have hE:=fun S=>mq [bn kS,bn x.fName] x.fArgs S hA (by omega) (by simp)
   simp only[List.map_cons,List.map_nil,fI] at hE
   refine bq rfl (hE _) ?_
   simp -implicitDefEqProofs (disch:=omega) only[go_sem]
   rw[hx]
   rfl
  have k4:=h
  with_reducible refine aA (fun hb=> ?_) (fun hb=> ?_)<;>have h:=hb<;>(try simp only[wf_preprocess] at h)<;>simp -implicitDefEqProofs (disch:=omega) only[go_sem,hb]<;>(repeat(with_reducible refine And.intro ?_ ?_;focus first|omega|rfl|assumption|exact⟨_,rfl,rfl⟩|(simp;omega)|(simp;done)))
  ·have hx:=iX k1 k2 k3 (by omega)
   have hh:fT x.aM x.bB x.fName x.fType=[bn fZ,bn x.bB,bn x.fName]:=by rw[iA h];rfl
   rw[hh] at hx
   refine ay (bQ _) ?_
   simp -implicitDefEqProofs (disch:=omega) only[go_sem]
   refine ay (bQ _) ?_
   simp -implicitDefEqProofs (disch:=omega) only[go_sem]
   refine ay (bQ _) ?_
   simp -implicitDefEqProofs (disch:=omega) only[go_sem]
   have hE:=fun S=>mq [bn fZ,bn x.bB,bn x.fName] x.fArgs S hA (by omega) (by simp)
   simp only[List.map_cons,List.map_nil,fI] at hE
   refine bq rfl (hE _) ?_
   simp -implicitDefEqProofs (disch:=omega) only[go_sem]
   rw[hx]
   rfl
  have k5:=h
  with_reducible refine aA (fun hb=> ?_) (fun hb=> ?_)<;>have h:=hb<;>(try simp only[wf_preprocess] at h)<;>simp -implicitDefEqProofs (disch:=omega) only[go_sem,hb]<;>(repeat(with_reducible refine And.intro ?_ ?_;focus first|omega|rfl|assumption|exact⟨_,rfl,rfl⟩|(simp;omega)|(simp;done)))
  ·have hx:=iX k1 k2 k3 (by omega)
   have hh:fT x.aM x.bB x.fName x.fType=[bn nK,bn x.fName]:=by rw[iA h];rfl
   rw[hh] at hx
   refine ay (bQ _) ?_
   simp -implicitDefEqProofs (disch:=omega) only[go_sem]
   refine ay (bQ _) ?_
   simp -implicitDefEqProofs (disch:=omega) only[go_sem]
   have hE:=fun S=>mq [bn nK,bn x.fName] x.fArgs S hA (by omega) (by simp)
   simp only[List.map_cons,List.map_nil,fI] at hE
   refine bq rfl (hE _) ?_
   simp -implicitDefEqProofs (disch:=omega) only[go_sem]
   rw[hx]
   rfl
  have k6:=h
  with_reducible refine aA (fun hb=> ?_) (fun hb=> ?_)<;>have h:=hb<;>(try simp only[wf_preprocess] at h)<;>simp -implicitDefEqProofs (disch:=omega) only[go_sem,hb]<;>(repeat(with_reducible refine And.intro ?_ ?_;focus first|omega|rfl|assumption|exact⟨_,rfl,rfl⟩|(simp;omega)|(simp;done)))
  ·have hx:=iX k1 k2 k3 (by omega)
   have hh:fT x.aM x.bB x.fName x.fType=[bn nL,bn x.fName]:=by rw[iA h];rfl
   rw[hh] at hx
   refine ay (bQ _) ?_
   simp -implicitDefEqProofs (disch:=omega) only[go_sem]
   refine ay (bQ _) ?_
   simp -implicitDefEqProofs (disch:=omega) only[go_sem]
   have hE:=fun S=>mq [bn nL,bn x.fName] x.fArgs S hA (by omega) (by simp)
   simp only[List.map_cons,List.map_nil,fI] at hE
   refine bq rfl (hE _) ?_
   simp -implicitDefEqProofs (disch:=omega) only[go_sem]
   rw[hx]
   rfl
  have k8:=h
  with_reducible refine aA (fun hb=> ?_) (fun hb=> ?_)<;>have h:=hb<;>(try simp only[wf_preprocess] at h)<;>simp -implicitDefEqProofs (disch:=omega) only[go_sem,hb]<;>(repeat(with_reducible refine And.intro ?_ ?_;focus first|omega|rfl|assumption|exact⟨_,rfl,rfl⟩|(simp;omega)|(simp;done)))
  ·have hx:=iX k1 k2 k3 (by omega)
   have hh:fT x.aM x.bB x.fName x.fType=[bn rE]:=by rw[iA h];rfl
   rw[hh] at hx
   refine ay (bQ _) ?_
   simp -implicitDefEqProofs (disch:=omega) only[go_sem]
   have hE:=fun S=>mq [bn rE] x.fArgs S hA (by omega) (by simp)
   simp only[List.map_cons,List.map_nil,fI] at hE
   refine bq rfl (hE _) ?_
   simp -implicitDefEqProofs (disch:=omega) only[go_sem]
   rw[hx]
   rfl
  have k9:=h
  with_reducible refine aA (fun hb=> ?_) (fun hb=> ?_)<;>have h:=hb<;>(try simp only[wf_preprocess] at h)<;>simp -implicitDefEqProofs (disch:=omega) only[go_sem,hb]<;>(repeat(with_reducible refine And.intro ?_ ?_;focus first|omega|rfl|assumption|exact⟨_,rfl,rfl⟩|(simp;omega)|(simp;done)))
  ·have hx:=iX k1 k2 k3 (by omega)
   have hh:fT x.aM x.bB x.fName x.fType=[bn x.fName]:=by rw[iA h];rfl
   rw[hh] at hx
   refine ay (bQ _) ?_
   simp -implicitDefEqProofs (disch:=omega) only[go_sem]
   have hE:=fun S=>mq [bn x.fName] x.fArgs S hA (by omega) (by simp)
   simp only[List.map_cons,List.map_nil,fI] at hE
   refine bq rfl (hE _) ?_
   simp -implicitDefEqProofs (disch:=omega) only[go_sem]
   rw[hx]
   rfl
  have k10:=h
  with_reducible refine aA (fun hb=> ?_) (fun hb=> ?_)<;>have h:=hb<;>(try simp only[wf_preprocess] at h)<;>simp -implicitDefEqProofs (disch:=omega) only[go_sem,hb]<;>(repeat(with_reducible refine And.intro ?_ ?_;focus first|omega|rfl|assumption|exact⟨_,rfl,rfl⟩|(simp;omega)|(simp;done)))
  ·have hx:=iX k1 k2 k3 (by omega)
   have hh:fT x.aM x.bB x.fName x.fType=[bn kT,bn x.bB]:=by rw[iA h];rfl
   rw[hh] at hx
   refine ay (bQ _) ?_
   simp -implicitDefEqProofs (disch:=omega) only[go_sem]
   refine ay (bQ _) ?_
   simp -implicitDefEqProofs (disch:=omega) only[go_sem]
   have hE:=fun S=>mq [bn kT,bn x.bB] x.fArgs S hA (by omega) (by simp)
   simp only[List.map_cons,List.map_nil,fI] at hE
   refine bq rfl (hE _) ?_
   simp -implicitDefEqProofs (disch:=omega) only[go_sem]
   rw[hx]
   rfl
  have k11:=h
  with_reducible refine aA (fun hb=> ?_) (fun hb=> ?_)<;>have h:=hb<;>(try simp only[wf_preprocess] at h)<;>simp -implicitDefEqProofs (disch:=omega) only[go_sem,hb]<;>(repeat(with_reducible refine And.intro ?_ ?_;focus first|omega|rfl|assumption|exact⟨_,rfl,rfl⟩|(simp;omega)|(simp;done)))
  ·have hx:=iX k1 k2 k3 (by omega)
   have hh:fT x.aM x.bB x.fName x.fType=[bn oh,dB x.fType]:=by rw[iA h];rfl
   rw[hh] at hx
   refine ay (bQ _) ?_
   simp -implicitDefEqProofs (disch:=omega) only[go_sem]
   refine ay (vS x.fType (by omega)) ?_
   simp -implicitDefEqProofs (disch:=omega) only[go_sem]
   have hE:=fun S=>mq [bn oh,dB x.fType] x.fArgs S hA (by omega) (by simp)
   simp only[List.map_cons,List.map_nil,fI,ah.aH (dB x.fType)] at hE
   refine bq rfl (hE _) ?_
   simp -implicitDefEqProofs (disch:=omega) only[go_sem]
   rw[hx]
   show _=V.agg [.d (.s []),.d (.sl (List.map ah.enc (bn oh::dB x.fType::x.fArgs.map dW)))]
   simp only[List.cons_append,List.nil_append,List.map_cons,fI,ah.aH (dB x.fType)]
   rfl
  have k12:=h
  have hk7:x.aM=7:=by have:=hfi.1;omega
  have hx:=CK x
  rw[if_neg k1,if_neg k2,if_neg k3,if_neg (by omega)] at hx
  have hh:fT x.aM x.bB x.fName x.fType=[bn iE]:=by rw[iA hk7];rfl
  rw[hh] at hx
  refine ay (bQ _) ?_
  simp -implicitDefEqProofs (disch:=omega) only[go_sem]
  have hE:=fun bf Ω=>Nw [bn iE] x.fArgs bf Ω hA (by omega) (by simp)
  obtain⟨B,hB⟩:∃B:Nat→List (List D),B=fun i=>(([bn iE]++x.fArgs.map dW)++(x.aK.map um).take i).map ah.enc:=⟨_,rfl⟩
  have hB0:([bn iE]++x.fArgs.map dW).map ah.enc=B 0:=by rw[hB];simp only[List.take_zero,List.append_nil]
  have hBl:∀i,(B i).length≤i+x.fArgs.length+1:=fun i=>by
   rw[hB];simp only[List.length_append,List.length_map,List.length_cons,List.length_nil]
   have:=List.length_take_le i (x.aK.map um)
   omega
  have hBr:∀i,∀r∈B i,r.length=2:=fun i=>by rw[hB];exact iy
  have hBs:∀i (hi:i<x.aK.length),B i++[[.s [],.sl (([bn x.aK[i].bP]++aS x.aK[i].aN++[dW x.aK[i].fBody]).map ah.enc)]]=B (i+1):=fun i hi=>by
   have:=lq (base:=[bn iE]++x.fArgs.map dW) (l:=x.aK.map um) (i:=i) (by rw[List.length_map];exact hi)
   rw[List.getElem_map,Vk,eF,dX] at this
   rw[hB];exact this
  have hBe:B x.aK.length=([bn iE]++x.fArgs.map dW++x.aK.map um).map ah.enc:=by rw[hB];simp only;rw[List.take_of_length_le (by simp)]
  clear hB
  simp only[hB0] at hE
  simp only[List.map_cons,List.map_nil,fI] at hE
  refine bq rfl (hE _ _) ?_
  simp -implicitDefEqProofs (disch:=omega) only[go_sem]
  refine aX (ι:=Nat) Tryz.checked.mixed rfl [1,2,3,4] (fun i=>[.c (.ptr (0,0) 0),.c (.ptr (0,1) 0),.c (.ptr (0,5) 0),.c (.d (.i .i64 i))])
   (fun i=>[.box [.d (.i .i64 x.aM),.d (.s x.bB),.d (.s x.fName),.d (.i .i64 x.fN),.d (.i .i64 x.fType.aM),.d (.s x.fType.fName),.d (.sl (x.fType.fArgs.map aj.enc)),.d (.sl (x.fArgs.map au.enc)),.d (.sl (x.aK.map aJ.enc))],.box [.d (.s []),.aO []],.box [.d (.s []),.bL (0,4) (B 0)],.box [.d (.s []),.bL (0,4) (B 0)],.tok 2 (B i),.box [.d (.s []),.bL (0,4) (B i)]]::S)
   (fun i=>i≤x.aK.length) (fun i=>x.aK.length-i) 0 rfl rfl (Nat.zero_le _) ?_
  intro i hi
  have hl:=hBl i
  have hr:=hBr i
  simp -implicitDefEqProofs (disch:=omega) only[go_sem]
  with_reducible refine aA (fun hb=> ?_) (fun hb=> ?_)<;>have h:=hb<;>(try simp only[wf_preprocess] at h)<;>simp -implicitDefEqProofs (disch:=omega) only[go_sem,hb]<;>(repeat(with_reducible refine And.intro ?_ ?_;focus first|omega|rfl|assumption|exact⟨_,rfl,rfl⟩|(simp;omega)|(simp;done)))
  ·have hi':i<x.aK.length:=by omega
   have hm:=List.getElem_mem hi'
   have YJ:=Hw hm
   have hea:=vU x.aK[i]
   have hs:=hBs i hi'
   have hak:=Nv _ hm
   rw[nJ,Bool.and_eq_true,Bool.and_eq_true] at hak
   have hls:=List.sizeOf_lt_of_mem hm
   have hlb:=aJ.j3 x.aK[i]
   (repeat(with_reducible refine And.intro ?_ ?_;focus first|omega|rfl|assumption|exact⟨_,rfl,rfl⟩|(simp;omega)|(simp;done)))
   refine ay (bQ _) ?_
   simp -implicitDefEqProofs (disch:=omega) only[go_sem]
   (repeat(with_reducible refine And.intro ?_ ?_;focus first|omega|rfl|assumption|exact⟨_,rfl,rfl⟩|(simp;omega)|(simp;done)))
   refine ay (CF x.aK[i].aN (by omega)) ?_
   have hwr:=iy (l:=aS x.aK[i].aN)
   have hwl:(aS x.aK[i].aN).length=x.aK[i].aN.length:=by rw[jG]
   simp -implicitDefEqProofs (disch:=omega) only[go_sem]
   (repeat(with_reducible refine And.intro ?_ ?_;focus first|omega|rfl|assumption|exact⟨_,rfl,rfl⟩|(simp;omega)|(simp;done)))
   refine ay (ih x.aK[i].fBody (by omega) hak.2.2 (by omega)) ?_
   simp -implicitDefEqProofs (disch:=omega) only[go_sem]
   (repeat(with_reducible refine And.intro ?_ ?_;focus first|omega|rfl|assumption|exact⟨_,rfl,rfl⟩|(simp;omega)|(simp;done)))
   simp only[List.cons_append,List.nil_append,List.map_cons,List.map_nil,List.map_append,fI,ah.aH (dW x.aK[i].fBody)] at hs
   rw[hs]
   exact dA 6 (by decide) (i+1) (by omega) rfl rfl rfl rfl (by omega)
  ·have hi':i=x.aK.length:=by omega
   subst hi'
   rw[hx,hBe]
   rfl
theorem Db(x:au)(hok:gK x=true)(hsz:x.sz≤4194304):aI Tryz.prog 108 [x.v] (dW x).v:=Hz _ x (Nat.lt_succ_self _) hok hsz
end Go.Proofs.YtlmhknhlmicmeaaGreatDoor
namespace Go.Ab
theorem au.bounds{x:au}(h:x.sz≤4194304):x.bB.length≤4194304∧x.fName.length≤4194304∧x.fArgs.length≤4194304∧x.aK.length≤4194304∧x.fType.sz≤4194304:=by
 simp only[au.sz,au.aH,bO,bN,D.sz,List.length_map,aj.dO] at h
 omega
theorem au.arg_b{x:au}{i:Nat}(hi:i<x.fArgs.length)(h:x.sz≤4194304):x.fArgs[i].sz≤4194304:=by
 have hx:x.fArgs[i].sz≤bF (x.fArgs.map au.enc):=dP (List.mem_map_of_mem (List.getElem_mem hi))
 simp only[au.sz,au.aH,bO,bN,D.sz,List.length_map] at h
 omega
theorem au.KY{x:au}{i:Nat}(hi:i<x.aK.length)(h:x.sz≤4194304):x.aK[i].sz≤4194304:=by
 have hx:x.aK[i].sz≤bF (x.aK.map aJ.enc):=dP (List.mem_map_of_mem (List.getElem_mem hi))
 simp only[au.sz,au.aH,bO,bN,D.sz,List.length_map] at h
 omega
theorem aJ.bounds{x:aJ}(h:x.sz≤4194304):x.bP.length≤4194304∧x.aN.length≤4194304∧(∀s∈x.aN,s.length≤4194304)∧x.fBody.sz≤4194304:=by
 have hb:=aJ.IX x
 simp only[aJ.sz,aJ.aH,bO,bN,D.sz,List.length_map] at h hb
 refine⟨by omega,by omega,fun s hs=> ?_,by omega⟩
 have:=zN hs
 omega
theorem HV(k:Int):(k<1∨12<k)∨k=1∨k=2∨k=3∨k=4∨k=5∨k=6∨k=7∨k=8∨k=9∨k=10∨k=11∨k=12:=by omega
end Go.Ab
namespace Go.Proofs.YtlmhknhlmicmeaaGreatDoor
open Go Go.Ab
set_option maxHeartbeats 8000000 in
theorem Ny(x:au)(hsz:x.sz≤4194304)(hc:x.fArgs.length≤300):aI Tryz.prog 282 [x.v] (.c (.d (.b (dec (pW x))))):=fun S=>by
 have hb0:=au.bounds hsz
 have hz:yT x.fType→qE x.fType=false:=GV
 rcases HV x.aM with hk|hk|hk|hk|hk|hk|hk|hk|hk|hk|hk|hk|hk
 ·have h1:¬pW x:=fun h=>by have:=h.1;omega
  refine aF (rs:=[.tmp 2]) Tryz.checked.mixed Tryz.func282 Tryz.ntmps282 rfl rfl rfl rfl rfl ?_
  simp -implicitDefEqProofs (disch:=omega) only[go_sem]
  refine ay (Ey x.aM) ?_
  simp -implicitDefEqProofs (disch:=omega) only[go_sem]<;>(repeat(with_reducible refine And.intro ?_ ?_;focus first|omega|rfl|assumption|exact⟨_,rfl,rfl⟩|(simp;omega)|(simp;done)))
  with_reducible refine aA (fun hb=> ?_) (fun hb=> ?_)<;>have h:=hb<;>(try simp only[wf_preprocess] at h)<;>simp -implicitDefEqProofs (disch:=omega) only[go_sem,hb]<;>(repeat(with_reducible refine And.intro ?_ ?_;focus first|omega|rfl|assumption|exact⟨_,rfl,rfl⟩|(simp;omega)|(simp;done)))
  ·exact aD (aL h1).symm
  with_reducible refine aA (fun hb=> ?_) (fun hb=> ?_)<;>have h:=hb<;>(try simp only[wf_preprocess] at h)<;>simp -implicitDefEqProofs (disch:=omega) only[go_sem,hb]<;>(repeat(with_reducible refine And.intro ?_ ?_;focus first|omega|rfl|assumption|exact⟨_,rfl,rfl⟩|(simp;omega)|(simp;done)))
  ·exact aD (aL h1).symm
  ·omega
 all_goals
  refine aF (rs:=[.tmp 2]) Tryz.checked.mixed Tryz.func282 Tryz.ntmps282 rfl rfl rfl rfl rfl ?_
  simp -implicitDefEqProofs (disch:=omega) only[go_sem,hk]
  refine ay (Ey _) ?_
  simp -implicitDefEqProofs (disch:=omega) only[go_sem,hk,Sc,Sd]
  repeat' (first
   |with_reducible refine aA (fun hb=> ?_) (fun hb=> ?_)<;>have h:=hb<;>(try simp only[wf_preprocess] at h)<;>simp -implicitDefEqProofs (disch:=omega) only[go_sem,hb,hk]<;>(repeat(with_reducible refine And.intro ?_ ?_;focus first|omega|rfl|assumption|exact⟨_,rfl,rfl⟩|(simp;omega)|(simp;done)))
   |((with_reducible show kP _ _ 168 _ _ _ _);refine ay (jy x.fName (by omega)) ?_;simp -implicitDefEqProofs (disch:=omega) only[go_sem,hk])
   |((with_reducible show kP _ _ 168 _ _ _ _);refine ay (jy x.bB (by omega)) ?_;simp -implicitDefEqProofs (disch:=omega) only[go_sem,hk])
   |((with_reducible show kP _ _ 328 _ _ _ _);refine ay (Kv x.fName) ?_;simp -implicitDefEqProofs (disch:=omega) only[go_sem,hk])
   |((with_reducible show kP _ _ 238 _ _ _ _);refine ay (Kw x.fType) ?_;simp -implicitDefEqProofs (disch:=omega) only[go_sem,hk])
   |((with_reducible show kP _ _ 295 _ _ _ _);refine ay (yc x.fType (by omega)) ?_;simp -implicitDefEqProofs (disch:=omega) only[go_sem,hk])
   |(refine aD (Bool.eq_iff_iff.2 ?_);simp only[vk,pW,hk];grind [iH,qB,bC,aL]))
end Go.Proofs.YtlmhknhlmicmeaaGreatDoor
