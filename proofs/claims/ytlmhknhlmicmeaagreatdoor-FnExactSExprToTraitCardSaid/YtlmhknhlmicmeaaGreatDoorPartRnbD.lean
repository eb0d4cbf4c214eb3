/-
  SEVERAL TEXTS IN ONE (merged by program): contracts and models, each with its own heading.
-/
import Derived.Test.YtlmhknhlmicmeaaGreatDoorPartRnbC
import Derived.Lib.ItoaNum
import Derived.Lib.Atoi
import Derived.Shelf.LaysM
import Derived.Shelf.Strconv.Itoa3
import Derived.Test.YtlmhknhlmicmeaaGreatDoorProg
set_option linter.unusedSimpArgs false
set_option linter.unusedVariables false
set_option maxRecDepth 4000
namespace Go.Proofs.YtlmhknhlmicmeaaGreatDoor
open Go Go.Ab
theorem zM(n a b:Int):aI Tryz.prog 245 [.c (.d (.i .i64 n)),.c (.d (.i .i64 a)),.c (.d (.i .i64 b))] (.c (.d (.b (dec (a≤n∧n≤b))))):=fun S=>by
 refine aF (rs:=[.tmp 6]) Tryz.checked.mixed Tryz.func245 Tryz.ntmps245 rfl rfl rfl rfl rfl ?_
 simp -implicitDefEqProofs (disch:=omega) only[go_sem]
 with_reducible refine aA (fun hb=> ?_) (fun hb=> ?_)<;>have h:=hb<;>(try simp only[wf_preprocess] at h)<;>simp -implicitDefEqProofs (disch:=omega) only[go_sem,hb]<;>(repeat(with_reducible refine And.intro ?_ ?_;focus first|omega|rfl|assumption|exact⟨_,rfl,rfl⟩|(simp;omega)|(simp;done)))
 ·exact aD (by rw[iN];exact iq ⟨fun x=>⟨by omega,x⟩,fun x=>x.2⟩)
 ·exact aD (aL (by omega)).symm
theorem nI(xs:List (List UInt8))(s:List UInt8)(hl:xs.length≤1073741824):aI Tryz.prog 135 [.c (.d (.sl (xs.map encS))),.c (.d (.s s))] (.c (.d (.b (dec (s∈xs))))):=fun S=>by
 refine aF (rs:=[.tmp 4]) Tryz.checked.mixed Tryz.func135 Tryz.ntmps135 rfl rfl rfl rfl rfl ?_
 simp -implicitDefEqProofs (disch:=omega) only[go_sem,encS]
 refine aX (ι:=Nat) Tryz.checked.mixed rfl [0,1,5] (fun i=>[.c (.d (.sl (xs.map encS))),.c (.d (.s s)),.c (.d (.i .i64 i))]) (fun _=>[]::S)
  (fun i=>i≤xs.length∧∀j,j<i→∀h:j<xs.length,xs[j]≠s) (fun i=>xs.length-i) 0 rfl rfl ⟨Nat.zero_le _,fun j h=>by omega⟩ ?_
 rintro i ⟨p1,p2⟩
 simp -implicitDefEqProofs (disch:=omega) only[go_sem,encS]
 with_reducible refine aA (fun hb=> ?_) (fun hb=> ?_)<;>have h:=hb<;>(try simp only[wf_preprocess] at h)<;>simp -implicitDefEqProofs (disch:=omega) only[go_sem,hb,encS]<;>(repeat(with_reducible refine And.intro ?_ ?_;focus first|omega|rfl|assumption|exact⟨_,rfl,rfl⟩|(simp;omega)|(simp;done)))
 ·have hi:i<xs.length:=by omega
  with_reducible refine aA (fun hb=> ?_) (fun hb=> ?_)<;>have h:=hb<;>(try simp only[wf_preprocess] at h)<;>simp -implicitDefEqProofs (disch:=omega) only[go_sem,hb,encS]<;>(repeat(with_reducible refine And.intro ?_ ?_;focus first|omega|rfl|assumption|exact⟨_,rfl,rfl⟩|(simp;omega)|(simp;done)))
  ·exact aD (bC (by rw[←h];exact List.getElem_mem hi)).symm
  ·refine bI (i+1) (by omega) rfl rfl ⟨by omega,fun j hj hl=> ?_⟩
   by_cases e:j=i
   ·subst e;exact h
   ·exact p2 j (by omega) hl
 ·refine aD (aL fun hm=> ?_).symm
  obtain⟨j,h1,h2⟩:=List.getElem_of_mem hm
  exact p2 j (by omega) h1 h2
theorem U4(xs:List (List UInt8))(s:List UInt8)(hl:xs.length≤1073741824):aI Tryz.prog 266 [.c (.d (.sl (xs.map encS))),.c (.d (.s s))] (.c (.d (.i .i64 (xX xs s)))):=fun S=>by
 refine aF (rs:=[.tmp 4]) Tryz.checked.mixed Tryz.func266 Tryz.ntmps266 rfl rfl rfl rfl rfl ?_
 simp -implicitDefEqProofs (disch:=omega) only[go_sem,encS]
 refine aX (ι:=Nat) Tryz.checked.mixed rfl [0,1,7,8] (fun i=>[.c (.d (.sl (xs.map encS))),.c (.d (.s s)),.c (.d (.i .i64 xs.length)),.c (.d (.i .i64 i))]) (fun _=>[]::S)
  (fun i=>i≤xs.length∧∀j,j<i→xs.getD j []≠s) (fun i=>xs.length-i) 0 rfl rfl ⟨Nat.zero_le _,fun j h=>by omega⟩ ?_
 rintro i ⟨p1,p2⟩
 simp -implicitDefEqProofs (disch:=omega) only[go_sem,encS]
 with_reducible refine aA (fun hb=> ?_) (fun hb=> ?_)<;>have h:=hb<;>(try simp only[wf_preprocess] at h)<;>simp -implicitDefEqProofs (disch:=omega) only[go_sem,hb,encS]<;>(repeat(with_reducible refine And.intro ?_ ?_;focus first|omega|rfl|assumption|exact⟨_,rfl,rfl⟩|(simp;omega)|(simp;done)))
 ·have hi:i<xs.length:=by omega
  have e:xs.getD i []=xs[i]:=by simp[List.getD,hi]
  with_reducible refine aA (fun hb=> ?_) (fun hb=> ?_)<;>have h:=hb<;>(try simp only[wf_preprocess] at h)<;>simp -implicitDefEqProofs (disch:=omega) only[go_sem,hb,encS]<;>(repeat(with_reducible refine And.intro ?_ ?_;focus first|omega|rfl|assumption|exact⟨_,rfl,rfl⟩|(simp;omega)|(simp;done)))
  ·rw[OI hi p2 (by rw[e];exact h.symm)]
  ·refine bI (i+1) (by omega) rfl rfl ⟨by omega,fun j hj=> ?_⟩
   by_cases e':j=i
   ·subst e';rw[e];exact fun x=>h x.symm
   ·exact p2 j (by omega)
 ·rw[UN (fun j hj=>p2 j (by omega))]
theorem mK(xs:List (List UInt8))(s:List UInt8)(hl:xs.length≤1073741824):aI Tryz.prog 231 [.c (.d (.sl (xs.map encS))),.c (.d (.s s))] (.c (.d (.b (dec (s∈xs))))):=fun S=>by
 refine aF (rs:=[.tmp 4]) Tryz.checked.mixed Tryz.func231 Tryz.ntmps231 rfl rfl rfl rfl rfl ?_
 simp -implicitDefEqProofs (disch:=omega) only[go_sem]
 refine ay (U4 xs s hl) ?_
 simp -implicitDefEqProofs (disch:=omega) only[go_sem]<;>(repeat(with_reducible refine And.intro ?_ ?_;focus first|omega|rfl|assumption|exact⟨_,rfl,rfl⟩|(simp;omega)|(simp;done)))
 exact aD RJ
theorem Gt(s:List UInt8):aI Tryz.prog 246 [.c (.d (.s s))] (.c (.d (.b (dec (s∈reserved))))):=fun S=>by
 refine aF (rs:=[.tmp 2]) Tryz.checked.mixed Tryz.func246 Tryz.ntmps246 rfl rfl rfl rfl rfl ?_
 simp -implicitDefEqProofs (disch:=omega) only[go_sem]
 (repeat(with_reducible refine And.intro ?_ ?_;focus first|omega|rfl|assumption|exact⟨_,rfl,rfl⟩|(simp;omega)|(simp;done)))
 refine ay (nI reserved s (by decide)) ?_
 simp -implicitDefEqProofs (disch:=omega) only[go_sem]<;>(repeat(with_reducible refine And.intro ?_ ?_;focus first|omega|rfl|assumption|exact⟨_,rfl,rfl⟩|(simp;omega)|(simp;done)))
theorem Gu(s:List UInt8):aI Tryz.prog 263 [.c (.d (.s s))] (.c (.d (.b (dec (s∈reserved))))):=fun S=>by
 refine aF (rs:=[.tmp 2]) Tryz.checked.mixed Tryz.func263 Tryz.ntmps263 rfl rfl rfl rfl rfl ?_
 simp -implicitDefEqProofs (disch:=omega) only[go_sem]
 (repeat(with_reducible refine And.intro ?_ ?_;focus first|omega|rfl|assumption|exact⟨_,rfl,rfl⟩|(simp;omega)|(simp;done)))
 refine ay (mK reserved s (by decide)) ?_
 simp -implicitDefEqProofs (disch:=omega) only[go_sem]<;>(repeat(with_reducible refine And.intro ?_ ?_;focus first|omega|rfl|assumption|exact⟨_,rfl,rfl⟩|(simp;omega)|(simp;done)))
theorem Gv(b:UInt8):aI Tryz.prog 261 [.c (.d (.i .u8 b.toNat))] (.c (.d (.b (dec (lowerB b))))):=fun S=>by
 refine aF (rs:=[.tmp 2]) Tryz.checked.mixed Tryz.func261 Tryz.ntmps261 rfl rfl rfl rfl rfl ?_
 simp -implicitDefEqProofs (disch:=omega) only[go_sem]
 with_reducible refine aA (fun hb=> ?_) (fun hb=> ?_)<;>have h:=hb<;>(try simp only[wf_preprocess] at h)<;>simp -implicitDefEqProofs (disch:=omega) only[go_sem,hb]<;>(repeat(with_reducible refine And.intro ?_ ?_;focus first|omega|rfl|assumption|exact⟨_,rfl,rfl⟩|(simp;omega)|(simp;done)))
 ·exact aD (by rw[iN];exact iq ⟨fun x=>⟨by omega,by omega⟩,fun x=>by have:=x.2;omega⟩)
 ·exact aD (aL fun x=>by have:=x.1;omega).symm
theorem Gw(b:UInt8):aI Tryz.prog 262 [.c (.d (.i .u8 b.toNat))] (.c (.d (.b (dec (ni b))))):=fun S=>by
 refine aF (rs:=[.tmp 2]) Tryz.checked.mixed Tryz.func262 Tryz.ntmps262 rfl rfl rfl rfl rfl ?_
 simp -implicitDefEqProofs (disch:=omega) only[go_sem]
 with_reducible refine aA (fun hb=> ?_) (fun hb=> ?_)<;>have h:=hb<;>(try simp only[wf_preprocess] at h)<;>simp -implicitDefEqProofs (disch:=omega) only[go_sem,hb]<;>(repeat(with_reducible refine And.intro ?_ ?_;focus first|omega|rfl|assumption|exact⟨_,rfl,rfl⟩|(simp;omega)|(simp;done)))
 ·exact aD (by rw[iN];exact iq ⟨fun x=>⟨by omega,by omega⟩,fun x=>by have:=x.2;omega⟩)
 ·exact aD (aL fun x=>by have:=x.1;omega).symm
theorem jy(s:List UInt8)(hl:s.length≤1073741824):aI Tryz.prog 168 [.c (.d (.s s))] (.c (.d (.b (validName s)))):=fun S=>by
 refine aF (rs:=[.tmp 2]) Tryz.checked.mixed Tryz.func168 Tryz.ntmps168 rfl rfl rfl rfl rfl ?_
 simp -implicitDefEqProofs (disch:=omega) only[go_sem]
 refine aX (ι:=Nat) Tryz.checked.mixed rfl [0,5,6] (fun i=>[.c (.d (.s s)),.c (.d (.i .i64 s.length)),.c (.d (.i .i64 i))]) (fun _=>[]::S)
  (fun i=>i≤s.length∧∀j,j<i→lowerB (s.getD j 0)∨(j≠0∧ni (s.getD j 0))) (fun i=>s.length-i) 0 rfl rfl ⟨Nat.zero_le _,fun j h=>by omega⟩ ?_
 rintro i ⟨p1,p2⟩
 have next:i<s.length→(lowerB (s.getD i 0)∨(i≠0∧ni (s.getD i 0)))→∀j,j<i+1→lowerB (s.getD j 0)∨(j≠0∧ni (s.getD j 0)):=fun hi h j hj=>by
  by_cases e:j=i
  ·subst e;exact h
  ·exact p2 j (by omega)
 have bad:i<s.length→¬(lowerB (s.getD i 0)∨(i≠0∧ni (s.getD i 0)))→validName s=false:=fun hi h=>aL fun x=>h (x.2.2 i hi)
 simp -implicitDefEqProofs (disch:=omega) only[go_sem]
 with_reducible refine aA (fun hb=> ?_) (fun hb=> ?_)<;>have h:=hb<;>(try simp only[wf_preprocess] at h)<;>simp -implicitDefEqProofs (disch:=omega) only[go_sem,hb]<;>(repeat(with_reducible refine And.intro ?_ ?_;focus first|omega|rfl|assumption|exact⟨_,rfl,rfl⟩|(simp;omega)|(simp;done)))
 ·have hi:i<s.length:=by omega
  (repeat(with_reducible refine And.intro ?_ ?_;focus first|omega|rfl|assumption|exact⟨_,rfl,rfl⟩|(simp;omega)|(simp;done)))
  refine ay (Gv (s.getD i 0)) ?_
  simp -implicitDefEqProofs (disch:=omega) only[go_sem]<;>(repeat(with_reducible refine And.intro ?_ ?_;focus first|omega|rfl|assumption|exact⟨_,rfl,rfl⟩|(simp;omega)|(simp;done)))
  with_reducible refine aA (fun hb=> ?_) (fun hb=> ?_)<;>have h:=hb<;>(try simp only[wf_preprocess] at h)<;>simp -implicitDefEqProofs (disch:=omega) only[go_sem,hb]<;>(repeat(with_reducible refine And.intro ?_ ?_;focus first|omega|rfl|assumption|exact⟨_,rfl,rfl⟩|(simp;omega)|(simp;done)))
  ·have nl:=h
   with_reducible refine aA (fun hb=> ?_) (fun hb=> ?_)<;>have h:=hb<;>(try simp only[wf_preprocess] at h)<;>simp -implicitDefEqProofs (disch:=omega) only[go_sem,hb]<;>(repeat(with_reducible refine And.intro ?_ ?_;focus first|omega|rfl|assumption|exact⟨_,rfl,rfl⟩|(simp;omega)|(simp;done)))
   ·have i0:i=0:=by omega
    rw[bad hi (fun x=>x.elim nl fun y=>y.1 i0)]
   ·have ne:=h
    (repeat(with_reducible refine And.intro ?_ ?_;focus first|omega|rfl|assumption|exact⟨_,rfl,rfl⟩|(simp;omega)|(simp;done)))
    refine ay (Gw (s.getD i 0)) ?_
    simp -implicitDefEqProofs (disch:=omega) only[go_sem]<;>(repeat(with_reducible refine And.intro ?_ ?_;focus first|omega|rfl|assumption|exact⟨_,rfl,rfl⟩|(simp;omega)|(simp;done)))
    with_reducible refine aA (fun hb=> ?_) (fun hb=> ?_)<;>have h:=hb<;>(try simp only[wf_preprocess] at h)<;>simp -implicitDefEqProofs (disch:=omega) only[go_sem,hb]<;>(repeat(with_reducible refine And.intro ?_ ?_;focus first|omega|rfl|assumption|exact⟨_,rfl,rfl⟩|(simp;omega)|(simp;done)))
    ·rw[bad hi (fun x=>x.elim nl fun y=>h y.2)]
    ·exact bI (i+1) (by omega) rfl rfl ⟨by omega,next hi (.inr ⟨by omega,h⟩)⟩
  ·exact bI (i+1) (by omega) rfl rfl ⟨by omega,next hi (.inl h)⟩
 ·have hn:Mw s:=fun j hj=>p2 j (by omega)
  have h0:∀b,dec (s∈reserved)=b→∀c,decide ((s.length:Int)≥1)=c→∀d,decide ((s.length:Int)≤8)=d→validName s=(c&&d&& !b):=by
   rintro b rfl c rfl d rfl
   unfold validName
   rw[Bool.eq_iff_iff]
   simp only[vk,Bool.and_eq_true,decide_eq_true_eq,Bool.not_eq_true',Ce]
   exact⟨fun x=>⟨⟨by omega,by omega⟩,x.2.1⟩,fun x=>⟨⟨by omega,by omega⟩,x.2,hn⟩⟩
  with_reducible refine aA (fun hb=> ?_) (fun hb=> ?_)<;>have h:=hb<;>(try simp only[wf_preprocess] at h)<;>simp -implicitDefEqProofs (disch:=omega) only[go_sem,hb]<;>(repeat(with_reducible refine And.intro ?_ ?_;focus first|omega|rfl|assumption|exact⟨_,rfl,rfl⟩|(simp;omega)|(simp;done)))
  ·have c1:=hb
   with_reducible refine aA (fun hb=> ?_) (fun hb=> ?_)<;>have h:=hb<;>(try simp only[wf_preprocess] at h)<;>simp -implicitDefEqProofs (disch:=omega) only[go_sem,hb]<;>(repeat(with_reducible refine And.intro ?_ ?_;focus first|omega|rfl|assumption|exact⟨_,rfl,rfl⟩|(simp;omega)|(simp;done)))
   ·refine ay (Gu s) ?_
    simp -implicitDefEqProofs (disch:=omega) only[go_sem]<;>(repeat(with_reducible refine And.intro ?_ ?_;focus first|omega|rfl|assumption|exact⟨_,rfl,rfl⟩|(simp;omega)|(simp;done)))
    exact aD (by rw[h0 _ rfl _ c1 _ hb];simp)
   ·exact aD (by rw[h0 _ rfl _ c1 _ hb];simp)
  ·exact aD (by rw[h0 _ rfl _ hb _ rfl];simp)
theorem jA(s:List UInt8)(hl:s.length≤1073741824):aI Tryz.prog 152 [.c (.d (.s s))] (.c (.d (.b (validName s)))):=fun S=>by
 have bad:¬Mw s→validName s=false:=fun h=>aL fun x=>h x.2.2
 refine aF (rs:=[.tmp 2]) Tryz.checked.mixed Tryz.func152 Tryz.ntmps152 rfl rfl rfl rfl rfl ?_
 simp -implicitDefEqProofs (disch:=omega) only[go_sem]
 refine ay (zM s.length 1 8) ?_
 simp -implicitDefEqProofs (disch:=omega) only[go_sem]<;>(repeat(with_reducible refine And.intro ?_ ?_;focus first|omega|rfl|assumption|exact⟨_,rfl,rfl⟩|(simp;omega)|(simp;done)))
 with_reducible refine aA (fun hb=> ?_) (fun hb=> ?_)<;>have h:=hb<;>(try simp only[wf_preprocess] at h)<;>simp -implicitDefEqProofs (disch:=omega) only[go_sem,hb]<;>(repeat(with_reducible refine And.intro ?_ ?_;focus first|omega|rfl|assumption|exact⟨_,rfl,rfl⟩|(simp;omega)|(simp;done)))
 ·rw[show validName s=false from aL fun x=>h (by omega)]
 have hlen:=h
 refine ay (Gt s) ?_
 simp -implicitDefEqProofs (disch:=omega) only[go_sem]<;>(repeat(with_reducible refine And.intro ?_ ?_;focus first|omega|rfl|assumption|exact⟨_,rfl,rfl⟩|(simp;omega)|(simp;done)))
 with_reducible refine aA (fun hb=> ?_) (fun hb=> ?_)<;>have h:=hb<;>(try simp only[wf_preprocess] at h)<;>simp -implicitDefEqProofs (disch:=omega) only[go_sem,hb]<;>(repeat(with_reducible refine And.intro ?_ ?_;focus first|omega|rfl|assumption|exact⟨_,rfl,rfl⟩|(simp;omega)|(simp;done)))
 ·rw[show validName s=false from aL fun x=>x.2.1 h]
 have hres:=h
 refine aX (ι:=Nat) Tryz.checked.mixed rfl [0,3] (fun i=>[.c (.d (.s s)),.c (.d (.i .i64 i))]) (fun _=>[]::S)
  (fun i=>i≤s.length∧∀j,j<i→lowerB (s.getD j 0)∨(j≠0∧ni (s.getD j 0))) (fun i=>s.length-i) 0 rfl rfl ⟨Nat.zero_le _,fun j h=>by omega⟩ ?_
 rintro i ⟨p1,p2⟩
 have next:i<s.length→(lowerB (s.getD i 0)∨(i≠0∧ni (s.getD i 0)))→∀j,j<i+1→lowerB (s.getD j 0)∨(j≠0∧ni (s.getD j 0)):=fun hi h j hj=>by
  by_cases e:j=i
  ·subst e;exact h
  ·exact p2 j (by omega)
 simp -implicitDefEqProofs (disch:=omega) only[go_sem]
 with_reducible refine aA (fun hb=> ?_) (fun hb=> ?_)<;>have h:=hb<;>(try simp only[wf_preprocess] at h)<;>simp -implicitDefEqProofs (disch:=omega) only[go_sem,hb]<;>(repeat(with_reducible refine And.intro ?_ ?_;focus first|omega|rfl|assumption|exact⟨_,rfl,rfl⟩|(simp;omega)|(simp;done)))
 ·have hi:i<s.length:=by omega
  have bad':¬(lowerB (s.getD i 0)∨(i≠0∧ni (s.getD i 0)))→validName s=false:=fun h=>bad fun x=>h (x i hi)
  have next:=next hi
  unfold lowerB ni at bad' next
  all_goals try(with_reducible refine aA (fun hb=> ?_) (fun hb=> ?_)<;>have h:=hb<;>(try simp only[wf_preprocess] at h)<;>simp -implicitDefEqProofs (disch:=omega) only[go_sem,hb]<;>(repeat(with_reducible refine And.intro ?_ ?_;focus first|omega|rfl|assumption|exact⟨_,rfl,rfl⟩|(simp;omega)|(simp;done))))
  all_goals try(with_reducible refine aA (fun hb=> ?_) (fun hb=> ?_)<;>have h:=hb<;>(try simp only[wf_preprocess] at h)<;>simp -implicitDefEqProofs (disch:=omega) only[go_sem,hb]<;>(repeat(with_reducible refine And.intro ?_ ?_;focus first|omega|rfl|assumption|exact⟨_,rfl,rfl⟩|(simp;omega)|(simp;done))))
  all_goals try(with_reducible refine aA (fun hb=> ?_) (fun hb=> ?_)<;>have h:=hb<;>(try simp only[wf_preprocess] at h)<;>simp -implicitDefEqProofs (disch:=omega) only[go_sem,hb]<;>(repeat(with_reducible refine And.intro ?_ ?_;focus first|omega|rfl|assumption|exact⟨_,rfl,rfl⟩|(simp;omega)|(simp;done))))
  all_goals try(with_reducible refine aA (fun hb=> ?_) (fun hb=> ?_)<;>have h:=hb<;>(try simp only[wf_preprocess] at h)<;>simp -implicitDefEqProofs (disch:=omega) only[go_sem,hb]<;>(repeat(with_reducible refine And.intro ?_ ?_;focus first|omega|rfl|assumption|exact⟨_,rfl,rfl⟩|(simp;omega)|(simp;done))))
  all_goals try(with_reducible refine aA (fun hb=> ?_) (fun hb=> ?_)<;>have h:=hb<;>(try simp only[wf_preprocess] at h)<;>simp -implicitDefEqProofs (disch:=omega) only[go_sem,hb]<;>(repeat(with_reducible refine And.intro ?_ ?_;focus first|omega|rfl|assumption|exact⟨_,rfl,rfl⟩|(simp;omega)|(simp;done))))
  all_goals try(with_reducible refine aA (fun hb=> ?_) (fun hb=> ?_)<;>have h:=hb<;>(try simp only[wf_preprocess] at h)<;>simp -implicitDefEqProofs (disch:=omega) only[go_sem,hb]<;>(repeat(with_reducible refine And.intro ?_ ?_;focus first|omega|rfl|assumption|exact⟨_,rfl,rfl⟩|(simp;omega)|(simp;done))))
  all_goals first
   |exact bI (i+1) (by omega) rfl rfl ⟨by omega,next (by omega)⟩
   |exact aD (bad' (by omega)).symm
 ·rw[show validName s=true from bC ⟨by omega,hres,fun j hj=>p2 j (by omega)⟩]
theorem U5(s:List UInt8):aI Tryz.prog 346 [.c (.d (.s s))] (.c (.d (.b (rT s)))):=fun S=>by
 refine aF (rs:=[.tmp 2]) Tryz.checked.mixed Tryz.func346 Tryz.ntmps346 rfl rfl rfl rfl rfl ?_
 simp -implicitDefEqProofs (disch:=omega) only[go_sem]
 with_reducible refine aA (fun hb=> ?_) (fun hb=> ?_)<;>have h:=hb<;>(try simp only[wf_preprocess] at h)<;>simp -implicitDefEqProofs (disch:=omega) only[go_sem,hb]<;>(repeat(with_reducible refine And.intro ?_ ?_;focus first|omega|rfl|assumption|exact⟨_,rfl,rfl⟩|(simp;omega)|(simp;done)))
 ·exact aD (bC (.inl h)).symm
 ·exact aD (by rw[iN];exact iq ⟨fun x=>.inr x,fun x=>x.resolve_left h⟩)
theorem MU(s:List UInt8):aI Tryz.prog 351 [.c (.d (.s s))] (.c (.d (.b (rT s)))):=fun S=>by
 refine aF (rs:=[.tmp 2]) Tryz.checked.mixed Tryz.func351 Tryz.ntmps351 rfl rfl rfl rfl rfl ?_
 simp -implicitDefEqProofs (disch:=omega) only[go_sem]
 with_reducible refine aA (fun hb=> ?_) (fun hb=> ?_)<;>have h:=hb<;>(try simp only[wf_preprocess] at h)<;>simp -implicitDefEqProofs (disch:=omega) only[go_sem,hb]<;>(repeat(with_reducible refine And.intro ?_ ?_;focus first|omega|rfl|assumption|exact⟨_,rfl,rfl⟩|(simp;omega)|(simp;done)))
 ·exact aD (bC (.inl h)).symm
 ·exact aD (by rw[iN];exact iq ⟨fun x=>.inr x,fun x=>x.resolve_left h⟩)
end Go.Proofs.YtlmhknhlmicmeaaGreatDoor
namespace Go.Proofs.YtlmhknhlmicmeaaGreatDoor
open Go Go.Ab
theorem qK{x:aj}{i:Nat}(hi:i<x.fArgs.length)(h:x.sz≤4194304):x.fArgs[i].sz≤4194304∧x.fArgs.length≤4194304∧x.fName.length≤4194304:=by
 have hx:x.fArgs[i].sz≤bF (x.fArgs.map aj.enc):=dP (List.mem_map_of_mem (List.getElem_mem hi))
 simp only[aj.sz,aj.aH,bO,D.sz,List.length_map] at h
 omega
theorem yP{x:aj}(h:x.sz≤4194304):x.fArgs.length≤4194304∧x.fName.length≤4194304:=by
 simp only[aj.sz,aj.aH,bO,D.sz,List.length_map] at h
 omega
theorem jH:∀{ts:List aj} {i:Nat} (hi:i<ts.length),aj.bY (ts.drop i)=ts[i].cnt+aj.bY (ts.drop (i+1)):=fun {ts} {i} hi=>by
 rw[List.drop_eq_getElem_cons hi,aj.bY]
theorem Es:∀{ts:List aj} {i:Nat} (hi:i<ts.length),depths (ts.drop i)=max (jS ts[i]+1) (depths (ts.drop (i+1))):=fun {ts} {i} hi=>by
 rw[List.drop_eq_getElem_cons hi,depths]
theorem MV:∀{ts:List aj} {i:Nat} (hi:i<ts.length),gD (ts.drop i)=(formed ts[i]&&gD (ts.drop (i+1))):=fun {ts} {i} hi=>by
 rw[List.drop_eq_getElem_cons hi,gD]
theorem Gx:∀n:Nat,∀x:aj,SizeOf.sizeOf x<n→∀l:Int,0≤l→l≤1073741824→x.sz≤4194304→aI Tryz.prog 323 [x.v,.c (.d (.i .i64 l))] (.c (.d (.i .i64 (iG l x.cnt))))
 |0=>fun x h=>by omega
 |n+1=>by
  have ih:=Gx n
  intro x hn l h0 h1 hsz S
  have gZ:=aj.fq x
  have hts:=yP hsz
  have hcn:=aj.lS x
  refine aF (rs:=[.tmp 4]) Tryz.checked.mixed Tryz.func323 Tryz.ntmps323 rfl rfl rfl rfl rfl ?_
  simp -implicitDefEqProofs (disch:=omega) only[go_sem]
  refine aX (ι:=Nat×Int) Tryz.checked.mixed rfl [1,2,5] (fun y=>[.c (.d (.i .i64 y.2)),.c (.ptr (0,0) 0),.c (.d (.i .i64 y.1))]) (fun y=>[.box [.d (.i .i64 x.aM),.d (.s x.fName),.d (.sl (x.fArgs.map aj.enc))]]::S)
   (fun y=>y.1≤x.fArgs.length∧ -1≤y.2∧y.2≤1073741824∧(0≤y.2→iG l x.cnt=iG y.2 (aj.bY (x.fArgs.drop y.1)))∧(y.2<0→iG l x.cnt= -1)) (fun y=>x.fArgs.length-y.1) (0,l-1) rfl rfl ⟨Nat.zero_le _,by simp only;omega,by simp only;omega,fun h=> ?_,fun h=> ?_⟩ ?_
  ·simp only[List.drop_zero] at h ⊢
   unfold iG
   rw[hcn]
   split<;>split<;>omega
  ·simp only at h
   exact sF (by omega)
  rintro⟨i,c⟩ ⟨p1,p2,p3,p4,p5⟩
  simp only at p1 p2 p3 p4 p5
  simp -implicitDefEqProofs (disch:=omega) only[go_sem]
  with_reducible refine aA (fun hb=> ?_) (fun hb=> ?_)<;>have h:=hb<;>(try simp only[wf_preprocess] at h)<;>simp -implicitDefEqProofs (disch:=omega) only[go_sem,hb]<;>(repeat(with_reducible refine And.intro ?_ ?_;focus first|omega|rfl|assumption|exact⟨_,rfl,rfl⟩|(simp;omega)|(simp;done)))
  ·have hi:i<x.fArgs.length:=by omega
   with_reducible refine aA (fun hb=> ?_) (fun hb=> ?_)<;>have h:=hb<;>(try simp only[wf_preprocess] at h)<;>simp -implicitDefEqProofs (disch:=omega) only[go_sem,hb]<;>(repeat(with_reducible refine And.intro ?_ ?_;focus first|omega|rfl|assumption|exact⟨_,rfl,rfl⟩|(simp;omega)|(simp;done)))
   ·have hsz':=qK hi hsz
    have p6:=p4 h
    rw[jH hi] at p6
    (repeat(with_reducible refine And.intro ?_ ?_;focus first|omega|rfl|assumption|exact⟨_,rfl,rfl⟩|(simp;omega)|(simp;done)))
    refine ay (ih x.fArgs[i] (by have:=List.sizeOf_lt_of_mem (List.getElem_mem hi);omega) c (by omega) (by omega) (by omega)) ?_
    simp -implicitDefEqProofs (disch:=omega) only[go_sem]<;>(repeat(with_reducible refine And.intro ?_ ?_;focus first|omega|rfl|assumption|exact⟨_,rfl,rfl⟩|(simp;omega)|(simp;done)))
    refine bI (i+1,iG c _) (by simp only;omega) rfl rfl ⟨by simp only;omega,?_,?_,fun h=> ?_,fun h=> ?_⟩
    ·simp only;unfold iG;split<;>omega
    ·simp only;unfold iG;split<;>omega
    ·simp only at h ⊢
     rw[p6]
     have:=uJ (l:=c) (a:=x.fArgs[i].cnt) (by omega)
     rw[this.1]
     unfold iG
     split<;>split<;>omega
    ·simp only at h ⊢
     rw[p6]
     have:=uK h
     exact sF (by omega)
   ·have hc:c= -1:=by omega
    rw[p5 (by omega),hc]
  ·have hi:i=x.fArgs.length:=by omega
   by_cases hc:0≤c
   ·rw[p4 hc,hi,List.drop_length,aj.bY,Aq (by omega)]
    exact int_eq (by simp)
   ·rw[p5 (by omega)]
    exact int_eq (by omega)
theorem U6(x:aj)(l:Int)(h0:0≤l)(h1:l≤1073741824)(hsz:x.sz≤4194304):aI Tryz.prog 323 [x.v,.c (.d (.i .i64 l))] (.c (.d (.i .i64 (iG l x.cnt)))):=Gx _ x (Nat.lt_succ_self _) l h0 h1 hsz
theorem MW(a b:Int):aI Tryz.prog 276 [.c (.d (.i .i64 a)),.c (.d (.i .i64 b))] (.c (.d (.i .i64 (max a b)))):=fun S=>by
 refine aF (rs:=[.tmp 4]) Tryz.checked.mixed Tryz.func276 Tryz.ntmps276 rfl rfl rfl rfl rfl ?_
 simp -implicitDefEqProofs (disch:=omega) only[go_sem]
 with_reducible refine aA (fun hb=> ?_) (fun hb=> ?_)<;>have h:=hb<;>(try simp only[wf_preprocess] at h)<;>simp -implicitDefEqProofs (disch:=omega) only[go_sem,hb]<;>(repeat(with_reducible refine And.intro ?_ ?_;focus first|omega|rfl|assumption|exact⟨_,rfl,rfl⟩|(simp;omega)|(simp;done)))
 ·exact int_eq (by omega)
 ·exact int_eq (by omega)
theorem Bw:∀n:Nat,∀x:aj,SizeOf.sizeOf x<n→x.sz≤4194304→aI Tryz.prog 324 [x.v] (.c (.d (.i .i64 (jS x))))
 |0=>fun x h=>by omega
 |n+1=>by
  have ih:=Bw n
  intro x hn hsz S
  have gZ:=aj.fq x
  have hts:=yP hsz
  have hd1:=vN x
  have hd2:=jR x
  refine aF (rs:=[.tmp 2]) Tryz.checked.mixed Tryz.func324 Tryz.ntmps324 rfl rfl rfl rfl rfl ?_
  simp -implicitDefEqProofs (disch:=omega) only[go_sem]
  refine aX (ι:=Nat×Nat) Tryz.checked.mixed rfl [1,3,4] (fun y=>[.c (.ptr (0,0) 0),.c (.d (.i .i64 y.2)),.c (.d (.i .i64 y.1))]) (fun y=>[.box [.d (.i .i64 x.aM),.d (.s x.fName),.d (.sl (x.fArgs.map aj.enc))]]::S)
   (fun y=>y.1≤x.fArgs.length∧jS x=max y.2 (depths (x.fArgs.drop y.1))) (fun y=>x.fArgs.length-y.1) (0,0) rfl rfl ⟨Nat.zero_le _,by simp[Jz]⟩ ?_
  rintro⟨i,c⟩ ⟨p1,p2⟩
  simp only at p1 p2
  simp -implicitDefEqProofs (disch:=omega) only[go_sem]
  with_reducible refine aA (fun hb=> ?_) (fun hb=> ?_)<;>have h:=hb<;>(try simp only[wf_preprocess] at h)<;>simp -implicitDefEqProofs (disch:=omega) only[go_sem,hb]<;>(repeat(with_reducible refine And.intro ?_ ?_;focus first|omega|rfl|assumption|exact⟨_,rfl,rfl⟩|(simp;omega)|(simp;done)))
  ·have hi:i<x.fArgs.length:=by omega
   have hsz':=qK hi hsz
   rw[Es hi] at p2
   have hd3:=vN x.fArgs[i]
   have hd4:=jR x.fArgs[i]
   (repeat(with_reducible refine And.intro ?_ ?_;focus first|omega|rfl|assumption|exact⟨_,rfl,rfl⟩|(simp;omega)|(simp;done)))
   refine ay (ih x.fArgs[i] (by have:=List.sizeOf_lt_of_mem (List.getElem_mem hi);omega) (by omega)) ?_
   simp -implicitDefEqProofs (disch:=omega) only[go_sem]<;>(repeat(with_reducible refine And.intro ?_ ?_;focus first|omega|rfl|assumption|exact⟨_,rfl,rfl⟩|(simp;omega)|(simp;done)))
   refine ay (MW _ _) ?_
   simp -implicitDefEqProofs (disch:=omega) only[go_sem]<;>(repeat(with_reducible refine And.intro ?_ ?_;focus first|omega|rfl|assumption|exact⟨_,rfl,rfl⟩|(simp;omega)|(simp;done)))
   rw[show max (c:Int) (1+(jS x.fArgs[i]:Int))=((max c (1+jS x.fArgs[i]):Nat):Int) by omega]
   exact bI (i+1,max c (1+jS x.fArgs[i])) (by simp only;omega) rfl rfl ⟨by simp only;omega,by simp only;omega⟩
  ·have hi:i=x.fArgs.length:=by omega
   rw[hi,List.drop_length,depths] at p2
   exact int_eq (by omega)
theorem MX(x:aj)(hsz:x.sz≤4194304):aI Tryz.prog 324 [x.v] (.c (.d (.i .i64 (jS x)))):=Bw _ x (Nat.lt_succ_self _) hsz
theorem Bz:∀n:Nat,∀x:aj,SizeOf.sizeOf x<n→x.sz≤4194304→aI Tryz.prog 336 [x.v] (.c (.d (.i .i64 (jS x))))
 |0=>fun x h=>by omega
 |n+1=>by
  have ih:=Bz n
  intro x hn hsz S
  have gZ:=aj.fq x
  have hts:=yP hsz
  have hd1:=vN x
  have hd2:=jR x
  refine aF (rs:=[.tmp 2]) Tryz.checked.mixed Tryz.func336 Tryz.ntmps336 rfl rfl rfl rfl rfl ?_
  simp -implicitDefEqProofs (disch:=omega) only[go_sem]
  refine aX (ι:=Nat×Nat) Tryz.checked.mixed rfl [3,7,8,9] (fun y=>[.c (.d (.i .i64 y.2)),.c (.d (.sl (x.fArgs.map aj.enc))),.c (.d (.i .i64 x.fArgs.length)),.c (.d (.i .i64 y.1))]) (fun y=>[.box [.d (.i .i64 x.aM),.d (.s x.fName),.d (.sl (x.fArgs.map aj.enc))]]::S)
   (fun y=>y.1≤x.fArgs.length∧jS x=max y.2 (depths (x.fArgs.drop y.1))) (fun y=>x.fArgs.length-y.1) (0,0) rfl rfl ⟨Nat.zero_le _,by simp[Jz]⟩ ?_
  rintro⟨i,c⟩ ⟨p1,p2⟩
  simp only at p1 p2
  simp -implicitDefEqProofs (disch:=omega) only[go_sem]
  with_reducible refine aA (fun hb=> ?_) (fun hb=> ?_)<;>have h:=hb<;>(try simp only[wf_preprocess] at h)<;>simp -implicitDefEqProofs (disch:=omega) only[go_sem,hb]<;>(repeat(with_reducible refine And.intro ?_ ?_;focus first|omega|rfl|assumption|exact⟨_,rfl,rfl⟩|(simp;omega)|(simp;done)))
  ·have hi:i<x.fArgs.length:=by omega
   have hsz':=qK hi hsz
   rw[Es hi] at p2
   have hd3:=vN x.fArgs[i]
   have hd4:=jR x.fArgs[i]
   (repeat(with_reducible refine And.intro ?_ ?_;focus first|omega|rfl|assumption|exact⟨_,rfl,rfl⟩|(simp;omega)|(simp;done)))
   refine ay (ih x.fArgs[i] (by have:=List.sizeOf_lt_of_mem (List.getElem_mem hi);omega) (by omega)) ?_
   simp -implicitDefEqProofs (disch:=omega) only[go_sem]<;>(repeat(with_reducible refine And.intro ?_ ?_;focus first|omega|rfl|assumption|exact⟨_,rfl,rfl⟩|(simp;omega)|(simp;done)))
   rw[show max (c:Int) ((jS x.fArgs[i]:Int)+1)=((max c (jS x.fArgs[i]+1):Nat):Int) by omega]
   exact dA 1 (by decide) (i+1,max c (jS x.fArgs[i]+1)) (by simp only;omega) rfl rfl rfl rfl ⟨by simp only;omega,by simp only;omega⟩
  ·have hi:i=x.fArgs.length:=by omega
   rw[hi,List.drop_length,depths] at p2
   exact int_eq (by omega)
theorem MZ(x:aj)(hsz:x.sz≤4194304):aI Tryz.prog 336 [x.v] (.c (.d (.i .i64 (jS x)))):=Bz _ x (Nat.lt_succ_self _) hsz
theorem Cq:∀n:Nat,∀x:aj,SizeOf.sizeOf x<n→x.sz≤4194304→aI Tryz.prog 337 [x.v] (.c (.d (.i .i64 x.cnt)))
 |0=>fun x h=>by omega
 |n+1=>by
  have ih:=Cq n
  intro x hn hsz S
  have gZ:=aj.fq x
  have hts:=yP hsz
  have hd2:=jR x
  refine aF (rs:=[.tmp 2]) Tryz.checked.mixed Tryz.func337 Tryz.ntmps337 rfl rfl rfl rfl rfl ?_
  simp -implicitDefEqProofs (disch:=omega) only[go_sem]
  refine aX (ι:=Nat×Nat) Tryz.checked.mixed rfl [3,7,8,9] (fun y=>[.c (.d (.i .i64 y.2)),.c (.d (.sl (x.fArgs.map aj.enc))),.c (.d (.i .i64 x.fArgs.length)),.c (.d (.i .i64 y.1))]) (fun y=>[.box [.d (.i .i64 x.aM),.d (.s x.fName),.d (.sl (x.fArgs.map aj.enc))]]::S)
   (fun y=>y.1≤x.fArgs.length∧x.cnt=y.2+aj.bY (x.fArgs.drop y.1)) (fun y=>x.fArgs.length-y.1) (0,1) rfl rfl ⟨Nat.zero_le _,by simp[aj.lS]⟩ ?_
  rintro⟨i,c⟩ ⟨p1,p2⟩
  simp only at p1 p2
  simp -implicitDefEqProofs (disch:=omega) only[go_sem]
  with_reducible refine aA (fun hb=> ?_) (fun hb=> ?_)<;>have h:=hb<;>(try simp only[wf_preprocess] at h)<;>simp -implicitDefEqProofs (disch:=omega) only[go_sem,hb]<;>(repeat(with_reducible refine And.intro ?_ ?_;focus first|omega|rfl|assumption|exact⟨_,rfl,rfl⟩|(simp;omega)|(simp;done)))
  ·have hi:i<x.fArgs.length:=by omega
   have hsz':=qK hi hsz
   rw[jH hi] at p2
   (repeat(with_reducible refine And.intro ?_ ?_;focus first|omega|rfl|assumption|exact⟨_,rfl,rfl⟩|(simp;omega)|(simp;done)))
   refine ay (ih x.fArgs[i] (by have:=List.sizeOf_lt_of_mem (List.getElem_mem hi);omega) (by omega)) ?_
   simp -implicitDefEqProofs (disch:=omega) only[go_sem]<;>(repeat(with_reducible refine And.intro ?_ ?_;focus first|omega|rfl|assumption|exact⟨_,rfl,rfl⟩|(simp;omega)|(simp;done)))
   rw[show(c:Int)+(x.fArgs[i].cnt:Int)=((c+x.fArgs[i].cnt:Nat):Int) by omega]
   exact dA 1 (by decide) (i+1,c+x.fArgs[i].cnt) (by simp only;omega) rfl rfl rfl rfl ⟨by simp only;omega,by simp only;omega⟩
  ·have hi:i=x.fArgs.length:=by omega
   rw[hi,List.drop_length,aj.bY] at p2
   exact int_eq (by omega)
theorem OQ(x:aj)(hsz:x.sz≤4194304):aI Tryz.prog 337 [x.v] (.c (.d (.i .i64 x.cnt))):=Cq _ x (Nat.lt_succ_self _) hsz
theorem Cr:∀n:Nat,(∀x:aj,SizeOf.sizeOf x<n→x.sz≤4194304→aI Tryz.prog 335 [x.v] (.c (.d (.b (formed x)))))∧
 (∀xs:List aj,SizeOf.sizeOf xs<n→xs.length≤4194304→(∀t∈xs,t.sz≤4194304)→aI Tryz.prog 293 [.c (.d (.sl (xs.map aj.enc))),.c (.fn 352 [])] (.c (.d (.b (!gD xs)))))
 |0=>⟨fun x h=>by omega,fun x h=>by omega⟩
 |n+1=>by
  obtain⟨ih,lF⟩:=Cr n
  refine⟨fun x hn hsz S=> ?_,fun xs hn hlen hsz S=> ?_⟩
  ·have gZ:=aj.fq x
   have hts:=yP hsz
   have fin:∀b,wW x.aM x.fName x.fArgs.length=b→formed x=(b&&gD x.fArgs):=fun b hb=>by rw[←hb];exact vM x
   have hall:∀t∈x.fArgs,t.sz≤4194304:=fun t ht=>by
    obtain⟨i,hi,e⟩:=List.getElem_of_mem ht
    rw[←e];exact(qK hi hsz).1
   have tail:=lF x.fArgs (by omega) hts.1 hall
   have yes:wW x.aM x.fName x.fArgs.length=true→formed x= !(!gD x.fArgs):=fun h=>by rw[fin _ h];simp
   have no:wW x.aM x.fName x.fArgs.length=false→formed x=false:=fun h=>by rw[fin _ h];simp
   have shut:¬((x.aM=1∨x.aM=4)∧validName x.fName=true∧x.fArgs.length=0∨x.aM=3∧validName x.fName=true∧x.fArgs.length=1∨x.aM=2∧(validName x.fName=true∧x.fArgs.length≤3∨rT x.fName=true∧x.fArgs.length=0))→V.c (.d (.b false))=V.c (.d (.b (formed x))):=fun h=>aD (no (aL h)).symm
   have open_:((x.aM=1∨x.aM=4)∧validName x.fName=true∧x.fArgs.length=0∨x.aM=3∧validName x.fName=true∧x.fArgs.length=1∨x.aM=2∧(validName x.fName=true∧x.fArgs.length≤3∨rT x.fName=true∧x.fArgs.length=0))→V.c (.d (.b (!(!gD x.fArgs))))=V.c (.d (.b (formed x))):=fun h=>aD (yes (bC h)).symm
   clear yes no fin
   refine aF (rs:=[.tmp 2]) Tryz.checked.mixed Tryz.func335 Tryz.ntmps335 rfl rfl rfl rfl rfl ?_
   simp -implicitDefEqProofs (disch:=omega) only[go_sem]
   repeat' (first
    |(with_reducible refine aA (fun hb=> ?_) (fun hb=> ?_)<;>have h:=hb<;>(try simp only[wf_preprocess] at h)<;>simp -implicitDefEqProofs (disch:=omega) only[go_sem,hb]<;>(repeat(with_reducible refine And.intro ?_ ?_;focus first|omega|rfl|assumption|exact⟨_,rfl,rfl⟩|(simp;omega)|(simp;done))))
    |(refine ay (jy x.fName (by omega)) ?_;simp -implicitDefEqProofs (disch:=omega) only[go_sem])
    |(refine ay (MU x.fName) ?_;simp -implicitDefEqProofs (disch:=omega) only[go_sem])
    |(refine ay tail ?_;simp -implicitDefEqProofs (disch:=omega) only[go_sem]))
   all_goals first
    |(refine shut (fun y=> ?_);rcases y with⟨_,_,_⟩|⟨_,_,_⟩|⟨_,⟨_,_⟩|⟨_,_⟩⟩<;>first|omega|(simp_all;done))
    |(refine open_ ?_;first
       |exact .inl ⟨by omega,by assumption,by omega⟩
       |exact .inr (.inl ⟨by omega,by assumption,by omega⟩)
       |exact .inr (.inr ⟨by omega,.inl ⟨by assumption,by omega⟩⟩)
       |exact .inr (.inr ⟨by omega,.inr ⟨by assumption,by omega⟩⟩))
  ·have hcl:∀y∈xs,aI Tryz.prog 352 [y.v] (.c (.d (.b (!formed y)))):=fun y hy S=>by
    have hys:=List.sizeOf_lt_of_mem hy
    refine aF (rs:=[.tmp 2]) Tryz.checked.mixed Tryz.func352 Tryz.ntmps352 rfl rfl rfl rfl rfl ?_
    simp -implicitDefEqProofs (disch:=omega) only[go_sem]
    refine ay (ih y (by omega) (hsz y hy)) ?_
    simp -implicitDefEqProofs (disch:=omega) only[go_sem]<;>(repeat(with_reducible refine And.intro ?_ ?_;focus first|omega|rfl|assumption|exact⟨_,rfl,rfl⟩|(simp;omega)|(simp;done)))
   have hidx:aI Tryz.prog 334 [.c (.d (.sl (xs.map aj.enc))),.c (.fn 352 [])] (.c (.d (.i .i64 (oZ (fun y=> !formed y) xs)))):=fun S=>by
    refine aF (rs:=[.tmp 4]) Tryz.checked.mixed Tryz.func334 Tryz.ntmps334 rfl rfl rfl rfl rfl ?_
    simp -implicitDefEqProofs (disch:=omega) only[go_sem]
    refine aX (ι:=Nat) Tryz.checked.mixed rfl [0,1,7,8] (fun i=>[.c (.d (.sl (xs.map aj.enc))),.c (.fn 352 []),.c (.d (.i .i64 xs.length)),.c (.d (.i .i64 i))]) (fun _=>[]::S)
     (fun i=>i≤xs.length∧∀j,∀hj:j<xs.length,j<i→formed xs[j]=true) (fun i=>xs.length-i) 0 rfl rfl ⟨Nat.zero_le _,fun j _ h=>by omega⟩ ?_
    rintro i ⟨p1,p2⟩
    simp -implicitDefEqProofs (disch:=omega) only[go_sem]
    with_reducible refine aA (fun hb=> ?_) (fun hb=> ?_)<;>have h:=hb<;>(try simp only[wf_preprocess] at h)<;>simp -implicitDefEqProofs (disch:=omega) only[go_sem,hb]<;>(repeat(with_reducible refine And.intro ?_ ?_;focus first|omega|rfl|assumption|exact⟨_,rfl,rfl⟩|(simp;omega)|(simp;done)))
    ·have hi:i<xs.length:=by omega
     (repeat(with_reducible refine And.intro ?_ ?_;focus first|omega|rfl|assumption|exact⟨_,rfl,rfl⟩|(simp;omega)|(simp;done)))
     refine ay (hcl xs[i] (List.getElem_mem hi)) ?_
     simp -implicitDefEqProofs (disch:=omega) only[go_sem]<;>(repeat(with_reducible refine And.intro ?_ ?_;focus first|omega|rfl|assumption|exact⟨_,rfl,rfl⟩|(simp;omega)|(simp;done)))
     with_reducible refine aA (fun hb=> ?_) (fun hb=> ?_)<;>have h:=hb<;>(try simp only[wf_preprocess] at h)<;>simp -implicitDefEqProofs (disch:=omega) only[go_sem,hb]<;>(repeat(with_reducible refine And.intro ?_ ?_;focus first|omega|rfl|assumption|exact⟨_,rfl,rfl⟩|(simp;omega)|(simp;done)))
     ·rw[pU hi (fun j hj hji=>by rw[p2 j hj hji];rfl) (by rw[h];rfl)]
     ·refine bI (i+1) (by omega) rfl rfl ⟨by omega,fun j hj hji=> ?_⟩
      by_cases e:j=i
      ·subst e;exact h
      ·exact p2 j hj (by omega)
    ·rw[sJ (fun j hj=>by rw[p2 j hj (by omega)];rfl)]
   refine aF (rs:=[.tmp 4]) Tryz.checked.mixed Tryz.func293 Tryz.ntmps293 rfl rfl rfl rfl rfl ?_
   simp -implicitDefEqProofs (disch:=omega) only[go_sem]
   refine ay (hidx) ?_
   simp -implicitDefEqProofs (disch:=omega) only[go_sem]<;>(repeat(with_reducible refine And.intro ?_ ?_;focus first|omega|rfl|assumption|exact⟨_,rfl,rfl⟩|(simp;omega)|(simp;done)))
   rw[←Ei]
   exact aD qQ
theorem OT(x:aj)(hsz:x.sz≤4194304):aI Tryz.prog 335 [x.v] (.c (.d (.b (formed x)))):=(Cr _).1 x (Nat.lt_succ_self _) hsz
theorem yc(x:aj)(hsz:x.sz≤4194304):aI Tryz.prog 295 [x.v] (.c (.d (.b (qE x)))):=fun S=>by
 refine aF (rs:=[.tmp 2]) Tryz.checked.mixed Tryz.func295 Tryz.ntmps295 rfl rfl rfl rfl rfl ?_
 simp -implicitDefEqProofs (disch:=omega) only[go_sem]
 refine ay (OT x hsz) ?_
 simp -implicitDefEqProofs (disch:=omega) only[go_sem]<;>(repeat(with_reducible refine And.intro ?_ ?_;focus first|omega|rfl|assumption|exact⟨_,rfl,rfl⟩|(simp;omega)|(simp;done)))
 with_reducible refine aA (fun hb=> ?_) (fun hb=> ?_)<;>have h:=hb<;>(try simp only[wf_preprocess] at h)<;>simp -implicitDefEqProofs (disch:=omega) only[go_sem,hb]<;>(repeat(with_reducible refine And.intro ?_ ?_;focus first|omega|rfl|assumption|exact⟨_,rfl,rfl⟩|(simp;omega)|(simp;done)))
 ·have h1:=h
  refine ay (MZ x hsz) ?_
  simp -implicitDefEqProofs (disch:=omega) only[go_sem]<;>(repeat(with_reducible refine And.intro ?_ ?_;focus first|omega|rfl|assumption|exact⟨_,rfl,rfl⟩|(simp;omega)|(simp;done)))
  with_reducible refine aA (fun hb=> ?_) (fun hb=> ?_)<;>have h:=hb<;>(try simp only[wf_preprocess] at h)<;>simp -implicitDefEqProofs (disch:=omega) only[go_sem,hb]<;>(repeat(with_reducible refine And.intro ?_ ?_;focus first|omega|rfl|assumption|exact⟨_,rfl,rfl⟩|(simp;omega)|(simp;done)))
  ·refine ay (OQ x hsz) ?_
   simp -implicitDefEqProofs (disch:=omega) only[go_sem]<;>(repeat(with_reducible refine And.intro ?_ ?_;focus first|omega|rfl|assumption|exact⟨_,rfl,rfl⟩|(simp;omega)|(simp;done)))
   exact aD (by rw[iN];exact iq ⟨fun y=>⟨h1,by omega,by omega⟩,fun y=>by have:=y.2.2;omega⟩)
  ·exact aD (aL fun y=>by have:=y.2.1;omega).symm
 ·exact aD (aL fun y=>by rw[y.1] at h;cases h).symm
set_option maxHeartbeats 1000000 in
theorem Gy:∀n:Nat,∀x:aj,SizeOf.sizeOf x<n→x.sz≤4194304→aI Tryz.prog 325 [x.v] (.c (.d (.b (formed x))))
 |0=>fun x h=>by omega
 |n+1=>by
  have ih:=Gy n
  intro x hn hsz S
  have gZ:=aj.fq x
  have hts:=yP hsz
  have shut:¬((x.aM=1∨x.aM=4)∧validName x.fName=true∧x.fArgs.length=0∨x.aM=3∧validName x.fName=true∧x.fArgs.length=1∨x.aM=2∧(validName x.fName=true∧x.fArgs.length≤3∨rT x.fName=true∧x.fArgs.length=0))→V.c (.d (.b false))=V.c (.d (.b (formed x))):=fun h=>aD (by rw[vM,show wW x.aM x.fName x.fArgs.length=false from aL h];rfl)
  have ad8:∀b:Bool,(b=true↔((x.aM=1∨x.aM=4)∧validName x.fName=true∧x.fArgs.length=0∨x.aM=3∧validName x.fName=true∧x.fArgs.length=1∨x.aM=2∧(validName x.fName=true∧x.fArgs.length≤3∨rT x.fName=true∧x.fArgs.length=0)))→b=wW x.aM x.fName x.fArgs.length:=fun b h=>by
   rw[Bool.eq_iff_iff,h]
   unfold wW
   rw[vk]
  refine aF (rs:=[.tmp 2]) Tryz.checked.mixed Tryz.func325 Tryz.ntmps325 rfl rfl rfl rfl rfl ?_
  simp -implicitDefEqProofs (disch:=omega) only[go_sem]
  refine ay (jA x.fName (by omega)) ?_
  simp -implicitDefEqProofs (disch:=omega) only[go_sem]<;>(repeat(with_reducible refine And.intro ?_ ?_;focus first|omega|rfl|assumption|exact⟨_,rfl,rfl⟩|(simp;omega)|(simp;done)))
  repeat' (first
   |(with_reducible refine aA (fun hb=> ?_) (fun hb=> ?_)<;>have h:=hb<;>(try simp only[wf_preprocess] at h)<;>simp -implicitDefEqProofs (disch:=omega) only[go_sem,hb]<;>(repeat(with_reducible refine And.intro ?_ ?_;focus first|omega|rfl|assumption|exact⟨_,rfl,rfl⟩|(simp;omega)|(simp;done))))
   |(refine ay (U5 x.fName) ?_;simp -implicitDefEqProofs (disch:=omega) only[go_sem]))
  all_goals first
   |(refine shut (fun y=> ?_);rcases y with⟨_,_,_⟩|⟨_,_,_⟩|⟨_,⟨_,_⟩|⟨_,_⟩⟩<;>first|omega|(simp_all;done))
   |skip
  all_goals
   refine aX (ι:=Nat×Bool) Tryz.checked.mixed rfl [1,3,4] (fun y=>[.c (.ptr (0,0) 0),.c (.d (.b y.2)),.c (.d (.i .i64 y.1))]) (fun y=>[.box [.d (.i .i64 x.aM),.d (.s x.fName),.d (.sl (x.fArgs.map aj.enc))]]::S)
    (fun y=>y.1≤x.fArgs.length∧(y.2&&gD (x.fArgs.drop y.1))=formed x) (fun y=>x.fArgs.length-y.1) (0,wW x.aM x.fName x.fArgs.length) ?_ rfl ⟨Nat.zero_le _,by rw[vM];rfl⟩ ?_
   ·simp only[List.map_cons,List.map_nil]
    simp -implicitDefEqProofs (disch:=omega) only[go_sem,List.cons.injEq,V.c.injEq,C.d.injEq,D.b.injEq,Int.natCast_zero]
    refine ad8 _ ⟨fun y=> ?_,fun y=> ?_⟩
    ·(try simp only[decide_eq_true_eq,Bool.false_eq_true] at y)<;>first
       |exact .inl ⟨by omega,by assumption,by omega⟩
       |exact .inr (.inl ⟨by omega,by assumption,by omega⟩)
       |exact .inr (.inr ⟨by omega,.inl ⟨by assumption,by omega⟩⟩)
       |exact .inr (.inr ⟨by omega,.inr ⟨by assumption,by omega⟩⟩)
    ·rcases y with⟨_,_,_⟩|⟨_,_,_⟩|⟨_,⟨_,_⟩|⟨_,_⟩⟩<;>first|omega|(simp only[decide_eq_true_eq];omega)|(simp_all;done)
   rintro⟨i,c⟩ ⟨p1,p2⟩
   simp only at p1 p2
   simp -implicitDefEqProofs (disch:=omega) only[go_sem]
   with_reducible refine aA (fun hb=> ?_) (fun hb=> ?_)<;>have h:=hb<;>(try simp only[wf_preprocess] at h)<;>simp -implicitDefEqProofs (disch:=omega) only[go_sem,hb]<;>(repeat(with_reducible refine And.intro ?_ ?_;focus first|omega|rfl|assumption|exact⟨_,rfl,rfl⟩|(simp;omega)|(simp;done)))
   ·have hi:i<x.fArgs.length:=by omega
    have hsz':=qK hi hsz
    rw[MV hi] at p2
    with_reducible refine aA (fun hb=> ?_) (fun hb=> ?_)<;>have h:=hb<;>(try simp only[wf_preprocess] at h)<;>simp -implicitDefEqProofs (disch:=omega) only[go_sem,hb]<;>(repeat(with_reducible refine And.intro ?_ ?_;focus first|omega|rfl|assumption|exact⟨_,rfl,rfl⟩|(simp;omega)|(simp;done)))
    ·refine ay (ih x.fArgs[i] (by have:=List.sizeOf_lt_of_mem (List.getElem_mem hi);omega) (by omega)) ?_
     simp -implicitDefEqProofs (disch:=omega) only[go_sem]
     exact bI (i+1,formed x.fArgs[i]) (by simp only;omega) rfl rfl ⟨by simp only;omega,by rw[←p2,h];rfl⟩
    ·exact bI (i+1,false) (by simp only;omega) rfl rfl ⟨by simp only;omega,by rw[←p2,h];rfl⟩
   ·have hi:i=x.fArgs.length:=by omega
    rw[hi,List.drop_length,gD,Bool.and_true] at p2
    rw[p2]
theorem U7(x:aj)(hsz:x.sz≤4194304):aI Tryz.prog 325 [x.v] (.c (.d (.b (formed x)))):=Gy _ x (Nat.lt_succ_self _) hsz
theorem yg(x:aj)(hsz:x.sz≤4194304):aI Tryz.prog 280 [x.v] (.c (.d (.b (qE x)))):=fun S=>by
 refine aF (rs:=[.tmp 2]) Tryz.checked.mixed Tryz.func280 Tryz.ntmps280 rfl rfl rfl rfl rfl ?_
 simp -implicitDefEqProofs (disch:=omega) only[go_sem]
 refine ay (U6 x 60 (by omega) (by omega) hsz) ?_
 simp -implicitDefEqProofs (disch:=omega) only[go_sem]<;>(repeat(with_reducible refine And.intro ?_ ?_;focus first|omega|rfl|assumption|exact⟨_,rfl,rfl⟩|(simp;omega)|(simp;done)))
 with_reducible refine aA (fun hb=> ?_) (fun hb=> ?_)<;>have h:=hb<;>(try simp only[wf_preprocess] at h)<;>simp -implicitDefEqProofs (disch:=omega) only[go_sem,hb]<;>(repeat(with_reducible refine And.intro ?_ ?_;focus first|omega|rfl|assumption|exact⟨_,rfl,rfl⟩|(simp;omega)|(simp;done)))
 ·have h1:=(uJ (l:=60) (a:=x.cnt) (by omega)).2
  refine ay (MX x hsz) ?_
  simp -implicitDefEqProofs (disch:=omega) only[go_sem]<;>(repeat(with_reducible refine And.intro ?_ ?_;focus first|omega|rfl|assumption|exact⟨_,rfl,rfl⟩|(simp;omega)|(simp;done)))
  with_reducible refine aA (fun hb=> ?_) (fun hb=> ?_)<;>have h:=hb<;>(try simp only[wf_preprocess] at h)<;>simp -implicitDefEqProofs (disch:=omega) only[go_sem,hb]<;>(repeat(with_reducible refine And.intro ?_ ?_;focus first|omega|rfl|assumption|exact⟨_,rfl,rfl⟩|(simp;omega)|(simp;done)))
  ·refine ay (U7 x hsz) ?_
   simp -implicitDefEqProofs (disch:=omega) only[go_sem]<;>(repeat(with_reducible refine And.intro ?_ ?_;focus first|omega|rfl|assumption|exact⟨_,rfl,rfl⟩|(simp;omega)|(simp;done)))
   refine aD ?_
   cases hf:formed x with
   |false=>exact(aL fun y=>by rw[hf] at y;cases y.1).symm
   |true=>exact(bC ⟨hf,by omega,by omega⟩).symm
  ·exact aD (aL fun y=>by have:=y.2.1;omega).symm
 ·have h1:=uK (l:=60) (a:=x.cnt) (by omega)
  exact aD (aL fun y=>by have:=y.2.2;omega).symm
end Go.Proofs.YtlmhknhlmicmeaaGreatDoor
namespace Go.Ab
mutual
def au.cnt:au→Nat
 | .mk _ _ _ _ _ a b=>1+(au.bY a+aJ.bY b)
def au.bY:List au→Nat
 |[]=>0
 |x::xs=>x.cnt+au.bY xs
def aJ.cnt:aJ→Nat
 | .mk _ _ b=>b.cnt
def aJ.bY:List aJ→Nat
 |[]=>0
 |x::xs=>x.cnt+aJ.bY xs
end
theorem au.lS(x:au):x.cnt=1+(au.bY x.fArgs+aJ.bY x.aK):=by cases x;rw[au.cnt];rfl
theorem aJ.lS(x:aJ):x.cnt=x.fBody.cnt:=by cases x;rw[aJ.cnt];rfl
theorem au.jH{xs:List au}{i:Nat}(hi:i<xs.length):au.bY (xs.drop i)=xs[i].cnt+au.bY (xs.drop (i+1)):=by rw[List.drop_eq_getElem_cons hi,au.bY]
theorem aJ.jH{xs:List aJ}{i:Nat}(hi:i<xs.length):aJ.bY (xs.drop i)=xs[i].fBody.cnt+aJ.bY (xs.drop (i+1)):=by rw[List.drop_eq_getElem_cons hi,aJ.bY,aJ.lS]
theorem au.yh(x:au):x.fArgs.length+bF (x.fArgs.map au.enc)≤x.sz∧x.aK.length+bF (x.aK.map aJ.enc)≤x.sz:=by
 simp only[au.sz,au.aH,bO,bN,D.sz,List.length_map]
 omega
theorem aJ.IX(x:aJ):x.fBody.sz≤x.sz:=by
 simp only[aJ.sz,aJ.aH,au.sz,bO,bN,D.sz,List.length_map]
 omega
mutual
theorem au.jR:∀x:au,x.cnt≤1+x.sz
 | .mk k t n m ty a b=>by
   have h1:=au.sI a
   have h2:=aJ.sI b
   rw[au.cnt]
   simp only[au.sz,au.aH,bO,bN,D.sz,List.length_map,au.fArgs,au.aK]
   omega
theorem au.sI:∀xs:List au,au.bY xs≤xs.length+bF (xs.map au.enc)
 |[]=>by simp[au.bY]
 |x::xs=>by
  have h1:=au.jR x
  have h2:=au.sI xs
  rw[au.bY,List.length_cons,List.map_cons,bF,au.dO]
  omega
theorem aJ.jR:∀x:aJ,x.cnt≤1+x.sz
 | .mk c v b=>by
   have h1:=au.jR b
   have h2:=aJ.IX (.mk c v b)
   rw[aJ.cnt]
   simp only[aJ.fBody] at h2
   omega
theorem aJ.sI:∀xs:List aJ,aJ.bY xs≤xs.length+bF (xs.map aJ.enc)
 |[]=>by simp[aJ.bY]
 |x::xs=>by
  have h1:=aJ.jR x
  have h2:=aJ.sI xs
  rw[aJ.bY,List.length_cons,List.map_cons,bF,aJ.dO]
  omega
end
end Go.Ab
namespace Go.Proofs.YtlmhknhlmicmeaaGreatDoor
open Go Go.Ab
theorem yj:∀n:Nat,∀x:au,SizeOf.sizeOf x<n→x.sz≤4194304→aI Tryz.prog 210 [x.v] (.c (.d (.i .i64 x.cnt)))
 |0=>fun x h=>by omega
 |n+1=>by
  have ih:=yj n
  intro x hn hsz S
  have gZ:=au.fq x
  have vw:=au.kJ x
  have hp:=au.yh x
  have hc:=au.jR x
  have he:=au.lS x
  refine aF (rs:=[.tmp 2]) Tryz.checked.mixed Tryz.func210 Tryz.ntmps210 rfl rfl rfl rfl rfl ?_
  simp -implicitDefEqProofs (disch:=omega) only[go_sem]
  refine aX (ι:=Nat×Nat) Tryz.checked.mixed rfl [1,3,9,10,11] (fun y=>[.c (.ptr (0,0) 0),.c (.d (.i .i64 y.2)),.c (.d (.sl (x.fArgs.map au.enc))),.c (.d (.i .i64 x.fArgs.length)),.c (.d (.i .i64 y.1))]) (fun y=>[.box (x.enc.map .d)]::S)
   (fun y=>y.1≤x.fArgs.length∧x.cnt=y.2+au.bY (x.fArgs.drop y.1)+aJ.bY x.aK) (fun y=>x.fArgs.length-y.1) (0,1) rfl ?_ ⟨Nat.zero_le _,by simp only[List.drop_zero];omega⟩ ?_
  ·simp -implicitDefEqProofs (disch:=omega) only[go_sem]
  rintro⟨i,c⟩ ⟨p1,p2⟩
  simp only at p1 p2
  simp -implicitDefEqProofs (disch:=omega) only[go_sem]
  with_reducible refine aA (fun hb=> ?_) (fun hb=> ?_)<;>have h:=hb<;>(try simp only[wf_preprocess] at h)<;>simp -implicitDefEqProofs (disch:=omega) only[go_sem,hb]<;>(repeat(with_reducible refine And.intro ?_ ?_;focus first|omega|rfl|assumption|exact⟨_,rfl,rfl⟩|(simp;omega)|(simp;done)))
  ·have hi:i<x.fArgs.length:=by omega
   have hx:x.fArgs[i].sz≤bF (x.fArgs.map au.enc):=dP (List.mem_map_of_mem (List.getElem_mem hi))
   rw[au.jH hi] at p2
   (repeat(with_reducible refine And.intro ?_ ?_;focus first|omega|rfl|assumption|exact⟨_,rfl,rfl⟩|(simp;omega)|(simp;done)))
   refine ay (ih x.fArgs[i] (by have:=List.sizeOf_lt_of_mem (List.getElem_mem hi);omega) (by omega)) ?_
   simp -implicitDefEqProofs (disch:=omega) only[go_sem]<;>(repeat(with_reducible refine And.intro ?_ ?_;focus first|omega|rfl|assumption|exact⟨_,rfl,rfl⟩|(simp;omega)|(simp;done)))
   rw[show(c:Int)+(x.fArgs[i].cnt:Int)=((c+x.fArgs[i].cnt:Nat):Int) by omega]
   exact dA 1 (by decide) (i+1,c+x.fArgs[i].cnt) (by simp only;omega) rfl rfl rfl rfl ⟨by simp only;omega,by simp only;omega⟩
  have hi:i=x.fArgs.length:=by omega
  rw[hi,List.drop_length,au.bY] at p2
  refine aX (ι:=Nat×Nat) Tryz.checked.mixed rfl [3,21,22,23] (fun y=>[.c (.d (.i .i64 y.2)),.c (.d (.sl (x.aK.map aJ.enc))),.c (.d (.i .i64 x.aK.length)),.c (.d (.i .i64 y.1))]) (fun y=>[.box (x.enc.map .d)]::S)
   (fun y=>y.1≤x.aK.length∧x.cnt=y.2+aJ.bY (x.aK.drop y.1)) (fun y=>x.aK.length-y.1) (0,c) rfl ?_ ⟨Nat.zero_le _,by simp only[List.drop_zero];omega⟩ ?_
  ·simp -implicitDefEqProofs (disch:=omega) only[go_sem]
  clear p1 p2 hb h hi i
  rintro⟨i,d⟩ ⟨p1,p2⟩
  simp only at p1 p2
  simp -implicitDefEqProofs (disch:=omega) only[go_sem]
  with_reducible refine aA (fun hb=> ?_) (fun hb=> ?_)<;>have h:=hb<;>(try simp only[wf_preprocess] at h)<;>simp -implicitDefEqProofs (disch:=omega) only[go_sem,hb]<;>(repeat(with_reducible refine And.intro ?_ ?_;focus first|omega|rfl|assumption|exact⟨_,rfl,rfl⟩|(simp;omega)|(simp;done)))
  ·have hi:i<x.aK.length:=by omega
   have hx:x.aK[i].sz≤bF (x.aK.map aJ.enc):=dP (List.mem_map_of_mem (List.getElem_mem hi))
   have hy:=aJ.IX x.aK[i]
   have hs:=List.sizeOf_lt_of_mem (List.getElem_mem hi)
   have hs':=aJ.j3 x.aK[i]
   rw[aJ.jH hi] at p2
   (repeat(with_reducible refine And.intro ?_ ?_;focus first|omega|rfl|assumption|exact⟨_,rfl,rfl⟩|(simp;omega)|(simp;done)))
   refine ay (ih x.aK[i].fBody (by omega) (by omega)) ?_
   simp -implicitDefEqProofs (disch:=omega) only[go_sem]<;>(repeat(with_reducible refine And.intro ?_ ?_;focus first|omega|rfl|assumption|exact⟨_,rfl,rfl⟩|(simp;omega)|(simp;done)))
   rw[show(d:Int)+(x.aK[i].fBody.cnt:Int)=((d+x.aK[i].fBody.cnt:Nat):Int) by omega]
   exact dA 1 (by decide) (i+1,d+x.aK[i].fBody.cnt) (by simp only;omega) rfl rfl rfl rfl ⟨by simp only;omega,by simp only;omega⟩
  ·have hi:i=x.aK.length:=by omega
   rw[hi,List.drop_length,aJ.bY] at p2
   exact int_eq (by omega)
theorem Gz(x:au)(hsz:x.sz≤4194304):aI Tryz.prog 210 [x.v] (.c (.d (.i .i64 x.cnt))):=yj _ x (Nat.lt_succ_self _) hsz
end Go.Proofs.YtlmhknhlmicmeaaGreatDoor
namespace Go.Ab
mutual
def nu:aj→List aj
 | .mk k n a=>.mk k n a::ny a
def ny:List aj→List aj
 |[]=>[]
 |t::ts=>nu t++ny ts
end
theorem Ct(t:aj):nu t=t::ny t.fArgs:=by cases t;rw[nu];rfl
theorem Et{ts:List aj}{i:Nat}(hi:i<ts.length):ny (ts.drop i)=nu ts[i]++ny (ts.drop (i+1)):=by rw[List.drop_eq_getElem_cons hi,ny]
mutual
theorem JM:∀t:aj,(nu t).length=t.cnt
 | .mk k n a=>by rw[nu,List.length_cons,aj.cnt,GA a];omega
theorem GA:∀ts:List aj,(ny ts).length=aj.bY ts
 |[]=>rfl
 |t::ts=>by rw[ny,List.length_append,aj.bY,JM t,GA ts]
end
def rW(out:List (List UInt8))(u:aj):List (List UInt8):=if u.aM=1∧u.fName∉out then out++[u.fName] else out
def lG(out:List (List UInt8))(t:aj):List (List UInt8):=(nu t).foldl rW out
def pz(out:List (List UInt8))(ts:List aj):List (List UInt8):=(ny ts).foldl rW out
theorem ER(out:List (List UInt8))(u:aj):(rW out u).length≤out.length+1:=by
 unfold rW
 split<;>simp
theorem JN:∀(us:List aj) (out:List (List UInt8)),(us.foldl rW out).length≤out.length+us.length
 |[],out=>by simp
 |u::us,out=>by
  have h1:=ER out u
  have h2:=JN us (rW out u)
  rw[List.foldl_cons,List.length_cons]
  omega
theorem yQ(t:aj)(out:List (List UInt8)):(lG out t).length≤out.length+t.cnt:=by
 have:=JN (nu t) out
 rw[JM] at this
 exact this
theorem Ye(out:List (List UInt8))(t:aj):lG out t=pz (rW out t) t.fArgs:=by
 unfold lG pz
 rw[Ct,List.foldl_cons]
theorem Eu{ts:List aj}{i:Nat}(hi:i<ts.length)(out:List (List UInt8)):pz out (ts.drop i)=pz (lG out ts[i]) (ts.drop (i+1)):=by
 unfold pz lG
 rw[Et hi,List.foldl_append]
end Go.Ab
namespace Go.Proofs.YtlmhknhlmicmeaaGreatDoor
open Go Go.Ab
theorem DJ{x:aj}{i:Nat}(hi:i<x.fArgs.length)(h:x.sz≤4194304):x.fArgs[i].sz≤4194304∧x.fArgs.length≤4194304∧x.fName.length≤4194304:=by
 have hx:x.fArgs[i].sz≤bF (x.fArgs.map aj.enc):=dP (List.mem_map_of_mem (List.getElem_mem hi))
 simp only[aj.sz,aj.aH,bO,D.sz,List.length_map] at h
 omega
theorem M0{x:aj}(h:x.sz≤4194304):x.fArgs.length≤4194304∧x.fName.length≤4194304:=by
 simp only[aj.sz,aj.aH,bO,D.sz,List.length_map] at h
 omega
theorem Cu:∀n:Nat,∀t:aj,SizeOf.sizeOf t<n→t.sz≤4194304→∀(g:Nat) (caps:List (Key×Nat)) (α:Type) (st:α→Store) (I:Nat→α→Prop) (f:α→aj→α) (hf:Dz Tryz.prog g caps st I f aj.v (fun u=>u.sz≤4194304)) (m:Nat) (a:α),I (m+t.cnt) a→
 I m ((nu t).foldl f a)∧bD Tryz.prog 298 [t.v,.c (.fn g caps)] (st a) (fun r S'=>r=.d9 []∧S'=st ((nu t).foldl f a))
 |0=>fun t h=>by omega
 |n+1=>by
  have ih:=Cu n
  intro t hn hsz g caps α st I f hf m a ha
  have gZ:=aj.fq t
  have hts:=M0 hsz
  rw[aj.lS,show m+(1+aj.bY t.fArgs)=(m+aj.bY t.fArgs)+1 by omega] at ha
  have h1:=hf _ a t ha hsz
  have hI:∀(ts:List aj),SizeOf.sizeOf ts<n→(∀x∈ts,x.sz≤4194304)→∀a,I (m+aj.bY ts) a→I m ((ny ts).foldl f a):=by
   intro ts
   induction ts with
   |nil=>intro _ _ a ha;exact ha
   |cons x xs ihx=>
    intro hs hz a ha
    simp only[List.cons.sizeOf_spec] at hs
    rw[ny,List.foldl_append]
    rw[aj.bY,show m+(x.cnt+aj.bY xs)=(m+aj.bY xs)+x.cnt by omega] at ha
    exact ihx (by omega) (fun y hy=>hz y (by simp[hy])) _ (ih x (by omega) (hz x (by simp)) g caps α st I f hf _ a ha).1
  have hall:∀x∈t.fArgs,x.sz≤4194304:=fun x hx=>by
   obtain⟨i,hi,e⟩:=List.getElem_of_mem hx
   rw[←e];exact(DJ hi hsz).1
  refine⟨by rw[Ct,List.foldl_cons];exact hI t.fArgs (by omega) hall _ h1.1,?_⟩
  refine aF (rs:=[]) Tryz.checked.mixed Tryz.func298 Tryz.ntmps298 rfl rfl rfl rfl rfl ?_
  simp -implicitDefEqProofs (disch:=omega) only[go_sem]
  refine bq rfl (h1.2 [_]) ?_
  simp -implicitDefEqProofs (disch:=omega) only[go_sem]
  refine aX (ι:=Nat×α) Tryz.checked.mixed rfl [1,10,11,12] (fun y=>[.c (.fn g (gV 1 caps)),.c (.d (.sl (t.fArgs.map aj.enc))),.c (.d (.i .i64 t.fArgs.length)),.c (.d (.i .i64 y.1))]) (fun y=>[.box [.d (.i .i64 t.aM),.d (.s t.fName),.d (.sl (t.fArgs.map aj.enc))]]::st y.2)
   (fun y=>y.1≤t.fArgs.length∧I (m+aj.bY (t.fArgs.drop y.1)) y.2∧(ny (t.fArgs.drop y.1)).foldl f y.2=(nu t).foldl f a) (fun y=>t.fArgs.length-y.1) (0,f a t) rfl rfl ⟨Nat.zero_le _,h1.1,by rw[Ct,List.foldl_cons];rfl⟩ ?_
  rintro⟨i,b⟩ ⟨p1,p2,p3⟩
  simp only at p1 p2 p3
  simp -implicitDefEqProofs (disch:=omega) only[go_sem]
  with_reducible refine aA (fun hb=> ?_) (fun hb=> ?_)<;>have h:=hb<;>(try simp only[wf_preprocess] at h)<;>simp -implicitDefEqProofs (disch:=omega) only[go_sem,hb]<;>(repeat(with_reducible refine And.intro ?_ ?_;focus first|omega|rfl|assumption|exact⟨_,rfl,rfl⟩|(simp;omega)|(simp;done)))
  ·have hi:i<t.fArgs.length:=by omega
   have hs:=List.sizeOf_lt_of_mem (List.getElem_mem hi)
   rw[Et hi,List.foldl_append] at p3
   rw[List.drop_eq_getElem_cons hi,aj.bY,show m+(t.fArgs[i].cnt+aj.bY (t.fArgs.drop (i+1)))=(m+aj.bY (t.fArgs.drop (i+1)))+t.fArgs[i].cnt by omega] at p2
   have h2:=(ih t.fArgs[i] (by omega) (DJ hi hsz).1 g caps α st I f hf _ b p2).1
   (repeat(with_reducible refine And.intro ?_ ?_;focus first|omega|rfl|assumption|exact⟨_,rfl,rfl⟩|(simp;omega)|(simp;done)))
   refine bq rfl (((ih t.fArgs[i] (by omega) (DJ hi hsz).1 g (gV 1 caps) α (fun a=>[.box [.d (.i .i64 t.aM),.d (.s t.fName),.d (.sl (t.fArgs.map aj.enc))],.box [.d (.i .i64 t.fArgs[i].aM),.d (.s t.fArgs[i].fName),.d (.sl (t.fArgs[i].fArgs.map aj.enc))]]::st a) I f (hf.push _) _ b p2)).2) ?_
   simp -implicitDefEqProofs (disch:=omega) only[go_sem]
   exact dA 1 (by decide) (i+1,(nu t.fArgs[i]).foldl f b) (by simp only;omega) rfl rfl (by simp only[gQ,jF,List.all_cons,List.all_nil,V.refs,C.refs,Ml,Bool.and_true]) rfl ⟨by simp only;omega,h2,p3⟩
  ·have hi:i=t.fArgs.length:=by omega
   rw[hi,List.drop_length,ny,List.foldl_nil] at p3
   rw[p3]
theorem OU{t:aj}(hsz:t.sz≤4194304){g:Nat}{caps:List (Key×Nat)}{α:Type}{st:α→Store}{I:Nat→α→Prop}{f:α→aj→α}(hf:Dz Tryz.prog g caps st I f aj.v (fun u=>u.sz≤4194304))(m:Nat)(a:α)(ha:I (m+t.cnt) a):
 I m ((nu t).foldl f a)∧bD Tryz.prog 298 [t.v,.c (.fn g caps)] (st a) (fun r S'=>r=.d9 []∧S'=st ((nu t).foldl f a)):=Cu _ t (Nat.lt_succ_self _) hsz g caps α st I f hf m a ha
theorem DW(rest:List Ab.Obj)(S:Store):Dz Tryz.prog 340 [((0,0),0)] (fun out:List (List UInt8)=>(.box [.bL (0,1) (out.map encS)]:: .tok 1 (out.map encS)::rest)::S) (fun n out=>out.length+n≤1073741824) rW aj.v (fun u=>u.sz≤4194304):=by
 intro n out u hI hu
 refine⟨by have:=ER out u;omega,fun F=> ?_⟩
 have hts:=M0 hu
 refine aF (rs:=[]) Tryz.checked.mixed Tryz.func340 Tryz.ntmps340 rfl rfl rfl rfl rfl ?_
 simp -implicitDefEqProofs (disch:=omega) only[go_sem]
 with_reducible refine aA (fun hb=> ?_) (fun hb=> ?_)<;>have h:=hb<;>(try simp only[wf_preprocess] at h)<;>simp -implicitDefEqProofs (disch:=omega) only[go_sem,hb]<;>(repeat(with_reducible refine And.intro ?_ ?_;focus first|omega|rfl|assumption|exact⟨_,rfl,rfl⟩|(simp;omega)|(simp;done)))
 ·have h1:=h
  refine ay (mK out u.fName (by omega)) ?_
  simp -implicitDefEqProofs (disch:=omega) only[go_sem]<;>(repeat(with_reducible refine And.intro ?_ ?_;focus first|omega|rfl|assumption|exact⟨_,rfl,rfl⟩|(simp;omega)|(simp;done)))
  with_reducible refine aA (fun hb=> ?_) (fun hb=> ?_)<;>have h:=hb<;>(try simp only[wf_preprocess] at h)<;>simp -implicitDefEqProofs (disch:=omega) only[go_sem,hb]<;>(repeat(with_reducible refine And.intro ?_ ?_;focus first|omega|rfl|assumption|exact⟨_,rfl,rfl⟩|(simp;omega)|(simp;done)))
  ·(repeat(with_reducible refine And.intro ?_ ?_;focus first|omega|rfl|assumption|exact⟨_,rfl,rfl⟩|(simp;omega)|(simp;done)))
   have ha:rW out u=out++[u.fName]:=if_pos ⟨h1,h⟩
   rw[ha];simp[encS]
  ·have ha:rW out u=out:=if_neg fun x=>x.2 h
   rw[ha]
 ·have ha:rW out u=out:=if_neg fun x=>h x.1
  rw[ha]
theorem IY(ts:List aj)(hl:ts.length≤4194304)(hz:∀t∈ts,t.sz≤4194304)(hc:aj.bY ts≤1073741823):aI Tryz.prog 301 [.c (.d (.sl (ts.map aj.enc)))] (.c (.d (.sl ((pz [] ts).map encS)))):=fun S=>by
 refine aF (rs:=[.tmp 2]) Tryz.checked.mixed Tryz.func301 Tryz.ntmps301 rfl rfl rfl rfl rfl ?_
 simp -implicitDefEqProofs (disch:=omega) only[go_sem]
 (repeat(with_reducible refine And.intro ?_ ?_;focus first|omega|rfl|assumption|exact⟨_,rfl,rfl⟩|(simp;omega)|(simp;done)))
 refine Cb 0 0 1 [] [.aO []] rfl rfl (by simp) ?_
 refine aX (ι:=Nat×List (List UInt8)) Tryz.checked.mixed rfl [3,7,8,9] (fun y=>[.c (.ptr (0,0) 0),.c (.d (.sl (ts.map aj.enc))),.c (.d (.i .i64 ts.length)),.c (.d (.i .i64 y.1))]) (fun y=>[.box [.bL (0,1) (y.2.map encS)],.tok 1 (y.2.map encS)]::S)
  (fun y=>y.1≤ts.length∧y.2.length+aj.bY (ts.drop y.1)≤1073741824∧pz y.2 (ts.drop y.1)=pz [] ts) (fun y=>ts.length-y.1) (0,[]) rfl rfl ⟨Nat.zero_le _,by simp only[List.drop_zero,List.length_nil];omega,rfl⟩ ?_
 rintro⟨i,out⟩ ⟨p1,p2,p3⟩
 simp only at p1 p2 p3
 simp -implicitDefEqProofs (disch:=omega) only[go_sem]
 with_reducible refine aA (fun hb=> ?_) (fun hb=> ?_)<;>have h:=hb<;>(try simp only[wf_preprocess] at h)<;>simp -implicitDefEqProofs (disch:=omega) only[go_sem,hb]<;>(repeat(with_reducible refine And.intro ?_ ?_;focus first|omega|rfl|assumption|exact⟨_,rfl,rfl⟩|(simp;omega)|(simp;done)))
 ·have hi:i<ts.length:=by omega
  rw[Eu hi] at p3
  rw[List.drop_eq_getElem_cons hi,aj.bY] at p2
  have hlen:=yQ ts[i] out
  (repeat(with_reducible refine And.intro ?_ ?_;focus first|omega|rfl|assumption|exact⟨_,rfl,rfl⟩|(simp;omega)|(simp;done)))
  refine bq rfl (OU (hz _ (List.getElem_mem hi)) (DW [Ab.Obj.box [.d (.i .i64 ts[i].aM),.d (.s ts[i].fName),.d (.sl (ts[i].fArgs.map aj.enc))]] S) (aj.bY (ts.drop (i+1))) out (by omega)).2 ?_
  simp -implicitDefEqProofs (disch:=omega) only[go_sem]
  exact dA 2 (by decide) (i+1,lG out ts[i]) (by simp only;omega) rfl rfl rfl rfl ⟨by simp only;omega,by simp only;omega,p3⟩
 ·have hi:i=ts.length:=by omega
  rw[hi,List.drop_length] at p3
  rw[←p3];rfl
theorem GD(t:aj)(hsz:t.sz≤4194304):aI Tryz.prog 237 [t.v] (.c (.d (.sl ((lG [] t).map encS)))):=fun S=>by
 have hc:=jR t
 have h0:=IY [t] (by simp) (by simpa using hsz) (by simp[aj.bY];omega)
 simp only[List.map_cons,List.map_nil,aj.aH] at h0
 refine aF (rs:=[.tmp 2]) Tryz.checked.mixed Tryz.func237 Tryz.ntmps237 rfl rfl rfl rfl rfl ?_
 simp -implicitDefEqProofs (disch:=omega) only[go_sem]
 (repeat(with_reducible refine And.intro ?_ ?_;focus first|omega|rfl|assumption|exact⟨_,rfl,rfl⟩|(simp;omega)|(simp;done)))
 refine ay h0 ?_
 simp -implicitDefEqProofs (disch:=omega) only[go_sem]
 rw[show pz [] [t]=lG [] t by simp[pz,lG,ny]]
theorem GH:∀n:Nat,∀t:aj,SizeOf.sizeOf t<n→t.sz≤4194304→∀(out:List (List UInt8)) (l j:Nat) (S:Store),aU S (l,j)=some (.tok 1 (out.map encS))→out.length+t.cnt≤1073741824→
 bD Tryz.prog 342 [t.v,.c (.bL (l,j) (out.map encS))] S (fun r S'=>r=.c (.bL (l,j) ((lG out t).map encS))∧S'=aY S (l,j) (.tok 1 ((lG out t).map encS)))
 |0=>fun t h=>by omega
 |n+1=>by
  have ih:=GH n
  intro t hn hsz out l j S hk hc
  have gZ:=aj.fq t
  have hts:=M0 hsz
  have hcn:=aj.lS t
  have GI:∀x:Ab.Obj,aU (aY S (l,j) x) (l,j)=some x:=fun x=>bZ _ _ _ _ hk
  have hS0:aY S (l,j) (.tok 1 (out.map encS))=S:=l7 _ _ hk
  have fin:lG out t=pz (rW out t) t.fArgs:=Ye out t
  have hal:=ER out t
  have e0:(out++[t.fName]).map encS=out.map encS++[[D.s t.fName]]:=by simp[encS]
  refine aF (rs:=[.tmp 4]) Tryz.checked.mixed Tryz.func342 Tryz.ntmps342 rfl rfl rfl rfl rfl ?_
  simp -implicitDefEqProofs (disch:=omega) only[go_sem,hk]
  repeat' (first
   |(with_reducible refine aA (fun hb=> ?_) (fun hb=> ?_)<;>have h:=hb<;>(try simp only[wf_preprocess] at h)<;>simp -implicitDefEqProofs (disch:=omega) only[go_sem,hb,hk]<;>(repeat(with_reducible refine And.intro ?_ ?_;focus first|omega|rfl|assumption|exact⟨_,rfl,rfl⟩|(simp;omega)|(simp;done))))
   |(refine ay (nI out t.fName (by omega)) ?_;simp -implicitDefEqProofs (disch:=omega) only[go_sem,hk];(repeat(with_reducible refine And.intro ?_ ?_;focus first|omega|rfl|assumption|exact⟨_,rfl,rfl⟩|(simp;omega)|(simp;done)))))
  all_goals first
   |(have ha:rW out t=out++[t.fName]:=if_pos ⟨by assumption,by assumption⟩)
   |(have ha:rW out t=out:=if_neg (fun x=>by have:=x.1;have:=x.2;contradiction))
  all_goals
   refine aX (ι:=Nat×List (List UInt8)) Tryz.checked.mixed rfl [1,2,5] (fun y=>[.c (.bL (1+l,j) (y.2.map encS)),.c (.ptr (0,0) 0),.c (.d (.i .i64 y.1))]) (fun y=>[.box [.d (.i .i64 t.aM),.d (.s t.fName),.d (.sl (t.fArgs.map aj.enc))]]::aY S (l,j) (.tok 1 (y.2.map encS)))
    (fun y=>y.1≤t.fArgs.length∧y.2.length+aj.bY (t.fArgs.drop y.1)≤1073741824∧pz y.2 (t.fArgs.drop y.1)=lG out t) (fun y=>t.fArgs.length-y.1) (0,rW out t) (by first|(rw[ha,e0];rfl)|(rw[ha];rfl)) (by first|(simp only[ha,e0];done)|(simp only[ha,hS0];done)) ⟨Nat.zero_le _,by simp only[List.drop_zero];omega,by rw[fin];rfl⟩ ?_
   rintro⟨i,b⟩ ⟨p1,p2,p3⟩
   simp only at p1 p2 p3
   simp -implicitDefEqProofs (disch:=omega) only[go_sem]
   with_reducible refine aA (fun hb=> ?_) (fun hb=> ?_)<;>have h:=hb<;>(try simp only[wf_preprocess] at h)<;>simp -implicitDefEqProofs (disch:=omega) only[go_sem,hb]<;>(repeat(with_reducible refine And.intro ?_ ?_;focus first|omega|rfl|assumption|exact⟨_,rfl,rfl⟩|(simp;omega)|(simp;done)))
   ·have hi:i<t.fArgs.length:=by omega
    have hs:=List.sizeOf_lt_of_mem (List.getElem_mem hi)
    rw[Eu hi] at p3
    rw[List.drop_eq_getElem_cons hi,aj.bY] at p2
    have hlen:=yQ t.fArgs[i] b
    (repeat(with_reducible refine And.intro ?_ ?_;focus first|omega|rfl|assumption|exact⟨_,rfl,rfl⟩|(simp;omega)|(simp;done)))
    refine bq rfl (ih t.fArgs[i] (by omega) (DJ hi hsz).1 b (1+l) j _ (by rw[fV];exact GI _) (by omega)) ?_
    simp -implicitDefEqProofs (disch:=omega) only[go_sem,bK]
    exact bI (i+1,lG b t.fArgs[i]) (by simp only;omega) rfl rfl ⟨by simp only;omega,by simp only;omega,p3⟩
   ·have hi:i=t.fArgs.length:=by omega
    rw[hi,List.drop_length] at p3
    rw[←p3]
    exact⟨rfl,rfl⟩
theorem GJ(t:aj)(hsz:t.sz≤4194304):aI Tryz.prog 308 [t.v] (.c (.d (.sl ((lG [] t).map encS)))):=fun S=>by
 have hc:=jR t
 have h0:∀S,bD Tryz.prog 342 [t.v,.c (.aO [])] S (fun r S'=>r=.c (.d (.sl ((lG [] t).map encS)))∧S'=S):=fun S=>by
  refine bD.XE 1 (es:=[]) (aQ:=1) rfl (by simp) (GH _ t (Nat.lt_succ_self _) hsz [] 0 0 ([.tok 1 []]::S) rfl (by simp;omega)) ?_
  rintro r fr S' ⟨rfl,h2⟩
  injection h2 with h2 h3
  exact⟨_,rfl,rfl,h3⟩
 refine aF (rs:=[.tmp 2]) Tryz.checked.mixed Tryz.func308 Tryz.ntmps308 rfl rfl rfl rfl rfl ?_
 simp -implicitDefEqProofs (disch:=omega) only[go_sem]
 (repeat(with_reducible refine And.intro ?_ ?_;focus first|omega|rfl|assumption|exact⟨_,rfl,rfl⟩|(simp;omega)|(simp;done)))
 refine oW [true,true] rfl (h0 _) ?_
 simp -implicitDefEqProofs (disch:=omega) only[go_sem]
end Go.Proofs.YtlmhknhlmicmeaaGreatDoor
namespace Go.Proofs.YtlmhknhlmicmeaaGreatDoor
open Go Go.Ab
theorem ES(g:Nat)(xs ys:List au)(hl:xs.length≤1073741824)(hg:∀x∈xs,∀y,aI Tryz.prog g [x.v,y.v] (.c (.d (.b (dec (x=y)))))):
 aI Tryz.prog 356 [.c (.d (.sl (xs.map au.enc))),.c (.d (.sl (ys.map au.enc))),.c (.fn g [])] (.c (.d (.b (dec (xs=ys))))):=fun S=>by
 refine aF (rs:=[.tmp 6]) Tryz.checked.mixed Tryz.func356 Tryz.ntmps356 rfl rfl rfl rfl rfl ?_
 simp -implicitDefEqProofs (disch:=omega) only[go_sem]
 with_reducible refine aA (fun hb=> ?_) (fun hb=> ?_)<;>have h:=hb<;>(try simp only[wf_preprocess] at h)<;>simp -implicitDefEqProofs (disch:=omega) only[go_sem,hb]<;>(repeat(with_reducible refine And.intro ?_ ?_;focus first|omega|rfl|assumption|exact⟨_,rfl,rfl⟩|(simp;omega)|(simp;done)))
 ·exact aD (aL (fun e=>h (by rw[e]))).symm
 have hl':xs.length=ys.length:=by omega
 refine aX (ι:=Nat) Tryz.checked.mixed rfl [1,2,15,16,17] (fun y=>[.c (.d (.sl (ys.map au.enc))),.c (.fn g []),.c (.d (.sl (xs.map au.enc))),.c (.d (.i .i64 xs.length)),.c (.d (.i .i64 y))]) (fun y=>[]::S)
  (fun i=>i≤xs.length∧∀j,j<i→xs[j]? =ys[j]?) (fun y=>xs.length-y) 0 rfl rfl ⟨Nat.zero_le _,fun j h=>by omega⟩ ?_
 rintro i ⟨p1,p2⟩
 simp -implicitDefEqProofs (disch:=omega) only[go_sem]
 with_reducible refine aA (fun hb=> ?_) (fun hb=> ?_)<;>have h:=hb<;>(try simp only[wf_preprocess] at h)<;>simp -implicitDefEqProofs (disch:=omega) only[go_sem,hb]<;>(repeat(with_reducible refine And.intro ?_ ?_;focus first|omega|rfl|assumption|exact⟨_,rfl,rfl⟩|(simp;omega)|(simp;done)))
 ·have hi:i<xs.length:=by omega
  have hi':i<ys.length:=by omega
  (repeat(with_reducible refine And.intro ?_ ?_;focus first|omega|rfl|assumption|exact⟨_,rfl,rfl⟩|(simp;omega)|(simp;done)))
  refine ay (hg xs[i] (List.getElem_mem hi) ys[i]) ?_
  simp -implicitDefEqProofs (disch:=omega) only[go_sem]
  with_reducible refine aA (fun hb=> ?_) (fun hb=> ?_)<;>have h:=hb<;>(try simp only[wf_preprocess] at h)<;>simp -implicitDefEqProofs (disch:=omega) only[go_sem,hb]<;>(repeat(with_reducible refine And.intro ?_ ?_;focus first|omega|rfl|assumption|exact⟨_,rfl,rfl⟩|(simp;omega)|(simp;done)))
  ·exact aD (aL (fun e=>h (by simp only[e]))).symm
  refine dA 0 (by decide) (i+1) (by omega) rfl rfl rfl rfl ⟨by omega,fun j hj=> ?_⟩
  by_cases e:j=i
  ·subst e
   rw[List.getElem?_eq_getElem hi,List.getElem?_eq_getElem hi',h]
  ·exact p2 j (by omega)
 ·have hi:i=xs.length:=by omega
  refine aD (bC (List.ext_getElem? fun j=> ?_)).symm
  by_cases hj:j<i
  ·exact p2 j hj
  ·rw[List.getElem?_eq_none (by omega),List.getElem?_eq_none (by omega)]
theorem GK(g:Nat)(xs ys:List aJ)(hl:xs.length≤1073741824)(hg:∀x∈xs,∀y,aI Tryz.prog g [x.v,y.v] (.c (.d (.b (dec (x=y)))))):
 aI Tryz.prog 357 [.c (.d (.sl (xs.map aJ.enc))),.c (.d (.sl (ys.map aJ.enc))),.c (.fn g [])] (.c (.d (.b (dec (xs=ys))))):=fun S=>by
 refine aF (rs:=[.tmp 6]) Tryz.checked.mixed Tryz.func357 Tryz.ntmps357 rfl rfl rfl rfl rfl ?_
 simp -implicitDefEqProofs (disch:=omega) only[go_sem]
 with_reducible refine aA (fun hb=> ?_) (fun hb=> ?_)<;>have h:=hb<;>(try simp only[wf_preprocess] at h)<;>simp -implicitDefEqProofs (disch:=omega) only[go_sem,hb]<;>(repeat(with_reducible refine And.intro ?_ ?_;focus first|omega|rfl|assumption|exact⟨_,rfl,rfl⟩|(simp;omega)|(simp;done)))
 ·exact aD (aL (fun e=>h (by rw[e]))).symm
 have hl':xs.length=ys.length:=by omega
 refine aX (ι:=Nat) Tryz.checked.mixed rfl [1,2,15,16,17] (fun y=>[.c (.d (.sl (ys.map aJ.enc))),.c (.fn g []),.c (.d (.sl (xs.map aJ.enc))),.c (.d (.i .i64 xs.length)),.c (.d (.i .i64 y))]) (fun y=>[]::S)
  (fun i=>i≤xs.length∧∀j,j<i→xs[j]? =ys[j]?) (fun y=>xs.length-y) 0 rfl rfl ⟨Nat.zero_le _,fun j h=>by omega⟩ ?_
 rintro i ⟨p1,p2⟩
 simp -implicitDefEqProofs (disch:=omega) only[go_sem]
 with_reducible refine aA (fun hb=> ?_) (fun hb=> ?_)<;>have h:=hb<;>(try simp only[wf_preprocess] at h)<;>simp -implicitDefEqProofs (disch:=omega) only[go_sem,hb]<;>(repeat(with_reducible refine And.intro ?_ ?_;focus first|omega|rfl|assumption|exact⟨_,rfl,rfl⟩|(simp;omega)|(simp;done)))
 ·have hi:i<xs.length:=by omega
  have hi':i<ys.length:=by omega
  (repeat(with_reducible refine And.intro ?_ ?_;focus first|omega|rfl|assumption|exact⟨_,rfl,rfl⟩|(simp;omega)|(simp;done)))
  refine ay (hg xs[i] (List.getElem_mem hi) ys[i]) ?_
  simp -implicitDefEqProofs (disch:=omega) only[go_sem]
  with_reducible refine aA (fun hb=> ?_) (fun hb=> ?_)<;>have h:=hb<;>(try simp only[wf_preprocess] at h)<;>simp -implicitDefEqProofs (disch:=omega) only[go_sem,hb]<;>(repeat(with_reducible refine And.intro ?_ ?_;focus first|omega|rfl|assumption|exact⟨_,rfl,rfl⟩|(simp;omega)|(simp;done)))
  ·exact aD (aL (fun e=>h (by simp only[e]))).symm
  refine dA 0 (by decide) (i+1) (by omega) rfl rfl rfl rfl ⟨by omega,fun j hj=> ?_⟩
  by_cases e:j=i
  ·subst e
   rw[List.getElem?_eq_getElem hi,List.getElem?_eq_getElem hi',h]
  ·exact p2 j (by omega)
 ·have hi:i=xs.length:=by omega
  refine aD (bC (List.ext_getElem? fun j=> ?_)).symm
  by_cases hj:j<i
  ·exact p2 j hj
  ·rw[List.getElem?_eq_none (by omega),List.getElem?_eq_none (by omega)]
theorem ET(g:Nat)(caps:List (Key×Nat))(S:Store)(xs:List aj)(p:aj→Bool)(hl:xs.length≤1073741824)(hp:∀x∈xs,mP Tryz.prog g caps S [x.v] (.c (.d (.b (p x))))):
 bD Tryz.prog 334 [.c (.d (.sl (xs.map aj.enc))),.c (.fn g caps)] S (fun r S'=>r=.c (.d (.i .i64 (oZ p xs)))∧S'=S):=by
 refine aF (rs:=[.tmp 4]) Tryz.checked.mixed Tryz.func334 Tryz.ntmps334 rfl rfl rfl rfl rfl ?_
 simp -implicitDefEqProofs (disch:=omega) only[go_sem]
 refine aX (ι:=Nat) Tryz.checked.mixed rfl [0,1,7,8] (fun i=>[.c (.d (.sl (xs.map aj.enc))),.c (.fn g (gV 1 caps)),.c (.d (.i .i64 xs.length)),.c (.d (.i .i64 i))]) (fun _=>[]::S)
  (fun i=>i≤xs.length∧∀j,∀hj:j<xs.length,j<i→p xs[j]=false) (fun i=>xs.length-i) 0 rfl rfl ⟨Nat.zero_le _,fun j _ h=>by omega⟩ ?_
 rintro i ⟨p1,p2⟩
 simp -implicitDefEqProofs (disch:=omega) only[go_sem]
 with_reducible refine aA (fun hb=> ?_) (fun hb=> ?_)<;>have h:=hb<;>(try simp only[wf_preprocess] at h)<;>simp -implicitDefEqProofs (disch:=omega) only[go_sem,hb]<;>(repeat(with_reducible refine And.intro ?_ ?_;focus first|omega|rfl|assumption|exact⟨_,rfl,rfl⟩|(simp;omega)|(simp;done)))
 ·have hi:i<xs.length:=by omega
  (repeat(with_reducible refine And.intro ?_ ?_;focus first|omega|rfl|assumption|exact⟨_,rfl,rfl⟩|(simp;omega)|(simp;done)))
  refine bq rfl (hp xs[i] (List.getElem_mem hi) [_]) ?_
  simp -implicitDefEqProofs (disch:=omega) only[go_sem]
  with_reducible refine aA (fun hb=> ?_) (fun hb=> ?_)<;>have h:=hb<;>(try simp only[wf_preprocess] at h)<;>simp -implicitDefEqProofs (disch:=omega) only[go_sem,hb]<;>(repeat(with_reducible refine And.intro ?_ ?_;focus first|omega|rfl|assumption|exact⟨_,rfl,rfl⟩|(simp;omega)|(simp;done)))
  ·rw[pU hi p2 h]
  ·refine bI (i+1) (by omega) rfl rfl ⟨by omega,fun j hj hji=> ?_⟩
   by_cases e:j=i
   ·subst e;exact h
   ·exact p2 j hj (by omega)
 ·rw[sJ (fun j hj=>p2 j hj (by omega))]
theorem BJ(g:Nat)(caps:List (Key×Nat))(S:Store)(xs:List aj)(p:aj→Bool)(hl:xs.length≤1073741824)(hp:∀x∈xs,mP Tryz.prog g caps S [x.v] (.c (.d (.b (p x))))):
 bD Tryz.prog 293 [.c (.d (.sl (xs.map aj.enc))),.c (.fn g caps)] S (fun r S'=>r=.c (.d (.b (xs.any p)))∧S'=S):=by
 refine aF (rs:=[.tmp 4]) Tryz.checked.mixed Tryz.func293 Tryz.ntmps293 rfl rfl rfl rfl rfl ?_
 simp -implicitDefEqProofs (disch:=omega) only[go_sem]
 refine bq rfl (ET g (gV 1 caps) _ xs p hl fun x hx=>(hp x hx).push _) ?_
 simp -implicitDefEqProofs (disch:=omega) only[go_sem]
 exact aD qQ
theorem EU(g:Nat)(caps:List (Key×Nat))(S:Store)(xs:List au)(p:au→Bool)(hl:xs.length≤1073741824)(hp:∀x∈xs,mP Tryz.prog g caps S [x.v] (.c (.d (.b (p x))))):
 bD Tryz.prog 329 [.c (.d (.sl (xs.map au.enc))),.c (.fn g caps)] S (fun r S'=>r=.c (.d (.i .i64 (oZ p xs)))∧S'=S):=by
 refine aF (rs:=[.tmp 4]) Tryz.checked.mixed Tryz.func329 Tryz.ntmps329 rfl rfl rfl rfl rfl ?_
 simp -implicitDefEqProofs (disch:=omega) only[go_sem]
 refine aX (ι:=Nat) Tryz.checked.mixed rfl [0,1,7,8] (fun i=>[.c (.d (.sl (xs.map au.enc))),.c (.fn g (gV 1 caps)),.c (.d (.i .i64 xs.length)),.c (.d (.i .i64 i))]) (fun _=>[]::S)
  (fun i=>i≤xs.length∧∀j,∀hj:j<xs.length,j<i→p xs[j]=false) (fun i=>xs.length-i) 0 rfl rfl ⟨Nat.zero_le _,fun j _ h=>by omega⟩ ?_
 rintro i ⟨p1,p2⟩
 simp -implicitDefEqProofs (disch:=omega) only[go_sem]
 with_reducible refine aA (fun hb=> ?_) (fun hb=> ?_)<;>have h:=hb<;>(try simp only[wf_preprocess] at h)<;>simp -implicitDefEqProofs (disch:=omega) only[go_sem,hb]<;>(repeat(with_reducible refine And.intro ?_ ?_;focus first|omega|rfl|assumption|exact⟨_,rfl,rfl⟩|(simp;omega)|(simp;done)))
 ·have hi:i<xs.length:=by omega
  (repeat(with_reducible refine And.intro ?_ ?_;focus first|omega|rfl|assumption|exact⟨_,rfl,rfl⟩|(simp;omega)|(simp;done)))
  refine bq rfl (hp xs[i] (List.getElem_mem hi) [_]) ?_
  simp -implicitDefEqProofs (disch:=omega) only[go_sem]
  with_reducible refine aA (fun hb=> ?_) (fun hb=> ?_)<;>have h:=hb<;>(try simp only[wf_preprocess] at h)<;>simp -implicitDefEqProofs (disch:=omega) only[go_sem,hb]<;>(repeat(with_reducible refine And.intro ?_ ?_;focus first|omega|rfl|assumption|exact⟨_,rfl,rfl⟩|(simp;omega)|(simp;done)))
  ·rw[pU hi p2 h]
  ·refine bI (i+1) (by omega) rfl rfl ⟨by omega,fun j hj hji=> ?_⟩
   by_cases e:j=i
   ·subst e;exact h
   ·exact p2 j hj (by omega)
 ·rw[sJ (fun j hj=>p2 j hj (by omega))]
theorem BK(g:Nat)(caps:List (Key×Nat))(S:Store)(xs:List au)(p:au→Bool)(hl:xs.length≤1073741824)(hp:∀x∈xs,mP Tryz.prog g caps S [x.v] (.c (.d (.b (p x))))):
 bD Tryz.prog 283 [.c (.d (.sl (xs.map au.enc))),.c (.fn g caps)] S (fun r S'=>r=.c (.d (.b (xs.any p)))∧S'=S):=by
 refine aF (rs:=[.tmp 4]) Tryz.checked.mixed Tryz.func283 Tryz.ntmps283 rfl rfl rfl rfl rfl ?_
 simp -implicitDefEqProofs (disch:=omega) only[go_sem]
 refine bq rfl (EU g (gV 1 caps) _ xs p hl fun x hx=>(hp x hx).push _) ?_
 simp -implicitDefEqProofs (disch:=omega) only[go_sem]
 exact aD qQ
theorem GL(g:Nat)(caps:List (Key×Nat))(S:Store)(xs:List aJ)(p:aJ→Bool)(hl:xs.length≤1073741824)(hp:∀x∈xs,mP Tryz.prog g caps S [x.v] (.c (.d (.b (p x))))):
 bD Tryz.prog 330 [.c (.d (.sl (xs.map aJ.enc))),.c (.fn g caps)] S (fun r S'=>r=.c (.d (.i .i64 (oZ p xs)))∧S'=S):=by
 refine aF (rs:=[.tmp 4]) Tryz.checked.mixed Tryz.func330 Tryz.ntmps330 rfl rfl rfl rfl rfl ?_
 simp -implicitDefEqProofs (disch:=omega) only[go_sem]
 refine aX (ι:=Nat) Tryz.checked.mixed rfl [0,1,7,8] (fun i=>[.c (.d (.sl (xs.map aJ.enc))),.c (.fn g (gV 1 caps)),.c (.d (.i .i64 xs.length)),.c (.d (.i .i64 i))]) (fun _=>[]::S)
  (fun i=>i≤xs.length∧∀j,∀hj:j<xs.length,j<i→p xs[j]=false) (fun i=>xs.length-i) 0 rfl rfl ⟨Nat.zero_le _,fun j _ h=>by omega⟩ ?_
 rintro i ⟨p1,p2⟩
 simp -implicitDefEqProofs (disch:=omega) only[go_sem]
 with_reducible refine aA (fun hb=> ?_) (fun hb=> ?_)<;>have h:=hb<;>(try simp only[wf_preprocess] at h)<;>simp -implicitDefEqProofs (disch:=omega) only[go_sem,hb]<;>(repeat(with_reducible refine And.intro ?_ ?_;focus first|omega|rfl|assumption|exact⟨_,rfl,rfl⟩|(simp;omega)|(simp;done)))
 ·have hi:i<xs.length:=by omega
  (repeat(with_reducible refine And.intro ?_ ?_;focus first|omega|rfl|assumption|exact⟨_,rfl,rfl⟩|(simp;omega)|(simp;done)))
  refine bq rfl (hp xs[i] (List.getElem_mem hi) [_]) ?_
  simp -implicitDefEqProofs (disch:=omega) only[go_sem]
  with_reducible refine aA (fun hb=> ?_) (fun hb=> ?_)<;>have h:=hb<;>(try simp only[wf_preprocess] at h)<;>simp -implicitDefEqProofs (disch:=omega) only[go_sem,hb]<;>(repeat(with_reducible refine And.intro ?_ ?_;focus first|omega|rfl|assumption|exact⟨_,rfl,rfl⟩|(simp;omega)|(simp;done)))
  ·rw[pU hi p2 h]
  ·refine bI (i+1) (by omega) rfl rfl ⟨by omega,fun j hj hji=> ?_⟩
   by_cases e:j=i
   ·subst e;exact h
   ·exact p2 j hj (by omega)
 ·rw[sJ (fun j hj=>p2 j hj (by omega))]
theorem Cv(g:Nat)(caps:List (Key×Nat))(S:Store)(xs:List aJ)(p:aJ→Bool)(hl:xs.length≤1073741824)(hp:∀x∈xs,mP Tryz.prog g caps S [x.v] (.c (.d (.b (p x))))):
 bD Tryz.prog 285 [.c (.d (.sl (xs.map aJ.enc))),.c (.fn g caps)] S (fun r S'=>r=.c (.d (.b (xs.any p)))∧S'=S):=by
 refine aF (rs:=[.tmp 4]) Tryz.checked.mixed Tryz.func285 Tryz.ntmps285 rfl rfl rfl rfl rfl ?_
 simp -implicitDefEqProofs (disch:=omega) only[go_sem]
 refine bq rfl (GL g (gV 1 caps) _ xs p hl fun x hx=>(hp x hx).push _) ?_
 simp -implicitDefEqProofs (disch:=omega) only[go_sem]
 exact aD qQ
theorem Cw(g:Nat)(caps:List (Key×Nat))(S:Store)(xs:List (List UInt8))(p:(List UInt8)→Bool)(hl:xs.length≤1073741824)(hp:∀x∈xs,mP Tryz.prog g caps S [.c (.d (.s x))] (.c (.d (.b (p x))))):
 bD Tryz.prog 317 [.c (.d (.sl (xs.map encS))),.c (.fn g caps)] S (fun r S'=>r=.c (.d (.i .i64 (oZ p xs)))∧S'=S):=by
 refine aF (rs:=[.tmp 4]) Tryz.checked.mixed Tryz.func317 Tryz.ntmps317 rfl rfl rfl rfl rfl ?_
 simp -implicitDefEqProofs (disch:=omega) only[go_sem,encS]
 refine aX (ι:=Nat) Tryz.checked.mixed rfl [0,1,7,8] (fun i=>[.c (.d (.sl (xs.map encS))),.c (.fn g (gV 1 caps)),.c (.d (.i .i64 xs.length)),.c (.d (.i .i64 i))]) (fun _=>[]::S)
  (fun i=>i≤xs.length∧∀j,∀hj:j<xs.length,j<i→p xs[j]=false) (fun i=>xs.length-i) 0 rfl rfl ⟨Nat.zero_le _,fun j _ h=>by omega⟩ ?_
 rintro i ⟨p1,p2⟩
 simp -implicitDefEqProofs (disch:=omega) only[go_sem,encS]
 with_reducible refine aA (fun hb=> ?_) (fun hb=> ?_)<;>have h:=hb<;>(try simp only[wf_preprocess] at h)<;>simp -implicitDefEqProofs (disch:=omega) only[go_sem,hb,encS]<;>(repeat(with_reducible refine And.intro ?_ ?_;focus first|omega|rfl|assumption|exact⟨_,rfl,rfl⟩|(simp;omega)|(simp;done)))
 ·have hi:i<xs.length:=by omega
  (repeat(with_reducible refine And.intro ?_ ?_;focus first|omega|rfl|assumption|exact⟨_,rfl,rfl⟩|(simp;omega)|(simp;done)))
  refine bq rfl (hp xs[i] (List.getElem_mem hi) [_]) ?_
  simp -implicitDefEqProofs (disch:=omega) only[go_sem,encS]
  with_reducible refine aA (fun hb=> ?_) (fun hb=> ?_)<;>have h:=hb<;>(try simp only[wf_preprocess] at h)<;>simp -implicitDefEqProofs (disch:=omega) only[go_sem,hb,encS]<;>(repeat(with_reducible refine And.intro ?_ ?_;focus first|omega|rfl|assumption|exact⟨_,rfl,rfl⟩|(simp;omega)|(simp;done)))
  ·rw[pU hi p2 h]
  ·refine bI (i+1) (by omega) rfl rfl ⟨by omega,fun j hj hji=> ?_⟩
   by_cases e:j=i
   ·subst e;exact h
   ·exact p2 j hj (by omega)
 ·rw[sJ (fun j hj=>p2 j hj (by omega))]
theorem sS(g:Nat)(caps:List (Key×Nat))(S:Store)(xs:List (List UInt8))(p:(List UInt8)→Bool)(hl:xs.length≤1073741824)(hp:∀x∈xs,mP Tryz.prog g caps S [.c (.d (.s x))] (.c (.d (.b (p x))))):
 bD Tryz.prog 264 [.c (.d (.sl (xs.map encS))),.c (.fn g caps)] S (fun r S'=>r=.c (.d (.b (xs.any p)))∧S'=S):=by
 refine aF (rs:=[.tmp 4]) Tryz.checked.mixed Tryz.func264 Tryz.ntmps264 rfl rfl rfl rfl rfl ?_
 simp -implicitDefEqProofs (disch:=omega) only[go_sem,encS]
 refine bq rfl (Cw g (gV 1 caps) _ xs p hl fun x hx=>(hp x hx).push _) ?_
 simp -implicitDefEqProofs (disch:=omega) only[go_sem,encS]
 exact aD qQ
theorem U8(xs ys:List (List UInt8))(hl:xs.length≤1073741824):aI Tryz.prog 359 [.c (.d (.sl (xs.map encS))),.c (.d (.sl (ys.map encS)))] (.c (.d (.b (dec (xs=ys))))):=fun S=>by
 refine aF (rs:=[.tmp 4]) Tryz.checked.mixed Tryz.func359 Tryz.ntmps359 rfl rfl rfl rfl rfl ?_
 simp -implicitDefEqProofs (disch:=omega) only[go_sem,encS]
 with_reducible refine aA (fun hb=> ?_) (fun hb=> ?_)<;>have h:=hb<;>(try simp only[wf_preprocess] at h)<;>simp -implicitDefEqProofs (disch:=omega) only[go_sem,hb,encS]<;>(repeat(with_reducible refine And.intro ?_ ?_;focus first|omega|rfl|assumption|exact⟨_,rfl,rfl⟩|(simp;omega)|(simp;done)))
 ·exact aD (aL (fun e=>h (by rw[e]))).symm
 have hl':xs.length=ys.length:=by omega
 refine aX (ι:=Nat) Tryz.checked.mixed rfl [0,1,12,13] (fun i=>[.c (.d (.sl (xs.map encS))),.c (.d (.sl (ys.map encS))),.c (.d (.i .i64 xs.length)),.c (.d (.i .i64 i))]) (fun _=>[]::S)
  (fun i=>i≤xs.length∧∀j,j<i→xs[j]? =ys[j]?) (fun y=>xs.length-y) 0 rfl rfl ⟨Nat.zero_le _,fun j h=>by omega⟩ ?_
 rintro i ⟨p1,p2⟩
 simp -implicitDefEqProofs (disch:=omega) only[go_sem,encS]
 with_reducible refine aA (fun hb=> ?_) (fun hb=> ?_)<;>have h:=hb<;>(try simp only[wf_preprocess] at h)<;>simp -implicitDefEqProofs (disch:=omega) only[go_sem,hb,encS]<;>(repeat(with_reducible refine And.intro ?_ ?_;focus first|omega|rfl|assumption|exact⟨_,rfl,rfl⟩|(simp;omega)|(simp;done)))
 ·have hi:i<xs.length:=by omega
  have hi':i<ys.length:=by omega
  (repeat(with_reducible refine And.intro ?_ ?_;focus first|omega|rfl|assumption|exact⟨_,rfl,rfl⟩|(simp;omega)|(simp;done)))
  with_reducible refine aA (fun hb=> ?_) (fun hb=> ?_)<;>have h:=hb<;>(try simp only[wf_preprocess] at h)<;>simp -implicitDefEqProofs (disch:=omega) only[go_sem,hb,encS]<;>(repeat(with_reducible refine And.intro ?_ ?_;focus first|omega|rfl|assumption|exact⟨_,rfl,rfl⟩|(simp;omega)|(simp;done)))
  ·exact aD (aL (fun e=>h (by simp only[e]))).symm
  refine bI (i+1) (by omega) rfl rfl ⟨by omega,fun j hj=> ?_⟩
  by_cases e:j=i
  ·subst e
   rw[List.getElem?_eq_getElem hi,List.getElem?_eq_getElem hi',h]
  ·exact p2 j (by omega)
 ·have hi:i=xs.length:=by omega
  refine aD (bC (List.ext_getElem? fun j=> ?_)).symm
  by_cases hj:j<i
  ·exact p2 j hj
  ·rw[List.getElem?_eq_none (by omega),List.getElem?_eq_none (by omega)]
theorem OV(xs ys:List (List UInt8))(hl:xs.length≤1073741824):aI Tryz.prog 361 [.c (.d (.sl (xs.map encS))),.c (.d (.sl (ys.map encS)))] (.c (.d (.b (dec (xs=ys))))):=fun S=>by
 refine aF (rs:=[.tmp 4]) Tryz.checked.mixed Tryz.func361 Tryz.ntmps361 rfl rfl rfl rfl rfl ?_
 simp -implicitDefEqProofs (disch:=omega) only[go_sem,encS]
 with_reducible refine aA (fun hb=> ?_) (fun hb=> ?_)<;>have h:=hb<;>(try simp only[wf_preprocess] at h)<;>simp -implicitDefEqProofs (disch:=omega) only[go_sem,hb,encS]<;>(repeat(with_reducible refine And.intro ?_ ?_;focus first|omega|rfl|assumption|exact⟨_,rfl,rfl⟩|(simp;omega)|(simp;done)))
 ·exact aD (aL (fun e=>h (by rw[e]))).symm
 have hl':xs.length=ys.length:=by omega
 refine aX (ι:=Nat) Tryz.checked.mixed rfl [0,1,5] (fun i=>[.c (.d (.sl (xs.map encS))),.c (.d (.sl (ys.map encS))),.c (.d (.i .i64 i))]) (fun _=>[]::S)
  (fun i=>i≤xs.length∧∀j,j<i→xs[j]? =ys[j]?) (fun y=>xs.length-y) 0 rfl rfl ⟨Nat.zero_le _,fun j h=>by omega⟩ ?_
 rintro i ⟨p1,p2⟩
 simp -implicitDefEqProofs (disch:=omega) only[go_sem,encS]
 with_reducible refine aA (fun hb=> ?_) (fun hb=> ?_)<;>have h:=hb<;>(try simp only[wf_preprocess] at h)<;>simp -implicitDefEqProofs (disch:=omega) only[go_sem,hb,encS]<;>(repeat(with_reducible refine And.intro ?_ ?_;focus first|omega|rfl|assumption|exact⟨_,rfl,rfl⟩|(simp;omega)|(simp;done)))
 ·have hi:i<xs.length:=by omega
  have hi':i<ys.length:=by omega
  (repeat(with_reducible refine And.intro ?_ ?_;focus first|omega|rfl|assumption|exact⟨_,rfl,rfl⟩|(simp;omega)|(simp;done)))
  with_reducible refine aA (fun hb=> ?_) (fun hb=> ?_)<;>have h:=hb<;>(try simp only[wf_preprocess] at h)<;>simp -implicitDefEqProofs (disch:=omega) only[go_sem,hb,encS]<;>(repeat(with_reducible refine And.intro ?_ ?_;focus first|omega|rfl|assumption|exact⟨_,rfl,rfl⟩|(simp;omega)|(simp;done)))
  ·exact aD (aL (fun e=>h (by simp only[e]))).symm
  refine bI (i+1) (by omega) rfl rfl ⟨by omega,fun j hj=> ?_⟩
  by_cases e:j=i
  ·subst e
   rw[List.getElem?_eq_getElem hi,List.getElem?_eq_getElem hi',h]
  ·exact p2 j (by omega)
 ·have hi:i=xs.length:=by omega
  refine aD (bC (List.ext_getElem? fun j=> ?_)).symm
  by_cases hj:j<i
  ·exact p2 j hj
  ·rw[List.getElem?_eq_none (by omega),List.getElem?_eq_none (by omega)]
end Go.Proofs.YtlmhknhlmicmeaaGreatDoor
namespace Go.Ab
theorem zN{s:List UInt8}{xs:List (List UInt8)}(h:s∈xs):s.length≤bF (xs.map encS):=by
 have:=dP (List.mem_map_of_mem (f:=encS) h)
 simpa [encS,bO,D.sz] using this
noncomputable def iR(xs:List (List UInt8)):Bool:=dec xs.Nodup&&xs.all validName
noncomputable def among(xs ys:List (List UInt8)):Bool:=xs.all fun s=>dec (s∈ys)
noncomputable def jB(vars:List (List UInt8))(t:aj):Bool:=qE t&&among (lG [] t) vars
noncomputable def l9(vars:List (List UInt8))(ts:List aj):Bool:=ts.all (jB vars)
theorem Yf{s l:List UInt8}{m:List (List UInt8)}:s∈BO l m↔s=l∨s∈m:=by
 unfold BO
 split
 ·rename_i h
  exact⟨.inr,fun x=>x.elim (fun e=>e▸h) id⟩
 ·rw[List.mem_append,List.mem_singleton];exact Or.comm
theorem sU{α:Type}{xs:List α}{i:Nat}(hi:i<xs.length):xs.take (i+1)=xs.take i++[xs[i]]:=List.take_succ_eq_append_getElem hi
theorem AQ{α:Type}{xs:List α}{x:α}:(xs++[x]).Nodup↔xs.Nodup∧x∉xs:=by
 rw[List.nodup_append]
 constructor
 ·rintro⟨h1,_,h3⟩
  exact⟨h1,fun hx=>h3 x hx x (by simp) rfl⟩
 ·rintro⟨h1,h2⟩
  exact⟨h1,by simp,fun a ha b hb e=>by simp at hb;subst hb;exact h2 (e▸ha)⟩
theorem JO{α:Type}{xs:List α}{i:Nat}(hi:i<xs.length)(h:xs[i]∈xs.take i):¬xs.Nodup:=fun hn=>by
 have h1:(xs.take (i+1)).Nodup:=hn.sublist (List.take_sublist _ _)
 rw[sU hi] at h1
 exact(AQ.1 h1).2 h
end Go.Ab
namespace Go.Proofs.YtlmhknhlmicmeaaGreatDoor
open Go Go.Ab
theorem yR(xs:List (List UInt8))(hl:xs.length≤1073741824):aI Tryz.prog 233 [.c (.d (.sl (xs.map encS)))] (.c (.d (.b (dec xs.Nodup)))):=fun S=>by
 refine aF (rs:=[.tmp 2]) Tryz.checked.mixed Tryz.func233 Tryz.ntmps233 rfl rfl rfl rfl rfl ?_
 simp -implicitDefEqProofs (disch:=omega) only[go_sem,encS]
 (repeat(with_reducible refine And.intro ?_ ?_;focus first|omega|rfl|assumption|exact⟨_,rfl,rfl⟩|(simp;omega)|(simp;done)))
 refine aX (ι:=Nat×List (List UInt8)) Tryz.checked.mixed rfl [3,7,8,9] (fun y=>[.c (.mp (0,0)),.c (.d (.sl (xs.map encS))),.c (.d (.i .i64 xs.length)),.c (.d (.i .i64 y.1))]) (fun y=>[.mp y.2]::S)
  (fun y=>y.1≤xs.length∧(∀s,s∈y.2↔s∈xs.take y.1)∧(xs.take y.1).Nodup) (fun y=>xs.length-y.1) (0,[]) rfl rfl ⟨Nat.zero_le _,fun s=>by simp,by simp⟩ ?_
 rintro⟨i,m⟩ ⟨p1,p2,p3⟩
 simp only at p1 p2 p3
 simp -implicitDefEqProofs (disch:=omega) only[go_sem,encS]
 with_reducible refine aA (fun hb=> ?_) (fun hb=> ?_)<;>have h:=hb<;>(try simp only[wf_preprocess] at h)<;>simp -implicitDefEqProofs (disch:=omega) only[go_sem,hb,encS]<;>(repeat(with_reducible refine And.intro ?_ ?_;focus first|omega|rfl|assumption|exact⟨_,rfl,rfl⟩|(simp;omega)|(simp;done)))
 ·have hi:i<xs.length:=by omega
  (repeat(with_reducible refine And.intro ?_ ?_;focus first|omega|rfl|assumption|exact⟨_,rfl,rfl⟩|(simp;omega)|(simp;done)))
  with_reducible refine aA (fun hb=> ?_) (fun hb=> ?_)<;>have h:=hb<;>(try simp only[wf_preprocess] at h)<;>simp -implicitDefEqProofs (disch:=omega) only[go_sem,hb,encS]<;>(repeat(with_reducible refine And.intro ?_ ?_;focus first|omega|rfl|assumption|exact⟨_,rfl,rfl⟩|(simp;omega)|(simp;done)))
  ·exact aD (aL (JO hi ((p2 _).1 h))).symm
  ·refine bI (i+1,BO xs[i] m) (by simp only;omega) rfl rfl ⟨by simp only;omega,fun s=> ?_,?_⟩
   ·simp only
    rw[Yf,sU hi,List.mem_append,List.mem_singleton,p2]
    exact Or.comm
   ·simp only
    rw[sU hi,AQ]
    exact⟨p3,fun hx=>h ((p2 _).2 hx)⟩
 ·rw[List.take_of_length_le (by omega)] at p3
  exact aD (bC p3).symm
theorem yS(xs:List (List UInt8))(hl:xs.length≤1073741824):aI Tryz.prog 154 [.c (.d (.sl (xs.map encS)))] (.c (.d (.b (dec xs.Nodup)))):=fun S=>by
 refine aF (rs:=[.tmp 2]) Tryz.checked.mixed Tryz.func154 Tryz.ntmps154 rfl rfl rfl rfl rfl ?_
 simp -implicitDefEqProofs (disch:=omega) only[go_sem,encS]
 refine aX (ι:=Nat) Tryz.checked.mixed rfl [0,3] (fun i=>[.c (.d (.sl (xs.map encS))),.c (.d (.i .i64 i))]) (fun _=>[]::S)
  (fun i=>i≤xs.length∧(xs.take i).Nodup) (fun i=>xs.length-i) 0 rfl rfl ⟨Nat.zero_le _,by simp⟩ ?_
 rintro i ⟨p1,p3⟩
 simp -implicitDefEqProofs (disch:=omega) only[go_sem,encS]
 with_reducible refine aA (fun hb=> ?_) (fun hb=> ?_)<;>have h:=hb<;>(try simp only[wf_preprocess] at h)<;>simp -implicitDefEqProofs (disch:=omega) only[go_sem,hb,encS]<;>(repeat(with_reducible refine And.intro ?_ ?_;focus first|omega|rfl|assumption|exact⟨_,rfl,rfl⟩|(simp;omega)|(simp;done)))
 ·have hi:i<xs.length:=by omega
  have hc:∀y∈xs.map encS,y.length=1:=fun y hy=>by
   obtain⟨s,_,rfl⟩:=List.mem_map.1 hy
   rfl
  have e:(xs.map encS).take i=(xs.take i).map encS:=List.map_take.symm
  refine And.intro ⟨by omega,by omega,hc⟩ ?_
  (repeat(with_reducible refine And.intro ?_ ?_;focus first|omega|rfl|assumption|exact⟨_,rfl,rfl⟩|(simp;omega)|(simp;done)))
  simp -implicitDefEqProofs (disch:=omega) only[go_sem,Int.toNat_zero,e]
  refine ay (nI (xs.take i) xs[i] (by simp;omega)) ?_
  simp -implicitDefEqProofs (disch:=omega) only[go_sem]<;>(repeat(with_reducible refine And.intro ?_ ?_;focus first|omega|rfl|assumption|exact⟨_,rfl,rfl⟩|(simp;omega)|(simp;done)))
  with_reducible refine aA (fun hb=> ?_) (fun hb=> ?_)<;>have h:=hb<;>(try simp only[wf_preprocess] at h)<;>simp -implicitDefEqProofs (disch:=omega) only[go_sem,hb]<;>(repeat(with_reducible refine And.intro ?_ ?_;focus first|omega|rfl|assumption|exact⟨_,rfl,rfl⟩|(simp;omega)|(simp;done)))
  ·exact aD (aL (JO hi h)).symm
  ·refine bI (i+1) (by omega) rfl rfl ⟨by omega,?_⟩
   rw[sU hi,AQ]
   exact⟨p3,h⟩
 ·rw[List.take_of_length_le (by omega)] at p3
  exact aD (bC p3).symm
theorem GN(xs:List (List UInt8))(hl:xs.length≤1073741824)(hs:∀s∈xs,s.length≤4194304):aI Tryz.prog 247 [.c (.d (.sl (xs.map encS)))] (.c (.d (.b (xs.all validName)))):=fun S=>by
 refine aF (rs:=[.tmp 2]) Tryz.checked.mixed Tryz.func247 Tryz.ntmps247 rfl rfl rfl rfl rfl ?_
 simp -implicitDefEqProofs (disch:=omega) only[go_sem,encS]
 refine aX (ι:=Nat) Tryz.checked.mixed rfl [0,3] (fun i=>[.c (.d (.sl (xs.map encS))),.c (.d (.i .i64 i))]) (fun _=>[]::S)
  (fun i=>i≤xs.length∧(xs.drop i).all validName=xs.all validName) (fun i=>xs.length-i) 0 rfl rfl ⟨Nat.zero_le _,rfl⟩ ?_
 rintro i ⟨p1,p2⟩
 simp -implicitDefEqProofs (disch:=omega) only[go_sem,encS]
 with_reducible refine aA (fun hb=> ?_) (fun hb=> ?_)<;>have h:=hb<;>(try simp only[wf_preprocess] at h)<;>simp -implicitDefEqProofs (disch:=omega) only[go_sem,hb,encS]<;>(repeat(with_reducible refine And.intro ?_ ?_;focus first|omega|rfl|assumption|exact⟨_,rfl,rfl⟩|(simp;omega)|(simp;done)))
 ·have hi:i<xs.length:=by omega
  have hz:=hs _ (List.getElem_mem hi)
  rw[List.drop_eq_getElem_cons hi,List.all_cons] at p2
  (repeat(with_reducible refine And.intro ?_ ?_;focus first|omega|rfl|assumption|exact⟨_,rfl,rfl⟩|(simp;omega)|(simp;done)))
  refine ay (jA xs[i] (by omega)) ?_
  simp -implicitDefEqProofs (disch:=omega) only[go_sem]<;>(repeat(with_reducible refine And.intro ?_ ?_;focus first|omega|rfl|assumption|exact⟨_,rfl,rfl⟩|(simp;omega)|(simp;done)))
  with_reducible refine aA (fun hb=> ?_) (fun hb=> ?_)<;>have h:=hb<;>(try simp only[wf_preprocess] at h)<;>simp -implicitDefEqProofs (disch:=omega) only[go_sem,hb]<;>(repeat(with_reducible refine And.intro ?_ ?_;focus first|omega|rfl|assumption|exact⟨_,rfl,rfl⟩|(simp;omega)|(simp;done)))
  ·rw[←p2,h];rfl
  ·exact bI (i+1) (by omega) rfl rfl ⟨by omega,by rw[←p2,h];rfl⟩
 ·rw[List.drop_of_length_le (by omega)] at p2
  rw[←p2];rfl
theorem zm(xs:List (List UInt8))(hl:xs.length≤1073741824)(hs:∀s∈xs,s.length≤4194304):aI Tryz.prog 169 [.c (.d (.sl (xs.map encS)))] (.c (.d (.b (iR xs)))):=fun S=>by
 have hcl:∀s∈xs,aI Tryz.prog 265 [.c (.d (.s s))] (.c (.d (.b (!validName s)))):=fun s hx S=>by
  have:=hs s hx
  refine aF (rs:=[.tmp 2]) Tryz.checked.mixed Tryz.func265 Tryz.ntmps265 rfl rfl rfl rfl rfl ?_
  simp -implicitDefEqProofs (disch:=omega) only[go_sem]
  refine ay (jy s (by omega)) ?_
  simp -implicitDefEqProofs (disch:=omega) only[go_sem]<;>(repeat(with_reducible refine And.intro ?_ ?_;focus first|omega|rfl|assumption|exact⟨_,rfl,rfl⟩|(simp;omega)|(simp;done)))
 have ha:(xs.any fun s=> !validName s)= !xs.all validName:=by rw[List.not_all_eq_any_not]
 refine aF (rs:=[.tmp 2]) Tryz.checked.mixed Tryz.func169 Tryz.ntmps169 rfl rfl rfl rfl rfl ?_
 simp -implicitDefEqProofs (disch:=omega) only[go_sem]
 refine ay (yR xs hl) ?_
 simp -implicitDefEqProofs (disch:=omega) only[go_sem]<;>(repeat(with_reducible refine And.intro ?_ ?_;focus first|omega|rfl|assumption|exact⟨_,rfl,rfl⟩|(simp;omega)|(simp;done)))
 with_reducible refine aA (fun hb=> ?_) (fun hb=> ?_)<;>have h:=hb<;>(try simp only[wf_preprocess] at h)<;>simp -implicitDefEqProofs (disch:=omega) only[go_sem,hb]<;>(repeat(with_reducible refine And.intro ?_ ?_;focus first|omega|rfl|assumption|exact⟨_,rfl,rfl⟩|(simp;omega)|(simp;done)))
 ·refine bq rfl (sS 265 [] _ xs (fun s=> !validName s) hl fun s hx=>mP.IJ (hcl s hx)) ?_
  simp -implicitDefEqProofs (disch:=omega) only[go_sem]
  rw[ha]
  exact aD (by unfold iR;rw[hb];simp)
 ·exact aD (by unfold iR;rw[hb];rfl)
theorem Ev(xs ys:List (List UInt8))(hl:xs.length≤1073741824)(hl':ys.length≤1073741824):aI Tryz.prog 236 [.c (.d (.sl (xs.map encS))),.c (.d (.sl (ys.map encS)))] (.c (.d (.b (among xs ys)))):=fun S=>by
 have ha:(xs.any fun s=> !dec (s∈ys))= !among xs ys:=by unfold among;rw[List.not_all_eq_any_not]
 have hcl:∀(rest:List Ab.Obj) (s:List UInt8),mP Tryz.prog 300 [((0,0),0)] ((.box [.d (.sl (ys.map encS))]::rest)::S) [.c (.d (.s s))] (.c (.d (.b (!dec (s∈ys))))):=fun rest s F=>by
  refine aF (rs:=[.tmp 3]) Tryz.checked.mixed Tryz.func300 Tryz.ntmps300 rfl rfl rfl rfl rfl ?_
  simp -implicitDefEqProofs (disch:=omega) only[go_sem]
  refine ay (mK ys s hl') ?_
  simp -implicitDefEqProofs (disch:=omega) only[go_sem]<;>(repeat(with_reducible refine And.intro ?_ ?_;focus first|omega|rfl|assumption|exact⟨_,rfl,rfl⟩|(simp;omega)|(simp;done)))
 refine aF (rs:=[.tmp 4]) Tryz.checked.mixed Tryz.func236 Tryz.ntmps236 rfl rfl rfl rfl rfl ?_
 simp -implicitDefEqProofs (disch:=omega) only[go_sem]
 refine bq rfl (sS 300 [((0,0),0)] _ xs (fun s=> !dec (s∈ys)) hl fun s hx=>hcl [] s) ?_
 simp -implicitDefEqProofs (disch:=omega) only[go_sem]
 rw[ha]
 exact aD (by simp)
theorem BA(t:aj)(vars:List (List UInt8))(hsz:t.sz≤4194304)(hv:vars.length≤1073741824):aI Tryz.prog 226 [t.v,.c (.d (.sl (vars.map encS)))] (.c (.d (.b (jB vars t)))):=fun S=>by
 have h1:=yQ t []
 have h2:=jR t
 refine aF (rs:=[.tmp 4]) Tryz.checked.mixed Tryz.func226 Tryz.ntmps226 rfl rfl rfl rfl rfl ?_
 simp -implicitDefEqProofs (disch:=omega) only[go_sem]
 refine ay (yc t hsz) ?_
 simp -implicitDefEqProofs (disch:=omega) only[go_sem]<;>(repeat(with_reducible refine And.intro ?_ ?_;focus first|omega|rfl|assumption|exact⟨_,rfl,rfl⟩|(simp;omega)|(simp;done)))
 with_reducible refine aA (fun hb=> ?_) (fun hb=> ?_)<;>have h:=hb<;>(try simp only[wf_preprocess] at h)<;>simp -implicitDefEqProofs (disch:=omega) only[go_sem,hb]<;>(repeat(with_reducible refine And.intro ?_ ?_;focus first|omega|rfl|assumption|exact⟨_,rfl,rfl⟩|(simp;omega)|(simp;done)))
 ·refine ay (GD t hsz) ?_
  simp -implicitDefEqProofs (disch:=omega) only[go_sem]<;>(repeat(with_reducible refine And.intro ?_ ?_;focus first|omega|rfl|assumption|exact⟨_,rfl,rfl⟩|(simp;omega)|(simp;done)))
  refine ay (Ev (lG [] t) vars (by simp at h1;omega) hv) ?_
  simp -implicitDefEqProofs (disch:=omega) only[go_sem]<;>(repeat(with_reducible refine And.intro ?_ ?_;focus first|omega|rfl|assumption|exact⟨_,rfl,rfl⟩|(simp;omega)|(simp;done)))
  exact aD (by unfold jB;rw[hb];rfl)
 ·exact aD (by unfold jB;rw[hb];rfl)
theorem GQ(ts:List aj)(vars:List (List UInt8))(hl:ts.length≤1073741824)(hsz:∀t∈ts,t.sz≤4194304)(hv:vars.length≤1073741824):aI Tryz.prog 224 [.c (.d (.sl (ts.map aj.enc))),.c (.d (.sl (vars.map encS)))] (.c (.d (.b (l9 vars ts)))):=fun S=>by
 have ha:(ts.any fun t=> !jB vars t)= !l9 vars ts:=by unfold l9;rw[List.not_all_eq_any_not]
 have hcl:∀(rest:List Ab.Obj) (t:aj),t.sz≤4194304→mP Tryz.prog 294 [((0,0),0)] ((.box [.d (.sl (vars.map encS))]::rest)::S) [t.v] (.c (.d (.b (!jB vars t)))):=fun rest t ht F=>by
  refine aF (rs:=[.tmp 3]) Tryz.checked.mixed Tryz.func294 Tryz.ntmps294 rfl rfl rfl rfl rfl ?_
  simp -implicitDefEqProofs (disch:=omega) only[go_sem]
  refine ay (BA t vars ht hv) ?_
  simp -implicitDefEqProofs (disch:=omega) only[go_sem]<;>(repeat(with_reducible refine And.intro ?_ ?_;focus first|omega|rfl|assumption|exact⟨_,rfl,rfl⟩|(simp;omega)|(simp;done)))
 refine aF (rs:=[.tmp 4]) Tryz.checked.mixed Tryz.func224 Tryz.ntmps224 rfl rfl rfl rfl rfl ?_
 simp -implicitDefEqProofs (disch:=omega) only[go_sem]
 refine bq rfl (BJ 294 [((0,0),0)] _ ts (fun t=> !jB vars t) hl fun t hx=>hcl [] t (hsz t hx)) ?_
 simp -implicitDefEqProofs (disch:=omega) only[go_sem]
 rw[ha]
 exact aD (by simp)
theorem zn(xs:List (List UInt8))(most:Int)(hl:xs.length≤1073741824)(hs:∀s∈xs,s.length≤4194304):aI Tryz.prog 153 [.c (.d (.sl (xs.map encS))),.c (.d (.i .i64 most))] (.c (.d (.b (dec ((xs.length:Int)≤most)&&iR xs)))):=fun S=>by
 refine aF (rs:=[.tmp 4]) Tryz.checked.mixed Tryz.func153 Tryz.ntmps153 rfl rfl rfl rfl rfl ?_
 simp -implicitDefEqProofs (disch:=omega) only[go_sem]
 with_reducible refine aA (fun hb=> ?_) (fun hb=> ?_)<;>have h:=hb<;>(try simp only[wf_preprocess] at h)<;>simp -implicitDefEqProofs (disch:=omega) only[go_sem,hb]<;>(repeat(with_reducible refine And.intro ?_ ?_;focus first|omega|rfl|assumption|exact⟨_,rfl,rfl⟩|(simp;omega)|(simp;done)))
 ·have h1:=h
  refine ay (GN xs hl hs) ?_
  simp -implicitDefEqProofs (disch:=omega) only[go_sem]<;>(repeat(with_reducible refine And.intro ?_ ?_;focus first|omega|rfl|assumption|exact⟨_,rfl,rfl⟩|(simp;omega)|(simp;done)))
  with_reducible refine aA (fun hb=> ?_) (fun hb=> ?_)<;>have h:=hb<;>(try simp only[wf_preprocess] at h)<;>simp -implicitDefEqProofs (disch:=omega) only[go_sem,hb]<;>(repeat(with_reducible refine And.intro ?_ ?_;focus first|omega|rfl|assumption|exact⟨_,rfl,rfl⟩|(simp;omega)|(simp;done)))
  ·refine ay (yS xs hl) ?_
   simp -implicitDefEqProofs (disch:=omega) only[go_sem]<;>(repeat(with_reducible refine And.intro ?_ ?_;focus first|omega|rfl|assumption|exact⟨_,rfl,rfl⟩|(simp;omega)|(simp;done)))
   exact aD (by rw[bC h1];unfold iR;rw[hb];simp)
  ·exact aD (by rw[bC h1];unfold iR;rw[hb];simp)
 ·exact aD (by rw[aL h];rfl)
theorem GR(t:aj)(vars:List (List UInt8))(hsz:t.sz≤4194304)(hv:vars.length≤1073741824):aI Tryz.prog 250 [t.v,.c (.d (.sl (vars.map encS)))] (.c (.d (.b (jB vars t)))):=fun S=>by
 have h1:=yQ t []
 have h2:=jR t
 have hlen:(lG [] t).length≤1073741824:=by simp at h1;omega
 refine aF (rs:=[.tmp 4]) Tryz.checked.mixed Tryz.func250 Tryz.ntmps250 rfl rfl rfl rfl rfl ?_
 simp -implicitDefEqProofs (disch:=omega) only[go_sem]
 refine ay (GJ t hsz) ?_
 simp -implicitDefEqProofs (disch:=omega) only[go_sem]<;>(repeat(with_reducible refine And.intro ?_ ?_;focus first|omega|rfl|assumption|exact⟨_,rfl,rfl⟩|(simp;omega)|(simp;done)))
 generalize hxs:lG [] t=xs at hlen
 refine aX (ι:=Nat) Tryz.checked.mixed rfl [1,2,5,6] (fun i=>[.c (.d (.sl (vars.map encS))),.c (.ptr (0,0) 0),.c (.d (.sl (xs.map encS))),.c (.d (.i .i64 i))]) (fun _=>[.box [.d (.i .i64 t.aM),.d (.s t.fName),.d (.sl (t.fArgs.map aj.enc))]]::S)
  (fun i=>i≤xs.length∧among (xs.drop i) vars=among xs vars) (fun i=>xs.length-i) 0 rfl rfl ⟨Nat.zero_le _,rfl⟩ ?_
 rintro i ⟨p1,p2⟩
 simp -implicitDefEqProofs (disch:=omega) only[go_sem,encS]
 with_reducible refine aA (fun hb=> ?_) (fun hb=> ?_)<;>have h:=hb<;>(try simp only[wf_preprocess] at h)<;>simp -implicitDefEqProofs (disch:=omega) only[go_sem,hb,encS]<;>(repeat(with_reducible refine And.intro ?_ ?_;focus first|omega|rfl|assumption|exact⟨_,rfl,rfl⟩|(simp;omega)|(simp;done)))
 ·have hi:i<xs.length:=by omega
  rw[List.drop_eq_getElem_cons hi] at p2
  have p3:among xs vars=(dec (xs[i]∈vars)&&among (xs.drop (i+1)) vars):=p2.symm
  (repeat(with_reducible refine And.intro ?_ ?_;focus first|omega|rfl|assumption|exact⟨_,rfl,rfl⟩|(simp;omega)|(simp;done)))
  refine ay (nI vars xs[i] hv) ?_
  simp -implicitDefEqProofs (disch:=omega) only[go_sem]<;>(repeat(with_reducible refine And.intro ?_ ?_;focus first|omega|rfl|assumption|exact⟨_,rfl,rfl⟩|(simp;omega)|(simp;done)))
  with_reducible refine aA (fun hb=> ?_) (fun hb=> ?_)<;>have h:=hb<;>(try simp only[wf_preprocess] at h)<;>simp -implicitDefEqProofs (disch:=omega) only[go_sem,hb]<;>(repeat(with_reducible refine And.intro ?_ ?_;focus first|omega|rfl|assumption|exact⟨_,rfl,rfl⟩|(simp;omega)|(simp;done)))
  ·exact aD (by unfold jB;rw[hxs,p3,aL h];simp)
  ·exact bI (i+1) (by omega) rfl rfl ⟨by omega,by rw[p3,bC h];rfl⟩
 ·rw[List.drop_of_length_le (by omega)] at p2
  have p3:among xs vars=true:=p2.symm
  (repeat(with_reducible refine And.intro ?_ ?_;focus first|omega|rfl|assumption|exact⟨_,rfl,rfl⟩|(simp;omega)|(simp;done)))
  refine ay (yg t hsz) ?_
  simp -implicitDefEqProofs (disch:=omega) only[go_sem]<;>(repeat(with_reducible refine And.intro ?_ ?_;focus first|omega|rfl|assumption|exact⟨_,rfl,rfl⟩|(simp;omega)|(simp;done)))
  exact aD (by unfold jB;rw[hxs,p3];simp)
theorem U9(ts:List aj)(vars:List (List UInt8))(hl:ts.length≤1073741824)(hsz:∀t∈ts,t.sz≤4194304)(hv:vars.length≤1073741824):aI Tryz.prog 249 [.c (.d (.sl (ts.map aj.enc))),.c (.d (.sl (vars.map encS)))] (.c (.d (.b (l9 vars ts)))):=fun S=>by
 refine aF (rs:=[.tmp 4]) Tryz.checked.mixed Tryz.func249 Tryz.ntmps249 rfl rfl rfl rfl rfl ?_
 simp -implicitDefEqProofs (disch:=omega) only[go_sem]
 refine aX (ι:=Nat) Tryz.checked.mixed rfl [0,1,5] (fun i=>[.c (.d (.sl (ts.map aj.enc))),.c (.d (.sl (vars.map encS))),.c (.d (.i .i64 i))]) (fun _=>[]::S)
  (fun i=>i≤ts.length∧l9 vars (ts.drop i)=l9 vars ts) (fun i=>ts.length-i) 0 rfl rfl ⟨Nat.zero_le _,rfl⟩ ?_
 rintro i ⟨p1,p2⟩
 simp -implicitDefEqProofs (disch:=omega) only[go_sem]
 with_reducible refine aA (fun hb=> ?_) (fun hb=> ?_)<;>have h:=hb<;>(try simp only[wf_preprocess] at h)<;>simp -implicitDefEqProofs (disch:=omega) only[go_sem,hb]<;>(repeat(with_reducible refine And.intro ?_ ?_;focus first|omega|rfl|assumption|exact⟨_,rfl,rfl⟩|(simp;omega)|(simp;done)))
 ·have hi:i<ts.length:=by omega
  rw[List.drop_eq_getElem_cons hi] at p2
  have p3:l9 vars ts=(jB vars ts[i]&&l9 vars (ts.drop (i+1))):=p2.symm
  (repeat(with_reducible refine And.intro ?_ ?_;focus first|omega|rfl|assumption|exact⟨_,rfl,rfl⟩|(simp;omega)|(simp;done)))
  refine ay (GR ts[i] vars (hsz _ (List.getElem_mem hi)) hv) ?_
  simp -implicitDefEqProofs (disch:=omega) only[go_sem]<;>(repeat(with_reducible refine And.intro ?_ ?_;focus first|omega|rfl|assumption|exact⟨_,rfl,rfl⟩|(simp;omega)|(simp;done)))
  with_reducible refine aA (fun hb=> ?_) (fun hb=> ?_)<;>have h:=hb<;>(try simp only[wf_preprocess] at h)<;>simp -implicitDefEqProofs (disch:=omega) only[go_sem,hb]<;>(repeat(with_reducible refine And.intro ?_ ?_;focus first|omega|rfl|assumption|exact⟨_,rfl,rfl⟩|(simp;omega)|(simp;done)))
  ·rw[p3,h];rfl
  ·exact bI (i+1) (by omega) rfl rfl ⟨by omega,by rw[p3,h];rfl⟩
 ·rw[List.drop_of_length_le (by omega)] at p2
  rw[←p2];rfl
end Go.Proofs.YtlmhknhlmicmeaaGreatDoor
namespace Go.Ab
def ops:List (List UInt8):=[[43],[45],[42],[60],[61]]
def yT(t:aj):Prop:=t.aM=0∧t.fName=[]∧t.fArgs.length=0
def pW(e:au):Prop:=
 (1≤e.aM∧e.aM≤12)∧
 (if e.aM=5∨e.aM=11 then validName e.bB=true else e.bB=[])∧
 (if e.aM=3∨e.aM=4∨e.aM=5∨e.aM=6∨e.aM=8 then validName e.fName=true else if e.aM=10 then e.fName∈ops else e.fName=[])∧
 (if e.aM=1 then -999999≤e.fN∧e.fN≤999999 else if e.aM=2 then e.fN=0∨e.fN=1 else e.fN=0)∧
 (if e.aM=12 then qE e.fType=true else yT e.fType)∧
 (if e.aM=4∨e.aM=6 then True else if e.aM=5 then 1≤e.fArgs.length else if e.aM=7∨e.aM=11∨e.aM=12 then e.fArgs.length=1 else if e.aM=8∨e.aM=10 then e.fArgs.length=2 else if e.aM=9 then e.fArgs.length=3 else e.fArgs.length=0)∧
 (e.aM=7↔0<e.aK.length)
mutual
noncomputable def gK:au→Bool
 | .mk k t n m ty a b=>dec (pW (.mk k t n m ty a b))&&(jd a&&kZ b)
noncomputable def jd:List au→Bool
 |[]=>true
 |x::xs=>gK x&&jd xs
noncomputable def qU:aJ→Bool
 | .mk c v b=>validName c&&(iR v&&gK b)
noncomputable def kZ:List aJ→Bool
 |[]=>true
 |x::xs=>qU x&&kZ xs
end
theorem sV(x:au):gK x=(dec (pW x)&&(jd x.fArgs&&kZ x.aK)):=by cases x;rw[gK];rfl
theorem nJ(x:aJ):qU x=(validName x.bP&&(iR x.aN&&gK x.fBody)):=by cases x;rw[qU];rfl
theorem M4{xs:List au}{i:Nat}(hi:i<xs.length):jd (xs.drop i)=(gK xs[i]&&jd (xs.drop (i+1))):=by rw[List.drop_eq_getElem_cons hi,jd]
theorem OW{xs:List aJ}{i:Nat}(hi:i<xs.length):kZ (xs.drop i)=(qU xs[i]&&kZ (xs.drop (i+1))):=by rw[List.drop_eq_getElem_cons hi,kZ]
theorem Ew:∀{xs:List au},(xs.any fun t=> !gK t)= !jd xs
 |[]=>rfl
 |t::ts=>by rw[List.any_cons,Ew (xs:=ts),jd];simp
theorem GU:∀{xs:List aJ},(xs.any fun t=> !qU t)= !kZ xs
 |[]=>rfl
 |t::ts=>by rw[List.any_cons,GU (xs:=ts),kZ];simp
noncomputable def nA(e:au):Bool:=dec (e.cnt≤300)&&gK e
def lg(l:Int)(c:Nat):Int:=if l<0 then -1 else if c≤l then l-c else -1
theorem AR{l:Int}{a b:Nat}:lg (lg l a) b=lg l (a+b):=by unfold lg;split<;>split<;>(try split)<;>(try split)<;>omega
theorem EW{l:Int}{a:Nat}(h:l<0):lg l a= -1:=if_pos h
theorem Cx{l:Int}(h: -1≤l):lg l 0=l:=by unfold lg;split<;>(try split)<;>omega
theorem IZ{l:Int}{c:Nat}(h:0≤l): -1≤lg l c∧lg l c≤l:=by unfold lg;split<;>(try split)<;>omega
theorem Yg{l:Int}{c:Nat}(h:0≤l):decide (lg l c≥0)=decide ((c:Int)≤l):=by unfold lg;rw[if_neg (by omega)];split<;>simp<;>omega
theorem Ku:validName []=false:=aL fun h=>by have:=h.1.1;simp at this
theorem Va{s:List UInt8}(h:s∈ops):s.length=1:=by simp[ops] at h;rcases h with h|h|h|h|h<;>rw[h]<;>rfl
theorem M5{s:List UInt8}(h:s∈ops):validName s=false:=aL fun x=>by
 have h1:=x.2.2 0 (by have:=x.1.1;omega)
 simp[ops] at h;rcases h with h|h|h|h|h<;>rw[h] at h1<;>simp[lowerB,ni] at h1
theorem GV{t:aj}(h:yT t):qE t=false:=aL fun x=>by
 have h1:=x.1
 rw[vM,Bool.and_eq_true] at h1
 have h2:=iH h1.1
 rw[h.1] at h2
 omega
end Go.Ab
namespace Go.Ab
structure Hold (p:Prop):Prop where
 out:p
theorem AU{P:Program}{N:Nat}{c:Code}{Q:Exit→St→Prop}{tm:List (Nat×V)}{st st':Store}(ts:List Nat)(vs:List V)(hv:ts.map (look tm)=vs)(hs:st=st')
 (h:AW P N c Q ⟨gQ ts vs,st'⟩):AW P N c Q ⟨tm,st⟩:=by
 subst hs
 refine lN h ?_
 rw[←hv]
 exact EL fun t=>xS _ ts t
end Go.Ab
namespace Go.Ab
theorem Z8(b:UInt8):decide (firstIdx ⟨[43,45,42,60,61].toArray⟩ b≥0)=dec ([b]∈ops):=by
 have h:∀n:Nat,n<256→decide (firstIdx ⟨[43,45,42,60,61].toArray⟩ (UInt8.ofNat n)≥0)=decide ([UInt8.ofNat n]∈ops):=by decide +kernel
 have h1:=h b.toNat (UInt8.toNat_lt b)
 rw[UInt8.ofNat_toNat] at h1
 rw[h1]
 by_cases h2:[b]∈ops
 ·rw[bC h2];simp[h2]
 ·rw[aL h2];simp[h2]
def Sc(k:Int):Int:=if k=5∨k=7∨k=11∨k=12 then 1 else if k=8∨k=10 then 2 else if k=9 then 3 else 0
def Sd(k:Int):Int:=if k=4∨k=6∨k=5 then 300 else if k=7∨k=11∨k=12 then 1 else if k=8∨k=10 then 2 else if k=9 then 3 else 0
end Go.Ab
namespace Go.Proofs.YtlmhknhlmicmeaaGreatDoor
open Go Go.Ab
theorem DX(l:List UInt8)(b:UInt8):QN Tryz.prog 376 [.c (.d (.s l)),.c (.d (.i .u8 b.toNat))] (.c (.d (.i .i64 (firstIdx ⟨l.toArray⟩ b)))):=by
 refine⟨_,Extern.BytealgIndexByte.indexByte,Tryz.func376,by kernel_rfl,by kernel_rfl,by kernel_rfl,by kernel_rfl,fun w σ S β vs hS hv=> ?_⟩
 obtain⟨hl,h⟩:=hv
 obtain⟨v0,e0,h0,_⟩:=h 0 _ rfl
 obtain⟨v1,e1,h1,_⟩:=h 1 _ rfl
 cases h0
 cases h1
 have hvs:vs=[.string ⟨l.toArray⟩,.int .u8 b.toNat]:=by
  match vs,hl,e0,e1 with
  |[x,y],_,e0,e1=>simp at e0 e1;rw[e0,e1]
 subst hvs
 refine⟨_,run_indexByte_string _ _ w,?_,rfl⟩
 have hb:(b.toNat:Int).toNat.toUInt8=b:=by simp
 rw[hb]
 exact .i _ _
theorem Cy(l:List UInt8)(b:UInt8):aI Tryz.prog 362 [.c (.d (.s l)),.c (.d (.i .u8 b.toNat))] (.c (.d (.i .i64 (firstIdx ⟨l.toArray⟩ b)))):=fun S=>by
 refine aF (rs:=[.tmp 4]) Tryz.checked.mixed Tryz.func362 Tryz.ntmps362 rfl rfl rfl rfl rfl ?_
 simp -implicitDefEqProofs (disch:=omega) only[go_sem]
 refine aa8 (DX l b) ?_
 simp -implicitDefEqProofs (disch:=omega) only[go_sem]
theorem OX(l:List UInt8)(b:UInt8)(hl:[b]≠l):aI Tryz.prog 380 [.c (.d (.s l)),.c (.d (.s [b]))] (.c (.d (.i .i64 (firstIdx ⟨l.toArray⟩ b)))):=fun S=>by
 have c1:decide (((1:Nat):Int)=0)=false:=rfl
 have c2:decide (((1:Nat):Int)=1)=true:=rfl
 refine aF (rs:=[.tmp 4]) Tryz.checked.mixed Tryz.func380 Tryz.ntmps380 rfl rfl rfl rfl rfl ?_
 simp -implicitDefEqProofs (disch:=omega) only[go_sem,c1,c2]
 with_reducible refine aA (fun hb=> ?_) (fun hb=> ?_)<;>have h:=hb<;>(try simp only[wf_preprocess] at h)<;>simp -implicitDefEqProofs (disch:=omega) only[go_sem,hb,c1,c2]<;>(repeat(with_reducible refine And.intro ?_ ?_;focus first|omega|rfl|assumption|exact⟨_,rfl,rfl⟩|(simp;omega)|(simp;done)))
 ·exact absurd h hl
 refine ay (Cy l b) ?_
 simp -implicitDefEqProofs (disch:=omega) only[go_sem]<;>(repeat(with_reducible refine And.intro ?_ ?_;focus first|omega|rfl|assumption|exact⟨_,rfl,rfl⟩|(simp;omega)|(simp;done)))
theorem Vb(l:List UInt8)(b:UInt8)(hl:[b]≠l):aI Tryz.prog 368 [.c (.d (.s l)),.c (.d (.s [b]))] (.c (.d (.i .i64 (firstIdx ⟨l.toArray⟩ b)))):=fun S=>by
 refine aF (rs:=[.tmp 4]) Tryz.checked.mixed Tryz.func368 Tryz.ntmps368 rfl rfl rfl rfl rfl ?_
 simp -implicitDefEqProofs (disch:=omega) only[go_sem]
 refine ay (OX l b hl) ?_
 simp -implicitDefEqProofs (disch:=omega) only[go_sem]<;>(repeat(with_reducible refine And.intro ?_ ?_;focus first|omega|rfl|assumption|exact⟨_,rfl,rfl⟩|(simp;omega)|(simp;done)))
theorem M6(l:List UInt8)(b:UInt8)(hl:[b]≠l):aI Tryz.prog 349 [.c (.d (.s l)),.c (.d (.s [b]))] (.c (.d (.b (decide (firstIdx ⟨l.toArray⟩ b≥0))))):=fun S=>by
 refine aF (rs:=[.tmp 4]) Tryz.checked.mixed Tryz.func349 Tryz.ntmps349 rfl rfl rfl rfl rfl ?_
 simp -implicitDefEqProofs (disch:=omega) only[go_sem]
 refine ay (Vb l b hl) ?_
 simp -implicitDefEqProofs (disch:=omega) only[go_sem]<;>(repeat(with_reducible refine And.intro ?_ ?_;focus first|omega|rfl|assumption|exact⟨_,rfl,rfl⟩|(simp;omega)|(simp;done)))
theorem Kv(s:List UInt8):aI Tryz.prog 328 [.c (.d (.s s))] (.c (.d (.b (dec (s∈ops))))):=fun S=>by
 refine aF (rs:=[.tmp 2]) Tryz.checked.mixed Tryz.func328 Tryz.ntmps328 rfl rfl rfl rfl rfl ?_
 simp -implicitDefEqProofs (disch:=omega) only[go_sem]
 with_reducible refine aA (fun hb=> ?_) (fun hb=> ?_)<;>have h:=hb<;>(try simp only[wf_preprocess] at h)<;>simp -implicitDefEqProofs (disch:=omega) only[go_sem,hb]<;>(repeat(with_reducible refine And.intro ?_ ?_;focus first|omega|rfl|assumption|exact⟨_,rfl,rfl⟩|(simp;omega)|(simp;done)))
 ·obtain⟨b,rfl⟩:=List.length_eq_one_iff.1 (show s.length=1 by omega)
  refine ay (M6 [43,45,42,60,61] b (by intro x;cases x)) ?_
  simp -implicitDefEqProofs (disch:=omega) only[go_sem]<;>(repeat(with_reducible refine And.intro ?_ ?_;focus first|omega|rfl|assumption|exact⟨_,rfl,rfl⟩|(simp;omega)|(simp;done)))
  exact aD (Z8 b)
 ·exact aD (aL fun x=>h (by rw[Va x];rfl)).symm
theorem Kw(t:aj):aI Tryz.prog 238 [t.v] (.c (.d (.b (dec (yT t))))):=fun S=>by
 refine aF (rs:=[.tmp 2]) Tryz.checked.mixed Tryz.func238 Tryz.ntmps238 rfl rfl rfl rfl rfl ?_
 simp -implicitDefEqProofs (disch:=omega) only[go_sem]
 repeat' (first
  |with_reducible refine aA (fun hb=> ?_) (fun hb=> ?_)<;>have h:=hb<;>(try simp only[wf_preprocess] at h)<;>simp -implicitDefEqProofs (disch:=omega) only[go_sem,hb]<;>(repeat(with_reducible refine And.intro ?_ ?_;focus first|omega|rfl|assumption|exact⟨_,rfl,rfl⟩|(simp;omega)|(simp;done)))
  |(refine aD ?_;unfold yT;grind [bC,aL,iH,qB]))
theorem Ey(k:Int):aI Tryz.prog 327 [.c (.d (.i .i64 k))] (.d9 [(false,[.d (.i .i64 (Sc k))]),(false,[.d (.i .i64 (Sd k))])]):=fun S=>by
 refine aF (rs:=[.tmp 2,.tmp 3]) Tryz.checked.mixed Tryz.func327 Tryz.ntmps327 rfl rfl rfl rfl rfl ?_
 simp -implicitDefEqProofs (disch:=omega) only[go_sem]
 repeat' (first
  |with_reducible refine aA (fun hb=> ?_) (fun hb=> ?_)<;>have h:=hb<;>(try simp only[wf_preprocess] at h)<;>simp -implicitDefEqProofs (disch:=omega) only[go_sem,hb]<;>(repeat(with_reducible refine And.intro ?_ ?_;focus first|omega|rfl|assumption|exact⟨_,rfl,rfl⟩|(simp;omega)|(simp;done)))
  |(unfold Sc Sd;grind))
end Go.Proofs.YtlmhknhlmicmeaaGreatDoor
namespace Go.Ab
theorem Vd(b:UInt8):decide (firstIdx ⟨[39,45,43,42,60,61,46].toArray⟩ b≥0)=decide (b∈([39,45,43,42,60,61,46]:List UInt8)):=by
 have h:∀n:Nat,n<256→decide (firstIdx ⟨[39,45,43,42,60,61,46].toArray⟩ (UInt8.ofNat n)≥0)=decide (UInt8.ofNat n∈([39,45,43,42,60,61,46]:List UInt8)):=by decide +kernel
 have h1:=h b.toNat (UInt8.toNat_lt b)
 rwa [UInt8.ofNat_toNat] at h1
theorem Yh(b:UInt8):b∈([39,45,43,42,60,61,46]:List UInt8)↔(b.toNat=39∨b.toNat=45∨b.toNat=43∨b.toNat=42∨b.toNat=60∨b.toNat=61∨b.toNat=46):=by
 have h:∀n:Nat,n<256→(UInt8.ofNat n∈([39,45,43,42,60,61,46]:List UInt8)↔(n=39∨n=45∨n=43∨n=42∨n=60∨n=61∨n=46)):=by decide +kernel
 have h1:=h b.toNat (UInt8.toNat_lt b)
 rwa [UInt8.ofNat_toNat] at h1
theorem qL(b:UInt8):iV b=true↔(97≤b.toNat∧b.toNat≤122)∨(48≤b.toNat∧b.toNat≤57)∨b.toNat=39∨b.toNat=45∨b.toNat=43∨b.toNat=42∨b.toNat=60∨b.toNat=61∨b.toNat=46:=by
 unfold iV
 rw[Bool.or_eq_true,Bool.or_eq_true,decide_eq_true_eq,decide_eq_true_eq,decide_eq_true_eq,Yh,or_assoc]
theorem all_false{s:List UInt8}{i:Nat}(hi:i<s.length)(h:iV s[i]=false):s.all iV=false:=by
 rw[List.all_eq_false]
 exact⟨s[i],List.getElem_mem hi,by simp[h]⟩
theorem all_true{s:List UInt8}(h:∀j (hj:j<s.length),iV s[j]=true):s.all iV=true:=by
 rw[List.all_eq_true]
 intro b hb
 obtain⟨j,hj,e⟩:=List.getElem_of_mem hb
 rw[←e];exact h j hj
theorem xA{x:ah}{i:Nat}(hi:i<x.ak.length)(h:x.sz≤67108864):x.ak[i].sz≤67108864∧x.ak.length≤67108864∧x.aV.length≤67108864:=by
 have:=j4 (List.getElem_mem hi)
 rw[jK,lQ] at h
 omega
theorem zO{x:ah}(h:x.sz≤67108864):x.ak.length≤67108864∧x.aV.length≤67108864:=by
 rw[jK,lQ] at h
 omega
theorem OY{l:List ah}{i:Nat}(hi:i<l.length):iB (l.drop i)=(gY l[i]&&iB (l.drop (i+1))):=by rw[List.drop_eq_getElem_cons hi,iB]
theorem Cz{l:List ah}{i:Nat}(hi:i<l.length):mE (l.drop i)=max (jT l[i]) (mE (l.drop (i+1))):=by rw[List.drop_eq_getElem_cons hi,mE]
theorem Ez{l:List ah}{i:Nat}(hi:i<l.length):kX (l.drop i)=jo l[i]+kX (l.drop (i+1)):=by rw[List.drop_eq_getElem_cons hi,kX]
theorem EX{x:ah}(h:x.sz≤67108864):jo x≤67108865:=by have:=MC x;omega
theorem ah.GX{x:ah}{i:Nat}(hi:i<x.ak.length):SizeOf.sizeOf x.ak[i]<SizeOf.sizeOf x:=by
 have:=List.sizeOf_lt_of_mem (List.getElem_mem hi)
 have:=ah.kK x
 omega
end Go.Ab
namespace Go.Proofs.YtlmhknhlmicmeaaGreatDoor
open Go Go.Ab
theorem GY(l:List UInt8)(b:UInt8):aI Tryz.prog 344 [.c (.d (.s l)),.c (.d (.i .u8 b.toNat))] (.c (.d (.i .i64 (firstIdx ⟨l.toArray⟩ b)))):=fun S=>by
 refine aF (rs:=[.tmp 4]) Tryz.checked.mixed Tryz.func344 Tryz.ntmps344 rfl rfl rfl rfl rfl ?_
 simp -implicitDefEqProofs (disch:=omega) only[go_sem]
 refine ay (Cy l b) ?_
 simp -implicitDefEqProofs (disch:=omega) only[go_sem]<;>(repeat(with_reducible refine And.intro ?_ ?_;focus first|omega|rfl|assumption|exact⟨_,rfl,rfl⟩|(simp;omega)|(simp;done)))
theorem Ky(b:UInt8):aI Tryz.prog 318 [.c (.d (.i .u8 b.toNat))] (.c (.d (.b (iV b)))):=fun S=>by
 refine aF (rs:=[.tmp 2]) Tryz.checked.mixed Tryz.func318 Tryz.ntmps318 rfl rfl rfl rfl rfl ?_
 simp -implicitDefEqProofs (disch:=omega) only[go_sem]
 refine ay (Gv b) ?_
 simp -implicitDefEqProofs (disch:=omega) only[go_sem]<;>(repeat(with_reducible refine And.intro ?_ ?_;focus first|omega|rfl|assumption|exact⟨_,rfl,rfl⟩|(simp;omega)|(simp;done)))
 with_reducible refine aA (fun hb=> ?_) (fun hb=> ?_)<;>have h:=hb<;>(try simp only[wf_preprocess] at h)<;>simp -implicitDefEqProofs (disch:=omega) only[go_sem,hb]<;>(repeat(with_reducible refine And.intro ?_ ?_;focus first|omega|rfl|assumption|exact⟨_,rfl,rfl⟩|(simp;omega)|(simp;done)))
 ·exact aD ((qL b).2 (.inl h)).symm
 have h1:=h
 refine ay (Gw b) ?_
 simp -implicitDefEqProofs (disch:=omega) only[go_sem]<;>(repeat(with_reducible refine And.intro ?_ ?_;focus first|omega|rfl|assumption|exact⟨_,rfl,rfl⟩|(simp;omega)|(simp;done)))
 with_reducible refine aA (fun hb=> ?_) (fun hb=> ?_)<;>have h:=hb<;>(try simp only[wf_preprocess] at h)<;>simp -implicitDefEqProofs (disch:=omega) only[go_sem,hb]<;>(repeat(with_reducible refine And.intro ?_ ?_;focus first|omega|rfl|assumption|exact⟨_,rfl,rfl⟩|(simp;omega)|(simp;done)))
 ·exact aD ((qL b).2 (.inr (.inl h))).symm
 have h2:=h
 refine ay (GY [39,45,43,42,60,61,46] b) ?_
 simp -implicitDefEqProofs (disch:=omega) only[go_sem]<;>(repeat(with_reducible refine And.intro ?_ ?_;focus first|omega|rfl|assumption|exact⟨_,rfl,rfl⟩|(simp;omega)|(simp;done)))
 refine aD ?_
 rw[Vd]
 unfold iV
 unfold lowerB at h1
 unfold ni at h2
 simp[h1,h2]
theorem Sg(s:List UInt8)(hs:s.length≤1073741824):aI Tryz.prog 268 [.c (.d (.s s))] (.c (.d (.b (validAtom s)))):=fun S=>by
 refine aF (rs:=[.tmp 2]) Tryz.checked.mixed Tryz.func268 Tryz.ntmps268 rfl rfl rfl rfl rfl ?_
 simp -implicitDefEqProofs (disch:=omega) only[go_sem]
 refine aX (ι:=Nat) Tryz.checked.mixed rfl [0,5,6] (fun i=>[.c (.d (.s s)),.c (.d (.i .i64 s.length)),.c (.d (.i .i64 i))]) (fun _=>[]::S)
  (fun i=>i≤s.length∧∀j,∀hj:j<s.length,j<i→iV s[j]=true) (fun i=>s.length-i) 0 rfl rfl ⟨Nat.zero_le _,fun j _ h=>by omega⟩ ?_
 rintro i ⟨p1,p2⟩
 simp -implicitDefEqProofs (disch:=omega) only[go_sem]
 with_reducible refine aA (fun hb=> ?_) (fun hb=> ?_)<;>have h:=hb<;>(try simp only[wf_preprocess] at h)<;>simp -implicitDefEqProofs (disch:=omega) only[go_sem,hb]<;>(repeat(with_reducible refine And.intro ?_ ?_;focus first|omega|rfl|assumption|exact⟨_,rfl,rfl⟩|(simp;omega)|(simp;done)))
 ·have hi:i<s.length:=by omega
  have e:s.getD i 0=s[i]:=by simp[List.getD,hi]
  (repeat(with_reducible refine And.intro ?_ ?_;focus first|omega|rfl|assumption|exact⟨_,rfl,rfl⟩|(simp;omega)|(simp;done)))
  rw[e]
  refine ay (Ky s[i]) ?_
  simp -implicitDefEqProofs (disch:=omega) only[go_sem]<;>(repeat(with_reducible refine And.intro ?_ ?_;focus first|omega|rfl|assumption|exact⟨_,rfl,rfl⟩|(simp;omega)|(simp;done)))
  with_reducible refine aA (fun hb=> ?_) (fun hb=> ?_)<;>have h:=hb<;>(try simp only[wf_preprocess] at h)<;>simp -implicitDefEqProofs (disch:=omega) only[go_sem,hb]<;>(repeat(with_reducible refine And.intro ?_ ?_;focus first|omega|rfl|assumption|exact⟨_,rfl,rfl⟩|(simp;omega)|(simp;done)))
  ·exact aD (by unfold validAtom;rw[all_false hi h];rfl)
  ·refine bI (i+1) (by omega) rfl rfl ⟨by omega,fun j hj hji=> ?_⟩
   by_cases e':j=i
   ·subst e';exact h
   ·exact p2 j hj (by omega)
 ·have ha:=all_true (s:=s) (fun j hj=>p2 j hj (by omega))
  with_reducible refine aA (fun hb=> ?_) (fun hb=> ?_)<;>have h:=hb<;>(try simp only[wf_preprocess] at h)<;>simp -implicitDefEqProofs (disch:=omega) only[go_sem,hb]<;>(repeat(with_reducible refine And.intro ?_ ?_;focus first|omega|rfl|assumption|exact⟨_,rfl,rfl⟩|(simp;omega)|(simp;done)))
  ·refine aD ?_
   unfold validAtom
   rw[ha,Bool.true_and]
   exact decide_eq_decide.2 (by omega)
  ·refine aD ?_
   unfold validAtom
   rw[ha,Bool.true_and]
   exact(decide_eq_false (by omega)).symm
theorem Ve(b:UInt8):aI Tryz.prog 322 [.c (.d (.i .u8 b.toNat))] (.c (.d (.b (iV b)))):=fun S=>by
 have yes:((97≤b.toNat∧b.toNat≤122)∨(48≤b.toNat∧b.toNat≤57)∨b.toNat=39∨b.toNat=45∨b.toNat=43∨b.toNat=42∨b.toNat=60∨b.toNat=61∨b.toNat=46)→iV b=true:=(qL b).2
 have no:¬((97≤b.toNat∧b.toNat≤122)∨(48≤b.toNat∧b.toNat≤57)∨b.toNat=39∨b.toNat=45∨b.toNat=43∨b.toNat=42∨b.toNat=60∨b.toNat=61∨b.toNat=46)→iV b=false:=fun h=>by
  cases hb:iV b with
  |false=>rfl
  |true=>exact absurd ((qL b).1 hb) h
 refine aF (rs:=[.tmp 2]) Tryz.checked.mixed Tryz.func322 Tryz.ntmps322 rfl rfl rfl rfl rfl ?_
 simp -implicitDefEqProofs (disch:=omega) only[go_sem]
 repeat' (first|(with_reducible refine aA (fun hb=> ?_) (fun hb=> ?_)<;>have h:=hb<;>(try simp only[wf_preprocess] at h)<;>simp -implicitDefEqProofs (disch:=omega) only[go_sem,hb]<;>(repeat(with_reducible refine And.intro ?_ ?_;focus first|omega|rfl|assumption|exact⟨_,rfl,rfl⟩|(simp;omega)|(simp;done)))))
 all_goals first
  |exact aD (yes (by omega)).symm
  |exact aD (no (by omega)).symm
  |(refine aD ?_;cases hb:iV b<;>simp only[decide_eq_true_eq,decide_eq_false_iff_not]<;>(first|(have:=(qL b).1 hb;omega)|(intro q;have:=yes (by omega);rw[hb] at this;cases this)))
theorem Si(s:List UInt8)(hs:s.length≤1073741824):aI Tryz.prog 275 [.c (.d (.s s))] (.c (.d (.b (validAtom s)))):=fun S=>by
 refine aF (rs:=[.tmp 2]) Tryz.checked.mixed Tryz.func275 Tryz.ntmps275 rfl rfl rfl rfl rfl ?_
 simp -implicitDefEqProofs (disch:=omega) only[go_sem]
 refine aX (ι:=Nat) Tryz.checked.mixed rfl [0,3] (fun i=>[.c (.d (.s s)),.c (.d (.i .i64 i))]) (fun _=>[]::S)
  (fun i=>i≤s.length∧∀j,∀hj:j<s.length,j<i→iV s[j]=true) (fun i=>s.length-i) 0 rfl rfl ⟨Nat.zero_le _,fun j _ h=>by omega⟩ ?_
 rintro i ⟨p1,p2⟩
 simp -implicitDefEqProofs (disch:=omega) only[go_sem]
 with_reducible refine aA (fun hb=> ?_) (fun hb=> ?_)<;>have h:=hb<;>(try simp only[wf_preprocess] at h)<;>simp -implicitDefEqProofs (disch:=omega) only[go_sem,hb]<;>(repeat(with_reducible refine And.intro ?_ ?_;focus first|omega|rfl|assumption|exact⟨_,rfl,rfl⟩|(simp;omega)|(simp;done)))
 ·have hi:i<s.length:=by omega
  have e:s.getD i 0=s[i]:=by simp[List.getD,hi]
  (repeat(with_reducible refine And.intro ?_ ?_;focus first|omega|rfl|assumption|exact⟨_,rfl,rfl⟩|(simp;omega)|(simp;done)))
  rw[e]
  refine ay (Ve s[i]) ?_
  simp -implicitDefEqProofs (disch:=omega) only[go_sem]<;>(repeat(with_reducible refine And.intro ?_ ?_;focus first|omega|rfl|assumption|exact⟨_,rfl,rfl⟩|(simp;omega)|(simp;done)))
  with_reducible refine aA (fun hb=> ?_) (fun hb=> ?_)<;>have h:=hb<;>(try simp only[wf_preprocess] at h)<;>simp -implicitDefEqProofs (disch:=omega) only[go_sem,hb]<;>(repeat(with_reducible refine And.intro ?_ ?_;focus first|omega|rfl|assumption|exact⟨_,rfl,rfl⟩|(simp;omega)|(simp;done)))
  ·exact aD (by unfold validAtom;rw[all_false hi h];rfl)
  ·refine bI (i+1) (by omega) rfl rfl ⟨by omega,fun j hj hji=> ?_⟩
   by_cases e':j=i
   ·subst e';exact h
   ·exact p2 j hj (by omega)
 ·have ha:=all_true (s:=s) (fun j hj=>p2 j hj (by omega))
  refine ay (zM s.length 1 12) ?_
  simp -implicitDefEqProofs (disch:=omega) only[go_sem]<;>(repeat(with_reducible refine And.intro ?_ ?_;focus first|omega|rfl|assumption|exact⟨_,rfl,rfl⟩|(simp;omega)|(simp;done)))
  refine aD ?_
  unfold validAtom
  rw[ha,Bool.true_and,←iN]
  exact decide_eq_decide.2 (by omega)
theorem CB:∀n:Nat,(∀x:ah,SizeOf.sizeOf x<n→x.sz≤67108864→aI Tryz.prog 177 [x.v] (.c (.d (.b (gY x)))))∧
 (∀xs:List ah,SizeOf.sizeOf xs<n→xs.length≤67108864→(∀t∈xs,t.sz≤67108864)→aI Tryz.prog 269 [.c (.d (.sl (xs.map ah.enc))),.c (.fn 270 [])] (.c (.d (.b (!iB xs)))))
 |0=>⟨fun x h=>by omega,fun x h=>by omega⟩
 |n+1=>by
  obtain⟨ih,lF⟩:=CB n
  refine⟨fun x hn hsz S=> ?_,fun xs hn hlen hsz S=> ?_⟩
  ·have gZ:=ah.kK x
   have hts:=zO hsz
   have hall:∀t∈x.ak,t.sz≤67108864:=fun t ht=>by
    obtain⟨i,hi,e⟩:=List.getElem_of_mem ht
    rw[←e];exact(xA hi hsz).1
   have tail:=lF x.ak (by omega) hts.1 hall
   have hf:=xZ x
   refine aF (rs:=[.tmp 2]) Tryz.checked.mixed Tryz.func177 Tryz.ntmps177 rfl rfl rfl rfl rfl ?_
   simp -implicitDefEqProofs (disch:=omega) only[go_sem]
   with_reducible refine aA (fun hb=> ?_) (fun hb=> ?_)<;>have h:=hb<;>(try simp only[wf_preprocess] at h)<;>simp -implicitDefEqProofs (disch:=omega) only[go_sem,hb]<;>(repeat(with_reducible refine And.intro ?_ ?_;focus first|omega|rfl|assumption|exact⟨_,rfl,rfl⟩|(simp;omega)|(simp;done)))
   ·rw[if_neg h] at hf
    refine ay (Sg x.aV (by omega)) ?_
    simp -implicitDefEqProofs (disch:=omega) only[go_sem]<;>(repeat(with_reducible refine And.intro ?_ ?_;focus first|omega|rfl|assumption|exact⟨_,rfl,rfl⟩|(simp;omega)|(simp;done)))
    with_reducible refine aA (fun hb=> ?_) (fun hb=> ?_)<;>have h:=hb<;>(try simp only[wf_preprocess] at h)<;>simp -implicitDefEqProofs (disch:=omega) only[go_sem,hb]<;>(repeat(with_reducible refine And.intro ?_ ?_;focus first|omega|rfl|assumption|exact⟨_,rfl,rfl⟩|(simp;omega)|(simp;done)))
    ·rw[hf,h,Bool.true_and]
     exact aD (decide_eq_decide.2 (by omega))
    ·rw[hf,h,Bool.false_and]
   ·rw[if_pos h] at hf
    refine ay tail ?_
    simp -implicitDefEqProofs (disch:=omega) only[go_sem]
    rw[hf,Bool.not_not]
  ·have hcl:∀y∈xs,aI Tryz.prog 270 [y.v] (.c (.d (.b (!gY y)))):=fun y hy S=>by
    have hys:=List.sizeOf_lt_of_mem hy
    refine aF (rs:=[.tmp 2]) Tryz.checked.mixed Tryz.func270 Tryz.ntmps270 rfl rfl rfl rfl rfl ?_
    simp -implicitDefEqProofs (disch:=omega) only[go_sem]
    refine ay (ih y (by omega) (hsz y hy)) ?_
    simp -implicitDefEqProofs (disch:=omega) only[go_sem]<;>(repeat(with_reducible refine And.intro ?_ ?_;focus first|omega|rfl|assumption|exact⟨_,rfl,rfl⟩|(simp;omega)|(simp;done)))
   have hidx:aI Tryz.prog 319 [.c (.d (.sl (xs.map ah.enc))),.c (.fn 270 [])] (.c (.d (.i .i64 (oZ (fun y=> !gY y) xs)))):=fun S=>by
    refine aF (rs:=[.tmp 4]) Tryz.checked.mixed Tryz.func319 Tryz.ntmps319 rfl rfl rfl rfl rfl ?_
    simp -implicitDefEqProofs (disch:=omega) only[go_sem]
    refine aX (ι:=Nat) Tryz.checked.mixed rfl [0,1,7,8] (fun i=>[.c (.d (.sl (xs.map ah.enc))),.c (.fn 270 []),.c (.d (.i .i64 xs.length)),.c (.d (.i .i64 i))]) (fun _=>[]::S)
     (fun i=>i≤xs.length∧∀j,∀hj:j<xs.length,j<i→gY xs[j]=true) (fun i=>xs.length-i) 0 rfl rfl ⟨Nat.zero_le _,fun j _ h=>by omega⟩ ?_
    rintro i ⟨p1,p2⟩
    simp -implicitDefEqProofs (disch:=omega) only[go_sem]
    with_reducible refine aA (fun hb=> ?_) (fun hb=> ?_)<;>have h:=hb<;>(try simp only[wf_preprocess] at h)<;>simp -implicitDefEqProofs (disch:=omega) only[go_sem,hb]<;>(repeat(with_reducible refine And.intro ?_ ?_;focus first|omega|rfl|assumption|exact⟨_,rfl,rfl⟩|(simp;omega)|(simp;done)))
    ·have hi:i<xs.length:=by omega
     (repeat(with_reducible refine And.intro ?_ ?_;focus first|omega|rfl|assumption|exact⟨_,rfl,rfl⟩|(simp;omega)|(simp;done)))
     refine ay (hcl xs[i] (List.getElem_mem hi)) ?_
     simp -implicitDefEqProofs (disch:=omega) only[go_sem]<;>(repeat(with_reducible refine And.intro ?_ ?_;focus first|omega|rfl|assumption|exact⟨_,rfl,rfl⟩|(simp;omega)|(simp;done)))
     with_reducible refine aA (fun hb=> ?_) (fun hb=> ?_)<;>have h:=hb<;>(try simp only[wf_preprocess] at h)<;>simp -implicitDefEqProofs (disch:=omega) only[go_sem,hb]<;>(repeat(with_reducible refine And.intro ?_ ?_;focus first|omega|rfl|assumption|exact⟨_,rfl,rfl⟩|(simp;omega)|(simp;done)))
     ·rw[pU hi (fun j hj hji=>by rw[p2 j hj hji];rfl) (by rw[h];rfl)]
     ·refine bI (i+1) (by omega) rfl rfl ⟨by omega,fun j hj hji=> ?_⟩
      by_cases e:j=i
      ·subst e;exact h
      ·exact p2 j hj (by omega)
    ·rw[sJ (fun j hj=>by rw[p2 j hj (by omega)];rfl)]
   refine aF (rs:=[.tmp 4]) Tryz.checked.mixed Tryz.func269 Tryz.ntmps269 rfl rfl rfl rfl rfl ?_
   simp -implicitDefEqProofs (disch:=omega) only[go_sem]
   refine ay (hidx) ?_
   simp -implicitDefEqProofs (disch:=omega) only[go_sem]<;>(repeat(with_reducible refine And.intro ?_ ?_;focus first|omega|rfl|assumption|exact⟨_,rfl,rfl⟩|(simp;omega)|(simp;done)))
   rw[←Gh]
   exact aD qQ
theorem OZ(x:ah)(hsz:x.sz≤67108864):aI Tryz.prog 177 [x.v] (.c (.d (.b (gY x)))):=(CB _).1 x (Nat.lt_succ_self _) hsz
theorem zP:∀n:Nat,∀x:ah,SizeOf.sizeOf x<n→x.sz≤67108864→aI Tryz.prog 178 [x.v] (.c (.d (.i .i64 (jT x))))
 |0=>fun x h=>by omega
 |n+1=>by
  have ih:=zP n
  intro x hn hsz S
  have hts:=zO hsz
  have hd:=JB x
  have hd1:=zh x
  have hd2:=EX hsz
  refine aF (rs:=[.tmp 2]) Tryz.checked.mixed Tryz.func178 Tryz.ntmps178 rfl rfl rfl rfl rfl ?_
  simp -implicitDefEqProofs (disch:=omega) only[go_sem]
  with_reducible refine aA (fun hb=> ?_) (fun hb=> ?_)<;>have h:=hb<;>(try simp only[wf_preprocess] at h)<;>simp -implicitDefEqProofs (disch:=omega) only[go_sem,hb]<;>(repeat(with_reducible refine And.intro ?_ ?_;focus first|omega|rfl|assumption|exact⟨_,rfl,rfl⟩|(simp;omega)|(simp;done)))
  ·rw[if_neg h] at hd
   rw[hd];rfl
  rw[if_pos h] at hd
  refine aX (ι:=Nat×Nat) Tryz.checked.mixed rfl [3,10,11,12] (fun y=>[.c (.d (.i .i64 y.2)),.c (.d (.sl (x.ak.map ah.enc))),.c (.d (.i .i64 x.ak.length)),.c (.d (.i .i64 y.1))]) (fun y=>[.box [.d (.s x.aV),.d (.sl (x.ak.map ah.enc))]]::S)
   (fun y=>y.1≤x.ak.length∧jT x=max y.2 (mE (x.ak.drop y.1))+1) (fun y=>x.ak.length-y.1) (0,0) rfl rfl ⟨Nat.zero_le _,by simp[hd]⟩ ?_
  rintro⟨i,c⟩ ⟨p1,p2⟩
  simp only at p1 p2
  simp -implicitDefEqProofs (disch:=omega) only[go_sem]
  with_reducible refine aA (fun hb=> ?_) (fun hb=> ?_)<;>have h:=hb<;>(try simp only[wf_preprocess] at h)<;>simp -implicitDefEqProofs (disch:=omega) only[go_sem,hb]<;>(repeat(with_reducible refine And.intro ?_ ?_;focus first|omega|rfl|assumption|exact⟨_,rfl,rfl⟩|(simp;omega)|(simp;done)))
  ·have hi:i<x.ak.length:=by omega
   have hsz':=xA hi hsz
   rw[Cz hi] at p2
   (repeat(with_reducible refine And.intro ?_ ?_;focus first|omega|rfl|assumption|exact⟨_,rfl,rfl⟩|(simp;omega)|(simp;done)))
   refine ay (ih x.ak[i] (by have:=ah.GX hi;omega) (by omega)) ?_
   simp -implicitDefEqProofs (disch:=omega) only[go_sem]<;>(repeat(with_reducible refine And.intro ?_ ?_;focus first|omega|rfl|assumption|exact⟨_,rfl,rfl⟩|(simp;omega)|(simp;done)))
   rw[show max (c:Int) ((jT x.ak[i]:Int))=((max c (jT x.ak[i]):Nat):Int) by omega]
   exact dA 1 (by decide) (i+1,max c (jT x.ak[i])) (by simp only;omega) rfl rfl rfl rfl ⟨by simp only;omega,by simp only;omega⟩
  ·have hi:i=x.ak.length:=by omega
   rw[hi,List.drop_length,mE] at p2
   (repeat(with_reducible refine And.intro ?_ ?_;focus first|omega|rfl|assumption|exact⟨_,rfl,rfl⟩|(simp;omega)|(simp;done)))
   exact int_eq (by omega)
theorem Kz(x:ah)(hsz:x.sz≤67108864):aI Tryz.prog 178 [x.v] (.c (.d (.i .i64 (jT x)))):=zP _ x (Nat.lt_succ_self _) hsz
theorem BD:∀n:Nat,∀x:ah,SizeOf.sizeOf x<n→x.sz≤67108864→aI Tryz.prog 179 [x.v] (.c (.d (.i .i64 (jo x))))
 |0=>fun x h=>by omega
 |n+1=>by
  have ih:=BD n
  intro x hn hsz S
  have hts:=zO hsz
  have hd2:=EX hsz
  refine aF (rs:=[.tmp 2]) Tryz.checked.mixed Tryz.func179 Tryz.ntmps179 rfl rfl rfl rfl rfl ?_
  simp -implicitDefEqProofs (disch:=omega) only[go_sem]
  refine aX (ι:=Nat×Nat) Tryz.checked.mixed rfl [3,7,8,9] (fun y=>[.c (.d (.i .i64 y.2)),.c (.d (.sl (x.ak.map ah.enc))),.c (.d (.i .i64 x.ak.length)),.c (.d (.i .i64 y.1))]) (fun y=>[.box [.d (.s x.aV),.d (.sl (x.ak.map ah.enc))]]::S)
   (fun y=>y.1≤x.ak.length∧jo x=y.2+kX (x.ak.drop y.1)) (fun y=>x.ak.length-y.1) (0,1) rfl rfl ⟨Nat.zero_le _,by simp[MB];omega⟩ ?_
  rintro⟨i,c⟩ ⟨p1,p2⟩
  simp only at p1 p2
  simp -implicitDefEqProofs (disch:=omega) only[go_sem]
  with_reducible refine aA (fun hb=> ?_) (fun hb=> ?_)<;>have h:=hb<;>(try simp only[wf_preprocess] at h)<;>simp -implicitDefEqProofs (disch:=omega) only[go_sem,hb]<;>(repeat(with_reducible refine And.intro ?_ ?_;focus first|omega|rfl|assumption|exact⟨_,rfl,rfl⟩|(simp;omega)|(simp;done)))
  ·have hi:i<x.ak.length:=by omega
   have hsz':=xA hi hsz
   rw[Ez hi] at p2
   (repeat(with_reducible refine And.intro ?_ ?_;focus first|omega|rfl|assumption|exact⟨_,rfl,rfl⟩|(simp;omega)|(simp;done)))
   refine ay (ih x.ak[i] (by have:=ah.GX hi;omega) (by omega)) ?_
   simp -implicitDefEqProofs (disch:=omega) only[go_sem]<;>(repeat(with_reducible refine And.intro ?_ ?_;focus first|omega|rfl|assumption|exact⟨_,rfl,rfl⟩|(simp;omega)|(simp;done)))
   rw[show(c:Int)+(jo x.ak[i]:Int)=((c+jo x.ak[i]:Nat):Int) by omega]
   exact dA 1 (by decide) (i+1,c+jo x.ak[i]) (by simp only;omega) rfl rfl rfl rfl ⟨by simp only;omega,by simp only;omega⟩
  ·have hi:i=x.ak.length:=by omega
   rw[hi,List.drop_length,kX] at p2
   exact int_eq (by omega)
theorem M7(x:ah)(hsz:x.sz≤67108864):aI Tryz.prog 179 [x.v] (.c (.d (.i .i64 (jo x)))):=BD _ x (Nat.lt_succ_self _) hsz
theorem KA(x:ah)(hsz:x.sz≤67108864):aI Tryz.prog 73 [x.v] (.c (.d (.b (jh x)))):=fun S=>by
 refine aF (rs:=[.tmp 2]) Tryz.checked.mixed Tryz.func73 Tryz.ntmps73 rfl rfl rfl rfl rfl ?_
 simp -implicitDefEqProofs (disch:=omega) only[go_sem]
 refine ay (OZ x hsz) ?_
 simp -implicitDefEqProofs (disch:=omega) only[go_sem]<;>(repeat(with_reducible refine And.intro ?_ ?_;focus first|omega|rfl|assumption|exact⟨_,rfl,rfl⟩|(simp;omega)|(simp;done)))
 with_reducible refine aA (fun hb=> ?_) (fun hb=> ?_)<;>have h:=hb<;>(try simp only[wf_preprocess] at h)<;>simp -implicitDefEqProofs (disch:=omega) only[go_sem,hb]<;>(repeat(with_reducible refine And.intro ?_ ?_;focus first|omega|rfl|assumption|exact⟨_,rfl,rfl⟩|(simp;omega)|(simp;done)))
 ·have hf:=h
  refine ay (Kz x hsz) ?_
  simp -implicitDefEqProofs (disch:=omega) only[go_sem]<;>(repeat(with_reducible refine And.intro ?_ ?_;focus first|omega|rfl|assumption|exact⟨_,rfl,rfl⟩|(simp;omega)|(simp;done)))
  with_reducible refine aA (fun hb=> ?_) (fun hb=> ?_)<;>have h:=hb<;>(try simp only[wf_preprocess] at h)<;>simp -implicitDefEqProofs (disch:=omega) only[go_sem,hb]<;>(repeat(with_reducible refine And.intro ?_ ?_;focus first|omega|rfl|assumption|exact⟨_,rfl,rfl⟩|(simp;omega)|(simp;done)))
  ·refine ay (M7 x hsz) ?_
   simp -implicitDefEqProofs (disch:=omega) only[go_sem]<;>(repeat(with_reducible refine And.intro ?_ ?_;focus first|omega|rfl|assumption|exact⟨_,rfl,rfl⟩|(simp;omega)|(simp;done)))
   refine aD ?_
   unfold jh
   rw[hf,Bool.true_and]
   exact decide_eq_decide.2 (by omega)
  ·refine aD ?_
   unfold jh
   rw[hf,Bool.true_and]
   exact(decide_eq_false (by omega)).symm
 ·refine aD ?_
  unfold jh
  rw[h,Bool.false_and]
theorem GZ:∀n:Nat,∀x:ah,SizeOf.sizeOf x<n→∀l:Int,0≤l→l≤1073741824→x.sz≤67108864→aI Tryz.prog 194 [x.v,.c (.d (.i .i64 l))] (.c (.d (.i .i64 (iG l (jo x)))))
 |0=>fun x h=>by omega
 |n+1=>by
  have ih:=GZ n
  intro x hn l h0 h1 hsz S
  have hts:=zO hsz
  have hcn:=MB x
  refine aF (rs:=[.tmp 4]) Tryz.checked.mixed Tryz.func194 Tryz.ntmps194 rfl rfl rfl rfl rfl ?_
  simp -implicitDefEqProofs (disch:=omega) only[go_sem]
  refine aX (ι:=Nat×Int) Tryz.checked.mixed rfl [1,2,5] (fun y=>[.c (.d (.i .i64 y.2)),.c (.ptr (0,0) 0),.c (.d (.i .i64 y.1))]) (fun y=>[.box [.d (.s x.aV),.d (.sl (x.ak.map ah.enc))]]::S)
   (fun y=>y.1≤x.ak.length∧ -1≤y.2∧y.2≤1073741824∧(0≤y.2→iG l (jo x)=iG y.2 (kX (x.ak.drop y.1)))∧(y.2<0→iG l (jo x)= -1)) (fun y=>x.ak.length-y.1) (0,l-1) rfl rfl ⟨Nat.zero_le _,by simp only;omega,by simp only;omega,fun h=> ?_,fun h=> ?_⟩ ?_
  ·simp only[List.drop_zero] at h ⊢
   unfold iG
   rw[hcn]
   split<;>split<;>omega
  ·simp only at h
   exact sF (by omega)
  rintro⟨i,c⟩ ⟨p1,p2,p3,p4,p5⟩
  simp only at p1 p2 p3 p4 p5
  simp -implicitDefEqProofs (disch:=omega) only[go_sem]
  with_reducible refine aA (fun hb=> ?_) (fun hb=> ?_)<;>have h:=hb<;>(try simp only[wf_preprocess] at h)<;>simp -implicitDefEqProofs (disch:=omega) only[go_sem,hb]<;>(repeat(with_reducible refine And.intro ?_ ?_;focus first|omega|rfl|assumption|exact⟨_,rfl,rfl⟩|(simp;omega)|(simp;done)))
  ·have hi:i<x.ak.length:=by omega
   with_reducible refine aA (fun hb=> ?_) (fun hb=> ?_)<;>have h:=hb<;>(try simp only[wf_preprocess] at h)<;>simp -implicitDefEqProofs (disch:=omega) only[go_sem,hb]<;>(repeat(with_reducible refine And.intro ?_ ?_;focus first|omega|rfl|assumption|exact⟨_,rfl,rfl⟩|(simp;omega)|(simp;done)))
   ·have hsz':=xA hi hsz
    have p6:=p4 h
    rw[Ez hi] at p6
    (repeat(with_reducible refine And.intro ?_ ?_;focus first|omega|rfl|assumption|exact⟨_,rfl,rfl⟩|(simp;omega)|(simp;done)))
    refine ay (ih x.ak[i] (by have:=ah.GX hi;omega) c (by omega) (by omega) (by omega)) ?_
    simp -implicitDefEqProofs (disch:=omega) only[go_sem]<;>(repeat(with_reducible refine And.intro ?_ ?_;focus first|omega|rfl|assumption|exact⟨_,rfl,rfl⟩|(simp;omega)|(simp;done)))
    refine bI (i+1,iG c _) (by simp only;omega) rfl rfl ⟨by simp only;omega,?_,?_,fun h=> ?_,fun h=> ?_⟩
    ·simp only;unfold iG;split<;>omega
    ·simp only;unfold iG;split<;>omega
    ·simp only at h ⊢
     rw[p6]
     have:=uJ (l:=c) (a:=jo x.ak[i]) (by omega)
     rw[this.1]
     unfold iG
     split<;>split<;>omega
    ·simp only at h ⊢
     rw[p6]
     have:=uK h
     exact sF (by omega)
   ·have hc:c= -1:=by omega
    rw[p5 (by omega),hc]
  ·have hi:i=x.ak.length:=by omega
   by_cases hc:0≤c
   ·rw[p4 hc,hi,List.drop_length,kX,Aq (by omega)]
    exact int_eq (by simp)
   ·rw[p5 (by omega)]
    exact int_eq (by omega)
theorem Vf(x:ah)(l:Int)(h0:0≤l)(h1:l≤1073741824)(hsz:x.sz≤67108864):aI Tryz.prog 194 [x.v,.c (.d (.i .i64 l))] (.c (.d (.i .i64 (iG l (jo x))))):=GZ _ x (Nat.lt_succ_self _) l h0 h1 hsz
theorem G5:∀n:Nat,∀x:ah,SizeOf.sizeOf x<n→x.sz≤67108864→aI Tryz.prog 195 [x.v] (.c (.d (.b (gY x))))
 |0=>fun x h=>by omega
 |n+1=>by
  have ih:=G5 n
  intro x hn hsz S
  have hts:=zO hsz
  have hf:=xZ x
  refine aF (rs:=[.tmp 2]) Tryz.checked.mixed Tryz.func195 Tryz.ntmps195 rfl rfl rfl rfl rfl ?_
  simp -implicitDefEqProofs (disch:=omega) only[go_sem]
  with_reducible refine aA (fun hb=> ?_) (fun hb=> ?_)<;>have h:=hb<;>(try simp only[wf_preprocess] at h)<;>simp -implicitDefEqProofs (disch:=omega) only[go_sem,hb]<;>(repeat(with_reducible refine And.intro ?_ ?_;focus first|omega|rfl|assumption|exact⟨_,rfl,rfl⟩|(simp;omega)|(simp;done)))
  ·rw[if_neg h] at hf
   refine ay (Si x.aV (by omega)) ?_
   simp -implicitDefEqProofs (disch:=omega) only[go_sem]<;>(repeat(with_reducible refine And.intro ?_ ?_;focus first|omega|rfl|assumption|exact⟨_,rfl,rfl⟩|(simp;omega)|(simp;done)))
   with_reducible refine aA (fun hb=> ?_) (fun hb=> ?_)<;>have h:=hb<;>(try simp only[wf_preprocess] at h)<;>simp -implicitDefEqProofs (disch:=omega) only[go_sem,hb]<;>(repeat(with_reducible refine And.intro ?_ ?_;focus first|omega|rfl|assumption|exact⟨_,rfl,rfl⟩|(simp;omega)|(simp;done)))
   ·rw[hf,h,Bool.true_and]
    exact aD (decide_eq_decide.2 (by omega))
   ·rw[hf,h,Bool.false_and]
  rw[if_pos h] at hf
  refine aX (ι:=Nat) Tryz.checked.mixed rfl [1,3] (fun y=>[.c (.ptr (0,0) 0),.c (.d (.i .i64 y))]) (fun y=>[.box [.d (.s x.aV),.d (.sl (x.ak.map ah.enc))]]::S)
   (fun y=>y≤x.ak.length∧gY x=iB (x.ak.drop y)) (fun y=>x.ak.length-y) 0 rfl rfl ⟨Nat.zero_le _,hf⟩ ?_
  rintro i ⟨p1,p2⟩
  simp -implicitDefEqProofs (disch:=omega) only[go_sem]
  with_reducible refine aA (fun hb=> ?_) (fun hb=> ?_)<;>have h:=hb<;>(try simp only[wf_preprocess] at h)<;>simp -implicitDefEqProofs (disch:=omega) only[go_sem,hb]<;>(repeat(with_reducible refine And.intro ?_ ?_;focus first|omega|rfl|assumption|exact⟨_,rfl,rfl⟩|(simp;omega)|(simp;done)))
  ·have hi:i<x.ak.length:=by omega
   have hsz':=xA hi hsz
   rw[OY hi] at p2
   (repeat(with_reducible refine And.intro ?_ ?_;focus first|omega|rfl|assumption|exact⟨_,rfl,rfl⟩|(simp;omega)|(simp;done)))
   refine ay (ih x.ak[i] (by have:=ah.GX hi;omega) (by omega)) ?_
   simp -implicitDefEqProofs (disch:=omega) only[go_sem]<;>(repeat(with_reducible refine And.intro ?_ ?_;focus first|omega|rfl|assumption|exact⟨_,rfl,rfl⟩|(simp;omega)|(simp;done)))
   with_reducible refine aA (fun hb=> ?_) (fun hb=> ?_)<;>have h:=hb<;>(try simp only[wf_preprocess] at h)<;>simp -implicitDefEqProofs (disch:=omega) only[go_sem,hb]<;>(repeat(with_reducible refine And.intro ?_ ?_;focus first|omega|rfl|assumption|exact⟨_,rfl,rfl⟩|(simp;omega)|(simp;done)))
   ·rw[p2,h,Bool.false_and]
   ·exact bI (i+1) (by omega) rfl rfl ⟨by omega,by rw[p2,h,Bool.true_and]⟩
  ·have hi:i=x.ak.length:=by omega
   rw[hi,List.drop_length,iB] at p2
   rw[p2]
theorem Vg(x:ah)(hsz:x.sz≤67108864):aI Tryz.prog 195 [x.v] (.c (.d (.b (gY x)))):=G5 _ x (Nat.lt_succ_self _) hsz
theorem zQ:∀n:Nat,∀x:ah,SizeOf.sizeOf x<n→x.sz≤67108864→aI Tryz.prog 196 [x.v] (.c (.d (.i .i64 (jT x))))
 |0=>fun x h=>by omega
 |n+1=>by
  have ih:=zQ n
  intro x hn hsz S
  have hts:=zO hsz
  have hd:=JB x
  have hd1:=zh x
  have hd2:=EX hsz
  refine aF (rs:=[.tmp 2]) Tryz.checked.mixed Tryz.func196 Tryz.ntmps196 rfl rfl rfl rfl rfl ?_
  simp -implicitDefEqProofs (disch:=omega) only[go_sem]
  with_reducible refine aA (fun hb=> ?_) (fun hb=> ?_)<;>have h:=hb<;>(try simp only[wf_preprocess] at h)<;>simp -implicitDefEqProofs (disch:=omega) only[go_sem,hb]<;>(repeat(with_reducible refine And.intro ?_ ?_;focus first|omega|rfl|assumption|exact⟨_,rfl,rfl⟩|(simp;omega)|(simp;done)))
  ·rw[if_neg h] at hd
   rw[hd];rfl
  rw[if_pos h] at hd
  refine aX (ι:=Nat×Nat) Tryz.checked.mixed rfl [1,3,4] (fun y=>[.c (.ptr (0,0) 0),.c (.d (.i .i64 y.2)),.c (.d (.i .i64 y.1))]) (fun y=>[.box [.d (.s x.aV),.d (.sl (x.ak.map ah.enc))]]::S)
   (fun y=>y.1≤x.ak.length∧jT x=max y.2 (mE (x.ak.drop y.1))+1) (fun y=>x.ak.length-y.1) (0,0) rfl rfl ⟨Nat.zero_le _,by simp[hd]⟩ ?_
  rintro⟨i,c⟩ ⟨p1,p2⟩
  simp only at p1 p2
  simp -implicitDefEqProofs (disch:=omega) only[go_sem]
  with_reducible refine aA (fun hb=> ?_) (fun hb=> ?_)<;>have h:=hb<;>(try simp only[wf_preprocess] at h)<;>simp -implicitDefEqProofs (disch:=omega) only[go_sem,hb]<;>(repeat(with_reducible refine And.intro ?_ ?_;focus first|omega|rfl|assumption|exact⟨_,rfl,rfl⟩|(simp;omega)|(simp;done)))
  ·have hi:i<x.ak.length:=by omega
   have hsz':=xA hi hsz
   rw[Cz hi] at p2
   (repeat(with_reducible refine And.intro ?_ ?_;focus first|omega|rfl|assumption|exact⟨_,rfl,rfl⟩|(simp;omega)|(simp;done)))
   refine ay (ih x.ak[i] (by have:=ah.GX hi;omega) (by omega)) ?_
   simp -implicitDefEqProofs (disch:=omega) only[go_sem]<;>(repeat(with_reducible refine And.intro ?_ ?_;focus first|omega|rfl|assumption|exact⟨_,rfl,rfl⟩|(simp;omega)|(simp;done)))
   refine ay (MW _ _) ?_
   simp -implicitDefEqProofs (disch:=omega) only[go_sem]<;>(repeat(with_reducible refine And.intro ?_ ?_;focus first|omega|rfl|assumption|exact⟨_,rfl,rfl⟩|(simp;omega)|(simp;done)))
   rw[show max (c:Int) ((jT x.ak[i]:Int))=((max c (jT x.ak[i]):Nat):Int) by omega]
   exact bI (i+1,max c (jT x.ak[i])) (by simp only;omega) rfl rfl ⟨by simp only;omega,by simp only;omega⟩
  ·have hi:i=x.ak.length:=by omega
   rw[hi,List.drop_length,mE] at p2
   (repeat(with_reducible refine And.intro ?_ ?_;focus first|omega|rfl|assumption|exact⟨_,rfl,rfl⟩|(simp;omega)|(simp;done)))
   exact int_eq (by omega)
theorem KC(x:ah)(hsz:x.sz≤67108864):aI Tryz.prog 196 [x.v] (.c (.d (.i .i64 (jT x)))):=zQ _ x (Nat.lt_succ_self _) hsz
theorem wC(x:ah)(hsz:x.sz≤67108864):aI Tryz.prog 104 [x.v] (.c (.d (.b (jh x)))):=fun S=>by
 refine aF (rs:=[.tmp 2]) Tryz.checked.mixed Tryz.func104 Tryz.ntmps104 rfl rfl rfl rfl rfl ?_
 simp -implicitDefEqProofs (disch:=omega) only[go_sem]
 refine ay (Vf x 900 (by omega) (by omega) hsz) ?_
 simp -implicitDefEqProofs (disch:=omega) only[go_sem]<;>(repeat(with_reducible refine And.intro ?_ ?_;focus first|omega|rfl|assumption|exact⟨_,rfl,rfl⟩|(simp;omega)|(simp;done)))
 with_reducible refine aA (fun hb=> ?_) (fun hb=> ?_)<;>have h:=hb<;>(try simp only[wf_preprocess] at h)<;>simp -implicitDefEqProofs (disch:=omega) only[go_sem,hb]<;>(repeat(with_reducible refine And.intro ?_ ?_;focus first|omega|rfl|assumption|exact⟨_,rfl,rfl⟩|(simp;omega)|(simp;done)))
 ·have h1:=(uJ (l:=900) (a:=jo x) (by omega)).2
  refine ay (Vg x hsz) ?_
  simp -implicitDefEqProofs (disch:=omega) only[go_sem]<;>(repeat(with_reducible refine And.intro ?_ ?_;focus first|omega|rfl|assumption|exact⟨_,rfl,rfl⟩|(simp;omega)|(simp;done)))
  with_reducible refine aA (fun hb=> ?_) (fun hb=> ?_)<;>have h:=hb<;>(try simp only[wf_preprocess] at h)<;>simp -implicitDefEqProofs (disch:=omega) only[go_sem,hb]<;>(repeat(with_reducible refine And.intro ?_ ?_;focus first|omega|rfl|assumption|exact⟨_,rfl,rfl⟩|(simp;omega)|(simp;done)))
  ·have hf:=h
   refine ay (KC x hsz) ?_
   simp -implicitDefEqProofs (disch:=omega) only[go_sem]<;>(repeat(with_reducible refine And.intro ?_ ?_;focus first|omega|rfl|assumption|exact⟨_,rfl,rfl⟩|(simp;omega)|(simp;done)))
   refine aD ?_
   unfold jh
   rw[hf,Bool.true_and]
   exact decide_eq_decide.2 (by omega)
  ·refine aD ?_
   unfold jh
   rw[h,Bool.false_and]
 ·have h1:=uK (l:=900) (a:=jo x) (by omega)
  refine aD ?_
  unfold jh
  rw[decide_eq_false (by omega),Bool.and_false]
end Go.Proofs.YtlmhknhlmicmeaaGreatDoor
namespace Go.Ab
def lx(l:List ah)(n:Nat):List (List D):=eX (l.map ah.enc) n
def iT(x:ah):Nat:=nV x.enc
def gT(l:List ah):Nat:=jU (l.map ah.enc)
theorem lH(x:ah)(n:Nat):eH x.enc n=[.s x.aV,.ol n (lx x.ak (n+1))]:=by
 rw[ah.aH];simp only[eH,lX,nU,Nat.add_zero,lx]
theorem yU(s:List UInt8)(n:Nat):eH (bn s).enc n=[.s s,.ol n []]:=by rw[lH];rfl
theorem Z9(x:ah):iT x=gT x.ak+1:=by
 unfold iT gT
 rw[ah.aH];simp only[nV,nU];omega
theorem mh(s:List UInt8):iT (bn s)=1:=by rw[Z9];rfl
theorem pE(n:Nat):lx [] n=[]:=rfl
theorem mV(x:ah)(l:List ah)(n:Nat):lx (x::l) n=eH x.enc n::lx l (n+iT x):=rfl
theorem jI(a b:List ah)(n:Nat):lx (a++b) n=lx a n++lx b (n+gT a):=by unfold lx gT;rw[List.map_append,nW]
theorem Vh:gT []=0:=rfl
theorem Sj(x:ah)(l:List ah):gT (x::l)=iT x+gT l:=rfl
theorem gI(l:List ah)(n:Nat):(lx l n).length=l.length:=by unfold lx;rw[jV,List.length_map]
theorem j5{l:List ah}{n:Nat}:∀r∈lx l n,r.length=2:=Av fun r hr=>by
 obtain⟨z,_,rfl⟩:=List.mem_map.1 hr
 exact z.bG
theorem I4{l:List ah}{i:Nat}(hi:i<l.length)(n:Nat):lx (l.take i) n++[eH l[i].enc (n+gT (l.take i))]=lx (l.take (i+1)) n:=by
 rw[List.take_succ_eq_append_getElem hi,jI];rfl
theorem M8{l:List ah}{i:Nat}(hi:i<l.length)(n:Nat):lx (l.take i) n++[[.s l[i].aV,.ol (n+gT (l.take i)) (lx l[i].ak (n+gT (l.take i)+1))]]=lx (l.take (i+1)) n:=by
 rw[←I4 hi,lH]
theorem AV{base l:List ah}{i:Nat}(hi:i<l.length)(q:Nat):lx (base++l.take i) q++[[.s l[i].aV,.ol (q+gT (base++l.take i)) (lx l[i].ak (q+gT (base++l.take i)+1))]]=lx (base++l.take (i+1)) q:=by
 rw[List.take_succ_eq_append_getElem hi,←List.append_assoc,jI (base++l.take i),mV,pE,lH]
theorem iy{l:List ah}:∀r∈l.map ah.enc,r.length=2:=fun r hr=>by
 obtain⟨z,_,rfl⟩:=List.mem_map.1 hr
 exact z.bG
theorem zo{cs cs':List C}(hl:cs'.length=cs.length)(h:∀(j:Nat) (x y:C),cs[j]? =some x→cs'[j]? =some y→∀w σ S β v,fO w σ S β x v→fO w σ S β y v):Less (.agg cs) (.agg cs'):=by
 rintro w σ S β v ⟨a,ha,hc⟩
 refine⟨a,ha,hl.trans hc.1,fun j y hy=> ?_⟩
 have hj:j<cs.length:=by rw[←hl];exact(List.getElem?_eq_some_iff.1 hy).1
 obtain⟨v,h1,h2,h3⟩:=hc.2 j _ (List.getElem?_eq_getElem hj)
 exact⟨v,h1,h j _ y (List.getElem?_eq_getElem hj) hy w σ S β v h2,h3⟩
theorem abG{w:World}{σ:Nat→Nat}{S:Store}{β:Hs}{v:Value}(n:Nat)(h:fO w σ S β (.aO []) v):fO w σ S β (.d (.ol n [])) v:=by
 obtain⟨hd,ad,m,hval⟩:=h
 have hm:m=0:=by rw[hval] at hd;cases hd<;>rfl
 subst hm
 rw[hval]
 exact .qm _ _ _
theorem aac(s:List UInt8)(n:Nat):Less (.agg [.d (.s s),.aO []]) (.agg [.d (.s s),.d (.ol n [])]):=zo rfl fun j x y hx hy w σ S β v hv=>by
 match j,hx,hy with
 |0,hx,hy=>cases hx;cases hy;exact hv
 |1,hx,hy=>cases hx;cases hy;exact abG _ hv
 |j+2,hx,hy=>simp at hx
theorem aad(s:List UInt8)(n:Nat)(es:List (List D)):Less (.agg [.d (.s s),.iK n es]) (.agg [.d (.s s),.d (.ol n es)]):=zo rfl fun j x y hx hy w σ S β v hv=>by
 match j,hx,hy with
 |0,hx,hy=>cases hx;cases hy;exact hv
 |1,hx,hy=>cases hx;cases hy;exact hv.1
 |j+2,hx,hy=>simp at hx
end Go.Ab
namespace Go.Proofs.YtlmhknhlmicmeaaGreatDoor
open Go Go.Ab
theorem O0(s:List UInt8):aI Tryz.prog 67 [.c (.d (.s s))] (.agg [.d (.s s),.aO []]):=fun S=>by
 refine aF (rs:=[.cell 2 32]) Tryz.checked.mixed Tryz.func67 Tryz.ntmps67 rfl rfl rfl rfl rfl ?_
 simp -implicitDefEqProofs (disch:=omega) only[go_sem]
theorem dM(s:List UInt8)(n:Nat):aI Tryz.prog 67 [.c (.d (.s s))] (.agg [.d (.s s),.d (.ol n [])]):=aI.less (O0 s) (aac s n)
theorem lY(d:D):aI Tryz.prog 75 [.c (.d d)] (.agg [.d (.s []),.d d]):=fun S=>by
 refine aF (rs:=[.cell 2 32]) Tryz.checked.mixed Tryz.func75 Tryz.ntmps75 rfl rfl rfl rfl rfl ?_
 simp -implicitDefEqProofs (disch:=omega) only[go_sem]
theorem O1(n:Nat)(es:List (List D)):aI Tryz.prog 75 [.c (.iK n es)] (.agg [.d (.s []),.iK n es]):=fun S=>by
 refine aF (rs:=[.cell 2 32]) Tryz.checked.mixed Tryz.func75 Tryz.ntmps75 rfl rfl rfl rfl rfl ?_
 simp -implicitDefEqProofs (disch:=omega) only[go_sem]
theorem tZ(n:Nat)(es:List (List D)):aI Tryz.prog 75 [.c (.iK n es)] (.agg [.d (.s []),.d (.ol n es)]):=aI.less (O1 n es) (aad [] n es)
theorem jq(l j:Nat)(es:List (List D))(S:Store):bD Tryz.prog 75 [.c (.bL (l,j) es)] S (fun r S'=>r=.agg [.d (.s []),.bL (l,j) es]∧S'=S):=by
 refine aF (rs:=[.cell 2 32]) Tryz.checked.mixed Tryz.func75 Tryz.ntmps75 rfl rfl rfl rfl rfl ?_
 simp -implicitDefEqProofs (disch:=omega) only[go_sem]
theorem wD(xs:List (List UInt8))(hx:xs.length≤1073741824)(n q:Nat):aI Tryz.prog 173 [.c (.d (.sl (xs.map encS)))] (.c (.d (.ol n (lx (aS xs) q)))):=fun S=>by
 refine l8 (n) (rs:=[.tmp 2]) Tryz.checked.mixed Tryz.func173 Tryz.ntmps173 rfl rfl rfl rfl rfl ?_
 simp -implicitDefEqProofs (disch:=omega) only[go_sem]
 (repeat(with_reducible refine And.intro ?_ ?_;focus first|omega|rfl|assumption|exact⟨_,rfl,rfl⟩|(simp;omega)|(simp;done)))
 refine pR n 3 2 [] (.inl rfl) (by simp) ?_
 refine aX (ι:=Nat) Tryz.checked.mixed rfl [3,7,8,9] (fun i=>[.c (.bL (0,1) (lx ((aS xs).take i) q)),.c (.d (.sl (xs.map encS))),.c (.d (.i .i64 xs.length)),.c (.d (.i .i64 i))]) (fun i=>[.seed n,.eP n 2 (lx ((aS xs).take i) q)]::S)
  (fun i=>i≤xs.length) (fun i=>xs.length-i) 0 rfl rfl (Nat.zero_le _) ?_
 intro i hi
 simp -implicitDefEqProofs (disch:=omega) only[go_sem]
 with_reducible refine aA (fun hb=> ?_) (fun hb=> ?_)<;>have h:=hb<;>(try simp only[wf_preprocess] at h)<;>simp -implicitDefEqProofs (disch:=omega) only[go_sem,hb]<;>(repeat(with_reducible refine And.intro ?_ ?_;focus first|omega|rfl|assumption|exact⟨_,rfl,rfl⟩|(simp;omega)|(simp;done)))
 ·have hi':i<xs.length:=by omega
  have hw:i<(aS xs).length:=by rw[jG];exact hi'
  have hg:(aS xs)[i]=bn xs[i]:=by simp[aS]
  have hl:(lx ((aS xs).take i) q).length≤i:=by rw[gI];exact List.length_take_le _ _
  (repeat(with_reducible refine And.intro ?_ ?_;focus first|omega|rfl|assumption|exact⟨_,rfl,rfl⟩|(simp;omega)|(simp;done)))
  refine ay (dM xs[i] (q+gT ((aS xs).take i))) ?_
  simp -implicitDefEqProofs (disch:=omega) only[go_sem]
  (repeat(with_reducible refine And.intro ?_ ?_;focus first|omega|rfl|assumption|exact⟨_,rfl,rfl⟩|(simp;omega)|(simp;done)))
  have hs:=I4 hw q
  rw[hg,yU] at hs
  rw[hs]
  exact bI (i+1) (by omega) rfl rfl (by omega)
 ·have hi':i=(aS xs).length:=by rw[jG];omega
  rw[hi',List.take_length]
theorem gU(xs:List (List UInt8))(hx:xs.length≤1073741824)(n:Nat):aI Tryz.prog 68 [.c (.d (.sl (xs.map encS)))] (.agg [.d (.s []),.d (.ol n (lx (aS xs) (n+1)))]):=fun S=>by
 refine aF (rs:=[.cell 2 32]) Tryz.checked.mixed Tryz.func68 Tryz.ntmps68 rfl rfl rfl rfl rfl ?_
 simp -implicitDefEqProofs (disch:=omega) only[go_sem]
 refine ay (wD xs hx n (n+1)) ?_
 simp -implicitDefEqProofs (disch:=omega) only[go_sem]
 refine ay (lY _) ?_
 simp -implicitDefEqProofs (disch:=omega) only[go_sem]
theorem AX:∀N:Nat,(∀x:aj,SizeOf.sizeOf x<N→∀n:Nat,formed x=true→x.sz≤4194304→aI Tryz.prog 175 [x.v] (.agg [.d (.s (dB x).aV),.d (.ol n (lx (dB x).ak (n+1)))]))∧
 (∀xs:List aj,SizeOf.sizeOf xs<N→∀n q:Nat,gD xs=true→xs.length≤4194304→(∀t∈xs,t.sz≤4194304)→aI Tryz.prog 174 [.c (.d (.sl (xs.map aj.enc)))] (.c (.d (.ol n (lx (xs.map dB) q)))))
 |0=>⟨fun x h=>by omega,fun x h=>by omega⟩
 |N+1=>by
  obtain⟨ih,lF⟩:=AX N
  refine⟨fun x hn n hf hsz=> ?_,fun xs hn n q hf hlen hsz=> ?_⟩
  ·have gZ:=aj.fq x
   have hts:=yP hsz
   have hx:=UO x
   rw[vM,Bool.and_eq_true] at hf
   have hfi:=iH hf.1
   have hall:∀t∈x.fArgs,t.sz≤4194304:=fun t ht=>by
    obtain⟨i,hi,e⟩:=List.getElem_of_mem ht
    rw[←e];exact(qK hi hsz).1
   intro S
   refine wY (n) 1 (rs:=[.cell 2 32]) Tryz.checked.mixed Tryz.func175 Tryz.ntmps175 rfl rfl rfl rfl rfl ?_
   simp -implicitDefEqProofs (disch:=omega) only[go_sem]
   with_reducible refine aA (fun hb=> ?_) (fun hb=> ?_)<;>have h:=hb<;>(try simp only[wf_preprocess] at h)<;>simp -implicitDefEqProofs (disch:=omega) only[go_sem,hb]<;>(repeat(with_reducible refine And.intro ?_ ?_;focus first|omega|rfl|assumption|exact⟨_,rfl,rfl⟩|(simp;omega)|(simp;done)))
   ·rw[if_pos h] at hx
    rw[hx]
    (repeat(with_reducible refine And.intro ?_ ?_;focus first|omega|rfl|assumption|exact⟨_,rfl,rfl⟩|(simp;omega)|(simp;done)))
    refine ay (dM _ n) ?_
    simp -implicitDefEqProofs (disch:=omega) only[go_sem]
    rfl
   have k1:=h
   rw[if_neg h] at hx
   with_reducible refine aA (fun hb=> ?_) (fun hb=> ?_)<;>have h:=hb<;>(try simp only[wf_preprocess] at h)<;>simp -implicitDefEqProofs (disch:=omega) only[go_sem,hb]<;>(repeat(with_reducible refine And.intro ?_ ?_;focus first|omega|rfl|assumption|exact⟨_,rfl,rfl⟩|(simp;omega)|(simp;done)))
   ·rw[if_pos h] at hx
    rw[hx]
    refine ay (dM _ (n+1)) ?_
    simp -implicitDefEqProofs (disch:=omega) only[go_sem]
    refine ay (dM _ (n+1+1)) ?_
    simp -implicitDefEqProofs (disch:=omega) only[go_sem]
    refine ay (tZ _ _) ?_
    simp -implicitDefEqProofs (disch:=omega) only[go_sem]
    rfl
   have k4:=h
   rw[if_neg h] at hx
   with_reducible refine aA (fun hb=> ?_) (fun hb=> ?_)<;>have h:=hb<;>(try simp only[wf_preprocess] at h)<;>simp -implicitDefEqProofs (disch:=omega) only[go_sem,hb]<;>(repeat(with_reducible refine And.intro ?_ ?_;focus first|omega|rfl|assumption|exact⟨_,rfl,rfl⟩|(simp;omega)|(simp;done)))
   ·have hlen:x.fArgs.length=1:=by omega
    obtain⟨a,ha⟩:=List.length_eq_one_iff.1 hlen
    have ha0:x.fArgs[0]'(by omega)=a:=by simp[ha]
    rw[if_neg (by omega),if_pos h,ha] at hx
    have hfa:formed a=true:=vv.1 hf.2 a (by rw[ha];simp)
    have hsa:a.sz≤4194304:=hall a (by rw[ha];simp)
    have hla:SizeOf.sizeOf a<N:=by
     have:=List.sizeOf_lt_of_mem (show a∈x.fArgs by rw[ha];simp)
     omega
    rw[hx]
    refine ay (dM _ (n+1)) ?_
    simp -implicitDefEqProofs (disch:=omega) only[go_sem]
    refine ay (dM _ (n+1+1)) ?_
    simp -implicitDefEqProofs (disch:=omega) only[go_sem,ha,List.getD_cons_zero]
    (repeat(with_reducible refine And.intro ?_ ?_;focus first|omega|rfl|assumption|exact⟨_,rfl,rfl⟩|(simp;omega)|(simp;done)))
    refine ay (ih a hla (n+1+1+1) hfa hsa) ?_
    simp -implicitDefEqProofs (disch:=omega) only[go_sem]
    refine ay (tZ _ _) ?_
    simp -implicitDefEqProofs (disch:=omega) only[go_sem]
    simp only[eF,dX,List.cons_append,List.nil_append,List.map_cons,List.map_nil,mV,pE,yU,mh,lH,kQ,kR,fJ]
   have k3:=h
   with_reducible refine aA (fun hb=> ?_) (fun hb=> ?_)<;>have h:=hb<;>(try simp only[wf_preprocess] at h)<;>simp -implicitDefEqProofs (disch:=omega) only[go_sem,hb]<;>(repeat(with_reducible refine And.intro ?_ ?_;focus first|omega|rfl|assumption|exact⟨_,rfl,rfl⟩|(simp;omega)|(simp;done)))
   ·rw[if_pos ⟨by omega,by omega⟩] at hx
    rw[hx]
    refine ay (dM _ n) ?_
    simp -implicitDefEqProofs (disch:=omega) only[go_sem]
    rfl
   rw[if_neg (by omega),if_neg k3] at hx
   rw[hx]
   refine ay (dM _ (n+1)) ?_
   simp -implicitDefEqProofs (disch:=omega) only[go_sem]
   refine ay (lF x.fArgs (by omega) 0 (n+1+1) hf.2 hts.1 hall) ?_
   simp -implicitDefEqProofs (disch:=omega) only[go_sem]
   have hl:(lx (x.fArgs.map dB) (n+1+1)).length=x.fArgs.length:=by rw[gI,List.length_map]
   have hr:=j5 (l:=x.fArgs.map dB) (n:=n+1+1)
   (repeat(with_reducible refine And.intro ?_ ?_;focus first|omega|rfl|assumption|exact⟨_,rfl,rfl⟩|(simp;omega)|(simp;done)))
   refine ay (lY _) ?_
   simp -implicitDefEqProofs (disch:=omega) only[go_sem]
   simp only[eF,dX,List.cons_append,List.nil_append,mV,pE,yU,mh]
  ·have AY:=fun(i:Nat) (hi:i<xs.length)=>M8 (l:=xs.map dB) (i:=i) (by rw[List.length_map];exact hi) q
   intro S
   refine l8 (n) (rs:=[.tmp 2]) Tryz.checked.mixed Tryz.func174 Tryz.ntmps174 rfl rfl rfl rfl rfl ?_
   simp -implicitDefEqProofs (disch:=omega) only[go_sem]
   (repeat(with_reducible refine And.intro ?_ ?_;focus first|omega|rfl|assumption|exact⟨_,rfl,rfl⟩|(simp;omega)|(simp;done)))
   refine pR n 3 2 [] (.inl rfl) (by simp) ?_
   refine aX (ι:=Nat) Tryz.checked.mixed rfl [3,7,8,9] (fun i=>[.c (.bL (0,1) (lx ((xs.map dB).take i) q)),.c (.d (.sl (xs.map aj.enc))),.c (.d (.i .i64 xs.length)),.c (.d (.i .i64 i))]) (fun i=>[.seed n,.eP n 2 (lx ((xs.map dB).take i) q)]::S)
    (fun i=>i≤xs.length) (fun i=>xs.length-i) 0 rfl rfl (Nat.zero_le _) ?_
   intro i hi
   simp -implicitDefEqProofs (disch:=omega) only[go_sem]
   with_reducible refine aA (fun hb=> ?_) (fun hb=> ?_)<;>have h:=hb<;>(try simp only[wf_preprocess] at h)<;>simp -implicitDefEqProofs (disch:=omega) only[go_sem,hb]<;>(repeat(with_reducible refine And.intro ?_ ?_;focus first|omega|rfl|assumption|exact⟨_,rfl,rfl⟩|(simp;omega)|(simp;done)))
   ·have hi':i<xs.length:=by omega
    have hs:=AY i hi'
    rw[List.getElem_map] at hs
    have hl:(lx ((xs.map dB).take i) q).length≤i:=by rw[gI];exact List.length_take_le _ _
    (repeat(with_reducible refine And.intro ?_ ?_;focus first|omega|rfl|assumption|exact⟨_,rfl,rfl⟩|(simp;omega)|(simp;done)))
    refine ay (ih xs[i] (by have:=List.sizeOf_lt_of_mem (List.getElem_mem hi');omega) (q+gT ((xs.map dB).take i)) (vv.1 hf _ (List.getElem_mem hi')) (hsz _ (List.getElem_mem hi'))) ?_
    simp -implicitDefEqProofs (disch:=omega) only[go_sem]
    (repeat(with_reducible refine And.intro ?_ ?_;focus first|omega|rfl|assumption|exact⟨_,rfl,rfl⟩|(simp;omega)|(simp;done)))
    rw[hs]
    exact dA 2 (by decide) (i+1) (by omega) rfl rfl rfl rfl (by omega)
   ·have hi':i=(xs.map dB).length:=by rw[List.length_map];omega
    rw[hi',List.take_length]
theorem wZ(x:aj)(n:Nat)(hf:formed x=true)(hsz:x.sz≤4194304):aI Tryz.prog 175 [x.v] (.agg [.d (.s (dB x).aV),.d (.ol n (lx (dB x).ak (n+1)))]):=(AX _).1 x (Nat.lt_succ_self _) n hf hsz
theorem zq(xs:List aj)(n q:Nat)(hf:gD xs=true)(hlen:xs.length≤4194304)(hsz:∀t∈xs,t.sz≤4194304):aI Tryz.prog 174 [.c (.d (.sl (xs.map aj.enc)))] (.c (.d (.ol n (lx (xs.map dB) q)))):=(AX _).2 xs (Nat.lt_succ_self _) n q hf hlen hsz
end Go.Proofs.YtlmhknhlmicmeaaGreatDoor
namespace Go.Ab
theorem fI(s:List UInt8):(bn s).enc=[.s s,.sl []]:=by rw[ah.aH];rfl
theorem oP(l:List ah):(dn l).enc=[.s [],.sl (l.map ah.enc)]:=by rw[ah.aH];rfl
theorem lq{base l:List ah}{i:Nat}(hi:i<l.length):(base++l.take i).map ah.enc++[[.s l[i].aV,.sl (l[i].ak.map ah.enc)]]=(base++l.take (i+1)).map ah.enc:=by
 rw[List.take_succ_eq_append_getElem hi,←List.append_assoc,List.map_append (l₂:=[l[i]]),List.map_cons,List.map_nil,ah.aH]
theorem I5(s:List UInt8)(es:List (List D)):Less (.agg [.d (.s s),.aO es]) (.agg [.d (.s s),.d (.sl es)]):=zo rfl fun j x y hx hy w σ S β v hv=>by
 match j,hx,hy with
 |0,hx,hy=>cases hx;cases hy;exact hv
 |1,hx,hy=>cases hx;cases hy;exact hv.1
 |j+2,hx,hy=>simp at hx
theorem aae(x:ah)(n:Nat):Less (.agg [.d (.s x.aV),.d (.ol n (lx x.ak (n+1)))]) x.v:=by
 have h:=EO (r:=x.enc) (n:=n)
 rw[lH,ah.oN] at h
 exact h
end Go.Ab
namespace Go.Proofs.YtlmhknhlmicmeaaGreatDoor
open Go Go.Ab
theorem M9(s:List UInt8):aI Tryz.prog 54 [.c (.d (.s s))] (.agg [.d (.s s),.aO []]):=fun S=>by
 refine aF (rs:=[.cell 2 32]) Tryz.checked.mixed Tryz.func54 Tryz.ntmps54 rfl rfl rfl rfl rfl ?_
 simp -implicitDefEqProofs (disch:=omega) only[go_sem]
theorem bQ(s:List UInt8):aI Tryz.prog 54 [.c (.d (.s s))] (.agg [.d (.s s),.d (.sl [])]):=aI.less (M9 s) (I5 s [])
theorem O3(es:List (List D))(hes:∀e∈es,e.length=2)(hl:es.length≤1073741824):aI Tryz.prog 53 [.c (.d (.sl es))] (.agg [.d (.s []),.d (.sl es)]):=fun S=>by
 refine aF (rs:=[.cell 2 32]) Tryz.checked.mixed Tryz.func53 Tryz.ntmps53 rfl rfl rfl rfl rfl ?_
 simp -implicitDefEqProofs (disch:=omega) only[go_sem]
 exact⟨hes,⟨_,rfl,rfl⟩,(fun y hy=>by cases hy),hl⟩
theorem og(es:List (List D))(hes:∀e∈es,e.length=2)(hl:es.length≤1073741824)(bf:List Ab.Obj)(Ω:Store):bD Tryz.prog 53 [.c (.d (.sl es))] (bf::Ω)
 (fun r S'=>r=.agg [.d (.s []),.bL (0,bf.length+1) es]∧S'=(bf++[.box [.d (.s []),.bL (0,bf.length+1) es],.tok 2 es])::Ω):=by
 refine JG (rs:=[.cell 2 32]) Tryz.checked.mixed Tryz.func53 Tryz.ntmps53 rfl rfl rfl rfl rfl ?_
 simp -implicitDefEqProofs (disch:=omega) only[go_sem]
 exact⟨hes,⟨_,rfl,rfl⟩,(fun y hy=>by cases hy),hl⟩
theorem CF(xs:List (List UInt8))(hx:xs.length≤1073741824):aI Tryz.prog 156 [.c (.d (.sl (xs.map encS)))] (.c (.d (.sl ((aS xs).map ah.enc)))):=fun S=>by
 refine aF (rs:=[.tmp 2]) Tryz.checked.mixed Tryz.func156 Tryz.ntmps156 rfl rfl rfl rfl rfl ?_
 simp -implicitDefEqProofs (disch:=omega) only[go_sem]
 (repeat(with_reducible refine And.intro ?_ ?_;focus first|omega|rfl|assumption|exact⟨_,rfl,rfl⟩|(simp;omega)|(simp;done)))
 refine vJ 3 2 [] rfl (by simp) ?_
 refine aX (ι:=Nat) Tryz.checked.mixed rfl [0,3,4] (fun i=>[.c (.d (.sl (xs.map encS))),.c (.bL (0,0) (((aS xs).take i).map ah.enc)),.c (.d (.i .i64 i))]) (fun i=>[.tok 2 (((aS xs).take i).map ah.enc)]::S)
  (fun i=>i≤xs.length) (fun i=>xs.length-i) 0 rfl rfl (Nat.zero_le _) ?_
 intro i hi
 have hl:(((aS xs).take i).map ah.enc).length≤i:=by rw[List.length_map];exact List.length_take_le _ _
 simp -implicitDefEqProofs (disch:=omega) only[go_sem]
 with_reducible refine aA (fun hb=> ?_) (fun hb=> ?_)<;>have h:=hb<;>(try simp only[wf_preprocess] at h)<;>simp -implicitDefEqProofs (disch:=omega) only[go_sem,hb]<;>(repeat(with_reducible refine And.intro ?_ ?_;focus first|omega|rfl|assumption|exact⟨_,rfl,rfl⟩|(simp;omega)|(simp;done)))
 ·have hi':i<xs.length:=by omega
  have hs:=lq (base:=[]) (l:=aS xs) (i:=i) (by rw[jG];exact hi')
  have hg:(aS xs)[i]'(by rw[jG];exact hi')=bn xs[i]:=by simp[aS]
  rw[hg] at hs
  simp only[List.nil_append,kQ,kR,List.map_nil] at hs
  (repeat(with_reducible refine And.intro ?_ ?_;focus first|omega|rfl|assumption|exact⟨_,rfl,rfl⟩|(simp;omega)|(simp;done)))
  refine ay (bQ xs[i]) ?_
  simp -implicitDefEqProofs (disch:=omega) only[go_sem]
  (repeat(with_reducible refine And.intro ?_ ?_;focus first|omega|rfl|assumption|exact⟨_,rfl,rfl⟩|(simp;omega)|(simp;done)))
  rw[hs]
  exact bI (i+1) (by omega) rfl rfl (by omega)
 ·have hi':i=(aS xs).length:=by rw[jG];omega
  rw[hi',List.take_length]
theorem iD(xs:List (List UInt8))(hx:xs.length≤1073741824):aI Tryz.prog 55 [.c (.d (.sl (xs.map encS)))] (.agg [.d (.s []),.d (.sl ((aS xs).map ah.enc))]):=fun S=>by
 refine aF (rs:=[.cell 2 32]) Tryz.checked.mixed Tryz.func55 Tryz.ntmps55 rfl rfl rfl rfl rfl ?_
 simp -implicitDefEqProofs (disch:=omega) only[go_sem]
 refine ay (CF xs hx) ?_
 simp -implicitDefEqProofs (disch:=omega) only[go_sem]
theorem G6:∀N:Nat,(∀x:aj,SizeOf.sizeOf x<N→x.sz≤4194304→aI Tryz.prog 159 [x.v] (.agg [.d (.s (dB x).aV),.d (.sl ((dB x).ak.map ah.enc))]))
 |0=>fun x h=>by omega
 |N+1=>by
  have ih:=G6 N
  intro x hn hsz
  have gZ:=aj.fq x
  have hts:=yP hsz
  have hx:=UO x
  have hall:∀t∈x.fArgs,t.sz≤4194304:=fun t ht=>by
   obtain⟨i,hi,e⟩:=List.getElem_of_mem ht
   rw[←e];exact(qK hi hsz).1
  intro S
  refine aF (rs:=[.cell 2 32]) Tryz.checked.mixed Tryz.func159 Tryz.ntmps159 rfl rfl rfl rfl rfl ?_
  simp -implicitDefEqProofs (disch:=omega) only[go_sem]
  with_reducible refine aA (fun hb=> ?_) (fun hb=> ?_)<;>have h:=hb<;>(try simp only[wf_preprocess] at h)<;>simp -implicitDefEqProofs (disch:=omega) only[go_sem,hb]<;>(repeat(with_reducible refine And.intro ?_ ?_;focus first|omega|rfl|assumption|exact⟨_,rfl,rfl⟩|(simp;omega)|(simp;done)))
  ·rw[if_pos h] at hx
   rw[hx]
   (repeat(with_reducible refine And.intro ?_ ?_;focus first|omega|rfl|assumption|exact⟨_,rfl,rfl⟩|(simp;omega)|(simp;done)))
   refine ay (bQ _) ?_
   simp -implicitDefEqProofs (disch:=omega) only[go_sem]
   rfl
  rw[if_neg h] at hx
  with_reducible refine aA (fun hb=> ?_) (fun hb=> ?_)<;>have h:=hb<;>(try simp only[wf_preprocess] at h)<;>simp -implicitDefEqProofs (disch:=omega) only[go_sem,hb]<;>(repeat(with_reducible refine And.intro ?_ ?_;focus first|omega|rfl|assumption|exact⟨_,rfl,rfl⟩|(simp;omega)|(simp;done)))
  ·rw[if_pos h] at hx
   rw[hx]
   refine ay (bQ _) ?_
   simp -implicitDefEqProofs (disch:=omega) only[go_sem]
   refine ay (bQ _) ?_
   simp -implicitDefEqProofs (disch:=omega) only[go_sem]
   refine ay (O3 _ (by simp) (by simp)) ?_
   simp -implicitDefEqProofs (disch:=omega) only[go_sem]
   simp only[eF,dX,List.map_cons,List.map_nil,fI,Ar]
  rw[if_neg h] at hx
  have afQ:x.aM=2→x.fArgs.length=0→dB x=bn x.fName:=fun a b=>by rw[hx,if_pos ⟨a,b⟩]
  have Yi:¬(x.aM=2∧x.fArgs.length=0)→dB x=dn ((if x.aM=3 then [bn fJ] else [])++[bn x.fName]++x.fArgs.map dB):=fun a=>by rw[hx,if_neg a]
  clear hx
  repeat' (first|(with_reducible refine aA (fun hb=> ?_) (fun hb=> ?_)<;>have h:=hb<;>(try simp only[wf_preprocess] at h)<;>simp -implicitDefEqProofs (disch:=omega) only[go_sem,hb]<;>(repeat(with_reducible refine And.intro ?_ ?_;focus first|omega|rfl|assumption|exact⟨_,rfl,rfl⟩|(simp;omega)|(simp;done)))))
  ·rw[afQ (by omega) (by omega)]
   refine ay (bQ _) ?_
   simp -implicitDefEqProofs (disch:=omega) only[go_sem]
   rfl
  ·exfalso;omega
  ·have hx:=Yi (by omega)
   rw[if_neg h,List.nil_append] at hx
   refine ay (bQ _) ?_
   simp -implicitDefEqProofs (disch:=omega) only[go_sem]
   (repeat(with_reducible refine And.intro ?_ ?_;focus first|omega|rfl|assumption|exact⟨_,rfl,rfl⟩|(simp;omega)|(simp;done)))
   refine aX (ι:=Nat) Tryz.checked.mixed rfl [1,2,3,4] (fun i=>[.c (.ptr (0,0) 0),.c (.ptr (0,1) 0),.c (.ptr (0,2) 0),.c (.d (.i .i64 i))])
    (fun i=>[.box [.d (.i .i64 x.aM),.d (.s x.fName),.d (.sl (x.fArgs.map aj.enc))],.box [.d (.s []),.aO []],.box [.d (.s []),.bL (0,3) (([bn x.fName]++(x.fArgs.map dB).take i).map ah.enc)],.tok 2 (([bn x.fName]++(x.fArgs.map dB).take i).map ah.enc)]::S)
    (fun i=>i≤x.fArgs.length) (fun i=>x.fArgs.length-i) 0 rfl ?_ (Nat.zero_le _) ?_
   ·simp only[List.take_zero,List.append_nil,List.map_cons,List.map_nil,List.cons_append,List.nil_append,fI]<;>(try rfl)
   intro i hi
   have hl:(([bn x.fName]++(x.fArgs.map dB).take i).map ah.enc).length≤i+2:=by
    rw[List.length_map,List.length_append]
    have:=List.length_take_le i (x.fArgs.map dB)
    simp only[List.length_cons,List.length_nil];omega
   have hs:=fun hi=>lq (base:=[bn x.fName]) (l:=x.fArgs.map dB) (i:=i) hi
   have hrw:=iy (l:=[bn x.fName]++(x.fArgs.map dB).take i)
   generalize hR:([bn x.fName]++(x.fArgs.map dB).take i).map ah.enc=R at hl hs hrw
   simp -implicitDefEqProofs (disch:=omega) only[go_sem]
   with_reducible refine aA (fun hb=> ?_) (fun hb=> ?_)<;>have h:=hb<;>(try simp only[wf_preprocess] at h)<;>simp -implicitDefEqProofs (disch:=omega) only[go_sem,hb]<;>(repeat(with_reducible refine And.intro ?_ ?_;focus first|omega|rfl|assumption|exact⟨_,rfl,rfl⟩|(simp;omega)|(simp;done)))
   ·have hi':i<x.fArgs.length:=by omega
    have hs':=hs (by rw[List.length_map];exact hi')
    rw[List.getElem_map] at hs'
    (repeat(with_reducible refine And.intro ?_ ?_;focus first|omega|rfl|assumption|exact⟨_,rfl,rfl⟩|(simp;omega)|(simp;done)))
    refine ay (ih x.fArgs[i] (by have:=List.sizeOf_lt_of_mem (List.getElem_mem hi');omega) (hall _ (List.getElem_mem hi'))) ?_
    simp -implicitDefEqProofs (disch:=omega) only[go_sem]
    (repeat(with_reducible refine And.intro ?_ ?_;focus first|omega|rfl|assumption|exact⟨_,rfl,rfl⟩|(simp;omega)|(simp;done)))
    rw[hs']
    exact bI (i+1) (by omega) rfl rfl (by omega)
   ·have hi':i=(x.fArgs.map dB).length:=by rw[List.length_map];omega
    rw[hx,←hR,hi',List.take_length]
    simp only[eF,dX,List.cons_append,List.nil_append]
  ·have hx:=Yi (by omega)
   rw[if_pos h] at hx
   refine ay (bQ _) ?_
   simp -implicitDefEqProofs (disch:=omega) only[go_sem]
   (repeat(with_reducible refine And.intro ?_ ?_;focus first|omega|rfl|assumption|exact⟨_,rfl,rfl⟩|(simp;omega)|(simp;done)))
   refine ay (bQ _) ?_
   simp -implicitDefEqProofs (disch:=omega) only[go_sem]
   (repeat(with_reducible refine And.intro ?_ ?_;focus first|omega|rfl|assumption|exact⟨_,rfl,rfl⟩|(simp;omega)|(simp;done)))
   refine aX (ι:=Nat) Tryz.checked.mixed rfl [1,2,3,4] (fun i=>[.c (.ptr (0,0) 0),.c (.ptr (0,1) 0),.c (.ptr (0,2) 0),.c (.d (.i .i64 i))])
    (fun i=>[.box [.d (.i .i64 x.aM),.d (.s x.fName),.d (.sl (x.fArgs.map aj.enc))],.box [.d (.s []),.aO []],.box [.d (.s []),.bL (0,3) (([bn fJ,bn x.fName]++(x.fArgs.map dB).take i).map ah.enc)],.tok 2 (([bn fJ,bn x.fName]++(x.fArgs.map dB).take i).map ah.enc)]::S)
    (fun i=>i≤x.fArgs.length) (fun i=>x.fArgs.length-i) 0 rfl ?_ (Nat.zero_le _) ?_
   ·simp only[List.take_zero,List.append_nil,List.map_cons,List.map_nil,List.cons_append,List.nil_append,fI]<;>(try rfl)
   intro i hi
   have hl:(([bn fJ,bn x.fName]++(x.fArgs.map dB).take i).map ah.enc).length≤i+2:=by
    rw[List.length_map,List.length_append]
    have:=List.length_take_le i (x.fArgs.map dB)
    simp only[List.length_cons,List.length_nil];omega
   have hs:=fun hi=>lq (base:=[bn fJ,bn x.fName]) (l:=x.fArgs.map dB) (i:=i) hi
   have hrw:=iy (l:=[bn fJ,bn x.fName]++(x.fArgs.map dB).take i)
   generalize hR:([bn fJ,bn x.fName]++(x.fArgs.map dB).take i).map ah.enc=R at hl hs hrw
   simp -implicitDefEqProofs (disch:=omega) only[go_sem]
   with_reducible refine aA (fun hb=> ?_) (fun hb=> ?_)<;>have h:=hb<;>(try simp only[wf_preprocess] at h)<;>simp -implicitDefEqProofs (disch:=omega) only[go_sem,hb]<;>(repeat(with_reducible refine And.intro ?_ ?_;focus first|omega|rfl|assumption|exact⟨_,rfl,rfl⟩|(simp;omega)|(simp;done)))
   ·have hi':i<x.fArgs.length:=by omega
    have hs':=hs (by rw[List.length_map];exact hi')
    rw[List.getElem_map] at hs'
    (repeat(with_reducible refine And.intro ?_ ?_;focus first|omega|rfl|assumption|exact⟨_,rfl,rfl⟩|(simp;omega)|(simp;done)))
    refine ay (ih x.fArgs[i] (by have:=List.sizeOf_lt_of_mem (List.getElem_mem hi');omega) (hall _ (List.getElem_mem hi'))) ?_
    simp -implicitDefEqProofs (disch:=omega) only[go_sem]
    (repeat(with_reducible refine And.intro ?_ ?_;focus first|omega|rfl|assumption|exact⟨_,rfl,rfl⟩|(simp;omega)|(simp;done)))
    rw[hs']
    exact bI (i+1) (by omega) rfl rfl (by omega)
   ·have hi':i=(x.fArgs.map dB).length:=by rw[List.length_map];omega
    rw[hx,←hR,hi',List.take_length]
    simp only[eF,dX,List.cons_append,List.nil_append]
  ·have hx:=Yi (by omega)
   rw[if_neg h,List.nil_append] at hx
   refine ay (bQ _) ?_
   simp -implicitDefEqProofs (disch:=omega) only[go_sem]
   (repeat(with_reducible refine And.intro ?_ ?_;focus first|omega|rfl|assumption|exact⟨_,rfl,rfl⟩|(simp;omega)|(simp;done)))
   refine aX (ι:=Nat) Tryz.checked.mixed rfl [1,2,3,4] (fun i=>[.c (.ptr (0,0) 0),.c (.ptr (0,1) 0),.c (.ptr (0,2) 0),.c (.d (.i .i64 i))])
    (fun i=>[.box [.d (.i .i64 x.aM),.d (.s x.fName),.d (.sl (x.fArgs.map aj.enc))],.box [.d (.s []),.aO []],.box [.d (.s []),.bL (0,3) (([bn x.fName]++(x.fArgs.map dB).take i).map ah.enc)],.tok 2 (([bn x.fName]++(x.fArgs.map dB).take i).map ah.enc)]::S)
    (fun i=>i≤x.fArgs.length) (fun i=>x.fArgs.length-i) 0 rfl ?_ (Nat.zero_le _) ?_
   ·simp only[List.take_zero,List.append_nil,List.map_cons,List.map_nil,List.cons_append,List.nil_append,fI]<;>(try rfl)
   intro i hi
   have hl:(([bn x.fName]++(x.fArgs.map dB).take i).map ah.enc).length≤i+2:=by
    rw[List.length_map,List.length_append]
    have:=List.length_take_le i (x.fArgs.map dB)
    simp only[List.length_cons,List.length_nil];omega
   have hs:=fun hi=>lq (base:=[bn x.fName]) (l:=x.fArgs.map dB) (i:=i) hi
   have hrw:=iy (l:=[bn x.fName]++(x.fArgs.map dB).take i)
   generalize hR:([bn x.fName]++(x.fArgs.map dB).take i).map ah.enc=R at hl hs hrw
   simp -implicitDefEqProofs (disch:=omega) only[go_sem]
   with_reducible refine aA (fun hb=> ?_) (fun hb=> ?_)<;>have h:=hb<;>(try simp only[wf_preprocess] at h)<;>simp -implicitDefEqProofs (disch:=omega) only[go_sem,hb]<;>(repeat(with_reducible refine And.intro ?_ ?_;focus first|omega|rfl|assumption|exact⟨_,rfl,rfl⟩|(simp;omega)|(simp;done)))
   ·have hi':i<x.fArgs.length:=by omega
    have hs':=hs (by rw[List.length_map];exact hi')
    rw[List.getElem_map] at hs'
    (repeat(with_reducible refine And.intro ?_ ?_;focus first|omega|rfl|assumption|exact⟨_,rfl,rfl⟩|(simp;omega)|(simp;done)))
    refine ay (ih x.fArgs[i] (by have:=List.sizeOf_lt_of_mem (List.getElem_mem hi');omega) (hall _ (List.getElem_mem hi'))) ?_
    simp -implicitDefEqProofs (disch:=omega) only[go_sem]
    (repeat(with_reducible refine And.intro ?_ ?_;focus first|omega|rfl|assumption|exact⟨_,rfl,rfl⟩|(simp;omega)|(simp;done)))
    rw[hs']
    exact bI (i+1) (by omega) rfl rfl (by omega)
   ·have hi':i=(x.fArgs.map dB).length:=by rw[List.length_map];omega
    rw[hx,←hR,hi',List.take_length]
    simp only[eF,dX,List.cons_append,List.nil_append]
theorem vS(x:aj)(hsz:x.sz≤4194304):aI Tryz.prog 159 [x.v] (.agg [.d (.s (dB x).aV),.d (.sl ((dB x).ak.map ah.enc))]):=G6 _ x (Nat.lt_succ_self _) hsz
theorem AZ(xs:List aj)(hlen:xs.length≤4194304)(hsz:∀t∈xs,t.sz≤4194304):aI Tryz.prog 158 [.c (.d (.sl (xs.map aj.enc)))] (.c (.d (.sl ((xs.map dB).map ah.enc)))):=fun S=>by
 refine aF (rs:=[.tmp 2]) Tryz.checked.mixed Tryz.func158 Tryz.ntmps158 rfl rfl rfl rfl rfl ?_
 simp -implicitDefEqProofs (disch:=omega) only[go_sem]
 (repeat(with_reducible refine And.intro ?_ ?_;focus first|omega|rfl|assumption|exact⟨_,rfl,rfl⟩|(simp;omega)|(simp;done)))
 refine vJ 3 2 [] rfl (by simp) ?_
 refine aX (ι:=Nat) Tryz.checked.mixed rfl [0,3,4] (fun i=>[.c (.d (.sl (xs.map aj.enc))),.c (.bL (0,0) (((xs.map dB).take i).map ah.enc)),.c (.d (.i .i64 i))]) (fun i=>[.tok 2 (((xs.map dB).take i).map ah.enc)]::S)
  (fun i=>i≤xs.length) (fun i=>xs.length-i) 0 rfl rfl (Nat.zero_le _) ?_
 intro i hi
 have hl:(((xs.map dB).take i).map ah.enc).length≤i:=by rw[List.length_map];exact List.length_take_le _ _
 simp -implicitDefEqProofs (disch:=omega) only[go_sem]
 with_reducible refine aA (fun hb=> ?_) (fun hb=> ?_)<;>have h:=hb<;>(try simp only[wf_preprocess] at h)<;>simp -implicitDefEqProofs (disch:=omega) only[go_sem,hb]<;>(repeat(with_reducible refine And.intro ?_ ?_;focus first|omega|rfl|assumption|exact⟨_,rfl,rfl⟩|(simp;omega)|(simp;done)))
 ·have hi':i<xs.length:=by omega
  have hs:=lq (base:=[]) (l:=xs.map dB) (i:=i) (by rw[List.length_map];exact hi')
  rw[List.getElem_map] at hs
  simp only[List.nil_append] at hs
  (repeat(with_reducible refine And.intro ?_ ?_;focus first|omega|rfl|assumption|exact⟨_,rfl,rfl⟩|(simp;omega)|(simp;done)))
  refine ay (vS xs[i] (hsz _ (List.getElem_mem hi'))) ?_
  simp -implicitDefEqProofs (disch:=omega) only[go_sem]
  (repeat(with_reducible refine And.intro ?_ ?_;focus first|omega|rfl|assumption|exact⟨_,rfl,rfl⟩|(simp;omega)|(simp;done)))
  rw[hs]
  exact bI (i+1) (by omega) rfl rfl (by omega)
 ·have hi':i=(xs.map dB).length:=by rw[List.length_map];omega
  rw[hi',List.take_length]
theorem CG(b:Bool)(x:ah)(hsz:x.sz≤67108864):aI Tryz.prog 60 [.c (.d (.b b)),x.v] (zi b x).v:=by
 have zero:aI Tryz.prog 60 [.c (.d (.b b)),x.v] (.agg [.d (.s []),.aO []])→aI Tryz.prog 60 [.c (.d (.b b)),x.v] fC.v:=fun h=>aI.less h (I5 [] [])
 cases b with
 |false=>
  refine zero fun S=> ?_
  refine aF (rs:=[.cell 4 32]) Tryz.checked.mixed Tryz.func60 Tryz.ntmps60 rfl rfl rfl rfl rfl ?_
  simp -implicitDefEqProofs (disch:=omega) only[go_sem]
 |true=>
  show aI Tryz.prog 60 [.c (.d (.b true)),x.v] (Ej x).v
  unfold Ej
  cases hv:jh x with
  |false=>
   refine zero fun S=> ?_
   refine aF (rs:=[.cell 4 32]) Tryz.checked.mixed Tryz.func60 Tryz.ntmps60 rfl rfl rfl rfl rfl ?_
   simp -implicitDefEqProofs (disch:=omega) only[go_sem]
   refine ay (wC x hsz) ?_
   simp -implicitDefEqProofs (disch:=omega) only[go_sem,hv]
  |true=>
   intro S
   refine aF (rs:=[.cell 4 32]) Tryz.checked.mixed Tryz.func60 Tryz.ntmps60 rfl rfl rfl rfl rfl ?_
   simp -implicitDefEqProofs (disch:=omega) only[go_sem]
   refine ay (wC x hsz) ?_
   simp -implicitDefEqProofs (disch:=omega) only[go_sem,hv]
end Go.Proofs.YtlmhknhlmicmeaaGreatDoor
namespace Go.Ab
theorem bW.bounds{x:bW}(h:x.sz≤4194304):x.fName.length≤4194304∧x.aN.length≤4194304∧x.jm.length≤4194304∧∀s∈x.aN,s.length≤4194304:=by
 simp only[bW.sz,bW.aH,bO,bN,D.sz,List.length_map] at h
 refine⟨by omega,by omega,by omega,fun s hs=> ?_⟩
 have:=zN hs
 omega
theorem bJ.bounds{x:bJ}(h:x.sz≤4194304):x.fName.length≤4194304∧x.nT.length≤4194304∧∀t∈x.nT,t.sz≤4194304:=by
 simp only[bJ.sz,bJ.aH,bO,bN,D.sz,List.length_map] at h
 refine⟨by omega,by omega,fun t ht=> ?_⟩
 have hx:t.sz≤bF (x.nT.map aj.enc):=dP (List.mem_map_of_mem ht)
 omega
end Go.Ab
namespace Go.Proofs.YtlmhknhlmicmeaaGreatDoor
open Go Go.Ab
end Go.Proofs.YtlmhknhlmicmeaaGreatDoor
namespace Go.Ab
theorem EY{vars:List (List UInt8)}{ts:List aj}(h:l9 vars ts=true):gD ts=true:=vv.2 fun t ht=>by
 have:=List.all_eq_true.1 h t ht
 unfold jB at this
 rw[Bool.and_eq_true] at this
 exact tX this.1
end Go.Ab
namespace Go.Proofs.YtlmhknhlmicmeaaGreatDoor
open Go Go.Ab
end Go.Proofs.YtlmhknhlmicmeaaGreatDoor
namespace Go.Ab
def cB(l:List ah)(i:Nat):List UInt8:=(l.getD i fC).aV
theorem kL{l:List ah}{i:Nat}(h:i<l.length):cB l i=l[i].aV:=by simp[cB,List.getD,h]
theorem zR{l:List ah}{i:Nat}(h:l.length≤i):cB l i=[]:=by simp[cB,List.getD,h];rfl
def fu(l:List ah):List (List UInt8):=if l.all (fun x=>decide (x.aV≠[]))=true then l.map ah.aV else []
theorem uf:∀{vs:List (List UInt8)},(∀v∈vs,v≠[])→fu (aS vs)=vs:=fun {vs} h=>by
 unfold fu aS
 rw[if_pos (List.all_eq_true.2 fun x hx=> ?_),List.map_map]
 ·conv=>rhs;rw[←List.map_id vs]
  rfl
 ·obtain⟨v,hv,rfl⟩:=List.mem_map.1 hx
  exact decide_eq_true (h v hv)
theorem Na:∀l:List ah,((l.map ah.aV).map List.length).sum≤dR l
 |[]=>by simp[dR]
 |x::l=>by
  have:=Na l
  rw[List.map_cons,List.map_cons,List.sum_cons,dR,jK];omega
theorem yV(l:List ah):(fu l).length≤l.length∧((fu l).map List.length).sum≤dR l:=by
 unfold fu
 split
 ·refine⟨by simp,?_⟩
  exact Na l
 ·simp
mutual
def dx(b:Bool):ah→aj
 | .mk a l=>if a=[] then
    if l.length<2 then .mk 0 [] []
    else if cB l 0=Ar∧(b=true∨l.length=2∧cB l 1≠[]) then .mk 4 (cB l 1) []
    else if cB l 0=fJ∧(b=true∨l.length=3∧cB l 1≠[]) then .mk 3 (cB l 1) ((lZ b l).drop 2)
    else .mk 2 (cB l 0) ((lZ b l).drop 1)
   else if a.head? =some 39 then .mk 1 a.tail [] else .mk 2 a []
def lZ(b:Bool):List ah→List aj
 |[]=>[]
 |x::xs=>dx b x::lZ b xs
end
theorem vT(b:Bool):∀l,lZ b l=l.map (dx b)
 |[]=>rfl
 |t::ts=>by rw[lZ,List.map_cons,vT b ts]
theorem Qb(b:Bool)(x:ah):dx b x=if x.aV=[] then
 if x.ak.length<2 then .mk 0 [] []
 else if cB x.ak 0=Ar∧(b=true∨x.ak.length=2∧cB x.ak 1≠[]) then .mk 4 (cB x.ak 1) []
 else if cB x.ak 0=fJ∧(b=true∨x.ak.length=3∧cB x.ak 1≠[]) then .mk 3 (cB x.ak 1) ((x.ak.map (dx b)).drop 2)
 else .mk 2 (cB x.ak 0) ((x.ak.map (dx b)).drop 1)
 else if x.aV.head? =some 39 then .mk 1 x.aV.tail [] else .mk 2 x.aV []:=by
 cases x;rw[dx,vT];rfl
theorem G7:∀a b,qj (a++b)=qj a+qj b
 |[],b=>by simp[qj]
 |x::a,b=>by rw[List.cons_append,qj,qj,G7 a b];omega
theorem Nb(l:List aj)(i:Nat):qj (l.drop i)≤qj l:=by
 have:=G7 (l.take i) (l.drop i)
 rw[List.take_append_drop] at this
 omega
theorem Vi(l:List ah)(i:Nat):(cB l i).length≤dR l:=by
 by_cases h:i<l.length
 ·rw[kL h]
  have h1:=j4 (List.getElem_mem h)
  rw[jK] at h1;omega
 ·rw[zR (by omega)];simp
mutual
theorem I6(b:Bool):∀x:ah,(dx b x).sz≤x.sz
 | .mk a l=>by
   have h1:=A8 b l
   have h2:=Nb (lZ b l) 2
   have h3:=Nb (lZ b l) 1
   have h4:=Vi l 0
   have h5:=Vi l 1
   have h6:(lZ b l).length=l.length:=by rw[vT,List.length_map]
   rw[jK,lQ];simp only[ah.aV,ah.ak]
   rw[dx]
   split
   ·split
    ·rw[qG];simp[aj.fName,aj.fArgs,qj]
    ·split
     ·rw[qG];simp[aj.fName,aj.fArgs,qj];omega
     ·have g0:=CJ b l 0
      have g1:=CJ b l 1
      simp only[Nat.zero_add,Nat.reduceAdd] at g0 g1
      split
      ·rw[qG];simp only[aj.fName,aj.fArgs,List.length_drop,h6];omega
      ·rw[qG];simp only[aj.fName,aj.fArgs,List.length_drop,h6];omega
   ·split
    ·rw[qG];simp[aj.fName,aj.fArgs,qj];omega
    ·rw[qG];simp[aj.fName,aj.fArgs,qj]
theorem A8(b:Bool):∀l:List ah,qj (lZ b l)≤dR l
 |[]=>by simp[lZ,qj]
 |x::xs=>by
  have h1:=I6 b x
  have h2:=A8 b xs
  rw[lZ,qj,dR];omega
theorem CJ(b:Bool):∀(l:List ah) (i:Nat),qj ((lZ b l).drop (i+1))+(cB l i).length≤dR l
 |[],i=>by simp[lZ,qj,zR]
 |x::xs,0=>by
  have h2:=A8 b xs
  rw[lZ,List.drop_succ_cons,List.drop_zero,dR,show cB (x::xs) 0=x.aV from rfl,jK];omega
 |x::xs,i+1=>by
  have h2:=CJ b xs i
  rw[lZ,List.drop_succ_cons,dR,show cB (x::xs) (i+1)=cB xs i from rfl];omega
end
theorem zS{s:List UInt8}(h:validName s=true):s≠[]:=fun e=>by rw[e] at h;have:=iH h;simp at this
theorem Vj{s:List UInt8}(h:validName s=true):s.head? ≠some 39:=fun e=>by
 have h1:=iH h
 have h2:=h1.2.2 0 (by omega)
 cases s with
 |nil=>cases e
 |cons c s=>
  simp only[List.head?_cons,Option.some.injEq] at e
  subst e
  simp[lowerB,ni] at h2
theorem Yj{s:List UInt8}(h:validName s=true):s≠Ar∧s≠fJ:=by
 have h1:=(iH h).2.1
 refine⟨fun e=>h1 (by rw[e];simp[reserved,Ar]),fun e=>h1 (by rw[e];simp[reserved,fJ])⟩
mutual
theorem DK(b:Bool):∀t:aj,formed t=true→dx b (dB t)=t
 | .mk k n zs=>fun hf=>by
   rw[formed,Bool.and_eq_true] at hf
   have hfi:=iH hf.1
   have hzs:=EZ b zs hf.2
   rw[dB]
   by_cases h1:k=1
   ·have hz:zs=[]:=by
     have:zs.length=0:=by omega
     exact List.eq_nil_of_length_eq_zero this
    rw[if_pos h1,bn,dx,if_neg (by simp),if_pos (by simp),hz,h1];rfl
   rw[if_neg h1]
   by_cases h4:k=4
   ·have hz:zs=[]:=by
     have:zs.length=0:=by omega
     exact List.eq_nil_of_length_eq_zero this
    have hn:validName n=true:=by
     rcases hfi with h|h|h
     ·exact h.2.1
     ·exact h.2.1
     ·omega
    rw[if_pos h4,dn,dx,if_pos rfl,if_neg (by simp),if_pos ⟨rfl,.inr ⟨rfl,zS hn⟩⟩,hz,h4];rfl
   rw[if_neg h4]
   by_cases h2:k=2∧zs.length=0
   ·have hz:zs=[]:=List.eq_nil_of_length_eq_zero h2.2
    have hn:n≠[]∧n.head? ≠some 39:=by
     rcases hfi with h|h|h
     ·omega
     ·omega
     ·rcases h.2 with g|g
      ·exact⟨zS g.1,Vj g.1⟩
      ·rcases iH g.1 with e|e<;>rw[e]<;>simp
    rw[if_pos h2,bn,dx,if_neg hn.1,if_neg hn.2,hz,h2.1]
   rw[if_neg h2]
   by_cases h3:k=3
   ·have hz:zs.length=1∧validName n=true:=by
     rcases hfi with h|h|h
     ·omega
     ·exact⟨h.2.2,h.2.1⟩
     ·omega
    rw[if_pos h3,dn,dx,if_pos rfl,if_neg (by simp),if_neg (fun h=>by have:=h.1;simp[cB,bn,ah.aV,Ar,fJ] at this),if_pos ⟨rfl,.inr ⟨by rw[qF];simp[hz.1],zS hz.2⟩⟩]
    show aj.mk 3 n (lZ b (xY zs))=_
    rw[hzs,h3]
   ·have hn:validName n=true∧zs≠[]:=by
     rcases hfi with h|h|h
     ·omega
     ·omega
     ·rcases h.2 with g|g
      ·exact⟨g.1,fun e=>h2 ⟨h.1,by rw[e];rfl⟩⟩
      ·exact(h2 ⟨h.1,g.2⟩).elim
    have hk:k=2:=by
     rcases hfi with h|h|h
     ·omega
     ·omega
     ·exact h.1
    have hd:=Yj hn.1
    rw[if_neg h3,dn,dx,if_pos rfl,if_neg (by rw[qF];cases zs with|nil=>exact(hn.2 rfl).elim|cons z zs=>simp),if_neg (fun h=>hd.1 h.1),if_neg (fun h=>hd.2 h.1)]
    show aj.mk 2 n (lZ b (xY zs))=_
    rw[hzs,hk]
theorem EZ(b:Bool):∀ts:List aj,gD ts=true→lZ b (xY ts)=ts
 |[],_=>rfl
 |t::ts,h=>by
  rw[gD,Bool.and_eq_true] at h
  rw[xY,lZ,DK b t h.1,EZ b ts h.2]
end
theorem EA(b:Bool){ts:List aj}(h:gD ts=true):(ts.map dB).map (dx b)=ts:=by
 have:=EZ b ts h
 rw[vT,qF] at this
 exact this
theorem I7{vs:List (List UInt8)}(h:iR vs=true):∀v∈vs,v≠[]:=fun v hv=>by
 unfold iR at h
 rw[Bool.and_eq_true] at h
 exact zS (List.all_eq_true.1 h.2 v hv)
theorem E5:fC.sz=0:=by rw[jK];simp[fC,ah.aV,ah.ak,bF]
theorem Yk{b:Bool}{s x:ah}(h:zi b s=x)(hx:x.ak≠[]):b=true∧s=x∧jh x=true:=by
 cases b with
 |false=>rw[←h] at hx;exact(hx rfl).elim
 |true=>
  rw[zi] at h
  unfold Ej at h
  split at h
  ·rename_i hv;exact⟨rfl,h,by rw[←h];exact hv⟩
  ·rw[←h] at hx;exact(hx rfl).elim
end Go.Ab
namespace Go.Ab
def vB:List UInt8:=[116,114,117,101]
def ug:List UInt8:=[102,97,108,115,101]
def kS:List UInt8:=[99,97,108,108]
def fZ:List UInt8:=[109,101,116,104,111,100]
def nK:List UInt8:=[110,101,119]
def iE:List UInt8:=[99,97,115,101]
def nL:List UInt8:=[108,101,116]
def rE:List UInt8:=[105,102]
def kT:List UInt8:=[112,97,99,107]
def oh:List UInt8:=[116,104,101]
def fT(k:Int)(tr nm:List UInt8)(ty:aj):List ah:=
 if k=4 then aS [kS,nm] else if k=5 then aS [fZ,tr,nm] else if k=6 then aS [nK,nm] else if k=8 then aS [nL,nm] else
 if k=9 then aS [rE] else if k=10 then aS [nm] else if k=11 then aS [kT,tr] else if k=12 then [bn oh,dB ty] else aS [iE]
mutual
def dW:au→ah
 | .mk k tr nm n ty zs ms=>if k=1 then bn (Lib.itoa n) else if k=2 then bn (if n=1 then vB else ug) else if k=3 then bn nm else
   dn (fT k tr nm ty++wE zs++(if k=4∨k=5∨k=6∨k=8∨k=9∨k=10∨k=11∨k=12 then [] else A9 ms))
def wE:List au→List ah
 |[]=>[]
 |t::ts=>dW t::wE ts
def um:aJ→ah
 | .mk c vs b=>dn ([bn c]++aS vs++[dW b])
def A9:List aJ→List ah
 |[]=>[]
 |t::ts=>um t::A9 ts
end
theorem yt:∀l,wE l=l.map dW
 |[]=>rfl
 |t::ts=>by rw[wE,List.map_cons,yt ts]
theorem Ba:∀l,A9 l=l.map um
 |[]=>rfl
 |t::ts=>by rw[A9,List.map_cons,Ba ts]
theorem CK(x:au):dW x=if x.aM=1 then bn (Lib.itoa x.fN) else if x.aM=2 then bn (if x.fN=1 then vB else ug) else if x.aM=3 then bn x.fName else
 dn (fT x.aM x.bB x.fName x.fType++x.fArgs.map dW++(if x.aM=4∨x.aM=5∨x.aM=6∨x.aM=8∨x.aM=9∨x.aM=10∨x.aM=11∨x.aM=12 then [] else x.aK.map um)):=by
 cases x;rw[dW,yt,Ba];rfl
theorem Vk(x:aJ):um x=dn ([bn x.bP]++aS x.aN++[dW x.fBody]):=by cases x;rw[um];rfl
def pF:List au→Nat
 |[]=>0
 |x::xs=>x.sz+pF xs
theorem E8:∀l,bF (l.map au.enc)=pF l
 |[]=>rfl
 |x::xs=>by rw[List.map_cons,bF,pF,E8 xs];rfl
def wL:List aJ→Nat
 |[]=>0
 |x::xs=>x.sz+wL xs
theorem E9:∀l,bF (l.map aJ.enc)=wL l
 |[]=>rfl
 |x::xs=>by rw[List.map_cons,bF,wL,E9 xs];rfl
theorem rX(x:au):x.sz=x.bB.length+x.fName.length+x.fType.sz+(x.fArgs.length+pF x.fArgs)+(x.aK.length+wL x.aK):=by
 rw[←E8,←E9];simp only[au.sz,au.aH,bO,bN,D.sz,List.length_map,aj.dO];omega
theorem vU(x:aJ):x.sz=x.bP.length+(x.aN.length+(x.aN.map List.length).sum)+x.fBody.sz:=by
 rw[←fE];simp only[aJ.sz,aJ.aH,bO,bN,D.sz,List.length_map,au.dO];omega
theorem zT:∀(k n:Nat),n<10^ (k+1)→(Lib.decDigits n).length≤k+1
 |0,n,h=>by rw[Lib.decDigits,dif_pos (by simpa using h)];simp
 |k+1,n,h=>by
  rw[Lib.decDigits]
  split
  ·simp
  ·rw[List.length_append]
   have:=zT k (n/10) (by rw[Nat.pow_succ] at h;omega)
   simp;omega
theorem Yl{n:Int}(h: -999999≤n∧n≤999999):(Lib.itoa n).length≤7:=by
 unfold Lib.itoa
 split
 ·have:=zT 5 n.natAbs (by omega)
  simp;omega
 ·have:=zT 5 n.toNat (by omega)
  omega
theorem Vl(k:Int)(tr nm:List UInt8)(ty:aj):(fT k tr nm ty).length≤3∧dR (fT k tr nm ty)≤18+tr.length+nm.length+16*ty.sz:=by
 have h:=Mx ty
 unfold fT
 repeat' (first|(split;·refine⟨by simp[aS],?_⟩;simp[dR,aS,lD,kS,fZ,nK,nL,rE,kT,oh,iE];omega))
 refine⟨by simp[aS],?_⟩;simp[dR,aS,lD,iE];omega
mutual
theorem Nc:∀x:au,gK x=true→(dW x).sz≤24+32*x.sz
 | .mk k tr nm n ty zs ms=>fun hok=>by
   rw[gK,Bool.and_eq_true,Bool.and_eq_true] at hok
   have hf:=iH hok.1
   have h1:=Qc zs hok.2.1
   have h2:=Qd ms hok.2.2
   have h3:=Vl k tr nm ty
   rw[rX]
   simp only[au.fName,au.fArgs,au.bB,au.fType,au.aK]
   rw[dW]
   split
   ·rename_i hk
    have h4:=hf.2.2.2.1
    simp only[au.aM,au.fN,hk,if_true] at h4
    have:=Yl h4
    rw[lD];omega
   ·split
    ·rw[lD];split<;>simp[vB,ug]<;>omega
    ·split
     ·rw[lD];omega
     ·rw[pV,lW,lW,List.length_append,List.length_append,yt,List.length_map,←yt]
      split
      ·simp[dR];omega
      ·rw[Ba,List.length_map,←Ba];omega
theorem Qc:∀xs:List au,jd xs=true→dR (wE xs)≤24*xs.length+32*pF xs
 |[],_=>by simp[wE,dR]
 |x::xs,h=>by
  rw[jd,Bool.and_eq_true] at h
  have h1:=Nc x h.1
  have h2:=Qc xs h.2
  rw[wE,dR,pF,List.length_cons];omega
theorem abH:∀x:aJ,qU x=true→(um x).sz≤26+32*x.sz
 | .mk c vs b=>fun hok=>by
   rw[qU,Bool.and_eq_true,Bool.and_eq_true] at hok
   have h1:=Nc b hok.2.2
   rw[vU]
   simp only[aJ.bP,aJ.aN,aJ.fBody]
   rw[um,pV,lW,lW,List.length_append,List.length_append,jG,vO]
   simp[dR,lD];omega
theorem Qd:∀xs:List aJ,kZ xs=true→dR (A9 xs)≤26*xs.length+32*wL xs
 |[],_=>by simp[A9,dR]
 |x::xs,h=>by
  rw[kZ,Bool.and_eq_true] at h
  have h1:=abH x h.1
  have h2:=Qd xs h.2
  rw[A9,dR,wL,List.length_cons];omega
end
end Go.Ab
namespace Go.Ab
theorem EB(d:Nat)(h:d<10):Lib.digitVal (UInt8.ofNat (48+d))=some d:=by
 have:(UInt8.ofNat (48+d)).toNat=48+d:=by rw[UInt8.toNat_ofNat'];omega
 unfold Lib.digitVal
 rw[this,if_pos (by omega)]
 congr 1;omega
theorem yu:∀(l:List UInt8) (acc:Nat) (b:UInt8),Lib.decFrom acc (l++[b])=(Lib.decFrom acc l).bind fun m=>(Lib.digitVal b).map fun d=>m*10+d
 |[],acc,b=>by
  rw[List.nil_append,Lib.decFrom,Lib.decFrom]
  cases Lib.digitVal b<;>rfl
 |a::l,acc,b=>by
  rw[List.cons_append,Lib.decFrom,Lib.decFrom]
  cases Lib.digitVal a with
  |none=>rfl
  |some e=>exact yu l _ b
theorem uQ(n:Nat):Lib.decFrom 0 (Lib.decDigits n)=some n:=by
 induction n using Nat.strongRecOn with
 |_ n ih=>
  rw[Lib.decDigits]
  split
  ·rename_i h
   rw[Lib.decFrom,EB n h]
   simp[Lib.decFrom]
  ·rename_i h
   rw[yu,ih (n/10) (by omega),EB _ (Nat.mod_lt _ (by decide))]
   simp only[Option.bind_some,Option.map_some,Option.some.injEq]
   omega
theorem uR(n:Nat):∃b r,Lib.decDigits n=b::r∧48≤b.toNat∧b.toNat≤57:=by
 induction n using Nat.strongRecOn with
 |_ n ih=>
  rw[Lib.decDigits]
  split
  ·rename_i h
   exact⟨_,_,rfl,by rw[UInt8.toNat_ofNat'];omega,by rw[UInt8.toNat_ofNat'];omega⟩
  ·rename_i h
   obtain⟨b,r,e,h1,h2⟩:=ih (n/10) (by omega)
   rw[e]
   exact⟨b,r++_,rfl,h1,h2⟩
theorem BF(n:Nat):Lib.decNat (Lib.decDigits n)=some n:=by
 obtain⟨b,r,e,_⟩:=uR n
 unfold Lib.decNat
 rw[show(Lib.decDigits n).isEmpty=false from by rw[e];rfl]
 exact uQ n
theorem CO(b:UInt8)(r:List UInt8):Lib.atoi (b::r)=if b==45 then(Lib.decNat r).map fun(m:Nat)=> -(m:Int) else if b==43 then(Lib.decNat r).map fun(m:Nat)=>(m:Int) else(Lib.decNat (b::r)).map fun(m:Nat)=>(m:Int):=rfl
theorem JQ(n:Int):Lib.atoi (Lib.itoa n)=some n:=by
 unfold Lib.itoa
 split
 ·rename_i h
  show Lib.atoi (45::Lib.decDigits n.natAbs)=_
  rw[CO,if_pos (by decide),BF]
  simp only[Option.map_some,Option.some.injEq]
  omega
 ·rename_i h
  obtain⟨b,r,e,h1,h2⟩:=uR n.toNat
  have hd:=BF n.toNat
  rw[e] at hd ⊢
  rw[CO,if_neg (by simp only[beq_iff_eq];intro h;rw[h] at h1;revert h1;decide),if_neg (by simp only[beq_iff_eq];intro h;rw[h] at h1;revert h1;decide),hd]
  simp only[Option.map_some,Option.some.injEq]
  omega
theorem aaf(n:Int):Lib.itoa n≠[]:=fun e=>by
 have:=JQ n
 rw[e] at this
 cases this
def fB(s:List UInt8):Option Int:=match Lib.atoi s with
 |some n=>if(-999999999999≤n∧n≤999999999999)∧Lib.itoa n=s then some n else none
 |none=>none
theorem G8{n:Int}(h: -999999999999≤n∧n≤999999999999):fB (Lib.itoa n)=some n:=by
 unfold fB
 rw[JQ]
 exact if_pos ⟨h,rfl⟩
theorem G9{s:List UInt8}{n:Int}(h:fB s=some n):(-999999999999≤n∧n≤999999999999)∧Lib.itoa n=s:=by
 unfold fB at h
 split at h
 ·split at h
  ·cases h;assumption
  ·cases h
 ·cases h
theorem yw{b:UInt8}{r:List UInt8}(h:lowerB b):fB (b::r)=none:=by
 have h1:(b==45)=false:=by simp only[beq_eq_false_iff_ne];intro e;rw[e] at h;revert h;simp[lowerB]
 have h2:(b==43)=false:=by simp only[beq_eq_false_iff_ne];intro e;rw[e] at h;revert h;simp[lowerB]
 have h3:Lib.digitVal b=none:=if_neg (fun x=>by unfold lowerB at h;omega)
 unfold fB
 rw[CO,h1,h2]
 simp[Lib.decNat,Lib.decFrom,h3]
theorem Sk{s:List UInt8}(h:validName s=true):fB s=none:=by
 have h1:=iH h
 have h2:=h1.2.2 0 (by omega)
 cases s with
 |nil=>simp at h1
 |cons b r=>
  rcases h2 with h2|h2
  ·exact yw h2
  ·exact(h2.1 rfl).elim
def iL:aj:=.mk 0 [] []
def kE:au:=.mk 0 [] [] 0 iL [] []
mutual
def dD(b:Bool):ah→au
 | .mk a l=>if a=[] then
    if b=true∧(l.length<2∨cB l 0=fZ∧l.length<3) then kE
    else if cB l 0=kS then .mk 4 [] (cB l 1) 0 iL ((dV b l).drop 2) []
    else if cB l 0=nK then .mk 6 [] (cB l 1) 0 iL ((dV b l).drop 2) []
    else if cB l 0=nL then .mk 8 [] (cB l 1) 0 iL ((dV b l).drop 2) []
    else if cB l 0=kT then .mk 11 (cB l 1) [] 0 iL ((dV b l).drop 2) []
    else if cB l 0=fZ then .mk 5 (cB l 1) (cB l 2) 0 iL ((dV b l).drop 3) []
    else if cB l 0=rE then .mk 9 [] [] 0 iL ((dV b l).drop 1) []
    else if cB l 0=oh then .mk 12 [] [] 0 (dx b (l.getD 1 fC)) ((dV b l).drop 2) []
    else if cB l 0=iE then .mk 7 [] [] 0 iL (((dV b l).drop 1).take 1) ((jX b l).drop 2)
    else .mk 10 [] (cB l 0) 0 iL ((dV b l).drop 1) []
   else match fB a with
    |some n=>.mk 1 [] [] n iL [] []
    |none=>if a=vB then .mk 2 [] [] 1 iL [] [] else if a=ug then .mk 2 [] [] 0 iL [] [] else .mk 3 [] a 0 iL [] []
def dV(b:Bool):List ah→List au
 |[]=>[]
 |x::xs=>dD b x::dV b xs
def mM(b:Bool):ah→aJ
 | .mk a l=>if l.length<2 then .mk [] [] kE else .mk (cB l 0) (fu ((l.drop 1).dropLast)) ((dV b l).getLastD kE)
def jX(b:Bool):List ah→List aJ
 |[]=>[]
 |x::xs=>mM b x::jX b xs
end
theorem vV(b:Bool):∀l,dV b l=l.map (dD b)
 |[]=>rfl
 |t::ts=>by rw[dV,List.map_cons,vV b ts]
theorem yX(b:Bool):∀l,jX b l=l.map (mM b)
 |[]=>rfl
 |t::ts=>by rw[jX,List.map_cons,yX b ts]
theorem jk(b:Bool)(l m:List ah):dV b (l++m)=dV b l++dV b m:=by simp only[vV,List.map_append]
theorem mO(b:Bool)(l m:List ah):jX b (l++m)=jX b l++jX b m:=by simp only[yX,List.map_append]
theorem om{t:aj}(h:yT t):t=iL:=aj.ext h.1 h.2.1 (List.eq_nil_of_length_eq_zero h.2.2)
theorem O4{s:List UInt8}(h:s∈ops):s≠[]∧∀w∈[kS,nK,nL,kT,fZ,rE,oh,iE],s≠w:=by
 have:=Va h
 refine⟨fun e=>by rw[e] at this;simp at this,fun w hw e=> ?_⟩
 rw[e] at this
 simp only[List.mem_cons,List.not_mem_nil,or_false] at hw
 rcases hw with g|g|g|g|g|g|g|g<;>rw[g] at this<;>revert this<;>decide
set_option maxHeartbeats 2000000 in
mutual
theorem I8(b:Bool):∀e:au,gK e=true→dD b (dW e)=e
 | .mk k tr nm n ty zs ms=>fun hok=>by
   rw[gK,Bool.and_eq_true,Bool.and_eq_true] at hok
   have hf:=iH hok.1
   have h1:=Nf b zs hok.2.1
   have h2:=Ng b ms hok.2.2
   obtain⟨p0,p1,p2,p3,p4,p5,p6⟩:=hf
   simp only[au.aM,au.bB,au.fName,au.fN,au.fType,au.fArgs,au.aK] at p0 p1 p2 p3 p4 p5 p6
   have nz:∀{l:List au},l.length=0→l=[]:=fun h=>List.eq_nil_of_length_eq_zero h
   have CP:k≠7→ms=[]:=fun h=>List.eq_nil_of_length_eq_zero (by
    have:¬0<ms.length:=fun x=>h (p6.2 x)
    omega)
   have hk:k=1∨k=2∨k=3∨k=4∨k=5∨k=6∨k=7∨k=8∨k=9∨k=10∨k=11∨k=12:=by omega
   rcases hk with rfl|rfl|rfl|rfl|rfl|rfl|rfl|rfl|rfl|rfl|rfl|rfl
   all_goals simp only[if_true,if_false,true_or,or_true,false_or,or_false,or_self,(by decide:(1:Int)=5↔False),Int.reduceEq] at p1 p2 p3 p4 p5
   ·have e1:=om p4;have e2:=nz p5;have e3:=CP (by decide)
    subst e1 e2 e3 p1 p2
    rw[dW,if_pos rfl,bn,dD,if_neg (aaf n),G8 (by omega)]
   ·have e1:=om p4;have e2:=nz p5;have e3:=CP (by decide)
    subst e1 e2 e3 p1 p2
    rw[dW,if_neg (by decide),if_pos rfl,bn,dD]
    rcases p3 with rfl|rfl
    ·rw[if_neg (by decide:¬(0:Int)=1),if_neg (by decide),show fB ug=none from yw (by simp[lowerB]),if_neg (by decide),if_pos rfl]
    ·rw[if_pos rfl,if_neg (by decide),show fB vB=none from yw (by simp[lowerB]),if_pos rfl]
   ·have e1:=om p4;have e2:=nz p5;have e3:=CP (by decide)
    subst e1 e2 e3 p1 p3
    have hr:=(iH p2).2.1
    rw[dW,if_neg (by decide),if_neg (by decide),if_pos rfl,bn,dD,if_neg (zS p2),Sk p2,if_neg (fun e=>hr (by rw[e];simp[reserved,vB])),if_neg (fun e=>hr (by rw[e];simp[reserved,ug]))]
   all_goals have hz:(wE zs).length=zs.length:=by rw[yt,List.length_map]
   ·have e1:=om p4;have e3:=CP (by decide)
    subst e1 e3 p1 p3
    simp[dW,fT,dn,aS,dD,dV,jk,jX,mO,cB,bn,ah.aV,kS,fZ,nK,iE,nL,rE,kT,oh,h1,hz,h2]
    all_goals (intros;omega)
   ·have e1:=om p4;have e3:=CP (by decide)
    subst e1 e3 p3
    simp[dW,fT,dn,aS,dD,dV,jk,jX,mO,cB,bn,ah.aV,kS,fZ,nK,iE,nL,rE,kT,oh,h1,hz,h2]
    all_goals (intros;omega)
   ·have e1:=om p4;have e3:=CP (by decide)
    subst e1 e3 p1 p3
    simp[dW,fT,dn,aS,dD,dV,jk,jX,mO,cB,bn,ah.aV,kS,fZ,nK,iE,nL,rE,kT,oh,h1,hz,h2]
    all_goals (intros;omega)
   ·have e1:=om p4
    subst e1 p1 p2 p3
    have hm:0<ms.length:=p6.1 rfl
    obtain⟨z,rfl⟩:∃z,zs=[z]:=by
     cases zs with
     |nil=>simp at p5
     |cons z t=>cases t with
      |nil=>exact⟨z,rfl⟩
      |cons _ _=>simp at p5
    simp only[wE,dV,List.cons.injEq,and_true] at h1
    simp[dW,fT,dn,aS,dD,dV,jk,jX,mO,wE,cB,bn,ah.aV,kS,fZ,nK,iE,nL,rE,kT,oh,h1,h2]
    all_goals (intros;omega)
   ·have e1:=om p4;have e3:=CP (by decide)
    subst e1 e3 p1 p3
    simp[dW,fT,dn,aS,dD,dV,jk,jX,mO,cB,bn,ah.aV,kS,fZ,nK,iE,nL,rE,kT,oh,h1,hz,h2]
    all_goals (intros;omega)
   ·have e1:=om p4;have e3:=CP (by decide)
    subst e1 e3 p1 p2 p3
    simp[dW,fT,dn,aS,dD,dV,jk,jX,mO,cB,bn,ah.aV,kS,fZ,nK,iE,nL,rE,kT,oh,h1,hz,h2]
    all_goals (intros;omega)
   ·have e1:=om p4;have e3:=CP (by decide)
    subst e1 e3 p1 p3
    have ho:=O4 p2
    simp only[List.mem_cons,List.not_mem_nil,or_false,ne_eq,forall_eq_or_imp,forall_eq] at ho
    obtain⟨_,o1,o2,o3,o4,o5,o6,o7,o8⟩:=ho
    simp[dW,fT,dn,aS,dD,dV,jk,cB,bn,ah.aV,h1,hz,o1,o2,o3,o4,o5,o6,o7,o8]
    all_goals (intros;omega)
   ·have e1:=om p4;have e3:=CP (by decide)
    subst e1 e3 p2 p3
    simp[dW,fT,dn,aS,dD,dV,jk,jX,mO,cB,bn,ah.aV,kS,fZ,nK,iE,nL,rE,kT,oh,h1,hz,h2]
    all_goals (intros;omega)
   ·have e3:=CP (by decide)
    subst e3 p1 p2 p3
    have ht:=DK b ty (tX p4)
    simp[dW,fT,dn,aS,dD,dV,jk,cB,bn,ah.aV,kS,fZ,nK,iE,nL,rE,kT,oh,h1,hz,ht]
    all_goals (intros;omega)
theorem Nf(b:Bool):∀es:List au,jd es=true→dV b (wE es)=es
 |[],_=>rfl
 |t::ts,h=>by
  rw[jd,Bool.and_eq_true] at h
  rw[wE,dV,I8 b t h.1,Nf b ts h.2]
theorem aag(b:Bool):∀m:aJ,qU m=true→mM b (um m)=m
 | .mk c vs e=>fun h=>by
   rw[qU,Bool.and_eq_true,Bool.and_eq_true] at h
   have he:=I8 b e h.2.2
   rw[um,dn,mM,if_neg (by simp),jk]
   have e1:cB ([bn c]++aS vs++[dW e]) 0=c:=rfl
   have e2:(([bn c]++aS vs++[dW e]).drop 1).dropLast=aS vs:=by
    rw[List.append_assoc,List.singleton_append,List.drop_succ_cons,List.drop_zero,List.dropLast_concat]
   rw[e1,e2,uf (I7 h.2.1)]
   congr 1
   rw[dV,he,List.getLastD_eq_getLast?,List.getLast?_append]
   simp[dV]
theorem Ng(b:Bool):∀ms:List aJ,kZ ms=true→jX b (A9 ms)=ms
 |[],_=>rfl
 |t::ts,h=>by
  rw[kZ,Bool.and_eq_true] at h
  rw[A9,jX,aag b t h.1,Ng b ts h.2]
end
theorem CQ:iL.sz=0:=by rw[qG];rfl
theorem vW:kE.sz=0:=by rw[rX];simp[kE,au.bB,au.fName,au.fType,au.fArgs,au.aK,CQ,pF,wL]
theorem Sl(l:List ah):((fu ((l.drop 1).dropLast)).length+((fu ((l.drop 1).dropLast)).map List.length).sum)≤(l.drop 1).dropLast.length+dR ((l.drop 1).dropLast):=by
 have:=yV ((l.drop 1).dropLast)
 omega
theorem aah(x:ah)(m:List ah)(y:ah):dR (x::(m++[y]))=x.sz+(dR m+y.sz):=by rw[dR,lW];simp[dR]
mutual
theorem DL(b:Bool):∀x:ah,(dD b x).sz≤x.sz
 | .mk a l=>by
   have g:=JR b l
   have hl:(dV b l).length=l.length:=by rw[vV,List.length_map]
   have hm:(jX b l).length=l.length:=by rw[yX,List.length_map]
   rw[jK,lQ];simp only[ah.aV,ah.ak]
   rw[dD]
   split
   ·have g1:pF ((dV b l).drop 1)+(cB l 0).length≤dR l:=by
     have:=g 0
     simp only[Nat.zero_add,(by decide:¬(1≤0)),if_false] at this
     omega
    have g2:pF ((dV b l).drop 2)+((cB l 0).length+(cB l 1).length)≤dR l:=by
     have:=g 1
     simp only[Nat.reduceAdd,Nat.le_refl,if_true,Nat.sub_self] at this
     omega
    have g3:pF ((dV b l).drop 3)+((cB l 1).length+(cB l 2).length)≤dR l:=by
     have:=g 2
     simp only[Nat.reduceAdd,(by decide:1≤2),if_true,Nat.reduceSub] at this
     omega
    split
    ·rw[vW];omega
    ·repeat' split
     all_goals rw[rX];simp only[au.bB,au.fName,au.fType,au.fArgs,au.aK,CQ,pF,wL,List.length_nil,List.length_drop,List.length_take,hl,hm,List.drop_zero] at g1 g2 g3 ⊢
     all_goals try omega
     ·have h1:=I6 b (l.getD 1 fC)
      have h2:pF ((dV b l).drop 2)+(l.getD 1 fC).sz≤dR l:=by
       match l with
       |[]=>simp[dV,pF,dR,E5]
       |[x]=>simp[dV,pF,dR,E5]
       |x::y::l=>
        have:=Fb b l
        simp only[dV,List.drop_succ_cons,List.drop_zero,dR]
        show _+y.sz≤_
        omega
      omega
     ·match l with
      |[]=>simp[pF,wL,dV,jX]
      |[x]=>simp[pF,wL,dV,jX]
      |x::y::l=>
       have h1:=DL b y
       have h2:=Nh b l
       simp only[dV,jX,List.drop_succ_cons,List.drop_zero,List.take_succ_cons,List.take_zero,pF,dR,List.length_cons]
       omega
   ·split
    ·rw[rX];simp[au.bB,au.fName,au.fType,au.fArgs,au.aK,CQ,pF,wL]
    ·repeat' split
     all_goals rw[rX];simp[au.bB,au.fName,au.fType,au.fArgs,au.aK,CQ,pF,wL]
theorem Fb(b:Bool):∀l:List ah,pF (dV b l)≤dR l
 |[]=>by simp[dV,pF]
 |x::xs=>by
  have h1:=DL b x
  have h2:=Fb b xs
  rw[dV,pF,dR];omega
theorem JR(b:Bool):∀(l:List ah) (i:Nat),pF ((dV b l).drop (i+1))+((if 1≤i then(cB l (i-1)).length else 0)+(cB l i).length)≤dR l
 |[],i=>by simp[dV,pF,zR]
 |x::xs,0=>by
  have h2:=Fb b xs
  rw[dV,List.drop_succ_cons,List.drop_zero,dR,show cB (x::xs) 0=x.aV from rfl,jK];simp;omega
 |x::xs,i+1=>by
  have h2:=JR b xs i
  rw[dV,List.drop_succ_cons,dR,show cB (x::xs) (i+1)=cB xs i from rfl]
  cases i with
  |zero=>rw[show cB (x::xs) (0+1-1)=x.aV from rfl,jK];simp at h2 ⊢;omega
  |succ i=>rw[show cB (x::xs) (i+1+1-1)=cB xs i from rfl];simp at h2 ⊢;omega
theorem aai(b:Bool):∀x:ah,(mM b x).sz≤x.sz
 | .mk a l=>by
   rw[jK,lQ];simp only[ah.aV,ah.ak]
   rw[mM]
   split
   ·rw[vU];simp[aJ.bP,aJ.aN,aJ.fBody,vW]
   ·rename_i h
    have hn:=Sl l
    have hb:=He b l
    rw[vU];simp only[aJ.bP,aJ.aN,aJ.fBody]
    obtain⟨x,m,y,rfl⟩:∃x m y,l=x::(m++[y]):=by
     cases l with
     |nil=>simp at h
     |cons x l=>
      have hl:l≠[]:=fun e=>by rw[e] at h;simp at h
      exact⟨x,l.dropLast,l.getLast hl,by rw[List.dropLast_concat_getLast]⟩
    rw[aah] at *
    rw[show cB (x::(m++[y])) 0=x.aV from rfl,jK x]
    simp only[List.drop_succ_cons,List.drop_zero,List.dropLast_concat,List.length_cons,List.length_append,List.length_nil] at hn ⊢
    have hy:((x::(m++[y])).getLastD fC)=y:=by rw[←List.cons_append,List.getLastD_eq_getLast?,List.getLast?_append];simp
    rw[hy] at hb
    omega
theorem Nh(b:Bool):∀l:List ah,wL (jX b l)≤dR l
 |[]=>by simp[jX,wL]
 |x::xs=>by
  have h1:=aai b x
  have h2:=Nh b xs
  rw[jX,wL,dR];omega
theorem He(b:Bool):∀l:List ah,((dV b l).getLastD kE).sz≤(l.getLastD fC).sz
 |[]=>by simp[dV,vW]
 |[x]=>by simpa [dV] using DL b x
 |x::y::l=>by
  have:=He b (y::l)
  simpa [dV] using this
end
end Go.Ab
namespace Go.Proofs
open Go.Shelf
def Tryz.laysM171_ren:Go.Shelf.Ren:=⟨fun|171=>287|243=>331|246=>350|283=>369|284=>370|285=>371|286=>372|129=>382|317=>381|318=>383|319=>384|320=>385|337=>391|338=>392|n=>n,fun|3=>3|9=>9|2=>2|4=>4|171=>358|0=>0|53=>359|37=>227|5=>5|173=>362|212=>376|51=>377|20=>20|213=>378|46=>369|232=>388|233=>389|n=>n,fun|17=>2|18=>4|19=>5|n=>n⟩
theorem Tryz.laysM171:Go.Proofs.LaysM.n171 Tryz.prog Tryz.laysM171_ren:={
 mixed:=by kernel_rfl
 f129:=Tryz.func382.trans (congrArg some (by kernel_rfl))
 f171:=Tryz.func287.trans (congrArg some (by kernel_rfl))
 f243:=Tryz.func331.trans (congrArg some (by kernel_rfl))
 f246:=Tryz.func350.trans (congrArg some (by kernel_rfl))
 f283:=Tryz.func369.trans (congrArg some (by kernel_rfl))
 f284:=Tryz.func370.trans (congrArg some (by kernel_rfl))
 f285:=Tryz.func371.trans (congrArg some (by kernel_rfl))
 f286:=Tryz.func372.trans (congrArg some (by kernel_rfl))
 f317:=Tryz.func381.trans (congrArg some (by kernel_rfl))
 f318:=Tryz.func383.trans (congrArg some (by kernel_rfl))
 f319:=Tryz.func384.trans (congrArg some (by kernel_rfl))
 f320:=Tryz.func385.trans (congrArg some (by kernel_rfl))
 f337:=Tryz.func391.trans (congrArg some (by kernel_rfl))
 f338:=Tryz.func392.trans (congrArg some (by kernel_rfl))
 t0:=Tryz.underlying0
 a0:=Tryz.isAgg0
 z0:=Tryz.sizeOf0
 v0:=Tryz.zeroValue0
 t2:=Tryz.underlying2
 a2:=Tryz.isAgg2
 z2:=Tryz.sizeOf2
 v2:=Tryz.zeroValue2
 t3:=Tryz.underlying3
 a3:=Tryz.isAgg3
 z3:=Tryz.sizeOf3
 v3:=Tryz.zeroValue3
 t4:=Tryz.underlying4
 a4:=Tryz.isAgg4
 z4:=Tryz.sizeOf4
 v4:=Tryz.zeroValue4
 t5:=Tryz.underlying5
 a5:=Tryz.isAgg5
 z5:=Tryz.sizeOf5
 v5:=Tryz.zeroValue5
 t9:=Tryz.underlying9
 a9:=Tryz.isAgg9
 z9:=Tryz.sizeOf9
 v9:=Tryz.zeroValue9
 t20:=Tryz.underlying20
 a20:=Tryz.isAgg20
 z20:=Tryz.sizeOf20
 v20:=Tryz.zeroValue20
 t37:=Tryz.underlying227
 a37:=Tryz.isAgg227
 z37:=Tryz.sizeOf227
 v37:=Tryz.zeroValue227
 t46:=Tryz.underlying369
 a46:=Tryz.isAgg369
 z46:=Tryz.sizeOf369
 v46:=Tryz.zeroValue369
 t51:=Tryz.underlying377
 a51:=Tryz.isAgg377
 z51:=Tryz.sizeOf377
 v51:=Tryz.zeroValue377
 t53:=Tryz.underlying359
 a53:=Tryz.isAgg359
 z53:=Tryz.sizeOf359
 v53:=Tryz.zeroValue359
 t171:=Tryz.underlying358
 a171:=Tryz.isAgg358
 z171:=Tryz.sizeOf358
 v171:=Tryz.zeroValue358
 t173:=Tryz.underlying362
 a173:=Tryz.isAgg362
 z173:=Tryz.sizeOf362
 v173:=Tryz.zeroValue362
 t212:=Tryz.underlying376
 a212:=Tryz.isAgg376
 z212:=Tryz.sizeOf376
 v212:=Tryz.zeroValue376
 t213:=Tryz.underlying378
 a213:=Tryz.isAgg378
 z213:=Tryz.sizeOf378
 t232:=Tryz.underlying388
 a232:=Tryz.isAgg388
 z232:=Tryz.sizeOf388
 v232:=Tryz.zeroValue388
 t233:=Tryz.underlying389
 a233:=Tryz.isAgg389
 z233:=Tryz.sizeOf389
 v233:=Tryz.zeroValue389
 g17:=by kernel_rfl
 g18:=by kernel_rfl
 g19:=by kernel_rfl
 i0:=by kernel_rfl
 i2:=by kernel_rfl
 i3:=by kernel_rfl
 i4:=by kernel_rfl
 i5:=by kernel_rfl
 i9:=by kernel_rfl
 i20:=by kernel_rfl
 i37:=by kernel_rfl
 i46:=by kernel_rfl
 i51:=by kernel_rfl
 i53:=by kernel_rfl
 i171:=by kernel_rfl
 i173:=by kernel_rfl
 i212:=by kernel_rfl
 i232:=by kernel_rfl
 i233:=by kernel_rfl
 m17:=by kernel_rfl
 m18:=by kernel_rfl
 m19:=by kernel_rfl}
open Go.RowKit Go.Sort Go.Lib in
theorem Tryz.strconv_Itoa(n:Int)(h0: -9223372036854775808≤n)(h1:n≤9223372036854775807)(w:World)(htab:Lib.TabIs Tryz.prog w "internal/strconv.uint64pow10" .u64 Lib.pow10Tab):
 Calls Tryz.prog 287 #[.int .i64 n] w fun e w'=>e=.returned (.string ⟨(Lib.itoa n).toArray⟩)∧∃k os,w'=grow (w.drewN k) os:=Any.strconv_Itoa Tryz.laysM171 n h0 h1 w htab
end Go.Proofs
namespace Go.Ab
theorem Sm{w:World}{σ:Nat→Nat}{k:Nat}{os:Array Go.Obj}(hl:∀b,b<w.heap.size∨σ b=0):Grow w σ (Go.Sort.grow (w.drewN k) os) σ:=by
 have hh:(Go.Sort.grow (w.drewN k) os).heap=w.heap++os:=rfl
 refine⟨by rw[hh];simp,rfl,rfl,fun b hb=>⟨by rw[hh,Array.getElem?_append_left hb],rfl⟩,fun b=> ?_⟩
 rcases hl b with h|h
 ·left;rw[hh];simp;omega
 ·exact .inr h
theorem aaj{x:V}{vs:List Value}{w:World}{σ:Nat→Nat}{S:Store}{β:Hs}(h:lu w σ S β [x] vs):∃v,vs=[v]∧bR w σ S β x v:=by
 obtain⟨hl,h⟩:=h
 obtain⟨v,e,hr⟩:=h 0 x rfl
 match vs,hl,e with
 |[y],_,e=>simp at e;subst e;exact⟨_,rfl,hr⟩
end Go.Ab
namespace Go.Proofs.YtlmhknhlmicmeaaGreatDoor
open Go Go.Ab
theorem JU{w:World}{σ:Nat→Nat}(h:y7 w σ):Lib.TabIs Tryz.prog w "internal/strconv.uint64pow10" .u64 Lib.pow10Tab:=by
 obtain⟨c,t,fz,q1,q2,q3⟩:=h _ _ (show _∈PG from List.mem_cons_self ..)
 have hn:Tryz.prog.globalNamed "internal/strconv.uint64pow10" =some 2:=by kernel_rfl
 unfold Lib.TabIs World.var?
 rw[hn]
 simp only[Option.bind_some,q1,Option.some.injEq]
 apply Array.ext'
 rw[q2]
 simp[Lib.pow10Tab]
theorem aak(n:Int)(h0: -9223372036854775808≤n)(h1:n≤9223372036854775807):aI Tryz.prog 287 [.c (.d (.i .i64 n))] (.c (.d (.s (Lib.itoa n)))):=fun S=>by
 refine⟨⟨_,Tryz.func287,by kernel_rfl,by kernel_rfl⟩,fun w σ β vs hS hv=> ?_⟩
 obtain⟨v,rfl,hr,_⟩:=aaj hv
 have hv0:v=.int .i64 n:=by cases hr;rfl
 subst hv0
 refine(Tryz.strconv_Itoa n h0 h1 w (JU hS.p8)).mono fun e w' ⟨he,k,os,hw⟩=> ?_
 subst hw
 have hg:Grow w σ (Go.Sort.grow (w.drewN k) os) σ:=Sm hS.live
 exact⟨_,.c (.d (.s (Lib.itoa n))),S,σ,β,he,hS.grow hg,Keep.refl _ _,Step.kF hg,⟨.s _,rfl⟩,rfl,rfl⟩
theorem Fe(n:Int)(h0: -9223372036854775808≤n)(h1:n≤9223372036854775807):aI Tryz.prog 212 [.c (.d (.i .i64 n))] (.c (.d (.s (Lib.itoa n)))):=fun S=>by
 refine aF (rs:=[.tmp 2]) Tryz.checked.mixed Tryz.func212 Tryz.ntmps212 rfl rfl rfl rfl rfl ?_
 simp -implicitDefEqProofs (disch:=omega) only[go_sem]
 refine ay (aak n h0 h1) ?_
 simp -implicitDefEqProofs (disch:=omega) only[go_sem]<;>(repeat(with_reducible refine And.intro ?_ ?_;focus first|omega|rfl|assumption|exact⟨_,rfl,rfl⟩|(simp;omega)|(simp;done)))
end Go.Proofs.YtlmhknhlmicmeaaGreatDoor
namespace Go.Ab
def CR(m:Nat):List UInt8:=if m=0 then [] else Lib.decDigits m
theorem Vm{m:Nat}(h:m≠0):CR (m/10)++[UInt8.ofNat (48+m % 10)]=CR m:=by
 unfold CR
 rw[if_neg h]
 conv=>rhs;rw[Lib.decDigits]
 by_cases h10:m<10
 ·rw[dif_pos h10,if_pos (by omega),List.nil_append,Nat.mod_eq_of_lt h10]
 ·rw[dif_neg h10,if_neg (by omega)]
theorem Ym(n:Int)(h0: -9223372036854775808≤n)(h1:n≤9223372036854775807):∃sg:Nat→Int,sg 0=0∧sg n.natAbs=n∧(∀m,m≠0→sg m≠0)∧(∀m,(sg m).tmod 10= -((m % 10:Nat):Int)∨(sg m).tmod 10=((m % 10:Nat):Int))∧
 (∀m,(sg m).tdiv 10=sg (m/10))∧∀m,m≤n.natAbs→ -9223372036854775808≤sg m∧sg m≤9223372036854775807:=by
 by_cases h:n<0
 ·refine⟨fun m=> -(m:Int),rfl,by simp only;omega,fun m hm=>by simp only;omega,fun m=>.inl ?_,fun m=> ?_,fun m hm=>by simp only;omega⟩
  ·simp only;rw[Int.neg_tmod];congr 1
  ·simp only;rw[Int.neg_tdiv];congr 1
 ·refine⟨fun m=>(m:Int),rfl,by simp only;omega,fun m hm=>by simp only;omega,fun m=>.inr rfl,fun m=>rfl,fun m hm=>by simp only;omega⟩
theorem Vn:Lib.itoa 0=[48]:=by
 unfold Lib.itoa
 rw[if_neg (by decide),Lib.decDigits,dif_pos (by decide)];rfl
theorem Sn(a:Nat)(h:a≤9223372036854775808):(Lib.decDigits a).length≤19:=zT 18 a (by omega)
end Go.Ab
namespace Go.Proofs.YtlmhknhlmicmeaaGreatDoor
open Go Go.Ab
theorem rY(n:Int)(h0: -9223372036854775808≤n)(h1:n≤9223372036854775807):aI Tryz.prog 205 [.c (.d (.i .i64 n))] (.c (.d (.s (Lib.itoa n)))):=fun S=>by
 obtain⟨sg,g0,gn,gne,afR,afS,abI⟩:=Ym n h0 h1
 refine aF (rs:=[.tmp 2]) Tryz.checked.mixed Tryz.func205 Tryz.ntmps205 rfl rfl rfl rfl rfl ?_
 simp -implicitDefEqProofs (disch:=omega) only[go_sem]
 with_reducible refine aA (fun hb=> ?_) (fun hb=> ?_)<;>have h:=hb<;>(try simp only[wf_preprocess] at h)<;>simp -implicitDefEqProofs (disch:=omega) only[go_sem,hb]<;>(repeat(with_reducible refine And.intro ?_ ?_;focus first|omega|rfl|assumption|exact⟨_,rfl,rfl⟩|(simp;omega)|(simp;done)))
 ·rw[h,Vn]
 have hn0:=h
 have hd0:CR n.natAbs=Lib.decDigits n.natAbs:=by unfold CR;rw[if_neg (by omega)]
 have hln:=Sn n.natAbs (by omega)
 refine aX (ι:=Nat×List UInt8) Tryz.checked.mixed rfl [0,3,4] (fun y=>[.c (.d (.i .i64 (sg y.1))),.c (.d (.b (decide (n<0)))),.c (.d (.s y.2))]) (fun _=>[]::S)
  (fun y=>y.1≤n.natAbs∧CR y.1++y.2=CR n.natAbs∧y.2.length≤19) (fun y=>y.1) (n.natAbs,[]) (by rw[gn];rfl) rfl ⟨Nat.le_refl _,List.append_nil _,by simp⟩ ?_
 rintro⟨m,out⟩ ⟨p1,p2,p3⟩
 simp only at p1 p2 p3
 have hr:=abI m p1
 have hm:=afR m
 have hq:=afS m
 generalize hx:sg m=x at *
 generalize hy:x.tmod 10=y at *
 have hlo:out.length≤19:=p3
 simp -implicitDefEqProofs (disch:=omega) only[go_sem]
 with_reducible refine aA (fun hb=> ?_) (fun hb=> ?_)<;>have h:=hb<;>(try simp only[wf_preprocess] at h)<;>simp -implicitDefEqProofs (disch:=omega) only[go_sem,hb]<;>(repeat(with_reducible refine And.intro ?_ ?_;focus first|omega|rfl|assumption|exact⟨_,rfl,rfl⟩|(simp;omega)|(simp;done)))
 ·have hm0:m≠0:=fun e=>by rw[e,g0] at hx;omega
  have hst:=Vm hm0
  have hr2:=abI (m/10) (by omega)
  have agN:(CR (m/10)).length+1+out.length≤19:=by
   have:=congrArg List.length p2
   rw[←hst,hd0] at this
   simp only[List.length_append,List.length_cons,List.length_nil] at this
   omega
  simp -implicitDefEqProofs (disch:=omega) only[go_sem,hy]
  with_reducible refine aA (fun hb=> ?_) (fun hb=> ?_)<;>have h:=hb<;>(try simp only[wf_preprocess] at h)<;>simp -implicitDefEqProofs (disch:=omega) only[go_sem,hb]<;>(repeat(with_reducible refine And.intro ?_ ?_;focus first|omega|rfl|assumption|exact⟨_,rfl,rfl⟩|(simp;omega)|(simp;done)))
  ·have e1:(0:Int)-y=((m % 10:Nat):Int):=by omega
   have hc:UInt8.ofNat (IntKind.u8.wrap (48+(0-y))).toNat=UInt8.ofNat (48+m % 10):=by
    rw[wrap_u8 _ (by omega),e1]
    congr 1
   simp -implicitDefEqProofs (disch:=omega) only[go_sem,hy,hq]
   (repeat(with_reducible refine And.intro ?_ ?_;focus first|omega|rfl|assumption|exact⟨_,rfl,rfl⟩|(simp;omega)|(simp;done)))
   refine bI (m/10,UInt8.ofNat (48+m % 10)::out) (by simp only;omega) (by rw[←hc];rfl) rfl ⟨by simp only;omega,?_,by simp only[List.length_cons];omega⟩
   simp only
   rw[←p2,←hst,List.append_assoc];rfl
  ·have e1:y=((m % 10:Nat):Int):=by omega
   have hc:UInt8.ofNat (IntKind.u8.wrap (48+y)).toNat=UInt8.ofNat (48+m % 10):=by
    rw[wrap_u8 _ (by omega),e1]
    congr 1
   simp -implicitDefEqProofs (disch:=omega) only[go_sem,hy,hq]
   (repeat(with_reducible refine And.intro ?_ ?_;focus first|omega|rfl|assumption|exact⟨_,rfl,rfl⟩|(simp;omega)|(simp;done)))
   refine bI (m/10,UInt8.ofNat (48+m % 10)::out) (by simp only;omega) (by rw[←hc];rfl) rfl ⟨by simp only;omega,?_,by simp only[List.length_cons];omega⟩
   simp only
   rw[←p2,←hst,List.append_assoc];rfl
 ·have hm0:m=0:=by
   rcases Nat.eq_zero_or_pos m with e|e
   ·exact e
   ·exact absurd (by rw[hx];omega) (gne m (by omega))
  subst hm0
  have hout:out=Lib.decDigits n.natAbs:=by rw[←hd0,←p2];rfl
  with_reducible refine aA (fun hb=> ?_) (fun hb=> ?_)<;>have h:=hb<;>(try simp only[wf_preprocess] at h)<;>simp -implicitDefEqProofs (disch:=omega) only[go_sem,hb]<;>(repeat(with_reducible refine And.intro ?_ ?_;focus first|omega|rfl|assumption|exact⟨_,rfl,rfl⟩|(simp;omega)|(simp;done)))
  ·(repeat(with_reducible refine And.intro ?_ ?_;focus first|omega|rfl|assumption|exact⟨_,rfl,rfl⟩|(simp;omega)|(simp;done)))
   rw[hout]
   unfold Lib.itoa
   rw[if_pos h]
  ·rw[hout]
   unfold Lib.itoa
   rw[if_neg h,show n.toNat=n.natAbs by omega]
end Go.Proofs.YtlmhknhlmicmeaaGreatDoor
