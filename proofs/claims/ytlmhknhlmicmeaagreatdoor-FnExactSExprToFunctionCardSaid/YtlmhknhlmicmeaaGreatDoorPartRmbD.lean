/-
  SEVERAL TEXTS IN ONE (merged by program): contracts and models, each with its own heading.
-/
import Derived.Test.YtlmhknhlmicmeaaGreatDoorPartRmbC
import Derived.Lib.ItoaNum
import Derived.Lib.Atoi
import Derived.Shelf.LaysM
import Derived.Shelf.Strconv.Itoa3
import Derived.Test.YtlmhknhlmicmeaaGreatDoorProg
set_option linter.unusedSimpArgs false
set_option linter.unusedVariables false
set_option maxRecDepth 4000
namespace Go.Proofs.YtlmhknhlmicmeaaGreatDoor
open Go Go.Ab
theorem zm(n a b:Int):aH Tryz.prog 245 [.c (.d (.i .i64 n)),.c (.d (.i .i64 a)),.c (.d (.i .i64 b))] (.c (.d (.b (dec (a≤n∧n≤b))))):=fun S=>by
 refine aC (rs:=[.tmp 6]) Tryz.checked.mixed Tryz.func245 Tryz.ntmps245 rfl rfl rfl rfl rfl ?_
 simp -implicitDefEqProofs (disch:=omega) only[go_sem]
 with_reducible refine aA (fun hb=> ?_) (fun hb=> ?_)<;>have h:=hb<;>(try simp only[wf_preprocess] at h)<;>simp -implicitDefEqProofs (disch:=omega) only[go_sem,hb]<;>(repeat(with_reducible refine And.intro ?_ ?_;focus first|omega|rfl|assumption|exact⟨_,rfl,rfl⟩|(simp;omega)|(simp;done)))
 ·exact aJ (by rw[j6];exact kF ⟨fun x=>⟨by omega,x⟩,fun x=>x.2⟩)
 ·exact aJ (aQ (by omega)).symm
theorem qo(xs:List (List UInt8))(s:List UInt8)(hl:xs.length≤1073741824):aH Tryz.prog 135 [.c (.d (.sl (xs.map encS))),.c (.d (.s s))] (.c (.d (.b (dec (s∈xs))))):=fun S=>by
 refine aC (rs:=[.tmp 4]) Tryz.checked.mixed Tryz.func135 Tryz.ntmps135 rfl rfl rfl rfl rfl ?_
 simp -implicitDefEqProofs (disch:=omega) only[go_sem,encS]
 refine aV (ι:=Nat) Tryz.checked.mixed rfl [0,1,5] (fun i=>[.c (.d (.sl (xs.map encS))),.c (.d (.s s)),.c (.d (.i .i64 i))]) (fun _=>[]::S)
  (fun i=>i≤xs.length∧∀j,j<i→∀h:j<xs.length,xs[j]≠s) (fun i=>xs.length-i) 0 rfl rfl ⟨Nat.zero_le _,fun j h=>by omega⟩ ?_
 rintro i ⟨p1,p2⟩
 simp -implicitDefEqProofs (disch:=omega) only[go_sem,encS]
 with_reducible refine aA (fun hb=> ?_) (fun hb=> ?_)<;>have h:=hb<;>(try simp only[wf_preprocess] at h)<;>simp -implicitDefEqProofs (disch:=omega) only[go_sem,hb,encS]<;>(repeat(with_reducible refine And.intro ?_ ?_;focus first|omega|rfl|assumption|exact⟨_,rfl,rfl⟩|(simp;omega)|(simp;done)))
 ·have hi:i<xs.length:=by omega
  with_reducible refine aA (fun hb=> ?_) (fun hb=> ?_)<;>have h:=hb<;>(try simp only[wf_preprocess] at h)<;>simp -implicitDefEqProofs (disch:=omega) only[go_sem,hb,encS]<;>(repeat(with_reducible refine And.intro ?_ ?_;focus first|omega|rfl|assumption|exact⟨_,rfl,rfl⟩|(simp;omega)|(simp;done)))
  ·exact aJ (bR (by rw[←h];exact List.getElem_mem hi)).symm
  ·refine bH (i+1) (by omega) rfl rfl ⟨by omega,fun j hj hl=> ?_⟩
   by_cases e:j=i
   ·subst e;exact h
   ·exact p2 j (by omega) hl
 ·refine aJ (aQ fun hm=> ?_).symm
  obtain⟨j,h1,h2⟩:=List.getElem_of_mem hm
  exact p2 j (by omega) h1 h2
theorem UO(xs:List (List UInt8))(s:List UInt8)(hl:xs.length≤1073741824):aH Tryz.prog 266 [.c (.d (.sl (xs.map encS))),.c (.d (.s s))] (.c (.d (.i .i64 (xA xs s)))):=fun S=>by
 refine aC (rs:=[.tmp 4]) Tryz.checked.mixed Tryz.func266 Tryz.ntmps266 rfl rfl rfl rfl rfl ?_
 simp -implicitDefEqProofs (disch:=omega) only[go_sem,encS]
 refine aV (ι:=Nat) Tryz.checked.mixed rfl [0,1,7,8] (fun i=>[.c (.d (.sl (xs.map encS))),.c (.d (.s s)),.c (.d (.i .i64 xs.length)),.c (.d (.i .i64 i))]) (fun _=>[]::S)
  (fun i=>i≤xs.length∧∀j,j<i→xs.getD j []≠s) (fun i=>xs.length-i) 0 rfl rfl ⟨Nat.zero_le _,fun j h=>by omega⟩ ?_
 rintro i ⟨p1,p2⟩
 simp -implicitDefEqProofs (disch:=omega) only[go_sem,encS]
 with_reducible refine aA (fun hb=> ?_) (fun hb=> ?_)<;>have h:=hb<;>(try simp only[wf_preprocess] at h)<;>simp -implicitDefEqProofs (disch:=omega) only[go_sem,hb,encS]<;>(repeat(with_reducible refine And.intro ?_ ?_;focus first|omega|rfl|assumption|exact⟨_,rfl,rfl⟩|(simp;omega)|(simp;done)))
 ·have hi:i<xs.length:=by omega
  have e:xs.getD i []=xs[i]:=by simp[List.getD,hi]
  with_reducible refine aA (fun hb=> ?_) (fun hb=> ?_)<;>have h:=hb<;>(try simp only[wf_preprocess] at h)<;>simp -implicitDefEqProofs (disch:=omega) only[go_sem,hb,encS]<;>(repeat(with_reducible refine And.intro ?_ ?_;focus first|omega|rfl|assumption|exact⟨_,rfl,rfl⟩|(simp;omega)|(simp;done)))
  ·rw[Ow hi p2 (by rw[e];exact h.symm)]
  ·refine bH (i+1) (by omega) rfl rfl ⟨by omega,fun j hj=> ?_⟩
   by_cases e':j=i
   ·subst e';rw[e];exact fun x=>h x.symm
   ·exact p2 j (by omega)
 ·rw[Uz (fun j hj=>p2 j (by omega))]
theorem qp(xs:List (List UInt8))(s:List UInt8)(hl:xs.length≤1073741824):aH Tryz.prog 231 [.c (.d (.sl (xs.map encS))),.c (.d (.s s))] (.c (.d (.b (dec (s∈xs))))):=fun S=>by
 refine aC (rs:=[.tmp 4]) Tryz.checked.mixed Tryz.func231 Tryz.ntmps231 rfl rfl rfl rfl rfl ?_
 simp -implicitDefEqProofs (disch:=omega) only[go_sem]
 refine ay (UO xs s hl) ?_
 simp -implicitDefEqProofs (disch:=omega) only[go_sem]<;>(repeat(with_reducible refine And.intro ?_ ?_;focus first|omega|rfl|assumption|exact⟨_,rfl,rfl⟩|(simp;omega)|(simp;done)))
 exact aJ Rv
theorem FQ(s:List UInt8):aH Tryz.prog 246 [.c (.d (.s s))] (.c (.d (.b (dec (s∈reserved))))):=fun S=>by
 refine aC (rs:=[.tmp 2]) Tryz.checked.mixed Tryz.func246 Tryz.ntmps246 rfl rfl rfl rfl rfl ?_
 simp -implicitDefEqProofs (disch:=omega) only[go_sem]
 (repeat(with_reducible refine And.intro ?_ ?_;focus first|omega|rfl|assumption|exact⟨_,rfl,rfl⟩|(simp;omega)|(simp;done)))
 refine ay (qo reserved s (by decide)) ?_
 simp -implicitDefEqProofs (disch:=omega) only[go_sem]<;>(repeat(with_reducible refine And.intro ?_ ?_;focus first|omega|rfl|assumption|exact⟨_,rfl,rfl⟩|(simp;omega)|(simp;done)))
theorem FR(s:List UInt8):aH Tryz.prog 263 [.c (.d (.s s))] (.c (.d (.b (dec (s∈reserved))))):=fun S=>by
 refine aC (rs:=[.tmp 2]) Tryz.checked.mixed Tryz.func263 Tryz.ntmps263 rfl rfl rfl rfl rfl ?_
 simp -implicitDefEqProofs (disch:=omega) only[go_sem]
 (repeat(with_reducible refine And.intro ?_ ?_;focus first|omega|rfl|assumption|exact⟨_,rfl,rfl⟩|(simp;omega)|(simp;done)))
 refine ay (qp reserved s (by decide)) ?_
 simp -implicitDefEqProofs (disch:=omega) only[go_sem]<;>(repeat(with_reducible refine And.intro ?_ ?_;focus first|omega|rfl|assumption|exact⟨_,rfl,rfl⟩|(simp;omega)|(simp;done)))
theorem FT(b:UInt8):aH Tryz.prog 261 [.c (.d (.i .u8 b.toNat))] (.c (.d (.b (dec (lowerB b))))):=fun S=>by
 refine aC (rs:=[.tmp 2]) Tryz.checked.mixed Tryz.func261 Tryz.ntmps261 rfl rfl rfl rfl rfl ?_
 simp -implicitDefEqProofs (disch:=omega) only[go_sem]
 with_reducible refine aA (fun hb=> ?_) (fun hb=> ?_)<;>have h:=hb<;>(try simp only[wf_preprocess] at h)<;>simp -implicitDefEqProofs (disch:=omega) only[go_sem,hb]<;>(repeat(with_reducible refine And.intro ?_ ?_;focus first|omega|rfl|assumption|exact⟨_,rfl,rfl⟩|(simp;omega)|(simp;done)))
 ·exact aJ (by rw[j6];exact kF ⟨fun x=>⟨by omega,by omega⟩,fun x=>by have:=x.2;omega⟩)
 ·exact aJ (aQ fun x=>by have:=x.1;omega).symm
theorem FU(b:UInt8):aH Tryz.prog 262 [.c (.d (.i .u8 b.toNat))] (.c (.d (.b (dec (mI b))))):=fun S=>by
 refine aC (rs:=[.tmp 2]) Tryz.checked.mixed Tryz.func262 Tryz.ntmps262 rfl rfl rfl rfl rfl ?_
 simp -implicitDefEqProofs (disch:=omega) only[go_sem]
 with_reducible refine aA (fun hb=> ?_) (fun hb=> ?_)<;>have h:=hb<;>(try simp only[wf_preprocess] at h)<;>simp -implicitDefEqProofs (disch:=omega) only[go_sem,hb]<;>(repeat(with_reducible refine And.intro ?_ ?_;focus first|omega|rfl|assumption|exact⟨_,rfl,rfl⟩|(simp;omega)|(simp;done)))
 ·exact aJ (by rw[j6];exact kF ⟨fun x=>⟨by omega,by omega⟩,fun x=>by have:=x.2;omega⟩)
 ·exact aJ (aQ fun x=>by have:=x.1;omega).symm
theorem iY(s:List UInt8)(hl:s.length≤1073741824):aH Tryz.prog 168 [.c (.d (.s s))] (.c (.d (.b (validName s)))):=fun S=>by
 refine aC (rs:=[.tmp 2]) Tryz.checked.mixed Tryz.func168 Tryz.ntmps168 rfl rfl rfl rfl rfl ?_
 simp -implicitDefEqProofs (disch:=omega) only[go_sem]
 refine aV (ι:=Nat) Tryz.checked.mixed rfl [0,5,6] (fun i=>[.c (.d (.s s)),.c (.d (.i .i64 s.length)),.c (.d (.i .i64 i))]) (fun _=>[]::S)
  (fun i=>i≤s.length∧∀j,j<i→lowerB (s.getD j 0)∨(j≠0∧mI (s.getD j 0))) (fun i=>s.length-i) 0 rfl rfl ⟨Nat.zero_le _,fun j h=>by omega⟩ ?_
 rintro i ⟨p1,p2⟩
 have next:i<s.length→(lowerB (s.getD i 0)∨(i≠0∧mI (s.getD i 0)))→∀j,j<i+1→lowerB (s.getD j 0)∨(j≠0∧mI (s.getD j 0)):=fun hi h j hj=>by
  by_cases e:j=i
  ·subst e;exact h
  ·exact p2 j (by omega)
 have bad:i<s.length→¬(lowerB (s.getD i 0)∨(i≠0∧mI (s.getD i 0)))→validName s=false:=fun hi h=>aQ fun x=>h (x.2.2 i hi)
 simp -implicitDefEqProofs (disch:=omega) only[go_sem]
 with_reducible refine aA (fun hb=> ?_) (fun hb=> ?_)<;>have h:=hb<;>(try simp only[wf_preprocess] at h)<;>simp -implicitDefEqProofs (disch:=omega) only[go_sem,hb]<;>(repeat(with_reducible refine And.intro ?_ ?_;focus first|omega|rfl|assumption|exact⟨_,rfl,rfl⟩|(simp;omega)|(simp;done)))
 ·have hi:i<s.length:=by omega
  (repeat(with_reducible refine And.intro ?_ ?_;focus first|omega|rfl|assumption|exact⟨_,rfl,rfl⟩|(simp;omega)|(simp;done)))
  refine ay (FT (s.getD i 0)) ?_
  simp -implicitDefEqProofs (disch:=omega) only[go_sem]<;>(repeat(with_reducible refine And.intro ?_ ?_;focus first|omega|rfl|assumption|exact⟨_,rfl,rfl⟩|(simp;omega)|(simp;done)))
  with_reducible refine aA (fun hb=> ?_) (fun hb=> ?_)<;>have h:=hb<;>(try simp only[wf_preprocess] at h)<;>simp -implicitDefEqProofs (disch:=omega) only[go_sem,hb]<;>(repeat(with_reducible refine And.intro ?_ ?_;focus first|omega|rfl|assumption|exact⟨_,rfl,rfl⟩|(simp;omega)|(simp;done)))
  ·have nl:=h
   with_reducible refine aA (fun hb=> ?_) (fun hb=> ?_)<;>have h:=hb<;>(try simp only[wf_preprocess] at h)<;>simp -implicitDefEqProofs (disch:=omega) only[go_sem,hb]<;>(repeat(with_reducible refine And.intro ?_ ?_;focus first|omega|rfl|assumption|exact⟨_,rfl,rfl⟩|(simp;omega)|(simp;done)))
   ·have i0:i=0:=by omega
    rw[bad hi (fun x=>x.elim nl fun y=>y.1 i0)]
   ·have ne:=h
    (repeat(with_reducible refine And.intro ?_ ?_;focus first|omega|rfl|assumption|exact⟨_,rfl,rfl⟩|(simp;omega)|(simp;done)))
    refine ay (FU (s.getD i 0)) ?_
    simp -implicitDefEqProofs (disch:=omega) only[go_sem]<;>(repeat(with_reducible refine And.intro ?_ ?_;focus first|omega|rfl|assumption|exact⟨_,rfl,rfl⟩|(simp;omega)|(simp;done)))
    with_reducible refine aA (fun hb=> ?_) (fun hb=> ?_)<;>have h:=hb<;>(try simp only[wf_preprocess] at h)<;>simp -implicitDefEqProofs (disch:=omega) only[go_sem,hb]<;>(repeat(with_reducible refine And.intro ?_ ?_;focus first|omega|rfl|assumption|exact⟨_,rfl,rfl⟩|(simp;omega)|(simp;done)))
    ·rw[bad hi (fun x=>x.elim nl fun y=>h y.2)]
    ·exact bH (i+1) (by omega) rfl rfl ⟨by omega,next hi (.inr ⟨by omega,h⟩)⟩
  ·exact bH (i+1) (by omega) rfl rfl ⟨by omega,next hi (.inl h)⟩
 ·have hn:L6 s:=fun j hj=>p2 j (by omega)
  have h0:∀b,dec (s∈reserved)=b→∀c,decide ((s.length:Int)≥1)=c→∀d,decide ((s.length:Int)≤8)=d→validName s=(c&&d&& !b):=by
   rintro b rfl c rfl d rfl
   unfold validName
   rw[Bool.eq_iff_iff]
   simp only[uM,Bool.and_eq_true,decide_eq_true_eq,Bool.not_eq_true',Bz]
   exact⟨fun x=>⟨⟨by omega,by omega⟩,x.2.1⟩,fun x=>⟨⟨by omega,by omega⟩,x.2,hn⟩⟩
  with_reducible refine aA (fun hb=> ?_) (fun hb=> ?_)<;>have h:=hb<;>(try simp only[wf_preprocess] at h)<;>simp -implicitDefEqProofs (disch:=omega) only[go_sem,hb]<;>(repeat(with_reducible refine And.intro ?_ ?_;focus first|omega|rfl|assumption|exact⟨_,rfl,rfl⟩|(simp;omega)|(simp;done)))
  ·have c1:=hb
   with_reducible refine aA (fun hb=> ?_) (fun hb=> ?_)<;>have h:=hb<;>(try simp only[wf_preprocess] at h)<;>simp -implicitDefEqProofs (disch:=omega) only[go_sem,hb]<;>(repeat(with_reducible refine And.intro ?_ ?_;focus first|omega|rfl|assumption|exact⟨_,rfl,rfl⟩|(simp;omega)|(simp;done)))
   ·refine ay (FR s) ?_
    simp -implicitDefEqProofs (disch:=omega) only[go_sem]<;>(repeat(with_reducible refine And.intro ?_ ?_;focus first|omega|rfl|assumption|exact⟨_,rfl,rfl⟩|(simp;omega)|(simp;done)))
    exact aJ (by rw[h0 _ rfl _ c1 _ hb];simp)
   ·exact aJ (by rw[h0 _ rfl _ c1 _ hb];simp)
  ·exact aJ (by rw[h0 _ rfl _ hb _ rfl];simp)
theorem iZ(s:List UInt8)(hl:s.length≤1073741824):aH Tryz.prog 152 [.c (.d (.s s))] (.c (.d (.b (validName s)))):=fun S=>by
 have bad:¬L6 s→validName s=false:=fun h=>aQ fun x=>h x.2.2
 refine aC (rs:=[.tmp 2]) Tryz.checked.mixed Tryz.func152 Tryz.ntmps152 rfl rfl rfl rfl rfl ?_
 simp -implicitDefEqProofs (disch:=omega) only[go_sem]
 refine ay (zm s.length 1 8) ?_
 simp -implicitDefEqProofs (disch:=omega) only[go_sem]<;>(repeat(with_reducible refine And.intro ?_ ?_;focus first|omega|rfl|assumption|exact⟨_,rfl,rfl⟩|(simp;omega)|(simp;done)))
 with_reducible refine aA (fun hb=> ?_) (fun hb=> ?_)<;>have h:=hb<;>(try simp only[wf_preprocess] at h)<;>simp -implicitDefEqProofs (disch:=omega) only[go_sem,hb]<;>(repeat(with_reducible refine And.intro ?_ ?_;focus first|omega|rfl|assumption|exact⟨_,rfl,rfl⟩|(simp;omega)|(simp;done)))
 ·rw[show validName s=false from aQ fun x=>h (by omega)]
 have hlen:=h
 refine ay (FQ s) ?_
 simp -implicitDefEqProofs (disch:=omega) only[go_sem]<;>(repeat(with_reducible refine And.intro ?_ ?_;focus first|omega|rfl|assumption|exact⟨_,rfl,rfl⟩|(simp;omega)|(simp;done)))
 with_reducible refine aA (fun hb=> ?_) (fun hb=> ?_)<;>have h:=hb<;>(try simp only[wf_preprocess] at h)<;>simp -implicitDefEqProofs (disch:=omega) only[go_sem,hb]<;>(repeat(with_reducible refine And.intro ?_ ?_;focus first|omega|rfl|assumption|exact⟨_,rfl,rfl⟩|(simp;omega)|(simp;done)))
 ·rw[show validName s=false from aQ fun x=>x.2.1 h]
 have hres:=h
 refine aV (ι:=Nat) Tryz.checked.mixed rfl [0,3] (fun i=>[.c (.d (.s s)),.c (.d (.i .i64 i))]) (fun _=>[]::S)
  (fun i=>i≤s.length∧∀j,j<i→lowerB (s.getD j 0)∨(j≠0∧mI (s.getD j 0))) (fun i=>s.length-i) 0 rfl rfl ⟨Nat.zero_le _,fun j h=>by omega⟩ ?_
 rintro i ⟨p1,p2⟩
 have next:i<s.length→(lowerB (s.getD i 0)∨(i≠0∧mI (s.getD i 0)))→∀j,j<i+1→lowerB (s.getD j 0)∨(j≠0∧mI (s.getD j 0)):=fun hi h j hj=>by
  by_cases e:j=i
  ·subst e;exact h
  ·exact p2 j (by omega)
 simp -implicitDefEqProofs (disch:=omega) only[go_sem]
 with_reducible refine aA (fun hb=> ?_) (fun hb=> ?_)<;>have h:=hb<;>(try simp only[wf_preprocess] at h)<;>simp -implicitDefEqProofs (disch:=omega) only[go_sem,hb]<;>(repeat(with_reducible refine And.intro ?_ ?_;focus first|omega|rfl|assumption|exact⟨_,rfl,rfl⟩|(simp;omega)|(simp;done)))
 ·have hi:i<s.length:=by omega
  have bad':¬(lowerB (s.getD i 0)∨(i≠0∧mI (s.getD i 0)))→validName s=false:=fun h=>bad fun x=>h (x i hi)
  have next:=next hi
  unfold lowerB mI at bad' next
  all_goals try(with_reducible refine aA (fun hb=> ?_) (fun hb=> ?_)<;>have h:=hb<;>(try simp only[wf_preprocess] at h)<;>simp -implicitDefEqProofs (disch:=omega) only[go_sem,hb]<;>(repeat(with_reducible refine And.intro ?_ ?_;focus first|omega|rfl|assumption|exact⟨_,rfl,rfl⟩|(simp;omega)|(simp;done))))
  all_goals try(with_reducible refine aA (fun hb=> ?_) (fun hb=> ?_)<;>have h:=hb<;>(try simp only[wf_preprocess] at h)<;>simp -implicitDefEqProofs (disch:=omega) only[go_sem,hb]<;>(repeat(with_reducible refine And.intro ?_ ?_;focus first|omega|rfl|assumption|exact⟨_,rfl,rfl⟩|(simp;omega)|(simp;done))))
  all_goals try(with_reducible refine aA (fun hb=> ?_) (fun hb=> ?_)<;>have h:=hb<;>(try simp only[wf_preprocess] at h)<;>simp -implicitDefEqProofs (disch:=omega) only[go_sem,hb]<;>(repeat(with_reducible refine And.intro ?_ ?_;focus first|omega|rfl|assumption|exact⟨_,rfl,rfl⟩|(simp;omega)|(simp;done))))
  all_goals try(with_reducible refine aA (fun hb=> ?_) (fun hb=> ?_)<;>have h:=hb<;>(try simp only[wf_preprocess] at h)<;>simp -implicitDefEqProofs (disch:=omega) only[go_sem,hb]<;>(repeat(with_reducible refine And.intro ?_ ?_;focus first|omega|rfl|assumption|exact⟨_,rfl,rfl⟩|(simp;omega)|(simp;done))))
  all_goals try(with_reducible refine aA (fun hb=> ?_) (fun hb=> ?_)<;>have h:=hb<;>(try simp only[wf_preprocess] at h)<;>simp -implicitDefEqProofs (disch:=omega) only[go_sem,hb]<;>(repeat(with_reducible refine And.intro ?_ ?_;focus first|omega|rfl|assumption|exact⟨_,rfl,rfl⟩|(simp;omega)|(simp;done))))
  all_goals try(with_reducible refine aA (fun hb=> ?_) (fun hb=> ?_)<;>have h:=hb<;>(try simp only[wf_preprocess] at h)<;>simp -implicitDefEqProofs (disch:=omega) only[go_sem,hb]<;>(repeat(with_reducible refine And.intro ?_ ?_;focus first|omega|rfl|assumption|exact⟨_,rfl,rfl⟩|(simp;omega)|(simp;done))))
  all_goals first
   |exact bH (i+1) (by omega) rfl rfl ⟨by omega,next (by omega)⟩
   |exact aJ (bad' (by omega)).symm
 ·rw[show validName s=true from bR ⟨by omega,hres,fun j hj=>p2 j (by omega)⟩]
theorem UQ(s:List UInt8):aH Tryz.prog 346 [.c (.d (.s s))] (.c (.d (.b (rD s)))):=fun S=>by
 refine aC (rs:=[.tmp 2]) Tryz.checked.mixed Tryz.func346 Tryz.ntmps346 rfl rfl rfl rfl rfl ?_
 simp -implicitDefEqProofs (disch:=omega) only[go_sem]
 with_reducible refine aA (fun hb=> ?_) (fun hb=> ?_)<;>have h:=hb<;>(try simp only[wf_preprocess] at h)<;>simp -implicitDefEqProofs (disch:=omega) only[go_sem,hb]<;>(repeat(with_reducible refine And.intro ?_ ?_;focus first|omega|rfl|assumption|exact⟨_,rfl,rfl⟩|(simp;omega)|(simp;done)))
 ·exact aJ (bR (.inl h)).symm
 ·exact aJ (by rw[j6];exact kF ⟨fun x=>.inr x,fun x=>x.resolve_left h⟩)
theorem ME(s:List UInt8):aH Tryz.prog 351 [.c (.d (.s s))] (.c (.d (.b (rD s)))):=fun S=>by
 refine aC (rs:=[.tmp 2]) Tryz.checked.mixed Tryz.func351 Tryz.ntmps351 rfl rfl rfl rfl rfl ?_
 simp -implicitDefEqProofs (disch:=omega) only[go_sem]
 with_reducible refine aA (fun hb=> ?_) (fun hb=> ?_)<;>have h:=hb<;>(try simp only[wf_preprocess] at h)<;>simp -implicitDefEqProofs (disch:=omega) only[go_sem,hb]<;>(repeat(with_reducible refine And.intro ?_ ?_;focus first|omega|rfl|assumption|exact⟨_,rfl,rfl⟩|(simp;omega)|(simp;done)))
 ·exact aJ (bR (.inl h)).symm
 ·exact aJ (by rw[j6];exact kF ⟨fun x=>.inr x,fun x=>x.resolve_left h⟩)
end Go.Proofs.YtlmhknhlmicmeaaGreatDoor
namespace Go.Proofs.YtlmhknhlmicmeaaGreatDoor
open Go Go.Ab
theorem qw{x:aj}{i:Nat}(hi:i<x.fArgs.length)(h:x.sz≤4194304):x.fArgs[i].sz≤4194304∧x.fArgs.length≤4194304∧x.fName.length≤4194304:=by
 have hx:x.fArgs[i].sz≤bG (x.fArgs.map aj.enc):=dY (List.mem_map_of_mem (List.getElem_mem hi))
 simp only[aj.sz,aj.aD,bM,D.sz,List.length_map] at h
 omega
theorem yj{x:aj}(h:x.sz≤4194304):x.fArgs.length≤4194304∧x.fName.length≤4194304:=by
 simp only[aj.sz,aj.aD,bM,D.sz,List.length_map] at h
 omega
theorem jh:∀{ts:List aj} {i:Nat} (hi:i<ts.length),aj.cu (ts.drop i)=ts[i].cnt+aj.cu (ts.drop (i+1)):=fun {ts} {i} hi=>by
 rw[List.drop_eq_getElem_cons hi,aj.cu]
theorem DT:∀{ts:List aj} {i:Nat} (hi:i<ts.length),depths (ts.drop i)=max (jB ts[i]+1) (depths (ts.drop (i+1))):=fun {ts} {i} hi=>by
 rw[List.drop_eq_getElem_cons hi,depths]
theorem MF:∀{ts:List aj} {i:Nat} (hi:i<ts.length),gJ (ts.drop i)=(formed ts[i]&&gJ (ts.drop (i+1))):=fun {ts} {i} hi=>by
 rw[List.drop_eq_getElem_cons hi,gJ]
theorem FV:∀n:Nat,∀x:aj,SizeOf.sizeOf x<n→∀l:Int,0≤l→l≤1073741824→x.sz≤4194304→aH Tryz.prog 323 [x.v,.c (.d (.i .i64 l))] (.c (.d (.i .i64 (gV l x.cnt))))
 |0=>fun x h=>by omega
 |n+1=>by
  have ih:=FV n
  intro x hn l h0 h1 hsz S
  have iA:=aj.fA x
  have hts:=yj hsz
  have hcn:=aj.lq x
  refine aC (rs:=[.tmp 4]) Tryz.checked.mixed Tryz.func323 Tryz.ntmps323 rfl rfl rfl rfl rfl ?_
  simp -implicitDefEqProofs (disch:=omega) only[go_sem]
  refine aV (ι:=Nat×Int) Tryz.checked.mixed rfl [1,2,5] (fun y=>[.c (.d (.i .i64 y.2)),.c (.ptr (0,0) 0),.c (.d (.i .i64 y.1))]) (fun y=>[.box [.d (.i .i64 x.aG),.d (.s x.fName),.d (.sl (x.fArgs.map aj.enc))]]::S)
   (fun y=>y.1≤x.fArgs.length∧ -1≤y.2∧y.2≤1073741824∧(0≤y.2→gV l x.cnt=gV y.2 (aj.cu (x.fArgs.drop y.1)))∧(y.2<0→gV l x.cnt= -1)) (fun y=>x.fArgs.length-y.1) (0,l-1) rfl rfl ⟨Nat.zero_le _,by simp only;omega,by simp only;omega,fun h=> ?_,fun h=> ?_⟩ ?_
  ·simp only[List.drop_zero] at h ⊢
   unfold gV
   rw[hcn]
   split<;>split<;>omega
  ·simp only at h
   exact rV (by omega)
  rintro⟨i,c⟩ ⟨p1,p2,p3,p4,p5⟩
  simp only at p1 p2 p3 p4 p5
  simp -implicitDefEqProofs (disch:=omega) only[go_sem]
  with_reducible refine aA (fun hb=> ?_) (fun hb=> ?_)<;>have h:=hb<;>(try simp only[wf_preprocess] at h)<;>simp -implicitDefEqProofs (disch:=omega) only[go_sem,hb]<;>(repeat(with_reducible refine And.intro ?_ ?_;focus first|omega|rfl|assumption|exact⟨_,rfl,rfl⟩|(simp;omega)|(simp;done)))
  ·have hi:i<x.fArgs.length:=by omega
   with_reducible refine aA (fun hb=> ?_) (fun hb=> ?_)<;>have h:=hb<;>(try simp only[wf_preprocess] at h)<;>simp -implicitDefEqProofs (disch:=omega) only[go_sem,hb]<;>(repeat(with_reducible refine And.intro ?_ ?_;focus first|omega|rfl|assumption|exact⟨_,rfl,rfl⟩|(simp;omega)|(simp;done)))
   ·have hsz':=qw hi hsz
    have p6:=p4 h
    rw[jh hi] at p6
    (repeat(with_reducible refine And.intro ?_ ?_;focus first|omega|rfl|assumption|exact⟨_,rfl,rfl⟩|(simp;omega)|(simp;done)))
    refine ay (ih x.fArgs[i] (by have:=List.sizeOf_lt_of_mem (List.getElem_mem hi);omega) c (by omega) (by omega) (by omega)) ?_
    simp -implicitDefEqProofs (disch:=omega) only[go_sem]<;>(repeat(with_reducible refine And.intro ?_ ?_;focus first|omega|rfl|assumption|exact⟨_,rfl,rfl⟩|(simp;omega)|(simp;done)))
    refine bH (i+1,gV c _) (by simp only;omega) rfl rfl ⟨by simp only;omega,?_,?_,fun h=> ?_,fun h=> ?_⟩
    ·simp only;unfold gV;split<;>omega
    ·simp only;unfold gV;split<;>omega
    ·simp only at h ⊢
     rw[p6]
     have:=uh (l:=c) (a:=x.fArgs[i].cnt) (by omega)
     rw[this.1]
     unfold gV
     split<;>split<;>omega
    ·simp only at h ⊢
     rw[p6]
     have:=uj h
     exact rV (by omega)
   ·have hc:c= -1:=by omega
    rw[p5 (by omega),hc]
  ·have hi:i=x.fArgs.length:=by omega
   by_cases hc:0≤c
   ·rw[p4 hc,hi,List.drop_length,aj.cu,Aa (by omega)]
    exact int_eq (by simp)
   ·rw[p5 (by omega)]
    exact int_eq (by omega)
theorem UR(x:aj)(l:Int)(h0:0≤l)(h1:l≤1073741824)(hsz:x.sz≤4194304):aH Tryz.prog 323 [x.v,.c (.d (.i .i64 l))] (.c (.d (.i .i64 (gV l x.cnt)))):=FV _ x (Nat.lt_succ_self _) l h0 h1 hsz
theorem MG(a b:Int):aH Tryz.prog 276 [.c (.d (.i .i64 a)),.c (.d (.i .i64 b))] (.c (.d (.i .i64 (max a b)))):=fun S=>by
 refine aC (rs:=[.tmp 4]) Tryz.checked.mixed Tryz.func276 Tryz.ntmps276 rfl rfl rfl rfl rfl ?_
 simp -implicitDefEqProofs (disch:=omega) only[go_sem]
 with_reducible refine aA (fun hb=> ?_) (fun hb=> ?_)<;>have h:=hb<;>(try simp only[wf_preprocess] at h)<;>simp -implicitDefEqProofs (disch:=omega) only[go_sem,hb]<;>(repeat(with_reducible refine And.intro ?_ ?_;focus first|omega|rfl|assumption|exact⟨_,rfl,rfl⟩|(simp;omega)|(simp;done)))
 ·exact int_eq (by omega)
 ·exact int_eq (by omega)
theorem AY:∀n:Nat,∀x:aj,SizeOf.sizeOf x<n→x.sz≤4194304→aH Tryz.prog 324 [x.v] (.c (.d (.i .i64 (jB x))))
 |0=>fun x h=>by omega
 |n+1=>by
  have ih:=AY n
  intro x hn hsz S
  have iA:=aj.fA x
  have hts:=yj hsz
  have hd1:=vg x
  have hd2:=jf x
  refine aC (rs:=[.tmp 2]) Tryz.checked.mixed Tryz.func324 Tryz.ntmps324 rfl rfl rfl rfl rfl ?_
  simp -implicitDefEqProofs (disch:=omega) only[go_sem]
  refine aV (ι:=Nat×Nat) Tryz.checked.mixed rfl [1,3,4] (fun y=>[.c (.ptr (0,0) 0),.c (.d (.i .i64 y.2)),.c (.d (.i .i64 y.1))]) (fun y=>[.box [.d (.i .i64 x.aG),.d (.s x.fName),.d (.sl (x.fArgs.map aj.enc))]]::S)
   (fun y=>y.1≤x.fArgs.length∧jB x=max y.2 (depths (x.fArgs.drop y.1))) (fun y=>x.fArgs.length-y.1) (0,0) rfl rfl ⟨Nat.zero_le _,by simp[I4]⟩ ?_
  rintro⟨i,c⟩ ⟨p1,p2⟩
  simp only at p1 p2
  simp -implicitDefEqProofs (disch:=omega) only[go_sem]
  with_reducible refine aA (fun hb=> ?_) (fun hb=> ?_)<;>have h:=hb<;>(try simp only[wf_preprocess] at h)<;>simp -implicitDefEqProofs (disch:=omega) only[go_sem,hb]<;>(repeat(with_reducible refine And.intro ?_ ?_;focus first|omega|rfl|assumption|exact⟨_,rfl,rfl⟩|(simp;omega)|(simp;done)))
  ·have hi:i<x.fArgs.length:=by omega
   have hsz':=qw hi hsz
   rw[DT hi] at p2
   have hd3:=vg x.fArgs[i]
   have hd4:=jf x.fArgs[i]
   (repeat(with_reducible refine And.intro ?_ ?_;focus first|omega|rfl|assumption|exact⟨_,rfl,rfl⟩|(simp;omega)|(simp;done)))
   refine ay (ih x.fArgs[i] (by have:=List.sizeOf_lt_of_mem (List.getElem_mem hi);omega) (by omega)) ?_
   simp -implicitDefEqProofs (disch:=omega) only[go_sem]<;>(repeat(with_reducible refine And.intro ?_ ?_;focus first|omega|rfl|assumption|exact⟨_,rfl,rfl⟩|(simp;omega)|(simp;done)))
   refine ay (MG _ _) ?_
   simp -implicitDefEqProofs (disch:=omega) only[go_sem]<;>(repeat(with_reducible refine And.intro ?_ ?_;focus first|omega|rfl|assumption|exact⟨_,rfl,rfl⟩|(simp;omega)|(simp;done)))
   rw[show max (c:Int) (1+(jB x.fArgs[i]:Int))=((max c (1+jB x.fArgs[i]):Nat):Int) by omega]
   exact bH (i+1,max c (1+jB x.fArgs[i])) (by simp only;omega) rfl rfl ⟨by simp only;omega,by simp only;omega⟩
  ·have hi:i=x.fArgs.length:=by omega
   rw[hi,List.drop_length,depths] at p2
   exact int_eq (by omega)
theorem MH(x:aj)(hsz:x.sz≤4194304):aH Tryz.prog 324 [x.v] (.c (.d (.i .i64 (jB x)))):=AY _ x (Nat.lt_succ_self _) hsz
theorem AZ:∀n:Nat,∀x:aj,SizeOf.sizeOf x<n→x.sz≤4194304→aH Tryz.prog 336 [x.v] (.c (.d (.i .i64 (jB x))))
 |0=>fun x h=>by omega
 |n+1=>by
  have ih:=AZ n
  intro x hn hsz S
  have iA:=aj.fA x
  have hts:=yj hsz
  have hd1:=vg x
  have hd2:=jf x
  refine aC (rs:=[.tmp 2]) Tryz.checked.mixed Tryz.func336 Tryz.ntmps336 rfl rfl rfl rfl rfl ?_
  simp -implicitDefEqProofs (disch:=omega) only[go_sem]
  refine aV (ι:=Nat×Nat) Tryz.checked.mixed rfl [3,7,8,9] (fun y=>[.c (.d (.i .i64 y.2)),.c (.d (.sl (x.fArgs.map aj.enc))),.c (.d (.i .i64 x.fArgs.length)),.c (.d (.i .i64 y.1))]) (fun y=>[.box [.d (.i .i64 x.aG),.d (.s x.fName),.d (.sl (x.fArgs.map aj.enc))]]::S)
   (fun y=>y.1≤x.fArgs.length∧jB x=max y.2 (depths (x.fArgs.drop y.1))) (fun y=>x.fArgs.length-y.1) (0,0) rfl rfl ⟨Nat.zero_le _,by simp[I4]⟩ ?_
  rintro⟨i,c⟩ ⟨p1,p2⟩
  simp only at p1 p2
  simp -implicitDefEqProofs (disch:=omega) only[go_sem]
  with_reducible refine aA (fun hb=> ?_) (fun hb=> ?_)<;>have h:=hb<;>(try simp only[wf_preprocess] at h)<;>simp -implicitDefEqProofs (disch:=omega) only[go_sem,hb]<;>(repeat(with_reducible refine And.intro ?_ ?_;focus first|omega|rfl|assumption|exact⟨_,rfl,rfl⟩|(simp;omega)|(simp;done)))
  ·have hi:i<x.fArgs.length:=by omega
   have hsz':=qw hi hsz
   rw[DT hi] at p2
   have hd3:=vg x.fArgs[i]
   have hd4:=jf x.fArgs[i]
   (repeat(with_reducible refine And.intro ?_ ?_;focus first|omega|rfl|assumption|exact⟨_,rfl,rfl⟩|(simp;omega)|(simp;done)))
   refine ay (ih x.fArgs[i] (by have:=List.sizeOf_lt_of_mem (List.getElem_mem hi);omega) (by omega)) ?_
   simp -implicitDefEqProofs (disch:=omega) only[go_sem]<;>(repeat(with_reducible refine And.intro ?_ ?_;focus first|omega|rfl|assumption|exact⟨_,rfl,rfl⟩|(simp;omega)|(simp;done)))
   rw[show max (c:Int) ((jB x.fArgs[i]:Int)+1)=((max c (jB x.fArgs[i]+1):Nat):Int) by omega]
   exact dV 1 (by decide) (i+1,max c (jB x.fArgs[i]+1)) (by simp only;omega) rfl rfl rfl rfl ⟨by simp only;omega,by simp only;omega⟩
  ·have hi:i=x.fArgs.length:=by omega
   rw[hi,List.drop_length,depths] at p2
   exact int_eq (by omega)
theorem MI(x:aj)(hsz:x.sz≤4194304):aH Tryz.prog 336 [x.v] (.c (.d (.i .i64 (jB x)))):=AZ _ x (Nat.lt_succ_self _) hsz
theorem BN:∀n:Nat,∀x:aj,SizeOf.sizeOf x<n→x.sz≤4194304→aH Tryz.prog 337 [x.v] (.c (.d (.i .i64 x.cnt)))
 |0=>fun x h=>by omega
 |n+1=>by
  have ih:=BN n
  intro x hn hsz S
  have iA:=aj.fA x
  have hts:=yj hsz
  have hd2:=jf x
  refine aC (rs:=[.tmp 2]) Tryz.checked.mixed Tryz.func337 Tryz.ntmps337 rfl rfl rfl rfl rfl ?_
  simp -implicitDefEqProofs (disch:=omega) only[go_sem]
  refine aV (ι:=Nat×Nat) Tryz.checked.mixed rfl [3,7,8,9] (fun y=>[.c (.d (.i .i64 y.2)),.c (.d (.sl (x.fArgs.map aj.enc))),.c (.d (.i .i64 x.fArgs.length)),.c (.d (.i .i64 y.1))]) (fun y=>[.box [.d (.i .i64 x.aG),.d (.s x.fName),.d (.sl (x.fArgs.map aj.enc))]]::S)
   (fun y=>y.1≤x.fArgs.length∧x.cnt=y.2+aj.cu (x.fArgs.drop y.1)) (fun y=>x.fArgs.length-y.1) (0,1) rfl rfl ⟨Nat.zero_le _,by simp[aj.lq]⟩ ?_
  rintro⟨i,c⟩ ⟨p1,p2⟩
  simp only at p1 p2
  simp -implicitDefEqProofs (disch:=omega) only[go_sem]
  with_reducible refine aA (fun hb=> ?_) (fun hb=> ?_)<;>have h:=hb<;>(try simp only[wf_preprocess] at h)<;>simp -implicitDefEqProofs (disch:=omega) only[go_sem,hb]<;>(repeat(with_reducible refine And.intro ?_ ?_;focus first|omega|rfl|assumption|exact⟨_,rfl,rfl⟩|(simp;omega)|(simp;done)))
  ·have hi:i<x.fArgs.length:=by omega
   have hsz':=qw hi hsz
   rw[jh hi] at p2
   (repeat(with_reducible refine And.intro ?_ ?_;focus first|omega|rfl|assumption|exact⟨_,rfl,rfl⟩|(simp;omega)|(simp;done)))
   refine ay (ih x.fArgs[i] (by have:=List.sizeOf_lt_of_mem (List.getElem_mem hi);omega) (by omega)) ?_
   simp -implicitDefEqProofs (disch:=omega) only[go_sem]<;>(repeat(with_reducible refine And.intro ?_ ?_;focus first|omega|rfl|assumption|exact⟨_,rfl,rfl⟩|(simp;omega)|(simp;done)))
   rw[show(c:Int)+(x.fArgs[i].cnt:Int)=((c+x.fArgs[i].cnt:Nat):Int) by omega]
   exact dV 1 (by decide) (i+1,c+x.fArgs[i].cnt) (by simp only;omega) rfl rfl rfl rfl ⟨by simp only;omega,by simp only;omega⟩
  ·have hi:i=x.fArgs.length:=by omega
   rw[hi,List.drop_length,aj.cu] at p2
   exact int_eq (by omega)
theorem OA(x:aj)(hsz:x.sz≤4194304):aH Tryz.prog 337 [x.v] (.c (.d (.i .i64 x.cnt))):=BN _ x (Nat.lt_succ_self _) hsz
theorem BO:∀n:Nat,(∀x:aj,SizeOf.sizeOf x<n→x.sz≤4194304→aH Tryz.prog 335 [x.v] (.c (.d (.b (formed x)))))∧
 (∀xs:List aj,SizeOf.sizeOf xs<n→xs.length≤4194304→(∀t∈xs,t.sz≤4194304)→aH Tryz.prog 293 [.c (.d (.sl (xs.map aj.enc))),.c (.fn 352 [])] (.c (.d (.b (!gJ xs)))))
 |0=>⟨fun x h=>by omega,fun x h=>by omega⟩
 |n+1=>by
  obtain⟨ih,l9⟩:=BO n
  refine⟨fun x hn hsz S=> ?_,fun xs hn hlen hsz S=> ?_⟩
  ·have iA:=aj.fA x
   have hts:=yj hsz
   have fin:∀b,wz x.aG x.fName x.fArgs.length=b→formed x=(b&&gJ x.fArgs):=fun b hb=>by rw[←hb];exact u7 x
   have hall:∀t∈x.fArgs,t.sz≤4194304:=fun t ht=>by
    obtain⟨i,hi,e⟩:=List.getElem_of_mem ht
    rw[←e];exact(qw hi hsz).1
   have tail:=l9 x.fArgs (by omega) hts.1 hall
   have yes:wz x.aG x.fName x.fArgs.length=true→formed x= !(!gJ x.fArgs):=fun h=>by rw[fin _ h];simp
   have no:wz x.aG x.fName x.fArgs.length=false→formed x=false:=fun h=>by rw[fin _ h];simp
   have shut:¬((x.aG=1∨x.aG=4)∧validName x.fName=true∧x.fArgs.length=0∨x.aG=3∧validName x.fName=true∧x.fArgs.length=1∨x.aG=2∧(validName x.fName=true∧x.fArgs.length≤3∨rD x.fName=true∧x.fArgs.length=0))→V.c (.d (.b false))=V.c (.d (.b (formed x))):=fun h=>aJ (no (aQ h)).symm
   have open_:((x.aG=1∨x.aG=4)∧validName x.fName=true∧x.fArgs.length=0∨x.aG=3∧validName x.fName=true∧x.fArgs.length=1∨x.aG=2∧(validName x.fName=true∧x.fArgs.length≤3∨rD x.fName=true∧x.fArgs.length=0))→V.c (.d (.b (!(!gJ x.fArgs))))=V.c (.d (.b (formed x))):=fun h=>aJ (yes (bR h)).symm
   clear yes no fin
   refine aC (rs:=[.tmp 2]) Tryz.checked.mixed Tryz.func335 Tryz.ntmps335 rfl rfl rfl rfl rfl ?_
   simp -implicitDefEqProofs (disch:=omega) only[go_sem]
   repeat' (first
    |(with_reducible refine aA (fun hb=> ?_) (fun hb=> ?_)<;>have h:=hb<;>(try simp only[wf_preprocess] at h)<;>simp -implicitDefEqProofs (disch:=omega) only[go_sem,hb]<;>(repeat(with_reducible refine And.intro ?_ ?_;focus first|omega|rfl|assumption|exact⟨_,rfl,rfl⟩|(simp;omega)|(simp;done))))
    |(refine ay (iY x.fName (by omega)) ?_;simp -implicitDefEqProofs (disch:=omega) only[go_sem])
    |(refine ay (ME x.fName) ?_;simp -implicitDefEqProofs (disch:=omega) only[go_sem])
    |(refine ay tail ?_;simp -implicitDefEqProofs (disch:=omega) only[go_sem]))
   all_goals first
    |(refine shut (fun y=> ?_);rcases y with⟨_,_,_⟩|⟨_,_,_⟩|⟨_,⟨_,_⟩|⟨_,_⟩⟩<;>first|omega|(simp_all;done))
    |(refine open_ ?_;first
       |exact .inl ⟨by omega,by assumption,by omega⟩
       |exact .inr (.inl ⟨by omega,by assumption,by omega⟩)
       |exact .inr (.inr ⟨by omega,.inl ⟨by assumption,by omega⟩⟩)
       |exact .inr (.inr ⟨by omega,.inr ⟨by assumption,by omega⟩⟩))
  ·have hcl:∀y∈xs,aH Tryz.prog 352 [y.v] (.c (.d (.b (!formed y)))):=fun y hy S=>by
    have hys:=List.sizeOf_lt_of_mem hy
    refine aC (rs:=[.tmp 2]) Tryz.checked.mixed Tryz.func352 Tryz.ntmps352 rfl rfl rfl rfl rfl ?_
    simp -implicitDefEqProofs (disch:=omega) only[go_sem]
    refine ay (ih y (by omega) (hsz y hy)) ?_
    simp -implicitDefEqProofs (disch:=omega) only[go_sem]<;>(repeat(with_reducible refine And.intro ?_ ?_;focus first|omega|rfl|assumption|exact⟨_,rfl,rfl⟩|(simp;omega)|(simp;done)))
   have hidx:aH Tryz.prog 334 [.c (.d (.sl (xs.map aj.enc))),.c (.fn 352 [])] (.c (.d (.i .i64 (nI (fun y=> !formed y) xs)))):=fun S=>by
    refine aC (rs:=[.tmp 4]) Tryz.checked.mixed Tryz.func334 Tryz.ntmps334 rfl rfl rfl rfl rfl ?_
    simp -implicitDefEqProofs (disch:=omega) only[go_sem]
    refine aV (ι:=Nat) Tryz.checked.mixed rfl [0,1,7,8] (fun i=>[.c (.d (.sl (xs.map aj.enc))),.c (.fn 352 []),.c (.d (.i .i64 xs.length)),.c (.d (.i .i64 i))]) (fun _=>[]::S)
     (fun i=>i≤xs.length∧∀j,∀hj:j<xs.length,j<i→formed xs[j]=true) (fun i=>xs.length-i) 0 rfl rfl ⟨Nat.zero_le _,fun j _ h=>by omega⟩ ?_
    rintro i ⟨p1,p2⟩
    simp -implicitDefEqProofs (disch:=omega) only[go_sem]
    with_reducible refine aA (fun hb=> ?_) (fun hb=> ?_)<;>have h:=hb<;>(try simp only[wf_preprocess] at h)<;>simp -implicitDefEqProofs (disch:=omega) only[go_sem,hb]<;>(repeat(with_reducible refine And.intro ?_ ?_;focus first|omega|rfl|assumption|exact⟨_,rfl,rfl⟩|(simp;omega)|(simp;done)))
    ·have hi:i<xs.length:=by omega
     (repeat(with_reducible refine And.intro ?_ ?_;focus first|omega|rfl|assumption|exact⟨_,rfl,rfl⟩|(simp;omega)|(simp;done)))
     refine ay (hcl xs[i] (List.getElem_mem hi)) ?_
     simp -implicitDefEqProofs (disch:=omega) only[go_sem]<;>(repeat(with_reducible refine And.intro ?_ ?_;focus first|omega|rfl|assumption|exact⟨_,rfl,rfl⟩|(simp;omega)|(simp;done)))
     with_reducible refine aA (fun hb=> ?_) (fun hb=> ?_)<;>have h:=hb<;>(try simp only[wf_preprocess] at h)<;>simp -implicitDefEqProofs (disch:=omega) only[go_sem,hb]<;>(repeat(with_reducible refine And.intro ?_ ?_;focus first|omega|rfl|assumption|exact⟨_,rfl,rfl⟩|(simp;omega)|(simp;done)))
     ·rw[mY hi (fun j hj hji=>by rw[p2 j hj hji];rfl) (by rw[h];rfl)]
     ·refine bH (i+1) (by omega) rfl rfl ⟨by omega,fun j hj hji=> ?_⟩
      by_cases e:j=i
      ·subst e;exact h
      ·exact p2 j hj (by omega)
    ·rw[p9 (fun j hj=>by rw[p2 j hj (by omega)];rfl)]
   refine aC (rs:=[.tmp 4]) Tryz.checked.mixed Tryz.func293 Tryz.ntmps293 rfl rfl rfl rfl rfl ?_
   simp -implicitDefEqProofs (disch:=omega) only[go_sem]
   refine ay (hidx) ?_
   simp -implicitDefEqProofs (disch:=omega) only[go_sem]<;>(repeat(with_reducible refine And.intro ?_ ?_;focus first|omega|rfl|assumption|exact⟨_,rfl,rfl⟩|(simp;omega)|(simp;done)))
   rw[←DC]
   exact aJ oo
theorem OB(x:aj)(hsz:x.sz≤4194304):aH Tryz.prog 335 [x.v] (.c (.d (.b (formed x)))):=(BO _).1 x (Nat.lt_succ_self _) hsz
theorem rH(x:aj)(hsz:x.sz≤4194304):aH Tryz.prog 295 [x.v] (.c (.d (.b (kI x)))):=fun S=>by
 refine aC (rs:=[.tmp 2]) Tryz.checked.mixed Tryz.func295 Tryz.ntmps295 rfl rfl rfl rfl rfl ?_
 simp -implicitDefEqProofs (disch:=omega) only[go_sem]
 refine ay (OB x hsz) ?_
 simp -implicitDefEqProofs (disch:=omega) only[go_sem]<;>(repeat(with_reducible refine And.intro ?_ ?_;focus first|omega|rfl|assumption|exact⟨_,rfl,rfl⟩|(simp;omega)|(simp;done)))
 with_reducible refine aA (fun hb=> ?_) (fun hb=> ?_)<;>have h:=hb<;>(try simp only[wf_preprocess] at h)<;>simp -implicitDefEqProofs (disch:=omega) only[go_sem,hb]<;>(repeat(with_reducible refine And.intro ?_ ?_;focus first|omega|rfl|assumption|exact⟨_,rfl,rfl⟩|(simp;omega)|(simp;done)))
 ·have h1:=h
  refine ay (MI x hsz) ?_
  simp -implicitDefEqProofs (disch:=omega) only[go_sem]<;>(repeat(with_reducible refine And.intro ?_ ?_;focus first|omega|rfl|assumption|exact⟨_,rfl,rfl⟩|(simp;omega)|(simp;done)))
  with_reducible refine aA (fun hb=> ?_) (fun hb=> ?_)<;>have h:=hb<;>(try simp only[wf_preprocess] at h)<;>simp -implicitDefEqProofs (disch:=omega) only[go_sem,hb]<;>(repeat(with_reducible refine And.intro ?_ ?_;focus first|omega|rfl|assumption|exact⟨_,rfl,rfl⟩|(simp;omega)|(simp;done)))
  ·refine ay (OA x hsz) ?_
   simp -implicitDefEqProofs (disch:=omega) only[go_sem]<;>(repeat(with_reducible refine And.intro ?_ ?_;focus first|omega|rfl|assumption|exact⟨_,rfl,rfl⟩|(simp;omega)|(simp;done)))
   exact aJ (by rw[j6];exact kF ⟨fun y=>⟨h1,by omega,by omega⟩,fun y=>by have:=y.2.2;omega⟩)
  ·exact aJ (aQ fun y=>by have:=y.2.1;omega).symm
 ·exact aJ (aQ fun y=>by rw[y.1] at h;cases h).symm
set_option maxHeartbeats 1000000 in
theorem FW:∀n:Nat,∀x:aj,SizeOf.sizeOf x<n→x.sz≤4194304→aH Tryz.prog 325 [x.v] (.c (.d (.b (formed x))))
 |0=>fun x h=>by omega
 |n+1=>by
  have ih:=FW n
  intro x hn hsz S
  have iA:=aj.fA x
  have hts:=yj hsz
  have shut:¬((x.aG=1∨x.aG=4)∧validName x.fName=true∧x.fArgs.length=0∨x.aG=3∧validName x.fName=true∧x.fArgs.length=1∨x.aG=2∧(validName x.fName=true∧x.fArgs.length≤3∨rD x.fName=true∧x.fArgs.length=0))→V.c (.d (.b false))=V.c (.d (.b (formed x))):=fun h=>aJ (by rw[u7,show wz x.aG x.fName x.fArgs.length=false from aQ h];rfl)
  have ad2:∀b:Bool,(b=true↔((x.aG=1∨x.aG=4)∧validName x.fName=true∧x.fArgs.length=0∨x.aG=3∧validName x.fName=true∧x.fArgs.length=1∨x.aG=2∧(validName x.fName=true∧x.fArgs.length≤3∨rD x.fName=true∧x.fArgs.length=0)))→b=wz x.aG x.fName x.fArgs.length:=fun b h=>by
   rw[Bool.eq_iff_iff,h]
   unfold wz
   rw[uM]
  refine aC (rs:=[.tmp 2]) Tryz.checked.mixed Tryz.func325 Tryz.ntmps325 rfl rfl rfl rfl rfl ?_
  simp -implicitDefEqProofs (disch:=omega) only[go_sem]
  refine ay (iZ x.fName (by omega)) ?_
  simp -implicitDefEqProofs (disch:=omega) only[go_sem]<;>(repeat(with_reducible refine And.intro ?_ ?_;focus first|omega|rfl|assumption|exact⟨_,rfl,rfl⟩|(simp;omega)|(simp;done)))
  repeat' (first
   |(with_reducible refine aA (fun hb=> ?_) (fun hb=> ?_)<;>have h:=hb<;>(try simp only[wf_preprocess] at h)<;>simp -implicitDefEqProofs (disch:=omega) only[go_sem,hb]<;>(repeat(with_reducible refine And.intro ?_ ?_;focus first|omega|rfl|assumption|exact⟨_,rfl,rfl⟩|(simp;omega)|(simp;done))))
   |(refine ay (UQ x.fName) ?_;simp -implicitDefEqProofs (disch:=omega) only[go_sem]))
  all_goals first
   |(refine shut (fun y=> ?_);rcases y with⟨_,_,_⟩|⟨_,_,_⟩|⟨_,⟨_,_⟩|⟨_,_⟩⟩<;>first|omega|(simp_all;done))
   |skip
  all_goals
   refine aV (ι:=Nat×Bool) Tryz.checked.mixed rfl [1,3,4] (fun y=>[.c (.ptr (0,0) 0),.c (.d (.b y.2)),.c (.d (.i .i64 y.1))]) (fun y=>[.box [.d (.i .i64 x.aG),.d (.s x.fName),.d (.sl (x.fArgs.map aj.enc))]]::S)
    (fun y=>y.1≤x.fArgs.length∧(y.2&&gJ (x.fArgs.drop y.1))=formed x) (fun y=>x.fArgs.length-y.1) (0,wz x.aG x.fName x.fArgs.length) ?_ rfl ⟨Nat.zero_le _,by rw[u7];rfl⟩ ?_
   ·simp only[List.map_cons,List.map_nil]
    simp -implicitDefEqProofs (disch:=omega) only[go_sem,List.cons.injEq,V.c.injEq,C.d.injEq,D.b.injEq,Int.natCast_zero]
    refine ad2 _ ⟨fun y=> ?_,fun y=> ?_⟩
    ·(try simp only[decide_eq_true_eq,Bool.false_eq_true] at y)<;>first
       |exact .inl ⟨by omega,by assumption,by omega⟩
       |exact .inr (.inl ⟨by omega,by assumption,by omega⟩)
       |exact .inr (.inr ⟨by omega,.inl ⟨by assumption,by omega⟩⟩)
       |exact .inr (.inr ⟨by omega,.inr ⟨by assumption,by omega⟩⟩)
    ·rcases y with⟨_,_,_⟩|⟨_,_,_⟩|⟨_,⟨_,_⟩|⟨_,_⟩⟩<;>first|omega|(simp only[decide_eq_true_eq];omega)|(simp_all;done)
   rintro⟨i,c⟩ ⟨p1,p2⟩
   simp only at p1 p2
   simp -implicitDefEqProofs (disch:=omega) only[go_sem]
   with_reducible refine aA (fun hb=> ?_) (fun hb=> ?_)<;>have h:=hb<;>(try simp only[wf_preprocess] at h)<;>simp -implicitDefEqProofs (disch:=omega) only[go_sem,hb]<;>(repeat(with_reducible refine And.intro ?_ ?_;focus first|omega|rfl|assumption|exact⟨_,rfl,rfl⟩|(simp;omega)|(simp;done)))
   ·have hi:i<x.fArgs.length:=by omega
    have hsz':=qw hi hsz
    rw[MF hi] at p2
    with_reducible refine aA (fun hb=> ?_) (fun hb=> ?_)<;>have h:=hb<;>(try simp only[wf_preprocess] at h)<;>simp -implicitDefEqProofs (disch:=omega) only[go_sem,hb]<;>(repeat(with_reducible refine And.intro ?_ ?_;focus first|omega|rfl|assumption|exact⟨_,rfl,rfl⟩|(simp;omega)|(simp;done)))
    ·refine ay (ih x.fArgs[i] (by have:=List.sizeOf_lt_of_mem (List.getElem_mem hi);omega) (by omega)) ?_
     simp -implicitDefEqProofs (disch:=omega) only[go_sem]
     exact bH (i+1,formed x.fArgs[i]) (by simp only;omega) rfl rfl ⟨by simp only;omega,by rw[←p2,h];rfl⟩
    ·exact bH (i+1,false) (by simp only;omega) rfl rfl ⟨by simp only;omega,by rw[←p2,h];rfl⟩
   ·have hi:i=x.fArgs.length:=by omega
    rw[hi,List.drop_length,gJ,Bool.and_true] at p2
    rw[p2]
theorem UU(x:aj)(hsz:x.sz≤4194304):aH Tryz.prog 325 [x.v] (.c (.d (.b (formed x)))):=FW _ x (Nat.lt_succ_self _) hsz
theorem rJ(x:aj)(hsz:x.sz≤4194304):aH Tryz.prog 280 [x.v] (.c (.d (.b (kI x)))):=fun S=>by
 refine aC (rs:=[.tmp 2]) Tryz.checked.mixed Tryz.func280 Tryz.ntmps280 rfl rfl rfl rfl rfl ?_
 simp -implicitDefEqProofs (disch:=omega) only[go_sem]
 refine ay (UR x 60 (by omega) (by omega) hsz) ?_
 simp -implicitDefEqProofs (disch:=omega) only[go_sem]<;>(repeat(with_reducible refine And.intro ?_ ?_;focus first|omega|rfl|assumption|exact⟨_,rfl,rfl⟩|(simp;omega)|(simp;done)))
 with_reducible refine aA (fun hb=> ?_) (fun hb=> ?_)<;>have h:=hb<;>(try simp only[wf_preprocess] at h)<;>simp -implicitDefEqProofs (disch:=omega) only[go_sem,hb]<;>(repeat(with_reducible refine And.intro ?_ ?_;focus first|omega|rfl|assumption|exact⟨_,rfl,rfl⟩|(simp;omega)|(simp;done)))
 ·have h1:=(uh (l:=60) (a:=x.cnt) (by omega)).2
  refine ay (MH x hsz) ?_
  simp -implicitDefEqProofs (disch:=omega) only[go_sem]<;>(repeat(with_reducible refine And.intro ?_ ?_;focus first|omega|rfl|assumption|exact⟨_,rfl,rfl⟩|(simp;omega)|(simp;done)))
  with_reducible refine aA (fun hb=> ?_) (fun hb=> ?_)<;>have h:=hb<;>(try simp only[wf_preprocess] at h)<;>simp -implicitDefEqProofs (disch:=omega) only[go_sem,hb]<;>(repeat(with_reducible refine And.intro ?_ ?_;focus first|omega|rfl|assumption|exact⟨_,rfl,rfl⟩|(simp;omega)|(simp;done)))
  ·refine ay (UU x hsz) ?_
   simp -implicitDefEqProofs (disch:=omega) only[go_sem]<;>(repeat(with_reducible refine And.intro ?_ ?_;focus first|omega|rfl|assumption|exact⟨_,rfl,rfl⟩|(simp;omega)|(simp;done)))
   refine aJ ?_
   cases hf:formed x with
   |false=>exact(aQ fun y=>by rw[hf] at y;cases y.1).symm
   |true=>exact(bR ⟨hf,by omega,by omega⟩).symm
  ·exact aJ (aQ fun y=>by have:=y.2.1;omega).symm
 ·have h1:=uj (l:=60) (a:=x.cnt) (by omega)
  exact aJ (aQ fun y=>by have:=y.2.2;omega).symm
theorem Di(x:aN)(hn:x.aY.length≤1073741824)(hsz:x.fType.sz≤4194304):aH Tryz.prog 309 [x.v] (.c (.d (.b (validName x.aY&&kI x.fType)))):=fun S=>by
 refine aC (rs:=[.tmp 2]) Tryz.checked.mixed Tryz.func309 Tryz.ntmps309 rfl rfl rfl rfl rfl ?_
 simp -implicitDefEqProofs (disch:=omega) only[go_sem]
 refine ay (iZ x.aY hn) ?_
 simp -implicitDefEqProofs (disch:=omega) only[go_sem]<;>(repeat(with_reducible refine And.intro ?_ ?_;focus first|omega|rfl|assumption|exact⟨_,rfl,rfl⟩|(simp;omega)|(simp;done)))
 with_reducible refine aA (fun hb=> ?_) (fun hb=> ?_)<;>have h:=hb<;>(try simp only[wf_preprocess] at h)<;>simp -implicitDefEqProofs (disch:=omega) only[go_sem,hb]<;>(repeat(with_reducible refine And.intro ?_ ?_;focus first|omega|rfl|assumption|exact⟨_,rfl,rfl⟩|(simp;omega)|(simp;done)))
 ·refine ay (rJ x.fType hsz) ?_
  simp -implicitDefEqProofs (disch:=omega) only[go_sem]<;>(repeat(with_reducible refine And.intro ?_ ?_;focus first|omega|rfl|assumption|exact⟨_,rfl,rfl⟩|(simp;omega)|(simp;done)))
 ·rfl
theorem Dj(x:aN)(hn:x.aY.length≤1073741824)(hsz:x.fType.sz≤4194304):aH Tryz.prog 292 [x.v] (.c (.d (.b (validName x.aY&&kI x.fType)))):=fun S=>by
 refine aC (rs:=[.tmp 2]) Tryz.checked.mixed Tryz.func292 Tryz.ntmps292 rfl rfl rfl rfl rfl ?_
 simp -implicitDefEqProofs (disch:=omega) only[go_sem]
 refine ay (iY x.aY hn) ?_
 simp -implicitDefEqProofs (disch:=omega) only[go_sem]<;>(repeat(with_reducible refine And.intro ?_ ?_;focus first|omega|rfl|assumption|exact⟨_,rfl,rfl⟩|(simp;omega)|(simp;done)))
 with_reducible refine aA (fun hb=> ?_) (fun hb=> ?_)<;>have h:=hb<;>(try simp only[wf_preprocess] at h)<;>simp -implicitDefEqProofs (disch:=omega) only[go_sem,hb]<;>(repeat(with_reducible refine And.intro ?_ ?_;focus first|omega|rfl|assumption|exact⟨_,rfl,rfl⟩|(simp;omega)|(simp;done)))
 ·refine ay (rH x.fType hsz) ?_
  simp -implicitDefEqProofs (disch:=omega) only[go_sem]<;>(repeat(with_reducible refine And.intro ?_ ?_;focus first|omega|rfl|assumption|exact⟨_,rfl,rfl⟩|(simp;omega)|(simp;done)))
 ·rfl
end Go.Proofs.YtlmhknhlmicmeaaGreatDoor
namespace Go.Ab
mutual
def au.cnt:au→Nat
 | .mk _ _ _ _ _ a b=>1+(au.cu a+aF.cu b)
def au.cu:List au→Nat
 |[]=>0
 |x::xs=>x.cnt+au.cu xs
def aF.cnt:aF→Nat
 | .mk _ _ b=>b.cnt
def aF.cu:List aF→Nat
 |[]=>0
 |x::xs=>x.cnt+aF.cu xs
end
theorem au.lq(x:au):x.cnt=1+(au.cu x.fArgs+aF.cu x.aI):=by cases x;rw[au.cnt];rfl
theorem aF.lq(x:aF):x.cnt=x.fBody.cnt:=by cases x;rw[aF.cnt];rfl
theorem au.jh{xs:List au}{i:Nat}(hi:i<xs.length):au.cu (xs.drop i)=xs[i].cnt+au.cu (xs.drop (i+1)):=by rw[List.drop_eq_getElem_cons hi,au.cu]
theorem aF.jh{xs:List aF}{i:Nat}(hi:i<xs.length):aF.cu (xs.drop i)=xs[i].fBody.cnt+aF.cu (xs.drop (i+1)):=by rw[List.drop_eq_getElem_cons hi,aF.cu,aF.lq]
theorem au.xD(x:au):x.fArgs.length+bG (x.fArgs.map au.enc)≤x.sz∧x.aI.length+bG (x.aI.map aF.enc)≤x.sz:=by
 simp only[au.sz,au.aD,bM,bN,D.sz,List.length_map]
 omega
theorem aF.Ib(x:aF):x.fBody.sz≤x.sz:=by
 simp only[aF.sz,aF.aD,au.sz,bM,bN,D.sz,List.length_map]
 omega
mutual
theorem au.jf:∀x:au,x.cnt≤1+x.sz
 | .mk k t n m ty a b=>by
   have h1:=au.rY a
   have h2:=aF.rY b
   rw[au.cnt]
   simp only[au.sz,au.aD,bM,bN,D.sz,List.length_map,au.fArgs,au.aI]
   omega
theorem au.rY:∀xs:List au,au.cu xs≤xs.length+bG (xs.map au.enc)
 |[]=>by simp[au.cu]
 |x::xs=>by
  have h1:=au.jf x
  have h2:=au.rY xs
  rw[au.cu,List.length_cons,List.map_cons,bG,au.dB]
  omega
theorem aF.jf:∀x:aF,x.cnt≤1+x.sz
 | .mk c v b=>by
   have h1:=au.jf b
   have h2:=aF.Ib (.mk c v b)
   rw[aF.cnt]
   simp only[aF.fBody] at h2
   omega
theorem aF.rY:∀xs:List aF,aF.cu xs≤xs.length+bG (xs.map aF.enc)
 |[]=>by simp[aF.cu]
 |x::xs=>by
  have h1:=aF.jf x
  have h2:=aF.rY xs
  rw[aF.cu,List.length_cons,List.map_cons,bG,aF.dB]
  omega
end
end Go.Ab
namespace Go.Proofs.YtlmhknhlmicmeaaGreatDoor
open Go Go.Ab
theorem xE:∀n:Nat,∀x:au,SizeOf.sizeOf x<n→x.sz≤4194304→aH Tryz.prog 210 [x.v] (.c (.d (.i .i64 x.cnt)))
 |0=>fun x h=>by omega
 |n+1=>by
  have ih:=xE n
  intro x hn hsz S
  have iA:=au.fA x
  have yh:=au.lN x
  have hp:=au.xD x
  have hc:=au.jf x
  have he:=au.lq x
  refine aC (rs:=[.tmp 2]) Tryz.checked.mixed Tryz.func210 Tryz.ntmps210 rfl rfl rfl rfl rfl ?_
  simp -implicitDefEqProofs (disch:=omega) only[go_sem]
  refine aV (ι:=Nat×Nat) Tryz.checked.mixed rfl [1,3,9,10,11] (fun y=>[.c (.ptr (0,0) 0),.c (.d (.i .i64 y.2)),.c (.d (.sl (x.fArgs.map au.enc))),.c (.d (.i .i64 x.fArgs.length)),.c (.d (.i .i64 y.1))]) (fun y=>[.box (x.enc.map .d)]::S)
   (fun y=>y.1≤x.fArgs.length∧x.cnt=y.2+au.cu (x.fArgs.drop y.1)+aF.cu x.aI) (fun y=>x.fArgs.length-y.1) (0,1) rfl ?_ ⟨Nat.zero_le _,by simp only[List.drop_zero];omega⟩ ?_
  ·simp -implicitDefEqProofs (disch:=omega) only[go_sem]
  rintro⟨i,c⟩ ⟨p1,p2⟩
  simp only at p1 p2
  simp -implicitDefEqProofs (disch:=omega) only[go_sem]
  with_reducible refine aA (fun hb=> ?_) (fun hb=> ?_)<;>have h:=hb<;>(try simp only[wf_preprocess] at h)<;>simp -implicitDefEqProofs (disch:=omega) only[go_sem,hb]<;>(repeat(with_reducible refine And.intro ?_ ?_;focus first|omega|rfl|assumption|exact⟨_,rfl,rfl⟩|(simp;omega)|(simp;done)))
  ·have hi:i<x.fArgs.length:=by omega
   have hx:x.fArgs[i].sz≤bG (x.fArgs.map au.enc):=dY (List.mem_map_of_mem (List.getElem_mem hi))
   rw[au.jh hi] at p2
   (repeat(with_reducible refine And.intro ?_ ?_;focus first|omega|rfl|assumption|exact⟨_,rfl,rfl⟩|(simp;omega)|(simp;done)))
   refine ay (ih x.fArgs[i] (by have:=List.sizeOf_lt_of_mem (List.getElem_mem hi);omega) (by omega)) ?_
   simp -implicitDefEqProofs (disch:=omega) only[go_sem]<;>(repeat(with_reducible refine And.intro ?_ ?_;focus first|omega|rfl|assumption|exact⟨_,rfl,rfl⟩|(simp;omega)|(simp;done)))
   rw[show(c:Int)+(x.fArgs[i].cnt:Int)=((c+x.fArgs[i].cnt:Nat):Int) by omega]
   exact dV 1 (by decide) (i+1,c+x.fArgs[i].cnt) (by simp only;omega) rfl rfl rfl rfl ⟨by simp only;omega,by simp only;omega⟩
  have hi:i=x.fArgs.length:=by omega
  rw[hi,List.drop_length,au.cu] at p2
  refine aV (ι:=Nat×Nat) Tryz.checked.mixed rfl [3,21,22,23] (fun y=>[.c (.d (.i .i64 y.2)),.c (.d (.sl (x.aI.map aF.enc))),.c (.d (.i .i64 x.aI.length)),.c (.d (.i .i64 y.1))]) (fun y=>[.box (x.enc.map .d)]::S)
   (fun y=>y.1≤x.aI.length∧x.cnt=y.2+aF.cu (x.aI.drop y.1)) (fun y=>x.aI.length-y.1) (0,c) rfl ?_ ⟨Nat.zero_le _,by simp only[List.drop_zero];omega⟩ ?_
  ·simp -implicitDefEqProofs (disch:=omega) only[go_sem]
  clear p1 p2 hb h hi i
  rintro⟨i,d⟩ ⟨p1,p2⟩
  simp only at p1 p2
  simp -implicitDefEqProofs (disch:=omega) only[go_sem]
  with_reducible refine aA (fun hb=> ?_) (fun hb=> ?_)<;>have h:=hb<;>(try simp only[wf_preprocess] at h)<;>simp -implicitDefEqProofs (disch:=omega) only[go_sem,hb]<;>(repeat(with_reducible refine And.intro ?_ ?_;focus first|omega|rfl|assumption|exact⟨_,rfl,rfl⟩|(simp;omega)|(simp;done)))
  ·have hi:i<x.aI.length:=by omega
   have hx:x.aI[i].sz≤bG (x.aI.map aF.enc):=dY (List.mem_map_of_mem (List.getElem_mem hi))
   have hy:=aF.Ib x.aI[i]
   have hs:=List.sizeOf_lt_of_mem (List.getElem_mem hi)
   have hs':=aF.kS x.aI[i]
   rw[aF.jh hi] at p2
   (repeat(with_reducible refine And.intro ?_ ?_;focus first|omega|rfl|assumption|exact⟨_,rfl,rfl⟩|(simp;omega)|(simp;done)))
   refine ay (ih x.aI[i].fBody (by omega) (by omega)) ?_
   simp -implicitDefEqProofs (disch:=omega) only[go_sem]<;>(repeat(with_reducible refine And.intro ?_ ?_;focus first|omega|rfl|assumption|exact⟨_,rfl,rfl⟩|(simp;omega)|(simp;done)))
   rw[show(d:Int)+(x.aI[i].fBody.cnt:Int)=((d+x.aI[i].fBody.cnt:Nat):Int) by omega]
   exact dV 1 (by decide) (i+1,d+x.aI[i].fBody.cnt) (by simp only;omega) rfl rfl rfl rfl ⟨by simp only;omega,by simp only;omega⟩
  ·have hi:i=x.aI.length:=by omega
   rw[hi,List.drop_length,aF.cu] at p2
   exact int_eq (by omega)
theorem FX(x:au)(hsz:x.sz≤4194304):aH Tryz.prog 210 [x.v] (.c (.d (.i .i64 x.cnt))):=xE _ x (Nat.lt_succ_self _) hsz
end Go.Proofs.YtlmhknhlmicmeaaGreatDoor
namespace Go.Ab
mutual
def lZ:aj→List aj
 | .mk k n a=>.mk k n a::lC a
def lC:List aj→List aj
 |[]=>[]
 |t::ts=>lZ t++lC ts
end
theorem yt(t:aj):lZ t=t::lC t.fArgs:=by cases t;rw[lZ];rfl
theorem yQ{ts:List aj}{i:Nat}(hi:i<ts.length):lC (ts.drop i)=lZ ts[i]++lC (ts.drop (i+1)):=by rw[List.drop_eq_getElem_cons hi,lC]
mutual
theorem Jf:∀t:aj,(lZ t).length=t.cnt
 | .mk k n a=>by rw[lZ,List.length_cons,aj.cnt,FY a];omega
theorem FY:∀ts:List aj,(lC ts).length=aj.cu ts
 |[]=>rfl
 |t::ts=>by rw[lC,List.length_append,aj.cu,Jf t,FY ts]
end
def rM(out:List (List UInt8))(u:aj):List (List UInt8):=if u.aG=1∧u.fName∉out then out++[u.fName] else out
def jD(out:List (List UInt8))(t:aj):List (List UInt8):=(lZ t).foldl rM out
def oD(out:List (List UInt8))(ts:List aj):List (List UInt8):=(lC ts).foldl rM out
theorem Er(out:List (List UInt8))(u:aj):(rM out u).length≤out.length+1:=by
 unfold rM
 split<;>simp
theorem Jg:∀(us:List aj) (out:List (List UInt8)),(us.foldl rM out).length≤out.length+us.length
 |[],out=>by simp
 |u::us,out=>by
  have h1:=Er out u
  have h2:=Jg us (rM out u)
  rw[List.foldl_cons,List.length_cons]
  omega
theorem vv(t:aj)(out:List (List UInt8)):(jD out t).length≤out.length+t.cnt:=by
 have:=Jg (lZ t) out
 rw[Jf] at this
 exact this
theorem XW(out:List (List UInt8))(t:aj):jD out t=oD (rM out t) t.fArgs:=by
 unfold jD oD
 rw[yt,List.foldl_cons]
theorem DU{ts:List aj}{i:Nat}(hi:i<ts.length)(out:List (List UInt8)):oD out (ts.drop i)=oD (jD out ts[i]) (ts.drop (i+1)):=by
 unfold oD jD
 rw[yQ hi,List.foldl_append]
def sD(t:aj):Bool:=(lZ t).any fun u=>decide (u.aG=3)
def qx(ts:List aj):Bool:=(lC ts).any fun u=>decide (u.aG=3)
theorem FZ(t:aj):sD t=(decide (t.aG=3)||qx t.fArgs):=by
 unfold sD qx
 rw[yt,List.any_cons]
theorem JV{ts:List aj}{i:Nat}(hi:i<ts.length):qx (ts.drop i)=(sD ts[i]||qx (ts.drop (i+1))):=by
 unfold qx sD
 rw[yQ hi,List.any_append]
theorem MJ(us:List aj):∀b:Bool,us.foldl (fun b u=>b||decide (u.aG=3)) b=(b||us.any fun u=>decide (u.aG=3)):=by
 induction us with
 |nil=>intro b;simp
 |cons u us ih=>intro b;rw[List.foldl_cons,ih,List.any_cons,Bool.or_assoc]
end Go.Ab
namespace Go.Proofs.YtlmhknhlmicmeaaGreatDoor
open Go Go.Ab
theorem zn{x:aj}{i:Nat}(hi:i<x.fArgs.length)(h:x.sz≤4194304):x.fArgs[i].sz≤4194304∧x.fArgs.length≤4194304∧x.fName.length≤4194304:=by
 have hx:x.fArgs[i].sz≤bG (x.fArgs.map aj.enc):=dY (List.mem_map_of_mem (List.getElem_mem hi))
 simp only[aj.sz,aj.aD,bM,D.sz,List.length_map] at h
 omega
theorem F3{x:aj}(h:x.sz≤4194304):x.fArgs.length≤4194304∧x.fName.length≤4194304:=by
 simp only[aj.sz,aj.aD,bM,D.sz,List.length_map] at h
 omega
theorem BP:∀n:Nat,∀t:aj,SizeOf.sizeOf t<n→t.sz≤4194304→∀(g:Nat) (caps:List (Key×Nat)) (α:Type) (st:α→Store) (I:Nat→α→Prop) (f:α→aj→α) (hf:zZ Tryz.prog g caps st I f aj.v (fun u=>u.sz≤4194304)) (m:Nat) (a:α),I (m+t.cnt) a→
 I m ((lZ t).foldl f a)∧bA Tryz.prog 298 [t.v,.c (.fn g caps)] (st a) (fun r S'=>r=.dS []∧S'=st ((lZ t).foldl f a))
 |0=>fun t h=>by omega
 |n+1=>by
  have ih:=BP n
  intro t hn hsz g caps α st I f hf m a ha
  have iA:=aj.fA t
  have hts:=F3 hsz
  rw[aj.lq,show m+(1+aj.cu t.fArgs)=(m+aj.cu t.fArgs)+1 by omega] at ha
  have h1:=hf _ a t ha hsz
  have hI:∀(ts:List aj),SizeOf.sizeOf ts<n→(∀x∈ts,x.sz≤4194304)→∀a,I (m+aj.cu ts) a→I m ((lC ts).foldl f a):=by
   intro ts
   induction ts with
   |nil=>intro _ _ a ha;exact ha
   |cons x xs ihx=>
    intro hs hz a ha
    simp only[List.cons.sizeOf_spec] at hs
    rw[lC,List.foldl_append]
    rw[aj.cu,show m+(x.cnt+aj.cu xs)=(m+aj.cu xs)+x.cnt by omega] at ha
    exact ihx (by omega) (fun y hy=>hz y (by simp[hy])) _ (ih x (by omega) (hz x (by simp)) g caps α st I f hf _ a ha).1
  have hall:∀x∈t.fArgs,x.sz≤4194304:=fun x hx=>by
   obtain⟨i,hi,e⟩:=List.getElem_of_mem hx
   rw[←e];exact(zn hi hsz).1
  refine⟨by rw[yt,List.foldl_cons];exact hI t.fArgs (by omega) hall _ h1.1,?_⟩
  refine aC (rs:=[]) Tryz.checked.mixed Tryz.func298 Tryz.ntmps298 rfl rfl rfl rfl rfl ?_
  simp -implicitDefEqProofs (disch:=omega) only[go_sem]
  refine bf rfl (h1.2 [_]) ?_
  simp -implicitDefEqProofs (disch:=omega) only[go_sem]
  refine aV (ι:=Nat×α) Tryz.checked.mixed rfl [1,10,11,12] (fun y=>[.c (.fn g (gq 1 caps)),.c (.d (.sl (t.fArgs.map aj.enc))),.c (.d (.i .i64 t.fArgs.length)),.c (.d (.i .i64 y.1))]) (fun y=>[.box [.d (.i .i64 t.aG),.d (.s t.fName),.d (.sl (t.fArgs.map aj.enc))]]::st y.2)
   (fun y=>y.1≤t.fArgs.length∧I (m+aj.cu (t.fArgs.drop y.1)) y.2∧(lC (t.fArgs.drop y.1)).foldl f y.2=(lZ t).foldl f a) (fun y=>t.fArgs.length-y.1) (0,f a t) rfl rfl ⟨Nat.zero_le _,h1.1,by rw[yt,List.foldl_cons];rfl⟩ ?_
  rintro⟨i,b⟩ ⟨p1,p2,p3⟩
  simp only at p1 p2 p3
  simp -implicitDefEqProofs (disch:=omega) only[go_sem]
  with_reducible refine aA (fun hb=> ?_) (fun hb=> ?_)<;>have h:=hb<;>(try simp only[wf_preprocess] at h)<;>simp -implicitDefEqProofs (disch:=omega) only[go_sem,hb]<;>(repeat(with_reducible refine And.intro ?_ ?_;focus first|omega|rfl|assumption|exact⟨_,rfl,rfl⟩|(simp;omega)|(simp;done)))
  ·have hi:i<t.fArgs.length:=by omega
   have hs:=List.sizeOf_lt_of_mem (List.getElem_mem hi)
   rw[yQ hi,List.foldl_append] at p3
   rw[List.drop_eq_getElem_cons hi,aj.cu,show m+(t.fArgs[i].cnt+aj.cu (t.fArgs.drop (i+1)))=(m+aj.cu (t.fArgs.drop (i+1)))+t.fArgs[i].cnt by omega] at p2
   have h2:=(ih t.fArgs[i] (by omega) (zn hi hsz).1 g caps α st I f hf _ b p2).1
   (repeat(with_reducible refine And.intro ?_ ?_;focus first|omega|rfl|assumption|exact⟨_,rfl,rfl⟩|(simp;omega)|(simp;done)))
   refine bf rfl (((ih t.fArgs[i] (by omega) (zn hi hsz).1 g (gq 1 caps) α (fun a=>[.box [.d (.i .i64 t.aG),.d (.s t.fName),.d (.sl (t.fArgs.map aj.enc))],.box [.d (.i .i64 t.fArgs[i].aG),.d (.s t.fArgs[i].fName),.d (.sl (t.fArgs[i].fArgs.map aj.enc))]]::st a) I f (hf.push _) _ b p2)).2) ?_
   simp -implicitDefEqProofs (disch:=omega) only[go_sem]
   exact dV 1 (by decide) (i+1,(lZ t.fArgs[i]).foldl f b) (by simp only;omega) rfl rfl (by simp only[iq,lg,List.all_cons,List.all_nil,V.refs,C.refs,LU,Bool.and_true]) rfl ⟨by simp only;omega,h2,p3⟩
  ·have hi:i=t.fArgs.length:=by omega
   rw[hi,List.drop_length,lC,List.foldl_nil] at p3
   rw[p3]
theorem DV{t:aj}(hsz:t.sz≤4194304){g:Nat}{caps:List (Key×Nat)}{α:Type}{st:α→Store}{I:Nat→α→Prop}{f:α→aj→α}(hf:zZ Tryz.prog g caps st I f aj.v (fun u=>u.sz≤4194304))(m:Nat)(a:α)(ha:I (m+t.cnt) a):
 I m ((lZ t).foldl f a)∧bA Tryz.prog 298 [t.v,.c (.fn g caps)] (st a) (fun r S'=>r=.dS []∧S'=st ((lZ t).foldl f a)):=BP _ t (Nat.lt_succ_self _) hsz g caps α st I f hf m a ha
theorem Dk(rest:List Ab.Obj)(S:Store):zZ Tryz.prog 340 [((0,0),0)] (fun out:List (List UInt8)=>(.box [.bK (0,1) (out.map encS)]:: .tok 1 (out.map encS)::rest)::S) (fun n out=>out.length+n≤1073741824) rM aj.v (fun u=>u.sz≤4194304):=by
 intro n out u hI hu
 refine⟨by have:=Er out u;omega,fun F=> ?_⟩
 have hts:=F3 hu
 refine aC (rs:=[]) Tryz.checked.mixed Tryz.func340 Tryz.ntmps340 rfl rfl rfl rfl rfl ?_
 simp -implicitDefEqProofs (disch:=omega) only[go_sem]
 with_reducible refine aA (fun hb=> ?_) (fun hb=> ?_)<;>have h:=hb<;>(try simp only[wf_preprocess] at h)<;>simp -implicitDefEqProofs (disch:=omega) only[go_sem,hb]<;>(repeat(with_reducible refine And.intro ?_ ?_;focus first|omega|rfl|assumption|exact⟨_,rfl,rfl⟩|(simp;omega)|(simp;done)))
 ·have h1:=h
  refine ay (qp out u.fName (by omega)) ?_
  simp -implicitDefEqProofs (disch:=omega) only[go_sem]<;>(repeat(with_reducible refine And.intro ?_ ?_;focus first|omega|rfl|assumption|exact⟨_,rfl,rfl⟩|(simp;omega)|(simp;done)))
  with_reducible refine aA (fun hb=> ?_) (fun hb=> ?_)<;>have h:=hb<;>(try simp only[wf_preprocess] at h)<;>simp -implicitDefEqProofs (disch:=omega) only[go_sem,hb]<;>(repeat(with_reducible refine And.intro ?_ ?_;focus first|omega|rfl|assumption|exact⟨_,rfl,rfl⟩|(simp;omega)|(simp;done)))
  ·(repeat(with_reducible refine And.intro ?_ ?_;focus first|omega|rfl|assumption|exact⟨_,rfl,rfl⟩|(simp;omega)|(simp;done)))
   have ha:rM out u=out++[u.fName]:=if_pos ⟨h1,h⟩
   rw[ha];simp[encS]
  ·have ha:rM out u=out:=if_neg fun x=>x.2 h
   rw[ha]
 ·have ha:rM out u=out:=if_neg fun x=>h x.1
  rw[ha]
theorem Ic(ts:List aj)(hl:ts.length≤4194304)(hz:∀t∈ts,t.sz≤4194304)(hc:aj.cu ts≤1073741823):aH Tryz.prog 301 [.c (.d (.sl (ts.map aj.enc)))] (.c (.d (.sl ((oD [] ts).map encS)))):=fun S=>by
 refine aC (rs:=[.tmp 2]) Tryz.checked.mixed Tryz.func301 Tryz.ntmps301 rfl rfl rfl rfl rfl ?_
 simp -implicitDefEqProofs (disch:=omega) only[go_sem]
 (repeat(with_reducible refine And.intro ?_ ?_;focus first|omega|rfl|assumption|exact⟨_,rfl,rfl⟩|(simp;omega)|(simp;done)))
 refine uZ 0 0 1 [] [.aL []] rfl rfl (by simp) ?_
 refine aV (ι:=Nat×List (List UInt8)) Tryz.checked.mixed rfl [3,7,8,9] (fun y=>[.c (.ptr (0,0) 0),.c (.d (.sl (ts.map aj.enc))),.c (.d (.i .i64 ts.length)),.c (.d (.i .i64 y.1))]) (fun y=>[.box [.bK (0,1) (y.2.map encS)],.tok 1 (y.2.map encS)]::S)
  (fun y=>y.1≤ts.length∧y.2.length+aj.cu (ts.drop y.1)≤1073741824∧oD y.2 (ts.drop y.1)=oD [] ts) (fun y=>ts.length-y.1) (0,[]) rfl rfl ⟨Nat.zero_le _,by simp only[List.drop_zero,List.length_nil];omega,rfl⟩ ?_
 rintro⟨i,out⟩ ⟨p1,p2,p3⟩
 simp only at p1 p2 p3
 simp -implicitDefEqProofs (disch:=omega) only[go_sem]
 with_reducible refine aA (fun hb=> ?_) (fun hb=> ?_)<;>have h:=hb<;>(try simp only[wf_preprocess] at h)<;>simp -implicitDefEqProofs (disch:=omega) only[go_sem,hb]<;>(repeat(with_reducible refine And.intro ?_ ?_;focus first|omega|rfl|assumption|exact⟨_,rfl,rfl⟩|(simp;omega)|(simp;done)))
 ·have hi:i<ts.length:=by omega
  rw[DU hi] at p3
  rw[List.drop_eq_getElem_cons hi,aj.cu] at p2
  have hlen:=vv ts[i] out
  (repeat(with_reducible refine And.intro ?_ ?_;focus first|omega|rfl|assumption|exact⟨_,rfl,rfl⟩|(simp;omega)|(simp;done)))
  refine bf rfl (DV (hz _ (List.getElem_mem hi)) (Dk [Ab.Obj.box [.d (.i .i64 ts[i].aG),.d (.s ts[i].fName),.d (.sl (ts[i].fArgs.map aj.enc))]] S) (aj.cu (ts.drop (i+1))) out (by omega)).2 ?_
  simp -implicitDefEqProofs (disch:=omega) only[go_sem]
  exact dV 2 (by decide) (i+1,jD out ts[i]) (by simp only;omega) rfl rfl rfl rfl ⟨by simp only;omega,by simp only;omega,p3⟩
 ·have hi:i=ts.length:=by omega
  rw[hi,List.drop_length] at p3
  rw[←p3];rfl
theorem yu(t:aj)(hsz:t.sz≤4194304):aH Tryz.prog 237 [t.v] (.c (.d (.sl ((jD [] t).map encS)))):=fun S=>by
 have hc:=jf t
 have h0:=Ic [t] (by simp) (by simpa using hsz) (by simp[aj.cu];omega)
 simp only[List.map_cons,List.map_nil,aj.aD] at h0
 refine aC (rs:=[.tmp 2]) Tryz.checked.mixed Tryz.func237 Tryz.ntmps237 rfl rfl rfl rfl rfl ?_
 simp -implicitDefEqProofs (disch:=omega) only[go_sem]
 (repeat(with_reducible refine And.intro ?_ ?_;focus first|omega|rfl|assumption|exact⟨_,rfl,rfl⟩|(simp;omega)|(simp;done)))
 refine ay h0 ?_
 simp -implicitDefEqProofs (disch:=omega) only[go_sem]
 rw[show oD [] [t]=jD [] t by simp[oD,jD,lC]]
theorem F4:∀n:Nat,∀t:aj,SizeOf.sizeOf t<n→t.sz≤4194304→∀(out:List (List UInt8)) (l j:Nat) (S:Store),aR S (l,j)=some (.tok 1 (out.map encS))→out.length+t.cnt≤1073741824→
 bA Tryz.prog 342 [t.v,.c (.bK (l,j) (out.map encS))] S (fun r S'=>r=.c (.bK (l,j) ((jD out t).map encS))∧S'=aW S (l,j) (.tok 1 ((jD out t).map encS)))
 |0=>fun t h=>by omega
 |n+1=>by
  have ih:=F4 n
  intro t hn hsz out l j S hk hc
  have iA:=aj.fA t
  have hts:=F3 hsz
  have hcn:=aj.lq t
  have F5:∀x:Ab.Obj,aR (aW S (l,j) x) (l,j)=some x:=fun x=>bS _ _ _ _ hk
  have hS0:aW S (l,j) (.tok 1 (out.map encS))=S:=kE _ _ hk
  have fin:jD out t=oD (rM out t) t.fArgs:=XW out t
  have hal:=Er out t
  have e0:(out++[t.fName]).map encS=out.map encS++[[D.s t.fName]]:=by simp[encS]
  refine aC (rs:=[.tmp 4]) Tryz.checked.mixed Tryz.func342 Tryz.ntmps342 rfl rfl rfl rfl rfl ?_
  simp -implicitDefEqProofs (disch:=omega) only[go_sem,hk]
  repeat' (first
   |(with_reducible refine aA (fun hb=> ?_) (fun hb=> ?_)<;>have h:=hb<;>(try simp only[wf_preprocess] at h)<;>simp -implicitDefEqProofs (disch:=omega) only[go_sem,hb,hk]<;>(repeat(with_reducible refine And.intro ?_ ?_;focus first|omega|rfl|assumption|exact⟨_,rfl,rfl⟩|(simp;omega)|(simp;done))))
   |(refine ay (qo out t.fName (by omega)) ?_;simp -implicitDefEqProofs (disch:=omega) only[go_sem,hk];(repeat(with_reducible refine And.intro ?_ ?_;focus first|omega|rfl|assumption|exact⟨_,rfl,rfl⟩|(simp;omega)|(simp;done)))))
  all_goals first
   |(have ha:rM out t=out++[t.fName]:=if_pos ⟨by assumption,by assumption⟩)
   |(have ha:rM out t=out:=if_neg (fun x=>by have:=x.1;have:=x.2;contradiction))
  all_goals
   refine aV (ι:=Nat×List (List UInt8)) Tryz.checked.mixed rfl [1,2,5] (fun y=>[.c (.bK (1+l,j) (y.2.map encS)),.c (.ptr (0,0) 0),.c (.d (.i .i64 y.1))]) (fun y=>[.box [.d (.i .i64 t.aG),.d (.s t.fName),.d (.sl (t.fArgs.map aj.enc))]]::aW S (l,j) (.tok 1 (y.2.map encS)))
    (fun y=>y.1≤t.fArgs.length∧y.2.length+aj.cu (t.fArgs.drop y.1)≤1073741824∧oD y.2 (t.fArgs.drop y.1)=jD out t) (fun y=>t.fArgs.length-y.1) (0,rM out t) (by first|(rw[ha,e0];rfl)|(rw[ha];rfl)) (by first|(simp only[ha,e0];done)|(simp only[ha,hS0];done)) ⟨Nat.zero_le _,by simp only[List.drop_zero];omega,by rw[fin];rfl⟩ ?_
   rintro⟨i,b⟩ ⟨p1,p2,p3⟩
   simp only at p1 p2 p3
   simp -implicitDefEqProofs (disch:=omega) only[go_sem]
   with_reducible refine aA (fun hb=> ?_) (fun hb=> ?_)<;>have h:=hb<;>(try simp only[wf_preprocess] at h)<;>simp -implicitDefEqProofs (disch:=omega) only[go_sem,hb]<;>(repeat(with_reducible refine And.intro ?_ ?_;focus first|omega|rfl|assumption|exact⟨_,rfl,rfl⟩|(simp;omega)|(simp;done)))
   ·have hi:i<t.fArgs.length:=by omega
    have hs:=List.sizeOf_lt_of_mem (List.getElem_mem hi)
    rw[DU hi] at p3
    rw[List.drop_eq_getElem_cons hi,aj.cu] at p2
    have hlen:=vv t.fArgs[i] b
    (repeat(with_reducible refine And.intro ?_ ?_;focus first|omega|rfl|assumption|exact⟨_,rfl,rfl⟩|(simp;omega)|(simp;done)))
    refine bf rfl (ih t.fArgs[i] (by omega) (zn hi hsz).1 b (1+l) j _ (by rw[dN];exact F5 _) (by omega)) ?_
    simp -implicitDefEqProofs (disch:=omega) only[go_sem,bD]
    exact bH (i+1,jD b t.fArgs[i]) (by simp only;omega) rfl rfl ⟨by simp only;omega,by simp only;omega,p3⟩
   ·have hi:i=t.fArgs.length:=by omega
    rw[hi,List.drop_length] at p3
    rw[←p3]
    exact⟨rfl,rfl⟩
theorem F6(t:aj)(hsz:t.sz≤4194304):aH Tryz.prog 308 [t.v] (.c (.d (.sl ((jD [] t).map encS)))):=fun S=>by
 have hc:=jf t
 have h0:∀S,bA Tryz.prog 342 [t.v,.c (.aL [])] S (fun r S'=>r=.c (.d (.sl ((jD [] t).map encS)))∧S'=S):=fun S=>by
  refine bA.Xn 1 (es:=[]) (aO:=1) rfl (by simp) (F4 _ t (Nat.lt_succ_self _) hsz [] 0 0 ([.tok 1 []]::S) rfl (by simp;omega)) ?_
  rintro r fr S' ⟨rfl,h2⟩
  injection h2 with h2 h3
  exact⟨_,rfl,rfl,h3⟩
 refine aC (rs:=[.tmp 2]) Tryz.checked.mixed Tryz.func308 Tryz.ntmps308 rfl rfl rfl rfl rfl ?_
 simp -implicitDefEqProofs (disch:=omega) only[go_sem]
 (repeat(with_reducible refine And.intro ?_ ?_;focus first|omega|rfl|assumption|exact⟨_,rfl,rfl⟩|(simp;omega)|(simp;done)))
 refine zi [true,true] rfl (h0 _) ?_
 simp -implicitDefEqProofs (disch:=omega) only[go_sem]
theorem yw:∀n:Nat,∀t:aj,SizeOf.sizeOf t<n→t.sz≤4194304→aH Tryz.prog 251 [t.v] (.c (.d (.b (sD t))))
 |0=>fun t h=>by omega
 |n+1=>by
  have ih:=yw n
  intro t hn hsz S
  have iA:=aj.fA t
  have hts:=F3 hsz
  refine aC (rs:=[.tmp 2]) Tryz.checked.mixed Tryz.func251 Tryz.ntmps251 rfl rfl rfl rfl rfl ?_
  simp -implicitDefEqProofs (disch:=omega) only[go_sem]
  refine aV (ι:=Nat) Tryz.checked.mixed rfl [1,3] (fun i=>[.c (.ptr (0,0) 0),.c (.d (.i .i64 i))]) (fun _=>[.box [.d (.i .i64 t.aG),.d (.s t.fName),.d (.sl (t.fArgs.map aj.enc))]]::S)
   (fun i=>i≤t.fArgs.length∧qx (t.fArgs.drop i)=qx t.fArgs) (fun i=>t.fArgs.length-i) 0 rfl rfl ⟨Nat.zero_le _,rfl⟩ ?_
  rintro i ⟨p1,p2⟩
  simp -implicitDefEqProofs (disch:=omega) only[go_sem]
  with_reducible refine aA (fun hb=> ?_) (fun hb=> ?_)<;>have h:=hb<;>(try simp only[wf_preprocess] at h)<;>simp -implicitDefEqProofs (disch:=omega) only[go_sem,hb]<;>(repeat(with_reducible refine And.intro ?_ ?_;focus first|omega|rfl|assumption|exact⟨_,rfl,rfl⟩|(simp;omega)|(simp;done)))
  ·have hi:i<t.fArgs.length:=by omega
   rw[JV hi] at p2
   (repeat(with_reducible refine And.intro ?_ ?_;focus first|omega|rfl|assumption|exact⟨_,rfl,rfl⟩|(simp;omega)|(simp;done)))
   refine ay (ih t.fArgs[i] (by have:=List.sizeOf_lt_of_mem (List.getElem_mem hi);omega) (zn hi hsz).1) ?_
   simp -implicitDefEqProofs (disch:=omega) only[go_sem]<;>(repeat(with_reducible refine And.intro ?_ ?_;focus first|omega|rfl|assumption|exact⟨_,rfl,rfl⟩|(simp;omega)|(simp;done)))
   with_reducible refine aA (fun hb=> ?_) (fun hb=> ?_)<;>have h:=hb<;>(try simp only[wf_preprocess] at h)<;>simp -implicitDefEqProofs (disch:=omega) only[go_sem,hb]<;>(repeat(with_reducible refine And.intro ?_ ?_;focus first|omega|rfl|assumption|exact⟨_,rfl,rfl⟩|(simp;omega)|(simp;done)))
   ·rw[FZ,←p2,h];simp
   ·exact bH (i+1) (by omega) rfl rfl ⟨by omega,by rw[←p2,h];rfl⟩
  ·have hi:i=t.fArgs.length:=by omega
   rw[hi,List.drop_length] at p2
   rw[FZ,←p2]
   exact aJ (by simp[qx,lC])
theorem Ie(t:aj)(hsz:t.sz≤4194304):aH Tryz.prog 251 [t.v] (.c (.d (.b (sD t)))):=yw _ t (Nat.lt_succ_self _) hsz
theorem JW(rest:List Ab.Obj)(cs:List C)(S:Store):zZ Tryz.prog 299 [((0,1),0)] (fun b:Bool=>(.box cs:: .box [.d (.b b)]::rest)::S) (fun _ _=>True) (fun b u=>b||decide (u.aG=3)) aj.v (fun u=>u.sz≤4194304):=by
 intro n b u _ hu
 refine⟨trivial,fun F=> ?_⟩
 refine aC (rs:=[]) Tryz.checked.mixed Tryz.func299 Tryz.ntmps299 rfl rfl rfl rfl rfl ?_
 simp -implicitDefEqProofs (disch:=omega) only[go_sem]
 cases b with
 |true=>
  simp -implicitDefEqProofs (disch:=omega) only[go_sem]
  rfl
 |false=>
  simp -implicitDefEqProofs (disch:=omega) only[go_sem]
  rfl
theorem Ig(t:aj)(hsz:t.sz≤4194304):aH Tryz.prog 235 [t.v] (.c (.d (.b (sD t)))):=fun S=>by
 refine aC (rs:=[.tmp 2]) Tryz.checked.mixed Tryz.func235 Tryz.ntmps235 rfl rfl rfl rfl rfl ?_
 simp -implicitDefEqProofs (disch:=omega) only[go_sem]
 (repeat(with_reducible refine And.intro ?_ ?_;focus first|omega|rfl|assumption|exact⟨_,rfl,rfl⟩|(simp;omega)|(simp;done)))
 refine bf rfl (DV hsz (JW [] [.d (.i .i64 t.aG),.d (.s t.fName),.d (.sl (t.fArgs.map aj.enc))] S) 0 false trivial).2 ?_
 simp -implicitDefEqProofs (disch:=omega) only[go_sem]
 rw[MJ]
 rfl
end Go.Proofs.YtlmhknhlmicmeaaGreatDoor
namespace Go.Proofs.YtlmhknhlmicmeaaGreatDoor
open Go Go.Ab
theorem Es(g:Nat)(caps:List (Key×Nat))(S:Store)(xs:List aj)(p:aj→Bool)(hl:xs.length≤1073741824)(hp:∀x∈xs,j5 Tryz.prog g caps S [x.v] (.c (.d (.b (p x))))):
 bA Tryz.prog 334 [.c (.d (.sl (xs.map aj.enc))),.c (.fn g caps)] S (fun r S'=>r=.c (.d (.i .i64 (nI p xs)))∧S'=S):=by
 refine aC (rs:=[.tmp 4]) Tryz.checked.mixed Tryz.func334 Tryz.ntmps334 rfl rfl rfl rfl rfl ?_
 simp -implicitDefEqProofs (disch:=omega) only[go_sem]
 refine aV (ι:=Nat) Tryz.checked.mixed rfl [0,1,7,8] (fun i=>[.c (.d (.sl (xs.map aj.enc))),.c (.fn g (gq 1 caps)),.c (.d (.i .i64 xs.length)),.c (.d (.i .i64 i))]) (fun _=>[]::S)
  (fun i=>i≤xs.length∧∀j,∀hj:j<xs.length,j<i→p xs[j]=false) (fun i=>xs.length-i) 0 rfl rfl ⟨Nat.zero_le _,fun j _ h=>by omega⟩ ?_
 rintro i ⟨p1,p2⟩
 simp -implicitDefEqProofs (disch:=omega) only[go_sem]
 with_reducible refine aA (fun hb=> ?_) (fun hb=> ?_)<;>have h:=hb<;>(try simp only[wf_preprocess] at h)<;>simp -implicitDefEqProofs (disch:=omega) only[go_sem,hb]<;>(repeat(with_reducible refine And.intro ?_ ?_;focus first|omega|rfl|assumption|exact⟨_,rfl,rfl⟩|(simp;omega)|(simp;done)))
 ·have hi:i<xs.length:=by omega
  (repeat(with_reducible refine And.intro ?_ ?_;focus first|omega|rfl|assumption|exact⟨_,rfl,rfl⟩|(simp;omega)|(simp;done)))
  refine bf rfl (hp xs[i] (List.getElem_mem hi) [_]) ?_
  simp -implicitDefEqProofs (disch:=omega) only[go_sem]
  with_reducible refine aA (fun hb=> ?_) (fun hb=> ?_)<;>have h:=hb<;>(try simp only[wf_preprocess] at h)<;>simp -implicitDefEqProofs (disch:=omega) only[go_sem,hb]<;>(repeat(with_reducible refine And.intro ?_ ?_;focus first|omega|rfl|assumption|exact⟨_,rfl,rfl⟩|(simp;omega)|(simp;done)))
  ·rw[mY hi p2 h]
  ·refine bH (i+1) (by omega) rfl rfl ⟨by omega,fun j hj hji=> ?_⟩
   by_cases e:j=i
   ·subst e;exact h
   ·exact p2 j hj (by omega)
 ·rw[p9 (fun j hj=>p2 j hj (by omega))]
theorem Bg(g:Nat)(caps:List (Key×Nat))(S:Store)(xs:List aj)(p:aj→Bool)(hl:xs.length≤1073741824)(hp:∀x∈xs,j5 Tryz.prog g caps S [x.v] (.c (.d (.b (p x))))):
 bA Tryz.prog 293 [.c (.d (.sl (xs.map aj.enc))),.c (.fn g caps)] S (fun r S'=>r=.c (.d (.b (xs.any p)))∧S'=S):=by
 refine aC (rs:=[.tmp 4]) Tryz.checked.mixed Tryz.func293 Tryz.ntmps293 rfl rfl rfl rfl rfl ?_
 simp -implicitDefEqProofs (disch:=omega) only[go_sem]
 refine bf rfl (Es g (gq 1 caps) _ xs p hl fun x hx=>(hp x hx).push _) ?_
 simp -implicitDefEqProofs (disch:=omega) only[go_sem]
 exact aJ oo
theorem Et(g:Nat)(caps:List (Key×Nat))(S:Store)(xs:List au)(p:au→Bool)(hl:xs.length≤1073741824)(hp:∀x∈xs,j5 Tryz.prog g caps S [x.v] (.c (.d (.b (p x))))):
 bA Tryz.prog 329 [.c (.d (.sl (xs.map au.enc))),.c (.fn g caps)] S (fun r S'=>r=.c (.d (.i .i64 (nI p xs)))∧S'=S):=by
 refine aC (rs:=[.tmp 4]) Tryz.checked.mixed Tryz.func329 Tryz.ntmps329 rfl rfl rfl rfl rfl ?_
 simp -implicitDefEqProofs (disch:=omega) only[go_sem]
 refine aV (ι:=Nat) Tryz.checked.mixed rfl [0,1,7,8] (fun i=>[.c (.d (.sl (xs.map au.enc))),.c (.fn g (gq 1 caps)),.c (.d (.i .i64 xs.length)),.c (.d (.i .i64 i))]) (fun _=>[]::S)
  (fun i=>i≤xs.length∧∀j,∀hj:j<xs.length,j<i→p xs[j]=false) (fun i=>xs.length-i) 0 rfl rfl ⟨Nat.zero_le _,fun j _ h=>by omega⟩ ?_
 rintro i ⟨p1,p2⟩
 simp -implicitDefEqProofs (disch:=omega) only[go_sem]
 with_reducible refine aA (fun hb=> ?_) (fun hb=> ?_)<;>have h:=hb<;>(try simp only[wf_preprocess] at h)<;>simp -implicitDefEqProofs (disch:=omega) only[go_sem,hb]<;>(repeat(with_reducible refine And.intro ?_ ?_;focus first|omega|rfl|assumption|exact⟨_,rfl,rfl⟩|(simp;omega)|(simp;done)))
 ·have hi:i<xs.length:=by omega
  (repeat(with_reducible refine And.intro ?_ ?_;focus first|omega|rfl|assumption|exact⟨_,rfl,rfl⟩|(simp;omega)|(simp;done)))
  refine bf rfl (hp xs[i] (List.getElem_mem hi) [_]) ?_
  simp -implicitDefEqProofs (disch:=omega) only[go_sem]
  with_reducible refine aA (fun hb=> ?_) (fun hb=> ?_)<;>have h:=hb<;>(try simp only[wf_preprocess] at h)<;>simp -implicitDefEqProofs (disch:=omega) only[go_sem,hb]<;>(repeat(with_reducible refine And.intro ?_ ?_;focus first|omega|rfl|assumption|exact⟨_,rfl,rfl⟩|(simp;omega)|(simp;done)))
  ·rw[mY hi p2 h]
  ·refine bH (i+1) (by omega) rfl rfl ⟨by omega,fun j hj hji=> ?_⟩
   by_cases e:j=i
   ·subst e;exact h
   ·exact p2 j hj (by omega)
 ·rw[p9 (fun j hj=>p2 j hj (by omega))]
theorem Bh(g:Nat)(caps:List (Key×Nat))(S:Store)(xs:List au)(p:au→Bool)(hl:xs.length≤1073741824)(hp:∀x∈xs,j5 Tryz.prog g caps S [x.v] (.c (.d (.b (p x))))):
 bA Tryz.prog 283 [.c (.d (.sl (xs.map au.enc))),.c (.fn g caps)] S (fun r S'=>r=.c (.d (.b (xs.any p)))∧S'=S):=by
 refine aC (rs:=[.tmp 4]) Tryz.checked.mixed Tryz.func283 Tryz.ntmps283 rfl rfl rfl rfl rfl ?_
 simp -implicitDefEqProofs (disch:=omega) only[go_sem]
 refine bf rfl (Et g (gq 1 caps) _ xs p hl fun x hx=>(hp x hx).push _) ?_
 simp -implicitDefEqProofs (disch:=omega) only[go_sem]
 exact aJ oo
theorem F7(g:Nat)(caps:List (Key×Nat))(S:Store)(xs:List aF)(p:aF→Bool)(hl:xs.length≤1073741824)(hp:∀x∈xs,j5 Tryz.prog g caps S [x.v] (.c (.d (.b (p x))))):
 bA Tryz.prog 330 [.c (.d (.sl (xs.map aF.enc))),.c (.fn g caps)] S (fun r S'=>r=.c (.d (.i .i64 (nI p xs)))∧S'=S):=by
 refine aC (rs:=[.tmp 4]) Tryz.checked.mixed Tryz.func330 Tryz.ntmps330 rfl rfl rfl rfl rfl ?_
 simp -implicitDefEqProofs (disch:=omega) only[go_sem]
 refine aV (ι:=Nat) Tryz.checked.mixed rfl [0,1,7,8] (fun i=>[.c (.d (.sl (xs.map aF.enc))),.c (.fn g (gq 1 caps)),.c (.d (.i .i64 xs.length)),.c (.d (.i .i64 i))]) (fun _=>[]::S)
  (fun i=>i≤xs.length∧∀j,∀hj:j<xs.length,j<i→p xs[j]=false) (fun i=>xs.length-i) 0 rfl rfl ⟨Nat.zero_le _,fun j _ h=>by omega⟩ ?_
 rintro i ⟨p1,p2⟩
 simp -implicitDefEqProofs (disch:=omega) only[go_sem]
 with_reducible refine aA (fun hb=> ?_) (fun hb=> ?_)<;>have h:=hb<;>(try simp only[wf_preprocess] at h)<;>simp -implicitDefEqProofs (disch:=omega) only[go_sem,hb]<;>(repeat(with_reducible refine And.intro ?_ ?_;focus first|omega|rfl|assumption|exact⟨_,rfl,rfl⟩|(simp;omega)|(simp;done)))
 ·have hi:i<xs.length:=by omega
  (repeat(with_reducible refine And.intro ?_ ?_;focus first|omega|rfl|assumption|exact⟨_,rfl,rfl⟩|(simp;omega)|(simp;done)))
  refine bf rfl (hp xs[i] (List.getElem_mem hi) [_]) ?_
  simp -implicitDefEqProofs (disch:=omega) only[go_sem]
  with_reducible refine aA (fun hb=> ?_) (fun hb=> ?_)<;>have h:=hb<;>(try simp only[wf_preprocess] at h)<;>simp -implicitDefEqProofs (disch:=omega) only[go_sem,hb]<;>(repeat(with_reducible refine And.intro ?_ ?_;focus first|omega|rfl|assumption|exact⟨_,rfl,rfl⟩|(simp;omega)|(simp;done)))
  ·rw[mY hi p2 h]
  ·refine bH (i+1) (by omega) rfl rfl ⟨by omega,fun j hj hji=> ?_⟩
   by_cases e:j=i
   ·subst e;exact h
   ·exact p2 j hj (by omega)
 ·rw[p9 (fun j hj=>p2 j hj (by omega))]
theorem BQ(g:Nat)(caps:List (Key×Nat))(S:Store)(xs:List aF)(p:aF→Bool)(hl:xs.length≤1073741824)(hp:∀x∈xs,j5 Tryz.prog g caps S [x.v] (.c (.d (.b (p x))))):
 bA Tryz.prog 285 [.c (.d (.sl (xs.map aF.enc))),.c (.fn g caps)] S (fun r S'=>r=.c (.d (.b (xs.any p)))∧S'=S):=by
 refine aC (rs:=[.tmp 4]) Tryz.checked.mixed Tryz.func285 Tryz.ntmps285 rfl rfl rfl rfl rfl ?_
 simp -implicitDefEqProofs (disch:=omega) only[go_sem]
 refine bf rfl (F7 g (gq 1 caps) _ xs p hl fun x hx=>(hp x hx).push _) ?_
 simp -implicitDefEqProofs (disch:=omega) only[go_sem]
 exact aJ oo
theorem Dl(g:Nat)(caps:List (Key×Nat))(S:Store)(xs:List aN)(p:aN→Bool)(hl:xs.length≤1073741824)(hp:∀x∈xs,j5 Tryz.prog g caps S [x.v] (.c (.d (.b (p x))))):
 bA Tryz.prog 333 [.c (.d (.sl (xs.map aN.enc))),.c (.fn g caps)] S (fun r S'=>r=.c (.d (.i .i64 (nI p xs)))∧S'=S):=by
 refine aC (rs:=[.tmp 4]) Tryz.checked.mixed Tryz.func333 Tryz.ntmps333 rfl rfl rfl rfl rfl ?_
 simp -implicitDefEqProofs (disch:=omega) only[go_sem]
 refine aV (ι:=Nat) Tryz.checked.mixed rfl [0,1,7,8] (fun i=>[.c (.d (.sl (xs.map aN.enc))),.c (.fn g (gq 1 caps)),.c (.d (.i .i64 xs.length)),.c (.d (.i .i64 i))]) (fun _=>[]::S)
  (fun i=>i≤xs.length∧∀j,∀hj:j<xs.length,j<i→p xs[j]=false) (fun i=>xs.length-i) 0 rfl rfl ⟨Nat.zero_le _,fun j _ h=>by omega⟩ ?_
 rintro i ⟨p1,p2⟩
 simp -implicitDefEqProofs (disch:=omega) only[go_sem]
 with_reducible refine aA (fun hb=> ?_) (fun hb=> ?_)<;>have h:=hb<;>(try simp only[wf_preprocess] at h)<;>simp -implicitDefEqProofs (disch:=omega) only[go_sem,hb]<;>(repeat(with_reducible refine And.intro ?_ ?_;focus first|omega|rfl|assumption|exact⟨_,rfl,rfl⟩|(simp;omega)|(simp;done)))
 ·have hi:i<xs.length:=by omega
  (repeat(with_reducible refine And.intro ?_ ?_;focus first|omega|rfl|assumption|exact⟨_,rfl,rfl⟩|(simp;omega)|(simp;done)))
  refine bf rfl (hp xs[i] (List.getElem_mem hi) [_]) ?_
  simp -implicitDefEqProofs (disch:=omega) only[go_sem]
  with_reducible refine aA (fun hb=> ?_) (fun hb=> ?_)<;>have h:=hb<;>(try simp only[wf_preprocess] at h)<;>simp -implicitDefEqProofs (disch:=omega) only[go_sem,hb]<;>(repeat(with_reducible refine And.intro ?_ ?_;focus first|omega|rfl|assumption|exact⟨_,rfl,rfl⟩|(simp;omega)|(simp;done)))
  ·rw[mY hi p2 h]
  ·refine bH (i+1) (by omega) rfl rfl ⟨by omega,fun j hj hji=> ?_⟩
   by_cases e:j=i
   ·subst e;exact h
   ·exact p2 j hj (by omega)
 ·rw[p9 (fun j hj=>p2 j hj (by omega))]
theorem Al(g:Nat)(caps:List (Key×Nat))(S:Store)(xs:List aN)(p:aN→Bool)(hl:xs.length≤1073741824)(hp:∀x∈xs,j5 Tryz.prog g caps S [x.v] (.c (.d (.b (p x))))):
 bA Tryz.prog 290 [.c (.d (.sl (xs.map aN.enc))),.c (.fn g caps)] S (fun r S'=>r=.c (.d (.b (xs.any p)))∧S'=S):=by
 refine aC (rs:=[.tmp 4]) Tryz.checked.mixed Tryz.func290 Tryz.ntmps290 rfl rfl rfl rfl rfl ?_
 simp -implicitDefEqProofs (disch:=omega) only[go_sem]
 refine bf rfl (Dl g (gq 1 caps) _ xs p hl fun x hx=>(hp x hx).push _) ?_
 simp -implicitDefEqProofs (disch:=omega) only[go_sem]
 exact aJ oo
theorem BR(g:Nat)(caps:List (Key×Nat))(S:Store)(xs:List (List UInt8))(p:(List UInt8)→Bool)(hl:xs.length≤1073741824)(hp:∀x∈xs,j5 Tryz.prog g caps S [.c (.d (.s x))] (.c (.d (.b (p x))))):
 bA Tryz.prog 317 [.c (.d (.sl (xs.map encS))),.c (.fn g caps)] S (fun r S'=>r=.c (.d (.i .i64 (nI p xs)))∧S'=S):=by
 refine aC (rs:=[.tmp 4]) Tryz.checked.mixed Tryz.func317 Tryz.ntmps317 rfl rfl rfl rfl rfl ?_
 simp -implicitDefEqProofs (disch:=omega) only[go_sem,encS]
 refine aV (ι:=Nat) Tryz.checked.mixed rfl [0,1,7,8] (fun i=>[.c (.d (.sl (xs.map encS))),.c (.fn g (gq 1 caps)),.c (.d (.i .i64 xs.length)),.c (.d (.i .i64 i))]) (fun _=>[]::S)
  (fun i=>i≤xs.length∧∀j,∀hj:j<xs.length,j<i→p xs[j]=false) (fun i=>xs.length-i) 0 rfl rfl ⟨Nat.zero_le _,fun j _ h=>by omega⟩ ?_
 rintro i ⟨p1,p2⟩
 simp -implicitDefEqProofs (disch:=omega) only[go_sem,encS]
 with_reducible refine aA (fun hb=> ?_) (fun hb=> ?_)<;>have h:=hb<;>(try simp only[wf_preprocess] at h)<;>simp -implicitDefEqProofs (disch:=omega) only[go_sem,hb,encS]<;>(repeat(with_reducible refine And.intro ?_ ?_;focus first|omega|rfl|assumption|exact⟨_,rfl,rfl⟩|(simp;omega)|(simp;done)))
 ·have hi:i<xs.length:=by omega
  (repeat(with_reducible refine And.intro ?_ ?_;focus first|omega|rfl|assumption|exact⟨_,rfl,rfl⟩|(simp;omega)|(simp;done)))
  refine bf rfl (hp xs[i] (List.getElem_mem hi) [_]) ?_
  simp -implicitDefEqProofs (disch:=omega) only[go_sem,encS]
  with_reducible refine aA (fun hb=> ?_) (fun hb=> ?_)<;>have h:=hb<;>(try simp only[wf_preprocess] at h)<;>simp -implicitDefEqProofs (disch:=omega) only[go_sem,hb,encS]<;>(repeat(with_reducible refine And.intro ?_ ?_;focus first|omega|rfl|assumption|exact⟨_,rfl,rfl⟩|(simp;omega)|(simp;done)))
  ·rw[mY hi p2 h]
  ·refine bH (i+1) (by omega) rfl rfl ⟨by omega,fun j hj hji=> ?_⟩
   by_cases e:j=i
   ·subst e;exact h
   ·exact p2 j hj (by omega)
 ·rw[p9 (fun j hj=>p2 j hj (by omega))]
theorem sF(g:Nat)(caps:List (Key×Nat))(S:Store)(xs:List (List UInt8))(p:(List UInt8)→Bool)(hl:xs.length≤1073741824)(hp:∀x∈xs,j5 Tryz.prog g caps S [.c (.d (.s x))] (.c (.d (.b (p x))))):
 bA Tryz.prog 264 [.c (.d (.sl (xs.map encS))),.c (.fn g caps)] S (fun r S'=>r=.c (.d (.b (xs.any p)))∧S'=S):=by
 refine aC (rs:=[.tmp 4]) Tryz.checked.mixed Tryz.func264 Tryz.ntmps264 rfl rfl rfl rfl rfl ?_
 simp -implicitDefEqProofs (disch:=omega) only[go_sem,encS]
 refine bf rfl (BR g (gq 1 caps) _ xs p hl fun x hx=>(hp x hx).push _) ?_
 simp -implicitDefEqProofs (disch:=omega) only[go_sem,encS]
 exact aJ oo
end Go.Proofs.YtlmhknhlmicmeaaGreatDoor
namespace Go.Ab
theorem F8{s:List UInt8}{xs:List (List UInt8)}(h:s∈xs):s.length≤bG (xs.map encS):=by
 have:=dY (List.mem_map_of_mem (f:=encS) h)
 simpa [encS,bM,D.sz] using this
noncomputable def jW(xs:List (List UInt8)):Bool:=dec xs.Nodup&&xs.all validName
noncomputable def among(xs ys:List (List UInt8)):Bool:=xs.all fun s=>dec (s∈ys)
noncomputable def gZ(vars:List (List UInt8))(t:aj):Bool:=kI t&&among (jD [] t) vars
noncomputable def qy(vars:List (List UInt8))(ts:List aj):Bool:=ts.all (gZ vars)
theorem XY{s l:List UInt8}{m:List (List UInt8)}:s∈Bo l m↔s=l∨s∈m:=by
 unfold Bo
 split
 ·rename_i h
  exact⟨.inr,fun x=>x.elim (fun e=>e▸h) id⟩
 ·rw[List.mem_append,List.mem_singleton];exact Or.comm
theorem qz{α:Type}{xs:List α}{i:Nat}(hi:i<xs.length):xs.take (i+1)=xs.take i++[xs[i]]:=List.take_succ_eq_append_getElem hi
theorem Am{α:Type}{xs:List α}{x:α}:(xs++[x]).Nodup↔xs.Nodup∧x∉xs:=by
 rw[List.nodup_append]
 constructor
 ·rintro⟨h1,_,h3⟩
  exact⟨h1,fun hx=>h3 x hx x (by simp) rfl⟩
 ·rintro⟨h1,h2⟩
  exact⟨h1,by simp,fun a ha b hb e=>by simp at hb;subst hb;exact h2 (e▸ha)⟩
theorem Jh{α:Type}{xs:List α}{i:Nat}(hi:i<xs.length)(h:xs[i]∈xs.take i):¬xs.Nodup:=fun hn=>by
 have h1:(xs.take (i+1)).Nodup:=hn.sublist (List.take_sublist _ _)
 rw[qz hi] at h1
 exact(Am.1 h1).2 h
end Go.Ab
namespace Go.Proofs.YtlmhknhlmicmeaaGreatDoor
open Go Go.Ab
theorem F9(xs:List (List UInt8))(hl:xs.length≤1073741824):aH Tryz.prog 233 [.c (.d (.sl (xs.map encS)))] (.c (.d (.b (dec xs.Nodup)))):=fun S=>by
 refine aC (rs:=[.tmp 2]) Tryz.checked.mixed Tryz.func233 Tryz.ntmps233 rfl rfl rfl rfl rfl ?_
 simp -implicitDefEqProofs (disch:=omega) only[go_sem,encS]
 (repeat(with_reducible refine And.intro ?_ ?_;focus first|omega|rfl|assumption|exact⟨_,rfl,rfl⟩|(simp;omega)|(simp;done)))
 refine aV (ι:=Nat×List (List UInt8)) Tryz.checked.mixed rfl [3,7,8,9] (fun y=>[.c (.mp (0,0)),.c (.d (.sl (xs.map encS))),.c (.d (.i .i64 xs.length)),.c (.d (.i .i64 y.1))]) (fun y=>[.mp y.2]::S)
  (fun y=>y.1≤xs.length∧(∀s,s∈y.2↔s∈xs.take y.1)∧(xs.take y.1).Nodup) (fun y=>xs.length-y.1) (0,[]) rfl rfl ⟨Nat.zero_le _,fun s=>by simp,by simp⟩ ?_
 rintro⟨i,m⟩ ⟨p1,p2,p3⟩
 simp only at p1 p2 p3
 simp -implicitDefEqProofs (disch:=omega) only[go_sem,encS]
 with_reducible refine aA (fun hb=> ?_) (fun hb=> ?_)<;>have h:=hb<;>(try simp only[wf_preprocess] at h)<;>simp -implicitDefEqProofs (disch:=omega) only[go_sem,hb,encS]<;>(repeat(with_reducible refine And.intro ?_ ?_;focus first|omega|rfl|assumption|exact⟨_,rfl,rfl⟩|(simp;omega)|(simp;done)))
 ·have hi:i<xs.length:=by omega
  (repeat(with_reducible refine And.intro ?_ ?_;focus first|omega|rfl|assumption|exact⟨_,rfl,rfl⟩|(simp;omega)|(simp;done)))
  with_reducible refine aA (fun hb=> ?_) (fun hb=> ?_)<;>have h:=hb<;>(try simp only[wf_preprocess] at h)<;>simp -implicitDefEqProofs (disch:=omega) only[go_sem,hb,encS]<;>(repeat(with_reducible refine And.intro ?_ ?_;focus first|omega|rfl|assumption|exact⟨_,rfl,rfl⟩|(simp;omega)|(simp;done)))
  ·exact aJ (aQ (Jh hi ((p2 _).1 h))).symm
  ·refine bH (i+1,Bo xs[i] m) (by simp only;omega) rfl rfl ⟨by simp only;omega,fun s=> ?_,?_⟩
   ·simp only
    rw[XY,qz hi,List.mem_append,List.mem_singleton,p2]
    exact Or.comm
   ·simp only
    rw[qz hi,Am]
    exact⟨p3,fun hx=>h ((p2 _).2 hx)⟩
 ·rw[List.take_of_length_le (by omega)] at p3
  exact aJ (bR p3).symm
theorem yx(xs:List (List UInt8))(hl:xs.length≤1073741824):aH Tryz.prog 154 [.c (.d (.sl (xs.map encS)))] (.c (.d (.b (dec xs.Nodup)))):=fun S=>by
 refine aC (rs:=[.tmp 2]) Tryz.checked.mixed Tryz.func154 Tryz.ntmps154 rfl rfl rfl rfl rfl ?_
 simp -implicitDefEqProofs (disch:=omega) only[go_sem,encS]
 refine aV (ι:=Nat) Tryz.checked.mixed rfl [0,3] (fun i=>[.c (.d (.sl (xs.map encS))),.c (.d (.i .i64 i))]) (fun _=>[]::S)
  (fun i=>i≤xs.length∧(xs.take i).Nodup) (fun i=>xs.length-i) 0 rfl rfl ⟨Nat.zero_le _,by simp⟩ ?_
 rintro i ⟨p1,p3⟩
 simp -implicitDefEqProofs (disch:=omega) only[go_sem,encS]
 with_reducible refine aA (fun hb=> ?_) (fun hb=> ?_)<;>have h:=hb<;>(try simp only[wf_preprocess] at h)<;>simp -implicitDefEqProofs (disch:=omega) only[go_sem,hb,encS]<;>(repeat(with_reducible refine And.intro ?_ ?_;focus first|omega|rfl|assumption|exact⟨_,rfl,rfl⟩|(simp;omega)|(simp;done)))
 ·have hi:i<xs.length:=by omega
  have hc:∀y∈xs.map encS,y.length=1:=fun y hy=>by
   obtain⟨s,_,rfl⟩:=List.mem_map.1 hy
   rfl
  have e:(xs.map encS).take i=(xs.take i).map encS:=List.map_take.symm
  refine And.intro ⟨by omega,by omega,hc⟩ ?_
  (repeat(with_reducible refine And.intro ?_ ?_;focus first|omega|rfl|assumption|exact⟨_,rfl,rfl⟩|(simp;omega)|(simp;done)))
  simp -implicitDefEqProofs (disch:=omega) only[go_sem,Int.toNat_zero,e]
  refine ay (qo (xs.take i) xs[i] (by simp;omega)) ?_
  simp -implicitDefEqProofs (disch:=omega) only[go_sem]<;>(repeat(with_reducible refine And.intro ?_ ?_;focus first|omega|rfl|assumption|exact⟨_,rfl,rfl⟩|(simp;omega)|(simp;done)))
  with_reducible refine aA (fun hb=> ?_) (fun hb=> ?_)<;>have h:=hb<;>(try simp only[wf_preprocess] at h)<;>simp -implicitDefEqProofs (disch:=omega) only[go_sem,hb]<;>(repeat(with_reducible refine And.intro ?_ ?_;focus first|omega|rfl|assumption|exact⟨_,rfl,rfl⟩|(simp;omega)|(simp;done)))
  ·exact aJ (aQ (Jh hi h)).symm
  ·refine bH (i+1) (by omega) rfl rfl ⟨by omega,?_⟩
   rw[qz hi,Am]
   exact⟨p3,h⟩
 ·rw[List.take_of_length_le (by omega)] at p3
  exact aJ (bR p3).symm
theorem Ga(xs:List (List UInt8))(hl:xs.length≤1073741824)(hs:∀s∈xs,s.length≤4194304):aH Tryz.prog 247 [.c (.d (.sl (xs.map encS)))] (.c (.d (.b (xs.all validName)))):=fun S=>by
 refine aC (rs:=[.tmp 2]) Tryz.checked.mixed Tryz.func247 Tryz.ntmps247 rfl rfl rfl rfl rfl ?_
 simp -implicitDefEqProofs (disch:=omega) only[go_sem,encS]
 refine aV (ι:=Nat) Tryz.checked.mixed rfl [0,3] (fun i=>[.c (.d (.sl (xs.map encS))),.c (.d (.i .i64 i))]) (fun _=>[]::S)
  (fun i=>i≤xs.length∧(xs.drop i).all validName=xs.all validName) (fun i=>xs.length-i) 0 rfl rfl ⟨Nat.zero_le _,rfl⟩ ?_
 rintro i ⟨p1,p2⟩
 simp -implicitDefEqProofs (disch:=omega) only[go_sem,encS]
 with_reducible refine aA (fun hb=> ?_) (fun hb=> ?_)<;>have h:=hb<;>(try simp only[wf_preprocess] at h)<;>simp -implicitDefEqProofs (disch:=omega) only[go_sem,hb,encS]<;>(repeat(with_reducible refine And.intro ?_ ?_;focus first|omega|rfl|assumption|exact⟨_,rfl,rfl⟩|(simp;omega)|(simp;done)))
 ·have hi:i<xs.length:=by omega
  have hz:=hs _ (List.getElem_mem hi)
  rw[List.drop_eq_getElem_cons hi,List.all_cons] at p2
  (repeat(with_reducible refine And.intro ?_ ?_;focus first|omega|rfl|assumption|exact⟨_,rfl,rfl⟩|(simp;omega)|(simp;done)))
  refine ay (iZ xs[i] (by omega)) ?_
  simp -implicitDefEqProofs (disch:=omega) only[go_sem]<;>(repeat(with_reducible refine And.intro ?_ ?_;focus first|omega|rfl|assumption|exact⟨_,rfl,rfl⟩|(simp;omega)|(simp;done)))
  with_reducible refine aA (fun hb=> ?_) (fun hb=> ?_)<;>have h:=hb<;>(try simp only[wf_preprocess] at h)<;>simp -implicitDefEqProofs (disch:=omega) only[go_sem,hb]<;>(repeat(with_reducible refine And.intro ?_ ?_;focus first|omega|rfl|assumption|exact⟨_,rfl,rfl⟩|(simp;omega)|(simp;done)))
  ·rw[←p2,h];rfl
  ·exact bH (i+1) (by omega) rfl rfl ⟨by omega,by rw[←p2,h];rfl⟩
 ·rw[List.drop_of_length_le (by omega)] at p2
  rw[←p2];rfl
theorem yR(xs:List (List UInt8))(hl:xs.length≤1073741824)(hs:∀s∈xs,s.length≤4194304):aH Tryz.prog 169 [.c (.d (.sl (xs.map encS)))] (.c (.d (.b (jW xs)))):=fun S=>by
 have hcl:∀s∈xs,aH Tryz.prog 265 [.c (.d (.s s))] (.c (.d (.b (!validName s)))):=fun s hx S=>by
  have:=hs s hx
  refine aC (rs:=[.tmp 2]) Tryz.checked.mixed Tryz.func265 Tryz.ntmps265 rfl rfl rfl rfl rfl ?_
  simp -implicitDefEqProofs (disch:=omega) only[go_sem]
  refine ay (iY s (by omega)) ?_
  simp -implicitDefEqProofs (disch:=omega) only[go_sem]<;>(repeat(with_reducible refine And.intro ?_ ?_;focus first|omega|rfl|assumption|exact⟨_,rfl,rfl⟩|(simp;omega)|(simp;done)))
 have ha:(xs.any fun s=> !validName s)= !xs.all validName:=by rw[List.not_all_eq_any_not]
 refine aC (rs:=[.tmp 2]) Tryz.checked.mixed Tryz.func169 Tryz.ntmps169 rfl rfl rfl rfl rfl ?_
 simp -implicitDefEqProofs (disch:=omega) only[go_sem]
 refine ay (F9 xs hl) ?_
 simp -implicitDefEqProofs (disch:=omega) only[go_sem]<;>(repeat(with_reducible refine And.intro ?_ ?_;focus first|omega|rfl|assumption|exact⟨_,rfl,rfl⟩|(simp;omega)|(simp;done)))
 with_reducible refine aA (fun hb=> ?_) (fun hb=> ?_)<;>have h:=hb<;>(try simp only[wf_preprocess] at h)<;>simp -implicitDefEqProofs (disch:=omega) only[go_sem,hb]<;>(repeat(with_reducible refine And.intro ?_ ?_;focus first|omega|rfl|assumption|exact⟨_,rfl,rfl⟩|(simp;omega)|(simp;done)))
 ·refine bf rfl (sF 265 [] _ xs (fun s=> !validName s) hl fun s hx=>j5.H6 (hcl s hx)) ?_
  simp -implicitDefEqProofs (disch:=omega) only[go_sem]
  rw[ha]
  exact aJ (by unfold jW;rw[hb];simp)
 ·exact aJ (by unfold jW;rw[hb];rfl)
theorem yS(xs ys:List (List UInt8))(hl:xs.length≤1073741824)(hl':ys.length≤1073741824):aH Tryz.prog 236 [.c (.d (.sl (xs.map encS))),.c (.d (.sl (ys.map encS)))] (.c (.d (.b (among xs ys)))):=fun S=>by
 have ha:(xs.any fun s=> !dec (s∈ys))= !among xs ys:=by unfold among;rw[List.not_all_eq_any_not]
 have hcl:∀(rest:List Ab.Obj) (s:List UInt8),j5 Tryz.prog 300 [((0,0),0)] ((.box [.d (.sl (ys.map encS))]::rest)::S) [.c (.d (.s s))] (.c (.d (.b (!dec (s∈ys))))):=fun rest s F=>by
  refine aC (rs:=[.tmp 3]) Tryz.checked.mixed Tryz.func300 Tryz.ntmps300 rfl rfl rfl rfl rfl ?_
  simp -implicitDefEqProofs (disch:=omega) only[go_sem]
  refine ay (qp ys s hl') ?_
  simp -implicitDefEqProofs (disch:=omega) only[go_sem]<;>(repeat(with_reducible refine And.intro ?_ ?_;focus first|omega|rfl|assumption|exact⟨_,rfl,rfl⟩|(simp;omega)|(simp;done)))
 refine aC (rs:=[.tmp 4]) Tryz.checked.mixed Tryz.func236 Tryz.ntmps236 rfl rfl rfl rfl rfl ?_
 simp -implicitDefEqProofs (disch:=omega) only[go_sem]
 refine bf rfl (sF 300 [((0,0),0)] _ xs (fun s=> !dec (s∈ys)) hl fun s hx=>hcl [] s) ?_
 simp -implicitDefEqProofs (disch:=omega) only[go_sem]
 rw[ha]
 exact aJ (by simp)
theorem A8(t:aj)(vars:List (List UInt8))(hsz:t.sz≤4194304)(hv:vars.length≤1073741824):aH Tryz.prog 226 [t.v,.c (.d (.sl (vars.map encS)))] (.c (.d (.b (gZ vars t)))):=fun S=>by
 have h1:=vv t []
 have h2:=jf t
 refine aC (rs:=[.tmp 4]) Tryz.checked.mixed Tryz.func226 Tryz.ntmps226 rfl rfl rfl rfl rfl ?_
 simp -implicitDefEqProofs (disch:=omega) only[go_sem]
 refine ay (rH t hsz) ?_
 simp -implicitDefEqProofs (disch:=omega) only[go_sem]<;>(repeat(with_reducible refine And.intro ?_ ?_;focus first|omega|rfl|assumption|exact⟨_,rfl,rfl⟩|(simp;omega)|(simp;done)))
 with_reducible refine aA (fun hb=> ?_) (fun hb=> ?_)<;>have h:=hb<;>(try simp only[wf_preprocess] at h)<;>simp -implicitDefEqProofs (disch:=omega) only[go_sem,hb]<;>(repeat(with_reducible refine And.intro ?_ ?_;focus first|omega|rfl|assumption|exact⟨_,rfl,rfl⟩|(simp;omega)|(simp;done)))
 ·refine ay (yu t hsz) ?_
  simp -implicitDefEqProofs (disch:=omega) only[go_sem]<;>(repeat(with_reducible refine And.intro ?_ ?_;focus first|omega|rfl|assumption|exact⟨_,rfl,rfl⟩|(simp;omega)|(simp;done)))
  refine ay (yS (jD [] t) vars (by simp at h1;omega) hv) ?_
  simp -implicitDefEqProofs (disch:=omega) only[go_sem]<;>(repeat(with_reducible refine And.intro ?_ ?_;focus first|omega|rfl|assumption|exact⟨_,rfl,rfl⟩|(simp;omega)|(simp;done)))
  exact aJ (by unfold gZ;rw[hb];rfl)
 ·exact aJ (by unfold gZ;rw[hb];rfl)
theorem Gb(ts:List aj)(vars:List (List UInt8))(hl:ts.length≤1073741824)(hsz:∀t∈ts,t.sz≤4194304)(hv:vars.length≤1073741824):aH Tryz.prog 224 [.c (.d (.sl (ts.map aj.enc))),.c (.d (.sl (vars.map encS)))] (.c (.d (.b (qy vars ts)))):=fun S=>by
 have ha:(ts.any fun t=> !gZ vars t)= !qy vars ts:=by unfold qy;rw[List.not_all_eq_any_not]
 have hcl:∀(rest:List Ab.Obj) (t:aj),t.sz≤4194304→j5 Tryz.prog 294 [((0,0),0)] ((.box [.d (.sl (vars.map encS))]::rest)::S) [t.v] (.c (.d (.b (!gZ vars t)))):=fun rest t ht F=>by
  refine aC (rs:=[.tmp 3]) Tryz.checked.mixed Tryz.func294 Tryz.ntmps294 rfl rfl rfl rfl rfl ?_
  simp -implicitDefEqProofs (disch:=omega) only[go_sem]
  refine ay (A8 t vars ht hv) ?_
  simp -implicitDefEqProofs (disch:=omega) only[go_sem]<;>(repeat(with_reducible refine And.intro ?_ ?_;focus first|omega|rfl|assumption|exact⟨_,rfl,rfl⟩|(simp;omega)|(simp;done)))
 refine aC (rs:=[.tmp 4]) Tryz.checked.mixed Tryz.func224 Tryz.ntmps224 rfl rfl rfl rfl rfl ?_
 simp -implicitDefEqProofs (disch:=omega) only[go_sem]
 refine bf rfl (Bg 294 [((0,0),0)] _ ts (fun t=> !gZ vars t) hl fun t hx=>hcl [] t (hsz t hx)) ?_
 simp -implicitDefEqProofs (disch:=omega) only[go_sem]
 rw[ha]
 exact aJ (by simp)
theorem DW(xs:List (List UInt8))(most:Int)(hl:xs.length≤1073741824)(hs:∀s∈xs,s.length≤4194304):aH Tryz.prog 153 [.c (.d (.sl (xs.map encS))),.c (.d (.i .i64 most))] (.c (.d (.b (dec ((xs.length:Int)≤most)&&jW xs)))):=fun S=>by
 refine aC (rs:=[.tmp 4]) Tryz.checked.mixed Tryz.func153 Tryz.ntmps153 rfl rfl rfl rfl rfl ?_
 simp -implicitDefEqProofs (disch:=omega) only[go_sem]
 with_reducible refine aA (fun hb=> ?_) (fun hb=> ?_)<;>have h:=hb<;>(try simp only[wf_preprocess] at h)<;>simp -implicitDefEqProofs (disch:=omega) only[go_sem,hb]<;>(repeat(with_reducible refine And.intro ?_ ?_;focus first|omega|rfl|assumption|exact⟨_,rfl,rfl⟩|(simp;omega)|(simp;done)))
 ·have h1:=h
  refine ay (Ga xs hl hs) ?_
  simp -implicitDefEqProofs (disch:=omega) only[go_sem]<;>(repeat(with_reducible refine And.intro ?_ ?_;focus first|omega|rfl|assumption|exact⟨_,rfl,rfl⟩|(simp;omega)|(simp;done)))
  with_reducible refine aA (fun hb=> ?_) (fun hb=> ?_)<;>have h:=hb<;>(try simp only[wf_preprocess] at h)<;>simp -implicitDefEqProofs (disch:=omega) only[go_sem,hb]<;>(repeat(with_reducible refine And.intro ?_ ?_;focus first|omega|rfl|assumption|exact⟨_,rfl,rfl⟩|(simp;omega)|(simp;done)))
  ·refine ay (yx xs hl) ?_
   simp -implicitDefEqProofs (disch:=omega) only[go_sem]<;>(repeat(with_reducible refine And.intro ?_ ?_;focus first|omega|rfl|assumption|exact⟨_,rfl,rfl⟩|(simp;omega)|(simp;done)))
   exact aJ (by rw[bR h1];unfold jW;rw[hb];simp)
  ·exact aJ (by rw[bR h1];unfold jW;rw[hb];simp)
 ·exact aJ (by rw[aQ h];rfl)
theorem Ao(t:aj)(vars:List (List UInt8))(hsz:t.sz≤4194304)(hv:vars.length≤1073741824):aH Tryz.prog 250 [t.v,.c (.d (.sl (vars.map encS)))] (.c (.d (.b (gZ vars t)))):=fun S=>by
 have h1:=vv t []
 have h2:=jf t
 have hlen:(jD [] t).length≤1073741824:=by simp at h1;omega
 refine aC (rs:=[.tmp 4]) Tryz.checked.mixed Tryz.func250 Tryz.ntmps250 rfl rfl rfl rfl rfl ?_
 simp -implicitDefEqProofs (disch:=omega) only[go_sem]
 refine ay (F6 t hsz) ?_
 simp -implicitDefEqProofs (disch:=omega) only[go_sem]<;>(repeat(with_reducible refine And.intro ?_ ?_;focus first|omega|rfl|assumption|exact⟨_,rfl,rfl⟩|(simp;omega)|(simp;done)))
 generalize hxs:jD [] t=xs at hlen
 refine aV (ι:=Nat) Tryz.checked.mixed rfl [1,2,5,6] (fun i=>[.c (.d (.sl (vars.map encS))),.c (.ptr (0,0) 0),.c (.d (.sl (xs.map encS))),.c (.d (.i .i64 i))]) (fun _=>[.box [.d (.i .i64 t.aG),.d (.s t.fName),.d (.sl (t.fArgs.map aj.enc))]]::S)
  (fun i=>i≤xs.length∧among (xs.drop i) vars=among xs vars) (fun i=>xs.length-i) 0 rfl rfl ⟨Nat.zero_le _,rfl⟩ ?_
 rintro i ⟨p1,p2⟩
 simp -implicitDefEqProofs (disch:=omega) only[go_sem,encS]
 with_reducible refine aA (fun hb=> ?_) (fun hb=> ?_)<;>have h:=hb<;>(try simp only[wf_preprocess] at h)<;>simp -implicitDefEqProofs (disch:=omega) only[go_sem,hb,encS]<;>(repeat(with_reducible refine And.intro ?_ ?_;focus first|omega|rfl|assumption|exact⟨_,rfl,rfl⟩|(simp;omega)|(simp;done)))
 ·have hi:i<xs.length:=by omega
  rw[List.drop_eq_getElem_cons hi] at p2
  have p3:among xs vars=(dec (xs[i]∈vars)&&among (xs.drop (i+1)) vars):=p2.symm
  (repeat(with_reducible refine And.intro ?_ ?_;focus first|omega|rfl|assumption|exact⟨_,rfl,rfl⟩|(simp;omega)|(simp;done)))
  refine ay (qo vars xs[i] hv) ?_
  simp -implicitDefEqProofs (disch:=omega) only[go_sem]<;>(repeat(with_reducible refine And.intro ?_ ?_;focus first|omega|rfl|assumption|exact⟨_,rfl,rfl⟩|(simp;omega)|(simp;done)))
  with_reducible refine aA (fun hb=> ?_) (fun hb=> ?_)<;>have h:=hb<;>(try simp only[wf_preprocess] at h)<;>simp -implicitDefEqProofs (disch:=omega) only[go_sem,hb]<;>(repeat(with_reducible refine And.intro ?_ ?_;focus first|omega|rfl|assumption|exact⟨_,rfl,rfl⟩|(simp;omega)|(simp;done)))
  ·exact aJ (by unfold gZ;rw[hxs,p3,aQ h];simp)
  ·exact bH (i+1) (by omega) rfl rfl ⟨by omega,by rw[p3,bR h];rfl⟩
 ·rw[List.drop_of_length_le (by omega)] at p2
  have p3:among xs vars=true:=p2.symm
  (repeat(with_reducible refine And.intro ?_ ?_;focus first|omega|rfl|assumption|exact⟨_,rfl,rfl⟩|(simp;omega)|(simp;done)))
  refine ay (rJ t hsz) ?_
  simp -implicitDefEqProofs (disch:=omega) only[go_sem]<;>(repeat(with_reducible refine And.intro ?_ ?_;focus first|omega|rfl|assumption|exact⟨_,rfl,rfl⟩|(simp;omega)|(simp;done)))
  exact aJ (by unfold gZ;rw[hxs,p3];simp)
end Go.Proofs.YtlmhknhlmicmeaaGreatDoor
namespace Go.Ab
def ops:List (List UInt8):=[[43],[45],[42],[60],[61]]
def yA(t:aj):Prop:=t.aG=0∧t.fName=[]∧t.fArgs.length=0
def oP(e:au):Prop:=
 (1≤e.aG∧e.aG≤12)∧
 (if e.aG=5∨e.aG=11 then validName e.aY=true else e.aY=[])∧
 (if e.aG=3∨e.aG=4∨e.aG=5∨e.aG=6∨e.aG=8 then validName e.fName=true else if e.aG=10 then e.fName∈ops else e.fName=[])∧
 (if e.aG=1 then -999999≤e.fN∧e.fN≤999999 else if e.aG=2 then e.fN=0∨e.fN=1 else e.fN=0)∧
 (if e.aG=12 then kI e.fType=true else yA e.fType)∧
 (if e.aG=4∨e.aG=6 then True else if e.aG=5 then 1≤e.fArgs.length else if e.aG=7∨e.aG=11∨e.aG=12 then e.fArgs.length=1 else if e.aG=8∨e.aG=10 then e.fArgs.length=2 else if e.aG=9 then e.fArgs.length=3 else e.fArgs.length=0)∧
 (e.aG=7↔0<e.aI.length)
mutual
noncomputable def fT:au→Bool
 | .mk k t n m ty a b=>dec (oP (.mk k t n m ty a b))&&(iI a&&kN b)
noncomputable def iI:List au→Bool
 |[]=>true
 |x::xs=>fT x&&iI xs
noncomputable def qI:aF→Bool
 | .mk c v b=>validName c&&(jW v&&fT b)
noncomputable def kN:List aF→Bool
 |[]=>true
 |x::xs=>qI x&&kN xs
end
theorem sG(x:au):fT x=(dec (oP x)&&(iI x.fArgs&&kN x.aI)):=by cases x;rw[fT];rfl
theorem ng(x:aF):qI x=(validName x.bL&&(jW x.aK&&fT x.fBody)):=by cases x;rw[qI];rfl
theorem MK{xs:List au}{i:Nat}(hi:i<xs.length):iI (xs.drop i)=(fT xs[i]&&iI (xs.drop (i+1))):=by rw[List.drop_eq_getElem_cons hi,iI]
theorem OC{xs:List aF}{i:Nat}(hi:i<xs.length):kN (xs.drop i)=(qI xs[i]&&kN (xs.drop (i+1))):=by rw[List.drop_eq_getElem_cons hi,kN]
theorem DX:∀{xs:List au},(xs.any fun t=> !fT t)= !iI xs
 |[]=>rfl
 |t::ts=>by rw[List.any_cons,DX (xs:=ts),iI];simp
theorem Gc:∀{xs:List aF},(xs.any fun t=> !qI t)= !kN xs
 |[]=>rfl
 |t::ts=>by rw[List.any_cons,Gc (xs:=ts),kN];simp
noncomputable def mP(e:au):Bool:=dec (e.cnt≤300)&&fT e
def kP(l:Int)(c:Nat):Int:=if l<0 then -1 else if c≤l then l-c else -1
theorem Ap{l:Int}{a b:Nat}:kP (kP l a) b=kP l (a+b):=by unfold kP;split<;>split<;>(try split)<;>(try split)<;>omega
theorem Eu{l:Int}{a:Nat}(h:l<0):kP l a= -1:=if_pos h
theorem BS{l:Int}(h: -1≤l):kP l 0=l:=by unfold kP;split<;>(try split)<;>omega
theorem Ih{l:Int}{c:Nat}(h:0≤l): -1≤kP l c∧kP l c≤l:=by unfold kP;split<;>(try split)<;>omega
theorem XZ{l:Int}{c:Nat}(h:0≤l):decide (kP l c≥0)=decide ((c:Int)≤l):=by unfold kP;rw[if_neg (by omega)];split<;>simp<;>omega
theorem JX:validName []=false:=aQ fun h=>by have:=h.1.1;simp at this
theorem UW{s:List UInt8}(h:s∈ops):s.length=1:=by simp[ops] at h;rcases h with h|h|h|h|h<;>rw[h]<;>rfl
theorem ML{s:List UInt8}(h:s∈ops):validName s=false:=aQ fun x=>by
 have h1:=x.2.2 0 (by have:=x.1.1;omega)
 simp[ops] at h;rcases h with h|h|h|h|h<;>rw[h] at h1<;>simp[lowerB,mI] at h1
theorem Gd{t:aj}(h:yA t):kI t=false:=aQ fun x=>by
 have h1:=x.1
 rw[u7,Bool.and_eq_true] at h1
 have h2:=iB h1.1
 rw[h.1] at h2
 omega
end Go.Ab
namespace Go.Ab
structure Hold (p:Prop):Prop where
 out:p
theorem Ev{P:Program}{N:Nat}{c:Code}{Q:Exit→St→Prop}{tm:List (Nat×V)}{st st':Store}(ts:List Nat)(vs:List V)(hv:ts.map (look tm)=vs)(hs:st=st')
 (h:AW P N c Q ⟨iq ts vs,st'⟩):AW P N c Q ⟨tm,st⟩:=by
 subst hs
 refine kW h ?_
 rw[←hv]
 exact El fun t=>xk _ ts t
end Go.Ab
namespace Go.Ab
theorem ZN(b:UInt8):decide (firstIdx ⟨[43,45,42,60,61].toArray⟩ b≥0)=dec ([b]∈ops):=by
 have h:∀n:Nat,n<256→decide (firstIdx ⟨[43,45,42,60,61].toArray⟩ (UInt8.ofNat n)≥0)=decide ([UInt8.ofNat n]∈ops):=by decide +kernel
 have h1:=h b.toNat (UInt8.toNat_lt b)
 rw[UInt8.ofNat_toNat] at h1
 rw[h1]
 by_cases h2:[b]∈ops
 ·rw[bR h2];simp[h2]
 ·rw[aQ h2];simp[h2]
def RU(k:Int):Int:=if k=5∨k=7∨k=11∨k=12 then 1 else if k=8∨k=10 then 2 else if k=9 then 3 else 0
def RV(k:Int):Int:=if k=4∨k=6∨k=5 then 300 else if k=7∨k=11∨k=12 then 1 else if k=8∨k=10 then 2 else if k=9 then 3 else 0
end Go.Ab
namespace Go.Proofs.YtlmhknhlmicmeaaGreatDoor
open Go Go.Ab
theorem Dm(l:List UInt8)(b:UInt8):QB Tryz.prog 376 [.c (.d (.s l)),.c (.d (.i .u8 b.toNat))] (.c (.d (.i .i64 (firstIdx ⟨l.toArray⟩ b)))):=by
 refine⟨_,Extern.BytealgIndexByte.indexByte,Tryz.func376,by kernel_rfl,by kernel_rfl,by kernel_rfl,by kernel_rfl,fun w σ S β vs hS hv=> ?_⟩
 obtain⟨hl,h⟩:=hv
 obtain⟨v0,e0,h0,_⟩:=h 0 _ rfl
 obtain⟨v1,e1,h1,_⟩:=h 1 _ rfl
 cases h0
 cases h1
 have hvs:vs=[.string ⟨l.toArray⟩,.int .u8 b.toNat]:=by
  match vs,hl,e0,e1 with
  |[x,y],_,e0,e1=>simp at e0 e1;rw[e0,e1]
 subst hvs
 refine⟨_,run_indexByte_string _ _ w,?_,rfl⟩
 have hb:(b.toNat:Int).toNat.toUInt8=b:=by simp
 rw[hb]
 exact .i _ _
theorem BU(l:List UInt8)(b:UInt8):aH Tryz.prog 362 [.c (.d (.s l)),.c (.d (.i .u8 b.toNat))] (.c (.d (.i .i64 (firstIdx ⟨l.toArray⟩ b)))):=fun S=>by
 refine aC (rs:=[.tmp 4]) Tryz.checked.mixed Tryz.func362 Tryz.ntmps362 rfl rfl rfl rfl rfl ?_
 simp -implicitDefEqProofs (disch:=omega) only[go_sem]
 refine aa0 (Dm l b) ?_
 simp -implicitDefEqProofs (disch:=omega) only[go_sem]
theorem OD(l:List UInt8)(b:UInt8)(hl:[b]≠l):aH Tryz.prog 380 [.c (.d (.s l)),.c (.d (.s [b]))] (.c (.d (.i .i64 (firstIdx ⟨l.toArray⟩ b)))):=fun S=>by
 have c1:decide (((1:Nat):Int)=0)=false:=rfl
 have c2:decide (((1:Nat):Int)=1)=true:=rfl
 refine aC (rs:=[.tmp 4]) Tryz.checked.mixed Tryz.func380 Tryz.ntmps380 rfl rfl rfl rfl rfl ?_
 simp -implicitDefEqProofs (disch:=omega) only[go_sem,c1,c2]
 with_reducible refine aA (fun hb=> ?_) (fun hb=> ?_)<;>have h:=hb<;>(try simp only[wf_preprocess] at h)<;>simp -implicitDefEqProofs (disch:=omega) only[go_sem,hb,c1,c2]<;>(repeat(with_reducible refine And.intro ?_ ?_;focus first|omega|rfl|assumption|exact⟨_,rfl,rfl⟩|(simp;omega)|(simp;done)))
 ·exact absurd h hl
 refine ay (BU l b) ?_
 simp -implicitDefEqProofs (disch:=omega) only[go_sem]<;>(repeat(with_reducible refine And.intro ?_ ?_;focus first|omega|rfl|assumption|exact⟨_,rfl,rfl⟩|(simp;omega)|(simp;done)))
theorem UY(l:List UInt8)(b:UInt8)(hl:[b]≠l):aH Tryz.prog 368 [.c (.d (.s l)),.c (.d (.s [b]))] (.c (.d (.i .i64 (firstIdx ⟨l.toArray⟩ b)))):=fun S=>by
 refine aC (rs:=[.tmp 4]) Tryz.checked.mixed Tryz.func368 Tryz.ntmps368 rfl rfl rfl rfl rfl ?_
 simp -implicitDefEqProofs (disch:=omega) only[go_sem]
 refine ay (OD l b hl) ?_
 simp -implicitDefEqProofs (disch:=omega) only[go_sem]<;>(repeat(with_reducible refine And.intro ?_ ?_;focus first|omega|rfl|assumption|exact⟨_,rfl,rfl⟩|(simp;omega)|(simp;done)))
theorem MN(l:List UInt8)(b:UInt8)(hl:[b]≠l):aH Tryz.prog 349 [.c (.d (.s l)),.c (.d (.s [b]))] (.c (.d (.b (decide (firstIdx ⟨l.toArray⟩ b≥0))))):=fun S=>by
 refine aC (rs:=[.tmp 4]) Tryz.checked.mixed Tryz.func349 Tryz.ntmps349 rfl rfl rfl rfl rfl ?_
 simp -implicitDefEqProofs (disch:=omega) only[go_sem]
 refine ay (UY l b hl) ?_
 simp -implicitDefEqProofs (disch:=omega) only[go_sem]<;>(repeat(with_reducible refine And.intro ?_ ?_;focus first|omega|rfl|assumption|exact⟨_,rfl,rfl⟩|(simp;omega)|(simp;done)))
theorem JY(s:List UInt8):aH Tryz.prog 328 [.c (.d (.s s))] (.c (.d (.b (dec (s∈ops))))):=fun S=>by
 refine aC (rs:=[.tmp 2]) Tryz.checked.mixed Tryz.func328 Tryz.ntmps328 rfl rfl rfl rfl rfl ?_
 simp -implicitDefEqProofs (disch:=omega) only[go_sem]
 with_reducible refine aA (fun hb=> ?_) (fun hb=> ?_)<;>have h:=hb<;>(try simp only[wf_preprocess] at h)<;>simp -implicitDefEqProofs (disch:=omega) only[go_sem,hb]<;>(repeat(with_reducible refine And.intro ?_ ?_;focus first|omega|rfl|assumption|exact⟨_,rfl,rfl⟩|(simp;omega)|(simp;done)))
 ·obtain⟨b,rfl⟩:=List.length_eq_one_iff.1 (show s.length=1 by omega)
  refine ay (MN [43,45,42,60,61] b (by intro x;cases x)) ?_
  simp -implicitDefEqProofs (disch:=omega) only[go_sem]<;>(repeat(with_reducible refine And.intro ?_ ?_;focus first|omega|rfl|assumption|exact⟨_,rfl,rfl⟩|(simp;omega)|(simp;done)))
  exact aJ (ZN b)
 ·exact aJ (aQ fun x=>h (by rw[UW x];rfl)).symm
theorem JZ(t:aj):aH Tryz.prog 238 [t.v] (.c (.d (.b (dec (yA t))))):=fun S=>by
 refine aC (rs:=[.tmp 2]) Tryz.checked.mixed Tryz.func238 Tryz.ntmps238 rfl rfl rfl rfl rfl ?_
 simp -implicitDefEqProofs (disch:=omega) only[go_sem]
 repeat' (first
  |with_reducible refine aA (fun hb=> ?_) (fun hb=> ?_)<;>have h:=hb<;>(try simp only[wf_preprocess] at h)<;>simp -implicitDefEqProofs (disch:=omega) only[go_sem,hb]<;>(repeat(with_reducible refine And.intro ?_ ?_;focus first|omega|rfl|assumption|exact⟨_,rfl,rfl⟩|(simp;omega)|(simp;done)))
  |(refine aJ ?_;unfold yA;grind [bR,aQ,iB,lW]))
theorem DY(k:Int):aH Tryz.prog 327 [.c (.d (.i .i64 k))] (.dS [(false,[.d (.i .i64 (RU k))]),(false,[.d (.i .i64 (RV k))])]):=fun S=>by
 refine aC (rs:=[.tmp 2,.tmp 3]) Tryz.checked.mixed Tryz.func327 Tryz.ntmps327 rfl rfl rfl rfl rfl ?_
 simp -implicitDefEqProofs (disch:=omega) only[go_sem]
 repeat' (first
  |with_reducible refine aA (fun hb=> ?_) (fun hb=> ?_)<;>have h:=hb<;>(try simp only[wf_preprocess] at h)<;>simp -implicitDefEqProofs (disch:=omega) only[go_sem,hb]<;>(repeat(with_reducible refine And.intro ?_ ?_;focus first|omega|rfl|assumption|exact⟨_,rfl,rfl⟩|(simp;omega)|(simp;done)))
  |(unfold RU RV;grind))
end Go.Proofs.YtlmhknhlmicmeaaGreatDoor
namespace Go.Ab
theorem UZ(b:UInt8):decide (firstIdx ⟨[39,45,43,42,60,61,46].toArray⟩ b≥0)=decide (b∈([39,45,43,42,60,61,46]:List UInt8)):=by
 have h:∀n:Nat,n<256→decide (firstIdx ⟨[39,45,43,42,60,61,46].toArray⟩ (UInt8.ofNat n)≥0)=decide (UInt8.ofNat n∈([39,45,43,42,60,61,46]:List UInt8)):=by decide +kernel
 have h1:=h b.toNat (UInt8.toNat_lt b)
 rwa [UInt8.ofNat_toNat] at h1
theorem X0(b:UInt8):b∈([39,45,43,42,60,61,46]:List UInt8)↔(b.toNat=39∨b.toNat=45∨b.toNat=43∨b.toNat=42∨b.toNat=60∨b.toNat=61∨b.toNat=46):=by
 have h:∀n:Nat,n<256→(UInt8.ofNat n∈([39,45,43,42,60,61,46]:List UInt8)↔(n=39∨n=45∨n=43∨n=42∨n=60∨n=61∨n=46)):=by decide +kernel
 have h1:=h b.toNat (UInt8.toNat_lt b)
 rwa [UInt8.ofNat_toNat] at h1
theorem qA(b:UInt8):iD b=true↔(97≤b.toNat∧b.toNat≤122)∨(48≤b.toNat∧b.toNat≤57)∨b.toNat=39∨b.toNat=45∨b.toNat=43∨b.toNat=42∨b.toNat=60∨b.toNat=61∨b.toNat=46:=by
 unfold iD
 rw[Bool.or_eq_true,Bool.or_eq_true,decide_eq_true_eq,decide_eq_true_eq,decide_eq_true_eq,X0,or_assoc]
theorem all_false{s:List UInt8}{i:Nat}(hi:i<s.length)(h:iD s[i]=false):s.all iD=false:=by
 rw[List.all_eq_false]
 exact⟨s[i],List.getElem_mem hi,by simp[h]⟩
theorem all_true{s:List UInt8}(h:∀j (hj:j<s.length),iD s[j]=true):s.all iD=true:=by
 rw[List.all_eq_true]
 intro b hb
 obtain⟨j,hj,e⟩:=List.getElem_of_mem hb
 rw[←e];exact h j hj
theorem wL{x:ah}{i:Nat}(hi:i<x.ak.length)(h:x.sz≤67108864):x.ak[i].sz≤67108864∧x.ak.length≤67108864∧x.aT.length≤67108864:=by
 have:=jG (List.getElem_mem hi)
 rw[jo,kY] at h
 omega
theorem zo{x:ah}(h:x.sz≤67108864):x.ak.length≤67108864∧x.aT.length≤67108864:=by
 rw[jo,kY] at h
 omega
theorem OE{l:List ah}{i:Nat}(hi:i<l.length):gN (l.drop i)=(gQ l[i]&&gN (l.drop (i+1))):=by rw[List.drop_eq_getElem_cons hi,gN]
theorem BX{l:List ah}{i:Nat}(hi:i<l.length):lQ (l.drop i)=max (jC l[i]) (lQ (l.drop (i+1))):=by rw[List.drop_eq_getElem_cons hi,lQ]
theorem DZ{l:List ah}{i:Nat}(hi:i<l.length):kK (l.drop i)=iU l[i]+kK (l.drop (i+1)):=by rw[List.drop_eq_getElem_cons hi,kK]
theorem Ew{x:ah}(h:x.sz≤67108864):iU x≤67108865:=by have:=Ma x;omega
theorem ah.Gf{x:ah}{i:Nat}(hi:i<x.ak.length):SizeOf.sizeOf x.ak[i]<SizeOf.sizeOf x:=by
 have:=List.sizeOf_lt_of_mem (List.getElem_mem hi)
 have:=ah.jU x
 omega
end Go.Ab
namespace Go.Proofs.YtlmhknhlmicmeaaGreatDoor
open Go Go.Ab
theorem Gg(l:List UInt8)(b:UInt8):aH Tryz.prog 344 [.c (.d (.s l)),.c (.d (.i .u8 b.toNat))] (.c (.d (.i .i64 (firstIdx ⟨l.toArray⟩ b)))):=fun S=>by
 refine aC (rs:=[.tmp 4]) Tryz.checked.mixed Tryz.func344 Tryz.ntmps344 rfl rfl rfl rfl rfl ?_
 simp -implicitDefEqProofs (disch:=omega) only[go_sem]
 refine ay (BU l b) ?_
 simp -implicitDefEqProofs (disch:=omega) only[go_sem]<;>(repeat(with_reducible refine And.intro ?_ ?_;focus first|omega|rfl|assumption|exact⟨_,rfl,rfl⟩|(simp;omega)|(simp;done)))
theorem J2(b:UInt8):aH Tryz.prog 318 [.c (.d (.i .u8 b.toNat))] (.c (.d (.b (iD b)))):=fun S=>by
 refine aC (rs:=[.tmp 2]) Tryz.checked.mixed Tryz.func318 Tryz.ntmps318 rfl rfl rfl rfl rfl ?_
 simp -implicitDefEqProofs (disch:=omega) only[go_sem]
 refine ay (FT b) ?_
 simp -implicitDefEqProofs (disch:=omega) only[go_sem]<;>(repeat(with_reducible refine And.intro ?_ ?_;focus first|omega|rfl|assumption|exact⟨_,rfl,rfl⟩|(simp;omega)|(simp;done)))
 with_reducible refine aA (fun hb=> ?_) (fun hb=> ?_)<;>have h:=hb<;>(try simp only[wf_preprocess] at h)<;>simp -implicitDefEqProofs (disch:=omega) only[go_sem,hb]<;>(repeat(with_reducible refine And.intro ?_ ?_;focus first|omega|rfl|assumption|exact⟨_,rfl,rfl⟩|(simp;omega)|(simp;done)))
 ·exact aJ ((qA b).2 (.inl h)).symm
 have h1:=h
 refine ay (FU b) ?_
 simp -implicitDefEqProofs (disch:=omega) only[go_sem]<;>(repeat(with_reducible refine And.intro ?_ ?_;focus first|omega|rfl|assumption|exact⟨_,rfl,rfl⟩|(simp;omega)|(simp;done)))
 with_reducible refine aA (fun hb=> ?_) (fun hb=> ?_)<;>have h:=hb<;>(try simp only[wf_preprocess] at h)<;>simp -implicitDefEqProofs (disch:=omega) only[go_sem,hb]<;>(repeat(with_reducible refine And.intro ?_ ?_;focus first|omega|rfl|assumption|exact⟨_,rfl,rfl⟩|(simp;omega)|(simp;done)))
 ·exact aJ ((qA b).2 (.inr (.inl h))).symm
 have h2:=h
 refine ay (Gg [39,45,43,42,60,61,46] b) ?_
 simp -implicitDefEqProofs (disch:=omega) only[go_sem]<;>(repeat(with_reducible refine And.intro ?_ ?_;focus first|omega|rfl|assumption|exact⟨_,rfl,rfl⟩|(simp;omega)|(simp;done)))
 refine aJ ?_
 rw[UZ]
 unfold iD
 unfold lowerB at h1
 unfold mI at h2
 simp[h1,h2]
theorem RX(s:List UInt8)(hs:s.length≤1073741824):aH Tryz.prog 268 [.c (.d (.s s))] (.c (.d (.b (validAtom s)))):=fun S=>by
 refine aC (rs:=[.tmp 2]) Tryz.checked.mixed Tryz.func268 Tryz.ntmps268 rfl rfl rfl rfl rfl ?_
 simp -implicitDefEqProofs (disch:=omega) only[go_sem]
 refine aV (ι:=Nat) Tryz.checked.mixed rfl [0,5,6] (fun i=>[.c (.d (.s s)),.c (.d (.i .i64 s.length)),.c (.d (.i .i64 i))]) (fun _=>[]::S)
  (fun i=>i≤s.length∧∀j,∀hj:j<s.length,j<i→iD s[j]=true) (fun i=>s.length-i) 0 rfl rfl ⟨Nat.zero_le _,fun j _ h=>by omega⟩ ?_
 rintro i ⟨p1,p2⟩
 simp -implicitDefEqProofs (disch:=omega) only[go_sem]
 with_reducible refine aA (fun hb=> ?_) (fun hb=> ?_)<;>have h:=hb<;>(try simp only[wf_preprocess] at h)<;>simp -implicitDefEqProofs (disch:=omega) only[go_sem,hb]<;>(repeat(with_reducible refine And.intro ?_ ?_;focus first|omega|rfl|assumption|exact⟨_,rfl,rfl⟩|(simp;omega)|(simp;done)))
 ·have hi:i<s.length:=by omega
  have e:s.getD i 0=s[i]:=by simp[List.getD,hi]
  (repeat(with_reducible refine And.intro ?_ ?_;focus first|omega|rfl|assumption|exact⟨_,rfl,rfl⟩|(simp;omega)|(simp;done)))
  rw[e]
  refine ay (J2 s[i]) ?_
  simp -implicitDefEqProofs (disch:=omega) only[go_sem]<;>(repeat(with_reducible refine And.intro ?_ ?_;focus first|omega|rfl|assumption|exact⟨_,rfl,rfl⟩|(simp;omega)|(simp;done)))
  with_reducible refine aA (fun hb=> ?_) (fun hb=> ?_)<;>have h:=hb<;>(try simp only[wf_preprocess] at h)<;>simp -implicitDefEqProofs (disch:=omega) only[go_sem,hb]<;>(repeat(with_reducible refine And.intro ?_ ?_;focus first|omega|rfl|assumption|exact⟨_,rfl,rfl⟩|(simp;omega)|(simp;done)))
  ·exact aJ (by unfold validAtom;rw[all_false hi h];rfl)
  ·refine bH (i+1) (by omega) rfl rfl ⟨by omega,fun j hj hji=> ?_⟩
   by_cases e':j=i
   ·subst e';exact h
   ·exact p2 j hj (by omega)
 ·have ha:=all_true (s:=s) (fun j hj=>p2 j hj (by omega))
  with_reducible refine aA (fun hb=> ?_) (fun hb=> ?_)<;>have h:=hb<;>(try simp only[wf_preprocess] at h)<;>simp -implicitDefEqProofs (disch:=omega) only[go_sem,hb]<;>(repeat(with_reducible refine And.intro ?_ ?_;focus first|omega|rfl|assumption|exact⟨_,rfl,rfl⟩|(simp;omega)|(simp;done)))
  ·refine aJ ?_
   unfold validAtom
   rw[ha,Bool.true_and]
   exact decide_eq_decide.2 (by omega)
  ·refine aJ ?_
   unfold validAtom
   rw[ha,Bool.true_and]
   exact(decide_eq_false (by omega)).symm
theorem U0(b:UInt8):aH Tryz.prog 322 [.c (.d (.i .u8 b.toNat))] (.c (.d (.b (iD b)))):=fun S=>by
 have yes:((97≤b.toNat∧b.toNat≤122)∨(48≤b.toNat∧b.toNat≤57)∨b.toNat=39∨b.toNat=45∨b.toNat=43∨b.toNat=42∨b.toNat=60∨b.toNat=61∨b.toNat=46)→iD b=true:=(qA b).2
 have no:¬((97≤b.toNat∧b.toNat≤122)∨(48≤b.toNat∧b.toNat≤57)∨b.toNat=39∨b.toNat=45∨b.toNat=43∨b.toNat=42∨b.toNat=60∨b.toNat=61∨b.toNat=46)→iD b=false:=fun h=>by
  cases hb:iD b with
  |false=>rfl
  |true=>exact absurd ((qA b).1 hb) h
 refine aC (rs:=[.tmp 2]) Tryz.checked.mixed Tryz.func322 Tryz.ntmps322 rfl rfl rfl rfl rfl ?_
 simp -implicitDefEqProofs (disch:=omega) only[go_sem]
 repeat' (first|(with_reducible refine aA (fun hb=> ?_) (fun hb=> ?_)<;>have h:=hb<;>(try simp only[wf_preprocess] at h)<;>simp -implicitDefEqProofs (disch:=omega) only[go_sem,hb]<;>(repeat(with_reducible refine And.intro ?_ ?_;focus first|omega|rfl|assumption|exact⟨_,rfl,rfl⟩|(simp;omega)|(simp;done)))))
 all_goals first
  |exact aJ (yes (by omega)).symm
  |exact aJ (no (by omega)).symm
  |(refine aJ ?_;cases hb:iD b<;>simp only[decide_eq_true_eq,decide_eq_false_iff_not]<;>(first|(have:=(qA b).1 hb;omega)|(intro q;have:=yes (by omega);rw[hb] at this;cases this)))
theorem RY(s:List UInt8)(hs:s.length≤1073741824):aH Tryz.prog 275 [.c (.d (.s s))] (.c (.d (.b (validAtom s)))):=fun S=>by
 refine aC (rs:=[.tmp 2]) Tryz.checked.mixed Tryz.func275 Tryz.ntmps275 rfl rfl rfl rfl rfl ?_
 simp -implicitDefEqProofs (disch:=omega) only[go_sem]
 refine aV (ι:=Nat) Tryz.checked.mixed rfl [0,3] (fun i=>[.c (.d (.s s)),.c (.d (.i .i64 i))]) (fun _=>[]::S)
  (fun i=>i≤s.length∧∀j,∀hj:j<s.length,j<i→iD s[j]=true) (fun i=>s.length-i) 0 rfl rfl ⟨Nat.zero_le _,fun j _ h=>by omega⟩ ?_
 rintro i ⟨p1,p2⟩
 simp -implicitDefEqProofs (disch:=omega) only[go_sem]
 with_reducible refine aA (fun hb=> ?_) (fun hb=> ?_)<;>have h:=hb<;>(try simp only[wf_preprocess] at h)<;>simp -implicitDefEqProofs (disch:=omega) only[go_sem,hb]<;>(repeat(with_reducible refine And.intro ?_ ?_;focus first|omega|rfl|assumption|exact⟨_,rfl,rfl⟩|(simp;omega)|(simp;done)))
 ·have hi:i<s.length:=by omega
  have e:s.getD i 0=s[i]:=by simp[List.getD,hi]
  (repeat(with_reducible refine And.intro ?_ ?_;focus first|omega|rfl|assumption|exact⟨_,rfl,rfl⟩|(simp;omega)|(simp;done)))
  rw[e]
  refine ay (U0 s[i]) ?_
  simp -implicitDefEqProofs (disch:=omega) only[go_sem]<;>(repeat(with_reducible refine And.intro ?_ ?_;focus first|omega|rfl|assumption|exact⟨_,rfl,rfl⟩|(simp;omega)|(simp;done)))
  with_reducible refine aA (fun hb=> ?_) (fun hb=> ?_)<;>have h:=hb<;>(try simp only[wf_preprocess] at h)<;>simp -implicitDefEqProofs (disch:=omega) only[go_sem,hb]<;>(repeat(with_reducible refine And.intro ?_ ?_;focus first|omega|rfl|assumption|exact⟨_,rfl,rfl⟩|(simp;omega)|(simp;done)))
  ·exact aJ (by unfold validAtom;rw[all_false hi h];rfl)
  ·refine bH (i+1) (by omega) rfl rfl ⟨by omega,fun j hj hji=> ?_⟩
   by_cases e':j=i
   ·subst e';exact h
   ·exact p2 j hj (by omega)
 ·have ha:=all_true (s:=s) (fun j hj=>p2 j hj (by omega))
  refine ay (zm s.length 1 12) ?_
  simp -implicitDefEqProofs (disch:=omega) only[go_sem]<;>(repeat(with_reducible refine And.intro ?_ ?_;focus first|omega|rfl|assumption|exact⟨_,rfl,rfl⟩|(simp;omega)|(simp;done)))
  refine aJ ?_
  unfold validAtom
  rw[ha,Bool.true_and,←j6]
  exact decide_eq_decide.2 (by omega)
theorem BZ:∀n:Nat,(∀x:ah,SizeOf.sizeOf x<n→x.sz≤67108864→aH Tryz.prog 177 [x.v] (.c (.d (.b (gQ x)))))∧
 (∀xs:List ah,SizeOf.sizeOf xs<n→xs.length≤67108864→(∀t∈xs,t.sz≤67108864)→aH Tryz.prog 269 [.c (.d (.sl (xs.map ah.enc))),.c (.fn 270 [])] (.c (.d (.b (!gN xs)))))
 |0=>⟨fun x h=>by omega,fun x h=>by omega⟩
 |n+1=>by
  obtain⟨ih,l9⟩:=BZ n
  refine⟨fun x hn hsz S=> ?_,fun xs hn hlen hsz S=> ?_⟩
  ·have iA:=ah.jU x
   have hts:=zo hsz
   have hall:∀t∈x.ak,t.sz≤67108864:=fun t ht=>by
    obtain⟨i,hi,e⟩:=List.getElem_of_mem ht
    rw[←e];exact(wL hi hsz).1
   have tail:=l9 x.ak (by omega) hts.1 hall
   have hf:=xC x
   refine aC (rs:=[.tmp 2]) Tryz.checked.mixed Tryz.func177 Tryz.ntmps177 rfl rfl rfl rfl rfl ?_
   simp -implicitDefEqProofs (disch:=omega) only[go_sem]
   with_reducible refine aA (fun hb=> ?_) (fun hb=> ?_)<;>have h:=hb<;>(try simp only[wf_preprocess] at h)<;>simp -implicitDefEqProofs (disch:=omega) only[go_sem,hb]<;>(repeat(with_reducible refine And.intro ?_ ?_;focus first|omega|rfl|assumption|exact⟨_,rfl,rfl⟩|(simp;omega)|(simp;done)))
   ·rw[if_neg h] at hf
    refine ay (RX x.aT (by omega)) ?_
    simp -implicitDefEqProofs (disch:=omega) only[go_sem]<;>(repeat(with_reducible refine And.intro ?_ ?_;focus first|omega|rfl|assumption|exact⟨_,rfl,rfl⟩|(simp;omega)|(simp;done)))
    with_reducible refine aA (fun hb=> ?_) (fun hb=> ?_)<;>have h:=hb<;>(try simp only[wf_preprocess] at h)<;>simp -implicitDefEqProofs (disch:=omega) only[go_sem,hb]<;>(repeat(with_reducible refine And.intro ?_ ?_;focus first|omega|rfl|assumption|exact⟨_,rfl,rfl⟩|(simp;omega)|(simp;done)))
    ·rw[hf,h,Bool.true_and]
     exact aJ (decide_eq_decide.2 (by omega))
    ·rw[hf,h,Bool.false_and]
   ·rw[if_pos h] at hf
    refine ay tail ?_
    simp -implicitDefEqProofs (disch:=omega) only[go_sem]
    rw[hf,Bool.not_not]
  ·have hcl:∀y∈xs,aH Tryz.prog 270 [y.v] (.c (.d (.b (!gQ y)))):=fun y hy S=>by
    have hys:=List.sizeOf_lt_of_mem hy
    refine aC (rs:=[.tmp 2]) Tryz.checked.mixed Tryz.func270 Tryz.ntmps270 rfl rfl rfl rfl rfl ?_
    simp -implicitDefEqProofs (disch:=omega) only[go_sem]
    refine ay (ih y (by omega) (hsz y hy)) ?_
    simp -implicitDefEqProofs (disch:=omega) only[go_sem]<;>(repeat(with_reducible refine And.intro ?_ ?_;focus first|omega|rfl|assumption|exact⟨_,rfl,rfl⟩|(simp;omega)|(simp;done)))
   have hidx:aH Tryz.prog 319 [.c (.d (.sl (xs.map ah.enc))),.c (.fn 270 [])] (.c (.d (.i .i64 (nI (fun y=> !gQ y) xs)))):=fun S=>by
    refine aC (rs:=[.tmp 4]) Tryz.checked.mixed Tryz.func319 Tryz.ntmps319 rfl rfl rfl rfl rfl ?_
    simp -implicitDefEqProofs (disch:=omega) only[go_sem]
    refine aV (ι:=Nat) Tryz.checked.mixed rfl [0,1,7,8] (fun i=>[.c (.d (.sl (xs.map ah.enc))),.c (.fn 270 []),.c (.d (.i .i64 xs.length)),.c (.d (.i .i64 i))]) (fun _=>[]::S)
     (fun i=>i≤xs.length∧∀j,∀hj:j<xs.length,j<i→gQ xs[j]=true) (fun i=>xs.length-i) 0 rfl rfl ⟨Nat.zero_le _,fun j _ h=>by omega⟩ ?_
    rintro i ⟨p1,p2⟩
    simp -implicitDefEqProofs (disch:=omega) only[go_sem]
    with_reducible refine aA (fun hb=> ?_) (fun hb=> ?_)<;>have h:=hb<;>(try simp only[wf_preprocess] at h)<;>simp -implicitDefEqProofs (disch:=omega) only[go_sem,hb]<;>(repeat(with_reducible refine And.intro ?_ ?_;focus first|omega|rfl|assumption|exact⟨_,rfl,rfl⟩|(simp;omega)|(simp;done)))
    ·have hi:i<xs.length:=by omega
     (repeat(with_reducible refine And.intro ?_ ?_;focus first|omega|rfl|assumption|exact⟨_,rfl,rfl⟩|(simp;omega)|(simp;done)))
     refine ay (hcl xs[i] (List.getElem_mem hi)) ?_
     simp -implicitDefEqProofs (disch:=omega) only[go_sem]<;>(repeat(with_reducible refine And.intro ?_ ?_;focus first|omega|rfl|assumption|exact⟨_,rfl,rfl⟩|(simp;omega)|(simp;done)))
     with_reducible refine aA (fun hb=> ?_) (fun hb=> ?_)<;>have h:=hb<;>(try simp only[wf_preprocess] at h)<;>simp -implicitDefEqProofs (disch:=omega) only[go_sem,hb]<;>(repeat(with_reducible refine And.intro ?_ ?_;focus first|omega|rfl|assumption|exact⟨_,rfl,rfl⟩|(simp;omega)|(simp;done)))
     ·rw[mY hi (fun j hj hji=>by rw[p2 j hj hji];rfl) (by rw[h];rfl)]
     ·refine bH (i+1) (by omega) rfl rfl ⟨by omega,fun j hj hji=> ?_⟩
      by_cases e:j=i
      ·subst e;exact h
      ·exact p2 j hj (by omega)
    ·rw[p9 (fun j hj=>by rw[p2 j hj (by omega)];rfl)]
   refine aC (rs:=[.tmp 4]) Tryz.checked.mixed Tryz.func269 Tryz.ntmps269 rfl rfl rfl rfl rfl ?_
   simp -implicitDefEqProofs (disch:=omega) only[go_sem]
   refine ay (hidx) ?_
   simp -implicitDefEqProofs (disch:=omega) only[go_sem]<;>(repeat(with_reducible refine And.intro ?_ ?_;focus first|omega|rfl|assumption|exact⟨_,rfl,rfl⟩|(simp;omega)|(simp;done)))
   rw[←FE]
   exact aJ oo
theorem OG(x:ah)(hsz:x.sz≤67108864):aH Tryz.prog 177 [x.v] (.c (.d (.b (gQ x)))):=(BZ _).1 x (Nat.lt_succ_self _) hsz
theorem zq:∀n:Nat,∀x:ah,SizeOf.sizeOf x<n→x.sz≤67108864→aH Tryz.prog 178 [x.v] (.c (.d (.i .i64 (jC x))))
 |0=>fun x h=>by omega
 |n+1=>by
  have ih:=zq n
  intro x hn hsz S
  have hts:=zo hsz
  have hd:=I6 x
  have hd1:=yN x
  have hd2:=Ew hsz
  refine aC (rs:=[.tmp 2]) Tryz.checked.mixed Tryz.func178 Tryz.ntmps178 rfl rfl rfl rfl rfl ?_
  simp -implicitDefEqProofs (disch:=omega) only[go_sem]
  with_reducible refine aA (fun hb=> ?_) (fun hb=> ?_)<;>have h:=hb<;>(try simp only[wf_preprocess] at h)<;>simp -implicitDefEqProofs (disch:=omega) only[go_sem,hb]<;>(repeat(with_reducible refine And.intro ?_ ?_;focus first|omega|rfl|assumption|exact⟨_,rfl,rfl⟩|(simp;omega)|(simp;done)))
  ·rw[if_neg h] at hd
   rw[hd];rfl
  rw[if_pos h] at hd
  refine aV (ι:=Nat×Nat) Tryz.checked.mixed rfl [3,10,11,12] (fun y=>[.c (.d (.i .i64 y.2)),.c (.d (.sl (x.ak.map ah.enc))),.c (.d (.i .i64 x.ak.length)),.c (.d (.i .i64 y.1))]) (fun y=>[.box [.d (.s x.aT),.d (.sl (x.ak.map ah.enc))]]::S)
   (fun y=>y.1≤x.ak.length∧jC x=max y.2 (lQ (x.ak.drop y.1))+1) (fun y=>x.ak.length-y.1) (0,0) rfl rfl ⟨Nat.zero_le _,by simp[hd]⟩ ?_
  rintro⟨i,c⟩ ⟨p1,p2⟩
  simp only at p1 p2
  simp -implicitDefEqProofs (disch:=omega) only[go_sem]
  with_reducible refine aA (fun hb=> ?_) (fun hb=> ?_)<;>have h:=hb<;>(try simp only[wf_preprocess] at h)<;>simp -implicitDefEqProofs (disch:=omega) only[go_sem,hb]<;>(repeat(with_reducible refine And.intro ?_ ?_;focus first|omega|rfl|assumption|exact⟨_,rfl,rfl⟩|(simp;omega)|(simp;done)))
  ·have hi:i<x.ak.length:=by omega
   have hsz':=wL hi hsz
   rw[BX hi] at p2
   (repeat(with_reducible refine And.intro ?_ ?_;focus first|omega|rfl|assumption|exact⟨_,rfl,rfl⟩|(simp;omega)|(simp;done)))
   refine ay (ih x.ak[i] (by have:=ah.Gf hi;omega) (by omega)) ?_
   simp -implicitDefEqProofs (disch:=omega) only[go_sem]<;>(repeat(with_reducible refine And.intro ?_ ?_;focus first|omega|rfl|assumption|exact⟨_,rfl,rfl⟩|(simp;omega)|(simp;done)))
   rw[show max (c:Int) ((jC x.ak[i]:Int))=((max c (jC x.ak[i]):Nat):Int) by omega]
   exact dV 1 (by decide) (i+1,max c (jC x.ak[i])) (by simp only;omega) rfl rfl rfl rfl ⟨by simp only;omega,by simp only;omega⟩
  ·have hi:i=x.ak.length:=by omega
   rw[hi,List.drop_length,lQ] at p2
   (repeat(with_reducible refine And.intro ?_ ?_;focus first|omega|rfl|assumption|exact⟨_,rfl,rfl⟩|(simp;omega)|(simp;done)))
   exact int_eq (by omega)
theorem J3(x:ah)(hsz:x.sz≤67108864):aH Tryz.prog 178 [x.v] (.c (.d (.i .i64 (jC x)))):=zq _ x (Nat.lt_succ_self _) hsz
theorem A9:∀n:Nat,∀x:ah,SizeOf.sizeOf x<n→x.sz≤67108864→aH Tryz.prog 179 [x.v] (.c (.d (.i .i64 (iU x))))
 |0=>fun x h=>by omega
 |n+1=>by
  have ih:=A9 n
  intro x hn hsz S
  have hts:=zo hsz
  have hd2:=Ew hsz
  refine aC (rs:=[.tmp 2]) Tryz.checked.mixed Tryz.func179 Tryz.ntmps179 rfl rfl rfl rfl rfl ?_
  simp -implicitDefEqProofs (disch:=omega) only[go_sem]
  refine aV (ι:=Nat×Nat) Tryz.checked.mixed rfl [3,7,8,9] (fun y=>[.c (.d (.i .i64 y.2)),.c (.d (.sl (x.ak.map ah.enc))),.c (.d (.i .i64 x.ak.length)),.c (.d (.i .i64 y.1))]) (fun y=>[.box [.d (.s x.aT),.d (.sl (x.ak.map ah.enc))]]::S)
   (fun y=>y.1≤x.ak.length∧iU x=y.2+kK (x.ak.drop y.1)) (fun y=>x.ak.length-y.1) (0,1) rfl rfl ⟨Nat.zero_le _,by simp[L9];omega⟩ ?_
  rintro⟨i,c⟩ ⟨p1,p2⟩
  simp only at p1 p2
  simp -implicitDefEqProofs (disch:=omega) only[go_sem]
  with_reducible refine aA (fun hb=> ?_) (fun hb=> ?_)<;>have h:=hb<;>(try simp only[wf_preprocess] at h)<;>simp -implicitDefEqProofs (disch:=omega) only[go_sem,hb]<;>(repeat(with_reducible refine And.intro ?_ ?_;focus first|omega|rfl|assumption|exact⟨_,rfl,rfl⟩|(simp;omega)|(simp;done)))
  ·have hi:i<x.ak.length:=by omega
   have hsz':=wL hi hsz
   rw[DZ hi] at p2
   (repeat(with_reducible refine And.intro ?_ ?_;focus first|omega|rfl|assumption|exact⟨_,rfl,rfl⟩|(simp;omega)|(simp;done)))
   refine ay (ih x.ak[i] (by have:=ah.Gf hi;omega) (by omega)) ?_
   simp -implicitDefEqProofs (disch:=omega) only[go_sem]<;>(repeat(with_reducible refine And.intro ?_ ?_;focus first|omega|rfl|assumption|exact⟨_,rfl,rfl⟩|(simp;omega)|(simp;done)))
   rw[show(c:Int)+(iU x.ak[i]:Int)=((c+iU x.ak[i]:Nat):Int) by omega]
   exact dV 1 (by decide) (i+1,c+iU x.ak[i]) (by simp only;omega) rfl rfl rfl rfl ⟨by simp only;omega,by simp only;omega⟩
  ·have hi:i=x.ak.length:=by omega
   rw[hi,List.drop_length,kK] at p2
   exact int_eq (by omega)
theorem MO(x:ah)(hsz:x.sz≤67108864):aH Tryz.prog 179 [x.v] (.c (.d (.i .i64 (iU x)))):=A9 _ x (Nat.lt_succ_self _) hsz
theorem J4(x:ah)(hsz:x.sz≤67108864):aH Tryz.prog 73 [x.v] (.c (.d (.b (iL x)))):=fun S=>by
 refine aC (rs:=[.tmp 2]) Tryz.checked.mixed Tryz.func73 Tryz.ntmps73 rfl rfl rfl rfl rfl ?_
 simp -implicitDefEqProofs (disch:=omega) only[go_sem]
 refine ay (OG x hsz) ?_
 simp -implicitDefEqProofs (disch:=omega) only[go_sem]<;>(repeat(with_reducible refine And.intro ?_ ?_;focus first|omega|rfl|assumption|exact⟨_,rfl,rfl⟩|(simp;omega)|(simp;done)))
 with_reducible refine aA (fun hb=> ?_) (fun hb=> ?_)<;>have h:=hb<;>(try simp only[wf_preprocess] at h)<;>simp -implicitDefEqProofs (disch:=omega) only[go_sem,hb]<;>(repeat(with_reducible refine And.intro ?_ ?_;focus first|omega|rfl|assumption|exact⟨_,rfl,rfl⟩|(simp;omega)|(simp;done)))
 ·have hf:=h
  refine ay (J3 x hsz) ?_
  simp -implicitDefEqProofs (disch:=omega) only[go_sem]<;>(repeat(with_reducible refine And.intro ?_ ?_;focus first|omega|rfl|assumption|exact⟨_,rfl,rfl⟩|(simp;omega)|(simp;done)))
  with_reducible refine aA (fun hb=> ?_) (fun hb=> ?_)<;>have h:=hb<;>(try simp only[wf_preprocess] at h)<;>simp -implicitDefEqProofs (disch:=omega) only[go_sem,hb]<;>(repeat(with_reducible refine And.intro ?_ ?_;focus first|omega|rfl|assumption|exact⟨_,rfl,rfl⟩|(simp;omega)|(simp;done)))
  ·refine ay (MO x hsz) ?_
   simp -implicitDefEqProofs (disch:=omega) only[go_sem]<;>(repeat(with_reducible refine And.intro ?_ ?_;focus first|omega|rfl|assumption|exact⟨_,rfl,rfl⟩|(simp;omega)|(simp;done)))
   refine aJ ?_
   unfold iL
   rw[hf,Bool.true_and]
   exact decide_eq_decide.2 (by omega)
  ·refine aJ ?_
   unfold iL
   rw[hf,Bool.true_and]
   exact(decide_eq_false (by omega)).symm
 ·refine aJ ?_
  unfold iL
  rw[h,Bool.false_and]
theorem Gh:∀n:Nat,∀x:ah,SizeOf.sizeOf x<n→∀l:Int,0≤l→l≤1073741824→x.sz≤67108864→aH Tryz.prog 194 [x.v,.c (.d (.i .i64 l))] (.c (.d (.i .i64 (gV l (iU x)))))
 |0=>fun x h=>by omega
 |n+1=>by
  have ih:=Gh n
  intro x hn l h0 h1 hsz S
  have hts:=zo hsz
  have hcn:=L9 x
  refine aC (rs:=[.tmp 4]) Tryz.checked.mixed Tryz.func194 Tryz.ntmps194 rfl rfl rfl rfl rfl ?_
  simp -implicitDefEqProofs (disch:=omega) only[go_sem]
  refine aV (ι:=Nat×Int) Tryz.checked.mixed rfl [1,2,5] (fun y=>[.c (.d (.i .i64 y.2)),.c (.ptr (0,0) 0),.c (.d (.i .i64 y.1))]) (fun y=>[.box [.d (.s x.aT),.d (.sl (x.ak.map ah.enc))]]::S)
   (fun y=>y.1≤x.ak.length∧ -1≤y.2∧y.2≤1073741824∧(0≤y.2→gV l (iU x)=gV y.2 (kK (x.ak.drop y.1)))∧(y.2<0→gV l (iU x)= -1)) (fun y=>x.ak.length-y.1) (0,l-1) rfl rfl ⟨Nat.zero_le _,by simp only;omega,by simp only;omega,fun h=> ?_,fun h=> ?_⟩ ?_
  ·simp only[List.drop_zero] at h ⊢
   unfold gV
   rw[hcn]
   split<;>split<;>omega
  ·simp only at h
   exact rV (by omega)
  rintro⟨i,c⟩ ⟨p1,p2,p3,p4,p5⟩
  simp only at p1 p2 p3 p4 p5
  simp -implicitDefEqProofs (disch:=omega) only[go_sem]
  with_reducible refine aA (fun hb=> ?_) (fun hb=> ?_)<;>have h:=hb<;>(try simp only[wf_preprocess] at h)<;>simp -implicitDefEqProofs (disch:=omega) only[go_sem,hb]<;>(repeat(with_reducible refine And.intro ?_ ?_;focus first|omega|rfl|assumption|exact⟨_,rfl,rfl⟩|(simp;omega)|(simp;done)))
  ·have hi:i<x.ak.length:=by omega
   with_reducible refine aA (fun hb=> ?_) (fun hb=> ?_)<;>have h:=hb<;>(try simp only[wf_preprocess] at h)<;>simp -implicitDefEqProofs (disch:=omega) only[go_sem,hb]<;>(repeat(with_reducible refine And.intro ?_ ?_;focus first|omega|rfl|assumption|exact⟨_,rfl,rfl⟩|(simp;omega)|(simp;done)))
   ·have hsz':=wL hi hsz
    have p6:=p4 h
    rw[DZ hi] at p6
    (repeat(with_reducible refine And.intro ?_ ?_;focus first|omega|rfl|assumption|exact⟨_,rfl,rfl⟩|(simp;omega)|(simp;done)))
    refine ay (ih x.ak[i] (by have:=ah.Gf hi;omega) c (by omega) (by omega) (by omega)) ?_
    simp -implicitDefEqProofs (disch:=omega) only[go_sem]<;>(repeat(with_reducible refine And.intro ?_ ?_;focus first|omega|rfl|assumption|exact⟨_,rfl,rfl⟩|(simp;omega)|(simp;done)))
    refine bH (i+1,gV c _) (by simp only;omega) rfl rfl ⟨by simp only;omega,?_,?_,fun h=> ?_,fun h=> ?_⟩
    ·simp only;unfold gV;split<;>omega
    ·simp only;unfold gV;split<;>omega
    ·simp only at h ⊢
     rw[p6]
     have:=uh (l:=c) (a:=iU x.ak[i]) (by omega)
     rw[this.1]
     unfold gV
     split<;>split<;>omega
    ·simp only at h ⊢
     rw[p6]
     have:=uj h
     exact rV (by omega)
   ·have hc:c= -1:=by omega
    rw[p5 (by omega),hc]
  ·have hi:i=x.ak.length:=by omega
   by_cases hc:0≤c
   ·rw[p4 hc,hi,List.drop_length,kK,Aa (by omega)]
    exact int_eq (by simp)
   ·rw[p5 (by omega)]
    exact int_eq (by omega)
theorem U1(x:ah)(l:Int)(h0:0≤l)(h1:l≤1073741824)(hsz:x.sz≤67108864):aH Tryz.prog 194 [x.v,.c (.d (.i .i64 l))] (.c (.d (.i .i64 (gV l (iU x))))):=Gh _ x (Nat.lt_succ_self _) l h0 h1 hsz
theorem Gi:∀n:Nat,∀x:ah,SizeOf.sizeOf x<n→x.sz≤67108864→aH Tryz.prog 195 [x.v] (.c (.d (.b (gQ x))))
 |0=>fun x h=>by omega
 |n+1=>by
  have ih:=Gi n
  intro x hn hsz S
  have hts:=zo hsz
  have hf:=xC x
  refine aC (rs:=[.tmp 2]) Tryz.checked.mixed Tryz.func195 Tryz.ntmps195 rfl rfl rfl rfl rfl ?_
  simp -implicitDefEqProofs (disch:=omega) only[go_sem]
  with_reducible refine aA (fun hb=> ?_) (fun hb=> ?_)<;>have h:=hb<;>(try simp only[wf_preprocess] at h)<;>simp -implicitDefEqProofs (disch:=omega) only[go_sem,hb]<;>(repeat(with_reducible refine And.intro ?_ ?_;focus first|omega|rfl|assumption|exact⟨_,rfl,rfl⟩|(simp;omega)|(simp;done)))
  ·rw[if_neg h] at hf
   refine ay (RY x.aT (by omega)) ?_
   simp -implicitDefEqProofs (disch:=omega) only[go_sem]<;>(repeat(with_reducible refine And.intro ?_ ?_;focus first|omega|rfl|assumption|exact⟨_,rfl,rfl⟩|(simp;omega)|(simp;done)))
   with_reducible refine aA (fun hb=> ?_) (fun hb=> ?_)<;>have h:=hb<;>(try simp only[wf_preprocess] at h)<;>simp -implicitDefEqProofs (disch:=omega) only[go_sem,hb]<;>(repeat(with_reducible refine And.intro ?_ ?_;focus first|omega|rfl|assumption|exact⟨_,rfl,rfl⟩|(simp;omega)|(simp;done)))
   ·rw[hf,h,Bool.true_and]
    exact aJ (decide_eq_decide.2 (by omega))
   ·rw[hf,h,Bool.false_and]
  rw[if_pos h] at hf
  refine aV (ι:=Nat) Tryz.checked.mixed rfl [1,3] (fun y=>[.c (.ptr (0,0) 0),.c (.d (.i .i64 y))]) (fun y=>[.box [.d (.s x.aT),.d (.sl (x.ak.map ah.enc))]]::S)
   (fun y=>y≤x.ak.length∧gQ x=gN (x.ak.drop y)) (fun y=>x.ak.length-y) 0 rfl rfl ⟨Nat.zero_le _,hf⟩ ?_
  rintro i ⟨p1,p2⟩
  simp -implicitDefEqProofs (disch:=omega) only[go_sem]
  with_reducible refine aA (fun hb=> ?_) (fun hb=> ?_)<;>have h:=hb<;>(try simp only[wf_preprocess] at h)<;>simp -implicitDefEqProofs (disch:=omega) only[go_sem,hb]<;>(repeat(with_reducible refine And.intro ?_ ?_;focus first|omega|rfl|assumption|exact⟨_,rfl,rfl⟩|(simp;omega)|(simp;done)))
  ·have hi:i<x.ak.length:=by omega
   have hsz':=wL hi hsz
   rw[OE hi] at p2
   (repeat(with_reducible refine And.intro ?_ ?_;focus first|omega|rfl|assumption|exact⟨_,rfl,rfl⟩|(simp;omega)|(simp;done)))
   refine ay (ih x.ak[i] (by have:=ah.Gf hi;omega) (by omega)) ?_
   simp -implicitDefEqProofs (disch:=omega) only[go_sem]<;>(repeat(with_reducible refine And.intro ?_ ?_;focus first|omega|rfl|assumption|exact⟨_,rfl,rfl⟩|(simp;omega)|(simp;done)))
   with_reducible refine aA (fun hb=> ?_) (fun hb=> ?_)<;>have h:=hb<;>(try simp only[wf_preprocess] at h)<;>simp -implicitDefEqProofs (disch:=omega) only[go_sem,hb]<;>(repeat(with_reducible refine And.intro ?_ ?_;focus first|omega|rfl|assumption|exact⟨_,rfl,rfl⟩|(simp;omega)|(simp;done)))
   ·rw[p2,h,Bool.false_and]
   ·exact bH (i+1) (by omega) rfl rfl ⟨by omega,by rw[p2,h,Bool.true_and]⟩
  ·have hi:i=x.ak.length:=by omega
   rw[hi,List.drop_length,gN] at p2
   rw[p2]
theorem U2(x:ah)(hsz:x.sz≤67108864):aH Tryz.prog 195 [x.v] (.c (.d (.b (gQ x)))):=Gi _ x (Nat.lt_succ_self _) hsz
theorem zu:∀n:Nat,∀x:ah,SizeOf.sizeOf x<n→x.sz≤67108864→aH Tryz.prog 196 [x.v] (.c (.d (.i .i64 (jC x))))
 |0=>fun x h=>by omega
 |n+1=>by
  have ih:=zu n
  intro x hn hsz S
  have hts:=zo hsz
  have hd:=I6 x
  have hd1:=yN x
  have hd2:=Ew hsz
  refine aC (rs:=[.tmp 2]) Tryz.checked.mixed Tryz.func196 Tryz.ntmps196 rfl rfl rfl rfl rfl ?_
  simp -implicitDefEqProofs (disch:=omega) only[go_sem]
  with_reducible refine aA (fun hb=> ?_) (fun hb=> ?_)<;>have h:=hb<;>(try simp only[wf_preprocess] at h)<;>simp -implicitDefEqProofs (disch:=omega) only[go_sem,hb]<;>(repeat(with_reducible refine And.intro ?_ ?_;focus first|omega|rfl|assumption|exact⟨_,rfl,rfl⟩|(simp;omega)|(simp;done)))
  ·rw[if_neg h] at hd
   rw[hd];rfl
  rw[if_pos h] at hd
  refine aV (ι:=Nat×Nat) Tryz.checked.mixed rfl [1,3,4] (fun y=>[.c (.ptr (0,0) 0),.c (.d (.i .i64 y.2)),.c (.d (.i .i64 y.1))]) (fun y=>[.box [.d (.s x.aT),.d (.sl (x.ak.map ah.enc))]]::S)
   (fun y=>y.1≤x.ak.length∧jC x=max y.2 (lQ (x.ak.drop y.1))+1) (fun y=>x.ak.length-y.1) (0,0) rfl rfl ⟨Nat.zero_le _,by simp[hd]⟩ ?_
  rintro⟨i,c⟩ ⟨p1,p2⟩
  simp only at p1 p2
  simp -implicitDefEqProofs (disch:=omega) only[go_sem]
  with_reducible refine aA (fun hb=> ?_) (fun hb=> ?_)<;>have h:=hb<;>(try simp only[wf_preprocess] at h)<;>simp -implicitDefEqProofs (disch:=omega) only[go_sem,hb]<;>(repeat(with_reducible refine And.intro ?_ ?_;focus first|omega|rfl|assumption|exact⟨_,rfl,rfl⟩|(simp;omega)|(simp;done)))
  ·have hi:i<x.ak.length:=by omega
   have hsz':=wL hi hsz
   rw[BX hi] at p2
   (repeat(with_reducible refine And.intro ?_ ?_;focus first|omega|rfl|assumption|exact⟨_,rfl,rfl⟩|(simp;omega)|(simp;done)))
   refine ay (ih x.ak[i] (by have:=ah.Gf hi;omega) (by omega)) ?_
   simp -implicitDefEqProofs (disch:=omega) only[go_sem]<;>(repeat(with_reducible refine And.intro ?_ ?_;focus first|omega|rfl|assumption|exact⟨_,rfl,rfl⟩|(simp;omega)|(simp;done)))
   refine ay (MG _ _) ?_
   simp -implicitDefEqProofs (disch:=omega) only[go_sem]<;>(repeat(with_reducible refine And.intro ?_ ?_;focus first|omega|rfl|assumption|exact⟨_,rfl,rfl⟩|(simp;omega)|(simp;done)))
   rw[show max (c:Int) ((jC x.ak[i]:Int))=((max c (jC x.ak[i]):Nat):Int) by omega]
   exact bH (i+1,max c (jC x.ak[i])) (by simp only;omega) rfl rfl ⟨by simp only;omega,by simp only;omega⟩
  ·have hi:i=x.ak.length:=by omega
   rw[hi,List.drop_length,lQ] at p2
   (repeat(with_reducible refine And.intro ?_ ?_;focus first|omega|rfl|assumption|exact⟨_,rfl,rfl⟩|(simp;omega)|(simp;done)))
   exact int_eq (by omega)
theorem J5(x:ah)(hsz:x.sz≤67108864):aH Tryz.prog 196 [x.v] (.c (.d (.i .i64 (jC x)))):=zu _ x (Nat.lt_succ_self _) hsz
theorem vP(x:ah)(hsz:x.sz≤67108864):aH Tryz.prog 104 [x.v] (.c (.d (.b (iL x)))):=fun S=>by
 refine aC (rs:=[.tmp 2]) Tryz.checked.mixed Tryz.func104 Tryz.ntmps104 rfl rfl rfl rfl rfl ?_
 simp -implicitDefEqProofs (disch:=omega) only[go_sem]
 refine ay (U1 x 900 (by omega) (by omega) hsz) ?_
 simp -implicitDefEqProofs (disch:=omega) only[go_sem]<;>(repeat(with_reducible refine And.intro ?_ ?_;focus first|omega|rfl|assumption|exact⟨_,rfl,rfl⟩|(simp;omega)|(simp;done)))
 with_reducible refine aA (fun hb=> ?_) (fun hb=> ?_)<;>have h:=hb<;>(try simp only[wf_preprocess] at h)<;>simp -implicitDefEqProofs (disch:=omega) only[go_sem,hb]<;>(repeat(with_reducible refine And.intro ?_ ?_;focus first|omega|rfl|assumption|exact⟨_,rfl,rfl⟩|(simp;omega)|(simp;done)))
 ·have h1:=(uh (l:=900) (a:=iU x) (by omega)).2
  refine ay (U2 x hsz) ?_
  simp -implicitDefEqProofs (disch:=omega) only[go_sem]<;>(repeat(with_reducible refine And.intro ?_ ?_;focus first|omega|rfl|assumption|exact⟨_,rfl,rfl⟩|(simp;omega)|(simp;done)))
  with_reducible refine aA (fun hb=> ?_) (fun hb=> ?_)<;>have h:=hb<;>(try simp only[wf_preprocess] at h)<;>simp -implicitDefEqProofs (disch:=omega) only[go_sem,hb]<;>(repeat(with_reducible refine And.intro ?_ ?_;focus first|omega|rfl|assumption|exact⟨_,rfl,rfl⟩|(simp;omega)|(simp;done)))
  ·have hf:=h
   refine ay (J5 x hsz) ?_
   simp -implicitDefEqProofs (disch:=omega) only[go_sem]<;>(repeat(with_reducible refine And.intro ?_ ?_;focus first|omega|rfl|assumption|exact⟨_,rfl,rfl⟩|(simp;omega)|(simp;done)))
   refine aJ ?_
   unfold iL
   rw[hf,Bool.true_and]
   exact decide_eq_decide.2 (by omega)
  ·refine aJ ?_
   unfold iL
   rw[h,Bool.false_and]
 ·have h1:=uj (l:=900) (a:=iU x) (by omega)
  refine aJ ?_
  unfold iL
  rw[decide_eq_false (by omega),Bool.and_false]
end Go.Proofs.YtlmhknhlmicmeaaGreatDoor
namespace Go.Ab
def lx(l:List ah)(n:Nat):List (List D):=dZ (l.map ah.enc) n
def xG(x:ah):Nat:=nJ x.enc
def gH(l:List ah):Nat:=iH (l.map ah.enc)
theorem oQ(x:ah)(n:Nat):dO x.enc n=[.s x.aT,.ol n (lx x.ak (n+1))]:=by
 rw[ah.aD];simp only[dO,kL,mZ,Nat.add_zero,lx]
theorem sH(s:List UInt8)(n:Nat):dO (bg s).enc n=[.s s,.ol n []]:=by rw[oQ];rfl
theorem ZO(x:ah):xG x=gH x.ak+1:=by
 unfold xG gH
 rw[ah.aD];simp only[nJ,mZ];omega
theorem sI(s:List UInt8):xG (bg s)=1:=by rw[ZO];rfl
theorem vw(n:Nat):lx [] n=[]:=rfl
theorem oU(x:ah)(l:List ah)(n:Nat):lx (x::l) n=dO x.enc n::lx l (n+xG x):=rfl
theorem ji(a b:List ah)(n:Nat):lx (a++b) n=lx a n++lx b (n+gH a):=by unfold lx gH;rw[List.map_append,nK]
theorem U3:gH []=0:=rfl
theorem RZ(x:ah)(l:List ah):gH (x::l)=xG x+gH l:=rfl
theorem gD(l:List ah)(n:Nat):(lx l n).length=l.length:=by unfold lx;rw[iM,List.length_map]
theorem lT{l:List ah}{n:Nat}:∀r∈lx l n,r.length=2:=wE fun r hr=>by
 obtain⟨z,_,rfl⟩:=List.mem_map.1 hr
 exact z.bC
theorem Ii{l:List ah}{i:Nat}(hi:i<l.length)(n:Nat):lx (l.take i) n++[dO l[i].enc (n+gH (l.take i))]=lx (l.take (i+1)) n:=by
 rw[List.take_succ_eq_append_getElem hi,ji];rfl
theorem Aq{l:List ah}{i:Nat}(hi:i<l.length)(n:Nat):lx (l.take i) n++[[.s l[i].aT,.ol (n+gH (l.take i)) (lx l[i].ak (n+gH (l.take i)+1))]]=lx (l.take (i+1)) n:=by
 rw[←Ii hi,oQ]
theorem X3{base l:List ah}{i:Nat}(hi:i<l.length)(q:Nat):lx (base++l.take i) q++[[.s l[i].aT,.ol (q+gH (base++l.take i)) (lx l[i].ak (q+gH (base++l.take i)+1))]]=lx (base++l.take (i+1)) q:=by
 rw[List.take_succ_eq_append_getElem hi,←List.append_assoc,ji (base++l.take i),oU,vw,oQ]
theorem jX{l:List ah}:∀r∈l.map ah.enc,r.length=2:=fun r hr=>by
 obtain⟨z,_,rfl⟩:=List.mem_map.1 hr
 exact z.bC
theorem yT{cs cs':List C}(hl:cs'.length=cs.length)(h:∀(j:Nat) (x y:C),cs[j]? =some x→cs'[j]? =some y→∀w σ S β v,fH w σ S β x v→fH w σ S β y v):Less (.agg cs) (.agg cs'):=by
 rintro w σ S β v ⟨a,ha,hc⟩
 refine⟨a,ha,hl.trans hc.1,fun j y hy=> ?_⟩
 have hj:j<cs.length:=by rw[←hl];exact(List.getElem?_eq_some_iff.1 hy).1
 obtain⟨v,h1,h2,h3⟩:=hc.2 j _ (List.getElem?_eq_getElem hj)
 exact⟨v,h1,h j _ y (List.getElem?_eq_getElem hj) hy w σ S β v h2,h3⟩
theorem abv{w:World}{σ:Nat→Nat}{S:Store}{β:Hs}{v:Value}(n:Nat)(h:fH w σ S β (.aL []) v):fH w σ S β (.d (.ol n [])) v:=by
 obtain⟨hd,ad,m,hval⟩:=h
 have hm:m=0:=by rw[hval] at hd;cases hd<;>rfl
 subst hm
 rw[hval]
 exact .pK _ _ _
theorem ZP(s:List UInt8)(n:Nat):Less (.agg [.d (.s s),.aL []]) (.agg [.d (.s s),.d (.ol n [])]):=yT rfl fun j x y hx hy w σ S β v hv=>by
 match j,hx,hy with
 |0,hx,hy=>cases hx;cases hy;exact hv
 |1,hx,hy=>cases hx;cases hy;exact abv _ hv
 |j+2,hx,hy=>simp at hx
theorem ZQ(s:List UInt8)(n:Nat)(es:List (List D)):Less (.agg [.d (.s s),.ig n es]) (.agg [.d (.s s),.d (.ol n es)]):=yT rfl fun j x y hx hy w σ S β v hv=>by
 match j,hx,hy with
 |0,hx,hy=>cases hx;cases hy;exact hv
 |1,hx,hy=>cases hx;cases hy;exact hv.1
 |j+2,hx,hy=>simp at hx
end Go.Ab
namespace Go.Proofs.YtlmhknhlmicmeaaGreatDoor
open Go Go.Ab
theorem OH(s:List UInt8):aH Tryz.prog 67 [.c (.d (.s s))] (.agg [.d (.s s),.aL []]):=fun S=>by
 refine aC (rs:=[.cell 2 32]) Tryz.checked.mixed Tryz.func67 Tryz.ntmps67 rfl rfl rfl rfl rfl ?_
 simp -implicitDefEqProofs (disch:=omega) only[go_sem]
theorem eT(s:List UInt8)(n:Nat):aH Tryz.prog 67 [.c (.d (.s s))] (.agg [.d (.s s),.d (.ol n [])]):=aH.less (OH s) (ZP s n)
theorem wF(d:D):aH Tryz.prog 75 [.c (.d d)] (.agg [.d (.s []),.d d]):=fun S=>by
 refine aC (rs:=[.cell 2 32]) Tryz.checked.mixed Tryz.func75 Tryz.ntmps75 rfl rfl rfl rfl rfl ?_
 simp -implicitDefEqProofs (disch:=omega) only[go_sem]
theorem OI(n:Nat)(es:List (List D)):aH Tryz.prog 75 [.c (.ig n es)] (.agg [.d (.s []),.ig n es]):=fun S=>by
 refine aC (rs:=[.cell 2 32]) Tryz.checked.mixed Tryz.func75 Tryz.ntmps75 rfl rfl rfl rfl rfl ?_
 simp -implicitDefEqProofs (disch:=omega) only[go_sem]
theorem tu(n:Nat)(es:List (List D)):aH Tryz.prog 75 [.c (.ig n es)] (.agg [.d (.s []),.d (.ol n es)]):=aH.less (OI n es) (ZQ [] n es)
theorem kg(l j:Nat)(es:List (List D))(S:Store):bA Tryz.prog 75 [.c (.bK (l,j) es)] S (fun r S'=>r=.agg [.d (.s []),.bK (l,j) es]∧S'=S):=by
 refine aC (rs:=[.cell 2 32]) Tryz.checked.mixed Tryz.func75 Tryz.ntmps75 rfl rfl rfl rfl rfl ?_
 simp -implicitDefEqProofs (disch:=omega) only[go_sem]
theorem vQ(xs:List (List UInt8))(hx:xs.length≤1073741824)(n q:Nat):aH Tryz.prog 173 [.c (.d (.sl (xs.map encS)))] (.c (.d (.ol n (lx (aX xs) q)))):=fun S=>by
 refine kM (n) (rs:=[.tmp 2]) Tryz.checked.mixed Tryz.func173 Tryz.ntmps173 rfl rfl rfl rfl rfl ?_
 simp -implicitDefEqProofs (disch:=omega) only[go_sem]
 (repeat(with_reducible refine And.intro ?_ ?_;focus first|omega|rfl|assumption|exact⟨_,rfl,rfl⟩|(simp;omega)|(simp;done)))
 refine oM n 3 2 [] (.inl rfl) (by simp) ?_
 refine aV (ι:=Nat) Tryz.checked.mixed rfl [3,7,8,9] (fun i=>[.c (.bK (0,1) (lx ((aX xs).take i) q)),.c (.d (.sl (xs.map encS))),.c (.d (.i .i64 xs.length)),.c (.d (.i .i64 i))]) (fun i=>[.seed n,.eu n 2 (lx ((aX xs).take i) q)]::S)
  (fun i=>i≤xs.length) (fun i=>xs.length-i) 0 rfl rfl (Nat.zero_le _) ?_
 intro i hi
 simp -implicitDefEqProofs (disch:=omega) only[go_sem]
 with_reducible refine aA (fun hb=> ?_) (fun hb=> ?_)<;>have h:=hb<;>(try simp only[wf_preprocess] at h)<;>simp -implicitDefEqProofs (disch:=omega) only[go_sem,hb]<;>(repeat(with_reducible refine And.intro ?_ ?_;focus first|omega|rfl|assumption|exact⟨_,rfl,rfl⟩|(simp;omega)|(simp;done)))
 ·have hi':i<xs.length:=by omega
  have hw:i<(aX xs).length:=by rw[kJ];exact hi'
  have hg:(aX xs)[i]=bg xs[i]:=by simp[aX]
  have hl:(lx ((aX xs).take i) q).length≤i:=by rw[gD];exact List.length_take_le _ _
  (repeat(with_reducible refine And.intro ?_ ?_;focus first|omega|rfl|assumption|exact⟨_,rfl,rfl⟩|(simp;omega)|(simp;done)))
  refine ay (eT xs[i] (q+gH ((aX xs).take i))) ?_
  simp -implicitDefEqProofs (disch:=omega) only[go_sem]
  (repeat(with_reducible refine And.intro ?_ ?_;focus first|omega|rfl|assumption|exact⟨_,rfl,rfl⟩|(simp;omega)|(simp;done)))
  have hs:=Ii hw q
  rw[hg,sH] at hs
  rw[hs]
  exact bH (i+1) (by omega) rfl rfl (by omega)
 ·have hi':i=(aX xs).length:=by rw[kJ];omega
  rw[hi',List.take_length]
theorem Ey(xs:List (List UInt8))(hx:xs.length≤1073741824)(n:Nat):aH Tryz.prog 68 [.c (.d (.sl (xs.map encS)))] (.agg [.d (.s []),.d (.ol n (lx (aX xs) (n+1)))]):=fun S=>by
 refine aC (rs:=[.cell 2 32]) Tryz.checked.mixed Tryz.func68 Tryz.ntmps68 rfl rfl rfl rfl rfl ?_
 simp -implicitDefEqProofs (disch:=omega) only[go_sem]
 refine ay (vQ xs hx n (n+1)) ?_
 simp -implicitDefEqProofs (disch:=omega) only[go_sem]
 refine ay (wF _) ?_
 simp -implicitDefEqProofs (disch:=omega) only[go_sem]
theorem Gj:∀N:Nat,(∀x:aj,SizeOf.sizeOf x<N→∀n:Nat,formed x=true→x.sz≤4194304→aH Tryz.prog 175 [x.v] (.agg [.d (.s (eD x).aT),.d (.ol n (lx (eD x).ak (n+1)))]))∧
 (∀xs:List aj,SizeOf.sizeOf xs<N→∀n q:Nat,gJ xs=true→xs.length≤4194304→(∀t∈xs,t.sz≤4194304)→aH Tryz.prog 174 [.c (.d (.sl (xs.map aj.enc)))] (.c (.d (.ol n (lx (xs.map eD) q)))))
 |0=>⟨fun x h=>by omega,fun x h=>by omega⟩
 |N+1=>by
  obtain⟨ih,l9⟩:=Gj N
  refine⟨fun x hn n hf hsz=> ?_,fun xs hn n q hf hlen hsz=> ?_⟩
  ·have iA:=aj.fA x
   have hts:=yj hsz
   have hx:=UA x
   rw[u7,Bool.and_eq_true] at hf
   have hfi:=iB hf.1
   have hall:∀t∈x.fArgs,t.sz≤4194304:=fun t ht=>by
    obtain⟨i,hi,e⟩:=List.getElem_of_mem ht
    rw[←e];exact(qw hi hsz).1
   intro S
   refine Ae (n) 1 (rs:=[.cell 2 32]) Tryz.checked.mixed Tryz.func175 Tryz.ntmps175 rfl rfl rfl rfl rfl ?_
   simp -implicitDefEqProofs (disch:=omega) only[go_sem]
   with_reducible refine aA (fun hb=> ?_) (fun hb=> ?_)<;>have h:=hb<;>(try simp only[wf_preprocess] at h)<;>simp -implicitDefEqProofs (disch:=omega) only[go_sem,hb]<;>(repeat(with_reducible refine And.intro ?_ ?_;focus first|omega|rfl|assumption|exact⟨_,rfl,rfl⟩|(simp;omega)|(simp;done)))
   ·rw[if_pos h] at hx
    rw[hx]
    (repeat(with_reducible refine And.intro ?_ ?_;focus first|omega|rfl|assumption|exact⟨_,rfl,rfl⟩|(simp;omega)|(simp;done)))
    refine ay (eT _ n) ?_
    simp -implicitDefEqProofs (disch:=omega) only[go_sem]
    rfl
   have k1:=h
   rw[if_neg h] at hx
   with_reducible refine aA (fun hb=> ?_) (fun hb=> ?_)<;>have h:=hb<;>(try simp only[wf_preprocess] at h)<;>simp -implicitDefEqProofs (disch:=omega) only[go_sem,hb]<;>(repeat(with_reducible refine And.intro ?_ ?_;focus first|omega|rfl|assumption|exact⟨_,rfl,rfl⟩|(simp;omega)|(simp;done)))
   ·rw[if_pos h] at hx
    rw[hx]
    refine ay (eT _ (n+1)) ?_
    simp -implicitDefEqProofs (disch:=omega) only[go_sem]
    refine ay (eT _ (n+1+1)) ?_
    simp -implicitDefEqProofs (disch:=omega) only[go_sem]
    refine ay (tu _ _) ?_
    simp -implicitDefEqProofs (disch:=omega) only[go_sem]
    rfl
   have k4:=h
   rw[if_neg h] at hx
   with_reducible refine aA (fun hb=> ?_) (fun hb=> ?_)<;>have h:=hb<;>(try simp only[wf_preprocess] at h)<;>simp -implicitDefEqProofs (disch:=omega) only[go_sem,hb]<;>(repeat(with_reducible refine And.intro ?_ ?_;focus first|omega|rfl|assumption|exact⟨_,rfl,rfl⟩|(simp;omega)|(simp;done)))
   ·have hlen:x.fArgs.length=1:=by omega
    obtain⟨a,ha⟩:=List.length_eq_one_iff.1 hlen
    have ha0:x.fArgs[0]'(by omega)=a:=by simp[ha]
    rw[if_neg (by omega),if_pos h,ha] at hx
    have hfa:formed a=true:=qV.1 hf.2 a (by rw[ha];simp)
    have hsa:a.sz≤4194304:=hall a (by rw[ha];simp)
    have hla:SizeOf.sizeOf a<N:=by
     have:=List.sizeOf_lt_of_mem (show a∈x.fArgs by rw[ha];simp)
     omega
    rw[hx]
    refine ay (eT _ (n+1)) ?_
    simp -implicitDefEqProofs (disch:=omega) only[go_sem]
    refine ay (eT _ (n+1+1)) ?_
    simp -implicitDefEqProofs (disch:=omega) only[go_sem,ha,List.getD_cons_zero]
    (repeat(with_reducible refine And.intro ?_ ?_;focus first|omega|rfl|assumption|exact⟨_,rfl,rfl⟩|(simp;omega)|(simp;done)))
    refine ay (ih a hla (n+1+1+1) hfa hsa) ?_
    simp -implicitDefEqProofs (disch:=omega) only[go_sem]
    refine ay (tu _ _) ?_
    simp -implicitDefEqProofs (disch:=omega) only[go_sem]
    simp only[eP,dL,List.cons_append,List.nil_append,List.map_cons,List.map_nil,oU,vw,sH,sI,oQ,wB,wC,lu]
   have k3:=h
   with_reducible refine aA (fun hb=> ?_) (fun hb=> ?_)<;>have h:=hb<;>(try simp only[wf_preprocess] at h)<;>simp -implicitDefEqProofs (disch:=omega) only[go_sem,hb]<;>(repeat(with_reducible refine And.intro ?_ ?_;focus first|omega|rfl|assumption|exact⟨_,rfl,rfl⟩|(simp;omega)|(simp;done)))
   ·rw[if_pos ⟨by omega,by omega⟩] at hx
    rw[hx]
    refine ay (eT _ n) ?_
    simp -implicitDefEqProofs (disch:=omega) only[go_sem]
    rfl
   rw[if_neg (by omega),if_neg k3] at hx
   rw[hx]
   refine ay (eT _ (n+1)) ?_
   simp -implicitDefEqProofs (disch:=omega) only[go_sem]
   refine ay (l9 x.fArgs (by omega) 0 (n+1+1) hf.2 hts.1 hall) ?_
   simp -implicitDefEqProofs (disch:=omega) only[go_sem]
   have hl:(lx (x.fArgs.map eD) (n+1+1)).length=x.fArgs.length:=by rw[gD,List.length_map]
   have hr:=lT (l:=x.fArgs.map eD) (n:=n+1+1)
   (repeat(with_reducible refine And.intro ?_ ?_;focus first|omega|rfl|assumption|exact⟨_,rfl,rfl⟩|(simp;omega)|(simp;done)))
   refine ay (wF _) ?_
   simp -implicitDefEqProofs (disch:=omega) only[go_sem]
   simp only[eP,dL,List.cons_append,List.nil_append,oU,vw,sH,sI]
  ·have wG:=fun(i:Nat) (hi:i<xs.length)=>Aq (l:=xs.map eD) (i:=i) (by rw[List.length_map];exact hi) q
   intro S
   refine kM (n) (rs:=[.tmp 2]) Tryz.checked.mixed Tryz.func174 Tryz.ntmps174 rfl rfl rfl rfl rfl ?_
   simp -implicitDefEqProofs (disch:=omega) only[go_sem]
   (repeat(with_reducible refine And.intro ?_ ?_;focus first|omega|rfl|assumption|exact⟨_,rfl,rfl⟩|(simp;omega)|(simp;done)))
   refine oM n 3 2 [] (.inl rfl) (by simp) ?_
   refine aV (ι:=Nat) Tryz.checked.mixed rfl [3,7,8,9] (fun i=>[.c (.bK (0,1) (lx ((xs.map eD).take i) q)),.c (.d (.sl (xs.map aj.enc))),.c (.d (.i .i64 xs.length)),.c (.d (.i .i64 i))]) (fun i=>[.seed n,.eu n 2 (lx ((xs.map eD).take i) q)]::S)
    (fun i=>i≤xs.length) (fun i=>xs.length-i) 0 rfl rfl (Nat.zero_le _) ?_
   intro i hi
   simp -implicitDefEqProofs (disch:=omega) only[go_sem]
   with_reducible refine aA (fun hb=> ?_) (fun hb=> ?_)<;>have h:=hb<;>(try simp only[wf_preprocess] at h)<;>simp -implicitDefEqProofs (disch:=omega) only[go_sem,hb]<;>(repeat(with_reducible refine And.intro ?_ ?_;focus first|omega|rfl|assumption|exact⟨_,rfl,rfl⟩|(simp;omega)|(simp;done)))
   ·have hi':i<xs.length:=by omega
    have hs:=wG i hi'
    rw[List.getElem_map] at hs
    have hl:(lx ((xs.map eD).take i) q).length≤i:=by rw[gD];exact List.length_take_le _ _
    (repeat(with_reducible refine And.intro ?_ ?_;focus first|omega|rfl|assumption|exact⟨_,rfl,rfl⟩|(simp;omega)|(simp;done)))
    refine ay (ih xs[i] (by have:=List.sizeOf_lt_of_mem (List.getElem_mem hi');omega) (q+gH ((xs.map eD).take i)) (qV.1 hf _ (List.getElem_mem hi')) (hsz _ (List.getElem_mem hi'))) ?_
    simp -implicitDefEqProofs (disch:=omega) only[go_sem]
    (repeat(with_reducible refine And.intro ?_ ?_;focus first|omega|rfl|assumption|exact⟨_,rfl,rfl⟩|(simp;omega)|(simp;done)))
    rw[hs]
    exact dV 2 (by decide) (i+1) (by omega) rfl rfl rfl rfl (by omega)
   ·have hi':i=(xs.map eD).length:=by rw[List.length_map];omega
    rw[hi',List.take_length]
theorem wH(x:aj)(n:Nat)(hf:formed x=true)(hsz:x.sz≤4194304):aH Tryz.prog 175 [x.v] (.agg [.d (.s (eD x).aT),.d (.ol n (lx (eD x).ak (n+1)))]):=(Gj _).1 x (Nat.lt_succ_self _) n hf hsz
end Go.Proofs.YtlmhknhlmicmeaaGreatDoor
namespace Go.Ab
theorem gL(s:List UInt8):(bg s).enc=[.s s,.sl []]:=by rw[ah.aD];rfl
theorem X4(l:List ah):(fC l).enc=[.s [],.sl (l.map ah.enc)]:=by rw[ah.aD];rfl
theorem mQ{base l:List ah}{i:Nat}(hi:i<l.length):(base++l.take i).map ah.enc++[[.s l[i].aT,.sl (l[i].ak.map ah.enc)]]=(base++l.take (i+1)).map ah.enc:=by
 rw[List.take_succ_eq_append_getElem hi,←List.append_assoc,List.map_append (l₂:=[l[i]]),List.map_cons,List.map_nil,ah.aD]
theorem Ij(s:List UInt8)(es:List (List D)):Less (.agg [.d (.s s),.aL es]) (.agg [.d (.s s),.d (.sl es)]):=yT rfl fun j x y hx hy w σ S β v hv=>by
 match j,hx,hy with
 |0,hx,hy=>cases hx;cases hy;exact hv
 |1,hx,hy=>cases hx;cases hy;exact hv.1
 |j+2,hx,hy=>simp at hx
theorem ZR(x:ah)(n:Nat):Less (.agg [.d (.s x.aT),.d (.ol n (lx x.ak (n+1)))]) x.v:=by
 have h:=Mh (r:=x.enc) (n:=n)
 rw[oQ,ah.pz] at h
 exact h
end Go.Ab
namespace Go.Proofs.YtlmhknhlmicmeaaGreatDoor
open Go Go.Ab
theorem MP(s:List UInt8):aH Tryz.prog 54 [.c (.d (.s s))] (.agg [.d (.s s),.aL []]):=fun S=>by
 refine aC (rs:=[.cell 2 32]) Tryz.checked.mixed Tryz.func54 Tryz.ntmps54 rfl rfl rfl rfl rfl ?_
 simp -implicitDefEqProofs (disch:=omega) only[go_sem]
theorem bV(s:List UInt8):aH Tryz.prog 54 [.c (.d (.s s))] (.agg [.d (.s s),.d (.sl [])]):=aH.less (MP s) (Ij s [])
theorem uO(es:List (List D))(hes:∀e∈es,e.length=2)(hl:es.length≤1073741824):aH Tryz.prog 53 [.c (.d (.sl es))] (.agg [.d (.s []),.d (.sl es)]):=fun S=>by
 refine aC (rs:=[.cell 2 32]) Tryz.checked.mixed Tryz.func53 Tryz.ntmps53 rfl rfl rfl rfl rfl ?_
 simp -implicitDefEqProofs (disch:=omega) only[go_sem]
 exact⟨hes,⟨_,rfl,rfl⟩,(fun y hy=>by cases hy),hl⟩
theorem Ca(xs:List (List UInt8))(hx:xs.length≤1073741824):aH Tryz.prog 156 [.c (.d (.sl (xs.map encS)))] (.c (.d (.sl ((aX xs).map ah.enc)))):=fun S=>by
 refine aC (rs:=[.tmp 2]) Tryz.checked.mixed Tryz.func156 Tryz.ntmps156 rfl rfl rfl rfl rfl ?_
 simp -implicitDefEqProofs (disch:=omega) only[go_sem]
 (repeat(with_reducible refine And.intro ?_ ?_;focus first|omega|rfl|assumption|exact⟨_,rfl,rfl⟩|(simp;omega)|(simp;done)))
 refine uX 3 2 [] rfl (by simp) ?_
 refine aV (ι:=Nat) Tryz.checked.mixed rfl [0,3,4] (fun i=>[.c (.d (.sl (xs.map encS))),.c (.bK (0,0) (((aX xs).take i).map ah.enc)),.c (.d (.i .i64 i))]) (fun i=>[.tok 2 (((aX xs).take i).map ah.enc)]::S)
  (fun i=>i≤xs.length) (fun i=>xs.length-i) 0 rfl rfl (Nat.zero_le _) ?_
 intro i hi
 have hl:(((aX xs).take i).map ah.enc).length≤i:=by rw[List.length_map];exact List.length_take_le _ _
 simp -implicitDefEqProofs (disch:=omega) only[go_sem]
 with_reducible refine aA (fun hb=> ?_) (fun hb=> ?_)<;>have h:=hb<;>(try simp only[wf_preprocess] at h)<;>simp -implicitDefEqProofs (disch:=omega) only[go_sem,hb]<;>(repeat(with_reducible refine And.intro ?_ ?_;focus first|omega|rfl|assumption|exact⟨_,rfl,rfl⟩|(simp;omega)|(simp;done)))
 ·have hi':i<xs.length:=by omega
  have hs:=mQ (base:=[]) (l:=aX xs) (i:=i) (by rw[kJ];exact hi')
  have hg:(aX xs)[i]'(by rw[kJ];exact hi')=bg xs[i]:=by simp[aX]
  rw[hg] at hs
  simp only[List.nil_append,wB,wC,List.map_nil] at hs
  (repeat(with_reducible refine And.intro ?_ ?_;focus first|omega|rfl|assumption|exact⟨_,rfl,rfl⟩|(simp;omega)|(simp;done)))
  refine ay (bV xs[i]) ?_
  simp -implicitDefEqProofs (disch:=omega) only[go_sem]
  (repeat(with_reducible refine And.intro ?_ ?_;focus first|omega|rfl|assumption|exact⟨_,rfl,rfl⟩|(simp;omega)|(simp;done)))
  rw[hs]
  exact bH (i+1) (by omega) rfl rfl (by omega)
 ·have hi':i=(aX xs).length:=by rw[kJ];omega
  rw[hi',List.take_length]
theorem Gl(xs:List (List UInt8))(hx:xs.length≤1073741824):aH Tryz.prog 55 [.c (.d (.sl (xs.map encS)))] (.agg [.d (.s []),.d (.sl ((aX xs).map ah.enc))]):=fun S=>by
 refine aC (rs:=[.cell 2 32]) Tryz.checked.mixed Tryz.func55 Tryz.ntmps55 rfl rfl rfl rfl rfl ?_
 simp -implicitDefEqProofs (disch:=omega) only[go_sem]
 refine ay (Ca xs hx) ?_
 simp -implicitDefEqProofs (disch:=omega) only[go_sem]
theorem Gm:∀N:Nat,(∀x:aj,SizeOf.sizeOf x<N→x.sz≤4194304→aH Tryz.prog 159 [x.v] (.agg [.d (.s (eD x).aT),.d (.sl ((eD x).ak.map ah.enc))]))
 |0=>fun x h=>by omega
 |N+1=>by
  have ih:=Gm N
  intro x hn hsz
  have iA:=aj.fA x
  have hts:=yj hsz
  have hx:=UA x
  have hall:∀t∈x.fArgs,t.sz≤4194304:=fun t ht=>by
   obtain⟨i,hi,e⟩:=List.getElem_of_mem ht
   rw[←e];exact(qw hi hsz).1
  intro S
  refine aC (rs:=[.cell 2 32]) Tryz.checked.mixed Tryz.func159 Tryz.ntmps159 rfl rfl rfl rfl rfl ?_
  simp -implicitDefEqProofs (disch:=omega) only[go_sem]
  with_reducible refine aA (fun hb=> ?_) (fun hb=> ?_)<;>have h:=hb<;>(try simp only[wf_preprocess] at h)<;>simp -implicitDefEqProofs (disch:=omega) only[go_sem,hb]<;>(repeat(with_reducible refine And.intro ?_ ?_;focus first|omega|rfl|assumption|exact⟨_,rfl,rfl⟩|(simp;omega)|(simp;done)))
  ·rw[if_pos h] at hx
   rw[hx]
   (repeat(with_reducible refine And.intro ?_ ?_;focus first|omega|rfl|assumption|exact⟨_,rfl,rfl⟩|(simp;omega)|(simp;done)))
   refine ay (bV _) ?_
   simp -implicitDefEqProofs (disch:=omega) only[go_sem]
   rfl
  rw[if_neg h] at hx
  with_reducible refine aA (fun hb=> ?_) (fun hb=> ?_)<;>have h:=hb<;>(try simp only[wf_preprocess] at h)<;>simp -implicitDefEqProofs (disch:=omega) only[go_sem,hb]<;>(repeat(with_reducible refine And.intro ?_ ?_;focus first|omega|rfl|assumption|exact⟨_,rfl,rfl⟩|(simp;omega)|(simp;done)))
  ·rw[if_pos h] at hx
   rw[hx]
   refine ay (bV _) ?_
   simp -implicitDefEqProofs (disch:=omega) only[go_sem]
   refine ay (bV _) ?_
   simp -implicitDefEqProofs (disch:=omega) only[go_sem]
   refine ay (uO _ (by simp) (by simp)) ?_
   simp -implicitDefEqProofs (disch:=omega) only[go_sem]
   simp only[eP,dL,List.map_cons,List.map_nil,gL,Ac]
  rw[if_neg h] at hx
  have afG:x.aG=2→x.fArgs.length=0→eD x=bg x.fName:=fun a b=>by rw[hx,if_pos ⟨a,b⟩]
  have X5:¬(x.aG=2∧x.fArgs.length=0)→eD x=fC ((if x.aG=3 then [bg lu] else [])++[bg x.fName]++x.fArgs.map eD):=fun a=>by rw[hx,if_neg a]
  clear hx
  repeat' (first|(with_reducible refine aA (fun hb=> ?_) (fun hb=> ?_)<;>have h:=hb<;>(try simp only[wf_preprocess] at h)<;>simp -implicitDefEqProofs (disch:=omega) only[go_sem,hb]<;>(repeat(with_reducible refine And.intro ?_ ?_;focus first|omega|rfl|assumption|exact⟨_,rfl,rfl⟩|(simp;omega)|(simp;done)))))
  ·rw[afG (by omega) (by omega)]
   refine ay (bV _) ?_
   simp -implicitDefEqProofs (disch:=omega) only[go_sem]
   rfl
  ·exfalso;omega
  ·have hx:=X5 (by omega)
   rw[if_neg h,List.nil_append] at hx
   refine ay (bV _) ?_
   simp -implicitDefEqProofs (disch:=omega) only[go_sem]
   (repeat(with_reducible refine And.intro ?_ ?_;focus first|omega|rfl|assumption|exact⟨_,rfl,rfl⟩|(simp;omega)|(simp;done)))
   refine aV (ι:=Nat) Tryz.checked.mixed rfl [1,2,3,4] (fun i=>[.c (.ptr (0,0) 0),.c (.ptr (0,1) 0),.c (.ptr (0,2) 0),.c (.d (.i .i64 i))])
    (fun i=>[.box [.d (.i .i64 x.aG),.d (.s x.fName),.d (.sl (x.fArgs.map aj.enc))],.box [.d (.s []),.aL []],.box [.d (.s []),.bK (0,3) (([bg x.fName]++(x.fArgs.map eD).take i).map ah.enc)],.tok 2 (([bg x.fName]++(x.fArgs.map eD).take i).map ah.enc)]::S)
    (fun i=>i≤x.fArgs.length) (fun i=>x.fArgs.length-i) 0 rfl ?_ (Nat.zero_le _) ?_
   ·simp only[List.take_zero,List.append_nil,List.map_cons,List.map_nil,List.cons_append,List.nil_append,gL]<;>(try rfl)
   intro i hi
   have hl:(([bg x.fName]++(x.fArgs.map eD).take i).map ah.enc).length≤i+2:=by
    rw[List.length_map,List.length_append]
    have:=List.length_take_le i (x.fArgs.map eD)
    simp only[List.length_cons,List.length_nil];omega
   have hs:=fun hi=>mQ (base:=[bg x.fName]) (l:=x.fArgs.map eD) (i:=i) hi
   have hrw:=jX (l:=[bg x.fName]++(x.fArgs.map eD).take i)
   generalize hR:([bg x.fName]++(x.fArgs.map eD).take i).map ah.enc=R at hl hs hrw
   simp -implicitDefEqProofs (disch:=omega) only[go_sem]
   with_reducible refine aA (fun hb=> ?_) (fun hb=> ?_)<;>have h:=hb<;>(try simp only[wf_preprocess] at h)<;>simp -implicitDefEqProofs (disch:=omega) only[go_sem,hb]<;>(repeat(with_reducible refine And.intro ?_ ?_;focus first|omega|rfl|assumption|exact⟨_,rfl,rfl⟩|(simp;omega)|(simp;done)))
   ·have hi':i<x.fArgs.length:=by omega
    have hs':=hs (by rw[List.length_map];exact hi')
    rw[List.getElem_map] at hs'
    (repeat(with_reducible refine And.intro ?_ ?_;focus first|omega|rfl|assumption|exact⟨_,rfl,rfl⟩|(simp;omega)|(simp;done)))
    refine ay (ih x.fArgs[i] (by have:=List.sizeOf_lt_of_mem (List.getElem_mem hi');omega) (hall _ (List.getElem_mem hi'))) ?_
    simp -implicitDefEqProofs (disch:=omega) only[go_sem]
    (repeat(with_reducible refine And.intro ?_ ?_;focus first|omega|rfl|assumption|exact⟨_,rfl,rfl⟩|(simp;omega)|(simp;done)))
    rw[hs']
    exact bH (i+1) (by omega) rfl rfl (by omega)
   ·have hi':i=(x.fArgs.map eD).length:=by rw[List.length_map];omega
    rw[hx,←hR,hi',List.take_length]
    simp only[eP,dL,List.cons_append,List.nil_append]
  ·have hx:=X5 (by omega)
   rw[if_pos h] at hx
   refine ay (bV _) ?_
   simp -implicitDefEqProofs (disch:=omega) only[go_sem]
   (repeat(with_reducible refine And.intro ?_ ?_;focus first|omega|rfl|assumption|exact⟨_,rfl,rfl⟩|(simp;omega)|(simp;done)))
   refine ay (bV _) ?_
   simp -implicitDefEqProofs (disch:=omega) only[go_sem]
   (repeat(with_reducible refine And.intro ?_ ?_;focus first|omega|rfl|assumption|exact⟨_,rfl,rfl⟩|(simp;omega)|(simp;done)))
   refine aV (ι:=Nat) Tryz.checked.mixed rfl [1,2,3,4] (fun i=>[.c (.ptr (0,0) 0),.c (.ptr (0,1) 0),.c (.ptr (0,2) 0),.c (.d (.i .i64 i))])
    (fun i=>[.box [.d (.i .i64 x.aG),.d (.s x.fName),.d (.sl (x.fArgs.map aj.enc))],.box [.d (.s []),.aL []],.box [.d (.s []),.bK (0,3) (([bg lu,bg x.fName]++(x.fArgs.map eD).take i).map ah.enc)],.tok 2 (([bg lu,bg x.fName]++(x.fArgs.map eD).take i).map ah.enc)]::S)
    (fun i=>i≤x.fArgs.length) (fun i=>x.fArgs.length-i) 0 rfl ?_ (Nat.zero_le _) ?_
   ·simp only[List.take_zero,List.append_nil,List.map_cons,List.map_nil,List.cons_append,List.nil_append,gL]<;>(try rfl)
   intro i hi
   have hl:(([bg lu,bg x.fName]++(x.fArgs.map eD).take i).map ah.enc).length≤i+2:=by
    rw[List.length_map,List.length_append]
    have:=List.length_take_le i (x.fArgs.map eD)
    simp only[List.length_cons,List.length_nil];omega
   have hs:=fun hi=>mQ (base:=[bg lu,bg x.fName]) (l:=x.fArgs.map eD) (i:=i) hi
   have hrw:=jX (l:=[bg lu,bg x.fName]++(x.fArgs.map eD).take i)
   generalize hR:([bg lu,bg x.fName]++(x.fArgs.map eD).take i).map ah.enc=R at hl hs hrw
   simp -implicitDefEqProofs (disch:=omega) only[go_sem]
   with_reducible refine aA (fun hb=> ?_) (fun hb=> ?_)<;>have h:=hb<;>(try simp only[wf_preprocess] at h)<;>simp -implicitDefEqProofs (disch:=omega) only[go_sem,hb]<;>(repeat(with_reducible refine And.intro ?_ ?_;focus first|omega|rfl|assumption|exact⟨_,rfl,rfl⟩|(simp;omega)|(simp;done)))
   ·have hi':i<x.fArgs.length:=by omega
    have hs':=hs (by rw[List.length_map];exact hi')
    rw[List.getElem_map] at hs'
    (repeat(with_reducible refine And.intro ?_ ?_;focus first|omega|rfl|assumption|exact⟨_,rfl,rfl⟩|(simp;omega)|(simp;done)))
    refine ay (ih x.fArgs[i] (by have:=List.sizeOf_lt_of_mem (List.getElem_mem hi');omega) (hall _ (List.getElem_mem hi'))) ?_
    simp -implicitDefEqProofs (disch:=omega) only[go_sem]
    (repeat(with_reducible refine And.intro ?_ ?_;focus first|omega|rfl|assumption|exact⟨_,rfl,rfl⟩|(simp;omega)|(simp;done)))
    rw[hs']
    exact bH (i+1) (by omega) rfl rfl (by omega)
   ·have hi':i=(x.fArgs.map eD).length:=by rw[List.length_map];omega
    rw[hx,←hR,hi',List.take_length]
    simp only[eP,dL,List.cons_append,List.nil_append]
  ·have hx:=X5 (by omega)
   rw[if_neg h,List.nil_append] at hx
   refine ay (bV _) ?_
   simp -implicitDefEqProofs (disch:=omega) only[go_sem]
   (repeat(with_reducible refine And.intro ?_ ?_;focus first|omega|rfl|assumption|exact⟨_,rfl,rfl⟩|(simp;omega)|(simp;done)))
   refine aV (ι:=Nat) Tryz.checked.mixed rfl [1,2,3,4] (fun i=>[.c (.ptr (0,0) 0),.c (.ptr (0,1) 0),.c (.ptr (0,2) 0),.c (.d (.i .i64 i))])
    (fun i=>[.box [.d (.i .i64 x.aG),.d (.s x.fName),.d (.sl (x.fArgs.map aj.enc))],.box [.d (.s []),.aL []],.box [.d (.s []),.bK (0,3) (([bg x.fName]++(x.fArgs.map eD).take i).map ah.enc)],.tok 2 (([bg x.fName]++(x.fArgs.map eD).take i).map ah.enc)]::S)
    (fun i=>i≤x.fArgs.length) (fun i=>x.fArgs.length-i) 0 rfl ?_ (Nat.zero_le _) ?_
   ·simp only[List.take_zero,List.append_nil,List.map_cons,List.map_nil,List.cons_append,List.nil_append,gL]<;>(try rfl)
   intro i hi
   have hl:(([bg x.fName]++(x.fArgs.map eD).take i).map ah.enc).length≤i+2:=by
    rw[List.length_map,List.length_append]
    have:=List.length_take_le i (x.fArgs.map eD)
    simp only[List.length_cons,List.length_nil];omega
   have hs:=fun hi=>mQ (base:=[bg x.fName]) (l:=x.fArgs.map eD) (i:=i) hi
   have hrw:=jX (l:=[bg x.fName]++(x.fArgs.map eD).take i)
   generalize hR:([bg x.fName]++(x.fArgs.map eD).take i).map ah.enc=R at hl hs hrw
   simp -implicitDefEqProofs (disch:=omega) only[go_sem]
   with_reducible refine aA (fun hb=> ?_) (fun hb=> ?_)<;>have h:=hb<;>(try simp only[wf_preprocess] at h)<;>simp -implicitDefEqProofs (disch:=omega) only[go_sem,hb]<;>(repeat(with_reducible refine And.intro ?_ ?_;focus first|omega|rfl|assumption|exact⟨_,rfl,rfl⟩|(simp;omega)|(simp;done)))
   ·have hi':i<x.fArgs.length:=by omega
    have hs':=hs (by rw[List.length_map];exact hi')
    rw[List.getElem_map] at hs'
    (repeat(with_reducible refine And.intro ?_ ?_;focus first|omega|rfl|assumption|exact⟨_,rfl,rfl⟩|(simp;omega)|(simp;done)))
    refine ay (ih x.fArgs[i] (by have:=List.sizeOf_lt_of_mem (List.getElem_mem hi');omega) (hall _ (List.getElem_mem hi'))) ?_
    simp -implicitDefEqProofs (disch:=omega) only[go_sem]
    (repeat(with_reducible refine And.intro ?_ ?_;focus first|omega|rfl|assumption|exact⟨_,rfl,rfl⟩|(simp;omega)|(simp;done)))
    rw[hs']
    exact bH (i+1) (by omega) rfl rfl (by omega)
   ·have hi':i=(x.fArgs.map eD).length:=by rw[List.length_map];omega
    rw[hx,←hR,hi',List.take_length]
    simp only[eP,dL,List.cons_append,List.nil_append]
theorem yB(x:aj)(hsz:x.sz≤4194304):aH Tryz.prog 159 [x.v] (.agg [.d (.s (eD x).aT),.d (.sl ((eD x).ak.map ah.enc))]):=Gm _ x (Nat.lt_succ_self _) hsz
theorem U4(b:Bool)(x:ah)(hsz:x.sz≤67108864):aH Tryz.prog 60 [.c (.d (.b b)),x.v] (Ad b x).v:=by
 have zero:aH Tryz.prog 60 [.c (.d (.b b)),x.v] (.agg [.d (.s []),.aL []])→aH Tryz.prog 60 [.c (.d (.b b)),x.v] eZ.v:=fun h=>aH.less h (Ij [] [])
 cases b with
 |false=>
  refine zero fun S=> ?_
  refine aC (rs:=[.cell 4 32]) Tryz.checked.mixed Tryz.func60 Tryz.ntmps60 rfl rfl rfl rfl rfl ?_
  simp -implicitDefEqProofs (disch:=omega) only[go_sem]
 |true=>
  show aH Tryz.prog 60 [.c (.d (.b true)),x.v] (Me x).v
  unfold Me
  cases hv:iL x with
  |false=>
   refine zero fun S=> ?_
   refine aC (rs:=[.cell 4 32]) Tryz.checked.mixed Tryz.func60 Tryz.ntmps60 rfl rfl rfl rfl rfl ?_
   simp -implicitDefEqProofs (disch:=omega) only[go_sem]
   refine ay (vP x hsz) ?_
   simp -implicitDefEqProofs (disch:=omega) only[go_sem,hv]
  |true=>
   intro S
   refine aC (rs:=[.cell 4 32]) Tryz.checked.mixed Tryz.func60 Tryz.ntmps60 rfl rfl rfl rfl rfl ?_
   simp -implicitDefEqProofs (disch:=omega) only[go_sem]
   refine ay (vP x hsz) ?_
   simp -implicitDefEqProofs (disch:=omega) only[go_sem,hv]
end Go.Proofs.YtlmhknhlmicmeaaGreatDoor
namespace Go.Ab
theorem bX.bounds{x:bX}(h:x.sz≤4194304):x.fName.length≤4194304∧x.aK.length≤4194304∧x.iT.length≤4194304∧∀s∈x.aK,s.length≤4194304:=by
 simp only[bX.sz,bX.aD,bM,bN,D.sz,List.length_map] at h
 refine⟨by omega,by omega,by omega,fun s hs=> ?_⟩
 have:=F8 hs
 omega
theorem bI.bounds{x:bI}(h:x.sz≤4194304):x.fName.length≤4194304∧x.nH.length≤4194304∧∀t∈x.nH,t.sz≤4194304:=by
 simp only[bI.sz,bI.aD,bM,bN,D.sz,List.length_map] at h
 refine⟨by omega,by omega,fun t ht=> ?_⟩
 have hx:t.sz≤bG (x.nH.map aj.enc):=dY (List.mem_map_of_mem ht)
 omega
end Go.Ab
namespace Go.Proofs.YtlmhknhlmicmeaaGreatDoor
open Go Go.Ab
end Go.Proofs.YtlmhknhlmicmeaaGreatDoor
namespace Go.Ab
theorem Ez{vars:List (List UInt8)}{ts:List aj}(h:qy vars ts=true):gJ ts=true:=qV.2 fun t ht=>by
 have:=List.all_eq_true.1 h t ht
 unfold gZ at this
 rw[Bool.and_eq_true] at this
 exact qb this.1
end Go.Ab
namespace Go.Proofs.YtlmhknhlmicmeaaGreatDoor
open Go Go.Ab
end Go.Proofs.YtlmhknhlmicmeaaGreatDoor
namespace Go.Ab
def bY(l:List ah)(i:Nat):List UInt8:=(l.getD i eZ).aT
theorem jY{l:List ah}{i:Nat}(h:i<l.length):bY l i=l[i].aT:=by simp[bY,List.getD,h]
theorem zw{l:List ah}{i:Nat}(h:l.length≤i):bY l i=[]:=by simp[bY,List.getD,h];rfl
def iP(l:List ah):List (List UInt8):=if l.all (fun x=>decide (x.aT≠[]))=true then l.map ah.aT else []
theorem Cb:∀{vs:List (List UInt8)},(∀v∈vs,v≠[])→iP (aX vs)=vs:=fun {vs} h=>by
 unfold iP aX
 rw[if_pos (List.all_eq_true.2 fun x hx=> ?_),List.map_map]
 ·conv=>rhs;rw[←List.map_id vs]
  rfl
 ·obtain⟨v,hv,rfl⟩:=List.mem_map.1 hx
  exact decide_eq_true (h v hv)
theorem MQ:∀l:List ah,((l.map ah.aT).map List.length).sum≤dG l
 |[]=>by simp[dG]
 |x::l=>by
  have:=MQ l
  rw[List.map_cons,List.map_cons,List.sum_cons,dG,jo];omega
theorem Ji(l:List ah):(iP l).length≤l.length∧((iP l).map List.length).sum≤dG l:=by
 unfold iP
 split
 ·refine⟨by simp,?_⟩
  exact MQ l
 ·simp
mutual
def dP(b:Bool):ah→aj
 | .mk a l=>if a=[] then
    if l.length<2 then .mk 0 [] []
    else if bY l 0=Ac∧(b=true∨l.length=2∧bY l 1≠[]) then .mk 4 (bY l 1) []
    else if bY l 0=lu∧(b=true∨l.length=3∧bY l 1≠[]) then .mk 3 (bY l 1) ((lF b l).drop 2)
    else .mk 2 (bY l 0) ((lF b l).drop 1)
   else if a.head? =some 39 then .mk 1 a.tail [] else .mk 2 a []
def lF(b:Bool):List ah→List aj
 |[]=>[]
 |x::xs=>dP b x::lF b xs
end
theorem Cc(b:Bool):∀l,lF b l=l.map (dP b)
 |[]=>rfl
 |t::ts=>by rw[lF,List.map_cons,Cc b ts]
theorem PI(b:Bool)(x:ah):dP b x=if x.aT=[] then
 if x.ak.length<2 then .mk 0 [] []
 else if bY x.ak 0=Ac∧(b=true∨x.ak.length=2∧bY x.ak 1≠[]) then .mk 4 (bY x.ak 1) []
 else if bY x.ak 0=lu∧(b=true∨x.ak.length=3∧bY x.ak 1≠[]) then .mk 3 (bY x.ak 1) ((x.ak.map (dP b)).drop 2)
 else .mk 2 (bY x.ak 0) ((x.ak.map (dP b)).drop 1)
 else if x.aT.head? =some 39 then .mk 1 x.aT.tail [] else .mk 2 x.aT []:=by
 cases x;rw[dP,Cc];rfl
theorem Gn:∀a b,qc (a++b)=qc a+qc b
 |[],b=>by simp[qc]
 |x::a,b=>by rw[List.cons_append,qc,qc,Gn a b];omega
theorem MR(l:List aj)(i:Nat):qc (l.drop i)≤qc l:=by
 have:=Gn (l.take i) (l.drop i)
 rw[List.take_append_drop] at this
 omega
theorem U5(l:List ah)(i:Nat):(bY l i).length≤dG l:=by
 by_cases h:i<l.length
 ·rw[jY h]
  have h1:=jG (List.getElem_mem h)
  rw[jo] at h1;omega
 ·rw[zw (by omega)];simp
mutual
theorem zx(b:Bool):∀x:ah,(dP b x).sz≤x.sz
 | .mk a l=>by
   have h1:=EA b l
   have h2:=MR (lF b l) 2
   have h3:=MR (lF b l) 1
   have h4:=U5 l 0
   have h5:=U5 l 1
   have h6:(lF b l).length=l.length:=by rw[Cc,List.length_map]
   rw[jo,kY];simp only[ah.aT,ah.ak]
   rw[dP]
   split
   ·split
    ·rw[qd];simp[aj.fName,aj.fArgs,qc]
    ·split
     ·rw[qd];simp[aj.fName,aj.fArgs,qc];omega
     ·have g0:=Ce b l 0
      have g1:=Ce b l 1
      simp only[Nat.zero_add,Nat.reduceAdd] at g0 g1
      split
      ·rw[qd];simp only[aj.fName,aj.fArgs,List.length_drop,h6];omega
      ·rw[qd];simp only[aj.fName,aj.fArgs,List.length_drop,h6];omega
   ·split
    ·rw[qd];simp[aj.fName,aj.fArgs,qc];omega
    ·rw[qd];simp[aj.fName,aj.fArgs,qc]
theorem EA(b:Bool):∀l:List ah,qc (lF b l)≤dG l
 |[]=>by simp[lF,qc]
 |x::xs=>by
  have h1:=zx b x
  have h2:=EA b xs
  rw[lF,qc,dG];omega
theorem Ce(b:Bool):∀(l:List ah) (i:Nat),qc ((lF b l).drop (i+1))+(bY l i).length≤dG l
 |[],i=>by simp[lF,qc,zw]
 |x::xs,0=>by
  have h2:=EA b xs
  rw[lF,List.drop_succ_cons,List.drop_zero,dG,show bY (x::xs) 0=x.aT from rfl,jo];omega
 |x::xs,i+1=>by
  have h2:=Ce b xs i
  rw[lF,List.drop_succ_cons,dG,show bY (x::xs) (i+1)=bY xs i from rfl];omega
end
theorem zy{s:List UInt8}(h:validName s=true):s≠[]:=fun e=>by rw[e] at h;have:=iB h;simp at this
theorem U6{s:List UInt8}(h:validName s=true):s.head? ≠some 39:=fun e=>by
 have h1:=iB h
 have h2:=h1.2.2 0 (by omega)
 cases s with
 |nil=>cases e
 |cons c s=>
  simp only[List.head?_cons,Option.some.injEq] at e
  subst e
  simp[lowerB,mI] at h2
theorem X6{s:List UInt8}(h:validName s=true):s≠Ac∧s≠lu:=by
 have h1:=(iB h).2.1
 refine⟨fun e=>h1 (by rw[e];simp[reserved,Ac]),fun e=>h1 (by rw[e];simp[reserved,lu])⟩
mutual
theorem zA(b:Bool):∀t:aj,formed t=true→dP b (eD t)=t
 | .mk k n zs=>fun hf=>by
   rw[formed,Bool.and_eq_true] at hf
   have hfi:=iB hf.1
   have hzs:=MS b zs hf.2
   rw[eD]
   by_cases h1:k=1
   ·have hz:zs=[]:=by
     have:zs.length=0:=by omega
     exact List.eq_nil_of_length_eq_zero this
    rw[if_pos h1,bg,dP,if_neg (by simp),if_pos (by simp),hz,h1];rfl
   rw[if_neg h1]
   by_cases h4:k=4
   ·have hz:zs=[]:=by
     have:zs.length=0:=by omega
     exact List.eq_nil_of_length_eq_zero this
    have hn:validName n=true:=by
     rcases hfi with h|h|h
     ·exact h.2.1
     ·exact h.2.1
     ·omega
    rw[if_pos h4,fC,dP,if_pos rfl,if_neg (by simp),if_pos ⟨rfl,.inr ⟨rfl,zy hn⟩⟩,hz,h4];rfl
   rw[if_neg h4]
   by_cases h2:k=2∧zs.length=0
   ·have hz:zs=[]:=List.eq_nil_of_length_eq_zero h2.2
    have hn:n≠[]∧n.head? ≠some 39:=by
     rcases hfi with h|h|h
     ·omega
     ·omega
     ·rcases h.2 with g|g
      ·exact⟨zy g.1,U6 g.1⟩
      ·rcases iB g.1 with e|e<;>rw[e]<;>simp
    rw[if_pos h2,bg,dP,if_neg hn.1,if_neg hn.2,hz,h2.1]
   rw[if_neg h2]
   by_cases h3:k=3
   ·have hz:zs.length=1∧validName n=true:=by
     rcases hfi with h|h|h
     ·omega
     ·exact⟨h.2.2,h.2.1⟩
     ·omega
    rw[if_pos h3,fC,dP,if_pos rfl,if_neg (by simp),if_neg (fun h=>by have:=h.1;simp[bY,bg,ah.aT,Ac,lu] at this),if_pos ⟨rfl,.inr ⟨by rw[uq];simp[hz.1],zy hz.2⟩⟩]
    show aj.mk 3 n (lF b (xB zs))=_
    rw[hzs,h3]
   ·have hn:validName n=true∧zs≠[]:=by
     rcases hfi with h|h|h
     ·omega
     ·omega
     ·rcases h.2 with g|g
      ·exact⟨g.1,fun e=>h2 ⟨h.1,by rw[e];rfl⟩⟩
      ·exact(h2 ⟨h.1,g.2⟩).elim
    have hk:k=2:=by
     rcases hfi with h|h|h
     ·omega
     ·omega
     ·exact h.1
    have hd:=X6 hn.1
    rw[if_neg h3,fC,dP,if_pos rfl,if_neg (by rw[uq];cases zs with|nil=>exact(hn.2 rfl).elim|cons z zs=>simp),if_neg (fun h=>hd.1 h.1),if_neg (fun h=>hd.2 h.1)]
    show aj.mk 2 n (lF b (xB zs))=_
    rw[hzs,hk]
theorem MS(b:Bool):∀ts:List aj,gJ ts=true→lF b (xB ts)=ts
 |[],_=>rfl
 |t::ts,h=>by
  rw[gJ,Bool.and_eq_true] at h
  rw[xB,lF,zA b t h.1,MS b ts h.2]
end
theorem PK{vs:List (List UInt8)}(h:jW vs=true):∀v∈vs,v≠[]:=fun v hv=>by
 unfold jW at h
 rw[Bool.and_eq_true] at h
 exact zy (List.all_eq_true.1 h.2 v hv)
theorem EB:eZ.sz=0:=by rw[jo];simp[eZ,ah.aT,ah.ak,bG]
theorem X7{b:Bool}{s x:ah}(h:Ad b s=x)(hx:x.ak≠[]):b=true∧s=x∧iL x=true:=by
 cases b with
 |false=>rw[←h] at hx;exact(hx rfl).elim
 |true=>
  rw[Ad] at h
  unfold Me at h
  split at h
  ·rename_i hv;exact⟨rfl,h,by rw[←h];exact hv⟩
  ·rw[←h] at hx;exact(hx rfl).elim
end Go.Ab
namespace Go.Ab
def uP:List UInt8:=[116,114,117,101]
def tC:List UInt8:=[102,97,108,115,101]
def kr:List UInt8:=[99,97,108,108]
def fK:List UInt8:=[109,101,116,104,111,100]
def ni:List UInt8:=[110,101,119]
def gT:List UInt8:=[99,97,115,101]
def nk:List UInt8:=[108,101,116]
def qX:List UInt8:=[105,102]
def ku:List UInt8:=[112,97,99,107]
def nN:List UInt8:=[116,104,101]
def fJ(k:Int)(tr nm:List UInt8)(ty:aj):List ah:=
 if k=4 then aX [kr,nm] else if k=5 then aX [fK,tr,nm] else if k=6 then aX [ni,nm] else if k=8 then aX [nk,nm] else
 if k=9 then aX [qX] else if k=10 then aX [nm] else if k=11 then aX [ku,tr] else if k=12 then [bg nN,eD ty] else aX [gT]
mutual
def dW:au→ah
 | .mk k tr nm n ty zs ms=>if k=1 then bg (Lib.itoa n) else if k=2 then bg (if n=1 then uP else tC) else if k=3 then bg nm else
   fC (fJ k tr nm ty++vR zs++(if k=4∨k=5∨k=6∨k=8∨k=9∨k=10∨k=11∨k=12 then [] else Ar ms))
def vR:List au→List ah
 |[]=>[]
 |t::ts=>dW t::vR ts
def tJ:aF→ah
 | .mk c vs b=>fC ([bg c]++aX vs++[dW b])
def Ar:List aF→List ah
 |[]=>[]
 |t::ts=>tJ t::Ar ts
end
theorem xH:∀l,vR l=l.map dW
 |[]=>rfl
 |t::ts=>by rw[vR,List.map_cons,xH ts]
theorem Au:∀l,Ar l=l.map tJ
 |[]=>rfl
 |t::ts=>by rw[Ar,List.map_cons,Au ts]
theorem Cg(x:au):dW x=if x.aG=1 then bg (Lib.itoa x.fN) else if x.aG=2 then bg (if x.fN=1 then uP else tC) else if x.aG=3 then bg x.fName else
 fC (fJ x.aG x.aY x.fName x.fType++x.fArgs.map dW++(if x.aG=4∨x.aG=5∨x.aG=6∨x.aG=8∨x.aG=9∨x.aG=10∨x.aG=11∨x.aG=12 then [] else x.aI.map tJ)):=by
 cases x;rw[dW,xH,Au];rfl
theorem U7(x:aF):tJ x=fC ([bg x.bL]++aX x.aK++[dW x.fBody]):=by cases x;rw[tJ];rfl
def oF:List au→Nat
 |[]=>0
 |x::xs=>x.sz+oF xs
theorem EC:∀l,bG (l.map au.enc)=oF l
 |[]=>rfl
 |x::xs=>by rw[List.map_cons,bG,oF,EC xs];rfl
def vX:List aF→Nat
 |[]=>0
 |x::xs=>x.sz+vX xs
theorem ED:∀l,bG (l.map aF.enc)=vX l
 |[]=>rfl
 |x::xs=>by rw[List.map_cons,bG,vX,ED xs];rfl
theorem rO(x:au):x.sz=x.aY.length+x.fName.length+x.fType.sz+(x.fArgs.length+oF x.fArgs)+(x.aI.length+vX x.aI):=by
 rw[←EC,←ED];simp only[au.sz,au.aD,bM,bN,D.sz,List.length_map,aj.dB];omega
theorem vB(x:aF):x.sz=x.bL.length+(x.aK.length+(x.aK.map List.length).sum)+x.fBody.sz:=by
 rw[←oO];simp only[aF.sz,aF.aD,bM,bN,D.sz,List.length_map,au.dB];omega
theorem zB:∀(k n:Nat),n<10^ (k+1)→(Lib.decDigits n).length≤k+1
 |0,n,h=>by rw[Lib.decDigits,dif_pos (by simpa using h)];simp
 |k+1,n,h=>by
  rw[Lib.decDigits]
  split
  ·simp
  ·rw[List.length_append]
   have:=zB k (n/10) (by rw[Nat.pow_succ] at h;omega)
   simp;omega
theorem X8{n:Int}(h: -999999≤n∧n≤999999):(Lib.itoa n).length≤7:=by
 unfold Lib.itoa
 split
 ·have:=zB 5 n.natAbs (by omega)
  simp;omega
 ·have:=zB 5 n.toNat (by omega)
  omega
theorem U8(k:Int)(tr nm:List UInt8)(ty:aj):(fJ k tr nm ty).length≤3∧dG (fJ k tr nm ty)≤18+tr.length+nm.length+16*ty.sz:=by
 have h:=BF ty
 unfold fJ
 repeat' (first|(split;·refine⟨by simp[aX],?_⟩;simp[dG,aX,kT,kr,fK,ni,nk,qX,ku,nN,gT];omega))
 refine⟨by simp[aX],?_⟩;simp[dG,aX,kT,gT];omega
mutual
theorem MU:∀x:au,fT x=true→(dW x).sz≤24+32*x.sz
 | .mk k tr nm n ty zs ms=>fun hok=>by
   rw[fT,Bool.and_eq_true,Bool.and_eq_true] at hok
   have hf:=iB hok.1
   have h1:=PL zs hok.2.1
   have h2:=PN ms hok.2.2
   have h3:=U8 k tr nm ty
   rw[rO]
   simp only[au.fName,au.fArgs,au.aY,au.fType,au.aI]
   rw[dW]
   split
   ·rename_i hk
    have h4:=hf.2.2.2.1
    simp only[au.aG,au.fN,hk,if_true] at h4
    have:=X8 h4
    rw[kT];omega
   ·split
    ·rw[kT];split<;>simp[uP,tC]<;>omega
    ·split
     ·rw[kT];omega
     ·rw[rZ,mJ,mJ,List.length_append,List.length_append,xH,List.length_map,←xH]
      split
      ·simp[dG];omega
      ·rw[Au,List.length_map,←Au];omega
theorem PL:∀xs:List au,iI xs=true→dG (vR xs)≤24*xs.length+32*oF xs
 |[],_=>by simp[vR,dG]
 |x::xs,h=>by
  rw[iI,Bool.and_eq_true] at h
  have h1:=MU x h.1
  have h2:=PL xs h.2
  rw[vR,dG,oF,List.length_cons];omega
theorem abw:∀x:aF,qI x=true→(tJ x).sz≤26+32*x.sz
 | .mk c vs b=>fun hok=>by
   rw[qI,Bool.and_eq_true,Bool.and_eq_true] at hok
   have h1:=MU b hok.2.2
   rw[vB]
   simp only[aF.bL,aF.aK,aF.fBody]
   rw[tJ,rZ,mJ,mJ,List.length_append,List.length_append,kJ,BD]
   simp[dG,kT];omega
theorem PN:∀xs:List aF,kN xs=true→dG (Ar xs)≤26*xs.length+32*vX xs
 |[],_=>by simp[Ar,dG]
 |x::xs,h=>by
  rw[kN,Bool.and_eq_true] at h
  have h1:=abw x h.1
  have h2:=PN xs h.2
  rw[Ar,dG,vX,List.length_cons];omega
end
end Go.Ab
namespace Go.Ab
theorem D5(d:Nat)(h:d<10):Lib.digitVal (UInt8.ofNat (48+d))=some d:=by
 have:(UInt8.ofNat (48+d)).toNat=48+d:=by rw[UInt8.toNat_ofNat'];omega
 unfold Lib.digitVal
 rw[this,if_pos (by omega)]
 congr 1;omega
theorem xI:∀(l:List UInt8) (acc:Nat) (b:UInt8),Lib.decFrom acc (l++[b])=(Lib.decFrom acc l).bind fun m=>(Lib.digitVal b).map fun d=>m*10+d
 |[],acc,b=>by
  rw[List.nil_append,Lib.decFrom,Lib.decFrom]
  cases Lib.digitVal b<;>rfl
 |a::l,acc,b=>by
  rw[List.cons_append,Lib.decFrom,Lib.decFrom]
  cases Lib.digitVal a with
  |none=>rfl
  |some e=>exact xI l _ b
theorem uD(n:Nat):Lib.decFrom 0 (Lib.decDigits n)=some n:=by
 induction n using Nat.strongRecOn with
 |_ n ih=>
  rw[Lib.decDigits]
  split
  ·rename_i h
   rw[Lib.decFrom,D5 n h]
   simp[Lib.decFrom]
  ·rename_i h
   rw[xI,ih (n/10) (by omega),D5 _ (Nat.mod_lt _ (by decide))]
   simp only[Option.bind_some,Option.map_some,Option.some.injEq]
   omega
theorem uE(n:Nat):∃b r,Lib.decDigits n=b::r∧48≤b.toNat∧b.toNat≤57:=by
 induction n using Nat.strongRecOn with
 |_ n ih=>
  rw[Lib.decDigits]
  split
  ·rename_i h
   exact⟨_,_,rfl,by rw[UInt8.toNat_ofNat'];omega,by rw[UInt8.toNat_ofNat'];omega⟩
  ·rename_i h
   obtain⟨b,r,e,h1,h2⟩:=ih (n/10) (by omega)
   rw[e]
   exact⟨b,r++_,rfl,h1,h2⟩
theorem Ba(n:Nat):Lib.decNat (Lib.decDigits n)=some n:=by
 obtain⟨b,r,e,_⟩:=uE n
 unfold Lib.decNat
 rw[show(Lib.decDigits n).isEmpty=false from by rw[e];rfl]
 exact uD n
theorem Ch(b:UInt8)(r:List UInt8):Lib.atoi (b::r)=if b==45 then(Lib.decNat r).map fun(m:Nat)=> -(m:Int) else if b==43 then(Lib.decNat r).map fun(m:Nat)=>(m:Int) else(Lib.decNat (b::r)).map fun(m:Nat)=>(m:Int):=rfl
theorem Jj(n:Int):Lib.atoi (Lib.itoa n)=some n:=by
 unfold Lib.itoa
 split
 ·rename_i h
  show Lib.atoi (45::Lib.decDigits n.natAbs)=_
  rw[Ch,if_pos (by decide),Ba]
  simp only[Option.map_some,Option.some.injEq]
  omega
 ·rename_i h
  obtain⟨b,r,e,h1,h2⟩:=uE n.toNat
  have hd:=Ba n.toNat
  rw[e] at hd ⊢
  rw[Ch,if_neg (by simp only[beq_iff_eq];intro h;rw[h] at h1;revert h1;decide),if_neg (by simp only[beq_iff_eq];intro h;rw[h] at h1;revert h1;decide),hd]
  simp only[Option.map_some,Option.some.injEq]
  omega
theorem ZT(n:Int):Lib.itoa n≠[]:=fun e=>by
 have:=Jj n
 rw[e] at this
 cases this
def eY(s:List UInt8):Option Int:=match Lib.atoi s with
 |some n=>if(-999999999999≤n∧n≤999999999999)∧Lib.itoa n=s then some n else none
 |none=>none
theorem Gp{n:Int}(h: -999999999999≤n∧n≤999999999999):eY (Lib.itoa n)=some n:=by
 unfold eY
 rw[Jj]
 exact if_pos ⟨h,rfl⟩
theorem Gq{s:List UInt8}{n:Int}(h:eY s=some n):(-999999999999≤n∧n≤999999999999)∧Lib.itoa n=s:=by
 unfold eY at h
 split at h
 ·split at h
  ·cases h;assumption
  ·cases h
 ·cases h
theorem xJ{b:UInt8}{r:List UInt8}(h:lowerB b):eY (b::r)=none:=by
 have h1:(b==45)=false:=by simp only[beq_eq_false_iff_ne];intro e;rw[e] at h;revert h;simp[lowerB]
 have h2:(b==43)=false:=by simp only[beq_eq_false_iff_ne];intro e;rw[e] at h;revert h;simp[lowerB]
 have h3:Lib.digitVal b=none:=if_neg (fun x=>by unfold lowerB at h;omega)
 unfold eY
 rw[Ch,h1,h2]
 simp[Lib.decNat,Lib.decFrom,h3]
theorem R3{s:List UInt8}(h:validName s=true):eY s=none:=by
 have h1:=iB h
 have h2:=h1.2.2 0 (by omega)
 cases s with
 |nil=>simp at h1
 |cons b r=>
  rcases h2 with h2|h2
  ·exact xJ h2
  ·exact(h2.1 rfl).elim
def gK:aj:=.mk 0 [] []
def qB:au:=.mk 0 [] [] 0 gK [] []
mutual
def dz(b:Bool):ah→au
 | .mk a l=>if a=[] then
    if b=true∧(l.length<2∨bY l 0=fK∧l.length<3) then qB
    else if bY l 0=kr then .mk 4 [] (bY l 1) 0 gK ((dM b l).drop 2) []
    else if bY l 0=ni then .mk 6 [] (bY l 1) 0 gK ((dM b l).drop 2) []
    else if bY l 0=nk then .mk 8 [] (bY l 1) 0 gK ((dM b l).drop 2) []
    else if bY l 0=ku then .mk 11 (bY l 1) [] 0 gK ((dM b l).drop 2) []
    else if bY l 0=fK then .mk 5 (bY l 1) (bY l 2) 0 gK ((dM b l).drop 3) []
    else if bY l 0=qX then .mk 9 [] [] 0 gK ((dM b l).drop 1) []
    else if bY l 0=nN then .mk 12 [] [] 0 (dP b (l.getD 1 eZ)) ((dM b l).drop 2) []
    else if bY l 0=gT then .mk 7 [] [] 0 gK (((dM b l).drop 1).take 1) ((jE b l).drop 2)
    else .mk 10 [] (bY l 0) 0 gK ((dM b l).drop 1) []
   else match eY a with
    |some n=>.mk 1 [] [] n gK [] []
    |none=>if a=uP then .mk 2 [] [] 1 gK [] [] else if a=tC then .mk 2 [] [] 0 gK [] [] else .mk 3 [] a 0 gK [] []
def dM(b:Bool):List ah→List au
 |[]=>[]
 |x::xs=>dz b x::dM b xs
def l5(b:Bool):ah→aF
 | .mk a l=>if l.length<2 then .mk [] [] qB else .mk (bY l 0) (iP ((l.drop 1).dropLast)) ((dM b l).getLastD qB)
def jE(b:Bool):List ah→List aF
 |[]=>[]
 |x::xs=>l5 b x::jE b xs
end
theorem vC(b:Bool):∀l,dM b l=l.map (dz b)
 |[]=>rfl
 |t::ts=>by rw[dM,List.map_cons,vC b ts]
theorem yC(b:Bool):∀l,jE b l=l.map (l5 b)
 |[]=>rfl
 |t::ts=>by rw[jE,List.map_cons,yC b ts]
theorem iQ(b:Bool)(l m:List ah):dM b (l++m)=dM b l++dM b m:=by simp only[vC,List.map_append]
theorem l6(b:Bool)(l m:List ah):jE b (l++m)=jE b l++jE b m:=by simp only[yC,List.map_append]
theorem nO{t:aj}(h:yA t):t=gK:=aj.ext h.1 h.2.1 (List.eq_nil_of_length_eq_zero h.2.2)
theorem OJ{s:List UInt8}(h:s∈ops):s≠[]∧∀w∈[kr,ni,nk,ku,fK,qX,nN,gT],s≠w:=by
 have:=UW h
 refine⟨fun e=>by rw[e] at this;simp at this,fun w hw e=> ?_⟩
 rw[e] at this
 simp only[List.mem_cons,List.not_mem_nil,or_false] at hw
 rcases hw with g|g|g|g|g|g|g|g<;>rw[g] at this<;>revert this<;>decide
set_option maxHeartbeats 2000000 in
mutual
theorem Ik(b:Bool):∀e:au,fT e=true→dz b (dW e)=e
 | .mk k tr nm n ty zs ms=>fun hok=>by
   rw[fT,Bool.and_eq_true,Bool.and_eq_true] at hok
   have hf:=iB hok.1
   have h1:=MV b zs hok.2.1
   have h2:=MW b ms hok.2.2
   obtain⟨p0,p1,p2,p3,p4,p5,p6⟩:=hf
   simp only[au.aG,au.aY,au.fName,au.fN,au.fType,au.fArgs,au.aI] at p0 p1 p2 p3 p4 p5 p6
   have nz:∀{l:List au},l.length=0→l=[]:=fun h=>List.eq_nil_of_length_eq_zero h
   have Ci:k≠7→ms=[]:=fun h=>List.eq_nil_of_length_eq_zero (by
    have:¬0<ms.length:=fun x=>h (p6.2 x)
    omega)
   have hk:k=1∨k=2∨k=3∨k=4∨k=5∨k=6∨k=7∨k=8∨k=9∨k=10∨k=11∨k=12:=by omega
   rcases hk with rfl|rfl|rfl|rfl|rfl|rfl|rfl|rfl|rfl|rfl|rfl|rfl
   all_goals simp only[if_true,if_false,true_or,or_true,false_or,or_false,or_self,(by decide:(1:Int)=5↔False),Int.reduceEq] at p1 p2 p3 p4 p5
   ·have e1:=nO p4;have e2:=nz p5;have e3:=Ci (by decide)
    subst e1 e2 e3 p1 p2
    rw[dW,if_pos rfl,bg,dz,if_neg (ZT n),Gp (by omega)]
   ·have e1:=nO p4;have e2:=nz p5;have e3:=Ci (by decide)
    subst e1 e2 e3 p1 p2
    rw[dW,if_neg (by decide),if_pos rfl,bg,dz]
    rcases p3 with rfl|rfl
    ·rw[if_neg (by decide:¬(0:Int)=1),if_neg (by decide),show eY tC=none from xJ (by simp[lowerB]),if_neg (by decide),if_pos rfl]
    ·rw[if_pos rfl,if_neg (by decide),show eY uP=none from xJ (by simp[lowerB]),if_pos rfl]
   ·have e1:=nO p4;have e2:=nz p5;have e3:=Ci (by decide)
    subst e1 e2 e3 p1 p3
    have hr:=(iB p2).2.1
    rw[dW,if_neg (by decide),if_neg (by decide),if_pos rfl,bg,dz,if_neg (zy p2),R3 p2,if_neg (fun e=>hr (by rw[e];simp[reserved,uP])),if_neg (fun e=>hr (by rw[e];simp[reserved,tC]))]
   all_goals have hz:(vR zs).length=zs.length:=by rw[xH,List.length_map]
   ·have e1:=nO p4;have e3:=Ci (by decide)
    subst e1 e3 p1 p3
    simp[dW,fJ,fC,aX,dz,dM,iQ,jE,l6,bY,bg,ah.aT,kr,fK,ni,gT,nk,qX,ku,nN,h1,hz,h2]
    all_goals (intros;omega)
   ·have e1:=nO p4;have e3:=Ci (by decide)
    subst e1 e3 p3
    simp[dW,fJ,fC,aX,dz,dM,iQ,jE,l6,bY,bg,ah.aT,kr,fK,ni,gT,nk,qX,ku,nN,h1,hz,h2]
    all_goals (intros;omega)
   ·have e1:=nO p4;have e3:=Ci (by decide)
    subst e1 e3 p1 p3
    simp[dW,fJ,fC,aX,dz,dM,iQ,jE,l6,bY,bg,ah.aT,kr,fK,ni,gT,nk,qX,ku,nN,h1,hz,h2]
    all_goals (intros;omega)
   ·have e1:=nO p4
    subst e1 p1 p2 p3
    have hm:0<ms.length:=p6.1 rfl
    obtain⟨z,rfl⟩:∃z,zs=[z]:=by
     cases zs with
     |nil=>simp at p5
     |cons z t=>cases t with
      |nil=>exact⟨z,rfl⟩
      |cons _ _=>simp at p5
    simp only[vR,dM,List.cons.injEq,and_true] at h1
    simp[dW,fJ,fC,aX,dz,dM,iQ,jE,l6,vR,bY,bg,ah.aT,kr,fK,ni,gT,nk,qX,ku,nN,h1,h2]
    all_goals (intros;omega)
   ·have e1:=nO p4;have e3:=Ci (by decide)
    subst e1 e3 p1 p3
    simp[dW,fJ,fC,aX,dz,dM,iQ,jE,l6,bY,bg,ah.aT,kr,fK,ni,gT,nk,qX,ku,nN,h1,hz,h2]
    all_goals (intros;omega)
   ·have e1:=nO p4;have e3:=Ci (by decide)
    subst e1 e3 p1 p2 p3
    simp[dW,fJ,fC,aX,dz,dM,iQ,jE,l6,bY,bg,ah.aT,kr,fK,ni,gT,nk,qX,ku,nN,h1,hz,h2]
    all_goals (intros;omega)
   ·have e1:=nO p4;have e3:=Ci (by decide)
    subst e1 e3 p1 p3
    have ho:=OJ p2
    simp only[List.mem_cons,List.not_mem_nil,or_false,ne_eq,forall_eq_or_imp,forall_eq] at ho
    obtain⟨_,o1,o2,o3,o4,o5,o6,o7,o8⟩:=ho
    simp[dW,fJ,fC,aX,dz,dM,iQ,bY,bg,ah.aT,h1,hz,o1,o2,o3,o4,o5,o6,o7,o8]
    all_goals (intros;omega)
   ·have e1:=nO p4;have e3:=Ci (by decide)
    subst e1 e3 p2 p3
    simp[dW,fJ,fC,aX,dz,dM,iQ,jE,l6,bY,bg,ah.aT,kr,fK,ni,gT,nk,qX,ku,nN,h1,hz,h2]
    all_goals (intros;omega)
   ·have e3:=Ci (by decide)
    subst e3 p1 p2 p3
    have ht:=zA b ty (qb p4)
    simp[dW,fJ,fC,aX,dz,dM,iQ,bY,bg,ah.aT,kr,fK,ni,gT,nk,qX,ku,nN,h1,hz,ht]
    all_goals (intros;omega)
theorem MV(b:Bool):∀es:List au,iI es=true→dM b (vR es)=es
 |[],_=>rfl
 |t::ts,h=>by
  rw[iI,Bool.and_eq_true] at h
  rw[vR,dM,Ik b t h.1,MV b ts h.2]
theorem ZU(b:Bool):∀m:aF,qI m=true→l5 b (tJ m)=m
 | .mk c vs e=>fun h=>by
   rw[qI,Bool.and_eq_true,Bool.and_eq_true] at h
   have he:=Ik b e h.2.2
   rw[tJ,fC,l5,if_neg (by simp),iQ]
   have e1:bY ([bg c]++aX vs++[dW e]) 0=c:=rfl
   have e2:(([bg c]++aX vs++[dW e]).drop 1).dropLast=aX vs:=by
    rw[List.append_assoc,List.singleton_append,List.drop_succ_cons,List.drop_zero,List.dropLast_concat]
   rw[e1,e2,Cb (PK h.2.1)]
   congr 1
   rw[dM,he,List.getLastD_eq_getLast?,List.getLast?_append]
   simp[dM]
theorem MW(b:Bool):∀ms:List aF,kN ms=true→jE b (Ar ms)=ms
 |[],_=>rfl
 |t::ts,h=>by
  rw[kN,Bool.and_eq_true] at h
  rw[Ar,jE,ZU b t h.1,MW b ts h.2]
end
theorem xK:gK.sz=0:=by rw[qd];rfl
theorem yD:qB.sz=0:=by rw[rO];simp[qB,au.aY,au.fName,au.fType,au.fArgs,au.aI,xK,oF,vX]
theorem R4(l:List ah):((iP ((l.drop 1).dropLast)).length+((iP ((l.drop 1).dropLast)).map List.length).sum)≤(l.drop 1).dropLast.length+dG ((l.drop 1).dropLast):=by
 have:=Ji ((l.drop 1).dropLast)
 omega
theorem ZV(x:ah)(m:List ah)(y:ah):dG (x::(m++[y]))=x.sz+(dG m+y.sz):=by rw[dG,mJ];simp[dG]
mutual
theorem Da(b:Bool):∀x:ah,(dz b x).sz≤x.sz
 | .mk a l=>by
   have g:=Jk b l
   have hl:(dM b l).length=l.length:=by rw[vC,List.length_map]
   have hm:(jE b l).length=l.length:=by rw[yC,List.length_map]
   rw[jo,kY];simp only[ah.aT,ah.ak]
   rw[dz]
   split
   ·have g1:oF ((dM b l).drop 1)+(bY l 0).length≤dG l:=by
     have:=g 0
     simp only[Nat.zero_add,(by decide:¬(1≤0)),if_false] at this
     omega
    have g2:oF ((dM b l).drop 2)+((bY l 0).length+(bY l 1).length)≤dG l:=by
     have:=g 1
     simp only[Nat.reduceAdd,Nat.le_refl,if_true,Nat.sub_self] at this
     omega
    have g3:oF ((dM b l).drop 3)+((bY l 1).length+(bY l 2).length)≤dG l:=by
     have:=g 2
     simp only[Nat.reduceAdd,(by decide:1≤2),if_true,Nat.reduceSub] at this
     omega
    split
    ·rw[yD];omega
    ·repeat' split
     all_goals rw[rO];simp only[au.aY,au.fName,au.fType,au.fArgs,au.aI,xK,oF,vX,List.length_nil,List.length_drop,List.length_take,hl,hm,List.drop_zero] at g1 g2 g3 ⊢
     all_goals try omega
     ·have h1:=zx b (l.getD 1 eZ)
      have h2:oF ((dM b l).drop 2)+(l.getD 1 eZ).sz≤dG l:=by
       match l with
       |[]=>simp[dM,oF,dG,EB]
       |[x]=>simp[dM,oF,dG,EB]
       |x::y::l=>
        have:=EF b l
        simp only[dM,List.drop_succ_cons,List.drop_zero,dG]
        show _+y.sz≤_
        omega
      omega
     ·match l with
      |[]=>simp[oF,vX,dM,jE]
      |[x]=>simp[oF,vX,dM,jE]
      |x::y::l=>
       have h1:=Da b y
       have h2:=MX b l
       simp only[dM,jE,List.drop_succ_cons,List.drop_zero,List.take_succ_cons,List.take_zero,oF,dG,List.length_cons]
       omega
   ·split
    ·rw[rO];simp[au.aY,au.fName,au.fType,au.fArgs,au.aI,xK,oF,vX]
    ·repeat' split
     all_goals rw[rO];simp[au.aY,au.fName,au.fType,au.fArgs,au.aI,xK,oF,vX]
theorem EF(b:Bool):∀l:List ah,oF (dM b l)≤dG l
 |[]=>by simp[dM,oF]
 |x::xs=>by
  have h1:=Da b x
  have h2:=EF b xs
  rw[dM,oF,dG];omega
theorem Jk(b:Bool):∀(l:List ah) (i:Nat),oF ((dM b l).drop (i+1))+((if 1≤i then(bY l (i-1)).length else 0)+(bY l i).length)≤dG l
 |[],i=>by simp[dM,oF,zw]
 |x::xs,0=>by
  have h2:=EF b xs
  rw[dM,List.drop_succ_cons,List.drop_zero,dG,show bY (x::xs) 0=x.aT from rfl,jo];simp;omega
 |x::xs,i+1=>by
  have h2:=Jk b xs i
  rw[dM,List.drop_succ_cons,dG,show bY (x::xs) (i+1)=bY xs i from rfl]
  cases i with
  |zero=>rw[show bY (x::xs) (0+1-1)=x.aT from rfl,jo];simp at h2 ⊢;omega
  |succ i=>rw[show bY (x::xs) (i+1+1-1)=bY xs i from rfl];simp at h2 ⊢;omega
theorem ZW(b:Bool):∀x:ah,(l5 b x).sz≤x.sz
 | .mk a l=>by
   rw[jo,kY];simp only[ah.aT,ah.ak]
   rw[l5]
   split
   ·rw[vB];simp[aF.bL,aF.aK,aF.fBody,yD]
   ·rename_i h
    have hn:=R4 l
    have hb:=Gs b l
    rw[vB];simp only[aF.bL,aF.aK,aF.fBody]
    obtain⟨x,m,y,rfl⟩:∃x m y,l=x::(m++[y]):=by
     cases l with
     |nil=>simp at h
     |cons x l=>
      have hl:l≠[]:=fun e=>by rw[e] at h;simp at h
      exact⟨x,l.dropLast,l.getLast hl,by rw[List.dropLast_concat_getLast]⟩
    rw[ZV] at *
    rw[show bY (x::(m++[y])) 0=x.aT from rfl,jo x]
    simp only[List.drop_succ_cons,List.drop_zero,List.dropLast_concat,List.length_cons,List.length_append,List.length_nil] at hn ⊢
    have hy:((x::(m++[y])).getLastD eZ)=y:=by rw[←List.cons_append,List.getLastD_eq_getLast?,List.getLast?_append];simp
    rw[hy] at hb
    omega
theorem MX(b:Bool):∀l:List ah,vX (jE b l)≤dG l
 |[]=>by simp[jE,vX]
 |x::xs=>by
  have h1:=ZW b x
  have h2:=MX b xs
  rw[jE,vX,dG];omega
theorem Gs(b:Bool):∀l:List ah,((dM b l).getLastD qB).sz≤(l.getLastD eZ).sz
 |[]=>by simp[dM,yD]
 |[x]=>by simpa [dM] using Da b x
 |x::y::l=>by
  have:=Gs b (y::l)
  simpa [dM] using this
end
end Go.Ab
namespace Go.Proofs
open Go.Shelf
def Tryz.laysM171_ren:Go.Shelf.Ren:=⟨fun|171=>287|243=>331|246=>350|283=>369|284=>370|285=>371|286=>372|129=>382|317=>381|318=>383|319=>384|320=>385|337=>391|338=>392|n=>n,fun|3=>3|9=>9|2=>2|4=>4|171=>358|0=>0|53=>359|37=>227|5=>5|173=>362|212=>376|51=>377|20=>20|213=>378|46=>369|232=>388|233=>389|n=>n,fun|17=>2|18=>4|19=>5|n=>n⟩
theorem Tryz.laysM171:Go.Proofs.LaysM.n171 Tryz.prog Tryz.laysM171_ren:={
 mixed:=by kernel_rfl
 f129:=Tryz.func382.trans (congrArg some (by kernel_rfl))
 f171:=Tryz.func287.trans (congrArg some (by kernel_rfl))
 f243:=Tryz.func331.trans (congrArg some (by kernel_rfl))
 f246:=Tryz.func350.trans (congrArg some (by kernel_rfl))
 f283:=Tryz.func369.trans (congrArg some (by kernel_rfl))
 f284:=Tryz.func370.trans (congrArg some (by kernel_rfl))
 f285:=Tryz.func371.trans (congrArg some (by kernel_rfl))
 f286:=Tryz.func372.trans (congrArg some (by kernel_rfl))
 f317:=Tryz.func381.trans (congrArg some (by kernel_rfl))
 f318:=Tryz.func383.trans (congrArg some (by kernel_rfl))
 f319:=Tryz.func384.trans (congrArg some (by kernel_rfl))
 f320:=Tryz.func385.trans (congrArg some (by kernel_rfl))
 f337:=Tryz.func391.trans (congrArg some (by kernel_rfl))
 f338:=Tryz.func392.trans (congrArg some (by kernel_rfl))
 t0:=Tryz.underlying0
 a0:=Tryz.isAgg0
 z0:=Tryz.sizeOf0
 v0:=Tryz.zeroValue0
 t2:=Tryz.underlying2
 a2:=Tryz.isAgg2
 z2:=Tryz.sizeOf2
 v2:=Tryz.zeroValue2
 t3:=Tryz.underlying3
 a3:=Tryz.isAgg3
 z3:=Tryz.sizeOf3
 v3:=Tryz.zeroValue3
 t4:=Tryz.underlying4
 a4:=Tryz.isAgg4
 z4:=Tryz.sizeOf4
 v4:=Tryz.zeroValue4
 t5:=Tryz.underlying5
 a5:=Tryz.isAgg5
 z5:=Tryz.sizeOf5
 v5:=Tryz.zeroValue5
 t9:=Tryz.underlying9
 a9:=Tryz.isAgg9
 z9:=Tryz.sizeOf9
 v9:=Tryz.zeroValue9
 t20:=Tryz.underlying20
 a20:=Tryz.isAgg20
 z20:=Tryz.sizeOf20
 v20:=Tryz.zeroValue20
 t37:=Tryz.underlying227
 a37:=Tryz.isAgg227
 z37:=Tryz.sizeOf227
 v37:=Tryz.zeroValue227
 t46:=Tryz.underlying369
 a46:=Tryz.isAgg369
 z46:=Tryz.sizeOf369
 v46:=Tryz.zeroValue369
 t51:=Tryz.underlying377
 a51:=Tryz.isAgg377
 z51:=Tryz.sizeOf377
 v51:=Tryz.zeroValue377
 t53:=Tryz.underlying359
 a53:=Tryz.isAgg359
 z53:=Tryz.sizeOf359
 v53:=Tryz.zeroValue359
 t171:=Tryz.underlying358
 a171:=Tryz.isAgg358
 z171:=Tryz.sizeOf358
 v171:=Tryz.zeroValue358
 t173:=Tryz.underlying362
 a173:=Tryz.isAgg362
 z173:=Tryz.sizeOf362
 v173:=Tryz.zeroValue362
 t212:=Tryz.underlying376
 a212:=Tryz.isAgg376
 z212:=Tryz.sizeOf376
 v212:=Tryz.zeroValue376
 t213:=Tryz.underlying378
 a213:=Tryz.isAgg378
 z213:=Tryz.sizeOf378
 t232:=Tryz.underlying388
 a232:=Tryz.isAgg388
 z232:=Tryz.sizeOf388
 v232:=Tryz.zeroValue388
 t233:=Tryz.underlying389
 a233:=Tryz.isAgg389
 z233:=Tryz.sizeOf389
 v233:=Tryz.zeroValue389
 g17:=by kernel_rfl
 g18:=by kernel_rfl
 g19:=by kernel_rfl
 i0:=by kernel_rfl
 i2:=by kernel_rfl
 i3:=by kernel_rfl
 i4:=by kernel_rfl
 i5:=by kernel_rfl
 i9:=by kernel_rfl
 i20:=by kernel_rfl
 i37:=by kernel_rfl
 i46:=by kernel_rfl
 i51:=by kernel_rfl
 i53:=by kernel_rfl
 i171:=by kernel_rfl
 i173:=by kernel_rfl
 i212:=by kernel_rfl
 i232:=by kernel_rfl
 i233:=by kernel_rfl
 m17:=by kernel_rfl
 m18:=by kernel_rfl
 m19:=by kernel_rfl}
open Go.RowKit Go.Sort Go.Lib in
theorem Tryz.strconv_Itoa(n:Int)(h0: -9223372036854775808≤n)(h1:n≤9223372036854775807)(w:World)(htab:Lib.TabIs Tryz.prog w "internal/strconv.uint64pow10" .u64 Lib.pow10Tab):
 Calls Tryz.prog 287 #[.int .i64 n] w fun e w'=>e=.returned (.string ⟨(Lib.itoa n).toArray⟩)∧∃k os,w'=grow (w.drewN k) os:=Any.strconv_Itoa Tryz.laysM171 n h0 h1 w htab
end Go.Proofs
namespace Go.Ab
theorem R5{w:World}{σ:Nat→Nat}{k:Nat}{os:Array Go.Obj}(hl:∀b,b<w.heap.size∨σ b=0):Grow w σ (Go.Sort.grow (w.drewN k) os) σ:=by
 have hh:(Go.Sort.grow (w.drewN k) os).heap=w.heap++os:=rfl
 refine⟨by rw[hh];simp,rfl,rfl,fun b hb=>⟨by rw[hh,Array.getElem?_append_left hb],rfl⟩,fun b=> ?_⟩
 rcases hl b with h|h
 ·left;rw[hh];simp;omega
 ·exact .inr h
theorem ZX{x:V}{vs:List Value}{w:World}{σ:Nat→Nat}{S:Store}{β:Hs}(h:kQ w σ S β [x] vs):∃v,vs=[v]∧bQ w σ S β x v:=by
 obtain⟨hl,h⟩:=h
 obtain⟨v,e,hr⟩:=h 0 x rfl
 match vs,hl,e with
 |[y],_,e=>simp at e;subst e;exact⟨_,rfl,hr⟩
end Go.Ab
namespace Go.Proofs.YtlmhknhlmicmeaaGreatDoor
open Go Go.Ab
theorem Jl{w:World}{σ:Nat→Nat}(h:yH w σ):Lib.TabIs Tryz.prog w "internal/strconv.uint64pow10" .u64 Lib.pow10Tab:=by
 obtain⟨c,t,fz,q1,q2,q3⟩:=h _ _ (show _∈Pb from List.mem_cons_self ..)
 have hn:Tryz.prog.globalNamed "internal/strconv.uint64pow10" =some 2:=by kernel_rfl
 unfold Lib.TabIs World.var?
 rw[hn]
 simp only[Option.bind_some,q1,Option.some.injEq]
 apply Array.ext'
 rw[q2]
 simp[Lib.pow10Tab]
theorem ZY(n:Int)(h0: -9223372036854775808≤n)(h1:n≤9223372036854775807):aH Tryz.prog 287 [.c (.d (.i .i64 n))] (.c (.d (.s (Lib.itoa n)))):=fun S=>by
 refine⟨⟨_,Tryz.func287,by kernel_rfl,by kernel_rfl⟩,fun w σ β vs hS hv=> ?_⟩
 obtain⟨v,rfl,hr,_⟩:=ZX hv
 have hv0:v=.int .i64 n:=by cases hr;rfl
 subst hv0
 refine(Tryz.strconv_Itoa n h0 h1 w (Jl hS.oW)).mono fun e w' ⟨he,k,os,hw⟩=> ?_
 subst hw
 have hg:Grow w σ (Go.Sort.grow (w.drewN k) os) σ:=R5 hS.live
 exact⟨_,.c (.d (.s (Lib.itoa n))),S,σ,β,he,hS.grow hg,Keep.refl _ _,Step.jQ hg,⟨.s _,rfl⟩,rfl,rfl⟩
theorem EG(n:Int)(h0: -9223372036854775808≤n)(h1:n≤9223372036854775807):aH Tryz.prog 212 [.c (.d (.i .i64 n))] (.c (.d (.s (Lib.itoa n)))):=fun S=>by
 refine aC (rs:=[.tmp 2]) Tryz.checked.mixed Tryz.func212 Tryz.ntmps212 rfl rfl rfl rfl rfl ?_
 simp -implicitDefEqProofs (disch:=omega) only[go_sem]
 refine ay (ZY n h0 h1) ?_
 simp -implicitDefEqProofs (disch:=omega) only[go_sem]<;>(repeat(with_reducible refine And.intro ?_ ?_;focus first|omega|rfl|assumption|exact⟨_,rfl,rfl⟩|(simp;omega)|(simp;done)))
end Go.Proofs.YtlmhknhlmicmeaaGreatDoor
namespace Go.Ab
def Cj(m:Nat):List UInt8:=if m=0 then [] else Lib.decDigits m
theorem U9{m:Nat}(h:m≠0):Cj (m/10)++[UInt8.ofNat (48+m % 10)]=Cj m:=by
 unfold Cj
 rw[if_neg h]
 conv=>rhs;rw[Lib.decDigits]
 by_cases h10:m<10
 ·rw[dif_pos h10,if_pos (by omega),List.nil_append,Nat.mod_eq_of_lt h10]
 ·rw[dif_neg h10,if_neg (by omega)]
theorem X9(n:Int)(h0: -9223372036854775808≤n)(h1:n≤9223372036854775807):∃sg:Nat→Int,sg 0=0∧sg n.natAbs=n∧(∀m,m≠0→sg m≠0)∧(∀m,(sg m).tmod 10= -((m % 10:Nat):Int)∨(sg m).tmod 10=((m % 10:Nat):Int))∧
 (∀m,(sg m).tdiv 10=sg (m/10))∧∀m,m≤n.natAbs→ -9223372036854775808≤sg m∧sg m≤9223372036854775807:=by
 by_cases h:n<0
 ·refine⟨fun m=> -(m:Int),rfl,by simp only;omega,fun m hm=>by simp only;omega,fun m=>.inl ?_,fun m=> ?_,fun m hm=>by simp only;omega⟩
  ·simp only;rw[Int.neg_tmod];congr 1
  ·simp only;rw[Int.neg_tdiv];congr 1
 ·refine⟨fun m=>(m:Int),rfl,by simp only;omega,fun m hm=>by simp only;omega,fun m=>.inr rfl,fun m=>rfl,fun m hm=>by simp only;omega⟩
theorem Va:Lib.itoa 0=[48]:=by
 unfold Lib.itoa
 rw[if_neg (by decide),Lib.decDigits,dif_pos (by decide)];rfl
theorem R6(a:Nat)(h:a≤9223372036854775808):(Lib.decDigits a).length≤19:=zB 18 a (by omega)
end Go.Ab
namespace Go.Proofs.YtlmhknhlmicmeaaGreatDoor
open Go Go.Ab
theorem rP(n:Int)(h0: -9223372036854775808≤n)(h1:n≤9223372036854775807):aH Tryz.prog 205 [.c (.d (.i .i64 n))] (.c (.d (.s (Lib.itoa n)))):=fun S=>by
 obtain⟨sg,g0,gn,gne,afH,afI,abx⟩:=X9 n h0 h1
 refine aC (rs:=[.tmp 2]) Tryz.checked.mixed Tryz.func205 Tryz.ntmps205 rfl rfl rfl rfl rfl ?_
 simp -implicitDefEqProofs (disch:=omega) only[go_sem]
 with_reducible refine aA (fun hb=> ?_) (fun hb=> ?_)<;>have h:=hb<;>(try simp only[wf_preprocess] at h)<;>simp -implicitDefEqProofs (disch:=omega) only[go_sem,hb]<;>(repeat(with_reducible refine And.intro ?_ ?_;focus first|omega|rfl|assumption|exact⟨_,rfl,rfl⟩|(simp;omega)|(simp;done)))
 ·rw[h,Va]
 have hn0:=h
 have hd0:Cj n.natAbs=Lib.decDigits n.natAbs:=by unfold Cj;rw[if_neg (by omega)]
 have hln:=R6 n.natAbs (by omega)
 refine aV (ι:=Nat×List UInt8) Tryz.checked.mixed rfl [0,3,4] (fun y=>[.c (.d (.i .i64 (sg y.1))),.c (.d (.b (decide (n<0)))),.c (.d (.s y.2))]) (fun _=>[]::S)
  (fun y=>y.1≤n.natAbs∧Cj y.1++y.2=Cj n.natAbs∧y.2.length≤19) (fun y=>y.1) (n.natAbs,[]) (by rw[gn];rfl) rfl ⟨Nat.le_refl _,List.append_nil _,by simp⟩ ?_
 rintro⟨m,out⟩ ⟨p1,p2,p3⟩
 simp only at p1 p2 p3
 have hr:=abx m p1
 have hm:=afH m
 have hq:=afI m
 generalize hx:sg m=x at *
 generalize hy:x.tmod 10=y at *
 have hlo:out.length≤19:=p3
 simp -implicitDefEqProofs (disch:=omega) only[go_sem]
 with_reducible refine aA (fun hb=> ?_) (fun hb=> ?_)<;>have h:=hb<;>(try simp only[wf_preprocess] at h)<;>simp -implicitDefEqProofs (disch:=omega) only[go_sem,hb]<;>(repeat(with_reducible refine And.intro ?_ ?_;focus first|omega|rfl|assumption|exact⟨_,rfl,rfl⟩|(simp;omega)|(simp;done)))
 ·have hm0:m≠0:=fun e=>by rw[e,g0] at hx;omega
  have hst:=U9 hm0
  have hr2:=abx (m/10) (by omega)
  have agH:(Cj (m/10)).length+1+out.length≤19:=by
   have:=congrArg List.length p2
   rw[←hst,hd0] at this
   simp only[List.length_append,List.length_cons,List.length_nil] at this
   omega
  simp -implicitDefEqProofs (disch:=omega) only[go_sem,hy]
  with_reducible refine aA (fun hb=> ?_) (fun hb=> ?_)<;>have h:=hb<;>(try simp only[wf_preprocess] at h)<;>simp -implicitDefEqProofs (disch:=omega) only[go_sem,hb]<;>(repeat(with_reducible refine And.intro ?_ ?_;focus first|omega|rfl|assumption|exact⟨_,rfl,rfl⟩|(simp;omega)|(simp;done)))
  ·have e1:(0:Int)-y=((m % 10:Nat):Int):=by omega
   have hc:UInt8.ofNat (IntKind.u8.wrap (48+(0-y))).toNat=UInt8.ofNat (48+m % 10):=by
    rw[wrap_u8 _ (by omega),e1]
    congr 1
   simp -implicitDefEqProofs (disch:=omega) only[go_sem,hy,hq]
   (repeat(with_reducible refine And.intro ?_ ?_;focus first|omega|rfl|assumption|exact⟨_,rfl,rfl⟩|(simp;omega)|(simp;done)))
   refine bH (m/10,UInt8.ofNat (48+m % 10)::out) (by simp only;omega) (by rw[←hc];rfl) rfl ⟨by simp only;omega,?_,by simp only[List.length_cons];omega⟩
   simp only
   rw[←p2,←hst,List.append_assoc];rfl
  ·have e1:y=((m % 10:Nat):Int):=by omega
   have hc:UInt8.ofNat (IntKind.u8.wrap (48+y)).toNat=UInt8.ofNat (48+m % 10):=by
    rw[wrap_u8 _ (by omega),e1]
    congr 1
   simp -implicitDefEqProofs (disch:=omega) only[go_sem,hy,hq]
   (repeat(with_reducible refine And.intro ?_ ?_;focus first|omega|rfl|assumption|exact⟨_,rfl,rfl⟩|(simp;omega)|(simp;done)))
   refine bH (m/10,UInt8.ofNat (48+m % 10)::out) (by simp only;omega) (by rw[←hc];rfl) rfl ⟨by simp only;omega,?_,by simp only[List.length_cons];omega⟩
   simp only
   rw[←p2,←hst,List.append_assoc];rfl
 ·have hm0:m=0:=by
   rcases Nat.eq_zero_or_pos m with e|e
   ·exact e
   ·exact absurd (by rw[hx];omega) (gne m (by omega))
  subst hm0
  have hout:out=Lib.decDigits n.natAbs:=by rw[←hd0,←p2];rfl
  with_reducible refine aA (fun hb=> ?_) (fun hb=> ?_)<;>have h:=hb<;>(try simp only[wf_preprocess] at h)<;>simp -implicitDefEqProofs (disch:=omega) only[go_sem,hb]<;>(repeat(with_reducible refine And.intro ?_ ?_;focus first|omega|rfl|assumption|exact⟨_,rfl,rfl⟩|(simp;omega)|(simp;done)))
  ·(repeat(with_reducible refine And.intro ?_ ?_;focus first|omega|rfl|assumption|exact⟨_,rfl,rfl⟩|(simp;omega)|(simp;done)))
   rw[hout]
   unfold Lib.itoa
   rw[if_pos h]
  ·rw[hout]
   unfold Lib.itoa
   rw[if_neg h,show n.toNat=n.natAbs by omega]
end Go.Proofs.YtlmhknhlmicmeaaGreatDoor
