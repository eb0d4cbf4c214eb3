/-
  SEVERAL TEXTS IN ONE (merged by program): contracts and models, each with its own heading.
-/
import Derived.Test.YtlmhknhlmicmeaaGreatDoorPartRobC
import Derived.Lib.ItoaNum
import Derived.Lib.Atoi
import Derived.Shelf.LaysM
import Derived.Shelf.Strconv.Itoa3
import Derived.Test.YtlmhknhlmicmeaaGreatDoorProg
set_option linter.unusedSimpArgs false
set_option linter.unusedVariables false
set_option maxRecDepth 4000
namespace Go.Proofs.YtlmhknhlmicmeaaGreatDoor
open Go Go.Ab
theorem Ai(n a b:Int):aI Tryz.prog 245 [.c (.d (.i .i64 n)),.c (.d (.i .i64 a)),.c (.d (.i .i64 b))] (.c (.d (.b (dec (a≤n∧n≤b))))):=fun S=>by
 refine aD (rs:=[.tmp 6]) Tryz.checked.mixed Tryz.func245 Tryz.ntmps245 rfl rfl rfl rfl rfl ?_
 simp -implicitDefEqProofs (disch:=omega) only[go_sem]
 with_reducible refine aA (fun hb=> ?_) (fun hb=> ?_)<;>have h:=hb<;>(try simp only[wf_preprocess] at h)<;>simp -implicitDefEqProofs (disch:=omega) only[go_sem,hb]<;>(repeat(with_reducible refine And.intro ?_ ?_;focus first|omega|rfl|assumption|exact⟨_,rfl,rfl⟩|(simp;omega)|(simp;done)))
 ·exact aK (by rw[jW];exact iY ⟨fun x=>⟨by omega,x⟩,fun x=>x.2⟩)
 ·exact aK (aQ (by omega)).symm
theorem qY(xs:List (List UInt8))(s:List UInt8)(hl:xs.length≤1073741824):aI Tryz.prog 135 [.c (.d (.sl (xs.map encS))),.c (.d (.s s))] (.c (.d (.b (dec (s∈xs))))):=fun S=>by
 refine aD (rs:=[.tmp 4]) Tryz.checked.mixed Tryz.func135 Tryz.ntmps135 rfl rfl rfl rfl rfl ?_
 simp -implicitDefEqProofs (disch:=omega) only[go_sem,encS]
 refine aZ (ι:=Nat) Tryz.checked.mixed rfl [0,1,5] (fun i=>[.c (.d (.sl (xs.map encS))),.c (.d (.s s)),.c (.d (.i .i64 i))]) (fun _=>[]::S)
  (fun i=>i≤xs.length∧∀j,j<i→∀h:j<xs.length,xs[j]≠s) (fun i=>xs.length-i) 0 rfl rfl ⟨Nat.zero_le _,fun j h=>by omega⟩ ?_
 rintro i ⟨p1,p2⟩
 simp -implicitDefEqProofs (disch:=omega) only[go_sem,encS]
 with_reducible refine aA (fun hb=> ?_) (fun hb=> ?_)<;>have h:=hb<;>(try simp only[wf_preprocess] at h)<;>simp -implicitDefEqProofs (disch:=omega) only[go_sem,hb,encS]<;>(repeat(with_reducible refine And.intro ?_ ?_;focus first|omega|rfl|assumption|exact⟨_,rfl,rfl⟩|(simp;omega)|(simp;done)))
 ·have hi:i<xs.length:=by omega
  with_reducible refine aA (fun hb=> ?_) (fun hb=> ?_)<;>have h:=hb<;>(try simp only[wf_preprocess] at h)<;>simp -implicitDefEqProofs (disch:=omega) only[go_sem,hb,encS]<;>(repeat(with_reducible refine And.intro ?_ ?_;focus first|omega|rfl|assumption|exact⟨_,rfl,rfl⟩|(simp;omega)|(simp;done)))
  ·exact aK (bK (by rw[←h];exact List.getElem_mem hi)).symm
  ·refine bL (i+1) (by omega) rfl rfl ⟨by omega,fun j hj hl=> ?_⟩
   by_cases e:j=i
   ·subst e;exact h
   ·exact p2 j (by omega) hl
 ·refine aK (aQ fun hm=> ?_).symm
  obtain⟨j,h1,h2⟩:=List.getElem_of_mem hm
  exact p2 j (by omega) h1 h2
theorem Vi(xs:List (List UInt8))(s:List UInt8)(hl:xs.length≤1073741824):aI Tryz.prog 266 [.c (.d (.sl (xs.map encS))),.c (.d (.s s))] (.c (.d (.i .i64 (yE xs s)))):=fun S=>by
 refine aD (rs:=[.tmp 4]) Tryz.checked.mixed Tryz.func266 Tryz.ntmps266 rfl rfl rfl rfl rfl ?_
 simp -implicitDefEqProofs (disch:=omega) only[go_sem,encS]
 refine aZ (ι:=Nat) Tryz.checked.mixed rfl [0,1,7,8] (fun i=>[.c (.d (.sl (xs.map encS))),.c (.d (.s s)),.c (.d (.i .i64 xs.length)),.c (.d (.i .i64 i))]) (fun _=>[]::S)
  (fun i=>i≤xs.length∧∀j,j<i→xs.getD j []≠s) (fun i=>xs.length-i) 0 rfl rfl ⟨Nat.zero_le _,fun j h=>by omega⟩ ?_
 rintro i ⟨p1,p2⟩
 simp -implicitDefEqProofs (disch:=omega) only[go_sem,encS]
 with_reducible refine aA (fun hb=> ?_) (fun hb=> ?_)<;>have h:=hb<;>(try simp only[wf_preprocess] at h)<;>simp -implicitDefEqProofs (disch:=omega) only[go_sem,hb,encS]<;>(repeat(with_reducible refine And.intro ?_ ?_;focus first|omega|rfl|assumption|exact⟨_,rfl,rfl⟩|(simp;omega)|(simp;done)))
 ·have hi:i<xs.length:=by omega
  have e:xs.getD i []=xs[i]:=by simp[List.getD,hi]
  with_reducible refine aA (fun hb=> ?_) (fun hb=> ?_)<;>have h:=hb<;>(try simp only[wf_preprocess] at h)<;>simp -implicitDefEqProofs (disch:=omega) only[go_sem,hb,encS]<;>(repeat(with_reducible refine And.intro ?_ ?_;focus first|omega|rfl|assumption|exact⟨_,rfl,rfl⟩|(simp;omega)|(simp;done)))
  ·rw[Pf hi p2 (by rw[e];exact h.symm)]
  ·refine bL (i+1) (by omega) rfl rfl ⟨by omega,fun j hj=> ?_⟩
   by_cases e':j=i
   ·subst e';rw[e];exact fun x=>h x.symm
   ·exact p2 j (by omega)
 ·rw[U5 (fun j hj=>p2 j (by omega))]
theorem qZ(xs:List (List UInt8))(s:List UInt8)(hl:xs.length≤1073741824):aI Tryz.prog 231 [.c (.d (.sl (xs.map encS))),.c (.d (.s s))] (.c (.d (.b (dec (s∈xs))))):=fun S=>by
 refine aD (rs:=[.tmp 4]) Tryz.checked.mixed Tryz.func231 Tryz.ntmps231 rfl rfl rfl rfl rfl ?_
 simp -implicitDefEqProofs (disch:=omega) only[go_sem]
 refine au (Vi xs s hl) ?_
 simp -implicitDefEqProofs (disch:=omega) only[go_sem]<;>(repeat(with_reducible refine And.intro ?_ ?_;focus first|omega|rfl|assumption|exact⟨_,rfl,rfl⟩|(simp;omega)|(simp;done)))
 exact aK R9
theorem GN(s:List UInt8):aI Tryz.prog 246 [.c (.d (.s s))] (.c (.d (.b (dec (s∈reserved))))):=fun S=>by
 refine aD (rs:=[.tmp 2]) Tryz.checked.mixed Tryz.func246 Tryz.ntmps246 rfl rfl rfl rfl rfl ?_
 simp -implicitDefEqProofs (disch:=omega) only[go_sem]
 (repeat(with_reducible refine And.intro ?_ ?_;focus first|omega|rfl|assumption|exact⟨_,rfl,rfl⟩|(simp;omega)|(simp;done)))
 refine au (qY reserved s (by decide)) ?_
 simp -implicitDefEqProofs (disch:=omega) only[go_sem]<;>(repeat(with_reducible refine And.intro ?_ ?_;focus first|omega|rfl|assumption|exact⟨_,rfl,rfl⟩|(simp;omega)|(simp;done)))
theorem GQ(s:List UInt8):aI Tryz.prog 263 [.c (.d (.s s))] (.c (.d (.b (dec (s∈reserved))))):=fun S=>by
 refine aD (rs:=[.tmp 2]) Tryz.checked.mixed Tryz.func263 Tryz.ntmps263 rfl rfl rfl rfl rfl ?_
 simp -implicitDefEqProofs (disch:=omega) only[go_sem]
 (repeat(with_reducible refine And.intro ?_ ?_;focus first|omega|rfl|assumption|exact⟨_,rfl,rfl⟩|(simp;omega)|(simp;done)))
 refine au (qZ reserved s (by decide)) ?_
 simp -implicitDefEqProofs (disch:=omega) only[go_sem]<;>(repeat(with_reducible refine And.intro ?_ ?_;focus first|omega|rfl|assumption|exact⟨_,rfl,rfl⟩|(simp;omega)|(simp;done)))
theorem GR(b:UInt8):aI Tryz.prog 261 [.c (.d (.i .u8 b.toNat))] (.c (.d (.b (dec (lowerB b))))):=fun S=>by
 refine aD (rs:=[.tmp 2]) Tryz.checked.mixed Tryz.func261 Tryz.ntmps261 rfl rfl rfl rfl rfl ?_
 simp -implicitDefEqProofs (disch:=omega) only[go_sem]
 with_reducible refine aA (fun hb=> ?_) (fun hb=> ?_)<;>have h:=hb<;>(try simp only[wf_preprocess] at h)<;>simp -implicitDefEqProofs (disch:=omega) only[go_sem,hb]<;>(repeat(with_reducible refine And.intro ?_ ?_;focus first|omega|rfl|assumption|exact⟨_,rfl,rfl⟩|(simp;omega)|(simp;done)))
 ·exact aK (by rw[jW];exact iY ⟨fun x=>⟨by omega,by omega⟩,fun x=>by have:=x.2;omega⟩)
 ·exact aK (aQ fun x=>by have:=x.1;omega).symm
theorem GU(b:UInt8):aI Tryz.prog 262 [.c (.d (.i .u8 b.toNat))] (.c (.d (.b (dec (nM b))))):=fun S=>by
 refine aD (rs:=[.tmp 2]) Tryz.checked.mixed Tryz.func262 Tryz.ntmps262 rfl rfl rfl rfl rfl ?_
 simp -implicitDefEqProofs (disch:=omega) only[go_sem]
 with_reducible refine aA (fun hb=> ?_) (fun hb=> ?_)<;>have h:=hb<;>(try simp only[wf_preprocess] at h)<;>simp -implicitDefEqProofs (disch:=omega) only[go_sem,hb]<;>(repeat(with_reducible refine And.intro ?_ ?_;focus first|omega|rfl|assumption|exact⟨_,rfl,rfl⟩|(simp;omega)|(simp;done)))
 ·exact aK (by rw[jW];exact iY ⟨fun x=>⟨by omega,by omega⟩,fun x=>by have:=x.2;omega⟩)
 ·exact aK (aQ fun x=>by have:=x.1;omega).symm
theorem jD(s:List UInt8)(hl:s.length≤1073741824):aI Tryz.prog 168 [.c (.d (.s s))] (.c (.d (.b (validName s)))):=fun S=>by
 refine aD (rs:=[.tmp 2]) Tryz.checked.mixed Tryz.func168 Tryz.ntmps168 rfl rfl rfl rfl rfl ?_
 simp -implicitDefEqProofs (disch:=omega) only[go_sem]
 refine aZ (ι:=Nat) Tryz.checked.mixed rfl [0,5,6] (fun i=>[.c (.d (.s s)),.c (.d (.i .i64 s.length)),.c (.d (.i .i64 i))]) (fun _=>[]::S)
  (fun i=>i≤s.length∧∀j,j<i→lowerB (s.getD j 0)∨(j≠0∧nM (s.getD j 0))) (fun i=>s.length-i) 0 rfl rfl ⟨Nat.zero_le _,fun j h=>by omega⟩ ?_
 rintro i ⟨p1,p2⟩
 have next:i<s.length→(lowerB (s.getD i 0)∨(i≠0∧nM (s.getD i 0)))→∀j,j<i+1→lowerB (s.getD j 0)∨(j≠0∧nM (s.getD j 0)):=fun hi h j hj=>by
  by_cases e:j=i
  ·subst e;exact h
  ·exact p2 j (by omega)
 have bad:i<s.length→¬(lowerB (s.getD i 0)∨(i≠0∧nM (s.getD i 0)))→validName s=false:=fun hi h=>aQ fun x=>h (x.2.2 i hi)
 simp -implicitDefEqProofs (disch:=omega) only[go_sem]
 with_reducible refine aA (fun hb=> ?_) (fun hb=> ?_)<;>have h:=hb<;>(try simp only[wf_preprocess] at h)<;>simp -implicitDefEqProofs (disch:=omega) only[go_sem,hb]<;>(repeat(with_reducible refine And.intro ?_ ?_;focus first|omega|rfl|assumption|exact⟨_,rfl,rfl⟩|(simp;omega)|(simp;done)))
 ·have hi:i<s.length:=by omega
  (repeat(with_reducible refine And.intro ?_ ?_;focus first|omega|rfl|assumption|exact⟨_,rfl,rfl⟩|(simp;omega)|(simp;done)))
  refine au (GR (s.getD i 0)) ?_
  simp -implicitDefEqProofs (disch:=omega) only[go_sem]<;>(repeat(with_reducible refine And.intro ?_ ?_;focus first|omega|rfl|assumption|exact⟨_,rfl,rfl⟩|(simp;omega)|(simp;done)))
  with_reducible refine aA (fun hb=> ?_) (fun hb=> ?_)<;>have h:=hb<;>(try simp only[wf_preprocess] at h)<;>simp -implicitDefEqProofs (disch:=omega) only[go_sem,hb]<;>(repeat(with_reducible refine And.intro ?_ ?_;focus first|omega|rfl|assumption|exact⟨_,rfl,rfl⟩|(simp;omega)|(simp;done)))
  ·have nl:=h
   with_reducible refine aA (fun hb=> ?_) (fun hb=> ?_)<;>have h:=hb<;>(try simp only[wf_preprocess] at h)<;>simp -implicitDefEqProofs (disch:=omega) only[go_sem,hb]<;>(repeat(with_reducible refine And.intro ?_ ?_;focus first|omega|rfl|assumption|exact⟨_,rfl,rfl⟩|(simp;omega)|(simp;done)))
   ·have i0:i=0:=by omega
    rw[bad hi (fun x=>x.elim nl fun y=>y.1 i0)]
   ·have ne:=h
    (repeat(with_reducible refine And.intro ?_ ?_;focus first|omega|rfl|assumption|exact⟨_,rfl,rfl⟩|(simp;omega)|(simp;done)))
    refine au (GU (s.getD i 0)) ?_
    simp -implicitDefEqProofs (disch:=omega) only[go_sem]<;>(repeat(with_reducible refine And.intro ?_ ?_;focus first|omega|rfl|assumption|exact⟨_,rfl,rfl⟩|(simp;omega)|(simp;done)))
    with_reducible refine aA (fun hb=> ?_) (fun hb=> ?_)<;>have h:=hb<;>(try simp only[wf_preprocess] at h)<;>simp -implicitDefEqProofs (disch:=omega) only[go_sem,hb]<;>(repeat(with_reducible refine And.intro ?_ ?_;focus first|omega|rfl|assumption|exact⟨_,rfl,rfl⟩|(simp;omega)|(simp;done)))
    ·rw[bad hi (fun x=>x.elim nl fun y=>h y.2)]
    ·exact bL (i+1) (by omega) rfl rfl ⟨by omega,next hi (.inr ⟨by omega,h⟩)⟩
  ·exact bL (i+1) (by omega) rfl rfl ⟨by omega,next hi (.inl h)⟩
 ·have hn:MN s:=fun j hj=>p2 j (by omega)
  have h0:∀b,dec (s∈reserved)=b→∀c,decide ((s.length:Int)≥1)=c→∀d,decide ((s.length:Int)≤8)=d→validName s=(c&&d&& !b):=by
   rintro b rfl c rfl d rfl
   unfold validName
   rw[Bool.eq_iff_iff]
   simp only[vU,Bool.and_eq_true,decide_eq_true_eq,Bool.not_eq_true',Cy]
   exact⟨fun x=>⟨⟨by omega,by omega⟩,x.2.1⟩,fun x=>⟨⟨by omega,by omega⟩,x.2,hn⟩⟩
  with_reducible refine aA (fun hb=> ?_) (fun hb=> ?_)<;>have h:=hb<;>(try simp only[wf_preprocess] at h)<;>simp -implicitDefEqProofs (disch:=omega) only[go_sem,hb]<;>(repeat(with_reducible refine And.intro ?_ ?_;focus first|omega|rfl|assumption|exact⟨_,rfl,rfl⟩|(simp;omega)|(simp;done)))
  ·have c1:=hb
   with_reducible refine aA (fun hb=> ?_) (fun hb=> ?_)<;>have h:=hb<;>(try simp only[wf_preprocess] at h)<;>simp -implicitDefEqProofs (disch:=omega) only[go_sem,hb]<;>(repeat(with_reducible refine And.intro ?_ ?_;focus first|omega|rfl|assumption|exact⟨_,rfl,rfl⟩|(simp;omega)|(simp;done)))
   ·refine au (GQ s) ?_
    simp -implicitDefEqProofs (disch:=omega) only[go_sem]<;>(repeat(with_reducible refine And.intro ?_ ?_;focus first|omega|rfl|assumption|exact⟨_,rfl,rfl⟩|(simp;omega)|(simp;done)))
    exact aK (by rw[h0 _ rfl _ c1 _ hb];simp)
   ·exact aK (by rw[h0 _ rfl _ c1 _ hb];simp)
  ·exact aK (by rw[h0 _ rfl _ hb _ rfl];simp)
theorem jE(s:List UInt8)(hl:s.length≤1073741824):aI Tryz.prog 152 [.c (.d (.s s))] (.c (.d (.b (validName s)))):=fun S=>by
 have bad:¬MN s→validName s=false:=fun h=>aQ fun x=>h x.2.2
 refine aD (rs:=[.tmp 2]) Tryz.checked.mixed Tryz.func152 Tryz.ntmps152 rfl rfl rfl rfl rfl ?_
 simp -implicitDefEqProofs (disch:=omega) only[go_sem]
 refine au (Ai s.length 1 8) ?_
 simp -implicitDefEqProofs (disch:=omega) only[go_sem]<;>(repeat(with_reducible refine And.intro ?_ ?_;focus first|omega|rfl|assumption|exact⟨_,rfl,rfl⟩|(simp;omega)|(simp;done)))
 with_reducible refine aA (fun hb=> ?_) (fun hb=> ?_)<;>have h:=hb<;>(try simp only[wf_preprocess] at h)<;>simp -implicitDefEqProofs (disch:=omega) only[go_sem,hb]<;>(repeat(with_reducible refine And.intro ?_ ?_;focus first|omega|rfl|assumption|exact⟨_,rfl,rfl⟩|(simp;omega)|(simp;done)))
 ·rw[show validName s=false from aQ fun x=>h (by omega)]
 have hlen:=h
 refine au (GN s) ?_
 simp -implicitDefEqProofs (disch:=omega) only[go_sem]<;>(repeat(with_reducible refine And.intro ?_ ?_;focus first|omega|rfl|assumption|exact⟨_,rfl,rfl⟩|(simp;omega)|(simp;done)))
 with_reducible refine aA (fun hb=> ?_) (fun hb=> ?_)<;>have h:=hb<;>(try simp only[wf_preprocess] at h)<;>simp -implicitDefEqProofs (disch:=omega) only[go_sem,hb]<;>(repeat(with_reducible refine And.intro ?_ ?_;focus first|omega|rfl|assumption|exact⟨_,rfl,rfl⟩|(simp;omega)|(simp;done)))
 ·rw[show validName s=false from aQ fun x=>x.2.1 h]
 have hres:=h
 refine aZ (ι:=Nat) Tryz.checked.mixed rfl [0,3] (fun i=>[.c (.d (.s s)),.c (.d (.i .i64 i))]) (fun _=>[]::S)
  (fun i=>i≤s.length∧∀j,j<i→lowerB (s.getD j 0)∨(j≠0∧nM (s.getD j 0))) (fun i=>s.length-i) 0 rfl rfl ⟨Nat.zero_le _,fun j h=>by omega⟩ ?_
 rintro i ⟨p1,p2⟩
 have next:i<s.length→(lowerB (s.getD i 0)∨(i≠0∧nM (s.getD i 0)))→∀j,j<i+1→lowerB (s.getD j 0)∨(j≠0∧nM (s.getD j 0)):=fun hi h j hj=>by
  by_cases e:j=i
  ·subst e;exact h
  ·exact p2 j (by omega)
 simp -implicitDefEqProofs (disch:=omega) only[go_sem]
 with_reducible refine aA (fun hb=> ?_) (fun hb=> ?_)<;>have h:=hb<;>(try simp only[wf_preprocess] at h)<;>simp -implicitDefEqProofs (disch:=omega) only[go_sem,hb]<;>(repeat(with_reducible refine And.intro ?_ ?_;focus first|omega|rfl|assumption|exact⟨_,rfl,rfl⟩|(simp;omega)|(simp;done)))
 ·have hi:i<s.length:=by omega
  have bad':¬(lowerB (s.getD i 0)∨(i≠0∧nM (s.getD i 0)))→validName s=false:=fun h=>bad fun x=>h (x i hi)
  have next:=next hi
  unfold lowerB nM at bad' next
  all_goals try(with_reducible refine aA (fun hb=> ?_) (fun hb=> ?_)<;>have h:=hb<;>(try simp only[wf_preprocess] at h)<;>simp -implicitDefEqProofs (disch:=omega) only[go_sem,hb]<;>(repeat(with_reducible refine And.intro ?_ ?_;focus first|omega|rfl|assumption|exact⟨_,rfl,rfl⟩|(simp;omega)|(simp;done))))
  all_goals try(with_reducible refine aA (fun hb=> ?_) (fun hb=> ?_)<;>have h:=hb<;>(try simp only[wf_preprocess] at h)<;>simp -implicitDefEqProofs (disch:=omega) only[go_sem,hb]<;>(repeat(with_reducible refine And.intro ?_ ?_;focus first|omega|rfl|assumption|exact⟨_,rfl,rfl⟩|(simp;omega)|(simp;done))))
  all_goals try(with_reducible refine aA (fun hb=> ?_) (fun hb=> ?_)<;>have h:=hb<;>(try simp only[wf_preprocess] at h)<;>simp -implicitDefEqProofs (disch:=omega) only[go_sem,hb]<;>(repeat(with_reducible refine And.intro ?_ ?_;focus first|omega|rfl|assumption|exact⟨_,rfl,rfl⟩|(simp;omega)|(simp;done))))
  all_goals try(with_reducible refine aA (fun hb=> ?_) (fun hb=> ?_)<;>have h:=hb<;>(try simp only[wf_preprocess] at h)<;>simp -implicitDefEqProofs (disch:=omega) only[go_sem,hb]<;>(repeat(with_reducible refine And.intro ?_ ?_;focus first|omega|rfl|assumption|exact⟨_,rfl,rfl⟩|(simp;omega)|(simp;done))))
  all_goals try(with_reducible refine aA (fun hb=> ?_) (fun hb=> ?_)<;>have h:=hb<;>(try simp only[wf_preprocess] at h)<;>simp -implicitDefEqProofs (disch:=omega) only[go_sem,hb]<;>(repeat(with_reducible refine And.intro ?_ ?_;focus first|omega|rfl|assumption|exact⟨_,rfl,rfl⟩|(simp;omega)|(simp;done))))
  all_goals try(with_reducible refine aA (fun hb=> ?_) (fun hb=> ?_)<;>have h:=hb<;>(try simp only[wf_preprocess] at h)<;>simp -implicitDefEqProofs (disch:=omega) only[go_sem,hb]<;>(repeat(with_reducible refine And.intro ?_ ?_;focus first|omega|rfl|assumption|exact⟨_,rfl,rfl⟩|(simp;omega)|(simp;done))))
  all_goals first
   |exact bL (i+1) (by omega) rfl rfl ⟨by omega,next (by omega)⟩
   |exact aK (bad' (by omega)).symm
 ·rw[show validName s=true from bK ⟨by omega,hres,fun j hj=>p2 j (by omega)⟩]
theorem Vj(s:List UInt8):aI Tryz.prog 346 [.c (.d (.s s))] (.c (.d (.b (sP s)))):=fun S=>by
 refine aD (rs:=[.tmp 2]) Tryz.checked.mixed Tryz.func346 Tryz.ntmps346 rfl rfl rfl rfl rfl ?_
 simp -implicitDefEqProofs (disch:=omega) only[go_sem]
 with_reducible refine aA (fun hb=> ?_) (fun hb=> ?_)<;>have h:=hb<;>(try simp only[wf_preprocess] at h)<;>simp -implicitDefEqProofs (disch:=omega) only[go_sem,hb]<;>(repeat(with_reducible refine And.intro ?_ ?_;focus first|omega|rfl|assumption|exact⟨_,rfl,rfl⟩|(simp;omega)|(simp;done)))
 ·exact aK (bK (.inl h)).symm
 ·exact aK (by rw[jW];exact iY ⟨fun x=>.inr x,fun x=>x.resolve_left h⟩)
theorem Nf(s:List UInt8):aI Tryz.prog 351 [.c (.d (.s s))] (.c (.d (.b (sP s)))):=fun S=>by
 refine aD (rs:=[.tmp 2]) Tryz.checked.mixed Tryz.func351 Tryz.ntmps351 rfl rfl rfl rfl rfl ?_
 simp -implicitDefEqProofs (disch:=omega) only[go_sem]
 with_reducible refine aA (fun hb=> ?_) (fun hb=> ?_)<;>have h:=hb<;>(try simp only[wf_preprocess] at h)<;>simp -implicitDefEqProofs (disch:=omega) only[go_sem,hb]<;>(repeat(with_reducible refine And.intro ?_ ?_;focus first|omega|rfl|assumption|exact⟨_,rfl,rfl⟩|(simp;omega)|(simp;done)))
 ·exact aK (bK (.inl h)).symm
 ·exact aK (by rw[jW];exact iY ⟨fun x=>.inr x,fun x=>x.resolve_left h⟩)
end Go.Proofs.YtlmhknhlmicmeaaGreatDoor
namespace Go.Proofs.YtlmhknhlmicmeaaGreatDoor
open Go Go.Ab
theorem q8{x:aj}{i:Nat}(hi:i<x.fArgs.length)(h:x.sz≤4194304):x.fArgs[i].sz≤4194304∧x.fArgs.length≤4194304∧x.fName.length≤4194304:=by
 have hx:x.fArgs[i].sz≤bG (x.fArgs.map aj.enc):=eP (List.mem_map_of_mem (List.getElem_mem hi))
 simp only[aj.sz,aj.aG,bQ,D.sz,List.length_map] at h
 omega
theorem zm{x:aj}(h:x.sz≤4194304):x.fArgs.length≤4194304∧x.fName.length≤4194304:=by
 simp only[aj.sz,aj.aG,bQ,D.sz,List.length_map] at h
 omega
theorem jK:∀{ts:List aj} {i:Nat} (hi:i<ts.length),aj.dh (ts.drop i)=ts[i].cnt+aj.dh (ts.drop (i+1)):=fun {ts} {i} hi=>by
 rw[List.drop_eq_getElem_cons hi,aj.dh]
theorem EK:∀{ts:List aj} {i:Nat} (hi:i<ts.length),depths (ts.drop i)=max (jX ts[i]+1) (depths (ts.drop (i+1))):=fun {ts} {i} hi=>by
 rw[List.drop_eq_getElem_cons hi,depths]
theorem Ng:∀{ts:List aj} {i:Nat} (hi:i<ts.length),iE (ts.drop i)=(formed ts[i]&&iE (ts.drop (i+1))):=fun {ts} {i} hi=>by
 rw[List.drop_eq_getElem_cons hi,iE]
theorem GV:∀n:Nat,∀x:aj,SizeOf.sizeOf x<n→∀l:Int,0≤l→l≤1073741824→x.sz≤4194304→aI Tryz.prog 323 [x.v,.c (.d (.i .i64 l))] (.c (.d (.i .i64 (iJ l x.cnt))))
 |0=>fun x h=>by omega
 |n+1=>by
  have ih:=GV n
  intro x hn l h0 h1 hsz S
  have iF:=aj.fF x
  have hts:=zm hsz
  have hcn:=aj.l9 x
  refine aD (rs:=[.tmp 4]) Tryz.checked.mixed Tryz.func323 Tryz.ntmps323 rfl rfl rfl rfl rfl ?_
  simp -implicitDefEqProofs (disch:=omega) only[go_sem]
  refine aZ (ι:=Nat×Int) Tryz.checked.mixed rfl [1,2,5] (fun y=>[.c (.d (.i .i64 y.2)),.c (.ptr (0,0) 0),.c (.d (.i .i64 y.1))]) (fun y=>[.box [.d (.i .i64 x.aH),.d (.s x.fName),.d (.sl (x.fArgs.map aj.enc))]]::S)
   (fun y=>y.1≤x.fArgs.length∧ -1≤y.2∧y.2≤1073741824∧(0≤y.2→iJ l x.cnt=iJ y.2 (aj.dh (x.fArgs.drop y.1)))∧(y.2<0→iJ l x.cnt= -1)) (fun y=>x.fArgs.length-y.1) (0,l-1) rfl rfl ⟨Nat.zero_le _,by simp only;omega,by simp only;omega,fun h=> ?_,fun h=> ?_⟩ ?_
  ·simp only[List.drop_zero] at h ⊢
   unfold iJ
   rw[hcn]
   split<;>split<;>omega
  ·simp only at h
   exact tJ (by omega)
  rintro⟨i,c⟩ ⟨p1,p2,p3,p4,p5⟩
  simp only at p1 p2 p3 p4 p5
  simp -implicitDefEqProofs (disch:=omega) only[go_sem]
  with_reducible refine aA (fun hb=> ?_) (fun hb=> ?_)<;>have h:=hb<;>(try simp only[wf_preprocess] at h)<;>simp -implicitDefEqProofs (disch:=omega) only[go_sem,hb]<;>(repeat(with_reducible refine And.intro ?_ ?_;focus first|omega|rfl|assumption|exact⟨_,rfl,rfl⟩|(simp;omega)|(simp;done)))
  ·have hi:i<x.fArgs.length:=by omega
   with_reducible refine aA (fun hb=> ?_) (fun hb=> ?_)<;>have h:=hb<;>(try simp only[wf_preprocess] at h)<;>simp -implicitDefEqProofs (disch:=omega) only[go_sem,hb]<;>(repeat(with_reducible refine And.intro ?_ ?_;focus first|omega|rfl|assumption|exact⟨_,rfl,rfl⟩|(simp;omega)|(simp;done)))
   ·have hsz':=q8 hi hsz
    have p6:=p4 h
    rw[jK hi] at p6
    (repeat(with_reducible refine And.intro ?_ ?_;focus first|omega|rfl|assumption|exact⟨_,rfl,rfl⟩|(simp;omega)|(simp;done)))
    refine au (ih x.fArgs[i] (by have:=List.sizeOf_lt_of_mem (List.getElem_mem hi);omega) c (by omega) (by omega) (by omega)) ?_
    simp -implicitDefEqProofs (disch:=omega) only[go_sem]<;>(repeat(with_reducible refine And.intro ?_ ?_;focus first|omega|rfl|assumption|exact⟨_,rfl,rfl⟩|(simp;omega)|(simp;done)))
    refine bL (i+1,iJ c _) (by simp only;omega) rfl rfl ⟨by simp only;omega,?_,?_,fun h=> ?_,fun h=> ?_⟩
    ·simp only;unfold iJ;split<;>omega
    ·simp only;unfold iJ;split<;>omega
    ·simp only at h ⊢
     rw[p6]
     have:=vw (l:=c) (a:=x.fArgs[i].cnt) (by omega)
     rw[this.1]
     unfold iJ
     split<;>split<;>omega
    ·simp only at h ⊢
     rw[p6]
     have:=vB h
     exact tJ (by omega)
   ·have hc:c= -1:=by omega
    rw[p5 (by omega),hc]
  ·have hi:i=x.fArgs.length:=by omega
   by_cases hc:0≤c
   ·rw[p4 hc,hi,List.drop_length,aj.dh,Bg (by omega)]
    exact int_eq (by simp)
   ·rw[p5 (by omega)]
    exact int_eq (by omega)
theorem Vk(x:aj)(l:Int)(h0:0≤l)(h1:l≤1073741824)(hsz:x.sz≤4194304):aI Tryz.prog 323 [x.v,.c (.d (.i .i64 l))] (.c (.d (.i .i64 (iJ l x.cnt)))):=GV _ x (Nat.lt_succ_self _) l h0 h1 hsz
theorem Nh(a b:Int):aI Tryz.prog 276 [.c (.d (.i .i64 a)),.c (.d (.i .i64 b))] (.c (.d (.i .i64 (max a b)))):=fun S=>by
 refine aD (rs:=[.tmp 4]) Tryz.checked.mixed Tryz.func276 Tryz.ntmps276 rfl rfl rfl rfl rfl ?_
 simp -implicitDefEqProofs (disch:=omega) only[go_sem]
 with_reducible refine aA (fun hb=> ?_) (fun hb=> ?_)<;>have h:=hb<;>(try simp only[wf_preprocess] at h)<;>simp -implicitDefEqProofs (disch:=omega) only[go_sem,hb]<;>(repeat(with_reducible refine And.intro ?_ ?_;focus first|omega|rfl|assumption|exact⟨_,rfl,rfl⟩|(simp;omega)|(simp;done)))
 ·exact int_eq (by omega)
 ·exact int_eq (by omega)
theorem BU:∀n:Nat,∀x:aj,SizeOf.sizeOf x<n→x.sz≤4194304→aI Tryz.prog 324 [x.v] (.c (.d (.i .i64 (jX x))))
 |0=>fun x h=>by omega
 |n+1=>by
  have ih:=BU n
  intro x hn hsz S
  have iF:=aj.fF x
  have hts:=zm hsz
  have hd1:=wG x
  have hd2:=ji x
  refine aD (rs:=[.tmp 2]) Tryz.checked.mixed Tryz.func324 Tryz.ntmps324 rfl rfl rfl rfl rfl ?_
  simp -implicitDefEqProofs (disch:=omega) only[go_sem]
  refine aZ (ι:=Nat×Nat) Tryz.checked.mixed rfl [1,3,4] (fun y=>[.c (.ptr (0,0) 0),.c (.d (.i .i64 y.2)),.c (.d (.i .i64 y.1))]) (fun y=>[.box [.d (.i .i64 x.aH),.d (.s x.fName),.d (.sl (x.fArgs.map aj.enc))]]::S)
   (fun y=>y.1≤x.fArgs.length∧jX x=max y.2 (depths (x.fArgs.drop y.1))) (fun y=>x.fArgs.length-y.1) (0,0) rfl rfl ⟨Nat.zero_le _,by simp[JI]⟩ ?_
  rintro⟨i,c⟩ ⟨p1,p2⟩
  simp only at p1 p2
  simp -implicitDefEqProofs (disch:=omega) only[go_sem]
  with_reducible refine aA (fun hb=> ?_) (fun hb=> ?_)<;>have h:=hb<;>(try simp only[wf_preprocess] at h)<;>simp -implicitDefEqProofs (disch:=omega) only[go_sem,hb]<;>(repeat(with_reducible refine And.intro ?_ ?_;focus first|omega|rfl|assumption|exact⟨_,rfl,rfl⟩|(simp;omega)|(simp;done)))
  ·have hi:i<x.fArgs.length:=by omega
   have hsz':=q8 hi hsz
   rw[EK hi] at p2
   have hd3:=wG x.fArgs[i]
   have hd4:=ji x.fArgs[i]
   (repeat(with_reducible refine And.intro ?_ ?_;focus first|omega|rfl|assumption|exact⟨_,rfl,rfl⟩|(simp;omega)|(simp;done)))
   refine au (ih x.fArgs[i] (by have:=List.sizeOf_lt_of_mem (List.getElem_mem hi);omega) (by omega)) ?_
   simp -implicitDefEqProofs (disch:=omega) only[go_sem]<;>(repeat(with_reducible refine And.intro ?_ ?_;focus first|omega|rfl|assumption|exact⟨_,rfl,rfl⟩|(simp;omega)|(simp;done)))
   refine au (Nh _ _) ?_
   simp -implicitDefEqProofs (disch:=omega) only[go_sem]<;>(repeat(with_reducible refine And.intro ?_ ?_;focus first|omega|rfl|assumption|exact⟨_,rfl,rfl⟩|(simp;omega)|(simp;done)))
   rw[show max (c:Int) (1+(jX x.fArgs[i]:Int))=((max c (1+jX x.fArgs[i]):Nat):Int) by omega]
   exact bL (i+1,max c (1+jX x.fArgs[i])) (by simp only;omega) rfl rfl ⟨by simp only;omega,by simp only;omega⟩
  ·have hi:i=x.fArgs.length:=by omega
   rw[hi,List.drop_length,depths] at p2
   exact int_eq (by omega)
theorem Ni(x:aj)(hsz:x.sz≤4194304):aI Tryz.prog 324 [x.v] (.c (.d (.i .i64 (jX x)))):=BU _ x (Nat.lt_succ_self _) hsz
theorem BX:∀n:Nat,∀x:aj,SizeOf.sizeOf x<n→x.sz≤4194304→aI Tryz.prog 336 [x.v] (.c (.d (.i .i64 (jX x))))
 |0=>fun x h=>by omega
 |n+1=>by
  have ih:=BX n
  intro x hn hsz S
  have iF:=aj.fF x
  have hts:=zm hsz
  have hd1:=wG x
  have hd2:=ji x
  refine aD (rs:=[.tmp 2]) Tryz.checked.mixed Tryz.func336 Tryz.ntmps336 rfl rfl rfl rfl rfl ?_
  simp -implicitDefEqProofs (disch:=omega) only[go_sem]
  refine aZ (ι:=Nat×Nat) Tryz.checked.mixed rfl [3,7,8,9] (fun y=>[.c (.d (.i .i64 y.2)),.c (.d (.sl (x.fArgs.map aj.enc))),.c (.d (.i .i64 x.fArgs.length)),.c (.d (.i .i64 y.1))]) (fun y=>[.box [.d (.i .i64 x.aH),.d (.s x.fName),.d (.sl (x.fArgs.map aj.enc))]]::S)
   (fun y=>y.1≤x.fArgs.length∧jX x=max y.2 (depths (x.fArgs.drop y.1))) (fun y=>x.fArgs.length-y.1) (0,0) rfl rfl ⟨Nat.zero_le _,by simp[JI]⟩ ?_
  rintro⟨i,c⟩ ⟨p1,p2⟩
  simp only at p1 p2
  simp -implicitDefEqProofs (disch:=omega) only[go_sem]
  with_reducible refine aA (fun hb=> ?_) (fun hb=> ?_)<;>have h:=hb<;>(try simp only[wf_preprocess] at h)<;>simp -implicitDefEqProofs (disch:=omega) only[go_sem,hb]<;>(repeat(with_reducible refine And.intro ?_ ?_;focus first|omega|rfl|assumption|exact⟨_,rfl,rfl⟩|(simp;omega)|(simp;done)))
  ·have hi:i<x.fArgs.length:=by omega
   have hsz':=q8 hi hsz
   rw[EK hi] at p2
   have hd3:=wG x.fArgs[i]
   have hd4:=ji x.fArgs[i]
   (repeat(with_reducible refine And.intro ?_ ?_;focus first|omega|rfl|assumption|exact⟨_,rfl,rfl⟩|(simp;omega)|(simp;done)))
   refine au (ih x.fArgs[i] (by have:=List.sizeOf_lt_of_mem (List.getElem_mem hi);omega) (by omega)) ?_
   simp -implicitDefEqProofs (disch:=omega) only[go_sem]<;>(repeat(with_reducible refine And.intro ?_ ?_;focus first|omega|rfl|assumption|exact⟨_,rfl,rfl⟩|(simp;omega)|(simp;done)))
   rw[show max (c:Int) ((jX x.fArgs[i]:Int)+1)=((max c (jX x.fArgs[i]+1):Nat):Int) by omega]
   exact dO 1 (by decide) (i+1,max c (jX x.fArgs[i]+1)) (by simp only;omega) rfl rfl rfl rfl ⟨by simp only;omega,by simp only;omega⟩
  ·have hi:i=x.fArgs.length:=by omega
   rw[hi,List.drop_length,depths] at p2
   exact int_eq (by omega)
theorem Nj(x:aj)(hsz:x.sz≤4194304):aI Tryz.prog 336 [x.v] (.c (.d (.i .i64 (jX x)))):=BX _ x (Nat.lt_succ_self _) hsz
theorem CR:∀n:Nat,∀x:aj,SizeOf.sizeOf x<n→x.sz≤4194304→aI Tryz.prog 337 [x.v] (.c (.d (.i .i64 x.cnt)))
 |0=>fun x h=>by omega
 |n+1=>by
  have ih:=CR n
  intro x hn hsz S
  have iF:=aj.fF x
  have hts:=zm hsz
  have hd2:=ji x
  refine aD (rs:=[.tmp 2]) Tryz.checked.mixed Tryz.func337 Tryz.ntmps337 rfl rfl rfl rfl rfl ?_
  simp -implicitDefEqProofs (disch:=omega) only[go_sem]
  refine aZ (ι:=Nat×Nat) Tryz.checked.mixed rfl [3,7,8,9] (fun y=>[.c (.d (.i .i64 y.2)),.c (.d (.sl (x.fArgs.map aj.enc))),.c (.d (.i .i64 x.fArgs.length)),.c (.d (.i .i64 y.1))]) (fun y=>[.box [.d (.i .i64 x.aH),.d (.s x.fName),.d (.sl (x.fArgs.map aj.enc))]]::S)
   (fun y=>y.1≤x.fArgs.length∧x.cnt=y.2+aj.dh (x.fArgs.drop y.1)) (fun y=>x.fArgs.length-y.1) (0,1) rfl rfl ⟨Nat.zero_le _,by simp[aj.l9]⟩ ?_
  rintro⟨i,c⟩ ⟨p1,p2⟩
  simp only at p1 p2
  simp -implicitDefEqProofs (disch:=omega) only[go_sem]
  with_reducible refine aA (fun hb=> ?_) (fun hb=> ?_)<;>have h:=hb<;>(try simp only[wf_preprocess] at h)<;>simp -implicitDefEqProofs (disch:=omega) only[go_sem,hb]<;>(repeat(with_reducible refine And.intro ?_ ?_;focus first|omega|rfl|assumption|exact⟨_,rfl,rfl⟩|(simp;omega)|(simp;done)))
  ·have hi:i<x.fArgs.length:=by omega
   have hsz':=q8 hi hsz
   rw[jK hi] at p2
   (repeat(with_reducible refine And.intro ?_ ?_;focus first|omega|rfl|assumption|exact⟨_,rfl,rfl⟩|(simp;omega)|(simp;done)))
   refine au (ih x.fArgs[i] (by have:=List.sizeOf_lt_of_mem (List.getElem_mem hi);omega) (by omega)) ?_
   simp -implicitDefEqProofs (disch:=omega) only[go_sem]<;>(repeat(with_reducible refine And.intro ?_ ?_;focus first|omega|rfl|assumption|exact⟨_,rfl,rfl⟩|(simp;omega)|(simp;done)))
   rw[show(c:Int)+(x.fArgs[i].cnt:Int)=((c+x.fArgs[i].cnt:Nat):Int) by omega]
   exact dO 1 (by decide) (i+1,c+x.fArgs[i].cnt) (by simp only;omega) rfl rfl rfl rfl ⟨by simp only;omega,by simp only;omega⟩
  ·have hi:i=x.fArgs.length:=by omega
   rw[hi,List.drop_length,aj.dh] at p2
   exact int_eq (by omega)
theorem Pm(x:aj)(hsz:x.sz≤4194304):aI Tryz.prog 337 [x.v] (.c (.d (.i .i64 x.cnt))):=CR _ x (Nat.lt_succ_self _) hsz
theorem CS:∀n:Nat,(∀x:aj,SizeOf.sizeOf x<n→x.sz≤4194304→aI Tryz.prog 335 [x.v] (.c (.d (.b (formed x)))))∧
 (∀xs:List aj,SizeOf.sizeOf xs<n→xs.length≤4194304→(∀t∈xs,t.sz≤4194304)→aI Tryz.prog 293 [.c (.d (.sl (xs.map aj.enc))),.c (.fn 352 [])] (.c (.d (.b (!iE xs)))))
 |0=>⟨fun x h=>by omega,fun x h=>by omega⟩
 |n+1=>by
  obtain⟨ih,ni⟩:=CS n
  refine⟨fun x hn hsz S=> ?_,fun xs hn hlen hsz S=> ?_⟩
  ·have iF:=aj.fF x
   have hts:=zm hsz
   have fin:∀b,xI x.aH x.fName x.fArgs.length=b→formed x=(b&&iE x.fArgs):=fun b hb=>by rw[←hb];exact tQ x
   have hall:∀t∈x.fArgs,t.sz≤4194304:=fun t ht=>by
    obtain⟨i,hi,e⟩:=List.getElem_of_mem ht
    rw[←e];exact(q8 hi hsz).1
   have tail:=ni x.fArgs (by omega) hts.1 hall
   have yes:xI x.aH x.fName x.fArgs.length=true→formed x= !(!iE x.fArgs):=fun h=>by rw[fin _ h];simp
   have no:xI x.aH x.fName x.fArgs.length=false→formed x=false:=fun h=>by rw[fin _ h];simp
   have shut:¬((x.aH=1∨x.aH=4)∧validName x.fName=true∧x.fArgs.length=0∨x.aH=3∧validName x.fName=true∧x.fArgs.length=1∨x.aH=2∧(validName x.fName=true∧x.fArgs.length≤3∨sP x.fName=true∧x.fArgs.length=0))→V.c (.d (.b false))=V.c (.d (.b (formed x))):=fun h=>aK (no (aQ h)).symm
   have open_:((x.aH=1∨x.aH=4)∧validName x.fName=true∧x.fArgs.length=0∨x.aH=3∧validName x.fName=true∧x.fArgs.length=1∨x.aH=2∧(validName x.fName=true∧x.fArgs.length≤3∨sP x.fName=true∧x.fArgs.length=0))→V.c (.d (.b (!(!iE x.fArgs))))=V.c (.d (.b (formed x))):=fun h=>aK (yes (bK h)).symm
   clear yes no fin
   refine aD (rs:=[.tmp 2]) Tryz.checked.mixed Tryz.func335 Tryz.ntmps335 rfl rfl rfl rfl rfl ?_
   simp -implicitDefEqProofs (disch:=omega) only[go_sem]
   repeat' (first
    |(with_reducible refine aA (fun hb=> ?_) (fun hb=> ?_)<;>have h:=hb<;>(try simp only[wf_preprocess] at h)<;>simp -implicitDefEqProofs (disch:=omega) only[go_sem,hb]<;>(repeat(with_reducible refine And.intro ?_ ?_;focus first|omega|rfl|assumption|exact⟨_,rfl,rfl⟩|(simp;omega)|(simp;done))))
    |(refine au (jD x.fName (by omega)) ?_;simp -implicitDefEqProofs (disch:=omega) only[go_sem])
    |(refine au (Nf x.fName) ?_;simp -implicitDefEqProofs (disch:=omega) only[go_sem])
    |(refine au tail ?_;simp -implicitDefEqProofs (disch:=omega) only[go_sem]))
   all_goals first
    |(refine shut (fun y=> ?_);rcases y with⟨_,_,_⟩|⟨_,_,_⟩|⟨_,⟨_,_⟩|⟨_,_⟩⟩<;>first|omega|(simp_all;done))
    |(refine open_ ?_;first
       |exact .inl ⟨by omega,by assumption,by omega⟩
       |exact .inr (.inl ⟨by omega,by assumption,by omega⟩)
       |exact .inr (.inr ⟨by omega,.inl ⟨by assumption,by omega⟩⟩)
       |exact .inr (.inr ⟨by omega,.inr ⟨by assumption,by omega⟩⟩))
  ·have hcl:∀y∈xs,aI Tryz.prog 352 [y.v] (.c (.d (.b (!formed y)))):=fun y hy S=>by
    have hys:=List.sizeOf_lt_of_mem hy
    refine aD (rs:=[.tmp 2]) Tryz.checked.mixed Tryz.func352 Tryz.ntmps352 rfl rfl rfl rfl rfl ?_
    simp -implicitDefEqProofs (disch:=omega) only[go_sem]
    refine au (ih y (by omega) (hsz y hy)) ?_
    simp -implicitDefEqProofs (disch:=omega) only[go_sem]<;>(repeat(with_reducible refine And.intro ?_ ?_;focus first|omega|rfl|assumption|exact⟨_,rfl,rfl⟩|(simp;omega)|(simp;done)))
   have hidx:aI Tryz.prog 334 [.c (.d (.sl (xs.map aj.enc))),.c (.fn 352 [])] (.c (.d (.i .i64 (pO (fun y=> !formed y) xs)))):=fun S=>by
    refine aD (rs:=[.tmp 4]) Tryz.checked.mixed Tryz.func334 Tryz.ntmps334 rfl rfl rfl rfl rfl ?_
    simp -implicitDefEqProofs (disch:=omega) only[go_sem]
    refine aZ (ι:=Nat) Tryz.checked.mixed rfl [0,1,7,8] (fun i=>[.c (.d (.sl (xs.map aj.enc))),.c (.fn 352 []),.c (.d (.i .i64 xs.length)),.c (.d (.i .i64 i))]) (fun _=>[]::S)
     (fun i=>i≤xs.length∧∀j,∀hj:j<xs.length,j<i→formed xs[j]=true) (fun i=>xs.length-i) 0 rfl rfl ⟨Nat.zero_le _,fun j _ h=>by omega⟩ ?_
    rintro i ⟨p1,p2⟩
    simp -implicitDefEqProofs (disch:=omega) only[go_sem]
    with_reducible refine aA (fun hb=> ?_) (fun hb=> ?_)<;>have h:=hb<;>(try simp only[wf_preprocess] at h)<;>simp -implicitDefEqProofs (disch:=omega) only[go_sem,hb]<;>(repeat(with_reducible refine And.intro ?_ ?_;focus first|omega|rfl|assumption|exact⟨_,rfl,rfl⟩|(simp;omega)|(simp;done)))
    ·have hi:i<xs.length:=by omega
     (repeat(with_reducible refine And.intro ?_ ?_;focus first|omega|rfl|assumption|exact⟨_,rfl,rfl⟩|(simp;omega)|(simp;done)))
     refine au (hcl xs[i] (List.getElem_mem hi)) ?_
     simp -implicitDefEqProofs (disch:=omega) only[go_sem]<;>(repeat(with_reducible refine And.intro ?_ ?_;focus first|omega|rfl|assumption|exact⟨_,rfl,rfl⟩|(simp;omega)|(simp;done)))
     with_reducible refine aA (fun hb=> ?_) (fun hb=> ?_)<;>have h:=hb<;>(try simp only[wf_preprocess] at h)<;>simp -implicitDefEqProofs (disch:=omega) only[go_sem,hb]<;>(repeat(with_reducible refine And.intro ?_ ?_;focus first|omega|rfl|assumption|exact⟨_,rfl,rfl⟩|(simp;omega)|(simp;done)))
     ·rw[qj hi (fun j hj hji=>by rw[p2 j hj hji];rfl) (by rw[h];rfl)]
     ·refine bL (i+1) (by omega) rfl rfl ⟨by omega,fun j hj hji=> ?_⟩
      by_cases e:j=i
      ·subst e;exact h
      ·exact p2 j hj (by omega)
    ·rw[tO (fun j hj=>by rw[p2 j hj (by omega)];rfl)]
   refine aD (rs:=[.tmp 4]) Tryz.checked.mixed Tryz.func293 Tryz.ntmps293 rfl rfl rfl rfl rfl ?_
   simp -implicitDefEqProofs (disch:=omega) only[go_sem]
   refine au (hidx) ?_
   simp -implicitDefEqProofs (disch:=omega) only[go_sem]<;>(repeat(with_reducible refine And.intro ?_ ?_;focus first|omega|rfl|assumption|exact⟨_,rfl,rfl⟩|(simp;omega)|(simp;done)))
   rw[←EC]
   exact aK rF
theorem Pn(x:aj)(hsz:x.sz≤4194304):aI Tryz.prog 335 [x.v] (.c (.d (.b (formed x)))):=(CS _).1 x (Nat.lt_succ_self _) hsz
theorem sU(x:aj)(hsz:x.sz≤4194304):aI Tryz.prog 295 [x.v] (.c (.d (.b (kC x)))):=fun S=>by
 refine aD (rs:=[.tmp 2]) Tryz.checked.mixed Tryz.func295 Tryz.ntmps295 rfl rfl rfl rfl rfl ?_
 simp -implicitDefEqProofs (disch:=omega) only[go_sem]
 refine au (Pn x hsz) ?_
 simp -implicitDefEqProofs (disch:=omega) only[go_sem]<;>(repeat(with_reducible refine And.intro ?_ ?_;focus first|omega|rfl|assumption|exact⟨_,rfl,rfl⟩|(simp;omega)|(simp;done)))
 with_reducible refine aA (fun hb=> ?_) (fun hb=> ?_)<;>have h:=hb<;>(try simp only[wf_preprocess] at h)<;>simp -implicitDefEqProofs (disch:=omega) only[go_sem,hb]<;>(repeat(with_reducible refine And.intro ?_ ?_;focus first|omega|rfl|assumption|exact⟨_,rfl,rfl⟩|(simp;omega)|(simp;done)))
 ·have h1:=h
  refine au (Nj x hsz) ?_
  simp -implicitDefEqProofs (disch:=omega) only[go_sem]<;>(repeat(with_reducible refine And.intro ?_ ?_;focus first|omega|rfl|assumption|exact⟨_,rfl,rfl⟩|(simp;omega)|(simp;done)))
  with_reducible refine aA (fun hb=> ?_) (fun hb=> ?_)<;>have h:=hb<;>(try simp only[wf_preprocess] at h)<;>simp -implicitDefEqProofs (disch:=omega) only[go_sem,hb]<;>(repeat(with_reducible refine And.intro ?_ ?_;focus first|omega|rfl|assumption|exact⟨_,rfl,rfl⟩|(simp;omega)|(simp;done)))
  ·refine au (Pm x hsz) ?_
   simp -implicitDefEqProofs (disch:=omega) only[go_sem]<;>(repeat(with_reducible refine And.intro ?_ ?_;focus first|omega|rfl|assumption|exact⟨_,rfl,rfl⟩|(simp;omega)|(simp;done)))
   exact aK (by rw[jW];exact iY ⟨fun y=>⟨h1,by omega,by omega⟩,fun y=>by have:=y.2.2;omega⟩)
  ·exact aK (aQ fun y=>by have:=y.2.1;omega).symm
 ·exact aK (aQ fun y=>by rw[y.1] at h;cases h).symm
set_option maxHeartbeats 1000000 in
theorem GX:∀n:Nat,∀x:aj,SizeOf.sizeOf x<n→x.sz≤4194304→aI Tryz.prog 325 [x.v] (.c (.d (.b (formed x))))
 |0=>fun x h=>by omega
 |n+1=>by
  have ih:=GX n
  intro x hn hsz S
  have iF:=aj.fF x
  have hts:=zm hsz
  have shut:¬((x.aH=1∨x.aH=4)∧validName x.fName=true∧x.fArgs.length=0∨x.aH=3∧validName x.fName=true∧x.fArgs.length=1∨x.aH=2∧(validName x.fName=true∧x.fArgs.length≤3∨sP x.fName=true∧x.fArgs.length=0))→V.c (.d (.b false))=V.c (.d (.b (formed x))):=fun h=>aK (by rw[tQ,show xI x.aH x.fName x.fArgs.length=false from aQ h];rfl)
  have aew:∀b:Bool,(b=true↔((x.aH=1∨x.aH=4)∧validName x.fName=true∧x.fArgs.length=0∨x.aH=3∧validName x.fName=true∧x.fArgs.length=1∨x.aH=2∧(validName x.fName=true∧x.fArgs.length≤3∨sP x.fName=true∧x.fArgs.length=0)))→b=xI x.aH x.fName x.fArgs.length:=fun b h=>by
   rw[Bool.eq_iff_iff,h]
   unfold xI
   rw[vU]
  refine aD (rs:=[.tmp 2]) Tryz.checked.mixed Tryz.func325 Tryz.ntmps325 rfl rfl rfl rfl rfl ?_
  simp -implicitDefEqProofs (disch:=omega) only[go_sem]
  refine au (jE x.fName (by omega)) ?_
  simp -implicitDefEqProofs (disch:=omega) only[go_sem]<;>(repeat(with_reducible refine And.intro ?_ ?_;focus first|omega|rfl|assumption|exact⟨_,rfl,rfl⟩|(simp;omega)|(simp;done)))
  repeat' (first
   |(with_reducible refine aA (fun hb=> ?_) (fun hb=> ?_)<;>have h:=hb<;>(try simp only[wf_preprocess] at h)<;>simp -implicitDefEqProofs (disch:=omega) only[go_sem,hb]<;>(repeat(with_reducible refine And.intro ?_ ?_;focus first|omega|rfl|assumption|exact⟨_,rfl,rfl⟩|(simp;omega)|(simp;done))))
   |(refine au (Vj x.fName) ?_;simp -implicitDefEqProofs (disch:=omega) only[go_sem]))
  all_goals first
   |(refine shut (fun y=> ?_);rcases y with⟨_,_,_⟩|⟨_,_,_⟩|⟨_,⟨_,_⟩|⟨_,_⟩⟩<;>first|omega|(simp_all;done))
   |skip
  all_goals
   refine aZ (ι:=Nat×Bool) Tryz.checked.mixed rfl [1,3,4] (fun y=>[.c (.ptr (0,0) 0),.c (.d (.b y.2)),.c (.d (.i .i64 y.1))]) (fun y=>[.box [.d (.i .i64 x.aH),.d (.s x.fName),.d (.sl (x.fArgs.map aj.enc))]]::S)
    (fun y=>y.1≤x.fArgs.length∧(y.2&&iE (x.fArgs.drop y.1))=formed x) (fun y=>x.fArgs.length-y.1) (0,xI x.aH x.fName x.fArgs.length) ?_ rfl ⟨Nat.zero_le _,by rw[tQ];rfl⟩ ?_
   ·simp only[List.map_cons,List.map_nil]
    simp -implicitDefEqProofs (disch:=omega) only[go_sem,List.cons.injEq,V.c.injEq,C.d.injEq,D.b.injEq,Int.natCast_zero]
    refine aew _ ⟨fun y=> ?_,fun y=> ?_⟩
    ·(try simp only[decide_eq_true_eq,Bool.false_eq_true] at y)<;>first
       |exact .inl ⟨by omega,by assumption,by omega⟩
       |exact .inr (.inl ⟨by omega,by assumption,by omega⟩)
       |exact .inr (.inr ⟨by omega,.inl ⟨by assumption,by omega⟩⟩)
       |exact .inr (.inr ⟨by omega,.inr ⟨by assumption,by omega⟩⟩)
    ·rcases y with⟨_,_,_⟩|⟨_,_,_⟩|⟨_,⟨_,_⟩|⟨_,_⟩⟩<;>first|omega|(simp only[decide_eq_true_eq];omega)|(simp_all;done)
   rintro⟨i,c⟩ ⟨p1,p2⟩
   simp only at p1 p2
   simp -implicitDefEqProofs (disch:=omega) only[go_sem]
   with_reducible refine aA (fun hb=> ?_) (fun hb=> ?_)<;>have h:=hb<;>(try simp only[wf_preprocess] at h)<;>simp -implicitDefEqProofs (disch:=omega) only[go_sem,hb]<;>(repeat(with_reducible refine And.intro ?_ ?_;focus first|omega|rfl|assumption|exact⟨_,rfl,rfl⟩|(simp;omega)|(simp;done)))
   ·have hi:i<x.fArgs.length:=by omega
    have hsz':=q8 hi hsz
    rw[Ng hi] at p2
    with_reducible refine aA (fun hb=> ?_) (fun hb=> ?_)<;>have h:=hb<;>(try simp only[wf_preprocess] at h)<;>simp -implicitDefEqProofs (disch:=omega) only[go_sem,hb]<;>(repeat(with_reducible refine And.intro ?_ ?_;focus first|omega|rfl|assumption|exact⟨_,rfl,rfl⟩|(simp;omega)|(simp;done)))
    ·refine au (ih x.fArgs[i] (by have:=List.sizeOf_lt_of_mem (List.getElem_mem hi);omega) (by omega)) ?_
     simp -implicitDefEqProofs (disch:=omega) only[go_sem]
     exact bL (i+1,formed x.fArgs[i]) (by simp only;omega) rfl rfl ⟨by simp only;omega,by rw[←p2,h];rfl⟩
    ·exact bL (i+1,false) (by simp only;omega) rfl rfl ⟨by simp only;omega,by rw[←p2,h];rfl⟩
   ·have hi:i=x.fArgs.length:=by omega
    rw[hi,List.drop_length,iE,Bool.and_true] at p2
    rw[p2]
theorem Vl(x:aj)(hsz:x.sz≤4194304):aI Tryz.prog 325 [x.v] (.c (.d (.b (formed x)))):=GX _ x (Nat.lt_succ_self _) hsz
theorem sV(x:aj)(hsz:x.sz≤4194304):aI Tryz.prog 280 [x.v] (.c (.d (.b (kC x)))):=fun S=>by
 refine aD (rs:=[.tmp 2]) Tryz.checked.mixed Tryz.func280 Tryz.ntmps280 rfl rfl rfl rfl rfl ?_
 simp -implicitDefEqProofs (disch:=omega) only[go_sem]
 refine au (Vk x 60 (by omega) (by omega) hsz) ?_
 simp -implicitDefEqProofs (disch:=omega) only[go_sem]<;>(repeat(with_reducible refine And.intro ?_ ?_;focus first|omega|rfl|assumption|exact⟨_,rfl,rfl⟩|(simp;omega)|(simp;done)))
 with_reducible refine aA (fun hb=> ?_) (fun hb=> ?_)<;>have h:=hb<;>(try simp only[wf_preprocess] at h)<;>simp -implicitDefEqProofs (disch:=omega) only[go_sem,hb]<;>(repeat(with_reducible refine And.intro ?_ ?_;focus first|omega|rfl|assumption|exact⟨_,rfl,rfl⟩|(simp;omega)|(simp;done)))
 ·have h1:=(vw (l:=60) (a:=x.cnt) (by omega)).2
  refine au (Ni x hsz) ?_
  simp -implicitDefEqProofs (disch:=omega) only[go_sem]<;>(repeat(with_reducible refine And.intro ?_ ?_;focus first|omega|rfl|assumption|exact⟨_,rfl,rfl⟩|(simp;omega)|(simp;done)))
  with_reducible refine aA (fun hb=> ?_) (fun hb=> ?_)<;>have h:=hb<;>(try simp only[wf_preprocess] at h)<;>simp -implicitDefEqProofs (disch:=omega) only[go_sem,hb]<;>(repeat(with_reducible refine And.intro ?_ ?_;focus first|omega|rfl|assumption|exact⟨_,rfl,rfl⟩|(simp;omega)|(simp;done)))
  ·refine au (Vl x hsz) ?_
   simp -implicitDefEqProofs (disch:=omega) only[go_sem]<;>(repeat(with_reducible refine And.intro ?_ ?_;focus first|omega|rfl|assumption|exact⟨_,rfl,rfl⟩|(simp;omega)|(simp;done)))
   refine aK ?_
   cases hf:formed x with
   |false=>exact(aQ fun y=>by rw[hf] at y;cases y.1).symm
   |true=>exact(bK ⟨hf,by omega,by omega⟩).symm
  ·exact aK (aQ fun y=>by have:=y.2.1;omega).symm
 ·have h1:=vB (l:=60) (a:=x.cnt) (by omega)
  exact aK (aQ fun y=>by have:=y.2.2;omega).symm
theorem Ei(x:aO)(hn:x.aW.length≤1073741824)(hsz:x.fType.sz≤4194304):aI Tryz.prog 309 [x.v] (.c (.d (.b (validName x.aW&&kC x.fType)))):=fun S=>by
 refine aD (rs:=[.tmp 2]) Tryz.checked.mixed Tryz.func309 Tryz.ntmps309 rfl rfl rfl rfl rfl ?_
 simp -implicitDefEqProofs (disch:=omega) only[go_sem]
 refine au (jE x.aW hn) ?_
 simp -implicitDefEqProofs (disch:=omega) only[go_sem]<;>(repeat(with_reducible refine And.intro ?_ ?_;focus first|omega|rfl|assumption|exact⟨_,rfl,rfl⟩|(simp;omega)|(simp;done)))
 with_reducible refine aA (fun hb=> ?_) (fun hb=> ?_)<;>have h:=hb<;>(try simp only[wf_preprocess] at h)<;>simp -implicitDefEqProofs (disch:=omega) only[go_sem,hb]<;>(repeat(with_reducible refine And.intro ?_ ?_;focus first|omega|rfl|assumption|exact⟨_,rfl,rfl⟩|(simp;omega)|(simp;done)))
 ·refine au (sV x.fType hsz) ?_
  simp -implicitDefEqProofs (disch:=omega) only[go_sem]<;>(repeat(with_reducible refine And.intro ?_ ?_;focus first|omega|rfl|assumption|exact⟨_,rfl,rfl⟩|(simp;omega)|(simp;done)))
 ·rfl
theorem Ej(x:aO)(hn:x.aW.length≤1073741824)(hsz:x.fType.sz≤4194304):aI Tryz.prog 292 [x.v] (.c (.d (.b (validName x.aW&&kC x.fType)))):=fun S=>by
 refine aD (rs:=[.tmp 2]) Tryz.checked.mixed Tryz.func292 Tryz.ntmps292 rfl rfl rfl rfl rfl ?_
 simp -implicitDefEqProofs (disch:=omega) only[go_sem]
 refine au (jD x.aW hn) ?_
 simp -implicitDefEqProofs (disch:=omega) only[go_sem]<;>(repeat(with_reducible refine And.intro ?_ ?_;focus first|omega|rfl|assumption|exact⟨_,rfl,rfl⟩|(simp;omega)|(simp;done)))
 with_reducible refine aA (fun hb=> ?_) (fun hb=> ?_)<;>have h:=hb<;>(try simp only[wf_preprocess] at h)<;>simp -implicitDefEqProofs (disch:=omega) only[go_sem,hb]<;>(repeat(with_reducible refine And.intro ?_ ?_;focus first|omega|rfl|assumption|exact⟨_,rfl,rfl⟩|(simp;omega)|(simp;done)))
 ·refine au (sU x.fType hsz) ?_
  simp -implicitDefEqProofs (disch:=omega) only[go_sem]<;>(repeat(with_reducible refine And.intro ?_ ?_;focus first|omega|rfl|assumption|exact⟨_,rfl,rfl⟩|(simp;omega)|(simp;done)))
 ·rfl
end Go.Proofs.YtlmhknhlmicmeaaGreatDoor
namespace Go.Ab
mutual
def ay.cnt:ay→Nat
 | .mk _ _ _ _ _ a b=>1+(ay.dh a+aJ.dh b)
def ay.dh:List ay→Nat
 |[]=>0
 |x::xs=>x.cnt+ay.dh xs
def aJ.cnt:aJ→Nat
 | .mk _ _ b=>b.cnt
def aJ.dh:List aJ→Nat
 |[]=>0
 |x::xs=>x.cnt+aJ.dh xs
end
theorem ay.l9(x:ay):x.cnt=1+(ay.dh x.fArgs+aJ.dh x.aL):=by cases x;rw[ay.cnt];rfl
theorem aJ.l9(x:aJ):x.cnt=x.fBody.cnt:=by cases x;rw[aJ.cnt];rfl
theorem ay.jK{xs:List ay}{i:Nat}(hi:i<xs.length):ay.dh (xs.drop i)=xs[i].cnt+ay.dh (xs.drop (i+1)):=by rw[List.drop_eq_getElem_cons hi,ay.dh]
theorem aJ.jK{xs:List aJ}{i:Nat}(hi:i<xs.length):aJ.dh (xs.drop i)=xs[i].fBody.cnt+aJ.dh (xs.drop (i+1)):=by rw[List.drop_eq_getElem_cons hi,aJ.dh,aJ.l9]
theorem ay.yK(x:ay):x.fArgs.length+bG (x.fArgs.map ay.enc)≤x.sz∧x.aL.length+bG (x.aL.map aJ.enc)≤x.sz:=by
 simp only[ay.sz,ay.aG,bQ,bP,D.sz,List.length_map]
 omega
theorem aJ.Jb(x:aJ):x.fBody.sz≤x.sz:=by
 simp only[aJ.sz,aJ.aG,ay.sz,bQ,bP,D.sz,List.length_map]
 omega
mutual
theorem ay.ji:∀x:ay,x.cnt≤1+x.sz
 | .mk k t n m ty a b=>by
   have h1:=ay.tL a
   have h2:=aJ.tL b
   rw[ay.cnt]
   simp only[ay.sz,ay.aG,bQ,bP,D.sz,List.length_map,ay.fArgs,ay.aL]
   omega
theorem ay.tL:∀xs:List ay,ay.dh xs≤xs.length+bG (xs.map ay.enc)
 |[]=>by simp[ay.dh]
 |x::xs=>by
  have h1:=ay.ji x
  have h2:=ay.tL xs
  rw[ay.dh,List.length_cons,List.map_cons,bG,ay.dP]
  omega
theorem aJ.ji:∀x:aJ,x.cnt≤1+x.sz
 | .mk c v b=>by
   have h1:=ay.ji b
   have h2:=aJ.Jb (.mk c v b)
   rw[aJ.cnt]
   simp only[aJ.fBody] at h2
   omega
theorem aJ.tL:∀xs:List aJ,aJ.dh xs≤xs.length+bG (xs.map aJ.enc)
 |[]=>by simp[aJ.dh]
 |x::xs=>by
  have h1:=aJ.ji x
  have h2:=aJ.tL xs
  rw[aJ.dh,List.length_cons,List.map_cons,bG,aJ.dP]
  omega
end
end Go.Ab
namespace Go.Proofs.YtlmhknhlmicmeaaGreatDoor
open Go Go.Ab
theorem yL:∀n:Nat,∀x:ay,SizeOf.sizeOf x<n→x.sz≤4194304→aI Tryz.prog 210 [x.v] (.c (.d (.i .i64 x.cnt)))
 |0=>fun x h=>by omega
 |n+1=>by
  have ih:=yL n
  intro x hn hsz S
  have iF:=ay.fF x
  have zl:=ay.mK x
  have hp:=ay.yK x
  have hc:=ay.ji x
  have he:=ay.l9 x
  refine aD (rs:=[.tmp 2]) Tryz.checked.mixed Tryz.func210 Tryz.ntmps210 rfl rfl rfl rfl rfl ?_
  simp -implicitDefEqProofs (disch:=omega) only[go_sem]
  refine aZ (ι:=Nat×Nat) Tryz.checked.mixed rfl [1,3,9,10,11] (fun y=>[.c (.ptr (0,0) 0),.c (.d (.i .i64 y.2)),.c (.d (.sl (x.fArgs.map ay.enc))),.c (.d (.i .i64 x.fArgs.length)),.c (.d (.i .i64 y.1))]) (fun y=>[.box (x.enc.map .d)]::S)
   (fun y=>y.1≤x.fArgs.length∧x.cnt=y.2+ay.dh (x.fArgs.drop y.1)+aJ.dh x.aL) (fun y=>x.fArgs.length-y.1) (0,1) rfl ?_ ⟨Nat.zero_le _,by simp only[List.drop_zero];omega⟩ ?_
  ·simp -implicitDefEqProofs (disch:=omega) only[go_sem]
  rintro⟨i,c⟩ ⟨p1,p2⟩
  simp only at p1 p2
  simp -implicitDefEqProofs (disch:=omega) only[go_sem]
  with_reducible refine aA (fun hb=> ?_) (fun hb=> ?_)<;>have h:=hb<;>(try simp only[wf_preprocess] at h)<;>simp -implicitDefEqProofs (disch:=omega) only[go_sem,hb]<;>(repeat(with_reducible refine And.intro ?_ ?_;focus first|omega|rfl|assumption|exact⟨_,rfl,rfl⟩|(simp;omega)|(simp;done)))
  ·have hi:i<x.fArgs.length:=by omega
   have hx:x.fArgs[i].sz≤bG (x.fArgs.map ay.enc):=eP (List.mem_map_of_mem (List.getElem_mem hi))
   rw[ay.jK hi] at p2
   (repeat(with_reducible refine And.intro ?_ ?_;focus first|omega|rfl|assumption|exact⟨_,rfl,rfl⟩|(simp;omega)|(simp;done)))
   refine au (ih x.fArgs[i] (by have:=List.sizeOf_lt_of_mem (List.getElem_mem hi);omega) (by omega)) ?_
   simp -implicitDefEqProofs (disch:=omega) only[go_sem]<;>(repeat(with_reducible refine And.intro ?_ ?_;focus first|omega|rfl|assumption|exact⟨_,rfl,rfl⟩|(simp;omega)|(simp;done)))
   rw[show(c:Int)+(x.fArgs[i].cnt:Int)=((c+x.fArgs[i].cnt:Nat):Int) by omega]
   exact dO 1 (by decide) (i+1,c+x.fArgs[i].cnt) (by simp only;omega) rfl rfl rfl rfl ⟨by simp only;omega,by simp only;omega⟩
  have hi:i=x.fArgs.length:=by omega
  rw[hi,List.drop_length,ay.dh] at p2
  refine aZ (ι:=Nat×Nat) Tryz.checked.mixed rfl [3,21,22,23] (fun y=>[.c (.d (.i .i64 y.2)),.c (.d (.sl (x.aL.map aJ.enc))),.c (.d (.i .i64 x.aL.length)),.c (.d (.i .i64 y.1))]) (fun y=>[.box (x.enc.map .d)]::S)
   (fun y=>y.1≤x.aL.length∧x.cnt=y.2+aJ.dh (x.aL.drop y.1)) (fun y=>x.aL.length-y.1) (0,c) rfl ?_ ⟨Nat.zero_le _,by simp only[List.drop_zero];omega⟩ ?_
  ·simp -implicitDefEqProofs (disch:=omega) only[go_sem]
  clear p1 p2 hb h hi i
  rintro⟨i,d⟩ ⟨p1,p2⟩
  simp only at p1 p2
  simp -implicitDefEqProofs (disch:=omega) only[go_sem]
  with_reducible refine aA (fun hb=> ?_) (fun hb=> ?_)<;>have h:=hb<;>(try simp only[wf_preprocess] at h)<;>simp -implicitDefEqProofs (disch:=omega) only[go_sem,hb]<;>(repeat(with_reducible refine And.intro ?_ ?_;focus first|omega|rfl|assumption|exact⟨_,rfl,rfl⟩|(simp;omega)|(simp;done)))
  ·have hi:i<x.aL.length:=by omega
   have hx:x.aL[i].sz≤bG (x.aL.map aJ.enc):=eP (List.mem_map_of_mem (List.getElem_mem hi))
   have hy:=aJ.Jb x.aL[i]
   have hs:=List.sizeOf_lt_of_mem (List.getElem_mem hi)
   have hs':=aJ.lU x.aL[i]
   rw[aJ.jK hi] at p2
   (repeat(with_reducible refine And.intro ?_ ?_;focus first|omega|rfl|assumption|exact⟨_,rfl,rfl⟩|(simp;omega)|(simp;done)))
   refine au (ih x.aL[i].fBody (by omega) (by omega)) ?_
   simp -implicitDefEqProofs (disch:=omega) only[go_sem]<;>(repeat(with_reducible refine And.intro ?_ ?_;focus first|omega|rfl|assumption|exact⟨_,rfl,rfl⟩|(simp;omega)|(simp;done)))
   rw[show(d:Int)+(x.aL[i].fBody.cnt:Int)=((d+x.aL[i].fBody.cnt:Nat):Int) by omega]
   exact dO 1 (by decide) (i+1,d+x.aL[i].fBody.cnt) (by simp only;omega) rfl rfl rfl rfl ⟨by simp only;omega,by simp only;omega⟩
  ·have hi:i=x.aL.length:=by omega
   rw[hi,List.drop_length,aJ.dh] at p2
   exact int_eq (by omega)
theorem GY(x:ay)(hsz:x.sz≤4194304):aI Tryz.prog 210 [x.v] (.c (.d (.i .i64 x.cnt))):=yL _ x (Nat.lt_succ_self _) hsz
end Go.Proofs.YtlmhknhlmicmeaaGreatDoor
namespace Go.Ab
mutual
def mo:aj→List aj
 | .mk k n a=>.mk k n a::lI a
def lI:List aj→List aj
 |[]=>[]
 |t::ts=>mo t++lI ts
end
theorem wJ(t:aj):mo t=t::lI t.fArgs:=by cases t;rw[mo];rfl
theorem vV{ts:List aj}{i:Nat}(hi:i<ts.length):lI (ts.drop i)=mo ts[i]++lI (ts.drop (i+1)):=by rw[List.drop_eq_getElem_cons hi,lI]
mutual
theorem CU:∀t:aj,(mo t).length=t.cnt
 | .mk k n a=>by rw[mo,List.length_cons,aj.cnt,GZ a];omega
theorem GZ:∀ts:List aj,(lI ts).length=aj.dh ts
 |[]=>rfl
 |t::ts=>by rw[lI,List.length_append,aj.dh,CU t,GZ ts]
end
def qA(out:List (List UInt8))(u:aj):List (List UInt8):=if u.aH=1∧u.fName∉out then out++[u.fName] else out
def gH(out:List (List UInt8))(t:aj):List (List UInt8):=(mo t).foldl qA out
def pR(out:List (List UInt8))(ts:List aj):List (List UInt8):=(lI ts).foldl qA out
theorem Fv(out:List (List UInt8))(u:aj):(qA out u).length≤out.length+1:=by
 unfold qA
 split<;>simp
theorem JX:∀(us:List aj) (out:List (List UInt8)),(us.foldl qA out).length≤out.length+us.length
 |[],out=>by simp
 |u::us,out=>by
  have h1:=Fv out u
  have h2:=JX us (qA out u)
  rw[List.foldl_cons,List.length_cons]
  omega
theorem wK(t:aj)(out:List (List UInt8)):(gH out t).length≤out.length+t.cnt:=by
 have:=JX (mo t) out
 rw[CU] at this
 exact this
theorem Yo(out:List (List UInt8))(t:aj):gH out t=pR (qA out t) t.fArgs:=by
 unfold gH pR
 rw[wJ,List.foldl_cons]
theorem EL{ts:List aj}{i:Nat}(hi:i<ts.length)(out:List (List UInt8)):pR out (ts.drop i)=pR (gH out ts[i]) (ts.drop (i+1)):=by
 unfold pR gH
 rw[vV hi,List.foldl_append]
def nC(t:aj):Bool:=(mo t).any fun u=>decide (u.aH=3)
def q9(ts:List aj):Bool:=(lI ts).any fun u=>decide (u.aH=3)
theorem Br(t:aj):nC t=(decide (t.aH=3)||q9 t.fArgs):=by
 unfold nC q9
 rw[wJ,List.any_cons]
theorem KF{ts:List aj}{i:Nat}(hi:i<ts.length):q9 (ts.drop i)=(nC ts[i]||q9 (ts.drop (i+1))):=by
 unfold q9 nC
 rw[vV hi,List.any_append]
theorem Nk(us:List aj):∀b:Bool,us.foldl (fun b u=>b||decide (u.aH=3)) b=(b||us.any fun u=>decide (u.aH=3)):=by
 induction us with
 |nil=>intro b;simp
 |cons u us ih=>intro b;rw[List.foldl_cons,ih,List.any_cons,Bool.or_assoc]
def G5(v:List UInt8)(u:aj):Bool:=decide (u.aH=1∧u.fName=v)
def mR(v:List UInt8)(t:aj):Nat:=(mo t).countP (G5 v)
def rJ(v:List UInt8)(ts:List aj):Nat:=(lI ts).countP (G5 v)
theorem Vm(v:List UInt8)(t:aj):mR v t=(if G5 v t then 1 else 0)+rJ v t.fArgs:=by
 unfold mR rJ
 rw[wJ,List.countP_cons]
 omega
theorem Nl{v:List UInt8}{ts:List aj}{i:Nat}(hi:i<ts.length):rJ v (ts.drop i)=mR v ts[i]+rJ v (ts.drop (i+1)):=by
 unfold rJ mR
 rw[vV hi,List.countP_append]
theorem Vn(v:List UInt8)(t:aj):mR v t≤t.cnt:=by
 unfold mR
 rw[←CU]
 exact List.countP_le_length
def occurs(v:List UInt8)(t:aj):Bool:=decide (0<mR v t)
end Go.Ab
namespace Go.Proofs.YtlmhknhlmicmeaaGreatDoor
open Go Go.Ab
theorem xQ{x:aj}{i:Nat}(hi:i<x.fArgs.length)(h:x.sz≤4194304):x.fArgs[i].sz≤4194304∧x.fArgs.length≤4194304∧x.fName.length≤4194304:=by
 have hx:x.fArgs[i].sz≤bG (x.fArgs.map aj.enc):=eP (List.mem_map_of_mem (List.getElem_mem hi))
 simp only[aj.sz,aj.aG,bQ,D.sz,List.length_map] at h
 omega
theorem CV{x:aj}(h:x.sz≤4194304):x.fArgs.length≤4194304∧x.fName.length≤4194304:=by
 simp only[aj.sz,aj.aG,bQ,D.sz,List.length_map] at h
 omega
theorem CX:∀n:Nat,∀t:aj,SizeOf.sizeOf t<n→t.sz≤4194304→∀(g:Nat) (caps:List (Key×Nat)) (α:Type) (st:α→Store) (I:Nat→α→Prop) (f:α→aj→α) (hf:Bd Tryz.prog g caps st I f aj.v (fun u=>u.sz≤4194304)) (m:Nat) (a:α),I (m+t.cnt) a→
 I m ((mo t).foldl f a)∧bD Tryz.prog 298 [t.v,.c (.fn g caps)] (st a) (fun r S'=>r=.d9 []∧S'=st ((mo t).foldl f a))
 |0=>fun t h=>by omega
 |n+1=>by
  have ih:=CX n
  intro t hn hsz g caps α st I f hf m a ha
  have iF:=aj.fF t
  have hts:=CV hsz
  rw[aj.l9,show m+(1+aj.dh t.fArgs)=(m+aj.dh t.fArgs)+1 by omega] at ha
  have h1:=hf _ a t ha hsz
  have hI:∀(ts:List aj),SizeOf.sizeOf ts<n→(∀x∈ts,x.sz≤4194304)→∀a,I (m+aj.dh ts) a→I m ((lI ts).foldl f a):=by
   intro ts
   induction ts with
   |nil=>intro _ _ a ha;exact ha
   |cons x xs ihx=>
    intro hs hz a ha
    simp only[List.cons.sizeOf_spec] at hs
    rw[lI,List.foldl_append]
    rw[aj.dh,show m+(x.cnt+aj.dh xs)=(m+aj.dh xs)+x.cnt by omega] at ha
    exact ihx (by omega) (fun y hy=>hz y (by simp[hy])) _ (ih x (by omega) (hz x (by simp)) g caps α st I f hf _ a ha).1
  have hall:∀x∈t.fArgs,x.sz≤4194304:=fun x hx=>by
   obtain⟨i,hi,e⟩:=List.getElem_of_mem hx
   rw[←e];exact(xQ hi hsz).1
  refine⟨by rw[wJ,List.foldl_cons];exact hI t.fArgs (by omega) hall _ h1.1,?_⟩
  refine aD (rs:=[]) Tryz.checked.mixed Tryz.func298 Tryz.ntmps298 rfl rfl rfl rfl rfl ?_
  simp -implicitDefEqProofs (disch:=omega) only[go_sem]
  refine bA rfl (h1.2 [_]) ?_
  simp -implicitDefEqProofs (disch:=omega) only[go_sem]
  refine aZ (ι:=Nat×α) Tryz.checked.mixed rfl [1,10,11,12] (fun y=>[.c (.fn g (gZ 1 caps)),.c (.d (.sl (t.fArgs.map aj.enc))),.c (.d (.i .i64 t.fArgs.length)),.c (.d (.i .i64 y.1))]) (fun y=>[.box [.d (.i .i64 t.aH),.d (.s t.fName),.d (.sl (t.fArgs.map aj.enc))]]::st y.2)
   (fun y=>y.1≤t.fArgs.length∧I (m+aj.dh (t.fArgs.drop y.1)) y.2∧(lI (t.fArgs.drop y.1)).foldl f y.2=(mo t).foldl f a) (fun y=>t.fArgs.length-y.1) (0,f a t) rfl rfl ⟨Nat.zero_le _,h1.1,by rw[wJ,List.foldl_cons];rfl⟩ ?_
  rintro⟨i,b⟩ ⟨p1,p2,p3⟩
  simp only at p1 p2 p3
  simp -implicitDefEqProofs (disch:=omega) only[go_sem]
  with_reducible refine aA (fun hb=> ?_) (fun hb=> ?_)<;>have h:=hb<;>(try simp only[wf_preprocess] at h)<;>simp -implicitDefEqProofs (disch:=omega) only[go_sem,hb]<;>(repeat(with_reducible refine And.intro ?_ ?_;focus first|omega|rfl|assumption|exact⟨_,rfl,rfl⟩|(simp;omega)|(simp;done)))
  ·have hi:i<t.fArgs.length:=by omega
   have hs:=List.sizeOf_lt_of_mem (List.getElem_mem hi)
   rw[vV hi,List.foldl_append] at p3
   rw[List.drop_eq_getElem_cons hi,aj.dh,show m+(t.fArgs[i].cnt+aj.dh (t.fArgs.drop (i+1)))=(m+aj.dh (t.fArgs.drop (i+1)))+t.fArgs[i].cnt by omega] at p2
   have h2:=(ih t.fArgs[i] (by omega) (xQ hi hsz).1 g caps α st I f hf _ b p2).1
   (repeat(with_reducible refine And.intro ?_ ?_;focus first|omega|rfl|assumption|exact⟨_,rfl,rfl⟩|(simp;omega)|(simp;done)))
   refine bA rfl (((ih t.fArgs[i] (by omega) (xQ hi hsz).1 g (gZ 1 caps) α (fun a=>[.box [.d (.i .i64 t.aH),.d (.s t.fName),.d (.sl (t.fArgs.map aj.enc))],.box [.d (.i .i64 t.fArgs[i].aH),.d (.s t.fArgs[i].fName),.d (.sl (t.fArgs[i].fArgs.map aj.enc))]]::st a) I f (hf.push _) _ b p2)).2) ?_
   simp -implicitDefEqProofs (disch:=omega) only[go_sem]
   exact dO 1 (by decide) (i+1,(mo t.fArgs[i]).foldl f b) (by simp only;omega) rfl rfl (by simp only[iP,l8,List.all_cons,List.all_nil,V.refs,C.refs,MG,Bool.and_true]) rfl ⟨by simp only;omega,h2,p3⟩
  ·have hi:i=t.fArgs.length:=by omega
   rw[hi,List.drop_length,lI,List.foldl_nil] at p3
   rw[p3]
theorem EM{t:aj}(hsz:t.sz≤4194304){g:Nat}{caps:List (Key×Nat)}{α:Type}{st:α→Store}{I:Nat→α→Prop}{f:α→aj→α}(hf:Bd Tryz.prog g caps st I f aj.v (fun u=>u.sz≤4194304))(m:Nat)(a:α)(ha:I (m+t.cnt) a):
 I m ((mo t).foldl f a)∧bD Tryz.prog 298 [t.v,.c (.fn g caps)] (st a) (fun r S'=>r=.d9 []∧S'=st ((mo t).foldl f a)):=CX _ t (Nat.lt_succ_self _) hsz g caps α st I f hf m a ha
theorem El(rest:List Ab.Obj)(S:Store):Bd Tryz.prog 340 [((0,0),0)] (fun out:List (List UInt8)=>(.box [.bI (0,1) (out.map encS)]:: .tok 1 (out.map encS)::rest)::S) (fun n out=>out.length+n≤1073741824) qA aj.v (fun u=>u.sz≤4194304):=by
 intro n out u hI hu
 refine⟨by have:=Fv out u;omega,fun F=> ?_⟩
 have hts:=CV hu
 refine aD (rs:=[]) Tryz.checked.mixed Tryz.func340 Tryz.ntmps340 rfl rfl rfl rfl rfl ?_
 simp -implicitDefEqProofs (disch:=omega) only[go_sem]
 with_reducible refine aA (fun hb=> ?_) (fun hb=> ?_)<;>have h:=hb<;>(try simp only[wf_preprocess] at h)<;>simp -implicitDefEqProofs (disch:=omega) only[go_sem,hb]<;>(repeat(with_reducible refine And.intro ?_ ?_;focus first|omega|rfl|assumption|exact⟨_,rfl,rfl⟩|(simp;omega)|(simp;done)))
 ·have h1:=h
  refine au (qZ out u.fName (by omega)) ?_
  simp -implicitDefEqProofs (disch:=omega) only[go_sem]<;>(repeat(with_reducible refine And.intro ?_ ?_;focus first|omega|rfl|assumption|exact⟨_,rfl,rfl⟩|(simp;omega)|(simp;done)))
  with_reducible refine aA (fun hb=> ?_) (fun hb=> ?_)<;>have h:=hb<;>(try simp only[wf_preprocess] at h)<;>simp -implicitDefEqProofs (disch:=omega) only[go_sem,hb]<;>(repeat(with_reducible refine And.intro ?_ ?_;focus first|omega|rfl|assumption|exact⟨_,rfl,rfl⟩|(simp;omega)|(simp;done)))
  ·(repeat(with_reducible refine And.intro ?_ ?_;focus first|omega|rfl|assumption|exact⟨_,rfl,rfl⟩|(simp;omega)|(simp;done)))
   have ha:qA out u=out++[u.fName]:=if_pos ⟨h1,h⟩
   rw[ha];simp[encS]
  ·have ha:qA out u=out:=if_neg fun x=>x.2 h
   rw[ha]
 ·have ha:qA out u=out:=if_neg fun x=>h x.1
  rw[ha]
theorem Jc(ts:List aj)(hl:ts.length≤4194304)(hz:∀t∈ts,t.sz≤4194304)(hc:aj.dh ts≤1073741823):aI Tryz.prog 301 [.c (.d (.sl (ts.map aj.enc)))] (.c (.d (.sl ((pR [] ts).map encS)))):=fun S=>by
 refine aD (rs:=[.tmp 2]) Tryz.checked.mixed Tryz.func301 Tryz.ntmps301 rfl rfl rfl rfl rfl ?_
 simp -implicitDefEqProofs (disch:=omega) only[go_sem]
 (repeat(with_reducible refine And.intro ?_ ?_;focus first|omega|rfl|assumption|exact⟨_,rfl,rfl⟩|(simp;omega)|(simp;done)))
 refine y9 0 0 1 [] [.aM []] rfl rfl (by simp) ?_
 refine aZ (ι:=Nat×List (List UInt8)) Tryz.checked.mixed rfl [3,7,8,9] (fun y=>[.c (.ptr (0,0) 0),.c (.d (.sl (ts.map aj.enc))),.c (.d (.i .i64 ts.length)),.c (.d (.i .i64 y.1))]) (fun y=>[.box [.bI (0,1) (y.2.map encS)],.tok 1 (y.2.map encS)]::S)
  (fun y=>y.1≤ts.length∧y.2.length+aj.dh (ts.drop y.1)≤1073741824∧pR y.2 (ts.drop y.1)=pR [] ts) (fun y=>ts.length-y.1) (0,[]) rfl rfl ⟨Nat.zero_le _,by simp only[List.drop_zero,List.length_nil];omega,rfl⟩ ?_
 rintro⟨i,out⟩ ⟨p1,p2,p3⟩
 simp only at p1 p2 p3
 simp -implicitDefEqProofs (disch:=omega) only[go_sem]
 with_reducible refine aA (fun hb=> ?_) (fun hb=> ?_)<;>have h:=hb<;>(try simp only[wf_preprocess] at h)<;>simp -implicitDefEqProofs (disch:=omega) only[go_sem,hb]<;>(repeat(with_reducible refine And.intro ?_ ?_;focus first|omega|rfl|assumption|exact⟨_,rfl,rfl⟩|(simp;omega)|(simp;done)))
 ·have hi:i<ts.length:=by omega
  rw[EL hi] at p3
  rw[List.drop_eq_getElem_cons hi,aj.dh] at p2
  have hlen:=wK ts[i] out
  (repeat(with_reducible refine And.intro ?_ ?_;focus first|omega|rfl|assumption|exact⟨_,rfl,rfl⟩|(simp;omega)|(simp;done)))
  refine bA rfl (EM (hz _ (List.getElem_mem hi)) (El [Ab.Obj.box [.d (.i .i64 ts[i].aH),.d (.s ts[i].fName),.d (.sl (ts[i].fArgs.map aj.enc))]] S) (aj.dh (ts.drop (i+1))) out (by omega)).2 ?_
  simp -implicitDefEqProofs (disch:=omega) only[go_sem]
  exact dO 2 (by decide) (i+1,gH out ts[i]) (by simp only;omega) rfl rfl rfl rfl ⟨by simp only;omega,by simp only;omega,p3⟩
 ·have hi:i=ts.length:=by omega
  rw[hi,List.drop_length] at p3
  rw[←p3];rfl
theorem uL(t:aj)(hsz:t.sz≤4194304):aI Tryz.prog 237 [t.v] (.c (.d (.sl ((gH [] t).map encS)))):=fun S=>by
 have hc:=ji t
 have h0:=Jc [t] (by simp) (by simpa using hsz) (by simp[aj.dh];omega)
 simp only[List.map_cons,List.map_nil,aj.aG] at h0
 refine aD (rs:=[.tmp 2]) Tryz.checked.mixed Tryz.func237 Tryz.ntmps237 rfl rfl rfl rfl rfl ?_
 simp -implicitDefEqProofs (disch:=omega) only[go_sem]
 (repeat(with_reducible refine And.intro ?_ ?_;focus first|omega|rfl|assumption|exact⟨_,rfl,rfl⟩|(simp;omega)|(simp;done)))
 refine au h0 ?_
 simp -implicitDefEqProofs (disch:=omega) only[go_sem]
 rw[show pR [] [t]=gH [] t by simp[pR,gH,lI]]
theorem G6:∀n:Nat,∀t:aj,SizeOf.sizeOf t<n→t.sz≤4194304→∀(out:List (List UInt8)) (l j:Nat) (S:Store),aV S (l,j)=some (.tok 1 (out.map encS))→out.length+t.cnt≤1073741824→
 bD Tryz.prog 342 [t.v,.c (.bI (l,j) (out.map encS))] S (fun r S'=>r=.c (.bI (l,j) ((gH out t).map encS))∧S'=bf S (l,j) (.tok 1 ((gH out t).map encS)))
 |0=>fun t h=>by omega
 |n+1=>by
  have ih:=G6 n
  intro t hn hsz out l j S hk hc
  have iF:=aj.fF t
  have hts:=CV hsz
  have hcn:=aj.l9 t
  have G7:∀x:Ab.Obj,aV (bf S (l,j) x) (l,j)=some x:=fun x=>bY _ _ _ _ hk
  have hS0:bf S (l,j) (.tok 1 (out.map encS))=S:=lD _ _ hk
  have fin:gH out t=pR (qA out t) t.fArgs:=Yo out t
  have hal:=Fv out t
  have e0:(out++[t.fName]).map encS=out.map encS++[[D.s t.fName]]:=by simp[encS]
  refine aD (rs:=[.tmp 4]) Tryz.checked.mixed Tryz.func342 Tryz.ntmps342 rfl rfl rfl rfl rfl ?_
  simp -implicitDefEqProofs (disch:=omega) only[go_sem,hk]
  repeat' (first
   |(with_reducible refine aA (fun hb=> ?_) (fun hb=> ?_)<;>have h:=hb<;>(try simp only[wf_preprocess] at h)<;>simp -implicitDefEqProofs (disch:=omega) only[go_sem,hb,hk]<;>(repeat(with_reducible refine And.intro ?_ ?_;focus first|omega|rfl|assumption|exact⟨_,rfl,rfl⟩|(simp;omega)|(simp;done))))
   |(refine au (qY out t.fName (by omega)) ?_;simp -implicitDefEqProofs (disch:=omega) only[go_sem,hk];(repeat(with_reducible refine And.intro ?_ ?_;focus first|omega|rfl|assumption|exact⟨_,rfl,rfl⟩|(simp;omega)|(simp;done)))))
  all_goals first
   |(have ha:qA out t=out++[t.fName]:=if_pos ⟨by assumption,by assumption⟩)
   |(have ha:qA out t=out:=if_neg (fun x=>by have:=x.1;have:=x.2;contradiction))
  all_goals
   refine aZ (ι:=Nat×List (List UInt8)) Tryz.checked.mixed rfl [1,2,5] (fun y=>[.c (.bI (1+l,j) (y.2.map encS)),.c (.ptr (0,0) 0),.c (.d (.i .i64 y.1))]) (fun y=>[.box [.d (.i .i64 t.aH),.d (.s t.fName),.d (.sl (t.fArgs.map aj.enc))]]::bf S (l,j) (.tok 1 (y.2.map encS)))
    (fun y=>y.1≤t.fArgs.length∧y.2.length+aj.dh (t.fArgs.drop y.1)≤1073741824∧pR y.2 (t.fArgs.drop y.1)=gH out t) (fun y=>t.fArgs.length-y.1) (0,qA out t) (by first|(rw[ha,e0];rfl)|(rw[ha];rfl)) (by first|(simp only[ha,e0];done)|(simp only[ha,hS0];done)) ⟨Nat.zero_le _,by simp only[List.drop_zero];omega,by rw[fin];rfl⟩ ?_
   rintro⟨i,b⟩ ⟨p1,p2,p3⟩
   simp only at p1 p2 p3
   simp -implicitDefEqProofs (disch:=omega) only[go_sem]
   with_reducible refine aA (fun hb=> ?_) (fun hb=> ?_)<;>have h:=hb<;>(try simp only[wf_preprocess] at h)<;>simp -implicitDefEqProofs (disch:=omega) only[go_sem,hb]<;>(repeat(with_reducible refine And.intro ?_ ?_;focus first|omega|rfl|assumption|exact⟨_,rfl,rfl⟩|(simp;omega)|(simp;done)))
   ·have hi:i<t.fArgs.length:=by omega
    have hs:=List.sizeOf_lt_of_mem (List.getElem_mem hi)
    rw[EL hi] at p3
    rw[List.drop_eq_getElem_cons hi,aj.dh] at p2
    have hlen:=wK t.fArgs[i] b
    (repeat(with_reducible refine And.intro ?_ ?_;focus first|omega|rfl|assumption|exact⟨_,rfl,rfl⟩|(simp;omega)|(simp;done)))
    refine bA rfl (ih t.fArgs[i] (by omega) (xQ hi hsz).1 b (1+l) j _ (by rw[eY];exact G7 _) (by omega)) ?_
    simp -implicitDefEqProofs (disch:=omega) only[go_sem,bF]
    exact bL (i+1,gH b t.fArgs[i]) (by simp only;omega) rfl rfl ⟨by simp only;omega,by simp only;omega,p3⟩
   ·have hi:i=t.fArgs.length:=by omega
    rw[hi,List.drop_length] at p3
    rw[←p3]
    exact⟨rfl,rfl⟩
theorem G8(t:aj)(hsz:t.sz≤4194304):aI Tryz.prog 308 [t.v] (.c (.d (.sl ((gH [] t).map encS)))):=fun S=>by
 have hc:=ji t
 have h0:∀S,bD Tryz.prog 342 [t.v,.c (.aM [])] S (fun r S'=>r=.c (.d (.sl ((gH [] t).map encS)))∧S'=S):=fun S=>by
  refine bD.XP 1 (es:=[]) (aR:=1) rfl (by simp) (G6 _ t (Nat.lt_succ_self _) hsz [] 0 0 ([.tok 1 []]::S) rfl (by simp;omega)) ?_
  rintro r fr S' ⟨rfl,h2⟩
  injection h2 with h2 h3
  exact⟨_,rfl,rfl,h3⟩
 refine aD (rs:=[.tmp 2]) Tryz.checked.mixed Tryz.func308 Tryz.ntmps308 rfl rfl rfl rfl rfl ?_
 simp -implicitDefEqProofs (disch:=omega) only[go_sem]
 (repeat(with_reducible refine And.intro ?_ ?_;focus first|omega|rfl|assumption|exact⟨_,rfl,rfl⟩|(simp;omega)|(simp;done)))
 refine r9 [true,true] rfl (h0 _) ?_
 simp -implicitDefEqProofs (disch:=omega) only[go_sem]
theorem zn:∀n:Nat,∀t:aj,SizeOf.sizeOf t<n→t.sz≤4194304→aI Tryz.prog 251 [t.v] (.c (.d (.b (nC t))))
 |0=>fun t h=>by omega
 |n+1=>by
  have ih:=zn n
  intro t hn hsz S
  have iF:=aj.fF t
  have hts:=CV hsz
  refine aD (rs:=[.tmp 2]) Tryz.checked.mixed Tryz.func251 Tryz.ntmps251 rfl rfl rfl rfl rfl ?_
  simp -implicitDefEqProofs (disch:=omega) only[go_sem]
  refine aZ (ι:=Nat) Tryz.checked.mixed rfl [1,3] (fun i=>[.c (.ptr (0,0) 0),.c (.d (.i .i64 i))]) (fun _=>[.box [.d (.i .i64 t.aH),.d (.s t.fName),.d (.sl (t.fArgs.map aj.enc))]]::S)
   (fun i=>i≤t.fArgs.length∧q9 (t.fArgs.drop i)=q9 t.fArgs) (fun i=>t.fArgs.length-i) 0 rfl rfl ⟨Nat.zero_le _,rfl⟩ ?_
  rintro i ⟨p1,p2⟩
  simp -implicitDefEqProofs (disch:=omega) only[go_sem]
  with_reducible refine aA (fun hb=> ?_) (fun hb=> ?_)<;>have h:=hb<;>(try simp only[wf_preprocess] at h)<;>simp -implicitDefEqProofs (disch:=omega) only[go_sem,hb]<;>(repeat(with_reducible refine And.intro ?_ ?_;focus first|omega|rfl|assumption|exact⟨_,rfl,rfl⟩|(simp;omega)|(simp;done)))
  ·have hi:i<t.fArgs.length:=by omega
   rw[KF hi] at p2
   (repeat(with_reducible refine And.intro ?_ ?_;focus first|omega|rfl|assumption|exact⟨_,rfl,rfl⟩|(simp;omega)|(simp;done)))
   refine au (ih t.fArgs[i] (by have:=List.sizeOf_lt_of_mem (List.getElem_mem hi);omega) (xQ hi hsz).1) ?_
   simp -implicitDefEqProofs (disch:=omega) only[go_sem]<;>(repeat(with_reducible refine And.intro ?_ ?_;focus first|omega|rfl|assumption|exact⟨_,rfl,rfl⟩|(simp;omega)|(simp;done)))
   with_reducible refine aA (fun hb=> ?_) (fun hb=> ?_)<;>have h:=hb<;>(try simp only[wf_preprocess] at h)<;>simp -implicitDefEqProofs (disch:=omega) only[go_sem,hb]<;>(repeat(with_reducible refine And.intro ?_ ?_;focus first|omega|rfl|assumption|exact⟨_,rfl,rfl⟩|(simp;omega)|(simp;done)))
   ·rw[Br,←p2,h];simp
   ·exact bL (i+1) (by omega) rfl rfl ⟨by omega,by rw[←p2,h];rfl⟩
  ·have hi:i=t.fArgs.length:=by omega
   rw[hi,List.drop_length] at p2
   rw[Br,←p2]
   exact aK (by simp[q9,lI])
theorem Aj(t:aj)(hsz:t.sz≤4194304):aI Tryz.prog 251 [t.v] (.c (.d (.b (nC t)))):=zn _ t (Nat.lt_succ_self _) hsz
theorem KG(rest:List Ab.Obj)(cs:List C)(S:Store):Bd Tryz.prog 299 [((0,1),0)] (fun b:Bool=>(.box cs:: .box [.d (.b b)]::rest)::S) (fun _ _=>True) (fun b u=>b||decide (u.aH=3)) aj.v (fun u=>u.sz≤4194304):=by
 intro n b u _ hu
 refine⟨trivial,fun F=> ?_⟩
 refine aD (rs:=[]) Tryz.checked.mixed Tryz.func299 Tryz.ntmps299 rfl rfl rfl rfl rfl ?_
 simp -implicitDefEqProofs (disch:=omega) only[go_sem]
 cases b with
 |true=>
  simp -implicitDefEqProofs (disch:=omega) only[go_sem]
  rfl
 |false=>
  simp -implicitDefEqProofs (disch:=omega) only[go_sem]
  rfl
theorem Ak(t:aj)(hsz:t.sz≤4194304):aI Tryz.prog 235 [t.v] (.c (.d (.b (nC t)))):=fun S=>by
 refine aD (rs:=[.tmp 2]) Tryz.checked.mixed Tryz.func235 Tryz.ntmps235 rfl rfl rfl rfl rfl ?_
 simp -implicitDefEqProofs (disch:=omega) only[go_sem]
 (repeat(with_reducible refine And.intro ?_ ?_;focus first|omega|rfl|assumption|exact⟨_,rfl,rfl⟩|(simp;omega)|(simp;done)))
 refine bA rfl (EM hsz (KG [] [.d (.i .i64 t.aH),.d (.s t.fName),.d (.sl (t.fArgs.map aj.enc))] S) 0 false trivial).2 ?_
 simp -implicitDefEqProofs (disch:=omega) only[go_sem]
 rw[Nk]
 rfl
end Go.Proofs.YtlmhknhlmicmeaaGreatDoor
namespace Go.Proofs.YtlmhknhlmicmeaaGreatDoor
open Go Go.Ab
theorem Fw(g:Nat)(caps:List (Key×Nat))(S:Store)(xs:List ay)(p:ay→Bool)(hl:xs.length≤1073741824)(hp:∀x∈xs,mY Tryz.prog g caps S [x.v] (.c (.d (.b (p x))))):
 bD Tryz.prog 329 [.c (.d (.sl (xs.map ay.enc))),.c (.fn g caps)] S (fun r S'=>r=.c (.d (.i .i64 (pO p xs)))∧S'=S):=by
 refine aD (rs:=[.tmp 4]) Tryz.checked.mixed Tryz.func329 Tryz.ntmps329 rfl rfl rfl rfl rfl ?_
 simp -implicitDefEqProofs (disch:=omega) only[go_sem]
 refine aZ (ι:=Nat) Tryz.checked.mixed rfl [0,1,7,8] (fun i=>[.c (.d (.sl (xs.map ay.enc))),.c (.fn g (gZ 1 caps)),.c (.d (.i .i64 xs.length)),.c (.d (.i .i64 i))]) (fun _=>[]::S)
  (fun i=>i≤xs.length∧∀j,∀hj:j<xs.length,j<i→p xs[j]=false) (fun i=>xs.length-i) 0 rfl rfl ⟨Nat.zero_le _,fun j _ h=>by omega⟩ ?_
 rintro i ⟨p1,p2⟩
 simp -implicitDefEqProofs (disch:=omega) only[go_sem]
 with_reducible refine aA (fun hb=> ?_) (fun hb=> ?_)<;>have h:=hb<;>(try simp only[wf_preprocess] at h)<;>simp -implicitDefEqProofs (disch:=omega) only[go_sem,hb]<;>(repeat(with_reducible refine And.intro ?_ ?_;focus first|omega|rfl|assumption|exact⟨_,rfl,rfl⟩|(simp;omega)|(simp;done)))
 ·have hi:i<xs.length:=by omega
  (repeat(with_reducible refine And.intro ?_ ?_;focus first|omega|rfl|assumption|exact⟨_,rfl,rfl⟩|(simp;omega)|(simp;done)))
  refine bA rfl (hp xs[i] (List.getElem_mem hi) [_]) ?_
  simp -implicitDefEqProofs (disch:=omega) only[go_sem]
  with_reducible refine aA (fun hb=> ?_) (fun hb=> ?_)<;>have h:=hb<;>(try simp only[wf_preprocess] at h)<;>simp -implicitDefEqProofs (disch:=omega) only[go_sem,hb]<;>(repeat(with_reducible refine And.intro ?_ ?_;focus first|omega|rfl|assumption|exact⟨_,rfl,rfl⟩|(simp;omega)|(simp;done)))
  ·rw[qj hi p2 h]
  ·refine bL (i+1) (by omega) rfl rfl ⟨by omega,fun j hj hji=> ?_⟩
   by_cases e:j=i
   ·subst e;exact h
   ·exact p2 j hj (by omega)
 ·rw[tO (fun j hj=>p2 j hj (by omega))]
theorem Cj(g:Nat)(caps:List (Key×Nat))(S:Store)(xs:List ay)(p:ay→Bool)(hl:xs.length≤1073741824)(hp:∀x∈xs,mY Tryz.prog g caps S [x.v] (.c (.d (.b (p x))))):
 bD Tryz.prog 283 [.c (.d (.sl (xs.map ay.enc))),.c (.fn g caps)] S (fun r S'=>r=.c (.d (.b (xs.any p)))∧S'=S):=by
 refine aD (rs:=[.tmp 4]) Tryz.checked.mixed Tryz.func283 Tryz.ntmps283 rfl rfl rfl rfl rfl ?_
 simp -implicitDefEqProofs (disch:=omega) only[go_sem]
 refine bA rfl (Fw g (gZ 1 caps) _ xs p hl fun x hx=>(hp x hx).push _) ?_
 simp -implicitDefEqProofs (disch:=omega) only[go_sem]
 exact aK rF
theorem G9(g:Nat)(caps:List (Key×Nat))(S:Store)(xs:List aJ)(p:aJ→Bool)(hl:xs.length≤1073741824)(hp:∀x∈xs,mY Tryz.prog g caps S [x.v] (.c (.d (.b (p x))))):
 bD Tryz.prog 330 [.c (.d (.sl (xs.map aJ.enc))),.c (.fn g caps)] S (fun r S'=>r=.c (.d (.i .i64 (pO p xs)))∧S'=S):=by
 refine aD (rs:=[.tmp 4]) Tryz.checked.mixed Tryz.func330 Tryz.ntmps330 rfl rfl rfl rfl rfl ?_
 simp -implicitDefEqProofs (disch:=omega) only[go_sem]
 refine aZ (ι:=Nat) Tryz.checked.mixed rfl [0,1,7,8] (fun i=>[.c (.d (.sl (xs.map aJ.enc))),.c (.fn g (gZ 1 caps)),.c (.d (.i .i64 xs.length)),.c (.d (.i .i64 i))]) (fun _=>[]::S)
  (fun i=>i≤xs.length∧∀j,∀hj:j<xs.length,j<i→p xs[j]=false) (fun i=>xs.length-i) 0 rfl rfl ⟨Nat.zero_le _,fun j _ h=>by omega⟩ ?_
 rintro i ⟨p1,p2⟩
 simp -implicitDefEqProofs (disch:=omega) only[go_sem]
 with_reducible refine aA (fun hb=> ?_) (fun hb=> ?_)<;>have h:=hb<;>(try simp only[wf_preprocess] at h)<;>simp -implicitDefEqProofs (disch:=omega) only[go_sem,hb]<;>(repeat(with_reducible refine And.intro ?_ ?_;focus first|omega|rfl|assumption|exact⟨_,rfl,rfl⟩|(simp;omega)|(simp;done)))
 ·have hi:i<xs.length:=by omega
  (repeat(with_reducible refine And.intro ?_ ?_;focus first|omega|rfl|assumption|exact⟨_,rfl,rfl⟩|(simp;omega)|(simp;done)))
  refine bA rfl (hp xs[i] (List.getElem_mem hi) [_]) ?_
  simp -implicitDefEqProofs (disch:=omega) only[go_sem]
  with_reducible refine aA (fun hb=> ?_) (fun hb=> ?_)<;>have h:=hb<;>(try simp only[wf_preprocess] at h)<;>simp -implicitDefEqProofs (disch:=omega) only[go_sem,hb]<;>(repeat(with_reducible refine And.intro ?_ ?_;focus first|omega|rfl|assumption|exact⟨_,rfl,rfl⟩|(simp;omega)|(simp;done)))
  ·rw[qj hi p2 h]
  ·refine bL (i+1) (by omega) rfl rfl ⟨by omega,fun j hj hji=> ?_⟩
   by_cases e:j=i
   ·subst e;exact h
   ·exact p2 j hj (by omega)
 ·rw[tO (fun j hj=>p2 j hj (by omega))]
theorem CY(g:Nat)(caps:List (Key×Nat))(S:Store)(xs:List aJ)(p:aJ→Bool)(hl:xs.length≤1073741824)(hp:∀x∈xs,mY Tryz.prog g caps S [x.v] (.c (.d (.b (p x))))):
 bD Tryz.prog 285 [.c (.d (.sl (xs.map aJ.enc))),.c (.fn g caps)] S (fun r S'=>r=.c (.d (.b (xs.any p)))∧S'=S):=by
 refine aD (rs:=[.tmp 4]) Tryz.checked.mixed Tryz.func285 Tryz.ntmps285 rfl rfl rfl rfl rfl ?_
 simp -implicitDefEqProofs (disch:=omega) only[go_sem]
 refine bA rfl (G9 g (gZ 1 caps) _ xs p hl fun x hx=>(hp x hx).push _) ?_
 simp -implicitDefEqProofs (disch:=omega) only[go_sem]
 exact aK rF
theorem Em(g:Nat)(caps:List (Key×Nat))(S:Store)(xs:List aO)(p:aO→Bool)(hl:xs.length≤1073741824)(hp:∀x∈xs,mY Tryz.prog g caps S [x.v] (.c (.d (.b (p x))))):
 bD Tryz.prog 333 [.c (.d (.sl (xs.map aO.enc))),.c (.fn g caps)] S (fun r S'=>r=.c (.d (.i .i64 (pO p xs)))∧S'=S):=by
 refine aD (rs:=[.tmp 4]) Tryz.checked.mixed Tryz.func333 Tryz.ntmps333 rfl rfl rfl rfl rfl ?_
 simp -implicitDefEqProofs (disch:=omega) only[go_sem]
 refine aZ (ι:=Nat) Tryz.checked.mixed rfl [0,1,7,8] (fun i=>[.c (.d (.sl (xs.map aO.enc))),.c (.fn g (gZ 1 caps)),.c (.d (.i .i64 xs.length)),.c (.d (.i .i64 i))]) (fun _=>[]::S)
  (fun i=>i≤xs.length∧∀j,∀hj:j<xs.length,j<i→p xs[j]=false) (fun i=>xs.length-i) 0 rfl rfl ⟨Nat.zero_le _,fun j _ h=>by omega⟩ ?_
 rintro i ⟨p1,p2⟩
 simp -implicitDefEqProofs (disch:=omega) only[go_sem]
 with_reducible refine aA (fun hb=> ?_) (fun hb=> ?_)<;>have h:=hb<;>(try simp only[wf_preprocess] at h)<;>simp -implicitDefEqProofs (disch:=omega) only[go_sem,hb]<;>(repeat(with_reducible refine And.intro ?_ ?_;focus first|omega|rfl|assumption|exact⟨_,rfl,rfl⟩|(simp;omega)|(simp;done)))
 ·have hi:i<xs.length:=by omega
  (repeat(with_reducible refine And.intro ?_ ?_;focus first|omega|rfl|assumption|exact⟨_,rfl,rfl⟩|(simp;omega)|(simp;done)))
  refine bA rfl (hp xs[i] (List.getElem_mem hi) [_]) ?_
  simp -implicitDefEqProofs (disch:=omega) only[go_sem]
  with_reducible refine aA (fun hb=> ?_) (fun hb=> ?_)<;>have h:=hb<;>(try simp only[wf_preprocess] at h)<;>simp -implicitDefEqProofs (disch:=omega) only[go_sem,hb]<;>(repeat(with_reducible refine And.intro ?_ ?_;focus first|omega|rfl|assumption|exact⟨_,rfl,rfl⟩|(simp;omega)|(simp;done)))
  ·rw[qj hi p2 h]
  ·refine bL (i+1) (by omega) rfl rfl ⟨by omega,fun j hj hji=> ?_⟩
   by_cases e:j=i
   ·subst e;exact h
   ·exact p2 j hj (by omega)
 ·rw[tO (fun j hj=>p2 j hj (by omega))]
theorem Bt(g:Nat)(caps:List (Key×Nat))(S:Store)(xs:List aO)(p:aO→Bool)(hl:xs.length≤1073741824)(hp:∀x∈xs,mY Tryz.prog g caps S [x.v] (.c (.d (.b (p x))))):
 bD Tryz.prog 290 [.c (.d (.sl (xs.map aO.enc))),.c (.fn g caps)] S (fun r S'=>r=.c (.d (.b (xs.any p)))∧S'=S):=by
 refine aD (rs:=[.tmp 4]) Tryz.checked.mixed Tryz.func290 Tryz.ntmps290 rfl rfl rfl rfl rfl ?_
 simp -implicitDefEqProofs (disch:=omega) only[go_sem]
 refine bA rfl (Em g (gZ 1 caps) _ xs p hl fun x hx=>(hp x hx).push _) ?_
 simp -implicitDefEqProofs (disch:=omega) only[go_sem]
 exact aK rF
theorem CZ(g:Nat)(caps:List (Key×Nat))(S:Store)(xs:List (List UInt8))(p:(List UInt8)→Bool)(hl:xs.length≤1073741824)(hp:∀x∈xs,mY Tryz.prog g caps S [.c (.d (.s x))] (.c (.d (.b (p x))))):
 bD Tryz.prog 317 [.c (.d (.sl (xs.map encS))),.c (.fn g caps)] S (fun r S'=>r=.c (.d (.i .i64 (pO p xs)))∧S'=S):=by
 refine aD (rs:=[.tmp 4]) Tryz.checked.mixed Tryz.func317 Tryz.ntmps317 rfl rfl rfl rfl rfl ?_
 simp -implicitDefEqProofs (disch:=omega) only[go_sem,encS]
 refine aZ (ι:=Nat) Tryz.checked.mixed rfl [0,1,7,8] (fun i=>[.c (.d (.sl (xs.map encS))),.c (.fn g (gZ 1 caps)),.c (.d (.i .i64 xs.length)),.c (.d (.i .i64 i))]) (fun _=>[]::S)
  (fun i=>i≤xs.length∧∀j,∀hj:j<xs.length,j<i→p xs[j]=false) (fun i=>xs.length-i) 0 rfl rfl ⟨Nat.zero_le _,fun j _ h=>by omega⟩ ?_
 rintro i ⟨p1,p2⟩
 simp -implicitDefEqProofs (disch:=omega) only[go_sem,encS]
 with_reducible refine aA (fun hb=> ?_) (fun hb=> ?_)<;>have h:=hb<;>(try simp only[wf_preprocess] at h)<;>simp -implicitDefEqProofs (disch:=omega) only[go_sem,hb,encS]<;>(repeat(with_reducible refine And.intro ?_ ?_;focus first|omega|rfl|assumption|exact⟨_,rfl,rfl⟩|(simp;omega)|(simp;done)))
 ·have hi:i<xs.length:=by omega
  (repeat(with_reducible refine And.intro ?_ ?_;focus first|omega|rfl|assumption|exact⟨_,rfl,rfl⟩|(simp;omega)|(simp;done)))
  refine bA rfl (hp xs[i] (List.getElem_mem hi) [_]) ?_
  simp -implicitDefEqProofs (disch:=omega) only[go_sem,encS]
  with_reducible refine aA (fun hb=> ?_) (fun hb=> ?_)<;>have h:=hb<;>(try simp only[wf_preprocess] at h)<;>simp -implicitDefEqProofs (disch:=omega) only[go_sem,hb,encS]<;>(repeat(with_reducible refine And.intro ?_ ?_;focus first|omega|rfl|assumption|exact⟨_,rfl,rfl⟩|(simp;omega)|(simp;done)))
  ·rw[qj hi p2 h]
  ·refine bL (i+1) (by omega) rfl rfl ⟨by omega,fun j hj hji=> ?_⟩
   by_cases e:j=i
   ·subst e;exact h
   ·exact p2 j hj (by omega)
 ·rw[tO (fun j hj=>p2 j hj (by omega))]
theorem tZ(g:Nat)(caps:List (Key×Nat))(S:Store)(xs:List (List UInt8))(p:(List UInt8)→Bool)(hl:xs.length≤1073741824)(hp:∀x∈xs,mY Tryz.prog g caps S [.c (.d (.s x))] (.c (.d (.b (p x))))):
 bD Tryz.prog 264 [.c (.d (.sl (xs.map encS))),.c (.fn g caps)] S (fun r S'=>r=.c (.d (.b (xs.any p)))∧S'=S):=by
 refine aD (rs:=[.tmp 4]) Tryz.checked.mixed Tryz.func264 Tryz.ntmps264 rfl rfl rfl rfl rfl ?_
 simp -implicitDefEqProofs (disch:=omega) only[go_sem,encS]
 refine bA rfl (CZ g (gZ 1 caps) _ xs p hl fun x hx=>(hp x hx).push _) ?_
 simp -implicitDefEqProofs (disch:=omega) only[go_sem,encS]
 exact aK rF
end Go.Proofs.YtlmhknhlmicmeaaGreatDoor
namespace Go.Ab
theorem Al{s:List UInt8}{xs:List (List UInt8)}(h:s∈xs):s.length≤bG (xs.map encS):=by
 have:=eP (List.mem_map_of_mem (f:=encS) h)
 simpa [encS,bQ,D.sz] using this
noncomputable def jd(xs:List (List UInt8)):Bool:=dec xs.Nodup&&xs.all validName
noncomputable def among(xs ys:List (List UInt8)):Bool:=xs.all fun s=>dec (s∈ys)
noncomputable def iM(vars:List (List UInt8))(t:aj):Bool:=kC t&&among (gH [] t) vars
theorem Yp{s l:List UInt8}{m:List (List UInt8)}:s∈Co l m↔s=l∨s∈m:=by
 unfold Co
 split
 ·rename_i h
  exact⟨.inr,fun x=>x.elim (fun e=>e▸h) id⟩
 ·rw[List.mem_append,List.mem_singleton];exact Or.comm
theorem uf{α:Type}{xs:List α}{i:Nat}(hi:i<xs.length):xs.take (i+1)=xs.take i++[xs[i]]:=List.take_succ_eq_append_getElem hi
theorem Bu{α:Type}{xs:List α}{x:α}:(xs++[x]).Nodup↔xs.Nodup∧x∉xs:=by
 rw[List.nodup_append]
 constructor
 ·rintro⟨h1,_,h3⟩
  exact⟨h1,fun hx=>h3 x hx x (by simp) rfl⟩
 ·rintro⟨h1,h2⟩
  exact⟨h1,by simp,fun a ha b hb e=>by simp at hb;subst hb;exact h2 (e▸ha)⟩
theorem JY{α:Type}{xs:List α}{i:Nat}(hi:i<xs.length)(h:xs[i]∈xs.take i):¬xs.Nodup:=fun hn=>by
 have h1:(xs.take (i+1)).Nodup:=hn.sublist (List.take_sublist _ _)
 rw[uf hi] at h1
 exact(Bu.1 h1).2 h
end Go.Ab
namespace Go.Proofs.YtlmhknhlmicmeaaGreatDoor
open Go Go.Ab
theorem He(xs:List (List UInt8))(hl:xs.length≤1073741824):aI Tryz.prog 233 [.c (.d (.sl (xs.map encS)))] (.c (.d (.b (dec xs.Nodup)))):=fun S=>by
 refine aD (rs:=[.tmp 2]) Tryz.checked.mixed Tryz.func233 Tryz.ntmps233 rfl rfl rfl rfl rfl ?_
 simp -implicitDefEqProofs (disch:=omega) only[go_sem,encS]
 (repeat(with_reducible refine And.intro ?_ ?_;focus first|omega|rfl|assumption|exact⟨_,rfl,rfl⟩|(simp;omega)|(simp;done)))
 refine aZ (ι:=Nat×List (List UInt8)) Tryz.checked.mixed rfl [3,7,8,9] (fun y=>[.c (.mp (0,0)),.c (.d (.sl (xs.map encS))),.c (.d (.i .i64 xs.length)),.c (.d (.i .i64 y.1))]) (fun y=>[.mp y.2]::S)
  (fun y=>y.1≤xs.length∧(∀s,s∈y.2↔s∈xs.take y.1)∧(xs.take y.1).Nodup) (fun y=>xs.length-y.1) (0,[]) rfl rfl ⟨Nat.zero_le _,fun s=>by simp,by simp⟩ ?_
 rintro⟨i,m⟩ ⟨p1,p2,p3⟩
 simp only at p1 p2 p3
 simp -implicitDefEqProofs (disch:=omega) only[go_sem,encS]
 with_reducible refine aA (fun hb=> ?_) (fun hb=> ?_)<;>have h:=hb<;>(try simp only[wf_preprocess] at h)<;>simp -implicitDefEqProofs (disch:=omega) only[go_sem,hb,encS]<;>(repeat(with_reducible refine And.intro ?_ ?_;focus first|omega|rfl|assumption|exact⟨_,rfl,rfl⟩|(simp;omega)|(simp;done)))
 ·have hi:i<xs.length:=by omega
  (repeat(with_reducible refine And.intro ?_ ?_;focus first|omega|rfl|assumption|exact⟨_,rfl,rfl⟩|(simp;omega)|(simp;done)))
  with_reducible refine aA (fun hb=> ?_) (fun hb=> ?_)<;>have h:=hb<;>(try simp only[wf_preprocess] at h)<;>simp -implicitDefEqProofs (disch:=omega) only[go_sem,hb,encS]<;>(repeat(with_reducible refine And.intro ?_ ?_;focus first|omega|rfl|assumption|exact⟨_,rfl,rfl⟩|(simp;omega)|(simp;done)))
  ·exact aK (aQ (JY hi ((p2 _).1 h))).symm
  ·refine bL (i+1,Co xs[i] m) (by simp only;omega) rfl rfl ⟨by simp only;omega,fun s=> ?_,?_⟩
   ·simp only
    rw[Yp,uf hi,List.mem_append,List.mem_singleton,p2]
    exact Or.comm
   ·simp only
    rw[uf hi,Bu]
    exact⟨p3,fun hx=>h ((p2 _).2 hx)⟩
 ·rw[List.take_of_length_le (by omega)] at p3
  exact aK (bK p3).symm
theorem zo(xs:List (List UInt8))(hl:xs.length≤1073741824):aI Tryz.prog 154 [.c (.d (.sl (xs.map encS)))] (.c (.d (.b (dec xs.Nodup)))):=fun S=>by
 refine aD (rs:=[.tmp 2]) Tryz.checked.mixed Tryz.func154 Tryz.ntmps154 rfl rfl rfl rfl rfl ?_
 simp -implicitDefEqProofs (disch:=omega) only[go_sem,encS]
 refine aZ (ι:=Nat) Tryz.checked.mixed rfl [0,3] (fun i=>[.c (.d (.sl (xs.map encS))),.c (.d (.i .i64 i))]) (fun _=>[]::S)
  (fun i=>i≤xs.length∧(xs.take i).Nodup) (fun i=>xs.length-i) 0 rfl rfl ⟨Nat.zero_le _,by simp⟩ ?_
 rintro i ⟨p1,p3⟩
 simp -implicitDefEqProofs (disch:=omega) only[go_sem,encS]
 with_reducible refine aA (fun hb=> ?_) (fun hb=> ?_)<;>have h:=hb<;>(try simp only[wf_preprocess] at h)<;>simp -implicitDefEqProofs (disch:=omega) only[go_sem,hb,encS]<;>(repeat(with_reducible refine And.intro ?_ ?_;focus first|omega|rfl|assumption|exact⟨_,rfl,rfl⟩|(simp;omega)|(simp;done)))
 ·have hi:i<xs.length:=by omega
  have hc:∀y∈xs.map encS,y.length=1:=fun y hy=>by
   obtain⟨s,_,rfl⟩:=List.mem_map.1 hy
   rfl
  have e:(xs.map encS).take i=(xs.take i).map encS:=List.map_take.symm
  refine And.intro ⟨by omega,by omega,hc⟩ ?_
  (repeat(with_reducible refine And.intro ?_ ?_;focus first|omega|rfl|assumption|exact⟨_,rfl,rfl⟩|(simp;omega)|(simp;done)))
  simp -implicitDefEqProofs (disch:=omega) only[go_sem,Int.toNat_zero,e]
  refine au (qY (xs.take i) xs[i] (by simp;omega)) ?_
  simp -implicitDefEqProofs (disch:=omega) only[go_sem]<;>(repeat(with_reducible refine And.intro ?_ ?_;focus first|omega|rfl|assumption|exact⟨_,rfl,rfl⟩|(simp;omega)|(simp;done)))
  with_reducible refine aA (fun hb=> ?_) (fun hb=> ?_)<;>have h:=hb<;>(try simp only[wf_preprocess] at h)<;>simp -implicitDefEqProofs (disch:=omega) only[go_sem,hb]<;>(repeat(with_reducible refine And.intro ?_ ?_;focus first|omega|rfl|assumption|exact⟨_,rfl,rfl⟩|(simp;omega)|(simp;done)))
  ·exact aK (aQ (JY hi h)).symm
  ·refine bL (i+1) (by omega) rfl rfl ⟨by omega,?_⟩
   rw[uf hi,Bu]
   exact⟨p3,h⟩
 ·rw[List.take_of_length_le (by omega)] at p3
  exact aK (bK p3).symm
theorem Hf(xs:List (List UInt8))(hl:xs.length≤1073741824)(hs:∀s∈xs,s.length≤4194304):aI Tryz.prog 247 [.c (.d (.sl (xs.map encS)))] (.c (.d (.b (xs.all validName)))):=fun S=>by
 refine aD (rs:=[.tmp 2]) Tryz.checked.mixed Tryz.func247 Tryz.ntmps247 rfl rfl rfl rfl rfl ?_
 simp -implicitDefEqProofs (disch:=omega) only[go_sem,encS]
 refine aZ (ι:=Nat) Tryz.checked.mixed rfl [0,3] (fun i=>[.c (.d (.sl (xs.map encS))),.c (.d (.i .i64 i))]) (fun _=>[]::S)
  (fun i=>i≤xs.length∧(xs.drop i).all validName=xs.all validName) (fun i=>xs.length-i) 0 rfl rfl ⟨Nat.zero_le _,rfl⟩ ?_
 rintro i ⟨p1,p2⟩
 simp -implicitDefEqProofs (disch:=omega) only[go_sem,encS]
 with_reducible refine aA (fun hb=> ?_) (fun hb=> ?_)<;>have h:=hb<;>(try simp only[wf_preprocess] at h)<;>simp -implicitDefEqProofs (disch:=omega) only[go_sem,hb,encS]<;>(repeat(with_reducible refine And.intro ?_ ?_;focus first|omega|rfl|assumption|exact⟨_,rfl,rfl⟩|(simp;omega)|(simp;done)))
 ·have hi:i<xs.length:=by omega
  have hz:=hs _ (List.getElem_mem hi)
  rw[List.drop_eq_getElem_cons hi,List.all_cons] at p2
  (repeat(with_reducible refine And.intro ?_ ?_;focus first|omega|rfl|assumption|exact⟨_,rfl,rfl⟩|(simp;omega)|(simp;done)))
  refine au (jE xs[i] (by omega)) ?_
  simp -implicitDefEqProofs (disch:=omega) only[go_sem]<;>(repeat(with_reducible refine And.intro ?_ ?_;focus first|omega|rfl|assumption|exact⟨_,rfl,rfl⟩|(simp;omega)|(simp;done)))
  with_reducible refine aA (fun hb=> ?_) (fun hb=> ?_)<;>have h:=hb<;>(try simp only[wf_preprocess] at h)<;>simp -implicitDefEqProofs (disch:=omega) only[go_sem,hb]<;>(repeat(with_reducible refine And.intro ?_ ?_;focus first|omega|rfl|assumption|exact⟨_,rfl,rfl⟩|(simp;omega)|(simp;done)))
  ·rw[←p2,h];rfl
  ·exact bL (i+1) (by omega) rfl rfl ⟨by omega,by rw[←p2,h];rfl⟩
 ·rw[List.drop_of_length_le (by omega)] at p2
  rw[←p2];rfl
theorem vW(xs:List (List UInt8))(hl:xs.length≤1073741824)(hs:∀s∈xs,s.length≤4194304):aI Tryz.prog 169 [.c (.d (.sl (xs.map encS)))] (.c (.d (.b (jd xs)))):=fun S=>by
 have hcl:∀s∈xs,aI Tryz.prog 265 [.c (.d (.s s))] (.c (.d (.b (!validName s)))):=fun s hx S=>by
  have:=hs s hx
  refine aD (rs:=[.tmp 2]) Tryz.checked.mixed Tryz.func265 Tryz.ntmps265 rfl rfl rfl rfl rfl ?_
  simp -implicitDefEqProofs (disch:=omega) only[go_sem]
  refine au (jD s (by omega)) ?_
  simp -implicitDefEqProofs (disch:=omega) only[go_sem]<;>(repeat(with_reducible refine And.intro ?_ ?_;focus first|omega|rfl|assumption|exact⟨_,rfl,rfl⟩|(simp;omega)|(simp;done)))
 have ha:(xs.any fun s=> !validName s)= !xs.all validName:=by rw[List.not_all_eq_any_not]
 refine aD (rs:=[.tmp 2]) Tryz.checked.mixed Tryz.func169 Tryz.ntmps169 rfl rfl rfl rfl rfl ?_
 simp -implicitDefEqProofs (disch:=omega) only[go_sem]
 refine au (He xs hl) ?_
 simp -implicitDefEqProofs (disch:=omega) only[go_sem]<;>(repeat(with_reducible refine And.intro ?_ ?_;focus first|omega|rfl|assumption|exact⟨_,rfl,rfl⟩|(simp;omega)|(simp;done)))
 with_reducible refine aA (fun hb=> ?_) (fun hb=> ?_)<;>have h:=hb<;>(try simp only[wf_preprocess] at h)<;>simp -implicitDefEqProofs (disch:=omega) only[go_sem,hb]<;>(repeat(with_reducible refine And.intro ?_ ?_;focus first|omega|rfl|assumption|exact⟨_,rfl,rfl⟩|(simp;omega)|(simp;done)))
 ·refine bA rfl (tZ 265 [] _ xs (fun s=> !validName s) hl fun s hx=>mY.I6 (hcl s hx)) ?_
  simp -implicitDefEqProofs (disch:=omega) only[go_sem]
  rw[ha]
  exact aK (by unfold jd;rw[hb];simp)
 ·exact aK (by unfold jd;rw[hb];rfl)
theorem vX(xs ys:List (List UInt8))(hl:xs.length≤1073741824)(hl':ys.length≤1073741824):aI Tryz.prog 236 [.c (.d (.sl (xs.map encS))),.c (.d (.sl (ys.map encS)))] (.c (.d (.b (among xs ys)))):=fun S=>by
 have ha:(xs.any fun s=> !dec (s∈ys))= !among xs ys:=by unfold among;rw[List.not_all_eq_any_not]
 have hcl:∀(rest:List Ab.Obj) (s:List UInt8),mY Tryz.prog 300 [((0,0),0)] ((.box [.d (.sl (ys.map encS))]::rest)::S) [.c (.d (.s s))] (.c (.d (.b (!dec (s∈ys))))):=fun rest s F=>by
  refine aD (rs:=[.tmp 3]) Tryz.checked.mixed Tryz.func300 Tryz.ntmps300 rfl rfl rfl rfl rfl ?_
  simp -implicitDefEqProofs (disch:=omega) only[go_sem]
  refine au (qZ ys s hl') ?_
  simp -implicitDefEqProofs (disch:=omega) only[go_sem]<;>(repeat(with_reducible refine And.intro ?_ ?_;focus first|omega|rfl|assumption|exact⟨_,rfl,rfl⟩|(simp;omega)|(simp;done)))
 refine aD (rs:=[.tmp 4]) Tryz.checked.mixed Tryz.func236 Tryz.ntmps236 rfl rfl rfl rfl rfl ?_
 simp -implicitDefEqProofs (disch:=omega) only[go_sem]
 refine bA rfl (tZ 300 [((0,0),0)] _ xs (fun s=> !dec (s∈ys)) hl fun s hx=>hcl [] s) ?_
 simp -implicitDefEqProofs (disch:=omega) only[go_sem]
 rw[ha]
 exact aK (by simp)
theorem BZ(t:aj)(vars:List (List UInt8))(hsz:t.sz≤4194304)(hv:vars.length≤1073741824):aI Tryz.prog 226 [t.v,.c (.d (.sl (vars.map encS)))] (.c (.d (.b (iM vars t)))):=fun S=>by
 have h1:=wK t []
 have h2:=ji t
 refine aD (rs:=[.tmp 4]) Tryz.checked.mixed Tryz.func226 Tryz.ntmps226 rfl rfl rfl rfl rfl ?_
 simp -implicitDefEqProofs (disch:=omega) only[go_sem]
 refine au (sU t hsz) ?_
 simp -implicitDefEqProofs (disch:=omega) only[go_sem]<;>(repeat(with_reducible refine And.intro ?_ ?_;focus first|omega|rfl|assumption|exact⟨_,rfl,rfl⟩|(simp;omega)|(simp;done)))
 with_reducible refine aA (fun hb=> ?_) (fun hb=> ?_)<;>have h:=hb<;>(try simp only[wf_preprocess] at h)<;>simp -implicitDefEqProofs (disch:=omega) only[go_sem,hb]<;>(repeat(with_reducible refine And.intro ?_ ?_;focus first|omega|rfl|assumption|exact⟨_,rfl,rfl⟩|(simp;omega)|(simp;done)))
 ·refine au (uL t hsz) ?_
  simp -implicitDefEqProofs (disch:=omega) only[go_sem]<;>(repeat(with_reducible refine And.intro ?_ ?_;focus first|omega|rfl|assumption|exact⟨_,rfl,rfl⟩|(simp;omega)|(simp;done)))
  refine au (vX (gH [] t) vars (by simp at h1;omega) hv) ?_
  simp -implicitDefEqProofs (disch:=omega) only[go_sem]<;>(repeat(with_reducible refine And.intro ?_ ?_;focus first|omega|rfl|assumption|exact⟨_,rfl,rfl⟩|(simp;omega)|(simp;done)))
  exact aK (by unfold iM;rw[hb];rfl)
 ·exact aK (by unfold iM;rw[hb];rfl)
theorem zQ(xs:List (List UInt8))(most:Int)(hl:xs.length≤1073741824)(hs:∀s∈xs,s.length≤4194304):aI Tryz.prog 153 [.c (.d (.sl (xs.map encS))),.c (.d (.i .i64 most))] (.c (.d (.b (dec ((xs.length:Int)≤most)&&jd xs)))):=fun S=>by
 refine aD (rs:=[.tmp 4]) Tryz.checked.mixed Tryz.func153 Tryz.ntmps153 rfl rfl rfl rfl rfl ?_
 simp -implicitDefEqProofs (disch:=omega) only[go_sem]
 with_reducible refine aA (fun hb=> ?_) (fun hb=> ?_)<;>have h:=hb<;>(try simp only[wf_preprocess] at h)<;>simp -implicitDefEqProofs (disch:=omega) only[go_sem,hb]<;>(repeat(with_reducible refine And.intro ?_ ?_;focus first|omega|rfl|assumption|exact⟨_,rfl,rfl⟩|(simp;omega)|(simp;done)))
 ·have h1:=h
  refine au (Hf xs hl hs) ?_
  simp -implicitDefEqProofs (disch:=omega) only[go_sem]<;>(repeat(with_reducible refine And.intro ?_ ?_;focus first|omega|rfl|assumption|exact⟨_,rfl,rfl⟩|(simp;omega)|(simp;done)))
  with_reducible refine aA (fun hb=> ?_) (fun hb=> ?_)<;>have h:=hb<;>(try simp only[wf_preprocess] at h)<;>simp -implicitDefEqProofs (disch:=omega) only[go_sem,hb]<;>(repeat(with_reducible refine And.intro ?_ ?_;focus first|omega|rfl|assumption|exact⟨_,rfl,rfl⟩|(simp;omega)|(simp;done)))
  ·refine au (zo xs hl) ?_
   simp -implicitDefEqProofs (disch:=omega) only[go_sem]<;>(repeat(with_reducible refine And.intro ?_ ?_;focus first|omega|rfl|assumption|exact⟨_,rfl,rfl⟩|(simp;omega)|(simp;done)))
   exact aK (by rw[bK h1];unfold jd;rw[hb];simp)
  ·exact aK (by rw[bK h1];unfold jd;rw[hb];simp)
 ·exact aK (by rw[aQ h];rfl)
theorem Bv(t:aj)(vars:List (List UInt8))(hsz:t.sz≤4194304)(hv:vars.length≤1073741824):aI Tryz.prog 250 [t.v,.c (.d (.sl (vars.map encS)))] (.c (.d (.b (iM vars t)))):=fun S=>by
 have h1:=wK t []
 have h2:=ji t
 have hlen:(gH [] t).length≤1073741824:=by simp at h1;omega
 refine aD (rs:=[.tmp 4]) Tryz.checked.mixed Tryz.func250 Tryz.ntmps250 rfl rfl rfl rfl rfl ?_
 simp -implicitDefEqProofs (disch:=omega) only[go_sem]
 refine au (G8 t hsz) ?_
 simp -implicitDefEqProofs (disch:=omega) only[go_sem]<;>(repeat(with_reducible refine And.intro ?_ ?_;focus first|omega|rfl|assumption|exact⟨_,rfl,rfl⟩|(simp;omega)|(simp;done)))
 generalize hxs:gH [] t=xs at hlen
 refine aZ (ι:=Nat) Tryz.checked.mixed rfl [1,2,5,6] (fun i=>[.c (.d (.sl (vars.map encS))),.c (.ptr (0,0) 0),.c (.d (.sl (xs.map encS))),.c (.d (.i .i64 i))]) (fun _=>[.box [.d (.i .i64 t.aH),.d (.s t.fName),.d (.sl (t.fArgs.map aj.enc))]]::S)
  (fun i=>i≤xs.length∧among (xs.drop i) vars=among xs vars) (fun i=>xs.length-i) 0 rfl rfl ⟨Nat.zero_le _,rfl⟩ ?_
 rintro i ⟨p1,p2⟩
 simp -implicitDefEqProofs (disch:=omega) only[go_sem,encS]
 with_reducible refine aA (fun hb=> ?_) (fun hb=> ?_)<;>have h:=hb<;>(try simp only[wf_preprocess] at h)<;>simp -implicitDefEqProofs (disch:=omega) only[go_sem,hb,encS]<;>(repeat(with_reducible refine And.intro ?_ ?_;focus first|omega|rfl|assumption|exact⟨_,rfl,rfl⟩|(simp;omega)|(simp;done)))
 ·have hi:i<xs.length:=by omega
  rw[List.drop_eq_getElem_cons hi] at p2
  have p3:among xs vars=(dec (xs[i]∈vars)&&among (xs.drop (i+1)) vars):=p2.symm
  (repeat(with_reducible refine And.intro ?_ ?_;focus first|omega|rfl|assumption|exact⟨_,rfl,rfl⟩|(simp;omega)|(simp;done)))
  refine au (qY vars xs[i] hv) ?_
  simp -implicitDefEqProofs (disch:=omega) only[go_sem]<;>(repeat(with_reducible refine And.intro ?_ ?_;focus first|omega|rfl|assumption|exact⟨_,rfl,rfl⟩|(simp;omega)|(simp;done)))
  with_reducible refine aA (fun hb=> ?_) (fun hb=> ?_)<;>have h:=hb<;>(try simp only[wf_preprocess] at h)<;>simp -implicitDefEqProofs (disch:=omega) only[go_sem,hb]<;>(repeat(with_reducible refine And.intro ?_ ?_;focus first|omega|rfl|assumption|exact⟨_,rfl,rfl⟩|(simp;omega)|(simp;done)))
  ·exact aK (by unfold iM;rw[hxs,p3,aQ h];simp)
  ·exact bL (i+1) (by omega) rfl rfl ⟨by omega,by rw[p3,bK h];rfl⟩
 ·rw[List.drop_of_length_le (by omega)] at p2
  have p3:among xs vars=true:=p2.symm
  (repeat(with_reducible refine And.intro ?_ ?_;focus first|omega|rfl|assumption|exact⟨_,rfl,rfl⟩|(simp;omega)|(simp;done)))
  refine au (sV t hsz) ?_
  simp -implicitDefEqProofs (disch:=omega) only[go_sem]<;>(repeat(with_reducible refine And.intro ?_ ?_;focus first|omega|rfl|assumption|exact⟨_,rfl,rfl⟩|(simp;omega)|(simp;done)))
  exact aK (by unfold iM;rw[hxs,p3];simp)
end Go.Proofs.YtlmhknhlmicmeaaGreatDoor
namespace Go.Ab
def ops:List (List UInt8):=[[43],[45],[42],[60],[61]]
def sH(t:aj):Prop:=t.aH=0∧t.fName=[]∧t.fArgs.length=0
def ql(e:ay):Prop:=
 (1≤e.aH∧e.aH≤12)∧
 (if e.aH=5∨e.aH=11 then validName e.aW=true else e.aW=[])∧
 (if e.aH=3∨e.aH=4∨e.aH=5∨e.aH=6∨e.aH=8 then validName e.fName=true else if e.aH=10 then e.fName∈ops else e.fName=[])∧
 (if e.aH=1 then -999999≤e.fN∧e.fN≤999999 else if e.aH=2 then e.fN=0∨e.fN=1 else e.fN=0)∧
 (if e.aH=12 then kC e.fType=true else sH e.fType)∧
 (if e.aH=4∨e.aH=6 then True else if e.aH=5 then 1≤e.fArgs.length else if e.aH=7∨e.aH=11∨e.aH=12 then e.fArgs.length=1 else if e.aH=8∨e.aH=10 then e.fArgs.length=2 else if e.aH=9 then e.fArgs.length=3 else e.fArgs.length=0)∧
 (e.aH=7↔0<e.aL.length)
mutual
noncomputable def gD:ay→Bool
 | .mk k t n m ty a b=>dec (ql (.mk k t n m ty a b))&&(je a&&lJ b)
noncomputable def je:List ay→Bool
 |[]=>true
 |x::xs=>gD x&&je xs
noncomputable def rM:aJ→Bool
 | .mk c v b=>validName c&&(jd v&&gD b)
noncomputable def lJ:List aJ→Bool
 |[]=>true
 |x::xs=>rM x&&lJ xs
end
theorem ug(x:ay):gD x=(dec (ql x)&&(je x.fArgs&&lJ x.aL)):=by cases x;rw[gD];rfl
theorem og(x:aJ):rM x=(validName x.bR&&(jd x.aC&&gD x.fBody)):=by cases x;rw[rM];rfl
theorem Nn{xs:List ay}{i:Nat}(hi:i<xs.length):je (xs.drop i)=(gD xs[i]&&je (xs.drop (i+1))):=by rw[List.drop_eq_getElem_cons hi,je]
theorem Po{xs:List aJ}{i:Nat}(hi:i<xs.length):lJ (xs.drop i)=(rM xs[i]&&lJ (xs.drop (i+1))):=by rw[List.drop_eq_getElem_cons hi,lJ]
theorem EN:∀{xs:List ay},(xs.any fun t=> !gD t)= !je xs
 |[]=>rfl
 |t::ts=>by rw[List.any_cons,EN (xs:=ts),je];simp
theorem Hg:∀{xs:List aJ},(xs.any fun t=> !rM t)= !lJ xs
 |[]=>rfl
 |t::ts=>by rw[List.any_cons,Hg (xs:=ts),lJ];simp
noncomputable def nR(e:ay):Bool:=dec (e.cnt≤300)&&gD e
def lK(l:Int)(c:Nat):Int:=if l<0 then -1 else if c≤l then l-c else -1
theorem Bw{l:Int}{a b:Nat}:lK (lK l a) b=lK l (a+b):=by unfold lK;split<;>split<;>(try split)<;>(try split)<;>omega
theorem Fx{l:Int}{a:Nat}(h:l<0):lK l a= -1:=if_pos h
theorem C8{l:Int}(h: -1≤l):lK l 0=l:=by unfold lK;split<;>(try split)<;>omega
theorem Jd{l:Int}{c:Nat}(h:0≤l): -1≤lK l c∧lK l c≤l:=by unfold lK;split<;>(try split)<;>omega
theorem Yq{l:Int}{c:Nat}(h:0≤l):decide (lK l c≥0)=decide ((c:Int)≤l):=by unfold lK;rw[if_neg (by omega)];split<;>simp<;>omega
theorem KH:validName []=false:=aQ fun h=>by have:=h.1.1;simp at this
theorem Vo{s:List UInt8}(h:s∈ops):s.length=1:=by simp[ops] at h;rcases h with h|h|h|h|h<;>rw[h]<;>rfl
theorem Np{s:List UInt8}(h:s∈ops):validName s=false:=aQ fun x=>by
 have h1:=x.2.2 0 (by have:=x.1.1;omega)
 simp[ops] at h;rcases h with h|h|h|h|h<;>rw[h] at h1<;>simp[lowerB,nM] at h1
theorem Hl{t:aj}(h:sH t):kC t=false:=aQ fun x=>by
 have h1:=x.1
 rw[tQ,Bool.and_eq_true] at h1
 have h2:=gq h1.1
 rw[h.1] at h2
 omega
end Go.Ab
namespace Go.Ab
structure Hold (p:Prop):Prop where
 out:p
theorem kX{P:Program}{N:Nat}{c:Code}{Q:Exit→St→Prop}{tm:List (Nat×V)}{st st':Store}(ts:List Nat)(vs:List V)(hv:ts.map (look tm)=vs)(hs:st=st')
 (h:AW P N c Q ⟨iP ts vs,st'⟩):AW P N c Q ⟨tm,st⟩:=by
 subst hs
 refine kS h ?_
 rw[←hv]
 exact Fj fun t=>yB _ ts t
end Go.Ab
namespace Go.Ab
theorem aap(b:UInt8):decide (firstIdx ⟨[43,45,42,60,61].toArray⟩ b≥0)=dec ([b]∈ops):=by
 have h:∀n:Nat,n<256→decide (firstIdx ⟨[43,45,42,60,61].toArray⟩ (UInt8.ofNat n)≥0)=decide ([UInt8.ofNat n]∈ops):=by decide +kernel
 have h1:=h b.toNat (UInt8.toNat_lt b)
 rw[UInt8.ofNat_toNat] at h1
 rw[h1]
 by_cases h2:[b]∈ops
 ·rw[bK h2];simp[h2]
 ·rw[aQ h2];simp[h2]
def SA(k:Int):Int:=if k=5∨k=7∨k=11∨k=12 then 1 else if k=8∨k=10 then 2 else if k=9 then 3 else 0
def SB(k:Int):Int:=if k=4∨k=6∨k=5 then 300 else if k=7∨k=11∨k=12 then 1 else if k=8∨k=10 then 2 else if k=9 then 3 else 0
end Go.Ab
namespace Go.Proofs.YtlmhknhlmicmeaaGreatDoor
open Go Go.Ab
theorem En(l:List UInt8)(b:UInt8):Rc Tryz.prog 376 [.c (.d (.s l)),.c (.d (.i .u8 b.toNat))] (.c (.d (.i .i64 (firstIdx ⟨l.toArray⟩ b)))):=by
 refine⟨_,Extern.BytealgIndexByte.indexByte,Tryz.func376,by kernel_rfl,by kernel_rfl,by kernel_rfl,by kernel_rfl,fun w σ S β vs hS hv=> ?_⟩
 obtain⟨hl,h⟩:=hv
 obtain⟨v0,e0,h0,_⟩:=h 0 _ rfl
 obtain⟨v1,e1,h1,_⟩:=h 1 _ rfl
 cases h0
 cases h1
 have hvs:vs=[.string ⟨l.toArray⟩,.int .u8 b.toNat]:=by
  match vs,hl,e0,e1 with
  |[x,y],_,e0,e1=>simp at e0 e1;rw[e0,e1]
 subst hvs
 refine⟨_,run_indexByte_string _ _ w,?_,rfl⟩
 have hb:(b.toNat:Int).toNat.toUInt8=b:=by simp
 rw[hb]
 exact .i _ _
theorem C9(l:List UInt8)(b:UInt8):aI Tryz.prog 362 [.c (.d (.s l)),.c (.d (.i .u8 b.toNat))] (.c (.d (.i .i64 (firstIdx ⟨l.toArray⟩ b)))):=fun S=>by
 refine aD (rs:=[.tmp 4]) Tryz.checked.mixed Tryz.func362 Tryz.ntmps362 rfl rfl rfl rfl rfl ?_
 simp -implicitDefEqProofs (disch:=omega) only[go_sem]
 refine abx (En l b) ?_
 simp -implicitDefEqProofs (disch:=omega) only[go_sem]
theorem Pp(l:List UInt8)(b:UInt8)(hl:[b]≠l):aI Tryz.prog 380 [.c (.d (.s l)),.c (.d (.s [b]))] (.c (.d (.i .i64 (firstIdx ⟨l.toArray⟩ b)))):=fun S=>by
 have c1:decide (((1:Nat):Int)=0)=false:=rfl
 have c2:decide (((1:Nat):Int)=1)=true:=rfl
 refine aD (rs:=[.tmp 4]) Tryz.checked.mixed Tryz.func380 Tryz.ntmps380 rfl rfl rfl rfl rfl ?_
 simp -implicitDefEqProofs (disch:=omega) only[go_sem,c1,c2]
 with_reducible refine aA (fun hb=> ?_) (fun hb=> ?_)<;>have h:=hb<;>(try simp only[wf_preprocess] at h)<;>simp -implicitDefEqProofs (disch:=omega) only[go_sem,hb,c1,c2]<;>(repeat(with_reducible refine And.intro ?_ ?_;focus first|omega|rfl|assumption|exact⟨_,rfl,rfl⟩|(simp;omega)|(simp;done)))
 ·exact absurd h hl
 refine au (C9 l b) ?_
 simp -implicitDefEqProofs (disch:=omega) only[go_sem]<;>(repeat(with_reducible refine And.intro ?_ ?_;focus first|omega|rfl|assumption|exact⟨_,rfl,rfl⟩|(simp;omega)|(simp;done)))
theorem Vp(l:List UInt8)(b:UInt8)(hl:[b]≠l):aI Tryz.prog 368 [.c (.d (.s l)),.c (.d (.s [b]))] (.c (.d (.i .i64 (firstIdx ⟨l.toArray⟩ b)))):=fun S=>by
 refine aD (rs:=[.tmp 4]) Tryz.checked.mixed Tryz.func368 Tryz.ntmps368 rfl rfl rfl rfl rfl ?_
 simp -implicitDefEqProofs (disch:=omega) only[go_sem]
 refine au (Pp l b hl) ?_
 simp -implicitDefEqProofs (disch:=omega) only[go_sem]<;>(repeat(with_reducible refine And.intro ?_ ?_;focus first|omega|rfl|assumption|exact⟨_,rfl,rfl⟩|(simp;omega)|(simp;done)))
theorem Nq(l:List UInt8)(b:UInt8)(hl:[b]≠l):aI Tryz.prog 349 [.c (.d (.s l)),.c (.d (.s [b]))] (.c (.d (.b (decide (firstIdx ⟨l.toArray⟩ b≥0))))):=fun S=>by
 refine aD (rs:=[.tmp 4]) Tryz.checked.mixed Tryz.func349 Tryz.ntmps349 rfl rfl rfl rfl rfl ?_
 simp -implicitDefEqProofs (disch:=omega) only[go_sem]
 refine au (Vp l b hl) ?_
 simp -implicitDefEqProofs (disch:=omega) only[go_sem]<;>(repeat(with_reducible refine And.intro ?_ ?_;focus first|omega|rfl|assumption|exact⟨_,rfl,rfl⟩|(simp;omega)|(simp;done)))
theorem KI(s:List UInt8):aI Tryz.prog 328 [.c (.d (.s s))] (.c (.d (.b (dec (s∈ops))))):=fun S=>by
 refine aD (rs:=[.tmp 2]) Tryz.checked.mixed Tryz.func328 Tryz.ntmps328 rfl rfl rfl rfl rfl ?_
 simp -implicitDefEqProofs (disch:=omega) only[go_sem]
 with_reducible refine aA (fun hb=> ?_) (fun hb=> ?_)<;>have h:=hb<;>(try simp only[wf_preprocess] at h)<;>simp -implicitDefEqProofs (disch:=omega) only[go_sem,hb]<;>(repeat(with_reducible refine And.intro ?_ ?_;focus first|omega|rfl|assumption|exact⟨_,rfl,rfl⟩|(simp;omega)|(simp;done)))
 ·obtain⟨b,rfl⟩:=List.length_eq_one_iff.1 (show s.length=1 by omega)
  refine au (Nq [43,45,42,60,61] b (by intro x;cases x)) ?_
  simp -implicitDefEqProofs (disch:=omega) only[go_sem]<;>(repeat(with_reducible refine And.intro ?_ ?_;focus first|omega|rfl|assumption|exact⟨_,rfl,rfl⟩|(simp;omega)|(simp;done)))
  exact aK (aap b)
 ·exact aK (aQ fun x=>h (by rw[Vo x];rfl)).symm
theorem Ca(t:aj):aI Tryz.prog 238 [t.v] (.c (.d (.b (dec (sH t))))):=fun S=>by
 refine aD (rs:=[.tmp 2]) Tryz.checked.mixed Tryz.func238 Tryz.ntmps238 rfl rfl rfl rfl rfl ?_
 simp -implicitDefEqProofs (disch:=omega) only[go_sem]
 repeat' (first
  |with_reducible refine aA (fun hb=> ?_) (fun hb=> ?_)<;>have h:=hb<;>(try simp only[wf_preprocess] at h)<;>simp -implicitDefEqProofs (disch:=omega) only[go_sem,hb]<;>(repeat(with_reducible refine And.intro ?_ ?_;focus first|omega|rfl|assumption|exact⟨_,rfl,rfl⟩|(simp;omega)|(simp;done)))
  |(refine aK ?_;unfold sH;grind [bK,aQ,gq,jh]))
theorem EO(k:Int):aI Tryz.prog 327 [.c (.d (.i .i64 k))] (.d9 [(false,[.d (.i .i64 (SA k))]),(false,[.d (.i .i64 (SB k))])]):=fun S=>by
 refine aD (rs:=[.tmp 2,.tmp 3]) Tryz.checked.mixed Tryz.func327 Tryz.ntmps327 rfl rfl rfl rfl rfl ?_
 simp -implicitDefEqProofs (disch:=omega) only[go_sem]
 repeat' (first
  |with_reducible refine aA (fun hb=> ?_) (fun hb=> ?_)<;>have h:=hb<;>(try simp only[wf_preprocess] at h)<;>simp -implicitDefEqProofs (disch:=omega) only[go_sem,hb]<;>(repeat(with_reducible refine And.intro ?_ ?_;focus first|omega|rfl|assumption|exact⟨_,rfl,rfl⟩|(simp;omega)|(simp;done)))
  |(unfold SA SB;grind))
end Go.Proofs.YtlmhknhlmicmeaaGreatDoor
namespace Go.Ab
theorem Vq(b:UInt8):decide (firstIdx ⟨[39,45,43,42,60,61,46].toArray⟩ b≥0)=decide (b∈([39,45,43,42,60,61,46]:List UInt8)):=by
 have h:∀n:Nat,n<256→decide (firstIdx ⟨[39,45,43,42,60,61,46].toArray⟩ (UInt8.ofNat n)≥0)=decide (UInt8.ofNat n∈([39,45,43,42,60,61,46]:List UInt8)):=by decide +kernel
 have h1:=h b.toNat (UInt8.toNat_lt b)
 rwa [UInt8.ofNat_toNat] at h1
theorem Yr(b:UInt8):b∈([39,45,43,42,60,61,46]:List UInt8)↔(b.toNat=39∨b.toNat=45∨b.toNat=43∨b.toNat=42∨b.toNat=60∨b.toNat=61∨b.toNat=46):=by
 have h:∀n:Nat,n<256→(UInt8.ofNat n∈([39,45,43,42,60,61,46]:List UInt8)↔(n=39∨n=45∨n=43∨n=42∨n=60∨n=61∨n=46)):=by decide +kernel
 have h1:=h b.toNat (UInt8.toNat_lt b)
 rwa [UInt8.ofNat_toNat] at h1
theorem ru(b:UInt8):iU b=true↔(97≤b.toNat∧b.toNat≤122)∨(48≤b.toNat∧b.toNat≤57)∨b.toNat=39∨b.toNat=45∨b.toNat=43∨b.toNat=42∨b.toNat=60∨b.toNat=61∨b.toNat=46:=by
 unfold iU
 rw[Bool.or_eq_true,Bool.or_eq_true,decide_eq_true_eq,decide_eq_true_eq,decide_eq_true_eq,Yr,or_assoc]
theorem all_false{s:List UInt8}{i:Nat}(hi:i<s.length)(h:iU s[i]=false):s.all iU=false:=by
 rw[List.all_eq_false]
 exact⟨s[i],List.getElem_mem hi,by simp[h]⟩
theorem all_true{s:List UInt8}(h:∀j (hj:j<s.length),iU s[j]=true):s.all iU=true:=by
 rw[List.all_eq_true]
 intro b hb
 obtain⟨j,hj,e⟩:=List.getElem_of_mem hb
 rw[←e];exact h j hj
theorem xR{x:ah}{i:Nat}(hi:i<x.ak.length)(h:x.sz≤67108864):x.ak[i].sz≤67108864∧x.ak.length≤67108864∧x.aU.length≤67108864:=by
 have:=kg (List.getElem_mem hi)
 rw[jP,l6] at h
 omega
theorem Am{x:ah}(h:x.sz≤67108864):x.ak.length≤67108864∧x.aU.length≤67108864:=by
 rw[jP,l6] at h
 omega
theorem Pq{l:List ah}{i:Nat}(hi:i<l.length):iC (l.drop i)=(iB l[i]&&iC (l.drop (i+1))):=by rw[List.drop_eq_getElem_cons hi,iC]
theorem Da{l:List ah}{i:Nat}(hi:i<l.length):mM (l.drop i)=max (jY l[i]) (mM (l.drop (i+1))):=by rw[List.drop_eq_getElem_cons hi,mM]
theorem EP{l:List ah}{i:Nat}(hi:i<l.length):lG (l.drop i)=jw l[i]+lG (l.drop (i+1)):=by rw[List.drop_eq_getElem_cons hi,lG]
theorem Fy{x:ah}(h:x.sz≤67108864):jw x≤67108865:=by have:=MQ x;omega
theorem ah.Ho{x:ah}{i:Nat}(hi:i<x.ak.length):SizeOf.sizeOf x.ak[i]<SizeOf.sizeOf x:=by
 have:=List.sizeOf_lt_of_mem (List.getElem_mem hi)
 have:=ah.kV x
 omega
end Go.Ab
namespace Go.Proofs.YtlmhknhlmicmeaaGreatDoor
open Go Go.Ab
theorem Hq(l:List UInt8)(b:UInt8):aI Tryz.prog 344 [.c (.d (.s l)),.c (.d (.i .u8 b.toNat))] (.c (.d (.i .i64 (firstIdx ⟨l.toArray⟩ b)))):=fun S=>by
 refine aD (rs:=[.tmp 4]) Tryz.checked.mixed Tryz.func344 Tryz.ntmps344 rfl rfl rfl rfl rfl ?_
 simp -implicitDefEqProofs (disch:=omega) only[go_sem]
 refine au (C9 l b) ?_
 simp -implicitDefEqProofs (disch:=omega) only[go_sem]<;>(repeat(with_reducible refine And.intro ?_ ?_;focus first|omega|rfl|assumption|exact⟨_,rfl,rfl⟩|(simp;omega)|(simp;done)))
theorem KJ(b:UInt8):aI Tryz.prog 318 [.c (.d (.i .u8 b.toNat))] (.c (.d (.b (iU b)))):=fun S=>by
 refine aD (rs:=[.tmp 2]) Tryz.checked.mixed Tryz.func318 Tryz.ntmps318 rfl rfl rfl rfl rfl ?_
 simp -implicitDefEqProofs (disch:=omega) only[go_sem]
 refine au (GR b) ?_
 simp -implicitDefEqProofs (disch:=omega) only[go_sem]<;>(repeat(with_reducible refine And.intro ?_ ?_;focus first|omega|rfl|assumption|exact⟨_,rfl,rfl⟩|(simp;omega)|(simp;done)))
 with_reducible refine aA (fun hb=> ?_) (fun hb=> ?_)<;>have h:=hb<;>(try simp only[wf_preprocess] at h)<;>simp -implicitDefEqProofs (disch:=omega) only[go_sem,hb]<;>(repeat(with_reducible refine And.intro ?_ ?_;focus first|omega|rfl|assumption|exact⟨_,rfl,rfl⟩|(simp;omega)|(simp;done)))
 ·exact aK ((ru b).2 (.inl h)).symm
 have h1:=h
 refine au (GU b) ?_
 simp -implicitDefEqProofs (disch:=omega) only[go_sem]<;>(repeat(with_reducible refine And.intro ?_ ?_;focus first|omega|rfl|assumption|exact⟨_,rfl,rfl⟩|(simp;omega)|(simp;done)))
 with_reducible refine aA (fun hb=> ?_) (fun hb=> ?_)<;>have h:=hb<;>(try simp only[wf_preprocess] at h)<;>simp -implicitDefEqProofs (disch:=omega) only[go_sem,hb]<;>(repeat(with_reducible refine And.intro ?_ ?_;focus first|omega|rfl|assumption|exact⟨_,rfl,rfl⟩|(simp;omega)|(simp;done)))
 ·exact aK ((ru b).2 (.inr (.inl h))).symm
 have h2:=h
 refine au (Hq [39,45,43,42,60,61,46] b) ?_
 simp -implicitDefEqProofs (disch:=omega) only[go_sem]<;>(repeat(with_reducible refine And.intro ?_ ?_;focus first|omega|rfl|assumption|exact⟨_,rfl,rfl⟩|(simp;omega)|(simp;done)))
 refine aK ?_
 rw[Vq]
 unfold iU
 unfold lowerB at h1
 unfold nM at h2
 simp[h1,h2]
theorem SC(s:List UInt8)(hs:s.length≤1073741824):aI Tryz.prog 268 [.c (.d (.s s))] (.c (.d (.b (validAtom s)))):=fun S=>by
 refine aD (rs:=[.tmp 2]) Tryz.checked.mixed Tryz.func268 Tryz.ntmps268 rfl rfl rfl rfl rfl ?_
 simp -implicitDefEqProofs (disch:=omega) only[go_sem]
 refine aZ (ι:=Nat) Tryz.checked.mixed rfl [0,5,6] (fun i=>[.c (.d (.s s)),.c (.d (.i .i64 s.length)),.c (.d (.i .i64 i))]) (fun _=>[]::S)
  (fun i=>i≤s.length∧∀j,∀hj:j<s.length,j<i→iU s[j]=true) (fun i=>s.length-i) 0 rfl rfl ⟨Nat.zero_le _,fun j _ h=>by omega⟩ ?_
 rintro i ⟨p1,p2⟩
 simp -implicitDefEqProofs (disch:=omega) only[go_sem]
 with_reducible refine aA (fun hb=> ?_) (fun hb=> ?_)<;>have h:=hb<;>(try simp only[wf_preprocess] at h)<;>simp -implicitDefEqProofs (disch:=omega) only[go_sem,hb]<;>(repeat(with_reducible refine And.intro ?_ ?_;focus first|omega|rfl|assumption|exact⟨_,rfl,rfl⟩|(simp;omega)|(simp;done)))
 ·have hi:i<s.length:=by omega
  have e:s.getD i 0=s[i]:=by simp[List.getD,hi]
  (repeat(with_reducible refine And.intro ?_ ?_;focus first|omega|rfl|assumption|exact⟨_,rfl,rfl⟩|(simp;omega)|(simp;done)))
  rw[e]
  refine au (KJ s[i]) ?_
  simp -implicitDefEqProofs (disch:=omega) only[go_sem]<;>(repeat(with_reducible refine And.intro ?_ ?_;focus first|omega|rfl|assumption|exact⟨_,rfl,rfl⟩|(simp;omega)|(simp;done)))
  with_reducible refine aA (fun hb=> ?_) (fun hb=> ?_)<;>have h:=hb<;>(try simp only[wf_preprocess] at h)<;>simp -implicitDefEqProofs (disch:=omega) only[go_sem,hb]<;>(repeat(with_reducible refine And.intro ?_ ?_;focus first|omega|rfl|assumption|exact⟨_,rfl,rfl⟩|(simp;omega)|(simp;done)))
  ·exact aK (by unfold validAtom;rw[all_false hi h];rfl)
  ·refine bL (i+1) (by omega) rfl rfl ⟨by omega,fun j hj hji=> ?_⟩
   by_cases e':j=i
   ·subst e';exact h
   ·exact p2 j hj (by omega)
 ·have ha:=all_true (s:=s) (fun j hj=>p2 j hj (by omega))
  with_reducible refine aA (fun hb=> ?_) (fun hb=> ?_)<;>have h:=hb<;>(try simp only[wf_preprocess] at h)<;>simp -implicitDefEqProofs (disch:=omega) only[go_sem,hb]<;>(repeat(with_reducible refine And.intro ?_ ?_;focus first|omega|rfl|assumption|exact⟨_,rfl,rfl⟩|(simp;omega)|(simp;done)))
  ·refine aK ?_
   unfold validAtom
   rw[ha,Bool.true_and]
   exact decide_eq_decide.2 (by omega)
  ·refine aK ?_
   unfold validAtom
   rw[ha,Bool.true_and]
   exact(decide_eq_false (by omega)).symm
theorem Vr(b:UInt8):aI Tryz.prog 322 [.c (.d (.i .u8 b.toNat))] (.c (.d (.b (iU b)))):=fun S=>by
 have yes:((97≤b.toNat∧b.toNat≤122)∨(48≤b.toNat∧b.toNat≤57)∨b.toNat=39∨b.toNat=45∨b.toNat=43∨b.toNat=42∨b.toNat=60∨b.toNat=61∨b.toNat=46)→iU b=true:=(ru b).2
 have no:¬((97≤b.toNat∧b.toNat≤122)∨(48≤b.toNat∧b.toNat≤57)∨b.toNat=39∨b.toNat=45∨b.toNat=43∨b.toNat=42∨b.toNat=60∨b.toNat=61∨b.toNat=46)→iU b=false:=fun h=>by
  cases hb:iU b with
  |false=>rfl
  |true=>exact absurd ((ru b).1 hb) h
 refine aD (rs:=[.tmp 2]) Tryz.checked.mixed Tryz.func322 Tryz.ntmps322 rfl rfl rfl rfl rfl ?_
 simp -implicitDefEqProofs (disch:=omega) only[go_sem]
 repeat' (first|(with_reducible refine aA (fun hb=> ?_) (fun hb=> ?_)<;>have h:=hb<;>(try simp only[wf_preprocess] at h)<;>simp -implicitDefEqProofs (disch:=omega) only[go_sem,hb]<;>(repeat(with_reducible refine And.intro ?_ ?_;focus first|omega|rfl|assumption|exact⟨_,rfl,rfl⟩|(simp;omega)|(simp;done)))))
 all_goals first
  |exact aK (yes (by omega)).symm
  |exact aK (no (by omega)).symm
  |(refine aK ?_;cases hb:iU b<;>simp only[decide_eq_true_eq,decide_eq_false_iff_not]<;>(first|(have:=(ru b).1 hb;omega)|(intro q;have:=yes (by omega);rw[hb] at this;cases this)))
theorem SE(s:List UInt8)(hs:s.length≤1073741824):aI Tryz.prog 275 [.c (.d (.s s))] (.c (.d (.b (validAtom s)))):=fun S=>by
 refine aD (rs:=[.tmp 2]) Tryz.checked.mixed Tryz.func275 Tryz.ntmps275 rfl rfl rfl rfl rfl ?_
 simp -implicitDefEqProofs (disch:=omega) only[go_sem]
 refine aZ (ι:=Nat) Tryz.checked.mixed rfl [0,3] (fun i=>[.c (.d (.s s)),.c (.d (.i .i64 i))]) (fun _=>[]::S)
  (fun i=>i≤s.length∧∀j,∀hj:j<s.length,j<i→iU s[j]=true) (fun i=>s.length-i) 0 rfl rfl ⟨Nat.zero_le _,fun j _ h=>by omega⟩ ?_
 rintro i ⟨p1,p2⟩
 simp -implicitDefEqProofs (disch:=omega) only[go_sem]
 with_reducible refine aA (fun hb=> ?_) (fun hb=> ?_)<;>have h:=hb<;>(try simp only[wf_preprocess] at h)<;>simp -implicitDefEqProofs (disch:=omega) only[go_sem,hb]<;>(repeat(with_reducible refine And.intro ?_ ?_;focus first|omega|rfl|assumption|exact⟨_,rfl,rfl⟩|(simp;omega)|(simp;done)))
 ·have hi:i<s.length:=by omega
  have e:s.getD i 0=s[i]:=by simp[List.getD,hi]
  (repeat(with_reducible refine And.intro ?_ ?_;focus first|omega|rfl|assumption|exact⟨_,rfl,rfl⟩|(simp;omega)|(simp;done)))
  rw[e]
  refine au (Vr s[i]) ?_
  simp -implicitDefEqProofs (disch:=omega) only[go_sem]<;>(repeat(with_reducible refine And.intro ?_ ?_;focus first|omega|rfl|assumption|exact⟨_,rfl,rfl⟩|(simp;omega)|(simp;done)))
  with_reducible refine aA (fun hb=> ?_) (fun hb=> ?_)<;>have h:=hb<;>(try simp only[wf_preprocess] at h)<;>simp -implicitDefEqProofs (disch:=omega) only[go_sem,hb]<;>(repeat(with_reducible refine And.intro ?_ ?_;focus first|omega|rfl|assumption|exact⟨_,rfl,rfl⟩|(simp;omega)|(simp;done)))
  ·exact aK (by unfold validAtom;rw[all_false hi h];rfl)
  ·refine bL (i+1) (by omega) rfl rfl ⟨by omega,fun j hj hji=> ?_⟩
   by_cases e':j=i
   ·subst e';exact h
   ·exact p2 j hj (by omega)
 ·have ha:=all_true (s:=s) (fun j hj=>p2 j hj (by omega))
  refine au (Ai s.length 1 12) ?_
  simp -implicitDefEqProofs (disch:=omega) only[go_sem]<;>(repeat(with_reducible refine And.intro ?_ ?_;focus first|omega|rfl|assumption|exact⟨_,rfl,rfl⟩|(simp;omega)|(simp;done)))
  refine aK ?_
  unfold validAtom
  rw[ha,Bool.true_and,←jW]
  exact decide_eq_decide.2 (by omega)
theorem Db:∀n:Nat,(∀x:ah,SizeOf.sizeOf x<n→x.sz≤67108864→aI Tryz.prog 177 [x.v] (.c (.d (.b (iB x)))))∧
 (∀xs:List ah,SizeOf.sizeOf xs<n→xs.length≤67108864→(∀t∈xs,t.sz≤67108864)→aI Tryz.prog 269 [.c (.d (.sl (xs.map ah.enc))),.c (.fn 270 [])] (.c (.d (.b (!iC xs)))))
 |0=>⟨fun x h=>by omega,fun x h=>by omega⟩
 |n+1=>by
  obtain⟨ih,ni⟩:=Db n
  refine⟨fun x hn hsz S=> ?_,fun xs hn hlen hsz S=> ?_⟩
  ·have iF:=ah.kV x
   have hts:=Am hsz
   have hall:∀t∈x.ak,t.sz≤67108864:=fun t ht=>by
    obtain⟨i,hi,e⟩:=List.getElem_of_mem ht
    rw[←e];exact(xR hi hsz).1
   have tail:=ni x.ak (by omega) hts.1 hall
   have hf:=yG x
   refine aD (rs:=[.tmp 2]) Tryz.checked.mixed Tryz.func177 Tryz.ntmps177 rfl rfl rfl rfl rfl ?_
   simp -implicitDefEqProofs (disch:=omega) only[go_sem]
   with_reducible refine aA (fun hb=> ?_) (fun hb=> ?_)<;>have h:=hb<;>(try simp only[wf_preprocess] at h)<;>simp -implicitDefEqProofs (disch:=omega) only[go_sem,hb]<;>(repeat(with_reducible refine And.intro ?_ ?_;focus first|omega|rfl|assumption|exact⟨_,rfl,rfl⟩|(simp;omega)|(simp;done)))
   ·rw[if_neg h] at hf
    refine au (SC x.aU (by omega)) ?_
    simp -implicitDefEqProofs (disch:=omega) only[go_sem]<;>(repeat(with_reducible refine And.intro ?_ ?_;focus first|omega|rfl|assumption|exact⟨_,rfl,rfl⟩|(simp;omega)|(simp;done)))
    with_reducible refine aA (fun hb=> ?_) (fun hb=> ?_)<;>have h:=hb<;>(try simp only[wf_preprocess] at h)<;>simp -implicitDefEqProofs (disch:=omega) only[go_sem,hb]<;>(repeat(with_reducible refine And.intro ?_ ?_;focus first|omega|rfl|assumption|exact⟨_,rfl,rfl⟩|(simp;omega)|(simp;done)))
    ·rw[hf,h,Bool.true_and]
     exact aK (decide_eq_decide.2 (by omega))
    ·rw[hf,h,Bool.false_and]
   ·rw[if_pos h] at hf
    refine au tail ?_
    simp -implicitDefEqProofs (disch:=omega) only[go_sem]
    rw[hf,Bool.not_not]
  ·have hcl:∀y∈xs,aI Tryz.prog 270 [y.v] (.c (.d (.b (!iB y)))):=fun y hy S=>by
    have hys:=List.sizeOf_lt_of_mem hy
    refine aD (rs:=[.tmp 2]) Tryz.checked.mixed Tryz.func270 Tryz.ntmps270 rfl rfl rfl rfl rfl ?_
    simp -implicitDefEqProofs (disch:=omega) only[go_sem]
    refine au (ih y (by omega) (hsz y hy)) ?_
    simp -implicitDefEqProofs (disch:=omega) only[go_sem]<;>(repeat(with_reducible refine And.intro ?_ ?_;focus first|omega|rfl|assumption|exact⟨_,rfl,rfl⟩|(simp;omega)|(simp;done)))
   have hidx:aI Tryz.prog 319 [.c (.d (.sl (xs.map ah.enc))),.c (.fn 270 [])] (.c (.d (.i .i64 (pO (fun y=> !iB y) xs)))):=fun S=>by
    refine aD (rs:=[.tmp 4]) Tryz.checked.mixed Tryz.func319 Tryz.ntmps319 rfl rfl rfl rfl rfl ?_
    simp -implicitDefEqProofs (disch:=omega) only[go_sem]
    refine aZ (ι:=Nat) Tryz.checked.mixed rfl [0,1,7,8] (fun i=>[.c (.d (.sl (xs.map ah.enc))),.c (.fn 270 []),.c (.d (.i .i64 xs.length)),.c (.d (.i .i64 i))]) (fun _=>[]::S)
     (fun i=>i≤xs.length∧∀j,∀hj:j<xs.length,j<i→iB xs[j]=true) (fun i=>xs.length-i) 0 rfl rfl ⟨Nat.zero_le _,fun j _ h=>by omega⟩ ?_
    rintro i ⟨p1,p2⟩
    simp -implicitDefEqProofs (disch:=omega) only[go_sem]
    with_reducible refine aA (fun hb=> ?_) (fun hb=> ?_)<;>have h:=hb<;>(try simp only[wf_preprocess] at h)<;>simp -implicitDefEqProofs (disch:=omega) only[go_sem,hb]<;>(repeat(with_reducible refine And.intro ?_ ?_;focus first|omega|rfl|assumption|exact⟨_,rfl,rfl⟩|(simp;omega)|(simp;done)))
    ·have hi:i<xs.length:=by omega
     (repeat(with_reducible refine And.intro ?_ ?_;focus first|omega|rfl|assumption|exact⟨_,rfl,rfl⟩|(simp;omega)|(simp;done)))
     refine au (hcl xs[i] (List.getElem_mem hi)) ?_
     simp -implicitDefEqProofs (disch:=omega) only[go_sem]<;>(repeat(with_reducible refine And.intro ?_ ?_;focus first|omega|rfl|assumption|exact⟨_,rfl,rfl⟩|(simp;omega)|(simp;done)))
     with_reducible refine aA (fun hb=> ?_) (fun hb=> ?_)<;>have h:=hb<;>(try simp only[wf_preprocess] at h)<;>simp -implicitDefEqProofs (disch:=omega) only[go_sem,hb]<;>(repeat(with_reducible refine And.intro ?_ ?_;focus first|omega|rfl|assumption|exact⟨_,rfl,rfl⟩|(simp;omega)|(simp;done)))
     ·rw[qj hi (fun j hj hji=>by rw[p2 j hj hji];rfl) (by rw[h];rfl)]
     ·refine bL (i+1) (by omega) rfl rfl ⟨by omega,fun j hj hji=> ?_⟩
      by_cases e:j=i
      ·subst e;exact h
      ·exact p2 j hj (by omega)
    ·rw[tO (fun j hj=>by rw[p2 j hj (by omega)];rfl)]
   refine aD (rs:=[.tmp 4]) Tryz.checked.mixed Tryz.func269 Tryz.ntmps269 rfl rfl rfl rfl rfl ?_
   simp -implicitDefEqProofs (disch:=omega) only[go_sem]
   refine au (hidx) ?_
   simp -implicitDefEqProofs (disch:=omega) only[go_sem]<;>(repeat(with_reducible refine And.intro ?_ ?_;focus first|omega|rfl|assumption|exact⟨_,rfl,rfl⟩|(simp;omega)|(simp;done)))
   rw[←Gv]
   exact aK rF
theorem Pt(x:ah)(hsz:x.sz≤67108864):aI Tryz.prog 177 [x.v] (.c (.d (.b (iB x)))):=(Db _).1 x (Nat.lt_succ_self _) hsz
theorem Ao:∀n:Nat,∀x:ah,SizeOf.sizeOf x<n→x.sz≤67108864→aI Tryz.prog 178 [x.v] (.c (.d (.i .i64 (jY x))))
 |0=>fun x h=>by omega
 |n+1=>by
  have ih:=Ao n
  intro x hn hsz S
  have hts:=Am hsz
  have hd:=JK x
  have hd1:=zM x
  have hd2:=Fy hsz
  refine aD (rs:=[.tmp 2]) Tryz.checked.mixed Tryz.func178 Tryz.ntmps178 rfl rfl rfl rfl rfl ?_
  simp -implicitDefEqProofs (disch:=omega) only[go_sem]
  with_reducible refine aA (fun hb=> ?_) (fun hb=> ?_)<;>have h:=hb<;>(try simp only[wf_preprocess] at h)<;>simp -implicitDefEqProofs (disch:=omega) only[go_sem,hb]<;>(repeat(with_reducible refine And.intro ?_ ?_;focus first|omega|rfl|assumption|exact⟨_,rfl,rfl⟩|(simp;omega)|(simp;done)))
  ·rw[if_neg h] at hd
   rw[hd];rfl
  rw[if_pos h] at hd
  refine aZ (ι:=Nat×Nat) Tryz.checked.mixed rfl [3,10,11,12] (fun y=>[.c (.d (.i .i64 y.2)),.c (.d (.sl (x.ak.map ah.enc))),.c (.d (.i .i64 x.ak.length)),.c (.d (.i .i64 y.1))]) (fun y=>[.box [.d (.s x.aU),.d (.sl (x.ak.map ah.enc))]]::S)
   (fun y=>y.1≤x.ak.length∧jY x=max y.2 (mM (x.ak.drop y.1))+1) (fun y=>x.ak.length-y.1) (0,0) rfl rfl ⟨Nat.zero_le _,by simp[hd]⟩ ?_
  rintro⟨i,c⟩ ⟨p1,p2⟩
  simp only at p1 p2
  simp -implicitDefEqProofs (disch:=omega) only[go_sem]
  with_reducible refine aA (fun hb=> ?_) (fun hb=> ?_)<;>have h:=hb<;>(try simp only[wf_preprocess] at h)<;>simp -implicitDefEqProofs (disch:=omega) only[go_sem,hb]<;>(repeat(with_reducible refine And.intro ?_ ?_;focus first|omega|rfl|assumption|exact⟨_,rfl,rfl⟩|(simp;omega)|(simp;done)))
  ·have hi:i<x.ak.length:=by omega
   have hsz':=xR hi hsz
   rw[Da hi] at p2
   (repeat(with_reducible refine And.intro ?_ ?_;focus first|omega|rfl|assumption|exact⟨_,rfl,rfl⟩|(simp;omega)|(simp;done)))
   refine au (ih x.ak[i] (by have:=ah.Ho hi;omega) (by omega)) ?_
   simp -implicitDefEqProofs (disch:=omega) only[go_sem]<;>(repeat(with_reducible refine And.intro ?_ ?_;focus first|omega|rfl|assumption|exact⟨_,rfl,rfl⟩|(simp;omega)|(simp;done)))
   rw[show max (c:Int) ((jY x.ak[i]:Int))=((max c (jY x.ak[i]):Nat):Int) by omega]
   exact dO 1 (by decide) (i+1,max c (jY x.ak[i])) (by simp only;omega) rfl rfl rfl rfl ⟨by simp only;omega,by simp only;omega⟩
  ·have hi:i=x.ak.length:=by omega
   rw[hi,List.drop_length,mM] at p2
   (repeat(with_reducible refine And.intro ?_ ?_;focus first|omega|rfl|assumption|exact⟨_,rfl,rfl⟩|(simp;omega)|(simp;done)))
   exact int_eq (by omega)
theorem KL(x:ah)(hsz:x.sz≤67108864):aI Tryz.prog 178 [x.v] (.c (.d (.i .i64 (jY x)))):=Ao _ x (Nat.lt_succ_self _) hsz
theorem Cb:∀n:Nat,∀x:ah,SizeOf.sizeOf x<n→x.sz≤67108864→aI Tryz.prog 179 [x.v] (.c (.d (.i .i64 (jw x))))
 |0=>fun x h=>by omega
 |n+1=>by
  have ih:=Cb n
  intro x hn hsz S
  have hts:=Am hsz
  have hd2:=Fy hsz
  refine aD (rs:=[.tmp 2]) Tryz.checked.mixed Tryz.func179 Tryz.ntmps179 rfl rfl rfl rfl rfl ?_
  simp -implicitDefEqProofs (disch:=omega) only[go_sem]
  refine aZ (ι:=Nat×Nat) Tryz.checked.mixed rfl [3,7,8,9] (fun y=>[.c (.d (.i .i64 y.2)),.c (.d (.sl (x.ak.map ah.enc))),.c (.d (.i .i64 x.ak.length)),.c (.d (.i .i64 y.1))]) (fun y=>[.box [.d (.s x.aU),.d (.sl (x.ak.map ah.enc))]]::S)
   (fun y=>y.1≤x.ak.length∧jw x=y.2+lG (x.ak.drop y.1)) (fun y=>x.ak.length-y.1) (0,1) rfl rfl ⟨Nat.zero_le _,by simp[MP];omega⟩ ?_
  rintro⟨i,c⟩ ⟨p1,p2⟩
  simp only at p1 p2
  simp -implicitDefEqProofs (disch:=omega) only[go_sem]
  with_reducible refine aA (fun hb=> ?_) (fun hb=> ?_)<;>have h:=hb<;>(try simp only[wf_preprocess] at h)<;>simp -implicitDefEqProofs (disch:=omega) only[go_sem,hb]<;>(repeat(with_reducible refine And.intro ?_ ?_;focus first|omega|rfl|assumption|exact⟨_,rfl,rfl⟩|(simp;omega)|(simp;done)))
  ·have hi:i<x.ak.length:=by omega
   have hsz':=xR hi hsz
   rw[EP hi] at p2
   (repeat(with_reducible refine And.intro ?_ ?_;focus first|omega|rfl|assumption|exact⟨_,rfl,rfl⟩|(simp;omega)|(simp;done)))
   refine au (ih x.ak[i] (by have:=ah.Ho hi;omega) (by omega)) ?_
   simp -implicitDefEqProofs (disch:=omega) only[go_sem]<;>(repeat(with_reducible refine And.intro ?_ ?_;focus first|omega|rfl|assumption|exact⟨_,rfl,rfl⟩|(simp;omega)|(simp;done)))
   rw[show(c:Int)+(jw x.ak[i]:Int)=((c+jw x.ak[i]:Nat):Int) by omega]
   exact dO 1 (by decide) (i+1,c+jw x.ak[i]) (by simp only;omega) rfl rfl rfl rfl ⟨by simp only;omega,by simp only;omega⟩
  ·have hi:i=x.ak.length:=by omega
   rw[hi,List.drop_length,lG] at p2
   exact int_eq (by omega)
theorem Nr(x:ah)(hsz:x.sz≤67108864):aI Tryz.prog 179 [x.v] (.c (.d (.i .i64 (jw x)))):=Cb _ x (Nat.lt_succ_self _) hsz
theorem KM(x:ah)(hsz:x.sz≤67108864):aI Tryz.prog 73 [x.v] (.c (.d (.b (iL x)))):=fun S=>by
 refine aD (rs:=[.tmp 2]) Tryz.checked.mixed Tryz.func73 Tryz.ntmps73 rfl rfl rfl rfl rfl ?_
 simp -implicitDefEqProofs (disch:=omega) only[go_sem]
 refine au (Pt x hsz) ?_
 simp -implicitDefEqProofs (disch:=omega) only[go_sem]<;>(repeat(with_reducible refine And.intro ?_ ?_;focus first|omega|rfl|assumption|exact⟨_,rfl,rfl⟩|(simp;omega)|(simp;done)))
 with_reducible refine aA (fun hb=> ?_) (fun hb=> ?_)<;>have h:=hb<;>(try simp only[wf_preprocess] at h)<;>simp -implicitDefEqProofs (disch:=omega) only[go_sem,hb]<;>(repeat(with_reducible refine And.intro ?_ ?_;focus first|omega|rfl|assumption|exact⟨_,rfl,rfl⟩|(simp;omega)|(simp;done)))
 ·have hf:=h
  refine au (KL x hsz) ?_
  simp -implicitDefEqProofs (disch:=omega) only[go_sem]<;>(repeat(with_reducible refine And.intro ?_ ?_;focus first|omega|rfl|assumption|exact⟨_,rfl,rfl⟩|(simp;omega)|(simp;done)))
  with_reducible refine aA (fun hb=> ?_) (fun hb=> ?_)<;>have h:=hb<;>(try simp only[wf_preprocess] at h)<;>simp -implicitDefEqProofs (disch:=omega) only[go_sem,hb]<;>(repeat(with_reducible refine And.intro ?_ ?_;focus first|omega|rfl|assumption|exact⟨_,rfl,rfl⟩|(simp;omega)|(simp;done)))
  ·refine au (Nr x hsz) ?_
   simp -implicitDefEqProofs (disch:=omega) only[go_sem]<;>(repeat(with_reducible refine And.intro ?_ ?_;focus first|omega|rfl|assumption|exact⟨_,rfl,rfl⟩|(simp;omega)|(simp;done)))
   refine aK ?_
   unfold iL
   rw[hf,Bool.true_and]
   exact decide_eq_decide.2 (by omega)
  ·refine aK ?_
   unfold iL
   rw[hf,Bool.true_and]
   exact(decide_eq_false (by omega)).symm
 ·refine aK ?_
  unfold iL
  rw[h,Bool.false_and]
theorem Hr:∀n:Nat,∀x:ah,SizeOf.sizeOf x<n→∀l:Int,0≤l→l≤1073741824→x.sz≤67108864→aI Tryz.prog 194 [x.v,.c (.d (.i .i64 l))] (.c (.d (.i .i64 (iJ l (jw x)))))
 |0=>fun x h=>by omega
 |n+1=>by
  have ih:=Hr n
  intro x hn l h0 h1 hsz S
  have hts:=Am hsz
  have hcn:=MP x
  refine aD (rs:=[.tmp 4]) Tryz.checked.mixed Tryz.func194 Tryz.ntmps194 rfl rfl rfl rfl rfl ?_
  simp -implicitDefEqProofs (disch:=omega) only[go_sem]
  refine aZ (ι:=Nat×Int) Tryz.checked.mixed rfl [1,2,5] (fun y=>[.c (.d (.i .i64 y.2)),.c (.ptr (0,0) 0),.c (.d (.i .i64 y.1))]) (fun y=>[.box [.d (.s x.aU),.d (.sl (x.ak.map ah.enc))]]::S)
   (fun y=>y.1≤x.ak.length∧ -1≤y.2∧y.2≤1073741824∧(0≤y.2→iJ l (jw x)=iJ y.2 (lG (x.ak.drop y.1)))∧(y.2<0→iJ l (jw x)= -1)) (fun y=>x.ak.length-y.1) (0,l-1) rfl rfl ⟨Nat.zero_le _,by simp only;omega,by simp only;omega,fun h=> ?_,fun h=> ?_⟩ ?_
  ·simp only[List.drop_zero] at h ⊢
   unfold iJ
   rw[hcn]
   split<;>split<;>omega
  ·simp only at h
   exact tJ (by omega)
  rintro⟨i,c⟩ ⟨p1,p2,p3,p4,p5⟩
  simp only at p1 p2 p3 p4 p5
  simp -implicitDefEqProofs (disch:=omega) only[go_sem]
  with_reducible refine aA (fun hb=> ?_) (fun hb=> ?_)<;>have h:=hb<;>(try simp only[wf_preprocess] at h)<;>simp -implicitDefEqProofs (disch:=omega) only[go_sem,hb]<;>(repeat(with_reducible refine And.intro ?_ ?_;focus first|omega|rfl|assumption|exact⟨_,rfl,rfl⟩|(simp;omega)|(simp;done)))
  ·have hi:i<x.ak.length:=by omega
   with_reducible refine aA (fun hb=> ?_) (fun hb=> ?_)<;>have h:=hb<;>(try simp only[wf_preprocess] at h)<;>simp -implicitDefEqProofs (disch:=omega) only[go_sem,hb]<;>(repeat(with_reducible refine And.intro ?_ ?_;focus first|omega|rfl|assumption|exact⟨_,rfl,rfl⟩|(simp;omega)|(simp;done)))
   ·have hsz':=xR hi hsz
    have p6:=p4 h
    rw[EP hi] at p6
    (repeat(with_reducible refine And.intro ?_ ?_;focus first|omega|rfl|assumption|exact⟨_,rfl,rfl⟩|(simp;omega)|(simp;done)))
    refine au (ih x.ak[i] (by have:=ah.Ho hi;omega) c (by omega) (by omega) (by omega)) ?_
    simp -implicitDefEqProofs (disch:=omega) only[go_sem]<;>(repeat(with_reducible refine And.intro ?_ ?_;focus first|omega|rfl|assumption|exact⟨_,rfl,rfl⟩|(simp;omega)|(simp;done)))
    refine bL (i+1,iJ c _) (by simp only;omega) rfl rfl ⟨by simp only;omega,?_,?_,fun h=> ?_,fun h=> ?_⟩
    ·simp only;unfold iJ;split<;>omega
    ·simp only;unfold iJ;split<;>omega
    ·simp only at h ⊢
     rw[p6]
     have:=vw (l:=c) (a:=jw x.ak[i]) (by omega)
     rw[this.1]
     unfold iJ
     split<;>split<;>omega
    ·simp only at h ⊢
     rw[p6]
     have:=vB h
     exact tJ (by omega)
   ·have hc:c= -1:=by omega
    rw[p5 (by omega),hc]
  ·have hi:i=x.ak.length:=by omega
   by_cases hc:0≤c
   ·rw[p4 hc,hi,List.drop_length,lG,Bg (by omega)]
    exact int_eq (by simp)
   ·rw[p5 (by omega)]
    exact int_eq (by omega)
theorem Vs(x:ah)(l:Int)(h0:0≤l)(h1:l≤1073741824)(hsz:x.sz≤67108864):aI Tryz.prog 194 [x.v,.c (.d (.i .i64 l))] (.c (.d (.i .i64 (iJ l (jw x))))):=Hr _ x (Nat.lt_succ_self _) l h0 h1 hsz
theorem Ht:∀n:Nat,∀x:ah,SizeOf.sizeOf x<n→x.sz≤67108864→aI Tryz.prog 195 [x.v] (.c (.d (.b (iB x))))
 |0=>fun x h=>by omega
 |n+1=>by
  have ih:=Ht n
  intro x hn hsz S
  have hts:=Am hsz
  have hf:=yG x
  refine aD (rs:=[.tmp 2]) Tryz.checked.mixed Tryz.func195 Tryz.ntmps195 rfl rfl rfl rfl rfl ?_
  simp -implicitDefEqProofs (disch:=omega) only[go_sem]
  with_reducible refine aA (fun hb=> ?_) (fun hb=> ?_)<;>have h:=hb<;>(try simp only[wf_preprocess] at h)<;>simp -implicitDefEqProofs (disch:=omega) only[go_sem,hb]<;>(repeat(with_reducible refine And.intro ?_ ?_;focus first|omega|rfl|assumption|exact⟨_,rfl,rfl⟩|(simp;omega)|(simp;done)))
  ·rw[if_neg h] at hf
   refine au (SE x.aU (by omega)) ?_
   simp -implicitDefEqProofs (disch:=omega) only[go_sem]<;>(repeat(with_reducible refine And.intro ?_ ?_;focus first|omega|rfl|assumption|exact⟨_,rfl,rfl⟩|(simp;omega)|(simp;done)))
   with_reducible refine aA (fun hb=> ?_) (fun hb=> ?_)<;>have h:=hb<;>(try simp only[wf_preprocess] at h)<;>simp -implicitDefEqProofs (disch:=omega) only[go_sem,hb]<;>(repeat(with_reducible refine And.intro ?_ ?_;focus first|omega|rfl|assumption|exact⟨_,rfl,rfl⟩|(simp;omega)|(simp;done)))
   ·rw[hf,h,Bool.true_and]
    exact aK (decide_eq_decide.2 (by omega))
   ·rw[hf,h,Bool.false_and]
  rw[if_pos h] at hf
  refine aZ (ι:=Nat) Tryz.checked.mixed rfl [1,3] (fun y=>[.c (.ptr (0,0) 0),.c (.d (.i .i64 y))]) (fun y=>[.box [.d (.s x.aU),.d (.sl (x.ak.map ah.enc))]]::S)
   (fun y=>y≤x.ak.length∧iB x=iC (x.ak.drop y)) (fun y=>x.ak.length-y) 0 rfl rfl ⟨Nat.zero_le _,hf⟩ ?_
  rintro i ⟨p1,p2⟩
  simp -implicitDefEqProofs (disch:=omega) only[go_sem]
  with_reducible refine aA (fun hb=> ?_) (fun hb=> ?_)<;>have h:=hb<;>(try simp only[wf_preprocess] at h)<;>simp -implicitDefEqProofs (disch:=omega) only[go_sem,hb]<;>(repeat(with_reducible refine And.intro ?_ ?_;focus first|omega|rfl|assumption|exact⟨_,rfl,rfl⟩|(simp;omega)|(simp;done)))
  ·have hi:i<x.ak.length:=by omega
   have hsz':=xR hi hsz
   rw[Pq hi] at p2
   (repeat(with_reducible refine And.intro ?_ ?_;focus first|omega|rfl|assumption|exact⟨_,rfl,rfl⟩|(simp;omega)|(simp;done)))
   refine au (ih x.ak[i] (by have:=ah.Ho hi;omega) (by omega)) ?_
   simp -implicitDefEqProofs (disch:=omega) only[go_sem]<;>(repeat(with_reducible refine And.intro ?_ ?_;focus first|omega|rfl|assumption|exact⟨_,rfl,rfl⟩|(simp;omega)|(simp;done)))
   with_reducible refine aA (fun hb=> ?_) (fun hb=> ?_)<;>have h:=hb<;>(try simp only[wf_preprocess] at h)<;>simp -implicitDefEqProofs (disch:=omega) only[go_sem,hb]<;>(repeat(with_reducible refine And.intro ?_ ?_;focus first|omega|rfl|assumption|exact⟨_,rfl,rfl⟩|(simp;omega)|(simp;done)))
   ·rw[p2,h,Bool.false_and]
   ·exact bL (i+1) (by omega) rfl rfl ⟨by omega,by rw[p2,h,Bool.true_and]⟩
  ·have hi:i=x.ak.length:=by omega
   rw[hi,List.drop_length,iC] at p2
   rw[p2]
theorem Vt(x:ah)(hsz:x.sz≤67108864):aI Tryz.prog 195 [x.v] (.c (.d (.b (iB x)))):=Ht _ x (Nat.lt_succ_self _) hsz
theorem Ap:∀n:Nat,∀x:ah,SizeOf.sizeOf x<n→x.sz≤67108864→aI Tryz.prog 196 [x.v] (.c (.d (.i .i64 (jY x))))
 |0=>fun x h=>by omega
 |n+1=>by
  have ih:=Ap n
  intro x hn hsz S
  have hts:=Am hsz
  have hd:=JK x
  have hd1:=zM x
  have hd2:=Fy hsz
  refine aD (rs:=[.tmp 2]) Tryz.checked.mixed Tryz.func196 Tryz.ntmps196 rfl rfl rfl rfl rfl ?_
  simp -implicitDefEqProofs (disch:=omega) only[go_sem]
  with_reducible refine aA (fun hb=> ?_) (fun hb=> ?_)<;>have h:=hb<;>(try simp only[wf_preprocess] at h)<;>simp -implicitDefEqProofs (disch:=omega) only[go_sem,hb]<;>(repeat(with_reducible refine And.intro ?_ ?_;focus first|omega|rfl|assumption|exact⟨_,rfl,rfl⟩|(simp;omega)|(simp;done)))
  ·rw[if_neg h] at hd
   rw[hd];rfl
  rw[if_pos h] at hd
  refine aZ (ι:=Nat×Nat) Tryz.checked.mixed rfl [1,3,4] (fun y=>[.c (.ptr (0,0) 0),.c (.d (.i .i64 y.2)),.c (.d (.i .i64 y.1))]) (fun y=>[.box [.d (.s x.aU),.d (.sl (x.ak.map ah.enc))]]::S)
   (fun y=>y.1≤x.ak.length∧jY x=max y.2 (mM (x.ak.drop y.1))+1) (fun y=>x.ak.length-y.1) (0,0) rfl rfl ⟨Nat.zero_le _,by simp[hd]⟩ ?_
  rintro⟨i,c⟩ ⟨p1,p2⟩
  simp only at p1 p2
  simp -implicitDefEqProofs (disch:=omega) only[go_sem]
  with_reducible refine aA (fun hb=> ?_) (fun hb=> ?_)<;>have h:=hb<;>(try simp only[wf_preprocess] at h)<;>simp -implicitDefEqProofs (disch:=omega) only[go_sem,hb]<;>(repeat(with_reducible refine And.intro ?_ ?_;focus first|omega|rfl|assumption|exact⟨_,rfl,rfl⟩|(simp;omega)|(simp;done)))
  ·have hi:i<x.ak.length:=by omega
   have hsz':=xR hi hsz
   rw[Da hi] at p2
   (repeat(with_reducible refine And.intro ?_ ?_;focus first|omega|rfl|assumption|exact⟨_,rfl,rfl⟩|(simp;omega)|(simp;done)))
   refine au (ih x.ak[i] (by have:=ah.Ho hi;omega) (by omega)) ?_
   simp -implicitDefEqProofs (disch:=omega) only[go_sem]<;>(repeat(with_reducible refine And.intro ?_ ?_;focus first|omega|rfl|assumption|exact⟨_,rfl,rfl⟩|(simp;omega)|(simp;done)))
   refine au (Nh _ _) ?_
   simp -implicitDefEqProofs (disch:=omega) only[go_sem]<;>(repeat(with_reducible refine And.intro ?_ ?_;focus first|omega|rfl|assumption|exact⟨_,rfl,rfl⟩|(simp;omega)|(simp;done)))
   rw[show max (c:Int) ((jY x.ak[i]:Int))=((max c (jY x.ak[i]):Nat):Int) by omega]
   exact bL (i+1,max c (jY x.ak[i])) (by simp only;omega) rfl rfl ⟨by simp only;omega,by simp only;omega⟩
  ·have hi:i=x.ak.length:=by omega
   rw[hi,List.drop_length,mM] at p2
   (repeat(with_reducible refine And.intro ?_ ?_;focus first|omega|rfl|assumption|exact⟨_,rfl,rfl⟩|(simp;omega)|(simp;done)))
   exact int_eq (by omega)
theorem KN(x:ah)(hsz:x.sz≤67108864):aI Tryz.prog 196 [x.v] (.c (.d (.i .i64 (jY x)))):=Ap _ x (Nat.lt_succ_self _) hsz
theorem wX(x:ah)(hsz:x.sz≤67108864):aI Tryz.prog 104 [x.v] (.c (.d (.b (iL x)))):=fun S=>by
 refine aD (rs:=[.tmp 2]) Tryz.checked.mixed Tryz.func104 Tryz.ntmps104 rfl rfl rfl rfl rfl ?_
 simp -implicitDefEqProofs (disch:=omega) only[go_sem]
 refine au (Vs x 900 (by omega) (by omega) hsz) ?_
 simp -implicitDefEqProofs (disch:=omega) only[go_sem]<;>(repeat(with_reducible refine And.intro ?_ ?_;focus first|omega|rfl|assumption|exact⟨_,rfl,rfl⟩|(simp;omega)|(simp;done)))
 with_reducible refine aA (fun hb=> ?_) (fun hb=> ?_)<;>have h:=hb<;>(try simp only[wf_preprocess] at h)<;>simp -implicitDefEqProofs (disch:=omega) only[go_sem,hb]<;>(repeat(with_reducible refine And.intro ?_ ?_;focus first|omega|rfl|assumption|exact⟨_,rfl,rfl⟩|(simp;omega)|(simp;done)))
 ·have h1:=(vw (l:=900) (a:=jw x) (by omega)).2
  refine au (Vt x hsz) ?_
  simp -implicitDefEqProofs (disch:=omega) only[go_sem]<;>(repeat(with_reducible refine And.intro ?_ ?_;focus first|omega|rfl|assumption|exact⟨_,rfl,rfl⟩|(simp;omega)|(simp;done)))
  with_reducible refine aA (fun hb=> ?_) (fun hb=> ?_)<;>have h:=hb<;>(try simp only[wf_preprocess] at h)<;>simp -implicitDefEqProofs (disch:=omega) only[go_sem,hb]<;>(repeat(with_reducible refine And.intro ?_ ?_;focus first|omega|rfl|assumption|exact⟨_,rfl,rfl⟩|(simp;omega)|(simp;done)))
  ·have hf:=h
   refine au (KN x hsz) ?_
   simp -implicitDefEqProofs (disch:=omega) only[go_sem]<;>(repeat(with_reducible refine And.intro ?_ ?_;focus first|omega|rfl|assumption|exact⟨_,rfl,rfl⟩|(simp;omega)|(simp;done)))
   refine aK ?_
   unfold iL
   rw[hf,Bool.true_and]
   exact decide_eq_decide.2 (by omega)
  ·refine aK ?_
   unfold iL
   rw[h,Bool.false_and]
 ·have h1:=vB (l:=900) (a:=jw x) (by omega)
  refine aK ?_
  unfold iL
  rw[decide_eq_false (by omega),Bool.and_false]
end Go.Proofs.YtlmhknhlmicmeaaGreatDoor
namespace Go.Ab
def lx(l:List ah)(n:Nat):List (List D):=eG (l.map ah.enc) n
def dS(x:ah):Nat:=oC x.enc
def iw(l:List ah):Nat:=jy (l.map ah.enc)
theorem nD(x:ah)(n:Nat):eB x.enc n=[.s x.aU,.ol n (lx x.ak (n+1))]:=by
 rw[ah.aG];simp only[eB,lH,nZ,Nat.add_zero,lx]
theorem wL(s:List UInt8)(n:Nat):eB (bq s).enc n=[.s s,.ol n []]:=by rw[nD];rfl
theorem aaq(x:ah):dS x=iw x.ak+1:=by
 unfold dS iw
 rw[ah.aG];simp only[oC,nZ];omega
theorem uh(s:List UInt8):dS (bq s)=1:=by rw[aaq];rfl
theorem sw(n:Nat):lx [] n=[]:=rfl
theorem oI(x:ah)(l:List ah)(n:Nat):lx (x::l) n=eB x.enc n::lx l (n+dS x):=rfl
theorem jL(a b:List ah)(n:Nat):lx (a++b) n=lx a n++lx b (n+iw a):=by unfold lx iw;rw[List.map_append,oD]
theorem Vu:iw []=0:=rfl
theorem SF(x:ah)(l:List ah):iw (x::l)=dS x+iw l:=rfl
theorem gT(l:List ah)(n:Nat):(lx l n).length=l.length:=by unfold lx;rw[jk,List.length_map]
theorem lW{l:List ah}{n:Nat}:∀r∈lx l n,r.length=2:=xK fun r hr=>by
 obtain⟨z,_,rfl⟩:=List.mem_map.1 hr
 exact z.bH
theorem Je{l:List ah}{i:Nat}(hi:i<l.length)(n:Nat):lx (l.take i) n++[eB l[i].enc (n+iw (l.take i))]=lx (l.take (i+1)) n:=by
 rw[List.take_succ_eq_append_getElem hi,jL];rfl
theorem Fz{l:List ah}{i:Nat}(hi:i<l.length)(n:Nat):lx (l.take i) n++[[.s l[i].aU,.ol (n+iw (l.take i)) (lx l[i].ak (n+iw (l.take i)+1))]]=lx (l.take (i+1)) n:=by
 rw[←Je hi,nD]
theorem Ns{base l:List ah}{i:Nat}(hi:i<l.length)(q:Nat):lx (base++l.take i) q++[[.s l[i].aU,.ol (q+iw (base++l.take i)) (lx l[i].ak (q+iw (base++l.take i)+1))]]=lx (base++l.take (i+1)) q:=by
 rw[List.take_succ_eq_append_getElem hi,←List.append_assoc,jL (base++l.take i),oI,sw,nD]
theorem gV{l:List ah}:∀r∈l.map ah.enc,r.length=2:=fun r hr=>by
 obtain⟨z,_,rfl⟩:=List.mem_map.1 hr
 exact z.bH
theorem zR{cs cs':List C}(hl:cs'.length=cs.length)(h:∀(j:Nat) (x y:C),cs[j]? =some x→cs'[j]? =some y→∀w σ S β v,fU w σ S β x v→fU w σ S β y v):Less (.agg cs) (.agg cs'):=by
 rintro w σ S β v ⟨a,ha,hc⟩
 refine⟨a,ha,hl.trans hc.1,fun j y hy=> ?_⟩
 have hj:j<cs.length:=by rw[←hl];exact(List.getElem?_eq_some_iff.1 hy).1
 obtain⟨v,h1,h2,h3⟩:=hc.2 j _ (List.getElem?_eq_getElem hj)
 exact⟨v,h1,h j _ y (List.getElem?_eq_getElem hj) hy w σ S β v h2,h3⟩
theorem abY{w:World}{σ:Nat→Nat}{S:Store}{β:Hs}{v:Value}(n:Nat)(h:fU w σ S β (.aM []) v):fU w σ S β (.d (.ol n [])) v:=by
 obtain⟨hd,ad,m,hval⟩:=h
 have hm:m=0:=by rw[hval] at hd;cases hd<;>rfl
 subst hm
 rw[hval]
 exact .qF _ _ _
theorem aar(s:List UInt8)(n:Nat):Less (.agg [.d (.s s),.aM []]) (.agg [.d (.s s),.d (.ol n [])]):=zR rfl fun j x y hx hy w σ S β v hv=>by
 match j,hx,hy with
 |0,hx,hy=>cases hx;cases hy;exact hv
 |1,hx,hy=>cases hx;cases hy;exact abY _ hv
 |j+2,hx,hy=>simp at hx
theorem aas(s:List UInt8)(n:Nat)(es:List (List D)):Less (.agg [.d (.s s),.iO n es]) (.agg [.d (.s s),.d (.ol n es)]):=zR rfl fun j x y hx hy w σ S β v hv=>by
 match j,hx,hy with
 |0,hx,hy=>cases hx;cases hy;exact hv
 |1,hx,hy=>cases hx;cases hy;exact hv.1
 |j+2,hx,hy=>simp at hx
end Go.Ab
namespace Go.Proofs.YtlmhknhlmicmeaaGreatDoor
open Go Go.Ab
theorem Pv(s:List UInt8):aI Tryz.prog 67 [.c (.d (.s s))] (.agg [.d (.s s),.aM []]):=fun S=>by
 refine aD (rs:=[.cell 2 32]) Tryz.checked.mixed Tryz.func67 Tryz.ntmps67 rfl rfl rfl rfl rfl ?_
 simp -implicitDefEqProofs (disch:=omega) only[go_sem]
theorem dJ(s:List UInt8)(n:Nat):aI Tryz.prog 67 [.c (.d (.s s))] (.agg [.d (.s s),.d (.ol n [])]):=aI.less (Pv s) (aar s n)
theorem uM(d:D):aI Tryz.prog 75 [.c (.d d)] (.agg [.d (.s []),.d d]):=fun S=>by
 refine aD (rs:=[.cell 2 32]) Tryz.checked.mixed Tryz.func75 Tryz.ntmps75 rfl rfl rfl rfl rfl ?_
 simp -implicitDefEqProofs (disch:=omega) only[go_sem]
theorem Pw(n:Nat)(es:List (List D)):aI Tryz.prog 75 [.c (.iO n es)] (.agg [.d (.s []),.iO n es]):=fun S=>by
 refine aD (rs:=[.cell 2 32]) Tryz.checked.mixed Tryz.func75 Tryz.ntmps75 rfl rfl rfl rfl rfl ?_
 simp -implicitDefEqProofs (disch:=omega) only[go_sem]
theorem rO(n:Nat)(es:List (List D)):aI Tryz.prog 75 [.c (.iO n es)] (.agg [.d (.s []),.d (.ol n es)]):=aI.less (Pw n es) (aas [] n es)
theorem j3(l j:Nat)(es:List (List D))(S:Store):bD Tryz.prog 75 [.c (.bI (l,j) es)] S (fun r S'=>r=.agg [.d (.s []),.bI (l,j) es]∧S'=S):=by
 refine aD (rs:=[.cell 2 32]) Tryz.checked.mixed Tryz.func75 Tryz.ntmps75 rfl rfl rfl rfl rfl ?_
 simp -implicitDefEqProofs (disch:=omega) only[go_sem]
theorem wY(xs:List (List UInt8))(hx:xs.length≤1073741824)(n q:Nat):aI Tryz.prog 173 [.c (.d (.sl (xs.map encS)))] (.c (.d (.ol n (lx (aN xs) q)))):=fun S=>by
 refine kD (n) (rs:=[.tmp 2]) Tryz.checked.mixed Tryz.func173 Tryz.ntmps173 rfl rfl rfl rfl rfl ?_
 simp -implicitDefEqProofs (disch:=omega) only[go_sem]
 (repeat(with_reducible refine And.intro ?_ ?_;focus first|omega|rfl|assumption|exact⟨_,rfl,rfl⟩|(simp;omega)|(simp;done)))
 refine mJ n 3 2 [] (.inl rfl) (by simp) ?_
 refine aZ (ι:=Nat) Tryz.checked.mixed rfl [3,7,8,9] (fun i=>[.c (.bI (0,1) (lx ((aN xs).take i) q)),.c (.d (.sl (xs.map encS))),.c (.d (.i .i64 xs.length)),.c (.d (.i .i64 i))]) (fun i=>[.seed n,.dZ n 2 (lx ((aN xs).take i) q)]::S)
  (fun i=>i≤xs.length) (fun i=>xs.length-i) 0 rfl rfl (Nat.zero_le _) ?_
 intro i hi
 simp -implicitDefEqProofs (disch:=omega) only[go_sem]
 with_reducible refine aA (fun hb=> ?_) (fun hb=> ?_)<;>have h:=hb<;>(try simp only[wf_preprocess] at h)<;>simp -implicitDefEqProofs (disch:=omega) only[go_sem,hb]<;>(repeat(with_reducible refine And.intro ?_ ?_;focus first|omega|rfl|assumption|exact⟨_,rfl,rfl⟩|(simp;omega)|(simp;done)))
 ·have hi':i<xs.length:=by omega
  have hw:i<(aN xs).length:=by rw[jI];exact hi'
  have hg:(aN xs)[i]=bq xs[i]:=by simp[aN]
  have hl:(lx ((aN xs).take i) q).length≤i:=by rw[gT];exact List.length_take_le _ _
  (repeat(with_reducible refine And.intro ?_ ?_;focus first|omega|rfl|assumption|exact⟨_,rfl,rfl⟩|(simp;omega)|(simp;done)))
  refine au (dJ xs[i] (q+iw ((aN xs).take i))) ?_
  simp -implicitDefEqProofs (disch:=omega) only[go_sem]
  (repeat(with_reducible refine And.intro ?_ ?_;focus first|omega|rfl|assumption|exact⟨_,rfl,rfl⟩|(simp;omega)|(simp;done)))
  have hs:=Je hw q
  rw[hg,wL] at hs
  rw[hs]
  exact bL (i+1) (by omega) rfl rfl (by omega)
 ·have hi':i=(aN xs).length:=by rw[jI];omega
  rw[hi',List.take_length]
theorem gW(xs:List (List UInt8))(hx:xs.length≤1073741824)(n:Nat):aI Tryz.prog 68 [.c (.d (.sl (xs.map encS)))] (.agg [.d (.s []),.d (.ol n (lx (aN xs) (n+1)))]):=fun S=>by
 refine aD (rs:=[.cell 2 32]) Tryz.checked.mixed Tryz.func68 Tryz.ntmps68 rfl rfl rfl rfl rfl ?_
 simp -implicitDefEqProofs (disch:=omega) only[go_sem]
 refine au (wY xs hx n (n+1)) ?_
 simp -implicitDefEqProofs (disch:=omega) only[go_sem]
 refine au (uM _) ?_
 simp -implicitDefEqProofs (disch:=omega) only[go_sem]
theorem Hu:∀N:Nat,(∀x:aj,SizeOf.sizeOf x<N→∀n:Nat,formed x=true→x.sz≤4194304→aI Tryz.prog 175 [x.v] (.agg [.d (.s (dx x).aU),.d (.ol n (lx (dx x).ak (n+1)))]))∧
 (∀xs:List aj,SizeOf.sizeOf xs<N→∀n q:Nat,iE xs=true→xs.length≤4194304→(∀t∈xs,t.sz≤4194304)→aI Tryz.prog 174 [.c (.d (.sl (xs.map aj.enc)))] (.c (.d (.ol n (lx (xs.map dx) q)))))
 |0=>⟨fun x h=>by omega,fun x h=>by omega⟩
 |N+1=>by
  obtain⟨ih,ni⟩:=Hu N
  refine⟨fun x hn n hf hsz=> ?_,fun xs hn n q hf hlen hsz=> ?_⟩
  ·have iF:=aj.fF x
   have hts:=zm hsz
   have hx:=U6 x
   rw[tQ,Bool.and_eq_true] at hf
   have hfi:=gq hf.1
   have hall:∀t∈x.fArgs,t.sz≤4194304:=fun t ht=>by
    obtain⟨i,hi,e⟩:=List.getElem_of_mem ht
    rw[←e];exact(q8 hi hsz).1
   intro S
   refine Gx (n) 1 (rs:=[.cell 2 32]) Tryz.checked.mixed Tryz.func175 Tryz.ntmps175 rfl rfl rfl rfl rfl ?_
   simp -implicitDefEqProofs (disch:=omega) only[go_sem]
   with_reducible refine aA (fun hb=> ?_) (fun hb=> ?_)<;>have h:=hb<;>(try simp only[wf_preprocess] at h)<;>simp -implicitDefEqProofs (disch:=omega) only[go_sem,hb]<;>(repeat(with_reducible refine And.intro ?_ ?_;focus first|omega|rfl|assumption|exact⟨_,rfl,rfl⟩|(simp;omega)|(simp;done)))
   ·rw[if_pos h] at hx
    rw[hx]
    (repeat(with_reducible refine And.intro ?_ ?_;focus first|omega|rfl|assumption|exact⟨_,rfl,rfl⟩|(simp;omega)|(simp;done)))
    refine au (dJ _ n) ?_
    simp -implicitDefEqProofs (disch:=omega) only[go_sem]
    rfl
   have k1:=h
   rw[if_neg h] at hx
   with_reducible refine aA (fun hb=> ?_) (fun hb=> ?_)<;>have h:=hb<;>(try simp only[wf_preprocess] at h)<;>simp -implicitDefEqProofs (disch:=omega) only[go_sem,hb]<;>(repeat(with_reducible refine And.intro ?_ ?_;focus first|omega|rfl|assumption|exact⟨_,rfl,rfl⟩|(simp;omega)|(simp;done)))
   ·rw[if_pos h] at hx
    rw[hx]
    refine au (dJ _ (n+1)) ?_
    simp -implicitDefEqProofs (disch:=omega) only[go_sem]
    refine au (dJ _ (n+1+1)) ?_
    simp -implicitDefEqProofs (disch:=omega) only[go_sem]
    refine au (rO _ _) ?_
    simp -implicitDefEqProofs (disch:=omega) only[go_sem]
    rfl
   have k4:=h
   rw[if_neg h] at hx
   with_reducible refine aA (fun hb=> ?_) (fun hb=> ?_)<;>have h:=hb<;>(try simp only[wf_preprocess] at h)<;>simp -implicitDefEqProofs (disch:=omega) only[go_sem,hb]<;>(repeat(with_reducible refine And.intro ?_ ?_;focus first|omega|rfl|assumption|exact⟨_,rfl,rfl⟩|(simp;omega)|(simp;done)))
   ·have hlen:x.fArgs.length=1:=by omega
    obtain⟨a,ha⟩:=List.length_eq_one_iff.1 hlen
    have ha0:x.fArgs[0]'(by omega)=a:=by simp[ha]
    rw[if_neg (by omega),if_pos h,ha] at hx
    have hfa:formed a=true:=zL.1 hf.2 a (by rw[ha];simp)
    have hsa:a.sz≤4194304:=hall a (by rw[ha];simp)
    have hla:SizeOf.sizeOf a<N:=by
     have:=List.sizeOf_lt_of_mem (show a∈x.fArgs by rw[ha];simp)
     omega
    rw[hx]
    refine au (dJ _ (n+1)) ?_
    simp -implicitDefEqProofs (disch:=omega) only[go_sem]
    refine au (dJ _ (n+1+1)) ?_
    simp -implicitDefEqProofs (disch:=omega) only[go_sem,ha,List.getD_cons_zero]
    (repeat(with_reducible refine And.intro ?_ ?_;focus first|omega|rfl|assumption|exact⟨_,rfl,rfl⟩|(simp;omega)|(simp;done)))
    refine au (ih a hla (n+1+1+1) hfa hsa) ?_
    simp -implicitDefEqProofs (disch:=omega) only[go_sem]
    refine au (rO _ _) ?_
    simp -implicitDefEqProofs (disch:=omega) only[go_sem]
    simp only[dY,dI,List.cons_append,List.nil_append,List.map_cons,List.map_nil,oI,sw,wL,uh,nD,uH,uI,mh]
   have k3:=h
   with_reducible refine aA (fun hb=> ?_) (fun hb=> ?_)<;>have h:=hb<;>(try simp only[wf_preprocess] at h)<;>simp -implicitDefEqProofs (disch:=omega) only[go_sem,hb]<;>(repeat(with_reducible refine And.intro ?_ ?_;focus first|omega|rfl|assumption|exact⟨_,rfl,rfl⟩|(simp;omega)|(simp;done)))
   ·rw[if_pos ⟨by omega,by omega⟩] at hx
    rw[hx]
    refine au (dJ _ n) ?_
    simp -implicitDefEqProofs (disch:=omega) only[go_sem]
    rfl
   rw[if_neg (by omega),if_neg k3] at hx
   rw[hx]
   refine au (dJ _ (n+1)) ?_
   simp -implicitDefEqProofs (disch:=omega) only[go_sem]
   refine au (ni x.fArgs (by omega) 0 (n+1+1) hf.2 hts.1 hall) ?_
   simp -implicitDefEqProofs (disch:=omega) only[go_sem]
   have hl:(lx (x.fArgs.map dx) (n+1+1)).length=x.fArgs.length:=by rw[gT,List.length_map]
   have hr:=lW (l:=x.fArgs.map dx) (n:=n+1+1)
   (repeat(with_reducible refine And.intro ?_ ?_;focus first|omega|rfl|assumption|exact⟨_,rfl,rfl⟩|(simp;omega)|(simp;done)))
   refine au (uM _) ?_
   simp -implicitDefEqProofs (disch:=omega) only[go_sem]
   simp only[dY,dI,List.cons_append,List.nil_append,oI,sw,wL,uh]
  ·have xL:=fun(i:Nat) (hi:i<xs.length)=>Fz (l:=xs.map dx) (i:=i) (by rw[List.length_map];exact hi) q
   intro S
   refine kD (n) (rs:=[.tmp 2]) Tryz.checked.mixed Tryz.func174 Tryz.ntmps174 rfl rfl rfl rfl rfl ?_
   simp -implicitDefEqProofs (disch:=omega) only[go_sem]
   (repeat(with_reducible refine And.intro ?_ ?_;focus first|omega|rfl|assumption|exact⟨_,rfl,rfl⟩|(simp;omega)|(simp;done)))
   refine mJ n 3 2 [] (.inl rfl) (by simp) ?_
   refine aZ (ι:=Nat) Tryz.checked.mixed rfl [3,7,8,9] (fun i=>[.c (.bI (0,1) (lx ((xs.map dx).take i) q)),.c (.d (.sl (xs.map aj.enc))),.c (.d (.i .i64 xs.length)),.c (.d (.i .i64 i))]) (fun i=>[.seed n,.dZ n 2 (lx ((xs.map dx).take i) q)]::S)
    (fun i=>i≤xs.length) (fun i=>xs.length-i) 0 rfl rfl (Nat.zero_le _) ?_
   intro i hi
   simp -implicitDefEqProofs (disch:=omega) only[go_sem]
   with_reducible refine aA (fun hb=> ?_) (fun hb=> ?_)<;>have h:=hb<;>(try simp only[wf_preprocess] at h)<;>simp -implicitDefEqProofs (disch:=omega) only[go_sem,hb]<;>(repeat(with_reducible refine And.intro ?_ ?_;focus first|omega|rfl|assumption|exact⟨_,rfl,rfl⟩|(simp;omega)|(simp;done)))
   ·have hi':i<xs.length:=by omega
    have hs:=xL i hi'
    rw[List.getElem_map] at hs
    have hl:(lx ((xs.map dx).take i) q).length≤i:=by rw[gT];exact List.length_take_le _ _
    (repeat(with_reducible refine And.intro ?_ ?_;focus first|omega|rfl|assumption|exact⟨_,rfl,rfl⟩|(simp;omega)|(simp;done)))
    refine au (ih xs[i] (by have:=List.sizeOf_lt_of_mem (List.getElem_mem hi');omega) (q+iw ((xs.map dx).take i)) (zL.1 hf _ (List.getElem_mem hi')) (hsz _ (List.getElem_mem hi'))) ?_
    simp -implicitDefEqProofs (disch:=omega) only[go_sem]
    (repeat(with_reducible refine And.intro ?_ ?_;focus first|omega|rfl|assumption|exact⟨_,rfl,rfl⟩|(simp;omega)|(simp;done)))
    rw[hs]
    exact dO 2 (by decide) (i+1) (by omega) rfl rfl rfl rfl (by omega)
   ·have hi':i=(xs.map dx).length:=by rw[List.length_map];omega
    rw[hi',List.take_length]
theorem nS(x:aj)(n:Nat)(hf:formed x=true)(hsz:x.sz≤4194304):aI Tryz.prog 175 [x.v] (.agg [.d (.s (dx x).aU),.d (.ol n (lx (dx x).ak (n+1)))]):=(Hu _).1 x (Nat.lt_succ_self _) n hf hsz
end Go.Proofs.YtlmhknhlmicmeaaGreatDoor
namespace Go.Ab
theorem fJ(s:List UInt8):(bq s).enc=[.s s,.sl []]:=by rw[ah.aG];rfl
theorem rz(l:List ah):(bS l).enc=[.s [],.sl (l.map ah.enc)]:=by rw[ah.aG];rfl
theorem kE{base l:List ah}{i:Nat}(hi:i<l.length):(base++l.take i).map ah.enc++[[.s l[i].aU,.sl (l[i].ak.map ah.enc)]]=(base++l.take (i+1)).map ah.enc:=by
 rw[List.take_succ_eq_append_getElem hi,←List.append_assoc,List.map_append (l₂:=[l[i]]),List.map_cons,List.map_nil,ah.aG]
theorem Jf(s:List UInt8)(es:List (List D)):Less (.agg [.d (.s s),.aM es]) (.agg [.d (.s s),.d (.sl es)]):=zR rfl fun j x y hx hy w σ S β v hv=>by
 match j,hx,hy with
 |0,hx,hy=>cases hx;cases hy;exact hv
 |1,hx,hy=>cases hx;cases hy;exact hv.1
 |j+2,hx,hy=>simp at hx
theorem aat(x:ah)(n:Nat):Less (.agg [.d (.s x.aU),.d (.ol n (lx x.ak (n+1)))]) x.v:=by
 have h:=MV (r:=x.enc) (n:=n)
 rw[nD,ah.qz] at h
 exact h
end Go.Ab
namespace Go.Proofs.YtlmhknhlmicmeaaGreatDoor
open Go Go.Ab
theorem Nt(s:List UInt8):aI Tryz.prog 54 [.c (.d (.s s))] (.agg [.d (.s s),.aM []]):=fun S=>by
 refine aD (rs:=[.cell 2 32]) Tryz.checked.mixed Tryz.func54 Tryz.ntmps54 rfl rfl rfl rfl rfl ?_
 simp -implicitDefEqProofs (disch:=omega) only[go_sem]
theorem bO(s:List UInt8):aI Tryz.prog 54 [.c (.d (.s s))] (.agg [.d (.s s),.d (.sl [])]):=aI.less (Nt s) (Jf s [])
theorem mH(es:List (List D))(hes:∀e∈es,e.length=2)(hl:es.length≤1073741824):aI Tryz.prog 53 [.c (.d (.sl es))] (.agg [.d (.s []),.d (.sl es)]):=fun S=>by
 refine aD (rs:=[.cell 2 32]) Tryz.checked.mixed Tryz.func53 Tryz.ntmps53 rfl rfl rfl rfl rfl ?_
 simp -implicitDefEqProofs (disch:=omega) only[go_sem]
 exact⟨hes,⟨_,rfl,rfl⟩,(fun y hy=>by cases hy),hl⟩
theorem uN(es:List (List D))(hes:∀e∈es,e.length=2)(hl:es.length≤1073741824)(bg:List Ab.Obj)(Ω:Store):bD Tryz.prog 53 [.c (.d (.sl es))] (bg::Ω)
 (fun r S'=>r=.agg [.d (.s []),.bI (0,bg.length+1) es]∧S'=(bg++[.box [.d (.s []),.bI (0,bg.length+1) es],.tok 2 es])::Ω):=by
 refine JQ (rs:=[.cell 2 32]) Tryz.checked.mixed Tryz.func53 Tryz.ntmps53 rfl rfl rfl rfl rfl ?_
 simp -implicitDefEqProofs (disch:=omega) only[go_sem]
 exact⟨hes,⟨_,rfl,rfl⟩,(fun y hy=>by cases hy),hl⟩
theorem Dc(xs:List (List UInt8))(hx:xs.length≤1073741824):aI Tryz.prog 156 [.c (.d (.sl (xs.map encS)))] (.c (.d (.sl ((aN xs).map ah.enc)))):=fun S=>by
 refine aD (rs:=[.tmp 2]) Tryz.checked.mixed Tryz.func156 Tryz.ntmps156 rfl rfl rfl rfl rfl ?_
 simp -implicitDefEqProofs (disch:=omega) only[go_sem]
 (repeat(with_reducible refine And.intro ?_ ?_;focus first|omega|rfl|assumption|exact⟨_,rfl,rfl⟩|(simp;omega)|(simp;done)))
 refine yu 3 2 [] rfl (by simp) ?_
 refine aZ (ι:=Nat) Tryz.checked.mixed rfl [0,3,4] (fun i=>[.c (.d (.sl (xs.map encS))),.c (.bI (0,0) (((aN xs).take i).map ah.enc)),.c (.d (.i .i64 i))]) (fun i=>[.tok 2 (((aN xs).take i).map ah.enc)]::S)
  (fun i=>i≤xs.length) (fun i=>xs.length-i) 0 rfl rfl (Nat.zero_le _) ?_
 intro i hi
 have hl:(((aN xs).take i).map ah.enc).length≤i:=by rw[List.length_map];exact List.length_take_le _ _
 simp -implicitDefEqProofs (disch:=omega) only[go_sem]
 with_reducible refine aA (fun hb=> ?_) (fun hb=> ?_)<;>have h:=hb<;>(try simp only[wf_preprocess] at h)<;>simp -implicitDefEqProofs (disch:=omega) only[go_sem,hb]<;>(repeat(with_reducible refine And.intro ?_ ?_;focus first|omega|rfl|assumption|exact⟨_,rfl,rfl⟩|(simp;omega)|(simp;done)))
 ·have hi':i<xs.length:=by omega
  have hs:=kE (base:=[]) (l:=aN xs) (i:=i) (by rw[jI];exact hi')
  have hg:(aN xs)[i]'(by rw[jI];exact hi')=bq xs[i]:=by simp[aN]
  rw[hg] at hs
  simp only[List.nil_append,uH,uI,List.map_nil] at hs
  (repeat(with_reducible refine And.intro ?_ ?_;focus first|omega|rfl|assumption|exact⟨_,rfl,rfl⟩|(simp;omega)|(simp;done)))
  refine au (bO xs[i]) ?_
  simp -implicitDefEqProofs (disch:=omega) only[go_sem]
  (repeat(with_reducible refine And.intro ?_ ?_;focus first|omega|rfl|assumption|exact⟨_,rfl,rfl⟩|(simp;omega)|(simp;done)))
  rw[hs]
  exact bL (i+1) (by omega) rfl rfl (by omega)
 ·have hi':i=(aN xs).length:=by rw[jI];omega
  rw[hi',List.take_length]
theorem fM(xs:List (List UInt8))(hx:xs.length≤1073741824):aI Tryz.prog 55 [.c (.d (.sl (xs.map encS)))] (.agg [.d (.s []),.d (.sl ((aN xs).map ah.enc))]):=fun S=>by
 refine aD (rs:=[.cell 2 32]) Tryz.checked.mixed Tryz.func55 Tryz.ntmps55 rfl rfl rfl rfl rfl ?_
 simp -implicitDefEqProofs (disch:=omega) only[go_sem]
 refine au (Dc xs hx) ?_
 simp -implicitDefEqProofs (disch:=omega) only[go_sem]
theorem Hw:∀N:Nat,(∀x:aj,SizeOf.sizeOf x<N→x.sz≤4194304→aI Tryz.prog 159 [x.v] (.agg [.d (.s (dx x).aU),.d (.sl ((dx x).ak.map ah.enc))]))
 |0=>fun x h=>by omega
 |N+1=>by
  have ih:=Hw N
  intro x hn hsz
  have iF:=aj.fF x
  have hts:=zm hsz
  have hx:=U6 x
  have hall:∀t∈x.fArgs,t.sz≤4194304:=fun t ht=>by
   obtain⟨i,hi,e⟩:=List.getElem_of_mem ht
   rw[←e];exact(q8 hi hsz).1
  intro S
  refine aD (rs:=[.cell 2 32]) Tryz.checked.mixed Tryz.func159 Tryz.ntmps159 rfl rfl rfl rfl rfl ?_
  simp -implicitDefEqProofs (disch:=omega) only[go_sem]
  with_reducible refine aA (fun hb=> ?_) (fun hb=> ?_)<;>have h:=hb<;>(try simp only[wf_preprocess] at h)<;>simp -implicitDefEqProofs (disch:=omega) only[go_sem,hb]<;>(repeat(with_reducible refine And.intro ?_ ?_;focus first|omega|rfl|assumption|exact⟨_,rfl,rfl⟩|(simp;omega)|(simp;done)))
  ·rw[if_pos h] at hx
   rw[hx]
   (repeat(with_reducible refine And.intro ?_ ?_;focus first|omega|rfl|assumption|exact⟨_,rfl,rfl⟩|(simp;omega)|(simp;done)))
   refine au (bO _) ?_
   simp -implicitDefEqProofs (disch:=omega) only[go_sem]
   rfl
  rw[if_neg h] at hx
  with_reducible refine aA (fun hb=> ?_) (fun hb=> ?_)<;>have h:=hb<;>(try simp only[wf_preprocess] at h)<;>simp -implicitDefEqProofs (disch:=omega) only[go_sem,hb]<;>(repeat(with_reducible refine And.intro ?_ ?_;focus first|omega|rfl|assumption|exact⟨_,rfl,rfl⟩|(simp;omega)|(simp;done)))
  ·rw[if_pos h] at hx
   rw[hx]
   refine au (bO _) ?_
   simp -implicitDefEqProofs (disch:=omega) only[go_sem]
   refine au (bO _) ?_
   simp -implicitDefEqProofs (disch:=omega) only[go_sem]
   refine au (mH _ (by simp) (by simp)) ?_
   simp -implicitDefEqProofs (disch:=omega) only[go_sem]
   simp only[dY,dI,List.map_cons,List.map_nil,fJ,Bh]
  rw[if_neg h] at hx
  have agc:x.aH=2→x.fArgs.length=0→dx x=bq x.fName:=fun a b=>by rw[hx,if_pos ⟨a,b⟩]
  have Yt:¬(x.aH=2∧x.fArgs.length=0)→dx x=bS ((if x.aH=3 then [bq mh] else [])++[bq x.fName]++x.fArgs.map dx):=fun a=>by rw[hx,if_neg a]
  clear hx
  repeat' (first|(with_reducible refine aA (fun hb=> ?_) (fun hb=> ?_)<;>have h:=hb<;>(try simp only[wf_preprocess] at h)<;>simp -implicitDefEqProofs (disch:=omega) only[go_sem,hb]<;>(repeat(with_reducible refine And.intro ?_ ?_;focus first|omega|rfl|assumption|exact⟨_,rfl,rfl⟩|(simp;omega)|(simp;done)))))
  ·rw[agc (by omega) (by omega)]
   refine au (bO _) ?_
   simp -implicitDefEqProofs (disch:=omega) only[go_sem]
   rfl
  ·exfalso;omega
  ·have hx:=Yt (by omega)
   rw[if_neg h,List.nil_append] at hx
   refine au (bO _) ?_
   simp -implicitDefEqProofs (disch:=omega) only[go_sem]
   (repeat(with_reducible refine And.intro ?_ ?_;focus first|omega|rfl|assumption|exact⟨_,rfl,rfl⟩|(simp;omega)|(simp;done)))
   refine aZ (ι:=Nat) Tryz.checked.mixed rfl [1,2,3,4] (fun i=>[.c (.ptr (0,0) 0),.c (.ptr (0,1) 0),.c (.ptr (0,2) 0),.c (.d (.i .i64 i))])
    (fun i=>[.box [.d (.i .i64 x.aH),.d (.s x.fName),.d (.sl (x.fArgs.map aj.enc))],.box [.d (.s []),.aM []],.box [.d (.s []),.bI (0,3) (([bq x.fName]++(x.fArgs.map dx).take i).map ah.enc)],.tok 2 (([bq x.fName]++(x.fArgs.map dx).take i).map ah.enc)]::S)
    (fun i=>i≤x.fArgs.length) (fun i=>x.fArgs.length-i) 0 rfl ?_ (Nat.zero_le _) ?_
   ·simp only[List.take_zero,List.append_nil,List.map_cons,List.map_nil,List.cons_append,List.nil_append,fJ]<;>(try rfl)
   intro i hi
   have hl:(([bq x.fName]++(x.fArgs.map dx).take i).map ah.enc).length≤i+2:=by
    rw[List.length_map,List.length_append]
    have:=List.length_take_le i (x.fArgs.map dx)
    simp only[List.length_cons,List.length_nil];omega
   have hs:=fun hi=>kE (base:=[bq x.fName]) (l:=x.fArgs.map dx) (i:=i) hi
   have hrw:=gV (l:=[bq x.fName]++(x.fArgs.map dx).take i)
   generalize hR:([bq x.fName]++(x.fArgs.map dx).take i).map ah.enc=R at hl hs hrw
   simp -implicitDefEqProofs (disch:=omega) only[go_sem]
   with_reducible refine aA (fun hb=> ?_) (fun hb=> ?_)<;>have h:=hb<;>(try simp only[wf_preprocess] at h)<;>simp -implicitDefEqProofs (disch:=omega) only[go_sem,hb]<;>(repeat(with_reducible refine And.intro ?_ ?_;focus first|omega|rfl|assumption|exact⟨_,rfl,rfl⟩|(simp;omega)|(simp;done)))
   ·have hi':i<x.fArgs.length:=by omega
    have hs':=hs (by rw[List.length_map];exact hi')
    rw[List.getElem_map] at hs'
    (repeat(with_reducible refine And.intro ?_ ?_;focus first|omega|rfl|assumption|exact⟨_,rfl,rfl⟩|(simp;omega)|(simp;done)))
    refine au (ih x.fArgs[i] (by have:=List.sizeOf_lt_of_mem (List.getElem_mem hi');omega) (hall _ (List.getElem_mem hi'))) ?_
    simp -implicitDefEqProofs (disch:=omega) only[go_sem]
    (repeat(with_reducible refine And.intro ?_ ?_;focus first|omega|rfl|assumption|exact⟨_,rfl,rfl⟩|(simp;omega)|(simp;done)))
    rw[hs']
    exact bL (i+1) (by omega) rfl rfl (by omega)
   ·have hi':i=(x.fArgs.map dx).length:=by rw[List.length_map];omega
    rw[hx,←hR,hi',List.take_length]
    simp only[dY,dI,List.cons_append,List.nil_append]
  ·have hx:=Yt (by omega)
   rw[if_pos h] at hx
   refine au (bO _) ?_
   simp -implicitDefEqProofs (disch:=omega) only[go_sem]
   (repeat(with_reducible refine And.intro ?_ ?_;focus first|omega|rfl|assumption|exact⟨_,rfl,rfl⟩|(simp;omega)|(simp;done)))
   refine au (bO _) ?_
   simp -implicitDefEqProofs (disch:=omega) only[go_sem]
   (repeat(with_reducible refine And.intro ?_ ?_;focus first|omega|rfl|assumption|exact⟨_,rfl,rfl⟩|(simp;omega)|(simp;done)))
   refine aZ (ι:=Nat) Tryz.checked.mixed rfl [1,2,3,4] (fun i=>[.c (.ptr (0,0) 0),.c (.ptr (0,1) 0),.c (.ptr (0,2) 0),.c (.d (.i .i64 i))])
    (fun i=>[.box [.d (.i .i64 x.aH),.d (.s x.fName),.d (.sl (x.fArgs.map aj.enc))],.box [.d (.s []),.aM []],.box [.d (.s []),.bI (0,3) (([bq mh,bq x.fName]++(x.fArgs.map dx).take i).map ah.enc)],.tok 2 (([bq mh,bq x.fName]++(x.fArgs.map dx).take i).map ah.enc)]::S)
    (fun i=>i≤x.fArgs.length) (fun i=>x.fArgs.length-i) 0 rfl ?_ (Nat.zero_le _) ?_
   ·simp only[List.take_zero,List.append_nil,List.map_cons,List.map_nil,List.cons_append,List.nil_append,fJ]<;>(try rfl)
   intro i hi
   have hl:(([bq mh,bq x.fName]++(x.fArgs.map dx).take i).map ah.enc).length≤i+2:=by
    rw[List.length_map,List.length_append]
    have:=List.length_take_le i (x.fArgs.map dx)
    simp only[List.length_cons,List.length_nil];omega
   have hs:=fun hi=>kE (base:=[bq mh,bq x.fName]) (l:=x.fArgs.map dx) (i:=i) hi
   have hrw:=gV (l:=[bq mh,bq x.fName]++(x.fArgs.map dx).take i)
   generalize hR:([bq mh,bq x.fName]++(x.fArgs.map dx).take i).map ah.enc=R at hl hs hrw
   simp -implicitDefEqProofs (disch:=omega) only[go_sem]
   with_reducible refine aA (fun hb=> ?_) (fun hb=> ?_)<;>have h:=hb<;>(try simp only[wf_preprocess] at h)<;>simp -implicitDefEqProofs (disch:=omega) only[go_sem,hb]<;>(repeat(with_reducible refine And.intro ?_ ?_;focus first|omega|rfl|assumption|exact⟨_,rfl,rfl⟩|(simp;omega)|(simp;done)))
   ·have hi':i<x.fArgs.length:=by omega
    have hs':=hs (by rw[List.length_map];exact hi')
    rw[List.getElem_map] at hs'
    (repeat(with_reducible refine And.intro ?_ ?_;focus first|omega|rfl|assumption|exact⟨_,rfl,rfl⟩|(simp;omega)|(simp;done)))
    refine au (ih x.fArgs[i] (by have:=List.sizeOf_lt_of_mem (List.getElem_mem hi');omega) (hall _ (List.getElem_mem hi'))) ?_
    simp -implicitDefEqProofs (disch:=omega) only[go_sem]
    (repeat(with_reducible refine And.intro ?_ ?_;focus first|omega|rfl|assumption|exact⟨_,rfl,rfl⟩|(simp;omega)|(simp;done)))
    rw[hs']
    exact bL (i+1) (by omega) rfl rfl (by omega)
   ·have hi':i=(x.fArgs.map dx).length:=by rw[List.length_map];omega
    rw[hx,←hR,hi',List.take_length]
    simp only[dY,dI,List.cons_append,List.nil_append]
  ·have hx:=Yt (by omega)
   rw[if_neg h,List.nil_append] at hx
   refine au (bO _) ?_
   simp -implicitDefEqProofs (disch:=omega) only[go_sem]
   (repeat(with_reducible refine And.intro ?_ ?_;focus first|omega|rfl|assumption|exact⟨_,rfl,rfl⟩|(simp;omega)|(simp;done)))
   refine aZ (ι:=Nat) Tryz.checked.mixed rfl [1,2,3,4] (fun i=>[.c (.ptr (0,0) 0),.c (.ptr (0,1) 0),.c (.ptr (0,2) 0),.c (.d (.i .i64 i))])
    (fun i=>[.box [.d (.i .i64 x.aH),.d (.s x.fName),.d (.sl (x.fArgs.map aj.enc))],.box [.d (.s []),.aM []],.box [.d (.s []),.bI (0,3) (([bq x.fName]++(x.fArgs.map dx).take i).map ah.enc)],.tok 2 (([bq x.fName]++(x.fArgs.map dx).take i).map ah.enc)]::S)
    (fun i=>i≤x.fArgs.length) (fun i=>x.fArgs.length-i) 0 rfl ?_ (Nat.zero_le _) ?_
   ·simp only[List.take_zero,List.append_nil,List.map_cons,List.map_nil,List.cons_append,List.nil_append,fJ]<;>(try rfl)
   intro i hi
   have hl:(([bq x.fName]++(x.fArgs.map dx).take i).map ah.enc).length≤i+2:=by
    rw[List.length_map,List.length_append]
    have:=List.length_take_le i (x.fArgs.map dx)
    simp only[List.length_cons,List.length_nil];omega
   have hs:=fun hi=>kE (base:=[bq x.fName]) (l:=x.fArgs.map dx) (i:=i) hi
   have hrw:=gV (l:=[bq x.fName]++(x.fArgs.map dx).take i)
   generalize hR:([bq x.fName]++(x.fArgs.map dx).take i).map ah.enc=R at hl hs hrw
   simp -implicitDefEqProofs (disch:=omega) only[go_sem]
   with_reducible refine aA (fun hb=> ?_) (fun hb=> ?_)<;>have h:=hb<;>(try simp only[wf_preprocess] at h)<;>simp -implicitDefEqProofs (disch:=omega) only[go_sem,hb]<;>(repeat(with_reducible refine And.intro ?_ ?_;focus first|omega|rfl|assumption|exact⟨_,rfl,rfl⟩|(simp;omega)|(simp;done)))
   ·have hi':i<x.fArgs.length:=by omega
    have hs':=hs (by rw[List.length_map];exact hi')
    rw[List.getElem_map] at hs'
    (repeat(with_reducible refine And.intro ?_ ?_;focus first|omega|rfl|assumption|exact⟨_,rfl,rfl⟩|(simp;omega)|(simp;done)))
    refine au (ih x.fArgs[i] (by have:=List.sizeOf_lt_of_mem (List.getElem_mem hi');omega) (hall _ (List.getElem_mem hi'))) ?_
    simp -implicitDefEqProofs (disch:=omega) only[go_sem]
    (repeat(with_reducible refine And.intro ?_ ?_;focus first|omega|rfl|assumption|exact⟨_,rfl,rfl⟩|(simp;omega)|(simp;done)))
    rw[hs']
    exact bL (i+1) (by omega) rfl rfl (by omega)
   ·have hi':i=(x.fArgs.map dx).length:=by rw[List.length_map];omega
    rw[hx,←hR,hi',List.take_length]
    simp only[dY,dI,List.cons_append,List.nil_append]
theorem oO(x:aj)(hsz:x.sz≤4194304):aI Tryz.prog 159 [x.v] (.agg [.d (.s (dx x).aU),.d (.sl ((dx x).ak.map ah.enc))]):=Hw _ x (Nat.lt_succ_self _) hsz
theorem zq(b:Bool)(x:ah)(hsz:x.sz≤67108864):aI Tryz.prog 60 [.c (.d (.b b)),x.v] (zN b x).v:=by
 have zero:aI Tryz.prog 60 [.c (.d (.b b)),x.v] (.agg [.d (.s []),.aM []])→aI Tryz.prog 60 [.c (.d (.b b)),x.v] fu.v:=fun h=>aI.less h (Jf [] [])
 cases b with
 |false=>
  refine zero fun S=> ?_
  refine aD (rs:=[.cell 4 32]) Tryz.checked.mixed Tryz.func60 Tryz.ntmps60 rfl rfl rfl rfl rfl ?_
  simp -implicitDefEqProofs (disch:=omega) only[go_sem]
 |true=>
  show aI Tryz.prog 60 [.c (.d (.b true)),x.v] (CG x).v
  unfold CG
  cases hv:iL x with
  |false=>
   refine zero fun S=> ?_
   refine aD (rs:=[.cell 4 32]) Tryz.checked.mixed Tryz.func60 Tryz.ntmps60 rfl rfl rfl rfl rfl ?_
   simp -implicitDefEqProofs (disch:=omega) only[go_sem]
   refine au (wX x hsz) ?_
   simp -implicitDefEqProofs (disch:=omega) only[go_sem,hv]
  |true=>
   intro S
   refine aD (rs:=[.cell 4 32]) Tryz.checked.mixed Tryz.func60 Tryz.ntmps60 rfl rfl rfl rfl rfl ?_
   simp -implicitDefEqProofs (disch:=omega) only[go_sem]
   refine au (wX x hsz) ?_
   simp -implicitDefEqProofs (disch:=omega) only[go_sem,hv]
end Go.Proofs.YtlmhknhlmicmeaaGreatDoor
namespace Go.Ab
theorem cK.bounds{x:cK}(h:x.sz≤4194304):x.fName.length≤4194304∧x.aC.length≤4194304∧x.jv.length≤4194304∧∀s∈x.aC,s.length≤4194304:=by
 simp only[cK.sz,cK.aG,bQ,bP,D.sz,List.length_map] at h
 refine⟨by omega,by omega,by omega,fun s hs=> ?_⟩
 have:=Al hs
 omega
theorem bM.bounds{x:bM}(h:x.sz≤4194304):x.fName.length≤4194304∧x.oz.length≤4194304∧∀t∈x.oz,t.sz≤4194304:=by
 simp only[bM.sz,bM.aG,bQ,bP,D.sz,List.length_map] at h
 refine⟨by omega,by omega,fun t ht=> ?_⟩
 have hx:t.sz≤bG (x.oz.map aj.enc):=eP (List.mem_map_of_mem ht)
 omega
end Go.Ab
namespace Go.Proofs.YtlmhknhlmicmeaaGreatDoor
open Go Go.Ab
end Go.Proofs.YtlmhknhlmicmeaaGreatDoor
namespace Go.Ab
end Go.Ab
namespace Go.Proofs.YtlmhknhlmicmeaaGreatDoor
open Go Go.Ab
end Go.Proofs.YtlmhknhlmicmeaaGreatDoor
namespace Go.Ab
def cO(l:List ah)(i:Nat):List UInt8:=(l.getD i fu).aU
theorem lX{l:List ah}{i:Nat}(h:i<l.length):cO l i=l[i].aU:=by simp[cO,List.getD,h]
theorem Aq{l:List ah}{i:Nat}(h:l.length≤i):cO l i=[]:=by simp[cO,List.getD,h];rfl
def iN(l:List ah):List (List UInt8):=if l.all (fun x=>decide (x.aU≠[]))=true then l.map ah.aU else []
theorem yM:∀{vs:List (List UInt8)},(∀v∈vs,v≠[])→iN (aN vs)=vs:=fun {vs} h=>by
 unfold iN aN
 rw[if_pos (List.all_eq_true.2 fun x hx=> ?_),List.map_map]
 ·conv=>rhs;rw[←List.map_id vs]
  rfl
 ·obtain⟨v,hv,rfl⟩:=List.mem_map.1 hx
  exact decide_eq_true (h v hv)
theorem Nu:∀l:List ah,((l.map ah.aU).map List.length).sum≤dN l
 |[]=>by simp[dN]
 |x::l=>by
  have:=Nu l
  rw[List.map_cons,List.map_cons,List.sum_cons,dN,jP];omega
theorem Df(l:List ah):(iN l).length≤l.length∧((iN l).map List.length).sum≤dN l:=by
 unfold iN
 split
 ·refine⟨by simp,?_⟩
  exact Nu l
 ·simp
mutual
def dU(b:Bool):ah→aj
 | .mk a l=>if a=[] then
    if l.length<2 then .mk 0 [] []
    else if cO l 0=Bh∧(b=true∨l.length=2∧cO l 1≠[]) then .mk 4 (cO l 1) []
    else if cO l 0=mh∧(b=true∨l.length=3∧cO l 1≠[]) then .mk 3 (cO l 1) ((mE b l).drop 2)
    else .mk 2 (cO l 0) ((mE b l).drop 1)
   else if a.head? =some 39 then .mk 1 a.tail [] else .mk 2 a []
def mE(b:Bool):List ah→List aj
 |[]=>[]
 |x::xs=>dU b x::mE b xs
end
theorem Dg(b:Bool):∀l,mE b l=l.map (dU b)
 |[]=>rfl
 |t::ts=>by rw[mE,List.map_cons,Dg b ts]
theorem Qr(b:Bool)(x:ah):dU b x=if x.aU=[] then
 if x.ak.length<2 then .mk 0 [] []
 else if cO x.ak 0=Bh∧(b=true∨x.ak.length=2∧cO x.ak 1≠[]) then .mk 4 (cO x.ak 1) []
 else if cO x.ak 0=mh∧(b=true∨x.ak.length=3∧cO x.ak 1≠[]) then .mk 3 (cO x.ak 1) ((x.ak.map (dU b)).drop 2)
 else .mk 2 (cO x.ak 0) ((x.ak.map (dU b)).drop 1)
 else if x.aU.head? =some 39 then .mk 1 x.aU.tail [] else .mk 2 x.aU []:=by
 cases x;rw[dU,Dg];rfl
theorem Hy:∀a b,qQ (a++b)=qQ a+qQ b
 |[],b=>by simp[qQ]
 |x::a,b=>by rw[List.cons_append,qQ,qQ,Hy a b];omega
theorem Nv(l:List aj)(i:Nat):qQ (l.drop i)≤qQ l:=by
 have:=Hy (l.take i) (l.drop i)
 rw[List.take_append_drop] at this
 omega
theorem Vv(l:List ah)(i:Nat):(cO l i).length≤dN l:=by
 by_cases h:i<l.length
 ·rw[lX h]
  have h1:=kg (List.getElem_mem h)
  rw[jP] at h1;omega
 ·rw[Aq (by omega)];simp
mutual
theorem Ar(b:Bool):∀x:ah,(dU b x).sz≤x.sz
 | .mk a l=>by
   have h1:=FB b l
   have h2:=Nv (mE b l) 2
   have h3:=Nv (mE b l) 1
   have h4:=Vv l 0
   have h5:=Vv l 1
   have h6:(mE b l).length=l.length:=by rw[Dg,List.length_map]
   rw[jP,l6];simp only[ah.aU,ah.ak]
   rw[dU]
   split
   ·split
    ·rw[qR];simp[aj.fName,aj.fArgs,qQ]
    ·split
     ·rw[qR];simp[aj.fName,aj.fArgs,qQ];omega
     ·have g0:=Dh b l 0
      have g1:=Dh b l 1
      simp only[Nat.zero_add,Nat.reduceAdd] at g0 g1
      split
      ·rw[qR];simp only[aj.fName,aj.fArgs,List.length_drop,h6];omega
      ·rw[qR];simp only[aj.fName,aj.fArgs,List.length_drop,h6];omega
   ·split
    ·rw[qR];simp[aj.fName,aj.fArgs,qQ];omega
    ·rw[qR];simp[aj.fName,aj.fArgs,qQ]
theorem FB(b:Bool):∀l:List ah,qQ (mE b l)≤dN l
 |[]=>by simp[mE,qQ]
 |x::xs=>by
  have h1:=Ar b x
  have h2:=FB b xs
  rw[mE,qQ,dN];omega
theorem Dh(b:Bool):∀(l:List ah) (i:Nat),qQ ((mE b l).drop (i+1))+(cO l i).length≤dN l
 |[],i=>by simp[mE,qQ,Aq]
 |x::xs,0=>by
  have h2:=FB b xs
  rw[mE,List.drop_succ_cons,List.drop_zero,dN,show cO (x::xs) 0=x.aU from rfl,jP];omega
 |x::xs,i+1=>by
  have h2:=Dh b xs i
  rw[mE,List.drop_succ_cons,dN,show cO (x::xs) (i+1)=cO xs i from rfl];omega
end
theorem Au{s:List UInt8}(h:validName s=true):s≠[]:=fun e=>by rw[e] at h;have:=gq h;simp at this
theorem Vw{s:List UInt8}(h:validName s=true):s.head? ≠some 39:=fun e=>by
 have h1:=gq h
 have h2:=h1.2.2 0 (by omega)
 cases s with
 |nil=>cases e
 |cons c s=>
  simp only[List.head?_cons,Option.some.injEq] at e
  subst e
  simp[lowerB,nM] at h2
theorem Yu{s:List UInt8}(h:validName s=true):s≠Bh∧s≠mh:=by
 have h1:=(gq h).2.1
 refine⟨fun e=>h1 (by rw[e];simp[reserved,Bh]),fun e=>h1 (by rw[e];simp[reserved,mh])⟩
mutual
theorem Av(b:Bool):∀t:aj,formed t=true→dU b (dx t)=t
 | .mk k n zs=>fun hf=>by
   rw[formed,Bool.and_eq_true] at hf
   have hfi:=gq hf.1
   have hzs:=Nw b zs hf.2
   rw[dx]
   by_cases h1:k=1
   ·have hz:zs=[]:=by
     have:zs.length=0:=by omega
     exact List.eq_nil_of_length_eq_zero this
    rw[if_pos h1,bq,dU,if_neg (by simp),if_pos (by simp),hz,h1];rfl
   rw[if_neg h1]
   by_cases h4:k=4
   ·have hz:zs=[]:=by
     have:zs.length=0:=by omega
     exact List.eq_nil_of_length_eq_zero this
    have hn:validName n=true:=by
     rcases hfi with h|h|h
     ·exact h.2.1
     ·exact h.2.1
     ·omega
    rw[if_pos h4,bS,dU,if_pos rfl,if_neg (by simp),if_pos ⟨rfl,.inr ⟨rfl,Au hn⟩⟩,hz,h4];rfl
   rw[if_neg h4]
   by_cases h2:k=2∧zs.length=0
   ·have hz:zs=[]:=List.eq_nil_of_length_eq_zero h2.2
    have hn:n≠[]∧n.head? ≠some 39:=by
     rcases hfi with h|h|h
     ·omega
     ·omega
     ·rcases h.2 with g|g
      ·exact⟨Au g.1,Vw g.1⟩
      ·rcases gq g.1 with e|e<;>rw[e]<;>simp
    rw[if_pos h2,bq,dU,if_neg hn.1,if_neg hn.2,hz,h2.1]
   rw[if_neg h2]
   by_cases h3:k=3
   ·have hz:zs.length=1∧validName n=true:=by
     rcases hfi with h|h|h
     ·omega
     ·exact⟨h.2.2,h.2.1⟩
     ·omega
    rw[if_pos h3,bS,dU,if_pos rfl,if_neg (by simp),if_neg (fun h=>by have:=h.1;simp[cO,bq,ah.aU,Bh,mh] at this),if_pos ⟨rfl,.inr ⟨by rw[vD];simp[hz.1],Au hz.2⟩⟩]
    show aj.mk 3 n (mE b (yF zs))=_
    rw[hzs,h3]
   ·have hn:validName n=true∧zs≠[]:=by
     rcases hfi with h|h|h
     ·omega
     ·omega
     ·rcases h.2 with g|g
      ·exact⟨g.1,fun e=>h2 ⟨h.1,by rw[e];rfl⟩⟩
      ·exact(h2 ⟨h.1,g.2⟩).elim
    have hk:k=2:=by
     rcases hfi with h|h|h
     ·omega
     ·omega
     ·exact h.1
    have hd:=Yu hn.1
    rw[if_neg h3,bS,dU,if_pos rfl,if_neg (by rw[vD];cases zs with|nil=>exact(hn.2 rfl).elim|cons z zs=>simp),if_neg (fun h=>hd.1 h.1),if_neg (fun h=>hd.2 h.1)]
    show aj.mk 2 n (mE b (yF zs))=_
    rw[hzs,hk]
theorem Nw(b:Bool):∀ts:List aj,iE ts=true→mE b (yF ts)=ts
 |[],_=>rfl
 |t::ts,h=>by
  rw[iE,Bool.and_eq_true] at h
  rw[yF,mE,Av b t h.1,Nw b ts h.2]
end
theorem Jg{vs:List (List UInt8)}(h:jd vs=true):∀v∈vs,v≠[]:=fun v hv=>by
 unfold jd at h
 rw[Bool.and_eq_true] at h
 exact Au (List.all_eq_true.1 h.2 v hv)
theorem FC:fu.sz=0:=by rw[jP];simp[fu,ah.aU,ah.ak,bG]
theorem Yv{b:Bool}{s x:ah}(h:zN b s=x)(hx:x.ak≠[]):b=true∧s=x∧iL x=true:=by
 cases b with
 |false=>rw[←h] at hx;exact(hx rfl).elim
 |true=>
  rw[zN] at h
  unfold CG at h
  split at h
  ·rename_i hv;exact⟨rfl,h,by rw[←h];exact hv⟩
  ·rw[←h] at hx;exact(hx rfl).elim
end Go.Ab
namespace Go.Ab
def vY:List UInt8:=[116,114,117,101]
def uO:List UInt8:=[102,97,108,115,101]
def lg:List UInt8:=[99,97,108,108]
def gy:List UInt8:=[109,101,116,104,111,100]
def oh:List UInt8:=[110,101,119]
def iG:List UInt8:=[99,97,115,101]
def om:List UInt8:=[108,101,116]
def sD:List UInt8:=[105,102]
def lq:List UInt8:=[112,97,99,107]
def oJ:List UInt8:=[116,104,101]
def gu(k:Int)(tr nm:List UInt8)(ty:aj):List ah:=
 if k=4 then aN [lg,nm] else if k=5 then aN [gy,tr,nm] else if k=6 then aN [oh,nm] else if k=8 then aN [om,nm] else
 if k=9 then aN [sD] else if k=10 then aN [nm] else if k=11 then aN [lq,tr] else if k=12 then [bq oJ,dx ty] else aN [iG]
mutual
def dQ:ay→ah
 | .mk k tr nm n ty zs ms=>if k=1 then bq (Lib.itoa n) else if k=2 then bq (if n=1 then vY else uO) else if k=3 then bq nm else
   bS (gu k tr nm ty++wZ zs++(if k=4∨k=5∨k=6∨k=8∨k=9∨k=10∨k=11∨k=12 then [] else Bz ms))
def wZ:List ay→List ah
 |[]=>[]
 |t::ts=>dQ t::wZ ts
def uT:aJ→ah
 | .mk c vs b=>bS ([bq c]++aN vs++[dQ b])
def Bz:List aJ→List ah
 |[]=>[]
 |t::ts=>uT t::Bz ts
end
theorem yN:∀l,wZ l=l.map dQ
 |[]=>rfl
 |t::ts=>by rw[wZ,List.map_cons,yN ts]
theorem BA:∀l,Bz l=l.map uT
 |[]=>rfl
 |t::ts=>by rw[Bz,List.map_cons,BA ts]
theorem Di(x:ay):dQ x=if x.aH=1 then bq (Lib.itoa x.fN) else if x.aH=2 then bq (if x.fN=1 then vY else uO) else if x.aH=3 then bq x.fName else
 bS (gu x.aH x.aW x.fName x.fType++x.fArgs.map dQ++(if x.aH=4∨x.aH=5∨x.aH=6∨x.aH=8∨x.aH=9∨x.aH=10∨x.aH=11∨x.aH=12 then [] else x.aL.map uT)):=by
 cases x;rw[dQ,yN,BA];rfl
theorem Vx(x:aJ):uT x=bS ([bq x.bR]++aN x.aC++[dQ x.fBody]):=by cases x;rw[uT];rfl
def pU:List ay→Nat
 |[]=>0
 |x::xs=>x.sz+pU xs
theorem FD:∀l,bG (l.map ay.enc)=pU l
 |[]=>rfl
 |x::xs=>by rw[List.map_cons,bG,pU,FD xs];rfl
def xA:List aJ→Nat
 |[]=>0
 |x::xs=>x.sz+xA xs
theorem FE:∀l,bG (l.map aJ.enc)=xA l
 |[]=>rfl
 |x::xs=>by rw[List.map_cons,bG,xA,FE xs];rfl
theorem sW(x:ay):x.sz=x.aW.length+x.fName.length+x.fType.sz+(x.fArgs.length+pU x.fArgs)+(x.aL.length+xA x.aL):=by
 rw[←FD,←FE];simp only[ay.sz,ay.aG,bQ,bP,D.sz,List.length_map,aj.dP];omega
theorem wM(x:aJ):x.sz=x.bR.length+(x.aC.length+(x.aC.map List.length).sum)+x.fBody.sz:=by
 rw[←fV];simp only[aJ.sz,aJ.aG,bQ,bP,D.sz,List.length_map,ay.dP];omega
theorem Aw:∀(k n:Nat),n<10^ (k+1)→(Lib.decDigits n).length≤k+1
 |0,n,h=>by rw[Lib.decDigits,dif_pos (by simpa using h)];simp
 |k+1,n,h=>by
  rw[Lib.decDigits]
  split
  ·simp
  ·rw[List.length_append]
   have:=Aw k (n/10) (by rw[Nat.pow_succ] at h;omega)
   simp;omega
theorem Yw{n:Int}(h: -999999≤n∧n≤999999):(Lib.itoa n).length≤7:=by
 unfold Lib.itoa
 split
 ·have:=Aw 5 n.natAbs (by omega)
  simp;omega
 ·have:=Aw 5 n.toNat (by omega)
  omega
theorem Vy(k:Int)(tr nm:List UInt8)(ty:aj):(gu k tr nm ty).length≤3∧dN (gu k tr nm ty)≤18+tr.length+nm.length+16*ty.sz:=by
 have h:=CB ty
 unfold gu
 repeat' (first|(split;·refine⟨by simp[aN],?_⟩;simp[dN,aN,lV,lg,gy,oh,om,sD,lq,oJ,iG];omega))
 refine⟨by simp[aN],?_⟩;simp[dN,aN,lV,iG];omega
mutual
theorem Ny:∀x:ay,gD x=true→(dQ x).sz≤24+32*x.sz
 | .mk k tr nm n ty zs ms=>fun hok=>by
   rw[gD,Bool.and_eq_true,Bool.and_eq_true] at hok
   have hf:=gq hok.1
   have h1:=Qs zs hok.2.1
   have h2:=Qt ms hok.2.2
   have h3:=Vy k tr nm ty
   rw[sW]
   simp only[ay.fName,ay.fArgs,ay.aW,ay.fType,ay.aL]
   rw[dQ]
   split
   ·rename_i hk
    have h4:=hf.2.2.2.1
    simp only[ay.aH,ay.fN,hk,if_true] at h4
    have:=Yw h4
    rw[lV];omega
   ·split
    ·rw[lV];split<;>simp[vY,uO]<;>omega
    ·split
     ·rw[lV];omega
     ·rw[rG,mD,mD,List.length_append,List.length_append,yN,List.length_map,←yN]
      split
      ·simp[dN];omega
      ·rw[BA,List.length_map,←BA];omega
theorem Qs:∀xs:List ay,je xs=true→dN (wZ xs)≤24*xs.length+32*pU xs
 |[],_=>by simp[wZ,dN]
 |x::xs,h=>by
  rw[je,Bool.and_eq_true] at h
  have h1:=Ny x h.1
  have h2:=Qs xs h.2
  rw[wZ,dN,pU,List.length_cons];omega
theorem abZ:∀x:aJ,rM x=true→(uT x).sz≤26+32*x.sz
 | .mk c vs b=>fun hok=>by
   rw[rM,Bool.and_eq_true,Bool.and_eq_true] at hok
   have h1:=Ny b hok.2.2
   rw[wM]
   simp only[aJ.bR,aJ.aC,aJ.fBody]
   rw[uT,rG,mD,mD,List.length_append,List.length_append,jI,ze]
   simp[dN,lV];omega
theorem Qt:∀xs:List aJ,lJ xs=true→dN (Bz xs)≤26*xs.length+32*xA xs
 |[],_=>by simp[Bz,dN]
 |x::xs,h=>by
  rw[lJ,Bool.and_eq_true] at h
  have h1:=abZ x h.1
  have h2:=Qt xs h.2
  rw[Bz,dN,xA,List.length_cons];omega
end
end Go.Ab
namespace Go.Ab
theorem ER(d:Nat)(h:d<10):Lib.digitVal (UInt8.ofNat (48+d))=some d:=by
 have:(UInt8.ofNat (48+d)).toNat=48+d:=by rw[UInt8.toNat_ofNat'];omega
 unfold Lib.digitVal
 rw[this,if_pos (by omega)]
 congr 1;omega
theorem yO:∀(l:List UInt8) (acc:Nat) (b:UInt8),Lib.decFrom acc (l++[b])=(Lib.decFrom acc l).bind fun m=>(Lib.digitVal b).map fun d=>m*10+d
 |[],acc,b=>by
  rw[List.nil_append,Lib.decFrom,Lib.decFrom]
  cases Lib.digitVal b<;>rfl
 |a::l,acc,b=>by
  rw[List.cons_append,Lib.decFrom,Lib.decFrom]
  cases Lib.digitVal a with
  |none=>rfl
  |some e=>exact yO l _ b
theorem vH(n:Nat):Lib.decFrom 0 (Lib.decDigits n)=some n:=by
 induction n using Nat.strongRecOn with
 |_ n ih=>
  rw[Lib.decDigits]
  split
  ·rename_i h
   rw[Lib.decFrom,ER n h]
   simp[Lib.decFrom]
  ·rename_i h
   rw[yO,ih (n/10) (by omega),ER _ (Nat.mod_lt _ (by decide))]
   simp only[Option.bind_some,Option.map_some,Option.some.injEq]
   omega
theorem vI(n:Nat):∃b r,Lib.decDigits n=b::r∧48≤b.toNat∧b.toNat≤57:=by
 induction n using Nat.strongRecOn with
 |_ n ih=>
  rw[Lib.decDigits]
  split
  ·rename_i h
   exact⟨_,_,rfl,by rw[UInt8.toNat_ofNat'];omega,by rw[UInt8.toNat_ofNat'];omega⟩
  ·rename_i h
   obtain⟨b,r,e,h1,h2⟩:=ih (n/10) (by omega)
   rw[e]
   exact⟨b,r++_,rfl,h1,h2⟩
theorem Cc(n:Nat):Lib.decNat (Lib.decDigits n)=some n:=by
 obtain⟨b,r,e,_⟩:=vI n
 unfold Lib.decNat
 rw[show(Lib.decDigits n).isEmpty=false from by rw[e];rfl]
 exact vH n
theorem Dj(b:UInt8)(r:List UInt8):Lib.atoi (b::r)=if b==45 then(Lib.decNat r).map fun(m:Nat)=> -(m:Int) else if b==43 then(Lib.decNat r).map fun(m:Nat)=>(m:Int) else(Lib.decNat (b::r)).map fun(m:Nat)=>(m:Int):=rfl
theorem JZ(n:Int):Lib.atoi (Lib.itoa n)=some n:=by
 unfold Lib.itoa
 split
 ·rename_i h
  show Lib.atoi (45::Lib.decDigits n.natAbs)=_
  rw[Dj,if_pos (by decide),Cc]
  simp only[Option.map_some,Option.some.injEq]
  omega
 ·rename_i h
  obtain⟨b,r,e,h1,h2⟩:=vI n.toNat
  have hd:=Cc n.toNat
  rw[e] at hd ⊢
  rw[Dj,if_neg (by simp only[beq_iff_eq];intro h;rw[h] at h1;revert h1;decide),if_neg (by simp only[beq_iff_eq];intro h;rw[h] at h1;revert h1;decide),hd]
  simp only[Option.map_some,Option.some.injEq]
  omega
theorem aau(n:Int):Lib.itoa n≠[]:=fun e=>by
 have:=JZ n
 rw[e] at this
 cases this
def fC(s:List UInt8):Option Int:=match Lib.atoi s with
 |some n=>if(-999999999999≤n∧n≤999999999999)∧Lib.itoa n=s then some n else none
 |none=>none
theorem Hz{n:Int}(h: -999999999999≤n∧n≤999999999999):fC (Lib.itoa n)=some n:=by
 unfold fC
 rw[JZ]
 exact if_pos ⟨h,rfl⟩
theorem HV{s:List UInt8}{n:Int}(h:fC s=some n):(-999999999999≤n∧n≤999999999999)∧Lib.itoa n=s:=by
 unfold fC at h
 split at h
 ·split at h
  ·cases h;assumption
  ·cases h
 ·cases h
theorem yP{b:UInt8}{r:List UInt8}(h:lowerB b):fC (b::r)=none:=by
 have h1:(b==45)=false:=by simp only[beq_eq_false_iff_ne];intro e;rw[e] at h;revert h;simp[lowerB]
 have h2:(b==43)=false:=by simp only[beq_eq_false_iff_ne];intro e;rw[e] at h;revert h;simp[lowerB]
 have h3:Lib.digitVal b=none:=if_neg (fun x=>by unfold lowerB at h;omega)
 unfold fC
 rw[Dj,h1,h2]
 simp[Lib.decNat,Lib.decFrom,h3]
theorem SG{s:List UInt8}(h:validName s=true):fC s=none:=by
 have h1:=gq h
 have h2:=h1.2.2 0 (by omega)
 cases s with
 |nil=>simp at h1
 |cons b r=>
  rcases h2 with h2|h2
  ·exact yP h2
  ·exact(h2.1 rfl).elim
def gI:aj:=.mk 0 [] []
def pV:ay:=.mk 0 [] [] 0 gI [] []
mutual
def dK(b:Bool):ah→ay
 | .mk a l=>if a=[] then
    if b=true∧(l.length<2∨cO l 0=gy∧l.length<3) then pV
    else if cO l 0=lg then .mk 4 [] (cO l 1) 0 gI ((eu b l).drop 2) []
    else if cO l 0=oh then .mk 6 [] (cO l 1) 0 gI ((eu b l).drop 2) []
    else if cO l 0=om then .mk 8 [] (cO l 1) 0 gI ((eu b l).drop 2) []
    else if cO l 0=lq then .mk 11 (cO l 1) [] 0 gI ((eu b l).drop 2) []
    else if cO l 0=gy then .mk 5 (cO l 1) (cO l 2) 0 gI ((eu b l).drop 3) []
    else if cO l 0=sD then .mk 9 [] [] 0 gI ((eu b l).drop 1) []
    else if cO l 0=oJ then .mk 12 [] [] 0 (dU b (l.getD 1 fu)) ((eu b l).drop 2) []
    else if cO l 0=iG then .mk 7 [] [] 0 gI (((eu b l).drop 1).take 1) ((j4 b l).drop 2)
    else .mk 10 [] (cO l 0) 0 gI ((eu b l).drop 1) []
   else match fC a with
    |some n=>.mk 1 [] [] n gI [] []
    |none=>if a=vY then .mk 2 [] [] 1 gI [] [] else if a=uO then .mk 2 [] [] 0 gI [] [] else .mk 3 [] a 0 gI [] []
def eu(b:Bool):List ah→List ay
 |[]=>[]
 |x::xs=>dK b x::eu b xs
def mU(b:Bool):ah→aJ
 | .mk a l=>if l.length<2 then .mk [] [] pV else .mk (cO l 0) (iN ((l.drop 1).dropLast)) ((eu b l).getLastD pV)
def j4(b:Bool):List ah→List aJ
 |[]=>[]
 |x::xs=>mU b x::j4 b xs
end
theorem wN(b:Bool):∀l,eu b l=l.map (dK b)
 |[]=>rfl
 |t::ts=>by rw[eu,List.map_cons,wN b ts]
theorem zu(b:Bool):∀l,j4 b l=l.map (mU b)
 |[]=>rfl
 |t::ts=>by rw[j4,List.map_cons,zu b ts]
theorem jo(b:Bool)(l m:List ah):eu b (l++m)=eu b l++eu b m:=by simp only[wN,List.map_append]
theorem mV(b:Bool)(l m:List ah):j4 b (l++m)=j4 b l++j4 b m:=by simp only[zu,List.map_append]
theorem nE{t:aj}(h:sH t):t=gI:=aj.ext h.1 h.2.1 (List.eq_nil_of_length_eq_zero h.2.2)
theorem Px{s:List UInt8}(h:s∈ops):s≠[]∧∀w∈[lg,oh,om,lq,gy,sD,oJ,iG],s≠w:=by
 have:=Vo h
 refine⟨fun e=>by rw[e] at this;simp at this,fun w hw e=> ?_⟩
 rw[e] at this
 simp only[List.mem_cons,List.not_mem_nil,or_false] at hw
 rcases hw with g|g|g|g|g|g|g|g<;>rw[g] at this<;>revert this<;>decide
set_option maxHeartbeats 2000000 in
mutual
theorem Jh(b:Bool):∀e:ay,gD e=true→dK b (dQ e)=e
 | .mk k tr nm n ty zs ms=>fun hok=>by
   rw[gD,Bool.and_eq_true,Bool.and_eq_true] at hok
   have hf:=gq hok.1
   have h1:=Nz b zs hok.2.1
   have h2:=NA b ms hok.2.2
   obtain⟨p0,p1,p2,p3,p4,p5,p6⟩:=hf
   simp only[ay.aH,ay.aW,ay.fName,ay.fN,ay.fType,ay.fArgs,ay.aL] at p0 p1 p2 p3 p4 p5 p6
   have nz:∀{l:List ay},l.length=0→l=[]:=fun h=>List.eq_nil_of_length_eq_zero h
   have Dk:k≠7→ms=[]:=fun h=>List.eq_nil_of_length_eq_zero (by
    have:¬0<ms.length:=fun x=>h (p6.2 x)
    omega)
   have hk:k=1∨k=2∨k=3∨k=4∨k=5∨k=6∨k=7∨k=8∨k=9∨k=10∨k=11∨k=12:=by omega
   rcases hk with rfl|rfl|rfl|rfl|rfl|rfl|rfl|rfl|rfl|rfl|rfl|rfl
   all_goals simp only[if_true,if_false,true_or,or_true,false_or,or_false,or_self,(by decide:(1:Int)=5↔False),Int.reduceEq] at p1 p2 p3 p4 p5
   ·have e1:=nE p4;have e2:=nz p5;have e3:=Dk (by decide)
    subst e1 e2 e3 p1 p2
    rw[dQ,if_pos rfl,bq,dK,if_neg (aau n),Hz (by omega)]
   ·have e1:=nE p4;have e2:=nz p5;have e3:=Dk (by decide)
    subst e1 e2 e3 p1 p2
    rw[dQ,if_neg (by decide),if_pos rfl,bq,dK]
    rcases p3 with rfl|rfl
    ·rw[if_neg (by decide:¬(0:Int)=1),if_neg (by decide),show fC uO=none from yP (by simp[lowerB]),if_neg (by decide),if_pos rfl]
    ·rw[if_pos rfl,if_neg (by decide),show fC vY=none from yP (by simp[lowerB]),if_pos rfl]
   ·have e1:=nE p4;have e2:=nz p5;have e3:=Dk (by decide)
    subst e1 e2 e3 p1 p3
    have hr:=(gq p2).2.1
    rw[dQ,if_neg (by decide),if_neg (by decide),if_pos rfl,bq,dK,if_neg (Au p2),SG p2,if_neg (fun e=>hr (by rw[e];simp[reserved,vY])),if_neg (fun e=>hr (by rw[e];simp[reserved,uO]))]
   all_goals have hz:(wZ zs).length=zs.length:=by rw[yN,List.length_map]
   ·have e1:=nE p4;have e3:=Dk (by decide)
    subst e1 e3 p1 p3
    simp[dQ,gu,bS,aN,dK,eu,jo,j4,mV,cO,bq,ah.aU,lg,gy,oh,iG,om,sD,lq,oJ,h1,hz,h2]
    all_goals (intros;omega)
   ·have e1:=nE p4;have e3:=Dk (by decide)
    subst e1 e3 p3
    simp[dQ,gu,bS,aN,dK,eu,jo,j4,mV,cO,bq,ah.aU,lg,gy,oh,iG,om,sD,lq,oJ,h1,hz,h2]
    all_goals (intros;omega)
   ·have e1:=nE p4;have e3:=Dk (by decide)
    subst e1 e3 p1 p3
    simp[dQ,gu,bS,aN,dK,eu,jo,j4,mV,cO,bq,ah.aU,lg,gy,oh,iG,om,sD,lq,oJ,h1,hz,h2]
    all_goals (intros;omega)
   ·have e1:=nE p4
    subst e1 p1 p2 p3
    have hm:0<ms.length:=p6.1 rfl
    obtain⟨z,rfl⟩:∃z,zs=[z]:=by
     cases zs with
     |nil=>simp at p5
     |cons z t=>cases t with
      |nil=>exact⟨z,rfl⟩
      |cons _ _=>simp at p5
    simp only[wZ,eu,List.cons.injEq,and_true] at h1
    simp[dQ,gu,bS,aN,dK,eu,jo,j4,mV,wZ,cO,bq,ah.aU,lg,gy,oh,iG,om,sD,lq,oJ,h1,h2]
    all_goals (intros;omega)
   ·have e1:=nE p4;have e3:=Dk (by decide)
    subst e1 e3 p1 p3
    simp[dQ,gu,bS,aN,dK,eu,jo,j4,mV,cO,bq,ah.aU,lg,gy,oh,iG,om,sD,lq,oJ,h1,hz,h2]
    all_goals (intros;omega)
   ·have e1:=nE p4;have e3:=Dk (by decide)
    subst e1 e3 p1 p2 p3
    simp[dQ,gu,bS,aN,dK,eu,jo,j4,mV,cO,bq,ah.aU,lg,gy,oh,iG,om,sD,lq,oJ,h1,hz,h2]
    all_goals (intros;omega)
   ·have e1:=nE p4;have e3:=Dk (by decide)
    subst e1 e3 p1 p3
    have ho:=Px p2
    simp only[List.mem_cons,List.not_mem_nil,or_false,ne_eq,forall_eq_or_imp,forall_eq] at ho
    obtain⟨_,o1,o2,o3,o4,o5,o6,o7,o8⟩:=ho
    simp[dQ,gu,bS,aN,dK,eu,jo,cO,bq,ah.aU,h1,hz,o1,o2,o3,o4,o5,o6,o7,o8]
    all_goals (intros;omega)
   ·have e1:=nE p4;have e3:=Dk (by decide)
    subst e1 e3 p2 p3
    simp[dQ,gu,bS,aN,dK,eu,jo,j4,mV,cO,bq,ah.aU,lg,gy,oh,iG,om,sD,lq,oJ,h1,hz,h2]
    all_goals (intros;omega)
   ·have e3:=Dk (by decide)
    subst e3 p1 p2 p3
    have ht:=Av b ty (uJ p4)
    simp[dQ,gu,bS,aN,dK,eu,jo,cO,bq,ah.aU,lg,gy,oh,iG,om,sD,lq,oJ,h1,hz,ht]
    all_goals (intros;omega)
theorem Nz(b:Bool):∀es:List ay,je es=true→eu b (wZ es)=es
 |[],_=>rfl
 |t::ts,h=>by
  rw[je,Bool.and_eq_true] at h
  rw[wZ,eu,Jh b t h.1,Nz b ts h.2]
theorem aav(b:Bool):∀m:aJ,rM m=true→mU b (uT m)=m
 | .mk c vs e=>fun h=>by
   rw[rM,Bool.and_eq_true,Bool.and_eq_true] at h
   have he:=Jh b e h.2.2
   rw[uT,bS,mU,if_neg (by simp),jo]
   have e1:cO ([bq c]++aN vs++[dQ e]) 0=c:=rfl
   have e2:(([bq c]++aN vs++[dQ e]).drop 1).dropLast=aN vs:=by
    rw[List.append_assoc,List.singleton_append,List.drop_succ_cons,List.drop_zero,List.dropLast_concat]
   rw[e1,e2,yM (Jg h.2.1)]
   congr 1
   rw[eu,he,List.getLastD_eq_getLast?,List.getLast?_append]
   simp[eu]
theorem NA(b:Bool):∀ms:List aJ,lJ ms=true→j4 b (Bz ms)=ms
 |[],_=>rfl
 |t::ts,h=>by
  rw[lJ,Bool.and_eq_true] at h
  rw[Bz,j4,aav b t h.1,NA b ts h.2]
end
theorem yQ:gI.sz=0:=by rw[qR];rfl
theorem zw:pV.sz=0:=by rw[sW];simp[pV,ay.aW,ay.fName,ay.fType,ay.fArgs,ay.aL,yQ,pU,xA]
theorem SH(l:List ah):((iN ((l.drop 1).dropLast)).length+((iN ((l.drop 1).dropLast)).map List.length).sum)≤(l.drop 1).dropLast.length+dN ((l.drop 1).dropLast):=by
 have:=Df ((l.drop 1).dropLast)
 omega
theorem aaw(x:ah)(m:List ah)(y:ah):dN (x::(m++[y]))=x.sz+(dN m+y.sz):=by rw[dN,mD];simp[dN]
mutual
theorem Eb(b:Bool):∀x:ah,(dK b x).sz≤x.sz
 | .mk a l=>by
   have g:=J2 b l
   have hl:(eu b l).length=l.length:=by rw[wN,List.length_map]
   have hm:(j4 b l).length=l.length:=by rw[zu,List.length_map]
   rw[jP,l6];simp only[ah.aU,ah.ak]
   rw[dK]
   split
   ·have g1:pU ((eu b l).drop 1)+(cO l 0).length≤dN l:=by
     have:=g 0
     simp only[Nat.zero_add,(by decide:¬(1≤0)),if_false] at this
     omega
    have g2:pU ((eu b l).drop 2)+((cO l 0).length+(cO l 1).length)≤dN l:=by
     have:=g 1
     simp only[Nat.reduceAdd,Nat.le_refl,if_true,Nat.sub_self] at this
     omega
    have g3:pU ((eu b l).drop 3)+((cO l 1).length+(cO l 2).length)≤dN l:=by
     have:=g 2
     simp only[Nat.reduceAdd,(by decide:1≤2),if_true,Nat.reduceSub] at this
     omega
    split
    ·rw[zw];omega
    ·repeat' split
     all_goals rw[sW];simp only[ay.aW,ay.fName,ay.fType,ay.fArgs,ay.aL,yQ,pU,xA,List.length_nil,List.length_drop,List.length_take,hl,hm,List.drop_zero] at g1 g2 g3 ⊢
     all_goals try omega
     ·have h1:=Ar b (l.getD 1 fu)
      have h2:pU ((eu b l).drop 2)+(l.getD 1 fu).sz≤dN l:=by
       match l with
       |[]=>simp[eu,pU,dN,FC]
       |[x]=>simp[eu,pU,dN,FC]
       |x::y::l=>
        have:=FH b l
        simp only[eu,List.drop_succ_cons,List.drop_zero,dN]
        show _+y.sz≤_
        omega
      omega
     ·match l with
      |[]=>simp[pU,xA,eu,j4]
      |[x]=>simp[pU,xA,eu,j4]
      |x::y::l=>
       have h1:=Eb b y
       have h2:=NC b l
       simp only[eu,j4,List.drop_succ_cons,List.drop_zero,List.take_succ_cons,List.take_zero,pU,dN,List.length_cons]
       omega
   ·split
    ·rw[sW];simp[ay.aW,ay.fName,ay.fType,ay.fArgs,ay.aL,yQ,pU,xA]
    ·repeat' split
     all_goals rw[sW];simp[ay.aW,ay.fName,ay.fType,ay.fArgs,ay.aL,yQ,pU,xA]
theorem FH(b:Bool):∀l:List ah,pU (eu b l)≤dN l
 |[]=>by simp[eu,pU]
 |x::xs=>by
  have h1:=Eb b x
  have h2:=FH b xs
  rw[eu,pU,dN];omega
theorem J2(b:Bool):∀(l:List ah) (i:Nat),pU ((eu b l).drop (i+1))+((if 1≤i then(cO l (i-1)).length else 0)+(cO l i).length)≤dN l
 |[],i=>by simp[eu,pU,Aq]
 |x::xs,0=>by
  have h2:=FH b xs
  rw[eu,List.drop_succ_cons,List.drop_zero,dN,show cO (x::xs) 0=x.aU from rfl,jP];simp;omega
 |x::xs,i+1=>by
  have h2:=J2 b xs i
  rw[eu,List.drop_succ_cons,dN,show cO (x::xs) (i+1)=cO xs i from rfl]
  cases i with
  |zero=>rw[show cO (x::xs) (0+1-1)=x.aU from rfl,jP];simp at h2 ⊢;omega
  |succ i=>rw[show cO (x::xs) (i+1+1-1)=cO xs i from rfl];simp at h2 ⊢;omega
theorem aax(b:Bool):∀x:ah,(mU b x).sz≤x.sz
 | .mk a l=>by
   rw[jP,l6];simp only[ah.aU,ah.ak]
   rw[mU]
   split
   ·rw[wM];simp[aJ.bR,aJ.aC,aJ.fBody,zw]
   ·rename_i h
    have hn:=SH l
    have hb:=HY b l
    rw[wM];simp only[aJ.bR,aJ.aC,aJ.fBody]
    obtain⟨x,m,y,rfl⟩:∃x m y,l=x::(m++[y]):=by
     cases l with
     |nil=>simp at h
     |cons x l=>
      have hl:l≠[]:=fun e=>by rw[e] at h;simp at h
      exact⟨x,l.dropLast,l.getLast hl,by rw[List.dropLast_concat_getLast]⟩
    rw[aaw] at *
    rw[show cO (x::(m++[y])) 0=x.aU from rfl,jP x]
    simp only[List.drop_succ_cons,List.drop_zero,List.dropLast_concat,List.length_cons,List.length_append,List.length_nil] at hn ⊢
    have hy:((x::(m++[y])).getLastD fu)=y:=by rw[←List.cons_append,List.getLastD_eq_getLast?,List.getLast?_append];simp
    rw[hy] at hb
    omega
theorem NC(b:Bool):∀l:List ah,xA (j4 b l)≤dN l
 |[]=>by simp[j4,xA]
 |x::xs=>by
  have h1:=aax b x
  have h2:=NC b xs
  rw[j4,xA,dN];omega
theorem HY(b:Bool):∀l:List ah,((eu b l).getLastD pV).sz≤(l.getLastD fu).sz
 |[]=>by simp[eu,zw]
 |[x]=>by simpa [eu] using Eb b x
 |x::y::l=>by
  have:=HY b (y::l)
  simpa [eu] using this
end
end Go.Ab
namespace Go.Proofs
open Go.Shelf
def Tryz.laysM171_ren:Go.Shelf.Ren:=⟨fun|171=>287|243=>331|246=>350|283=>369|284=>370|285=>371|286=>372|129=>382|317=>381|318=>383|319=>384|320=>385|337=>391|338=>392|n=>n,fun|3=>3|9=>9|2=>2|4=>4|171=>358|0=>0|53=>359|37=>227|5=>5|173=>362|212=>376|51=>377|20=>20|213=>378|46=>369|232=>388|233=>389|n=>n,fun|17=>2|18=>4|19=>5|n=>n⟩
theorem Tryz.laysM171:Go.Proofs.LaysM.n171 Tryz.prog Tryz.laysM171_ren:={
 mixed:=by kernel_rfl
 f129:=Tryz.func382.trans (congrArg some (by kernel_rfl))
 f171:=Tryz.func287.trans (congrArg some (by kernel_rfl))
 f243:=Tryz.func331.trans (congrArg some (by kernel_rfl))
 f246:=Tryz.func350.trans (congrArg some (by kernel_rfl))
 f283:=Tryz.func369.trans (congrArg some (by kernel_rfl))
 f284:=Tryz.func370.trans (congrArg some (by kernel_rfl))
 f285:=Tryz.func371.trans (congrArg some (by kernel_rfl))
 f286:=Tryz.func372.trans (congrArg some (by kernel_rfl))
 f317:=Tryz.func381.trans (congrArg some (by kernel_rfl))
 f318:=Tryz.func383.trans (congrArg some (by kernel_rfl))
 f319:=Tryz.func384.trans (congrArg some (by kernel_rfl))
 f320:=Tryz.func385.trans (congrArg some (by kernel_rfl))
 f337:=Tryz.func391.trans (congrArg some (by kernel_rfl))
 f338:=Tryz.func392.trans (congrArg some (by kernel_rfl))
 t0:=Tryz.underlying0
 a0:=Tryz.isAgg0
 z0:=Tryz.sizeOf0
 v0:=Tryz.zeroValue0
 t2:=Tryz.underlying2
 a2:=Tryz.isAgg2
 z2:=Tryz.sizeOf2
 v2:=Tryz.zeroValue2
 t3:=Tryz.underlying3
 a3:=Tryz.isAgg3
 z3:=Tryz.sizeOf3
 v3:=Tryz.zeroValue3
 t4:=Tryz.underlying4
 a4:=Tryz.isAgg4
 z4:=Tryz.sizeOf4
 v4:=Tryz.zeroValue4
 t5:=Tryz.underlying5
 a5:=Tryz.isAgg5
 z5:=Tryz.sizeOf5
 v5:=Tryz.zeroValue5
 t9:=Tryz.underlying9
 a9:=Tryz.isAgg9
 z9:=Tryz.sizeOf9
 v9:=Tryz.zeroValue9
 t20:=Tryz.underlying20
 a20:=Tryz.isAgg20
 z20:=Tryz.sizeOf20
 v20:=Tryz.zeroValue20
 t37:=Tryz.underlying227
 a37:=Tryz.isAgg227
 z37:=Tryz.sizeOf227
 v37:=Tryz.zeroValue227
 t46:=Tryz.underlying369
 a46:=Tryz.isAgg369
 z46:=Tryz.sizeOf369
 v46:=Tryz.zeroValue369
 t51:=Tryz.underlying377
 a51:=Tryz.isAgg377
 z51:=Tryz.sizeOf377
 v51:=Tryz.zeroValue377
 t53:=Tryz.underlying359
 a53:=Tryz.isAgg359
 z53:=Tryz.sizeOf359
 v53:=Tryz.zeroValue359
 t171:=Tryz.underlying358
 a171:=Tryz.isAgg358
 z171:=Tryz.sizeOf358
 v171:=Tryz.zeroValue358
 t173:=Tryz.underlying362
 a173:=Tryz.isAgg362
 z173:=Tryz.sizeOf362
 v173:=Tryz.zeroValue362
 t212:=Tryz.underlying376
 a212:=Tryz.isAgg376
 z212:=Tryz.sizeOf376
 v212:=Tryz.zeroValue376
 t213:=Tryz.underlying378
 a213:=Tryz.isAgg378
 z213:=Tryz.sizeOf378
 t232:=Tryz.underlying388
 a232:=Tryz.isAgg388
 z232:=Tryz.sizeOf388
 v232:=Tryz.zeroValue388
 t233:=Tryz.underlying389
 a233:=Tryz.isAgg389
 z233:=Tryz.sizeOf389
 v233:=Tryz.zeroValue389
 g17:=by kernel_rfl
 g18:=by kernel_rfl
 g19:=by kernel_rfl
 i0:=by kernel_rfl
 i2:=by kernel_rfl
 i3:=by kernel_rfl
 i4:=by kernel_rfl
 i5:=by kernel_rfl
 i9:=by kernel_rfl
 i20:=by kernel_rfl
 i37:=by kernel_rfl
 i46:=by kernel_rfl
 i51:=by kernel_rfl
 i53:=by kernel_rfl
 i171:=by kernel_rfl
 i173:=by kernel_rfl
 i212:=by kernel_rfl
 i232:=by kernel_rfl
 i233:=by kernel_rfl
 m17:=by kernel_rfl
 m18:=by kernel_rfl
 m19:=by kernel_rfl}
open Go.RowKit Go.Sort Go.Lib in
theorem Tryz.strconv_Itoa(n:Int)(h0: -9223372036854775808≤n)(h1:n≤9223372036854775807)(w:World)(htab:Lib.TabIs Tryz.prog w "internal/strconv.uint64pow10" .u64 Lib.pow10Tab):
 Calls Tryz.prog 287 #[.int .i64 n] w fun e w'=>e=.returned (.string ⟨(Lib.itoa n).toArray⟩)∧∃k os,w'=grow (w.drewN k) os:=Any.strconv_Itoa Tryz.laysM171 n h0 h1 w htab
end Go.Proofs
namespace Go.Ab
theorem SI{w:World}{σ:Nat→Nat}{k:Nat}{os:Array Go.Obj}(hl:∀b,b<w.heap.size∨σ b=0):Grow w σ (Go.Sort.grow (w.drewN k) os) σ:=by
 have hh:(Go.Sort.grow (w.drewN k) os).heap=w.heap++os:=rfl
 refine⟨by rw[hh];simp,rfl,rfl,fun b hb=>⟨by rw[hh,Array.getElem?_append_left hb],rfl⟩,fun b=> ?_⟩
 rcases hl b with h|h
 ·left;rw[hh];simp;omega
 ·exact .inr h
theorem aay{x:V}{vs:List Value}{w:World}{σ:Nat→Nat}{S:Store}{β:Hs}(h:lS w σ S β [x] vs):∃v,vs=[v]∧bV w σ S β x v:=by
 obtain⟨hl,h⟩:=h
 obtain⟨v,e,hr⟩:=h 0 x rfl
 match vs,hl,e with
 |[y],_,e=>simp at e;subst e;exact⟨_,rfl,hr⟩
end Go.Ab
namespace Go.Proofs.YtlmhknhlmicmeaaGreatDoor
open Go Go.Ab
theorem J3{w:World}{σ:Nat→Nat}(h:zG w σ):Lib.TabIs Tryz.prog w "internal/strconv.uint64pow10" .u64 Lib.pow10Tab:=by
 obtain⟨c,t,fz,q1,q2,q3⟩:=h _ _ (show _∈P7 from List.mem_cons_self ..)
 have hn:Tryz.prog.globalNamed "internal/strconv.uint64pow10" =some 2:=by kernel_rfl
 unfold Lib.TabIs World.var?
 rw[hn]
 simp only[Option.bind_some,q1,Option.some.injEq]
 apply Array.ext'
 rw[q2]
 simp[Lib.pow10Tab]
theorem aaz(n:Int)(h0: -9223372036854775808≤n)(h1:n≤9223372036854775807):aI Tryz.prog 287 [.c (.d (.i .i64 n))] (.c (.d (.s (Lib.itoa n)))):=fun S=>by
 refine⟨⟨_,Tryz.func287,by kernel_rfl,by kernel_rfl⟩,fun w σ β vs hS hv=> ?_⟩
 obtain⟨v,rfl,hr,_⟩:=aay hv
 have hv0:v=.int .i64 n:=by cases hr;rfl
 subst hv0
 refine(Tryz.strconv_Itoa n h0 h1 w (J3 hS.qp)).mono fun e w' ⟨he,k,os,hw⟩=> ?_
 subst hw
 have hg:Grow w σ (Go.Sort.grow (w.drewN k) os) σ:=SI hS.live
 exact⟨_,.c (.d (.s (Lib.itoa n))),S,σ,β,he,hS.grow hg,Keep.refl _ _,Step.kP hg,⟨.s _,rfl⟩,rfl,rfl⟩
theorem FI(n:Int)(h0: -9223372036854775808≤n)(h1:n≤9223372036854775807):aI Tryz.prog 212 [.c (.d (.i .i64 n))] (.c (.d (.s (Lib.itoa n)))):=fun S=>by
 refine aD (rs:=[.tmp 2]) Tryz.checked.mixed Tryz.func212 Tryz.ntmps212 rfl rfl rfl rfl rfl ?_
 simp -implicitDefEqProofs (disch:=omega) only[go_sem]
 refine au (aaz n h0 h1) ?_
 simp -implicitDefEqProofs (disch:=omega) only[go_sem]<;>(repeat(with_reducible refine And.intro ?_ ?_;focus first|omega|rfl|assumption|exact⟨_,rfl,rfl⟩|(simp;omega)|(simp;done)))
end Go.Proofs.YtlmhknhlmicmeaaGreatDoor
namespace Go.Ab
def Dl(m:Nat):List UInt8:=if m=0 then [] else Lib.decDigits m
theorem Vz{m:Nat}(h:m≠0):Dl (m/10)++[UInt8.ofNat (48+m % 10)]=Dl m:=by
 unfold Dl
 rw[if_neg h]
 conv=>rhs;rw[Lib.decDigits]
 by_cases h10:m<10
 ·rw[dif_pos h10,if_pos (by omega),List.nil_append,Nat.mod_eq_of_lt h10]
 ·rw[dif_neg h10,if_neg (by omega)]
theorem Yx(n:Int)(h0: -9223372036854775808≤n)(h1:n≤9223372036854775807):∃sg:Nat→Int,sg 0=0∧sg n.natAbs=n∧(∀m,m≠0→sg m≠0)∧(∀m,(sg m).tmod 10= -((m % 10:Nat):Int)∨(sg m).tmod 10=((m % 10:Nat):Int))∧
 (∀m,(sg m).tdiv 10=sg (m/10))∧∀m,m≤n.natAbs→ -9223372036854775808≤sg m∧sg m≤9223372036854775807:=by
 by_cases h:n<0
 ·refine⟨fun m=> -(m:Int),rfl,by simp only;omega,fun m hm=>by simp only;omega,fun m=>.inl ?_,fun m=> ?_,fun m hm=>by simp only;omega⟩
  ·simp only;rw[Int.neg_tmod];congr 1
  ·simp only;rw[Int.neg_tdiv];congr 1
 ·refine⟨fun m=>(m:Int),rfl,by simp only;omega,fun m hm=>by simp only;omega,fun m=>.inr rfl,fun m=>rfl,fun m hm=>by simp only;omega⟩
theorem VA:Lib.itoa 0=[48]:=by
 unfold Lib.itoa
 rw[if_neg (by decide),Lib.decDigits,dif_pos (by decide)];rfl
theorem SK(a:Nat)(h:a≤9223372036854775808):(Lib.decDigits a).length≤19:=Aw 18 a (by omega)
end Go.Ab
namespace Go.Proofs.YtlmhknhlmicmeaaGreatDoor
open Go Go.Ab
theorem sZ(n:Int)(h0: -9223372036854775808≤n)(h1:n≤9223372036854775807):aI Tryz.prog 205 [.c (.d (.i .i64 n))] (.c (.d (.s (Lib.itoa n)))):=fun S=>by
 obtain⟨sg,g0,gn,gne,agd,agf,ab0⟩:=Yx n h0 h1
 refine aD (rs:=[.tmp 2]) Tryz.checked.mixed Tryz.func205 Tryz.ntmps205 rfl rfl rfl rfl rfl ?_
 simp -implicitDefEqProofs (disch:=omega) only[go_sem]
 with_reducible refine aA (fun hb=> ?_) (fun hb=> ?_)<;>have h:=hb<;>(try simp only[wf_preprocess] at h)<;>simp -implicitDefEqProofs (disch:=omega) only[go_sem,hb]<;>(repeat(with_reducible refine And.intro ?_ ?_;focus first|omega|rfl|assumption|exact⟨_,rfl,rfl⟩|(simp;omega)|(simp;done)))
 ·rw[h,VA]
 have hn0:=h
 have hd0:Dl n.natAbs=Lib.decDigits n.natAbs:=by unfold Dl;rw[if_neg (by omega)]
 have hln:=SK n.natAbs (by omega)
 refine aZ (ι:=Nat×List UInt8) Tryz.checked.mixed rfl [0,3,4] (fun y=>[.c (.d (.i .i64 (sg y.1))),.c (.d (.b (decide (n<0)))),.c (.d (.s y.2))]) (fun _=>[]::S)
  (fun y=>y.1≤n.natAbs∧Dl y.1++y.2=Dl n.natAbs∧y.2.length≤19) (fun y=>y.1) (n.natAbs,[]) (by rw[gn];rfl) rfl ⟨Nat.le_refl _,List.append_nil _,by simp⟩ ?_
 rintro⟨m,out⟩ ⟨p1,p2,p3⟩
 simp only at p1 p2 p3
 have hr:=ab0 m p1
 have hm:=agd m
 have hq:=agf m
 generalize hx:sg m=x at *
 generalize hy:x.tmod 10=y at *
 have hlo:out.length≤19:=p3
 simp -implicitDefEqProofs (disch:=omega) only[go_sem]
 with_reducible refine aA (fun hb=> ?_) (fun hb=> ?_)<;>have h:=hb<;>(try simp only[wf_preprocess] at h)<;>simp -implicitDefEqProofs (disch:=omega) only[go_sem,hb]<;>(repeat(with_reducible refine And.intro ?_ ?_;focus first|omega|rfl|assumption|exact⟨_,rfl,rfl⟩|(simp;omega)|(simp;done)))
 ·have hm0:m≠0:=fun e=>by rw[e,g0] at hx;omega
  have hst:=Vz hm0
  have hr2:=ab0 (m/10) (by omega)
  have ahb:(Dl (m/10)).length+1+out.length≤19:=by
   have:=congrArg List.length p2
   rw[←hst,hd0] at this
   simp only[List.length_append,List.length_cons,List.length_nil] at this
   omega
  simp -implicitDefEqProofs (disch:=omega) only[go_sem,hy]
  with_reducible refine aA (fun hb=> ?_) (fun hb=> ?_)<;>have h:=hb<;>(try simp only[wf_preprocess] at h)<;>simp -implicitDefEqProofs (disch:=omega) only[go_sem,hb]<;>(repeat(with_reducible refine And.intro ?_ ?_;focus first|omega|rfl|assumption|exact⟨_,rfl,rfl⟩|(simp;omega)|(simp;done)))
  ·have e1:(0:Int)-y=((m % 10:Nat):Int):=by omega
   have hc:UInt8.ofNat (IntKind.u8.wrap (48+(0-y))).toNat=UInt8.ofNat (48+m % 10):=by
    rw[wrap_u8 _ (by omega),e1]
    congr 1
   simp -implicitDefEqProofs (disch:=omega) only[go_sem,hy,hq]
   (repeat(with_reducible refine And.intro ?_ ?_;focus first|omega|rfl|assumption|exact⟨_,rfl,rfl⟩|(simp;omega)|(simp;done)))
   refine bL (m/10,UInt8.ofNat (48+m % 10)::out) (by simp only;omega) (by rw[←hc];rfl) rfl ⟨by simp only;omega,?_,by simp only[List.length_cons];omega⟩
   simp only
   rw[←p2,←hst,List.append_assoc];rfl
  ·have e1:y=((m % 10:Nat):Int):=by omega
   have hc:UInt8.ofNat (IntKind.u8.wrap (48+y)).toNat=UInt8.ofNat (48+m % 10):=by
    rw[wrap_u8 _ (by omega),e1]
    congr 1
   simp -implicitDefEqProofs (disch:=omega) only[go_sem,hy,hq]
   (repeat(with_reducible refine And.intro ?_ ?_;focus first|omega|rfl|assumption|exact⟨_,rfl,rfl⟩|(simp;omega)|(simp;done)))
   refine bL (m/10,UInt8.ofNat (48+m % 10)::out) (by simp only;omega) (by rw[←hc];rfl) rfl ⟨by simp only;omega,?_,by simp only[List.length_cons];omega⟩
   simp only
   rw[←p2,←hst,List.append_assoc];rfl
 ·have hm0:m=0:=by
   rcases Nat.eq_zero_or_pos m with e|e
   ·exact e
   ·exact absurd (by rw[hx];omega) (gne m (by omega))
  subst hm0
  have hout:out=Lib.decDigits n.natAbs:=by rw[←hd0,←p2];rfl
  with_reducible refine aA (fun hb=> ?_) (fun hb=> ?_)<;>have h:=hb<;>(try simp only[wf_preprocess] at h)<;>simp -implicitDefEqProofs (disch:=omega) only[go_sem,hb]<;>(repeat(with_reducible refine And.intro ?_ ?_;focus first|omega|rfl|assumption|exact⟨_,rfl,rfl⟩|(simp;omega)|(simp;done)))
  ·(repeat(with_reducible refine And.intro ?_ ?_;focus first|omega|rfl|assumption|exact⟨_,rfl,rfl⟩|(simp;omega)|(simp;done)))
   rw[hout]
   unfold Lib.itoa
   rw[if_pos h]
  ·rw[hout]
   unfold Lib.itoa
   rw[if_neg h,show n.toNat=n.natAbs by omega]
end Go.Proofs.YtlmhknhlmicmeaaGreatDoor
