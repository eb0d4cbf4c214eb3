/-
  SEVERAL TEXTS IN ONE (merged by program): contracts and models, each with its own heading.
-/
import Derived.Test.YtlaaknnkeidlbaaGreatDoorPartDedbJ
open Go.Proofs Go.Proofs.Tryz
set_option linter.unusedSimpArgs false
set_option linter.unusedVariables false
set_option maxRecDepth 4000
namespace Go.Ab
def Ec(m:Nat):List UInt8:=if m=0 then [] else Lib.decDigits m
theorem Zc{m:Nat}(h:m≠0):Ec (m/10)++[UInt8.ofNat (48+m % 10)]=Ec m:=by
 unfold Ec;rw[if_neg h]
 conv=>rhs;rw[Lib.decDigits]
 by_cases h10:m<10
 ·rw[dif_pos h10,if_pos (by omega),aw,Nat.mod_eq_of_lt h10]
 ·rw[dif_neg h10,if_neg (by omega)]
theorem acp(n:Int)(h0: -9223372036854775808<=n)(h1:n<=9223372036854775807):∃sg:Nat->Int,sg 0=0/\sg n.natAbs=n/\(∀m,m≠0->sg m≠0)/\(∀m,(sg m).tmod 10= -((m % 10:Nat):Int)\/(sg m).tmod 10=((m % 10:Nat):Int))/\
 (∀m,(sg m).tdiv 10=sg (m/10))/\∀m,m<=n.natAbs-> -9223372036854775808<=sg m/\sg m<=9223372036854775807:=by
 by_cases h:n<0
 ·refine⟨fun m=> -(m:Int),rfl,by simp only;omega,fun m hm=>by simp only;omega,fun m=>.inl ?_,fun m=> ?_,fun m hm=>by simp only;omega⟩
  ·simp only;rw[Int.neg_tmod];congr 1
  ·simp only;rw[Int.neg_tdiv];congr 1
 ·refine⟨fun m=>(m:Int),rfl,by simp only;omega,fun m hm=>by simp only;omega,fun m=>.inr rfl,fun m=>rfl,fun m hm=>by simp only;omega⟩
theorem Zd:Lib.itoa 0=[48]:=by
 unfold Lib.itoa;rw[if_neg (by decide),Lib.decDigits,dif_pos (by decide)];rfl
theorem VQ(a:Nat)(h:a<=9223372036854775808):(Lib.decDigits a).length<=19:=Bf 18 a (by omega)
theorem sI(n:Int)(h0: -9223372036854775808<=n)(h1:n<=9223372036854775807):aF prog 114 [.c (.d (.i .i64 n))] (.c (.d (.s (Lib.itoa n)))):=fun S=>by
 obtain⟨sg,g0,gn,gne,ajV,ajW,agQ⟩:=acp n h0 h1;refine zcx [.tmp 2] func114 ntmps114 ?_;simp -implicitDefEqProofs (disch:=omega) only[go_sem]
 with_reducible refine ay (fun hb=> ?_) (fun hb=> ?_)<;>have h:=hb<;>(try simp only[wf_preprocess] at h)<;>simp -implicitDefEqProofs (disch:=omega) only[go_sem,hb]<;>(repeat(with_reducible refine And.intro ?_ ?_;focus first|omega|rfl|assumption|exact⟨_,rfl,rfl⟩|(simp;omega)|(simp;done)))
 ·rw[h,Zd]
 have hn0:=h
 have hd0:Ec n.natAbs=Lib.decDigits n.natAbs:=by unfold Ec;rw[if_neg (by omega)]
 have hln:=VQ n.natAbs (by omega)
 refine bI (ι:=Nat×List UInt8) zmx rfl [0,3,4] (fun y=>[.c (.d (.i .i64 (sg y.1))),.c (.d (.b (decide (n<0)))),.c (.d (.s y.2))]) (fun _=>[]::S)
  (fun y=>y.1<=n.natAbs/\Ec y.1++y.2=Ec n.natAbs/\y.2.length<=19) (fun y=>y.1) (n.natAbs,[]) (by rw[gn];rfl) rfl ⟨ax _,bw _,by simp⟩ ?_
 rintro⟨m,out⟩ ⟨p1,p2,p3⟩;simp only at p1 p2 p3;have hr:=agQ m p1;have hm:=ajV m;have hq:=ajW m
 generalize hx:sg m=x at *
 generalize hy:x.tmod 10=y at *
 have hlo:out.length<=19:=p3;simp -implicitDefEqProofs (disch:=omega) only[go_sem]
 with_reducible refine ay (fun hb=> ?_) (fun hb=> ?_)<;>have h:=hb<;>(try simp only[wf_preprocess] at h)<;>simp -implicitDefEqProofs (disch:=omega) only[go_sem,hb]<;>(repeat(with_reducible refine And.intro ?_ ?_;focus first|omega|rfl|assumption|exact⟨_,rfl,rfl⟩|(simp;omega)|(simp;done)))
 ·have hm0:m≠0:=fun e=>by rw[e,g0] at hx;omega
  have hst:=Zc hm0;have hr2:=agQ (m/10) (by omega)
  have ak1:(Ec (m/10)).length+1+out.length<=19:=by
   have:=congrArg List.length p2;rw[<-hst,hd0] at this;simp only[ab,aa,aq] at this;omega
  simp -implicitDefEqProofs (disch:=omega) only[go_sem,hy]
  with_reducible refine ay (fun hb=> ?_) (fun hb=> ?_)<;>have h:=hb<;>(try simp only[wf_preprocess] at h)<;>simp -implicitDefEqProofs (disch:=omega) only[go_sem,hb]<;>(repeat(with_reducible refine And.intro ?_ ?_;focus first|omega|rfl|assumption|exact⟨_,rfl,rfl⟩|(simp;omega)|(simp;done)))
  ·have e1:(0:Int)-y=((m % 10:Nat):Int):=by omega
   have hc:UInt8.ofNat (IntKind.u8.wrap (48+(0-y))).toNat=UInt8.ofNat (48+m % 10):=by
    rw[wrap_u8 _ (by omega),e1];congr 1
   simp -implicitDefEqProofs (disch:=omega) only[go_sem,hy,hq]
   (repeat(with_reducible refine And.intro ?_ ?_;focus first|omega|rfl|assumption|exact⟨_,rfl,rfl⟩|(simp;omega)|(simp;done)))
   refine bZ (m/10,UInt8.ofNat (48+m % 10)::out) (by simp only;omega) (by rw[<-hc];rfl) rfl ⟨by simp only;omega,?_,by simp only[aa];omega⟩
   simp only
   rw[<-p2,<-hst,bk];rfl
  ·have e1:y=((m % 10:Nat):Int):=by omega
   have hc:UInt8.ofNat (IntKind.u8.wrap (48+y)).toNat=UInt8.ofNat (48+m % 10):=by
    rw[wrap_u8 _ (by omega),e1];congr 1
   simp -implicitDefEqProofs (disch:=omega) only[go_sem,hy,hq]
   (repeat(with_reducible refine And.intro ?_ ?_;focus first|omega|rfl|assumption|exact⟨_,rfl,rfl⟩|(simp;omega)|(simp;done)))
   refine bZ (m/10,UInt8.ofNat (48+m % 10)::out) (by simp only;omega) (by rw[<-hc];rfl) rfl ⟨by simp only;omega,?_,by simp only[aa];omega⟩
   simp only
   rw[<-p2,<-hst,bk];rfl
 ·have hm0:m=0:=by
   rcases eM m with e|e
   ·exact e
   ·exact absurd (by rw[hx];omega) (gne m (by omega))
  subst hm0
  have hout:out=Lib.decDigits n.natAbs:=by rw[<-hd0,<-p2];rfl
  with_reducible refine ay (fun hb=> ?_) (fun hb=> ?_)<;>have h:=hb<;>(try simp only[wf_preprocess] at h)<;>simp -implicitDefEqProofs (disch:=omega) only[go_sem,hb]<;>(repeat(with_reducible refine And.intro ?_ ?_;focus first|omega|rfl|assumption|exact⟨_,rfl,rfl⟩|(simp;omega)|(simp;done)))
  ·(repeat(with_reducible refine And.intro ?_ ?_;focus first|omega|rfl|assumption|exact⟨_,rfl,rfl⟩|(simp;omega)|(simp;done)))
   rw[hout];unfold Lib.itoa;rw[if_pos h]
  ·rw[hout];unfold Lib.itoa;rw[if_neg h,show n.toNat=n.natAbs by omega]
end Go.Ab