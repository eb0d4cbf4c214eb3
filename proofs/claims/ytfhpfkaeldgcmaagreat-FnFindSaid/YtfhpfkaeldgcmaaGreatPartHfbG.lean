/-
  SEVERAL TEXTS IN ONE (merged by program): contracts and models, each with its own heading.
-/
import Derived.Test.YtfhpfkaeldgcmaaGreatPartHfbF
open Go.Proofs Go.Proofs.Tryz
set_option linter.unusedSimpArgs false
set_option linter.unusedVariables false
set_option maxRecDepth 4000
set_option maxRecDepth 100000
namespace Go.Ab
def akB(h b:Int):Int:=Cy .i64 (IntKind.i64.wrap (IntKind.i64.wrap (IntKind.i64.wrap (h*131)+b)+7)) 1073741823
def H9:List Int->Int->Int
 |[],h=>h
 |b::r,h=>H9 r (akB h b)
def tu(bs:List Int):Cu bs:=⟨0,H9 (bs.take 4000) (28803+bs.length),Int.le_refl _,by omega⟩
theorem Xx{es:List (List D)}(h:∀y∈es,∃x,y=[.i .u8 x]/\(Lit.int .u8 x).wf=true):∃xs:List Int,es=xs.map zy/\∀x∈xs,0<=x/\x<=255:=by
 induction es with
 |nil=>exact⟨[],rfl,fun x h=>by cases h⟩
 |cons y es ih=>
  obtain⟨x,rfl,hx⟩:=h y List.mem_cons_self;obtain⟨xs,rfl,hxs⟩:=ih fun z hz=>h z (List.mem_cons_of_mem _ hz);refine⟨x::xs,rfl,fun z hz=> ?_⟩;rcases List.mem_cons.1 hz with rfl|hz
  ·have h1:IntKind.u8.min=0:=by decide
   have h2:IntKind.u8.max=255:=by decide
   simp only[Lit.wf,Bool.and_eq_true,decide_eq_true_eq,h1,h2] at hx;exact hx
  ·exact hxs z hz
theorem Rk{bs:List Int}(hB:Bytes bs)(cK:List Ab.Obj)(Ω:Store):cB prog 31 [.c (.d (.sl (bs.map zy)))] (cK::Ω) (fun r S'=>r=.c (.ptr (0,cK.length) 0)/\S'=(cK++[.box (cur (tu bs))])::Ω):=by
 have hl:=hB.len;refine F7 (rs:=[.tmp 2]) zmx func31 ntmps31 rfl rfl rfl rfl rfl ?_;simp -implicitDefEqProofs (disch:=omega) only[go_sem]
 refine bO (ι:=Nat×Int) zmx rfl [0,3,4] (fun y=>[.c (.d (.sl (bs.map zy))),.c (.d (.i .i64 y.2)),.c (.d (.i .i64 y.1))]) (fun _=>[]::cK::Ω)
  (fun y=>y.1<=bs.length/\y.1<=4000/\H9 ((bs.take 4000).drop y.1) y.2=H9 (bs.take 4000) (28803+bs.length)) (fun y=>bs.length-y.1) (0,28803+bs.length) rfl rfl ⟨Nat.zero_le _,Nat.zero_le _,by rw[List.drop_zero]⟩ ?_
 rintro⟨i,q⟩ ⟨p1,p2,p3⟩;simp only at p1 p2 p3;simp -implicitDefEqProofs (disch:=omega) only[go_sem]
 have fin:(¬i<bs.length\/¬i<4000)->(cK++[Ab.Obj.box [.d (.sl (bs.map zy)),.d (.i .i64 0),.d (.i .i64 q)]])::Ω=(cK++[.box (cur (tu bs))])::Ω:=fun hq=>by
  rw[List.drop_eq_nil_of_le (by rw[List.length_take];omega)] at p3;rw[show q=H9 (bs.take 4000) (28803+bs.length) from p3];rfl
 with_reducible refine aD (fun hb=> ?_) (fun hb=> ?_)<;>have h:=hb<;>(try simp only[wf_preprocess] at h)<;>simp -implicitDefEqProofs (disch:=omega) only[go_sem,hb]<;>(repeat(with_reducible refine And.intro ?_ ?_;focus first|omega|rfl|assumption|exact⟨_,rfl,rfl⟩|(simp;omega)|(simp;done)))
 ·with_reducible refine aD (fun hb=> ?_) (fun hb=> ?_)<;>have h:=hb<;>(try simp only[wf_preprocess] at h)<;>simp -implicitDefEqProofs (disch:=omega) only[go_sem,hb]<;>(repeat(with_reducible refine And.intro ?_ ?_;focus first|omega|rfl|assumption|exact⟨_,rfl,rfl⟩|(simp;omega)|(simp;done)))
  ·have hi:i<bs.length:=by omega
   have hb:=hB.rng bs[i] (List.getElem_mem hi)
   have ht:(bs.take 4000).drop i=bs[i]::(bs.take 4000).drop (i+1):=by
    rw[List.drop_eq_getElem_cons (by rw[List.length_take];omega),List.getElem_take]
   rw[ht,H9] at p3;simp -implicitDefEqProofs (disch:=omega) only[go_sem,zy]
   (repeat(with_reducible refine And.intro ?_ ?_;focus first|omega|rfl|assumption|exact⟨_,rfl,rfl⟩|(simp;omega)|(simp;done)))
   all_goals try omega
   exact cZ (i+1,_) (by simp only;omega) rfl rfl ⟨by simp only;omega,by simp only;omega,p3⟩
  ·exact fin (.inr (by omega))
 ·exact fin (.inl (by omega))
theorem aik(bs:List Int):bg prog 7 [.c (.d (.sl (bs.map zy)))] (.c (.d (.b (decide (1048576<(bs.length:Int)))))):=fun S=>by
 refine zcx [.tmp 2] func7 ntmps7 ?_;simp -implicitDefEqProofs (disch:=omega) only[go_sem]
end Go.Ab