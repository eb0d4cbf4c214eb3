/-
  SEVERAL TEXTS IN ONE (merged by program): contracts and models, each with its own heading.
-/
import Derived.Test.YtbaefeecjjhhkaaGreatDoorPartOcbC
open Go.Proofs Go.Proofs.Tryz
set_option linter.unusedSimpArgs false
set_option linter.unusedVariables false
set_option maxRecDepth 4000
namespace Go.Ab
theorem ali(b:UInt8):decide (firstIdx ⟨[43,45,42,60,61].toArray⟩ b>=0)=dec ([b]∈ops):=by
 have h:∀n:Nat,n<256->decide (firstIdx ⟨[43,45,42,60,61].toArray⟩ (UInt8.ofNat n)>=0)=decide ([UInt8.ofNat n]∈ops):=by decide +kernel
 have h1:=h b.toNat (UInt8.toNat_lt b);rw[UInt8.ofNat_toNat] at h1;rw[h1];by_cases h2:[b]∈ops
 ·rw[bD h2];simp[h2]
 ·rw[aK h2];simp[h2]
def ach(k:Int):Int:=if k=5\/k=7\/k=11\/k=12 then 1 else if k=8\/k=10 then 2 else if k=9 then 3 else 0
def aci(k:Int):Int:=if k=4\/k=6\/k=5 then 300 else if k=7\/k=11\/k=12 then 1 else if k=8\/k=10 then 2 else if k=9 then 3 else 0
theorem Ma(l:List UInt8)(b:UInt8):aa4 prog 202 [.c (.d (.s l)),.c (.d (.i .u8 b.toNat))] (.c (.d (.i .i64 (firstIdx ⟨l.toArray⟩ b)))):=by
 refine⟨_,Extern.BytealgIndexByte.indexByte,func202,by kernel_rfl,by kernel_rfl,by kernel_rfl,by kernel_rfl,fun w σ S β vs hS hv=> ?_⟩;obtain⟨hl,h⟩:=hv;obtain⟨v0,e0,h0,_⟩:=h 0 _ rfl;obtain⟨v1,e1,h1,_⟩:=h 1 _ rfl;cases h0;cases h1
 have hvs:vs=[.string ⟨l.toArray⟩,.int .u8 b.toNat]:=by
  match vs,hl,e0,e1 with
  |[x,y],_,e0,e1=>simp at e0 e1;rw[e0,e1]
 subst hvs;refine⟨_,run_indexByte_string _ _ w,?_,rfl⟩
 have hb:(b.toNat:Int).toNat.toUInt8=b:=by simp
 rw[hb];exact .i _ _
theorem Kc(l:List UInt8)(b:UInt8):aC prog 148 [.c (.d (.s l)),.c (.d (.i .u8 b.toNat))] (.c (.d (.i .i64 (firstIdx ⟨l.toArray⟩ b)))):=fun S=>by
 refine zcx [.tmp 4] func148 ntmps148 ?_;refine W1 ?_;refine amQ (Ma l b) ?_;exact Z1
theorem Y9(l:List UInt8)(b:UInt8)(hl:[b]≠l):aC prog 144 [.c (.d (.s l)),.c (.d (.s [b]))] (.c (.d (.i .i64 (firstIdx ⟨l.toArray⟩ b)))):=fun S=>by
 have c1:decide (((1:Nat):Int)=0)=false:=rfl;have c2:decide (((1:Nat):Int)=1)=true:=rfl;refine zcx [.tmp 4] func144 ntmps144 ?_;simp -implicitDefEqProofs (disch:=omega) only[go_sem,c1,c2]
 with_reducible refine dZ (fun hb=> ?_) (fun hb=> ?_)<;>have h:=hb<;>(try simp only[wf_preprocess] at h)<;>simp -implicitDefEqProofs (disch:=omega) only[go_sem,hb,c1,c2]<;>refine W3 ?_
 ·exact absurd h hl
 exact C4 (Kc l b)
theorem aff(l:List UInt8)(b:UInt8)(hl:[b]≠l):aC prog 89 [.c (.d (.s l)),.c (.d (.s [b]))] (.c (.d (.i .i64 (firstIdx ⟨l.toArray⟩ b)))):=fun S=>by
 refine zcx [.tmp 4] func89 ntmps89 ?_;refine W1 ?_;exact C4 (Y9 l b hl)
theorem Wv(l:List UInt8)(b:UInt8)(hl:[b]≠l):aC prog 305 [.c (.d (.s l)),.c (.d (.s [b]))] (.c (.d (.b (decide (firstIdx ⟨l.toArray⟩ b>=0))))):=fun S=>by
 refine zcx [.tmp 4] func305 ntmps305 ?_;refine W1 ?_;exact C4 (aff l b hl)
theorem Uk(s:List UInt8):aC prog 291 [.c (.d (.s s))] (.c (.d (.b (dec (s∈ops))))):=fun S=>by
 refine zcx [.tmp 2] func291 ntmps291 ?_;refine W1 ?_;refine S0 (fun hb h=>?_) fun hb h=>?_
 ·obtain⟨b,rfl⟩:=List.length_eq_one_iff.1 (show s.length=1 by omega);refine C2 (Wv [43,45,42,60,61] b (by intro x;cases x)) ?_;exact aH (ali b)
 ·exact aH (aK fun x=>h (by rw[ae3 x];rfl)).symm
theorem Jo(t:ak):aC prog 171 [t.v] (.c (.d (.b (dec (xY t))))):=fun S=>by
 refine zcx [.tmp 2] func171 ntmps171 ?_;refine W1 ?_
 repeat' (first
  |refine S0 (fun hb h=>?_) fun hb h=>?_
  |(refine aH ?_;unfold xY;grind [bD,aK,gq,jc]))
theorem MC(k:Int):aC prog 290 [.c (.d (.i .i64 k))] (.dN [(false,[.d (.i .i64 (ach k))]),(false,[.d (.i .i64 (aci k))])]):=fun S=>by
 refine zcx [.tmp 2,.tmp 3] func290 ntmps290 ?_;refine W1 ?_
 repeat' (first
  |refine S0 (fun hb h=>?_) fun hb h=>?_
  |(unfold ach aci;grind))
end Go.Ab