/-
  SEVERAL TEXTS IN ONE (merged by program): contracts and models, each with its own heading.
-/
import Derived.Test.YtnmjbebcebbmfaaGreatDoorPartDnbK
open Go.Proofs Go.Proofs.Tryz
set_option linter.unusedSimpArgs false
set_option linter.unusedVariables false
set_option maxRecDepth 4000
namespace Go.Ab
theorem aoX(b:UInt8):decide (firstIdx ⟨[43,45,42,60,61].toArray⟩ b>=0)=dec ([b]∈ops):=by
 have h:∀n:Nat,n<256->decide (firstIdx ⟨[43,45,42,60,61].toArray⟩ (UInt8.ofNat n)>=0)=decide ([UInt8.ofNat n]∈ops):=by decide +kernel
 have h1:=h b.toNat (UInt8.toNat_lt b);rw[UInt8.ofNat_toNat] at h1;rw[h1];by_cases h2:[b]∈ops
 ·rw[bK h2];simp[h2]
 ·rw[aO h2];simp[h2]
def ae6(k:Int):Int:=if k=5\/k=7\/k=11\/k=12 then 1 else if k=8\/k=10 then 2 else if k=9 then 3 else 0
def ae7(k:Int):Int:=if k=4\/k=6\/k=5 then 300 else if k=7\/k=11\/k=12 then 1 else if k=8\/k=10 then 2 else if k=9 then 3 else 0
theorem OI(l:List UInt8)(b:UInt8):adS prog 222 [.c (.d (.s l)),.c (.d (.i .u8 b.toNat))] (.c (.d (.i .i64 (firstIdx ⟨l.toArray⟩ b)))):=by
 refine⟨_,Extern.BytealgIndexByte.indexByte,func222,by kernel_rfl,by kernel_rfl,by kernel_rfl,by kernel_rfl,fun w σ S β vs hS hv=> ?_⟩;obtain⟨hl,h⟩:=hv;obtain⟨v0,e0,h0,_⟩:=h 0 _ rfl;obtain⟨v1,e1,h1,_⟩:=h 1 _ rfl;cases h0;cases h1
 have hvs:vs=[.string ⟨l.toArray⟩,.int .u8 b.toNat]:=by
  match vs,hl,e0,e1 with
  |[x,y],_,e0,e1=>simp at e0 e1;rw[e0,e1]
 subst hvs;refine⟨_,run_indexByte_string _ _ w,?_,rfl⟩
 have hb:(b.toNat:Int).toNat.toUInt8=b:=gL
 rw[hb];exact .i _ _
theorem ML(l:List UInt8)(b:UInt8):aD prog 196 [.c (.d (.s l)),.c (.d (.i .u8 b.toNat))] (.c (.d (.i .i64 (firstIdx ⟨l.toArray⟩ b)))):=fun S=>by
 refine zcx [.tmp 4] func196 ntmps196 ?_;refine W1 ?_;refine aqF (OI l b) ?_;exact Z1
theorem abI(l:List UInt8)(b:UInt8)(hl:[b]≠l):aD prog 283 [.c (.d (.s l)),.c (.d (.s [b]))] (.c (.d (.i .i64 (firstIdx ⟨l.toArray⟩ b)))):=fun S=>by
 have c1:decide (((1:Nat):Int)=0)=false:=rfl;have c2:decide (((1:Nat):Int)=1)=true:=rfl;refine zcx [.tmp 4] func283 ntmps283 ?_;simp -implicitDefEqProofs (disch:=omega) only[go_sem,c1,c2]
 with_reducible refine qJ (fun hb=> ?_) (fun hb=> ?_)<;>have h:=hb<;>(try simp only[wf_preprocess] at h)<;>simp -implicitDefEqProofs (disch:=omega) only[go_sem,hb,c1,c2]<;>refine W3 ?_
 ·exact absurd h hl
 exact C4 (ML l b)
theorem aia(l:List UInt8)(b:UInt8)(hl:[b]≠l):aD prog 274 [.c (.d (.s l)),.c (.d (.s [b]))] (.c (.d (.i .i64 (firstIdx ⟨l.toArray⟩ b)))):=fun S=>by
 refine zcx [.tmp 4] func274 ntmps274 ?_;refine W1 ?_;exact C4 (abI l b hl)
theorem Zh(l:List UInt8)(b:UInt8)(hl:[b]≠l):aD prog 263 [.c (.d (.s l)),.c (.d (.s [b]))] (.c (.d (.b (decide (firstIdx ⟨l.toArray⟩ b>=0))))):=fun S=>by
 refine zcx [.tmp 4] func263 ntmps263 ?_;refine W1 ?_;exact C4 (aia l b hl)
theorem WY(s:List UInt8):aD prog 251 [.c (.d (.s s))] (.c (.d (.b (dec (s∈ops))))):=fun S=>by
 refine zcx [.tmp 2] func251 ntmps251 ?_;refine W1 ?_;refine S0 (fun hb h=>?_) fun hb h=>?_
 ·obtain⟨b,rfl⟩:=List.length_eq_one_iff.1 (show s.length=1 by omega);refine C2 (Zh [43,45,42,60,61] b (by intro x;cases x)) ?_;exact aK (aoX b)
 ·exact aK (aO fun x=>h (by rw[ah9 x];rfl)).symm
theorem Lp(t:ak):aD prog 101 [t.v] (.c (.d (.b (dec (zS t))))):=fun S=>by
 refine zcx [.tmp 2] func101 ntmps101 ?_;refine W1 ?_
 repeat' (first
  |refine S0 (fun hb h=>?_) fun hb h=>?_
  |(refine aK ?_;unfold zS;grind [bK,aO,gD,jw]))
theorem O7(k:Int):aD prog 250 [.c (.d (.i .i64 k))] (.eu [(false,[.d (.i .i64 (ae6 k))]),(false,[.d (.i .i64 (ae7 k))])]):=fun S=>by
 refine zcx [.tmp 2,.tmp 3] func250 ntmps250 ?_;refine W1 ?_
 repeat' (first
  |refine S0 (fun hb h=>?_) fun hb h=>?_
  |(unfold ae6 ae7;grind))
end Go.Ab