/-
  SEVERAL TEXTS IN ONE (merged by program): contracts and models, each with its own heading.
-/
import Derived.Test.YtnmjbebcebbmfaaGreatDoorPartDnbF
open Go.Proofs Go.Proofs.Tryz
set_option linter.unusedSimpArgs false
set_option linter.unusedVariables false
set_option maxRecDepth 4000
attribute [go_sem] Go.Ab.dn Go.Ab.cu
namespace Go.Ab
def Gx(x:Int):List D:=[.i .u8 x]
theorem Y0(a:Int):0<=IX .i64 a 255/\IX .i64 a 255<=255:=by
 have h:(BitVec.ofInt IntKind.i64.bits a &&& BitVec.ofInt IntKind.i64.bits 255).toNat<=255:=by
  rw[BitVec.toNat_and];refine co Nat.and_le_right ?_;decide
 unfold IX;rw[IntWalk.i64_in _ gA];omega
structure Bytes(bs:List Int):Prop where
 len:bs.length<=1048576
 rng:∀x∈bs,0<=x/\x<=255
structure Cu(bs:List Int) where
 i:Int
 h:Int
 lo:0<=i
 hi:i<=bs.length
def cur{bs:List Int}(c:Cu bs):List C:=[.d (.sl (bs.map Gx)),.d (.i .i64 c.i),.d (.i .i64 c.h)]
def hN(h:Int):Int:=IntKind.i64.wrap (IntKind.i64.wrap (h*6364136223846793005)+1442695040888963407)
def Oi(h:Int):Int:=IX .i64 (XL .i64 (Pw .i64 (hN h) 33) (Pw .i64 (hN h) 45)) 255
def iE{bs:List Int}(c:Cu bs):Int×Cu bs:=
 if h:c.i<bs.length then(IX .i64 (Oi c.h+bs.getD c.i.toNat 0) 255,⟨c.i+1,hN c.h,by have:=c.lo;omega,gA⟩) else(Oi c.h,⟨c.i,hN c.h,c.lo,c.hi⟩)
theorem sQ{bs:List Int}(c:Cu bs):0<=(iE c).1/\(iE c).1<=255:=by
 unfold iE;split
 ·exact Y0 _
 ·exact Y0 _
def aY{bs:List Int}(n:Int)(c:Cu bs):Int×Cu bs:=((iE c).1.tmod n,(iE c).2)
theorem iF{bs:List Int}{n:Int}(c:Cu bs)(h:1<=n):0<=(aY n c).1/\(aY n c).1<n:=
 ⟨Int.tmod_nonneg _ (sQ c).1,Int.tmod_lt_of_pos _ gA⟩
def bZ{bs:List Int}(n:Int)(c:Cu bs):Bool×Cu bs:=(decide ((aY n c).1=0),(aY n c).2)
def cK{bs:List Int}(xs:List (List UInt8))(c:Cu bs):List UInt8×Cu bs:=(xs.getD (aY xs.length c).1.toNat [],(aY xs.length c).2)
theorem Ms{bs:List Int}{xs:List (List UInt8)}(c:Cu bs)(h:1<=xs.length):(cK xs c).1∈xs:=by
 have:=iF (n:=xs.length) c gA;unfold cK
 have hi:(aY (xs.length:Int) c).1.toNat<xs.length:=gA
 simp only[List.getD,am hi,dq];exact ac hi
theorem DZ{bs:List Int}(hB:Bytes bs)(c:Cu bs)(l j:Nat)(S:Store)(hk:bC S (l,j)=some (.box (cur c))):
 bS prog 114 [.c (.ptr (l,j) 0)] S (fun r S'=>r=.c (.d (.i .i64 (iE c).1))/\S'=bA S (l,j) (.box (cur (iE c).2))):=by
 have h0:0<=Oi c.h/\Oi c.h<=255:=Y0 _;have hl:=hB.len;have g:∀x:Ab.Obj,bC (bA S (l,j) x) (l,j)=some x:=fun x=>dA _ _ _ _ hk;obtain⟨i,h,lo,hi⟩:=c;simp only at h0;by_cases hlt:i<bs.length
 ·have hb:=hB.rng (bs[i.toNat]' gA) (ac _);have h1:decide (i<(bs.length:Int))=true:=decide_eq_true hlt
  have e:bs.getD i.toNat 0=bs[i.toNat]' gA:=by simp[List.getD,(show i.toNat<bs.length by omega)]
  rw[iE,dif_pos hlt];simp only[e]
  unfold Oi hN at *
  refine zcx [.tmp 2] func114 ntmps114 ?_;simp -implicitDefEqProofs (disch:=omega) only[go_sem,hk,cur,g,h1,Gx];refine W3 ?_
  all_goals first|exact⟨rfl,rfl⟩|rfl|omega
 ·have h1:decide (i<(bs.length:Int))=false:=decide_eq_false hlt;rw[iE,dif_neg hlt]
  unfold Oi hN at *
  refine zcx [.tmp 2] func114 ntmps114 ?_;simp -implicitDefEqProofs (disch:=omega) only[go_sem,hk,cur,g,h1,Gx]
  first|done|exact⟨rfl,rfl⟩|rfl
theorem eB{bs:List Int}(hB:Bytes bs)(c:Cu bs)(l j:Nat)(S:Store)(n:Int)(hk:bC S (l,j)=some (.box (cur c)))(h1:1<=n)(h2:n<=256):
 bS prog 46 [.c (.ptr (l,j) 0),.c (.d (.i .i64 n))] S (fun r S'=>r=.c (.d (.i .i64 (aY n c).1))/\S'=bA S (l,j) (.box (cur (aY n c).2))):=by
 have hx:=sQ c;have d1:decide (n<=0)=false:=decide_eq_false gA;have d2:decide (n<=256)=true:=decide_eq_true h2;refine zcx [.tmp 4] func46 ntmps46 ?_;simp -implicitDefEqProofs (disch:=omega) only[go_sem,d1,d2];refine bD rfl (DZ hB c (1+l) j ([]::S) (by rw[aW];exact hk)) ?_;refine W1 ?_;refine W3 ?_
 first|done|exact⟨rfl,rfl⟩|rfl
theorem iW{bs:List Int}(hB:Bytes bs)(c:Cu bs)(l j:Nat)(S:Store)(n:Int)(hk:bC S (l,j)=some (.box (cur c)))(h1:1<=n)(h2:n<=256):
 bS prog 14 [.c (.ptr (l,j) 0),.c (.d (.i .i64 n))] S (fun r S'=>r=.c (.d (.b (bZ n c).1))/\S'=bA S (l,j) (.box (cur (bZ n c).2))):=by
 refine zcx [.tmp 4] func14 ntmps14 ?_;refine W1 ?_;refine bD rfl (eB hB c (1+l) j ([]::S) n (by rw[aW];exact hk) h1 h2) ?_;refine W1 ?_
 first|done|exact⟨rfl,rfl⟩|rfl
theorem gB{bs:List Int}(hB:Bytes bs)(c:Cu bs)(l j:Nat)(S:Store)(xs:List (List UInt8))(hk:bC S (l,j)=some (.box (cur c)))(h1:1<=xs.length)(h2:xs.length<=256):
 bS prog 51 [.c (.ptr (l,j) 0),.c (.d (.sl (xs.map encS)))] S (fun r S'=>r=.c (.d (.s (cK xs c).1))/\S'=bA S (l,j) (.box (cur (cK xs c).2))):=by
 have hx:=iF (n:=xs.length) c gA;refine zcx [.tmp 4] func51 ntmps51 ?_;refine wm ?_;refine bD rfl (eB hB c (1+l) j ([]::S) xs.length (by rw[aW];exact hk) gA gA) ?_
 have hi:(aY (xs.length:Int) c).1.toNat<xs.length:=gA
 have e:(cK xs c).1=xs[(aY (xs.length:Int) c).1.toNat]:=by simp only[cK,List.getD,am hi,dq]
 refine wm ?_;refine W3 ?_;rw[e]
 first|done|exact⟨rfl,rfl⟩|rfl
end Go.Ab