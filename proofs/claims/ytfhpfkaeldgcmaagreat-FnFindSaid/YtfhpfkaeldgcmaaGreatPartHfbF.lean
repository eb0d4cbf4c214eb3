/-
  SEVERAL TEXTS IN ONE (merged by program): contracts and models, each with its own heading.
-/
import Derived.Test.YtfhpfkaeldgcmaaGreatPartHfbE
open Go.Proofs Go.Proofs.Tryz
set_option linter.unusedSimpArgs false
set_option linter.unusedVariables false
set_option maxRecDepth 4000
namespace Go.Ab
def zy(x:Int):List D:=[.i .u8 x]
theorem Rj(a:Int):0<=Cy .i64 a 255/\Cy .i64 a 255<=255:=by
 have h:(BitVec.ofInt IntKind.i64.bits a &&& BitVec.ofInt IntKind.i64.bits 255).toNat<=255:=by
  rw[BitVec.toNat_and];refine Nat.le_trans Nat.and_le_right ?_;decide
 unfold Cy;rw[IntWalk.i64_in _ (by omega)];omega
structure Bytes(bs:List Int):Prop where
 len:bs.length<=1048576
 rng:∀x∈bs,0<=x/\x<=255
structure Cu(bs:List Int) where
 i:Int
 h:Int
 lo:0<=i
 hi:i<=bs.length
def cur{bs:List Int}(c:Cu bs):List C:=[.d (.sl (bs.map zy)),.d (.i .i64 c.i),.d (.i .i64 c.h)]
def hN(h:Int):Int:=IntKind.i64.wrap (IntKind.i64.wrap (h*6364136223846793005)+1442695040888963407)
def H8(h:Int):Int:=Cy .i64 (PY .i64 (Ji .i64 (hN h) 33) (Ji .i64 (hN h) 45)) 255
def z8{bs:List Int}(c:Cu bs):Int×Cu bs:=
 if h:c.i<bs.length then(Cy .i64 (H8 c.h+bs.getD c.i.toNat 0) 255,⟨c.i+1,hN c.h,by have:=c.lo;omega,by omega⟩) else(H8 c.h,⟨c.i,hN c.h,c.lo,c.hi⟩)
theorem NW{bs:List Int}(c:Cu bs):0<=(z8 c).1/\(z8 c).1<=255:=by
 unfold z8;split
 ·exact Rj _
 ·exact Rj _
def aX{bs:List Int}(n:Int)(c:Cu bs):Int×Cu bs:=((z8 c).1.tmod n,(z8 c).2)
theorem iE{bs:List Int}{n:Int}(c:Cu bs)(h:1<=n):0<=(aX n c).1/\(aX n c).1<n:=
 ⟨Int.tmod_nonneg _ (NW c).1,Int.tmod_lt_of_pos _ (by omega)⟩
def bV{bs:List Int}(n:Int)(c:Cu bs):Bool×Cu bs:=(decide ((aX n c).1=0),(aX n c).2)
def bQ{bs:List Int}(xs:List (List UInt8))(c:Cu bs):List UInt8×Cu bs:=(xs.getD (aX xs.length c).1.toNat [],(aX xs.length c).2)
theorem BS{bs:List Int}{xs:List (List UInt8)}(c:Cu bs)(h:1<=xs.length):(bQ xs c).1∈xs:=by
 have:=iE (n:=xs.length) c (by omega);unfold bQ
 have hi:(aX (xs.length:Int) c).1.toNat<xs.length:=by omega
 simp only[List.getD,List.getElem?_eq_getElem hi,Option.getD_some];exact List.getElem_mem hi
theorem aap{bs:List Int}(hB:Bytes bs)(c:Cu bs)(l j:Nat)(S:Store)(hk:bA S (l,j)=some (.box (cur c))):
 cB prog 64 [.c (.ptr (l,j) 0)] S (fun r S'=>r=.c (.d (.i .i64 (z8 c).1))/\S'=bq S (l,j) (.box (cur (z8 c).2))):=by
 have h0:0<=H8 c.h/\H8 c.h<=255:=Rj _;have hl:=hB.len;have g:∀x:Ab.Obj,bA (bq S (l,j) x) (l,j)=some x:=fun x=>dw _ _ _ _ hk;obtain⟨i,h,lo,hi⟩:=c;simp only at h0;by_cases hlt:i<bs.length
 ·have hb:=hB.rng (bs[i.toNat]'(by omega)) (List.getElem_mem _);have h1:decide (i<(bs.length:Int))=true:=decide_eq_true hlt
  have e:bs.getD i.toNat 0=bs[i.toNat]'(by omega):=by simp[List.getD,(show i.toNat<bs.length by omega)]
  rw[z8,dif_pos hlt];simp only[e]
  unfold H8 hN at *
  refine zcx [.tmp 2] func64 ntmps64 ?_;simp -implicitDefEqProofs (disch:=omega) only[go_sem,hk,cur,g,ah,h1,zy]
  (repeat(with_reducible refine And.intro ?_ ?_;focus first|omega|rfl|assumption|exact⟨_,rfl,rfl⟩|(simp;omega)|(simp;done)))
  all_goals first|exact⟨rfl,rfl⟩|rfl|omega
 ·have h1:decide (i<(bs.length:Int))=false:=decide_eq_false hlt;rw[z8,dif_neg hlt]
  unfold H8 hN at *
  refine zcx [.tmp 2] func64 ntmps64 ?_;simp -implicitDefEqProofs (disch:=omega) only[go_sem,hk,cur,g,ah,h1,zy]
  first|done|exact⟨rfl,rfl⟩|rfl
theorem d9{bs:List Int}(hB:Bytes bs)(c:Cu bs)(l j:Nat)(S:Store)(n:Int)(hk:bA S (l,j)=some (.box (cur c)))(h1:1<=n)(h2:n<=256):
 cB prog 33 [.c (.ptr (l,j) 0),.c (.d (.i .i64 n))] S (fun r S'=>r=.c (.d (.i .i64 (aX n c).1))/\S'=bq S (l,j) (.box (cur (aX n c).2))):=by
 have hx:=NW c;have d1:decide (n<=0)=false:=decide_eq_false (by omega);have d2:decide (n<=256)=true:=decide_eq_true h2;refine zcx [.tmp 4] func33 ntmps33 ?_;simp -implicitDefEqProofs (disch:=omega) only[go_sem,d1,d2];refine bE rfl (aap hB c (1+l) j ([]::S) (by rw[aJ];exact hk)) ?_;simp -implicitDefEqProofs (disch:=omega) only[go_sem,ak]
 (repeat(with_reducible refine And.intro ?_ ?_;focus first|omega|rfl|assumption|exact⟨_,rfl,rfl⟩|(simp;omega)|(simp;done)))
 first|done|exact⟨rfl,rfl⟩|rfl
theorem iF{bs:List Int}(hB:Bytes bs)(c:Cu bs)(l j:Nat)(S:Store)(n:Int)(hk:bA S (l,j)=some (.box (cur c)))(h1:1<=n)(h2:n<=256):
 cB prog 62 [.c (.ptr (l,j) 0),.c (.d (.i .i64 n))] S (fun r S'=>r=.c (.d (.b (bV n c).1))/\S'=bq S (l,j) (.box (cur (bV n c).2))):=by
 refine zcx [.tmp 4] func62 ntmps62 ?_;simp -implicitDefEqProofs (disch:=omega) only[go_sem];refine bE rfl (d9 hB c (1+l) j ([]::S) n (by rw[aJ];exact hk) h1 h2) ?_;simp -implicitDefEqProofs (disch:=omega) only[go_sem,ak]
 first|done|exact⟨rfl,rfl⟩|rfl
theorem dQ{bs:List Int}(hB:Bytes bs)(c:Cu bs)(l j:Nat)(S:Store)(xs:List (List UInt8))(hk:bA S (l,j)=some (.box (cur c)))(h1:1<=xs.length)(h2:xs.length<=256):
 cB prog 46 [.c (.ptr (l,j) 0),.c (.d (.sl (xs.map encS)))] S (fun r S'=>r=.c (.d (.s (bQ xs c).1))/\S'=bq S (l,j) (.box (cur (bQ xs c).2))):=by
 have hx:=iE (n:=xs.length) c (by omega);refine zcx [.tmp 4] func46 ntmps46 ?_;simp -implicitDefEqProofs (disch:=omega) only[go_sem,encS];refine bE rfl (d9 hB c (1+l) j ([]::S) xs.length (by rw[aJ];exact hk) (by omega) (by omega)) ?_
 have hi:(aX (xs.length:Int) c).1.toNat<xs.length:=by omega
 have e:(bQ xs c).1=xs[(aX (xs.length:Int) c).1.toNat]:=by simp only[bQ,List.getD,List.getElem?_eq_getElem hi,Option.getD_some]
 simp -implicitDefEqProofs (disch:=omega) only[go_sem,encS,ak]
 (repeat(with_reducible refine And.intro ?_ ?_;focus first|omega|rfl|assumption|exact⟨_,rfl,rfl⟩|(simp;omega)|(simp;done)))
 rw[e]
 first|done|exact⟨rfl,rfl⟩|rfl
end Go.Ab