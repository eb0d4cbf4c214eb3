/-
  SEVERAL TEXTS IN ONE (merged by program): contracts and models, each with its own heading.
-/
import Derived.Test.YtnmjbebcebbmfaaGreatDoorPartDnbG
open Go.Proofs Go.Proofs.Tryz
set_option linter.unusedSimpArgs false
set_option linter.unusedVariables false
set_option maxRecDepth 4000
set_option maxRecDepth 100000
namespace Go.Ab
def atq(h b:Int):Int:=IX .i64 (IntKind.i64.wrap (IntKind.i64.wrap (IntKind.i64.wrap (h*131)+b)+7)) 1073741823
def Oj:List Int->Int->Int
 |[],h=>h
 |b::r,h=>Oj r (atq h b)
def yC(bs:List Int):Cu bs:=⟨0,Oj (bs.take 4000) (28803+bs.length),Int.le_refl _,gA⟩
theorem aeY{es:List (List D)}(h:∀y∈es,∃x,y=[.i .u8 x]/\(Lit.int .u8 x).wf=true):∃xs:List Int,es=xs.map Gx/\∀x∈xs,0<=x/\x<=255:=by
 induction es with
 |nil=>exact⟨[],rfl,fun x h=>by cases h⟩
 |cons y es ih=>
  obtain⟨x,rfl,hx⟩:=h y ey;obtain⟨xs,rfl,hxs⟩:=ih fun z hz=>h z (eC _ hz);refine⟨x::xs,rfl,fun z hz=> ?_⟩;rcases cT.1 hz with rfl|hz
  ·have h1:IntKind.u8.min=0:=gE
   have h2:IntKind.u8.max=255:=gE
   simp only[Lit.wf,ai,decide_eq_true_eq,h1,h2] at hx;exact hx
  ·exact hxs z hz
theorem alx{bs:List Int}(hB:Bytes bs)(bY:List Ab.Obj)(Ω:Store):bS prog 11 [.c (.d (.sl (bs.map Gx)))] (bY::Ω) (fun r S'=>r=.c (.ptr (0,bY.length) 0)/\S'=(bY++[.box (cur (yC bs))])::Ω):=by
 have hl:=hB.len;refine Mq (rs:=[.tmp 2]) zmx func11 ntmps11 rfl rfl rfl rfl rfl ?_;refine W1 ?_
 refine aZ (ι:=Nat×Int) zmx rfl [0,3,4] (fun y=>[.c (.d (.sl (bs.map Gx))),.c (.d (.i .i64 y.2)),.c (.d (.i .i64 y.1))]) (fun _=>[]::bY::Ω)
  (fun y=>y.1<=bs.length/\y.1<=4000/\Oj ((bs.take 4000).drop y.1) y.2=Oj (bs.take 4000) (28803+bs.length)) (fun y=>bs.length-y.1) (0,28803+bs.length) rfl rfl ⟨an _,an _,by rw[cN]⟩ ?_
 rintro⟨i,q⟩ ⟨p1,p2,p3⟩;simp only at p1 p2 p3;refine W1 ?_
 have fin:(¬i<bs.length\/¬i<4000)->(bY++[Ab.Obj.box [.d (.sl (bs.map Gx)),.d (.i .i64 0),.d (.i .i64 q)]])::Ω=(bY++[.box (cur (yC bs))])::Ω:=fun hq=>by
  rw[ff (by rw[cj];omega)] at p3;rw[show q=Oj (bs.take 4000) (28803+bs.length) from p3];rfl
 refine S0 (fun hb h=>?_) fun hb h=>?_
 ·refine S0 (fun hb h=>?_) fun hb h=>?_
  ·have hi:i<bs.length:=gA
   have hb:=hB.rng bs[i] (ac hi)
   have ht:(bs.take 4000).drop i=bs[i]::(bs.take 4000).drop (i+1):=by
    rw[cb (by rw[cj];omega),List.getElem_take]
   rw[ht,Oj] at p3;simp -implicitDefEqProofs (disch:=omega) only[go_sem,Gx];refine W3 ?_
   all_goals try omega
   exact dH (i+1,_) gC rfl rfl ⟨gC,gC,p3⟩
  ·exact fin (.inr gA)
 ·exact fin (.inl gA)
theorem aq0(bs:List Int):aD prog 4 [.c (.d (.sl (bs.map Gx)))] (.c (.d (.b (decide (1048576<(bs.length:Int)))))):=fun S=>by
 refine zcx [.tmp 2] func4 ntmps4 ?_;exact Z1
def anz{bs:List Int}(n:Int)(c:Cu bs):Int×Cu bs:=
 (((iE c).1*16777216+(iE (iE c).2).1*65536+(iE (iE (iE c).2).2).1*256+(iE (iE (iE (iE c).2).2).2).1).tmod n,(iE (iE (iE (iE c).2).2).2).2)
def mJ{bs:List Int}(n:Int)(c:Cu bs):Int×Cu bs:=if n<=256 then aY n c else anz n c
theorem Fw{bs:List Int}{n:Int}(c:Cu bs)(h:1<=n):0<=(mJ n c).1/\(mJ n c).1<n:=by
 unfold mJ;split
 ·exact iF c h
 ·have h1:=sQ c;have h2:=sQ (iE c).2;have h3:=sQ (iE (iE c).2).2;have h4:=sQ (iE (iE (iE c).2).2).2;exact⟨Int.tmod_nonneg _ gA,Int.tmod_lt_of_pos _ gA⟩
theorem I8{bs:List Int}(hB:Bytes bs)(c:Cu bs)(l j:Nat)(S:Store)(n:Int)(hk:bC S (l,j)=some (.box (cur c)))(h1:1<=n)(h2:n<=1048577):
 bS prog 46 [.c (.ptr (l,j) 0),.c (.d (.i .i64 n))] S (fun r S'=>r=.c (.d (.i .i64 (mJ n c).1))/\S'=bA S (l,j) (.box (cur (mJ n c).2))):=by
 unfold mJ;by_cases hn:n<=256
 ·rw[if_pos hn];exact eB hB c l j S n hk h1 hn
 rw[if_neg hn];unfold anz;have g:∀x:Ab.Obj,bC (bA S (l,j) x) (l,j)=some x:=fun x=>dA _ _ _ _ hk;have r1:=sQ c;have r2:=sQ (iE c).2;have r3:=sQ (iE (iE c).2).2;have r4:=sQ (iE (iE (iE c).2).2).2
 generalize hx1:(iE c).1=x1 at *
 generalize hc1:(iE c).2=c1 at *
 generalize hx2:(iE c1).1=x2 at *
 generalize hc2:(iE c1).2=c2 at *
 generalize hx3:(iE c2).1=x3 at *
 generalize hc3:(iE c2).2=c3 at *
 generalize hx4:(iE c3).1=x4 at *
 generalize hc4:(iE c3).2=c4 at *
 have d1:decide (n<=0)=false:=decide_eq_false gA;have d2:decide (n<=256)=false:=decide_eq_false hn;have q1:=DZ hB c (1+l) j ([]::S) (by rw[aW];exact hk);rw[hx1,hc1,dn] at q1;have q2:=DZ hB c1 (1+l) j ([]::bA S (l,j) (.box (cur c1))) gO;rw[hx2,hc2,dn,cu] at q2;have q3:=DZ hB c2 (1+l) j ([]::bA S (l,j) (.box (cur c2))) gO;rw[hx3,hc3,dn,cu] at q3;have q4:=DZ hB c3 (1+l) j ([]::bA S (l,j) (.box (cur c3))) gO;rw[hx4,hc4,dn,cu] at q4;refine zcx [.tmp 4] func46 ntmps46 ?_;simp -implicitDefEqProofs (disch:=omega) only[go_sem,d1,d2];refine bD rfl q1 ?_;refine W1 ?_;refine bD rfl q2 ?_;refine W1 ?_;refine bD rfl q3 ?_;refine W1 ?_;refine bD rfl q4 ?_;refine W1 ?_;refine W3 ?_
 first|omega|exact⟨rfl,rfl⟩|rfl
end Go.Ab