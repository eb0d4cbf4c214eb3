/-
  SEVERAL TEXTS IN ONE (merged by program): contracts and models, each with its own heading.
-/
import Derived.Test.YtlaaknnkeidlbaaGreatDoorPartDedbP
import Derived.Test.YtlaaknnkeidlbaaGreatDoorPartDedbS
import Derived.Test.YtlaaknnkeidlbaaGreatDoorPartDedbU
import Derived.Test.YtlaaknnkeidlbaaGreatDoorPartDedbX
import Derived.Test.YtlaaknnkeidlbaaGreatDoorPartDedbY
import Derived.Test.YtlaaknnkeidlbaaGreatDoorRows
import Derived.LaidMore
import Derived.Stop.LaidErr
set_option maxHeartbeats 8000000
open Go.Proofs Go.Proofs.Tryz
set_option linter.unusedSimpArgs false
set_option linter.unusedVariables false
set_option maxRecDepth 4000
set_option maxRecDepth 100000
set_option maxRecDepth 8000
namespace Go.Ab
def Bq:List (List UInt8):=[[120],[122]]
theorem QN:eG Bq:=by unfold eG;decide
def Nz:List (List UInt8):=[[],[120],[65],[43]]
theorem W9:eG Nz:=by unfold eG;decide
def adi:List Int:=[-1000000,-999999,2,1000000]
def Xa:List (List UInt8):=[[],[115,104,111,119],[65]]
theorem Z8:eG Xa:=by unfold eG;decide
def Hf:List (List UInt8):=[[110,105,108],[]]
theorem Z9:eG Hf:=by unfold eG;decide
def uwL:List (List UInt8):=[[117],[119]]
theorem adj:eG uwL:=by unfold eG;decide
def FI{bs:List Int}(xs:List Int)(c:Cu bs):Int×Cu bs:=(xs.getD (aU xs.length c).1.toNat 0,(aU xs.length c).2)
def uT{bs:List Int}(k:Int)(e:aj)(c:Cu bs):aj×Cu bs:=
 if k=0 then(.mk ((aU 15 c).1-1) e.aW e.fName e.fN e.fType e.fArgs e.aG,(aU 15 c).2) else
 if k=1 then(.mk e.aH e.aW (bN Nz c).1 e.fN e.fType e.fArgs e.aG,(bN Nz c).2) else
 if k=2 then(.mk e.aH e.aW e.fName (FI adi c).1 e.fType e.fArgs e.aG,(FI adi c).2) else
 if k=3 then(.mk e.aH e.aW e.fName e.fN e.fType (e.fArgs++[lT 1]) e.aG,c) else
 if k=4 then(.mk e.aH (bN Xa c).1 e.fName e.fN e.fType e.fArgs e.aG,(bN Xa c).2) else
 if k=5 then(.mk e.aH e.aW e.fName e.fN e.fType e.fArgs (e.aG++[.mk (bN Hf c).1 [[117],(bN uwL (bN Hf c).2).1] (lT 1)]),(bN uwL (bN Hf c).2).2) else
 (e,c)
theorem adZ(k:Int)(t s:List UInt8)(n:Int)(ty:au)(a:List aj)(b:List aK):(aj.mk k t s n ty a b).v=.agg [.d (.i .i64 k),.d (.s t),.d (.s s),.d (.i .i64 n),.d (.i .i64 ty.aH),.d (.s ty.fName),.d (.sl (ty.fArgs.map au.enc)),.d (.sl (a.map aj.enc)),.d (.sl (b.map aK.enc))]:=rfl
def Cy{bs:List Int}(c:Cu bs):aj×Cu bs:=uT (aU 12 (dA 3 Bq c).2).1 (dA 3 Bq c).1 (aU 12 (dA 3 Bq c).2).2
theorem Ae:∀a b:List (List D),bC (a++b)=bC a+bC b
 |[],b=>by simp[bC]
 |r::a,b=>by rw[am,bC,bC,Ae a b];omega
theorem adk{bs:List Int}(k:Int)(e:aj)(c:Cu bs):(uT k e c).1.sz<=e.sz+40:=by
 have he:e.sz=_:=(congrArg aj.sz (aj.eta e)).symm.trans (jA ..);have h1:=iY c W9;have h2:=iY c Z8;have h3:=iY c Z9;have h4:=iY (bN Hf c).2 adj
 have h0:bG (lT 1).enc=0:=by rw[aj.dz,lT,jA,qF];simp[bC]
 have h5:bC ((e.fArgs++[lT 1]).map aj.enc)=bC (e.fArgs.map aj.enc):=by
  rw[bi,Ae];simp only[ag,az,bC,h0,di]
 have hi:(lT 1).sz=0:=h0;unfold uT;by_cases e0:k=0
 ·rw[if_pos e0];simp only[jA];omega
 rw[if_neg e0];by_cases e1:k=1
 ·rw[if_pos e1];simp only[jA];omega
 rw[if_neg e1];by_cases e2:k=2
 ·rw[if_pos e2];simp only[jA];omega
 rw[if_neg e2];by_cases e3:k=3
 ·rw[if_pos e3];simp only[jA,h5,ab,aa,aq];omega
 rw[if_neg e3];by_cases e4:k=4
 ·rw[if_pos e4];simp only[jA];omega
 rw[if_neg e4];by_cases e5:k=5
 ·rw[if_pos e5];simp only[jA,bi,Ae,ag,az,bC,oI,ab,aa,aq,encS,bG,D.sz,ai,hi];omega
 rw[if_neg e5];exact Nat.le_add_right _ _
theorem adl{bs:List Int}(c:Cu bs):(Cy c).1.sz<=1700:=by
 have h1:=Cn 3 Bq c QN;have h2:=adk (aU 12 (dA 3 Bq c).2).1 (dA 3 Bq c).1 (aU 12 (dA 3 Bq c).2).2;unfold Cy;omega
theorem QO{bs:List Int}(hB:Bytes bs)(c:Cu bs)(l j:Nat)(S:Store)(xs:List Int)(hk:aN S (l,j)=some (.box (cur c)))(h1:1<=xs.length)(h2:xs.length<=256):
 bL prog 77 [.c (.ptr (l,j) 0),.c (.d (.sl (xs.map encI)))] S (fun r S'=>r=.c (.d (.i .i64 (FI xs c).1))/\S'=aR S (l,j) (.box (cur (FI xs c).2))):=by
 have hx:=fG (n:=xs.length) c (by omega);refine zcx [.tmp 4] func77 ntmps77 ?_;simp -implicitDefEqProofs (disch:=omega) only[go_sem,encI];refine aQ rfl (dX hB c (1+l) j ([]::S) xs.length (by rw[aX];exact hk) (by omega) (by omega)) ?_
 have hi:(aU (xs.length:Int) c).1.toNat<xs.length:=by omega
 have e:(FI xs c).1=xs[(aU (xs.length:Int) c).1.toNat]:=by simp only[FI,List.getD,al hi,cN]
 simp -implicitDefEqProofs (disch:=omega) only[go_sem,encI]
 (repeat(with_reducible refine And.intro ?_ ?_;focus first|omega|rfl|assumption|exact⟨_,rfl,rfl⟩|(simp;omega)|(simp;done)))
 try rw[<-e]
 first|done|exact⟨rfl,rfl⟩|rfl
theorem Xb{bs:List Int}(hB:Bytes bs)(c:Cu bs)(l j:Nat)(S:Store)(hk:aN S (l,j)=some (.box (cur c))):
 bL prog 27 [.c (.ptr (l,j) 0)] S (fun r S1=>r=(Cy c).1.v/\S1=aR S (l,j) (.box (cur (Cy c).2))):=by
 have g:∀x:Ab.Obj,aN (aR S (l,j) x) (l,j)=some x:=fun x=>bX _ _ _ _ hk;unfold Cy;obtain⟨t,ht⟩:∃t,t=(dA 3 Bq c).1:=⟨_,rfl⟩;obtain⟨c1,hc1⟩:∃c1,c1=(dA 3 Bq c).2:=⟨_,rfl⟩;have hsz:=Cn 3 Bq c QN;rw[<-ht] at hsz;rw[<-ht,<-hc1];obtain⟨k,hkd⟩:∃k,k=(aU 12 c1).1:=⟨_,rfl⟩;obtain⟨c2,hc2⟩:∃c2,c2=(aU 12 c1).2:=⟨_,rfl⟩;rw[<-hkd,<-hc2];obtain⟨q,hq⟩:∃q,q=uT k t c2:=⟨_,rfl⟩;rw[<-hq];have hsl:=aj.Pb t;refine tX [58] (rs:=[.cell 2 30]) zmx func27 ntmps27 rfl rfl rfl rfl rfl ?_;simp -implicitDefEqProofs (disch:=omega) only[go_sem]
 have h1:=JE (S':=[.box [.d (.i .i64 0),.d (.s []),.d (.s []),.d (.i .i64 0),.d (.i .i64 0),.d (.s []),.bB [],.bB [],.bB []]]::aR S (l,j) (.box (cur (dA 3 Bq c).2))) rfl (by
  have:=Gf hB 3 Bq c (1+l) j ([.box [.d (.i .i64 0),.d (.s []),.d (.s []),.d (.i .i64 0),.d (.i .i64 0),.d (.s []),.bB [],.bB [],.bB []]]::S) (by decide) (by rw[aX];exact hk);rw[j3] at this
  exact this)
 rw[<-ht,<-hc1] at h1
 (repeat(with_reducible refine And.intro ?_ ?_;focus first|omega|rfl|assumption|exact⟨_,rfl,rfl⟩|(simp;omega)|(simp;done)))
 refine dQ [true] rfl h1 ?_;simp -implicitDefEqProofs (disch:=omega) only[go_sem];refine aQ rfl (dX hB c1 (1+l) j _ 12 (by rw[aX];exact g _) (by omega) (by omega)) ?_;rw[<-hkd,<-hc2];simp -implicitDefEqProofs (disch:=omega) only[go_sem]
 with_reducible refine ay (fun hb=> ?_) (fun hb=> ?_)<;>have h:=hb<;>(try simp only[wf_preprocess] at h)<;>simp -implicitDefEqProofs (disch:=omega) only[go_sem,hb]<;>(repeat(with_reducible refine And.intro ?_ ?_;focus first|omega|rfl|assumption|exact⟨_,rfl,rfl⟩|(simp;omega)|(simp;done)))
 ·subst h;simp only[uT,reduceIte] at hq;have hx:=fG (n:=15) c2 (by omega);refine aQ rfl (dX hB c2 (1+l) j _ 15 (by rw[aX];exact g _) (by omega) (by omega)) ?_;simp -implicitDefEqProofs (disch:=omega) only[go_sem]
  (repeat(with_reducible refine And.intro ?_ ?_;focus first|omega|rfl|assumption|exact⟨_,rfl,rfl⟩|(simp;omega)|(simp;done)))
  rw[hq];exact⟨rfl,rfl⟩
 have e0:=h
 with_reducible refine ay (fun hb=> ?_) (fun hb=> ?_)<;>have h:=hb<;>(try simp only[wf_preprocess] at h)<;>simp -implicitDefEqProofs (disch:=omega) only[go_sem,hb]<;>(repeat(with_reducible refine And.intro ?_ ?_;focus first|omega|rfl|assumption|exact⟨_,rfl,rfl⟩|(simp;omega)|(simp;done)))
 ·subst h;simp only[uT,reduceIte,Int.reduceEq] at hq;refine dQ [true] rfl (gN hB c2 (1+l) j _ Nz (by rw[aX];exact g _) (by decide) (by decide)) ?_;simp -implicitDefEqProofs (disch:=omega) only[go_sem];rw[hq];exact⟨rfl,rfl⟩
 have e1:=h
 with_reducible refine ay (fun hb=> ?_) (fun hb=> ?_)<;>have h:=hb<;>(try simp only[wf_preprocess] at h)<;>simp -implicitDefEqProofs (disch:=omega) only[go_sem,hb]<;>(repeat(with_reducible refine And.intro ?_ ?_;focus first|omega|rfl|assumption|exact⟨_,rfl,rfl⟩|(simp;omega)|(simp;done)))
 ·subst h;simp only[uT,reduceIte,Int.reduceEq] at hq;refine dQ [true] rfl (QO hB c2 (1+l) j _ adi (by rw[aX];exact g _) (by decide) (by decide)) ?_;simp -implicitDefEqProofs (disch:=omega) only[go_sem];rw[hq];exact⟨rfl,rfl⟩
 have e2:=h
 with_reducible refine ay (fun hb=> ?_) (fun hb=> ?_)<;>have h:=hb<;>(try simp only[wf_preprocess] at h)<;>simp -implicitDefEqProofs (disch:=omega) only[go_sem,hb]<;>(repeat(with_reducible refine And.intro ?_ ?_;focus first|omega|rfl|assumption|exact⟨_,rfl,rfl⟩|(simp;omega)|(simp;done)))
 ·subst h;simp only[uT,reduceIte,Int.reduceEq] at hq;refine aA (ru 1) ?_;simp -implicitDefEqProofs (disch:=omega) only[go_sem]
  (repeat(with_reducible refine And.intro ?_ ?_;focus first|omega|rfl|assumption|exact⟨_,rfl,rfl⟩|(simp;omega)|(simp;done)))
  refine⟨by cases l<;>rfl,?_⟩;simp -implicitDefEqProofs (disch:=omega) only[go_sem];rw[hq];refine⟨?_,rfl⟩;show _=(aj.mk _ _ _ _ _ _ _).v;rw[adZ,bi];simp only[ag,az,oJ,lT,aj.aB,au.aB,zT,encS];rfl
 have e3:=h
 with_reducible refine ay (fun hb=> ?_) (fun hb=> ?_)<;>have h:=hb<;>(try simp only[wf_preprocess] at h)<;>simp -implicitDefEqProofs (disch:=omega) only[go_sem,hb]<;>(repeat(with_reducible refine And.intro ?_ ?_;focus first|omega|rfl|assumption|exact⟨_,rfl,rfl⟩|(simp;omega)|(simp;done)))
 ·subst h;simp only[uT,reduceIte,Int.reduceEq] at hq;refine dQ [true] rfl (gN hB c2 (1+l) j _ Xa (by rw[aX];exact g _) (by decide) (by decide)) ?_;simp -implicitDefEqProofs (disch:=omega) only[go_sem];rw[hq];exact⟨rfl,rfl⟩
 have e4:=h
 with_reducible refine ay (fun hb=> ?_) (fun hb=> ?_)<;>have h:=hb<;>(try simp only[wf_preprocess] at h)<;>simp -implicitDefEqProofs (disch:=omega) only[go_sem,hb]<;>(repeat(with_reducible refine And.intro ?_ ?_;focus first|omega|rfl|assumption|exact⟨_,rfl,rfl⟩|(simp;omega)|(simp;done)))
 ·subst h;simp only[uT,reduceIte,Int.reduceEq] at hq;refine dQ [true] rfl (gN hB c2 (1+l) j _ Hf (by rw[aX];exact g _) (by decide) (by decide)) ?_;simp -implicitDefEqProofs (disch:=omega) only[go_sem];refine dQ [true] rfl (gN hB (bN Hf c2).2 (1+l) j _ uwL (by rw[aX];exact g _) (by decide) (by decide)) ?_;simp -implicitDefEqProofs (disch:=omega) only[go_sem];refine aA (ru 1) ?_;simp -implicitDefEqProofs (disch:=omega) only[go_sem]
  (repeat(with_reducible refine And.intro ?_ ?_;focus first|omega|rfl|assumption|exact⟨_,rfl,rfl⟩|(simp;omega)|(simp;done)))
  refine⟨by cases l<;>rfl,?_⟩;simp -implicitDefEqProofs (disch:=omega) only[go_sem];rw[hq];refine⟨?_,rfl⟩;show _=(aj.mk _ _ _ _ _ _ _).v;rw[adZ,bi];simp only[ag,az,oJ,lT,aj.aB,au.aB,zT,encS];rfl
 have e5:=h;simp only[uT,if_neg e0,if_neg e1,if_neg e2,if_neg e3,if_neg e4,if_neg e5] at hq;rw[hq];exact⟨rfl,rfl⟩
def aiM(h b:Int):Int:=Ah .i64 (IntKind.i64.wrap (IntKind.i64.wrap (IntKind.i64.wrap (h*131)+b)+7)) 1073741823
def FJ:List Int->Int->Int
 |[],h=>h
 |b::r,h=>FJ r (aiM h b)
def pO(bs:List Int):Cu bs:=⟨0,FJ (bs.take 4000) (28803+bs.length),Int.le_refl _,by omega⟩
theorem Xc{es:List (List D)}(h:∀y∈es,∃x,y=[.i .u8 x]/\(Lit.int .u8 x).wf=true):∃xs:List Int,es=xs.map xB/\∀x∈xs,0<=x/\x<=255:=by
 induction es with
 |nil=>exact⟨[],rfl,fun x h=>by cases h⟩
 |cons y es ih=>
  obtain⟨x,rfl,hx⟩:=h y ez;obtain⟨xs,rfl,hxs⟩:=ih fun z hz=>h z (fa _ hz);refine⟨x::xs,rfl,fun z hz=> ?_⟩;rcases cA.1 hz with rfl|hz
  ·have h1:IntKind.u8.min=0:=by decide
   have h2:IntKind.u8.max=255:=by decide
   simp only[Lit.wf,af,decide_eq_true_eq,h1,h2] at hx;exact hx
  ·exact hxs z hz
theorem zF{bs:List Int}(hB:Bytes bs)(bq:List Ab.Obj)(Ω:Store):bL prog 28 [.c (.d (.sl (bs.map xB)))] (bq::Ω) (fun r S'=>r=.c (.ptr (0,bq.length) 0)/\S'=(bq++[.box (cur (pO bs))])::Ω):=by
 have hl:=hB.len;refine LX (rs:=[.tmp 2]) zmx func28 ntmps28 rfl rfl rfl rfl rfl ?_;simp -implicitDefEqProofs (disch:=omega) only[go_sem]
 refine bI (ι:=Nat×Int) zmx rfl [0,3,4] (fun y=>[.c (.d (.sl (bs.map xB))),.c (.d (.i .i64 y.2)),.c (.d (.i .i64 y.1))]) (fun _=>[]::bq::Ω)
  (fun y=>y.1<=bs.length/\y.1<=4000/\FJ ((bs.take 4000).drop y.1) y.2=FJ (bs.take 4000) (28803+bs.length)) (fun y=>bs.length-y.1) (0,28803+bs.length) rfl rfl ⟨ba _,ba _,by rw[db]⟩ ?_
 rintro⟨i,q⟩ ⟨p1,p2,p3⟩;simp only at p1 p2 p3;simp -implicitDefEqProofs (disch:=omega) only[go_sem]
 have fin:(¬i<bs.length\/¬i<4000)->(bq++[Ab.Obj.box [.d (.sl (bs.map xB)),.d (.i .i64 0),.d (.i .i64 q)]])::Ω=(bq++[.box (cur (pO bs))])::Ω:=fun hq=>by
  rw[ee (by rw[bm];omega)] at p3;rw[show q=FJ (bs.take 4000) (28803+bs.length) from p3];rfl
 with_reducible refine ay (fun hb=> ?_) (fun hb=> ?_)<;>have h:=hb<;>(try simp only[wf_preprocess] at h)<;>simp -implicitDefEqProofs (disch:=omega) only[go_sem,hb]<;>(repeat(with_reducible refine And.intro ?_ ?_;focus first|omega|rfl|assumption|exact⟨_,rfl,rfl⟩|(simp;omega)|(simp;done)))
 ·with_reducible refine ay (fun hb=> ?_) (fun hb=> ?_)<;>have h:=hb<;>(try simp only[wf_preprocess] at h)<;>simp -implicitDefEqProofs (disch:=omega) only[go_sem,hb]<;>(repeat(with_reducible refine And.intro ?_ ?_;focus first|omega|rfl|assumption|exact⟨_,rfl,rfl⟩|(simp;omega)|(simp;done)))
  ·have hi:i<bs.length:=by omega
   have hb:=hB.rng bs[i] (ap hi)
   have ht:(bs.take 4000).drop i=bs[i]::(bs.take 4000).drop (i+1):=by
    rw[bO (by rw[bm];omega),List.getElem_take]
   rw[ht,FJ] at p3;simp -implicitDefEqProofs (disch:=omega) only[go_sem,xB]
   (repeat(with_reducible refine And.intro ?_ ?_;focus first|omega|rfl|assumption|exact⟨_,rfl,rfl⟩|(simp;omega)|(simp;done)))
   all_goals try omega
   exact bZ (i+1,_) (by simp only;omega) rfl rfl ⟨by simp only;omega,by simp only;omega,p3⟩
  ·exact fin (.inr (by omega))
 ·exact fin (.inl (by omega))
theorem ahl(bs:List Int):aF prog 6 [.c (.d (.sl (bs.map xB)))] (.c (.d (.b (decide (1048576<(bs.length:Int)))))):=fun S=>by
 refine zcx [.tmp 2] func6 ntmps6 ?_;simp -implicitDefEqProofs (disch:=omega) only[go_sem]
def ad2{bs:List Int}(n:Int)(c:Cu bs):Int×Cu bs:=
 (((eZ c).1*16777216+(eZ (eZ c).2).1*65536+(eZ (eZ (eZ c).2).2).1*256+(eZ (eZ (eZ (eZ c).2).2).2).1).tmod n,(eZ (eZ (eZ (eZ c).2).2).2).2)
def om{bs:List Int}(n:Int)(c:Cu bs):Int×Cu bs:=if n<=256 then aU n c else ad2 n c
theorem Xd{bs:List Int}{n:Int}(c:Cu bs)(h:1<=n):0<=(om n c).1/\(om n c).1<n:=by
 unfold om;split
 ·exact fG c h
 ·have h1:=mF c;have h2:=mF (eZ c).2;have h3:=mF (eZ (eZ c).2).2;have h4:=mF (eZ (eZ (eZ c).2).2).2;exact⟨Int.tmod_nonneg _ (by omega),Int.tmod_lt_of_pos _ (by omega)⟩
theorem SG{bs:List Int}(hB:Bytes bs)(c:Cu bs)(l j:Nat)(S:Store)(n:Int)(hk:aN S (l,j)=some (.box (cur c)))(h1:1<=n)(h2:n<=1048577):
 bL prog 37 [.c (.ptr (l,j) 0),.c (.d (.i .i64 n))] S (fun r S'=>r=.c (.d (.i .i64 (om n c).1))/\S'=aR S (l,j) (.box (cur (om n c).2))):=by
 unfold om;by_cases hn:n<=256
 ·rw[if_pos hn];exact dX hB c l j S n hk h1 hn
 rw[if_neg hn];unfold ad2;have g:∀x:Ab.Obj,aN (aR S (l,j) x) (l,j)=some x:=fun x=>bX _ _ _ _ hk;have r1:=mF c;have r2:=mF (eZ c).2;have r3:=mF (eZ (eZ c).2).2;have r4:=mF (eZ (eZ (eZ c).2).2).2
 generalize hx1:(eZ c).1=x1 at *
 generalize hc1:(eZ c).2=c1 at *
 generalize hx2:(eZ c1).1=x2 at *
 generalize hc2:(eZ c1).2=c2 at *
 generalize hx3:(eZ c2).1=x3 at *
 generalize hc3:(eZ c2).2=c3 at *
 generalize hx4:(eZ c3).1=x4 at *
 generalize hc4:(eZ c3).2=c4 at *
 have d1:decide (n<=0)=false:=decide_eq_false (by omega);have d2:decide (n<=256)=false:=decide_eq_false hn;have q1:=wU hB c (1+l) j ([]::S) (by rw[aX];exact hk);rw[hx1,hc1,j3] at q1;have q2:=wU hB c1 (1+l) j ([]::aR S (l,j) (.box (cur c1))) (by rw[aX];exact g _);rw[hx2,hc2,j3,nP] at q2;have q3:=wU hB c2 (1+l) j ([]::aR S (l,j) (.box (cur c2))) (by rw[aX];exact g _);rw[hx3,hc3,j3,nP] at q3;have q4:=wU hB c3 (1+l) j ([]::aR S (l,j) (.box (cur c3))) (by rw[aX];exact g _);rw[hx4,hc4,j3,nP] at q4;refine zcx [.tmp 4] func37 ntmps37 ?_;simp -implicitDefEqProofs (disch:=omega) only[go_sem,d1,d2];refine aQ rfl q1 ?_;simp -implicitDefEqProofs (disch:=omega) only[go_sem];refine aQ rfl q2 ?_;simp -implicitDefEqProofs (disch:=omega) only[go_sem];refine aQ rfl q3 ?_;simp -implicitDefEqProofs (disch:=omega) only[go_sem];refine aQ rfl q4 ?_;simp -implicitDefEqProofs (disch:=omega) only[go_sem]
 (repeat(with_reducible refine And.intro ?_ ?_;focus first|omega|rfl|assumption|exact⟨_,rfl,rfl⟩|(simp;omega)|(simp;done)))
 first|omega|exact⟨rfl,rfl⟩|rfl
def C8:List (List UInt8):=[[97],[105,110,116],[39,98],[48],[45,53],[120,46,121]]
theorem QS:eG C8:=by unfold eG;decide
def ni{bs:List Int}(f:Cu bs->ah×Cu bs):Nat->List ah->Cu bs->List ah×Cu bs
 |0,out,c=>(out,c)
 |n+1,out,c=>ni f n (out++[(f c).1]) (f c).2
def jT{bs:List Int}:Nat->Cu bs->ah×Cu bs
 |0,c=>(aM (bN C8 c).1,(bN C8 c).2)
 |n+1,c=>if(fZ 2 c).1=true then(aM (bN C8 (fZ 2 c).2).1,(bN C8 (fZ 2 c).2).2)
  else(dh (ni (jT n) (aU 4 (fZ 2 c).2).1.toNat [] (aU 4 (fZ 2 c).2).2).1,(ni (jT n) (aU 4 (fZ 2 c).2).1.toNat [] (aU 4 (fZ 2 c).2).2).2)
theorem QT{bs:List Int}{f:Cu bs->ah×Cu bs}{B:Nat}(hf:∀c,(f c).1.sz<=B):∀(n:Nat)(out:List ah)(c:Cu bs),
 (ni f n out c).1.length=out.length+n/\dD (ni f n out c).1<=dD out+n*B
 |0,out,c=>⟨rfl,by show dD out<=_;omega⟩
 |n+1,out,c=>by
  obtain⟨h1,h2⟩:=QT hf n (out++[(f c).1]) (f c).2;have:=hf c;rw[ni];rw[jF] at h2;simp only[dD] at h2;rw[ab] at h1;refine⟨by rw[h1];simp only[aa,aq];omega,?_⟩;rw[cw];omega
theorem TQ(s:List UInt8):(aM s).sz=s.length:=by rw[iQ,x9,yg];simp[bC]
theorem afF(l:List ah):(dh l).sz=l.length+dD l:=by rw[iQ,fB,eY,j6];simp
theorem Kg{bs:List Int}:∀(n:Nat)(c:Cu bs),(jT n c).1.sz+3<=11*4^n
 |0,c=>by
  have:=iY c QS;rw[jT,TQ];omega
 |n+1,c=>by
  have hp:1<=4^n:=Nat.pow_pos (by omega);rw[jT,fi];split
  ·have:=iY (fZ 2 c).2 QS;rw[TQ];omega
  ·have hr:=fG (n:=4) (fZ 2 c).2 (by omega);obtain⟨h1,h2⟩:=QT (f:=jT n) (B:=11*4^n-3) (fun c=>by have:=Kg n c;omega) (aU 4 (fZ 2 c).2).1.toNat [] (aU 4 (fZ 2 c).2).2;rw[afF]
   have h3:(aU 4 (fZ 2 c).2).1.toNat<=3:=by omega
   have h4:=bx (11*4^n-3) h3;simp only[dD,aq] at h1 h2;omega
theorem lend{r t:V}{S:Store}(h:Jo r=t:=by first|rfl|(simp only[eF.v,cu.v,cB.v,bS.v,ag,az,bi,dN.aB,bD.aB,bR.aB,dK.aB,au.aB,aj.aB,am,aw];rfl)):Less r t/\S=S:=⟨wV h,rfl⟩
theorem K8{bs:List Int}(hB:Bytes bs):∀(n:Nat)(c:Cu bs)(l j:Nat)(S:Store),aN S (l,j)=some (.box (cur c))->n<=16->
 bL prog 36 [.c (.ptr (l,j) 0),.c (.d (.i .i64 n))] S (fun r S1=>r=(jT n c).1.v/\S1=aR S (l,j) (.box (cur (jT n c).2))):=by
 intro n
 induction n with
 |zero=>
  intro c l j S hk hn;have g:∀x:Ab.Obj,aN (aR S (l,j) x) (l,j)=some x:=fun x=>bX _ _ _ _ hk;rw[jT];have d0:decide (((0:Nat):Int)<=0)=true:=rfl;refine tX [58] (rs:=[.cell 4 37]) zmx func36 ntmps36 rfl rfl rfl rfl rfl ?_;simp -implicitDefEqProofs (disch:=omega) only[go_sem,d0];refine dQ [true] rfl (gN hB c (1+l) j _ C8 (by rw[aX];exact hk) (by decide) (by decide)) ?_;simp -implicitDefEqProofs (disch:=omega) only[go_sem];refine aA (aZ _) ?_;simp -implicitDefEqProofs (disch:=omega) only[go_sem]
  first|done|exact⟨rfl,rfl⟩|rfl
 |succ n ih=>
  intro c l j S hk hn;have g:∀x:Ab.Obj,aN (aR S (l,j) x) (l,j)=some x:=fun x=>bX _ _ _ _ hk;rw[jT];have d0:decide (((n+1:Nat):Int)<=0)=false:=decide_eq_false (by omega)
  have d1:((n+1:Nat):Int)-1=(n:Int):=by omega
  obtain⟨c1,hc1⟩:∃c1,c1=(fZ 2 c).2:=⟨_,rfl⟩;obtain⟨o,ho⟩:∃o,o=(fZ 2 c).1:=⟨_,rfl⟩;have hx:=fG (n:=4) c1 (by omega);obtain⟨k,hkd⟩:∃k:Nat,(aU 4 c1).1=(k:Int):=⟨(aU 4 c1).1.toNat,by omega⟩;obtain⟨c2,hc2⟩:∃c2,c2=(aU 4 c1).2:=⟨_,rfl⟩;rw[<-ho,<-hc1,hkd,<-hc2,eb];rw[hkd] at hx;have q1:=zW hB c (1+l) j ([.box [.d (.s []),.bB []]]::S) 2 (by rw[aX];exact hk) (by omega) (by omega);rw[<-ho,<-hc1,j3] at q1;obtain⟨Q,hQ⟩:∃Q,Q=(if o=true then(aM (bN C8 c1).1,(bN C8 c1).2) else(dh (ni (jT n) k [] c2).1,(ni (jT n) k [] c2).2)):=⟨_,rfl⟩;rw[<-hQ];refine tX [58] (rs:=[.cell 4 37]) zmx func36 ntmps36 rfl rfl rfl rfl rfl ?_;simp -implicitDefEqProofs (disch:=omega) only[go_sem,d0];refine aQ rfl q1 ?_;simp -implicitDefEqProofs (disch:=omega) only[go_sem]
  cases o with
  |true=>
   rw[if_pos rfl] at hQ;subst hQ;simp -implicitDefEqProofs (disch:=omega) only[go_sem];refine dQ [true] rfl (gN hB c1 (1+l) j _ C8 (by rw[aX];exact g _) (by decide) (by decide)) ?_;simp -implicitDefEqProofs (disch:=omega) only[go_sem];refine aA (aZ _) ?_;simp -implicitDefEqProofs (disch:=omega) only[go_sem]
   first|done|exact⟨rfl,rfl⟩|rfl
  |false=>
   rw[if_neg (by decide)] at hQ;simp -implicitDefEqProofs (disch:=omega) only[go_sem];refine aQ rfl (dX hB c1 (1+l) j _ 4 (by rw[aX];exact g _) (by omega) (by omega)) ?_;rw[hkd,<-hc2];simp -implicitDefEqProofs (disch:=omega) only[go_sem];refine Eo 1 1 2 _ rfl rfl ?_
   refine zn [58] zmx rfl [0,1,4,5,6,7] (ι:=Nat×List ah×Cu bs) (fun x=>[.c (.ptr (1+l,j) 0),.c (.d (.i .i64 (n+1:Nat))),.c (.ptr (0,0) 0),.c (.ptr (0,1) 0),.c (.d (.i .i64 k)),.c (.d (.i .i64 x.1))])
    (fun x=>[.box [.d (.s []),.bB []],.box [.d (.s []),.bM (0,2) (x.2.1.map ah.enc)],.tok 2 (x.2.1.map ah.enc)]::aR S (l,j) (.box (cur x.2.2)))
    (fun x=>x.1<=k/\ni (jT n) (k-x.1) x.2.1 x.2.2=ni (jT n) k [] c2/\x.2.1.length<=x.1) (fun x=>k-x.1) (0,[],c2) rfl rfl ⟨ba _,rfl,ax _⟩ ?_
   rintro⟨i,out,d⟩ ⟨p1,p2,p3⟩;simp only at p1 p2 p3;simp -implicitDefEqProofs (disch:=omega) only[go_sem,d1]
   with_reducible refine ay (fun hb=> ?_) (fun hb=> ?_)<;>have h:=hb<;>(try simp only[wf_preprocess] at h)<;>simp -implicitDefEqProofs (disch:=omega) only[go_sem,hb,d1]<;>(repeat(with_reducible refine And.intro ?_ ?_;focus first|omega|rfl|assumption|exact⟨_,rfl,rfl⟩|(simp;omega)|(simp;done)))
   ·have ek:k-i=(k-(i+1))+1:=by omega
    rw[ek,ni] at p2;refine aQ rfl (ih d (1+l) j _ (by rw[aX];exact g _) (by omega)) ?_;simp -implicitDefEqProofs (disch:=omega) only[go_sem,d1]
    (repeat(with_reducible refine And.intro ?_ ?_;focus first|omega|rfl|assumption|exact⟨_,rfl,rfl⟩|(simp;omega)|(simp;done)))
    refine⟨by cases l<;>rfl,?_⟩;simp -implicitDefEqProofs (disch:=omega) only[go_sem,d1];refine iD 3 (by decide) (i+1,out++[(jT n d).1],(jT n d).2) (by simp only;omega) rfl ?_ (by cases l<;>rfl) rfl ⟨by simp only;omega,p2,by rw[ab];simp only[aa,aq];omega⟩;simp only[bi,ag,az,ah.aB]
    first|done|rfl|(cases l<;>rfl)
   ·have ei:k-i=0:=by omega
    rw[ei,ni] at p2;rw[<-p2] at hQ;subst hQ
    first|done|exact⟨rfl,rfl⟩|exact⟨iZ _,rfl⟩
noncomputable def iE(x:aj):ah:=zf (d9 x) (bT x)
theorem TR{x:aj}(h:x.sz<=1048576):(iE x).sz<=1048576:=cp (KP _ _) (by decide)
theorem iq{x:aj}(h:d9 x=true):gT x=true:=by rw[d9,af] at h;exact h.2
theorem EN(x:aj)(n:Nat)(hsz:x.sz<=1048576):aF prog 16 [x.v] (.agg [.d (.s (iE x).aI),.d (.ol n (lx (iE x).ak (n+1)))]):=by
 unfold iE
 cases hv:d9 x with
 |false=>
  rw[zf];refine aF.less (fun S=> ?_) (KU [] n);refine zcx [.cell 2 37] func16 ntmps16 ?_;simp -implicitDefEqProofs (disch:=omega) only[go_sem];refine aA (sN x (by omega)) ?_;simp -implicitDefEqProofs (disch:=omega) only[go_sem,hv]
 |true=>
  intro S;have hz:=zk x (iq hv);refine zcx [.cell 2 37] func16 ntmps16 ?_;simp -implicitDefEqProofs (disch:=omega) only[go_sem];refine aA (sN x (by omega)) ?_;simp -implicitDefEqProofs (disch:=omega) only[go_sem,hv];refine aA (Jw x n (iq hv) (by omega)) ?_;simp -implicitDefEqProofs (disch:=omega) only[go_sem];refine aA (VO (bT x) n (by omega)) ?_;simp -implicitDefEqProofs (disch:=omega) only[go_sem];rfl
theorem Gm(x:aj)(hsz:x.sz<=1048576):aF prog 34 [x.v] (iE x).v:=by
 unfold iE
 cases hv:d9 x with
 |false=>
  rw[zf];refine aF.less (fun S=> ?_) (KV [] []);refine zcx [.cell 2 37] func34 ntmps34 ?_;simp -implicitDefEqProofs (disch:=omega) only[go_sem];refine aA (mX x (by omega)) ?_;simp -implicitDefEqProofs (disch:=omega) only[go_sem,hv]
 |true=>
  have hz:=zk x (iq hv)
  cases hw:dJ (bT x) with
  |false=>
   rw[zf,DY,if_neg (by rw[hw];decide)];refine aF.less (fun S=> ?_) (KV [] []);refine zcx [.cell 2 37] func34 ntmps34 ?_;simp -implicitDefEqProofs (disch:=omega) only[go_sem];refine aA (mX x (by omega)) ?_;simp -implicitDefEqProofs (disch:=omega) only[go_sem,hv];refine aA (wR x (iq hv) (by omega)) ?_;simp -implicitDefEqProofs (disch:=omega) only[go_sem];refine aA (pV (bT x) (by omega)) ?_;simp -implicitDefEqProofs (disch:=omega) only[go_sem,hw]
  |true=>
   rw[zf,DY,if_pos hw];intro S;refine zcx [.cell 2 37] func34 ntmps34 ?_;simp -implicitDefEqProofs (disch:=omega) only[go_sem];refine aA (mX x (by omega)) ?_;simp -implicitDefEqProofs (disch:=omega) only[go_sem,hv];refine aA (wR x (iq hv) (by omega)) ?_;simp -implicitDefEqProofs (disch:=omega) only[go_sem];refine aA (pV (bT x) (by omega)) ?_;simp -implicitDefEqProofs (disch:=omega) only[go_sem,hw]
noncomputable def QU:List (List UInt8):=[[],[65],[97,32,98],[97,98,99,100,101,102,103,104,105,106,107,108],[97,98,99,100,101,102,103,104,105,106,107,108,109]]
noncomputable def QV:List (List UInt8):=[[],[65],[122]]
def Af:Nat->ah->ah
 |0,x=>x
 |n+1,x=>dh [Af n x]
noncomputable def xg{bs:List Int}(k:Int)(x:ah)(c:Cu bs):ah×Cu bs:=
 if k=0 then(.mk (bN QU c).1 x.ak,(bN QU c).2) else
 if k=1 then(.mk x.aI (x.ak++[aM (bN QV c).1]),(bN QV c).2) else
 if k=2 then(Af (12+(aU 4 c).1).toNat x,(aU 4 c).2) else(x,c)
noncomputable def Br{bs:List Int}(c:Cu bs):ah×Cu bs:=xg (aU 10 (jT 3 c).2).1 (jT 3 c).1 (aU 10 (jT 3 c).2).2
theorem adn(x:ah):(dh [x]).sz=x.sz+1:=by
 have:=ah.dz x;simp only[dh,ah.sz,ah.aB,bG,D.sz,ag,az,bC,aa,aq,ah.aI,ah.ak] at this ⊢;omega
theorem QW(x:ah):∀n,(Af n x).sz=x.sz+n
 |0=>rfl
 |n+1=>by rw[Af,adn,QW x n];omega
theorem aac{bs:List Int}(k:Int)(x:ah)(c:Cu bs):(xg k x c).1.sz<=x.sz+40:=by
 have hx:=ah.dz x;have h1:(bN QU c).1.length<=13:=(show ∀s∈QU,s.length<=13 by unfold QU;decide) _ (Ei _ (by unfold QU;decide));have h2:(bN QV c).1.length<=13:=(show ∀s∈QV,s.length<=13 by unfold QV;decide) _ (Ei _ (by unfold QV;decide));have h3:=fG (n:=4) c (by omega);unfold xg;split
 ·simp only[ah.sz,ah.aB,bG,D.sz,ai,ah.aI,ah.ak] at hx ⊢;omega
 split
 ·simp only[ah.sz,ah.aB,bG,D.sz,ai,ah.aI,ah.ak,aM,bi,ag,az,Ae,bC,ab,aa,aq] at hx ⊢;omega
 split
 ·simp only[QW];omega
 ·simp only;omega
theorem aad{bs:List Int}(c:Cu bs):(Br c).1.sz<=800:=by
 have h1:=aac (aU 10 (jT 3 c).2).1 (jT 3 c).1 (aU 10 (jT 3 c).2).2;have h2:=Kg 3 c;unfold Br;omega
theorem Kh{bs:List Int}{k:Int}{sub:List (List UInt8)->Cu bs->aj×Cu bs}{vars:List (List UInt8)}(c:Cu bs):
 (iw k sub vars c).1.aH=1\/(iw k sub vars c).1.aH=2\/(iw k sub vars c).1.aH=3\/(iw k sub vars c).1.fArgs≠[]:=by
 unfold iw;by_cases e0:k=1
 ·rw[if_pos e0];first|exact .inl rfl|exact .inr (.inl rfl)|exact .inr (.inr (.inl rfl))|exact .inr (.inr (.inr (List.cons_ne_nil _ _)))
 rw[if_neg e0];by_cases e1:(k=2\/k=3)/\0<vars.length
 ·rw[if_pos e1];first|exact .inl rfl|exact .inr (.inl rfl)|exact .inr (.inr (.inl rfl))|exact .inr (.inr (.inr (List.cons_ne_nil _ _)))
 rw[if_neg e1];by_cases e2:k=4
 ·rw[if_pos e2];first|exact .inl rfl|exact .inr (.inl rfl)|exact .inr (.inr (.inl rfl))|exact .inr (.inr (.inr (List.cons_ne_nil _ _)))
 rw[if_neg e2];by_cases e3:k=5
 ·rw[if_pos e3];first|exact .inl rfl|exact .inr (.inl rfl)|exact .inr (.inr (.inl rfl))|exact .inr (.inr (.inr (List.cons_ne_nil _ _)))
 rw[if_neg e3];by_cases e4:k=6
 ·rw[if_pos e4];first|exact .inl rfl|exact .inr (.inl rfl)|exact .inr (.inr (.inl rfl))|exact .inr (.inr (.inr (List.cons_ne_nil _ _)))
 rw[if_neg e4];by_cases e5:k=7
 ·rw[if_pos e5];first|exact .inl rfl|exact .inr (.inl rfl)|exact .inr (.inr (.inl rfl))|exact .inr (.inr (.inr (List.cons_ne_nil _ _)))
 rw[if_neg e5];by_cases e6:k=8
 ·rw[if_pos e6];first|exact .inl rfl|exact .inr (.inl rfl)|exact .inr (.inr (.inl rfl))|exact .inr (.inr (.inr (List.cons_ne_nil _ _)))
 rw[if_neg e6];by_cases e7:k=9
 ·rw[if_pos e7];first|exact .inl rfl|exact .inr (.inl rfl)|exact .inr (.inr (.inl rfl))|exact .inr (.inr (.inr (List.cons_ne_nil _ _)))
 rw[if_neg e7];by_cases e8:k=10
 ·rw[if_pos e8];first|exact .inl rfl|exact .inr (.inl rfl)|exact .inr (.inr (.inl rfl))|exact .inr (.inr (.inr (List.cons_ne_nil _ _)))
 rw[if_neg e8];by_cases e9:k=11
 ·rw[if_pos e9];first|exact .inl rfl|exact .inr (.inl rfl)|exact .inr (.inr (.inl rfl))|exact .inr (.inr (.inr (List.cons_ne_nil _ _)))
 rw[if_neg e9];by_cases e10:k=12
 ·rw[if_pos e10];first|exact .inl rfl|exact .inr (.inl rfl)|exact .inr (.inr (.inl rfl))|exact .inr (.inr (.inr (List.cons_ne_nil _ _)))
 rw[if_neg e10];exact .inl rfl
theorem Xe{bs:List Int}(n:Nat)(vars:List (List UInt8))(c:Cu bs):(dA n vars c).1.aH=1\/(dA n vars c).1.aH=2\/(dA n vars c).1.aH=3\/(dA n vars c).1.fArgs≠[]:=by
 cases n with
 |zero=>rw[dA];exact Kh _
 |succ n=>rw[dA];exact Kh _
theorem Xf{x:aj}(h:(iE x).ak≠[]):d9 x=true/\dJ (bT x)=true/\iE x=bT x/\x.aH≠1/\x.aH≠2/\x.aH≠3:=by
 unfold iE zf DY at h ⊢
 cases hv:d9 x with
 |false=>rw[hv] at h;exact absurd rfl h
 |true=>
  rw[hv] at h;simp only at h ⊢;by_cases hw:dJ (bT x)=true
  ·rw[if_pos hw] at h;rw[wP] at h;refine⟨trivial,hw,if_pos hw,fun e=> ?_,fun e=> ?_,fun e=> ?_⟩
   ·rw[if_pos e] at h;exact h rfl
   ·rw[if_neg (by rw[e];decide),if_pos e] at h;exact h rfl
   ·rw[if_neg (by rw[e];decide),if_neg (by rw[e];decide),if_pos e] at h;exact h rfl
  ·rw[if_neg hw] at h;exact absurd rfl h
theorem QX{x:aj}(h1:x.aH≠1)(h2:x.aH≠2)(h3:x.aH≠3):(bT x).aI=[]:=by
 rw[wP,if_neg h1,if_neg h2,if_neg h3];split<;>rfl
def qc:List (List UInt8):=[[120]]
theorem QY:eG qc:=by unfold eG;decide
noncomputable def NA{bs:List Int}(X:ah)(c:Cu bs):ah:=
 if X.ak.length≠0/\(fZ 4 c).1=true then .mk X.aI (X.ak.set (om X.ak.length (fZ 4 c).2).1.toNat (jT 1 (om X.ak.length (fZ 4 c).2).2).1) else X
noncomputable def Bt(bs:List Int):ah:=
 if(fZ 3 (pO bs)).1=true then(Br (fZ 3 (pO bs)).2).1 else NA (iE (dA 3 qc (fZ 3 (pO bs)).2).1) (dA 3 qc (fZ 3 (pO bs)).2).2
theorem Ki{y:List D}:∀(l:List (List D))(i:Nat),bC (l.set i y)<=bC l+bG y
 |[],i=>by simp[bC]
 |a::l,0=>by simp only[List.set_cons_zero,bC];omega
 |a::l,i+1=>by
  have:=Ki (y:=y) l i;simp only[List.set_cons_succ,bC];omega
theorem ado{bs:List Int}(X:ah)(c:Cu bs):(NA X c).sz<=X.sz+100:=by
 unfold NA;split
 ·generalize (om (X.ak.length:Int) (fZ 4 c).2).1.toNat=i;have h1:=Kg 1 (om (X.ak.length:Int) (fZ 4 c).2).2;generalize (jT 1 (om (X.ak.length:Int) (fZ 4 c).2).2).1=y at h1;have h2:=Ki (y:=y.enc) (X.ak.map ah.enc) i;have h3:=ah.dz X;have h4:=ah.dz y;simp only[ah.sz,ah.aB,bG,D.sz,ai,ah.aI,ah.ak,List.map_set,cy] at h1 h2 h3 h4 ⊢;omega
 ·omega
theorem aae(bs:List Int):(Bt bs).sz<=20000:=by
 unfold Bt;split
 ·have:=aad (fZ 3 (pO bs)).2;omega
 ·have h1:=ado (iE (dA 3 qc (fZ 3 (pO bs)).2).1) (dA 3 qc (fZ 3 (pO bs)).2).2;have h2:=KP (d9 (dA 3 qc (fZ 3 (pO bs)).2).1) (bT (dA 3 qc (fZ 3 (pO bs)).2).1);unfold iE at h1 ⊢;omega
theorem Nc(x:aj)(S:Store)(hsz:x.sz<=1048576)(hv:d9 x=true)(hw:dJ (bT x)=true)(k1:x.aH≠1)(k2:x.aH≠2)(k3:x.aH≠3)(hne:x.fArgs≠[]):
 je prog 34 [x.v] S (JG [.d (.s [])] 2 ((bT x).ak.map ah.enc) S):=by
 have hz:=zk x (iq hv);have q:=fun fr:List Ab.Obj=>je.oK (pre:=[.d (.s [])]) rfl (S':=fr::S) rfl (V8 x (fr::S) (iq hv) (by omega) k1 k2 k3 hne);simp only[iM,fJ,am,aw] at q;have uR:=pV (bT x) (by omega);rw[hw,show(bT x).v=.agg [.d (.s []),.d (.sl ((bT x).ak.map ah.enc))] by rw[ah.v,QX k1 k2 k3]] at uR;refine zo (rs:=[.cell 2 37]) zmx func34 ntmps34 rfl rfl rfl rfl rfl ?_;simp -implicitDefEqProofs (disch:=omega) only[go_sem];refine aA (mX x (by omega)) ?_;simp -implicitDefEqProofs (disch:=omega) only[go_sem,hv];refine aQ rfl (q _) ?_;simp -implicitDefEqProofs (disch:=omega) only[go_sem];refine aQ rfl (bL.afh (k:=(0,2)) rfl rfl uR) ?_;simp -implicitDefEqProofs (disch:=omega) only[go_sem];exact⟨rfl,2,rfl,rfl⟩
theorem adp{bs:List Int}(hB:Bytes bs)(n:Nat)(c:Cu bs)(l j:Nat)(S:Store)(hk:aN S (l,j)=some (.box (cur c)))(hn:n+1<=16):
 je prog 36 [.c (.ptr (l,j) 0),.c (.d (.i .i64 (n+1:Nat)))] S (fun r own S1=>S1=aR S (l,j) (.box (cur (jT (n+1) c).2))/\∃y,r=.agg ([.d (.s (jT (n+1) c).1.aI)]++y::[])/\Eh own y 2 ((jT (n+1) c).1.ak.map ah.enc)):=by
 have ih:=fun c l j S hk=>K8 hB n c l j S hk (by omega);have g:∀x:Ab.Obj,aN (aR S (l,j) x) (l,j)=some x:=fun x=>bX _ _ _ _ hk;rw[jT];have d0:decide (((n+1:Nat):Int)<=0)=false:=decide_eq_false (by omega)
 have d1:((n+1:Nat):Int)-1=(n:Int):=by omega
 obtain⟨c1,hc1⟩:∃c1,c1=(fZ 2 c).2:=⟨_,rfl⟩;obtain⟨o,ho⟩:∃o,o=(fZ 2 c).1:=⟨_,rfl⟩;have hx:=fG (n:=4) c1 (by omega);obtain⟨k,hkd⟩:∃k:Nat,(aU 4 c1).1=(k:Int):=⟨(aU 4 c1).1.toNat,by omega⟩;obtain⟨c2,hc2⟩:∃c2,c2=(aU 4 c1).2:=⟨_,rfl⟩;rw[<-ho,<-hc1,hkd,<-hc2,eb];rw[hkd] at hx;have q1:=zW hB c (1+l) j ([.box [.d (.s []),.bB []]]::S) 2 (by rw[aX];exact hk) (by omega) (by omega);rw[<-ho,<-hc1,j3] at q1;obtain⟨Q,hQ⟩:∃Q,Q=(if o=true then(aM (bN C8 c1).1,(bN C8 c1).2) else(dh (ni (jT n) k [] c2).1,(ni (jT n) k [] c2).2)):=⟨_,rfl⟩;rw[<-hQ];refine afd [58] (rs:=[.cell 4 37]) zmx func36 ntmps36 rfl rfl rfl rfl rfl ?_;simp -implicitDefEqProofs (disch:=omega) only[go_sem,d0];refine aQ rfl q1 ?_;simp -implicitDefEqProofs (disch:=omega) only[go_sem]
 cases o with
 |true=>
  rw[if_pos rfl] at hQ;subst hQ;simp -implicitDefEqProofs (disch:=omega) only[go_sem];refine dQ [true] rfl (gN hB c1 (1+l) j _ C8 (by rw[aX];exact g _) (by decide) (by decide)) ?_;simp -implicitDefEqProofs (disch:=omega) only[go_sem];refine aA (Ea _) ?_;simp -implicitDefEqProofs (disch:=omega) only[go_sem]
  first|exact⟨.bB [],rfl,.inr ⟨rfl,fun e he=>by cases he⟩⟩|exact⟨rfl,.bB [],rfl,.inr ⟨rfl,fun e he=>by cases he⟩⟩
 |false=>
  rw[if_neg (by decide)] at hQ;simp -implicitDefEqProofs (disch:=omega) only[go_sem];refine aQ rfl (dX hB c1 (1+l) j _ 4 (by rw[aX];exact g _) (by omega) (by omega)) ?_;rw[hkd,<-hc2];simp -implicitDefEqProofs (disch:=omega) only[go_sem];refine Eo 1 1 2 _ rfl rfl ?_
  refine zn [58] zmx rfl [0,1,4,5,6,7] (ι:=Nat×List ah×Cu bs) (fun x=>[.c (.ptr (1+l,j) 0),.c (.d (.i .i64 (n+1:Nat))),.c (.ptr (0,0) 0),.c (.ptr (0,1) 0),.c (.d (.i .i64 k)),.c (.d (.i .i64 x.1))])
   (fun x=>[.box [.d (.s []),.bB []],.box [.d (.s []),.bM (0,2) (x.2.1.map ah.enc)],.tok 2 (x.2.1.map ah.enc)]::aR S (l,j) (.box (cur x.2.2)))
   (fun x=>x.1<=k/\ni (jT n) (k-x.1) x.2.1 x.2.2=ni (jT n) k [] c2/\x.2.1.length<=x.1) (fun x=>k-x.1) (0,[],c2) rfl rfl ⟨ba _,rfl,ax _⟩ ?_
  rintro⟨i,out,d⟩ ⟨p1,p2,p3⟩;simp only at p1 p2 p3;simp -implicitDefEqProofs (disch:=omega) only[go_sem,d1]
  with_reducible refine ay (fun hb=> ?_) (fun hb=> ?_)<;>have h:=hb<;>(try simp only[wf_preprocess] at h)<;>simp -implicitDefEqProofs (disch:=omega) only[go_sem,hb,d1]<;>(repeat(with_reducible refine And.intro ?_ ?_;focus first|omega|rfl|assumption|exact⟨_,rfl,rfl⟩|(simp;omega)|(simp;done)))
  ·have ek:k-i=(k-(i+1))+1:=by omega
   rw[ek,ni] at p2;refine aQ rfl (ih d (1+l) j _ (by rw[aX];exact g _)) ?_;simp -implicitDefEqProofs (disch:=omega) only[go_sem,d1]
   (repeat(with_reducible refine And.intro ?_ ?_;focus first|omega|rfl|assumption|exact⟨_,rfl,rfl⟩|(simp;omega)|(simp;done)))
   refine⟨by cases l<;>rfl,?_⟩;simp -implicitDefEqProofs (disch:=omega) only[go_sem,d1];refine iD 3 (by decide) (i+1,out++[(jT n d).1],(jT n d).2) (by simp only;omega) rfl ?_ (by cases l<;>rfl) rfl ⟨by simp only;omega,p2,by rw[ab];simp only[aa,aq];omega⟩;simp only[bi,ag,az,ah.aB]
   first|done|rfl|(cases l<;>rfl)
  ·have ei:k-i=0:=by omega
   rw[ei,ni] at p2;rw[<-p2] at hQ;subst hQ
   first|exact⟨_,rfl,.inl ⟨2,rfl,rfl⟩⟩|exact⟨rfl,_,rfl,.inl ⟨2,rfl,rfl⟩⟩
theorem aaf{bs:List Int}(hB:Bytes bs)(c:Cu bs)(l j:Nat)(S:Store)(hk:aN S (l,j)=some (.box (cur c))):
 bL prog 33 [.c (.ptr (l,j) 0)] S (fun r S1=>r=(Br c).1.v/\S1=aR S (l,j) (.box (cur (Br c).2))):=by
 have g:∀x:Ab.Obj,aN (aR S (l,j) x) (l,j)=some x:=fun x=>bX _ _ _ _ hk;have hxs:=Kg 3 c;have q1:=fun fr:List Ab.Obj=>K8 hB 3 c (1+l) j (fr::S) (by rw[aX];exact hk) (by omega)
 have qt:=fun fr:List Ab.Obj=>je.push (pre:=[.d (.s (jT 3 c).1.aI)]) (post:=[]) rfl rfl (S':=fr::aR S (l,j) (.box (cur (jT 3 c).2))) rfl (by
  have:=adp hB 2 c (1+l) j (fr::S) (by rw[aX];exact hk) (by omega);rw[j3] at this
  exact this)
 rw[show(((2+1:Nat):Nat):Int)=3 from rfl] at qt;rw[show((3:Nat):Int)=3 from rfl] at q1;unfold Br;obtain⟨x,hx⟩:∃x,x=(jT 3 c).1:=⟨_,rfl⟩;obtain⟨c1,hc1⟩:∃c1,c1=(jT 3 c).2:=⟨_,rfl⟩;simp only[<-hx,<-hc1,j3,iM,fJ,am,aw] at q1 qt hxs ⊢
 have hxl:x.ak.length<=704:=by
  simp only[ah.sz,ah.aB,bG,D.sz,ai] at hxs;omega
 have q2:=fun fr:List Ab.Obj=>dX hB c1 (1+l) j (fr::aR S (l,j) (.box (cur c1))) 10 (by rw[aX];exact g _) (by omega) (by omega);obtain⟨k,hkd⟩:∃k,k=(aU 10 c1).1:=⟨_,rfl⟩;obtain⟨c2,hc2⟩:∃c2,c2=(aU 10 c1).2:=⟨_,rfl⟩;simp only[<-hkd,<-hc2,j3,nP] at q2 ⊢;obtain⟨q,hq⟩:∃q,q=xg k x c2:=⟨_,rfl⟩;rw[<-hq];refine bL.of_le ?_;by_cases hk1:k=1
 ·subst hk1;simp only[xg,reduceIte,Int.reduceEq] at hq;refine tX [58] (rs:=[.cell 2 37]) zmx func33 ntmps33 rfl rfl rfl rfl rfl ?_;simp -implicitDefEqProofs (disch:=omega) only[go_sem];refine aQ rfl (qt _) ?_;simp -implicitDefEqProofs (disch:=omega) only[go_sem];refine aQ rfl (q2 _) ?_;simp -implicitDefEqProofs (disch:=omega) only[go_sem];refine dQ [true] rfl (gN hB c2 (1+l) j _ QV (by rw[aX];exact g _) (by decide) (by decide)) ?_;simp -implicitDefEqProofs (disch:=omega) only[go_sem];refine aA (aZ _) ?_;simp -implicitDefEqProofs (disch:=omega) only[go_sem]
  (repeat(with_reducible refine And.intro ?_ ?_;focus first|omega|rfl|assumption|exact⟨_,rfl,rfl⟩|(simp;omega)|(simp;done)))
  refine⟨by cases l<;>rfl,?_⟩;simp -implicitDefEqProofs (disch:=omega) only[go_sem];rw[hq];refine⟨wV ?_,rfl⟩;rw[show ∀(a:List UInt8)(b:List ah),(ah.mk a b).v=.agg [.d (.s a),.d (.sl (b.map ah.enc))] from fun _ _=>rfl,bi,ag,az,eO];rfl
 ·refine tX [58] (rs:=[.cell 2 37]) zmx func33 ntmps33 rfl rfl rfl rfl rfl ?_;simp -implicitDefEqProofs (disch:=omega) only[go_sem];refine aQ rfl (q1 _) ?_;simp -implicitDefEqProofs (disch:=omega) only[go_sem];refine aQ rfl (q2 _) ?_;simp -implicitDefEqProofs (disch:=omega) only[go_sem]
  with_reducible refine ay (fun hb=> ?_) (fun hb=> ?_)<;>have h:=hb<;>(try simp only[wf_preprocess] at h)<;>simp -implicitDefEqProofs (disch:=omega) only[go_sem,hb]<;>(repeat(with_reducible refine And.intro ?_ ?_;focus first|omega|rfl|assumption|exact⟨_,rfl,rfl⟩|(simp;omega)|(simp;done)))
  ·subst h;simp only[xg,reduceIte,Int.reduceEq] at hq;refine dQ [true] rfl (gN hB c2 (1+l) j _ QU (by rw[aX];exact g _) (by decide) (by decide)) ?_;simp -implicitDefEqProofs (disch:=omega) only[go_sem];rw[hq];exact⟨wV rfl,rfl⟩
  have e0:=h
  with_reducible refine ay (fun hb=> ?_) (fun hb=> ?_)<;>have h:=hb<;>(try simp only[wf_preprocess] at h)<;>simp -implicitDefEqProofs (disch:=omega) only[go_sem,hb]<;>(repeat(with_reducible refine And.intro ?_ ?_;focus first|omega|rfl|assumption|exact⟨_,rfl,rfl⟩|(simp;omega)|(simp;done)))
  ·exact absurd h hk1
  with_reducible refine ay (fun hb=> ?_) (fun hb=> ?_)<;>have h:=hb<;>(try simp only[wf_preprocess] at h)<;>simp -implicitDefEqProofs (disch:=omega) only[go_sem,hb]<;>(repeat(with_reducible refine And.intro ?_ ?_;focus first|omega|rfl|assumption|exact⟨_,rfl,rfl⟩|(simp;omega)|(simp;done)))
  ·subst h;simp only[xg,reduceIte,Int.reduceEq] at hq;have hr:=fG (n:=4) c2 (by omega);have q3:=fun fr:List Ab.Obj=>dX hB c2 (1+l) j (fr::aR S (l,j) (.box (cur c2))) 4 (by rw[aX];exact g _) (by omega) (by omega);obtain⟨m,hm⟩:∃m:Nat,12+(aU 4 c2).1=(m:Int):=⟨(12+(aU 4 c2).1).toNat,by omega⟩;obtain⟨b,hb⟩:∃b,b=(aU 4 c2).1:=⟨_,rfl⟩;obtain⟨c3,hc3⟩:∃c3,c3=(aU 4 c2).2:=⟨_,rfl⟩;simp only[<-hb,<-hc3,j3,nP] at q3 hm hq hr;rw[hm,eb] at hq;refine aQ rfl (q3 _) ?_;simp -implicitDefEqProofs (disch:=omega) only[go_sem,hm]
   refine zn [58] (ι:=Nat) zmx rfl [2,3,4,5] (fun i=>[.c (.ptr (0,0) 0),.c (.ptr (0,1) 0),.c (.d (.i .i64 m)),.c (.d (.i .i64 i))])
    (fun i=>[.box [.d (.s []),.bB []],.box [.d (.s (Af i x).aI),.d (.sl ((Af i x).ak.map ah.enc))]]::aR S (l,j) (.box (cur c3)))
    (fun i=>i<=m) (fun i=>m-i) 0 rfl rfl (ba _) ?_
   intro i hi;simp -implicitDefEqProofs (disch:=omega) only[go_sem]
   with_reducible refine ay (fun hb=> ?_) (fun hb=> ?_)<;>have h:=hb<;>(try simp only[wf_preprocess] at h)<;>simp -implicitDefEqProofs (disch:=omega) only[go_sem,hb]<;>(repeat(with_reducible refine And.intro ?_ ?_;focus first|omega|rfl|assumption|exact⟨_,rfl,rfl⟩|(simp;omega)|(simp;done)))
   ·refine aA (Gb _ (by simp) (by simp)) ?_;simp -implicitDefEqProofs (disch:=omega) only[go_sem];refine bZ (i+1) (by omega) rfl ?_ (by omega);simp only[Af,fB,eY,ag,az,ah.aB (Af i x)]
   ·have hi':i=m:=by omega
    subst hi';rw[hq];exact⟨wV rfl,rfl⟩
  have e2:=h;simp only[xg,if_neg e0,if_neg hk1,if_neg e2] at hq;rw[hq];exact⟨wV rfl,rfl⟩
theorem TS(x:aj)(n:Nat):Less (x.vl n) x.v:=by
 have:=Cb (r:=x.enc) (n:=n);rw[zx,aj.ny] at this;exact this
theorem aag{x:ah}(h:sj x=false):xL x=lW:=if_neg (by rw[h];decide)
theorem K9{x:ah}(h:sj x=true):xL x=bW true x:=if_pos h
abbrev aj.cv(x:aj):List C:=[.d (.i .i64 x.aH),.d (.s x.aW),.d (.s x.fName),.d (.i .i64 x.fN),.d (.i .i64 x.fType.aH),.d (.s x.fType.fName),.d (.sl (x.fType.fArgs.map au.enc)),.d (.sl (x.fArgs.map aj.enc)),.d (.sl (x.aG.map aK.enc))]
abbrev aj.cl(x:aj)(n:Nat):List C:=[.d (.i .i64 x.aH),.d (.s x.aW),.d (.s x.fName),.d (.i .i64 x.fN),.d (.i .i64 x.fType.aH),.d (.s x.fType.fName),.d (.ol n (lt x.fType.fArgs (n+1))),
 .d (.ol (n+(jH x.fType.fArgs+1)) (lE x.fArgs (n+(jH x.fType.fArgs+1)+1))),.d (.ol (n+(jH x.fType.fArgs+1)+(pI x.fArgs+1)) (lM x.aG (n+(jH x.fType.fArgs+1)+(pI x.fArgs+1)+1)))]
abbrev EO:List C:=[.d (.i .i64 0),.d (.s []),.d (.s []),.d (.i .i64 0),.d (.i .i64 0),.d (.s []),.bB [],.bB [],.bB []]
theorem aj7(e:aj)(h:e=lW)(ok:Bool):Less (.dI [(true,EO),(false,[.d (.b ok)])]) (.dI [(true,e.cv),(false,[.d (.b ok)])]):=by
 rw[h];exact(kE.cons (.cons (.refl _) (.cons (.refl _) (.cons (.refl _) (.cons (.refl _) (.cons (.refl _) (.cons (.refl _) (.cons (jk _) (.cons (jk _) (.cons (jk _) .nil))))))))) (.refl _)).less
theorem aah(e:aj)(h:e=lW)(n:Nat)(ok:Bool):Less (.dI [(true,EO),(false,[.d (.b ok)])]) (.dI [(true,e.cl n),(false,[.d (.b ok)])]):=by
 rw[h];exact(kE.cons (.cons (.refl _) (.cons (.refl _) (.cons (.refl _) (.cons (.refl _) (.cons (.refl _) (.cons (.refl _) (.cons (gq _) (.cons (gq _) (.cons (gq _) .nil))))))))) (.refl _)).less
theorem La(x:ah)(hsz:x.sz<=1048576):aF prog 12 [x.v] (.dI [(true,(xL x).cv),(false,[.d (.b (sj x))])]):=aF.of_le fun S=>by
 have hds:=yE false x;have hok:=acS x
 have yx:sj x=false->Less (.dI [(true,EO),(false,[.d (.b false)])]) (.dI [(true,(xL x).cv),(false,[.d (.b (sj x))])]):=fun e=>by
  rw[e];exact aj7 _ (aag e) false
 refine zcx [.cell 2 30,.tmp 3] func12 ntmps12 ?_;simp -implicitDefEqProofs (disch:=omega) only[go_sem];refine aA (pV x (by omega)) ?_;simp -implicitDefEqProofs (disch:=omega) only[go_sem]
 with_reducible refine ay (fun hb=> ?_) (fun hb=> ?_)<;>have h:=hb<;>(try simp only[wf_preprocess] at h)<;>simp -implicitDefEqProofs (disch:=omega) only[go_sem,hb]<;>(repeat(with_reducible refine And.intro ?_ ?_;focus first|omega|rfl|assumption|exact⟨_,rfl,rfl⟩|(simp;omega)|(simp;done)))
 ·exact yx (aT fun e=>by rw[e.1] at h;cases h)
 have hv:=h;have uR:=wN hv;refine aA (SB x (by omega)) ?_;simp -implicitDefEqProofs (disch:=omega) only[go_sem];refine aA (mX (bW false x) (by omega)) ?_;simp -implicitDefEqProofs (disch:=omega) only[go_sem]
 with_reducible refine ay (fun hb=> ?_) (fun hb=> ?_)<;>have h:=hb<;>(try simp only[wf_preprocess] at h)<;>simp -implicitDefEqProofs (disch:=omega) only[go_sem,hb]<;>(repeat(with_reducible refine And.intro ?_ ?_;focus first|omega|rfl|assumption|exact⟨_,rfl,rfl⟩|(simp;omega)|(simp;done)))
 ·exact yx (hok.trans (aT fun e=>by rw[e.2.1] at h;cases h))
 have he:=h;have hz:=zk (bW false x) (iq he)
 (repeat(with_reducible refine And.intro ?_ ?_;focus first|omega|rfl|assumption|exact⟨_,rfl,rfl⟩|(simp;omega)|(simp;done)))
 refine aA (wR (bW false x) (iq he) (by omega)) ?_;simp -implicitDefEqProofs (disch:=omega) only[go_sem];refine aA (xJ (bT (bW false x)) x (by omega)) ?_;simp -implicitDefEqProofs (disch:=omega) only[go_sem]
 with_reducible refine ay (fun hb=> ?_) (fun hb=> ?_)<;>have h:=hb<;>(try simp only[wf_preprocess] at h)<;>simp -implicitDefEqProofs (disch:=omega) only[go_sem,hb]<;>(repeat(with_reducible refine And.intro ?_ ?_;focus first|omega|rfl|assumption|exact⟨_,rfl,rfl⟩|(simp;omega)|(simp;done)))
 ·exact yx (hok.trans (aT fun e=>h e.2.2))
 ·have hy:sj x=true:=hok.trans (cK ⟨hv,he,h⟩);rw[K9 hy,hy,<-acT hy];exact iZ _
theorem Ag(x:ah)(n:Nat)(hsz:x.sz<=1048576):aF prog 11 [x.v] (.dI [(true,(xL x).cl n),(false,[.d (.b (sj x))])]):=aF.of_le fun S=>by
 have hds:=yE true x
 have yx:sj x=false->Less (.dI [(true,EO),(false,[.d (.b false)])]) (.dI [(true,(xL x).cl n),(false,[.d (.b (sj x))])]):=fun e=>by
  rw[e];exact aah _ (aag e) n false
 refine zcx [.cell 2 30,.tmp 3] func11 ntmps11 ?_;simp -implicitDefEqProofs (disch:=omega) only[go_sem];refine aA (pU x (by omega)) ?_;simp -implicitDefEqProofs (disch:=omega) only[go_sem]
 with_reducible refine ay (fun hb=> ?_) (fun hb=> ?_)<;>have h:=hb<;>(try simp only[wf_preprocess] at h)<;>simp -implicitDefEqProofs (disch:=omega) only[go_sem,hb]<;>(repeat(with_reducible refine And.intro ?_ ?_;focus first|omega|rfl|assumption|exact⟨_,rfl,rfl⟩|(simp;omega)|(simp;done)))
 ·exact yx (aT fun e=>by rw[e.1] at h;cases h)
 have hv:=h;have uR:=wN hv
 have hfo:gu x=true:=by unfold dJ at hv;rw[af] at hv;exact hv.1
 refine aA (Qx x n hfo (by omega)) ?_;simp -implicitDefEqProofs (disch:=omega) only[go_sem];refine wO (sN (bW true x) (by omega)) (.cons (TS _ n) .nil) ?_;simp -implicitDefEqProofs (disch:=omega) only[go_sem]
 with_reducible refine ay (fun hb=> ?_) (fun hb=> ?_)<;>have h:=hb<;>(try simp only[wf_preprocess] at h)<;>simp -implicitDefEqProofs (disch:=omega) only[go_sem,hb]<;>(repeat(with_reducible refine And.intro ?_ ?_;focus first|omega|rfl|assumption|exact⟨_,rfl,rfl⟩|(simp;omega)|(simp;done)))
 ·exact yx (aT fun e=>by rw[e.2.1] at h;cases h)
 have he:=h;have hz:=zk (bW true x) (iq he)
 (repeat(with_reducible refine And.intro ?_ ?_;focus first|omega|rfl|assumption|exact⟨_,rfl,rfl⟩|(simp;omega)|(simp;done)))
 refine wO (aF.less (Jw (bW true x) 0 (iq he) (by omega)) (Fx (bT (bW true x)) 0)) (.cons (TS _ n) .nil) ?_;simp -implicitDefEqProofs (disch:=omega) only[go_sem];refine aA (xK (bT (bW true x)) x (by omega)) ?_;simp -implicitDefEqProofs (disch:=omega) only[go_sem]
 with_reducible refine ay (fun hb=> ?_) (fun hb=> ?_)<;>have h:=hb<;>(try simp only[wf_preprocess] at h)<;>simp -implicitDefEqProofs (disch:=omega) only[go_sem,hb]<;>(repeat(with_reducible refine And.intro ?_ ?_;focus first|omega|rfl|assumption|exact⟨_,rfl,rfl⟩|(simp;omega)|(simp;done)))
 ·exact yx (aT fun e=>h e.2.2)
 ·have hy:sj x=true:=cK ⟨hv,he,h⟩;rw[K9 hy,hy];exact iZ _
theorem Hg(x:ah)(n:Nat)(hsz:x.sz<=1048576):aF prog 11 [x.v] (.dI [(true,(eu (xL x).enc n).map .d),(false,[.d (.b (sj x))])]):=by
 rw[zx];exact Ag x n hsz
def tk0(k:Key):Nat->List (List D)->V
 |0,_=>.c (.bB [])
 |_+1,es=>.c (.bM k es)
def ob0(z:Nat):Nat->List (List D)->List Obj
 |0,_=>[]
 |_+1,es=>[.tok z es]
theorem iF(k:Key)(es:List (List D)):tk0 k 0 es=.c (.bB []):=rfl
theorem gB(k:Key)(n:Nat)(es:List (List D)):tk0 k (n+1) es=.c (.bM k es):=rfl
theorem iG(z:Nat)(es:List (List D)):ob0 z 0 es=[]:=rfl
theorem gD(z n:Nat)(es:List (List D)):ob0 z (n+1) es=[.tok z es]:=rfl
theorem afG(xs:List (List UInt8))(b:List UInt8)(hl:xs.length<=1073741824)(hf:(dM b xs).length<=1073741824)(hp:∀i,(dM b (xs.take i)).length<=(dM b xs).length):aF prog 200 [.c (.d (.sl (xs.map encS))),.c (.d (.s b))] (.c (.d (.s (dM b xs)))):=fun S=>by
 refine zcx [.tmp 4] func200 ntmps200 ?_;simp -implicitDefEqProofs (disch:=omega) only[go_sem]
 refine bI (ι:=Nat) zmx rfl [0,1,5,6] (fun i=>[.c (.d (.sl (xs.map encS))),.c (.d (.s b)),tk0 (0,0) i (og (dM b (xs.take i))),.c (.d (.i .i64 i))]) (fun i=>ob0 1 i (og (dM b (xs.take i)))::S)
  (fun i=>i<=xs.length) (fun i=>xs.length-i) 0 rfl rfl (ba _) ?_
 rintro i p1;have hi1:=hp (i+1);by_cases hi:i<xs.length
 ·have hst:=Cv b xs i hi
  cases i with
  |zero=>
   simp -implicitDefEqProofs (disch:=omega) only[go_sem,iF,gB,iG,gD]
   with_reducible refine ay (fun hb=> ?_) (fun hb=> ?_)<;>have h:=hb<;>(try simp only[wf_preprocess] at h)<;>simp -implicitDefEqProofs (disch:=omega) only[go_sem,hb,iF,gB,iG,gD]<;>(repeat(with_reducible refine And.intro ?_ ?_;focus first|omega|rfl|assumption|exact⟨_,rfl,rfl⟩|(simp;omega)|(simp;done)))
   ·(repeat(with_reducible refine And.intro ?_ ?_;focus first|omega|rfl|assumption|exact⟨_,rfl,rfl⟩|(simp;omega)|(simp;done)))
    with_reducible refine ay (fun hb=> ?_) (fun hb=> ?_)<;>have h:=hb<;>(try simp only[wf_preprocess] at h)<;>simp -implicitDefEqProofs (disch:=omega) only[go_sem,hb,iF,gB,iG,gD]<;>(repeat(with_reducible refine And.intro ?_ ?_;focus first|omega|rfl|assumption|exact⟨_,rfl,rfl⟩|(simp;omega)|(simp;done)))
    ·omega
    ·have e:og (dM b (xs.take (0+1)))=xs[0].map (fun b=>[D.i .u8 b.toNat]):=by rw[hst,if_pos rfl];rfl
     rw[hst,if_pos rfl] at hi1;exact⟨by omega,bZ (0+1) (by omega) (by rw[gB,e];rfl) (by rw[gD,e]) (by omega)⟩
   ·omega
  |succ j=>
   simp -implicitDefEqProofs (disch:=omega) only[go_sem,iF,gB,iG,gD]
   with_reducible refine ay (fun hb=> ?_) (fun hb=> ?_)<;>have h:=hb<;>(try simp only[wf_preprocess] at h)<;>simp -implicitDefEqProofs (disch:=omega) only[go_sem,hb,iF,gB,iG,gD]<;>(repeat(with_reducible refine And.intro ?_ ?_;focus first|omega|rfl|assumption|exact⟨_,rfl,rfl⟩|(simp;omega)|(simp;done)))
   ·(repeat(with_reducible refine And.intro ?_ ?_;focus first|omega|rfl|assumption|exact⟨_,rfl,rfl⟩|(simp;omega)|(simp;done)))
    with_reducible refine ay (fun hb=> ?_) (fun hb=> ?_)<;>have h:=hb<;>(try simp only[wf_preprocess] at h)<;>simp -implicitDefEqProofs (disch:=omega) only[go_sem,hb,iF,gB,iG,gD]<;>(repeat(with_reducible refine And.intro ?_ ?_;focus first|omega|rfl|assumption|exact⟨_,rfl,rfl⟩|(simp;omega)|(simp;done)))
    ·have e:og (dM b (xs.take (j+1+1)))=og (dM b (xs.take (j+1)))++b.map (fun b=>[D.i .u8 b.toNat])++xs[j+1].map (fun b=>[D.i .u8 b.toNat]):=by
      rw[hst,if_neg (by omega),CX,CX];rfl
     rw[hst,if_neg (by omega)] at hi1;simp only[ab] at hi1;refine⟨by rw[CY];omega,⟨by omega,hi⟩,fun y hy=> ?_,⟨_,rfl,rfl⟩,by rw[ab,ai,CY];omega,?_⟩
     ·obtain⟨z,_,rfl⟩:=da.1 hy;rfl
     ·exact bZ (j+1+1) (by omega) (by rw[gB,e];rfl) (by rw[gD,e]) (by omega)
    ·omega
   ·omega
 ·have hi:i=xs.length:=by omega
  cases i with
  |zero=>
   simp -implicitDefEqProofs (disch:=omega) only[go_sem,iF,gB,iG,gD]
   with_reducible refine ay (fun hb=> ?_) (fun hb=> ?_)<;>have h:=hb<;>(try simp only[wf_preprocess] at h)<;>simp -implicitDefEqProofs (disch:=omega) only[go_sem,hb,iF,gB,iG,gD]<;>(repeat(with_reducible refine And.intro ?_ ?_;focus first|omega|rfl|assumption|exact⟨_,rfl,rfl⟩|(simp;omega)|(simp;done)))
   ·omega
   ·rw[bh hi.symm];rfl
  |succ j=>
   simp -implicitDefEqProofs (disch:=omega) only[go_sem,iF,gB,iG,gD]
   with_reducible refine ay (fun hb=> ?_) (fun hb=> ?_)<;>have h:=hb<;>(try simp only[wf_preprocess] at h)<;>simp -implicitDefEqProofs (disch:=omega) only[go_sem,hb,iF,gB,iG,gD]<;>(repeat(with_reducible refine And.intro ?_ ?_;focus first|omega|rfl|assumption|exact⟨_,rfl,rfl⟩|(simp;omega)|(simp;done)))
   ·omega
   ·refine⟨fun y hy=>WK _ y hy,?_⟩;rw[SE,hi,co]
theorem Kj:∀n:Nat,∀x:ah,SizeOf.sizeOf x<n->x.sz<=67108864->aF prog 118 [x.v] (.c (.d (.s (dH x))))
 |0=>fun x h=>by omega
 |n+1=>by
  have ih:=Kj n;intro x hn hsz S;have ht:=G6 x;have hln:=Ac x;have hts:=zh hsz
  have hll:x.ak.length<=67108864:=by
   have h2:=iQ x;omega
  have hE:∀i (hi:i<x.ak.length),(((x.ak.take (i+1)).map dH).map encS)=((x.ak.take i).map dH).map encS++[[.s (dH x.ak[i])]]:=fun i hi=>by
   rw[bp hi,bi,bi];rfl
  refine zcx [.tmp 2] func118 ntmps118 ?_;simp -implicitDefEqProofs (disch:=omega) only[go_sem]
  with_reducible refine ay (fun hb=> ?_) (fun hb=> ?_)<;>have h:=hb<;>(try simp only[wf_preprocess] at h)<;>simp -implicitDefEqProofs (disch:=omega) only[go_sem,hb]<;>(repeat(with_reducible refine And.intro ?_ ?_;focus first|omega|rfl|assumption|exact⟨_,rfl,rfl⟩|(simp;omega)|(simp;done)))
  ·rw[ht,if_neg (by simpa using h)]
  ·rw[if_pos (by simpa using h)] at ht
   have hf:(dM [32] (x.ak.map dH)).length<=1073741824:=by
    rw[ht] at hln;simp only[ab,aa,aq] at hln;omega
   have hj:=afG (x.ak.map dH) [32] (by rw[ai];omega) hf (J5 _ _)
   refine bI (ι:=Nat) zmx rfl [1,3,4] (fun i=>[.c (.ptr (0,0) 0),tk0 (0,1) i (((x.ak.take i).map dH).map encS),.c (.d (.i .i64 i))]) (fun i=>(.box [.d (.s x.aI),.d (.sl (x.ak.map ah.enc))]::ob0 1 i (((x.ak.take i).map dH).map encS))::S)
    (fun i=>i<=x.ak.length) (fun i=>x.ak.length-i) 0 rfl rfl (ba _) ?_
   rintro i p1;by_cases hi:i<x.ak.length
   ·have hsz':=vE hi hsz;have he:=hE i hi;have hl:=ah.Fq hi
    cases i with
    |zero=>
     simp -implicitDefEqProofs (disch:=omega) only[go_sem,iF,gB,iG,gD]
     with_reducible refine ay (fun hb=> ?_) (fun hb=> ?_)<;>have h:=hb<;>(try simp only[wf_preprocess] at h)<;>simp -implicitDefEqProofs (disch:=omega) only[go_sem,hb,iF,gB,iG,gD]<;>(repeat(with_reducible refine And.intro ?_ ?_;focus first|omega|rfl|assumption|exact⟨_,rfl,rfl⟩|(simp;omega)|(simp;done)))
     ·(repeat(with_reducible refine And.intro ?_ ?_;focus first|omega|rfl|assumption|exact⟨_,rfl,rfl⟩|(simp;omega)|(simp;done)))
      refine aA (ih x.ak[0] (by omega) hsz'.1) ?_;simp -implicitDefEqProofs (disch:=omega) only[go_sem]<;>(repeat(with_reducible refine And.intro ?_ ?_;focus first|omega|rfl|assumption|exact⟨_,rfl,rfl⟩|(simp;omega)|(simp;done)));exact bZ (0+1) (by omega) (by rw[gB,he];rfl) (by rw[gD,he];rfl) (by omega)
     ·omega
    |succ j=>
     simp -implicitDefEqProofs (disch:=omega) only[go_sem,iF,gB,iG,gD]
     with_reducible refine ay (fun hb=> ?_) (fun hb=> ?_)<;>have h:=hb<;>(try simp only[wf_preprocess] at h)<;>simp -implicitDefEqProofs (disch:=omega) only[go_sem,hb,iF,gB,iG,gD]<;>(repeat(with_reducible refine And.intro ?_ ?_;focus first|omega|rfl|assumption|exact⟨_,rfl,rfl⟩|(simp;omega)|(simp;done)))
     ·(repeat(with_reducible refine And.intro ?_ ?_;focus first|omega|rfl|assumption|exact⟨_,rfl,rfl⟩|(simp;omega)|(simp;done)))
      refine aA (ih x.ak[j+1] (by omega) hsz'.1) ?_;simp -implicitDefEqProofs (disch:=omega) only[go_sem]<;>(repeat(with_reducible refine And.intro ?_ ?_;focus first|omega|rfl|assumption|exact⟨_,rfl,rfl⟩|(simp;omega)|(simp;done)));exact bZ (j+1+1) (by omega) (by rw[gB,he];rfl) (by rw[gD,he]) (by omega)
     ·omega
   ·have hi:i=x.ak.length:=by omega
    cases i with
    |zero=>
     simp -implicitDefEqProofs (disch:=omega) only[go_sem,iF,gB,iG,gD]
     with_reducible refine ay (fun hb=> ?_) (fun hb=> ?_)<;>have h:=hb<;>(try simp only[wf_preprocess] at h)<;>simp -implicitDefEqProofs (disch:=omega) only[go_sem,hb,iF,gB,iG,gD]<;>(repeat(with_reducible refine And.intro ?_ ?_;focus first|omega|rfl|assumption|exact⟨_,rfl,rfl⟩|(simp;omega)|(simp;done)))
     ·omega
     ·rw[bh hi.symm] at ht hj;refine wO hj (.cons (by exact Less.refl _) (.cons (Less.refl _) .nil)) ?_;simp -implicitDefEqProofs (disch:=omega) only[go_sem];exact⟨by decide,by decide,by rw[ht];rfl⟩
    |succ j=>
     simp -implicitDefEqProofs (disch:=omega) only[go_sem,iF,gB,iG,gD]
     with_reducible refine ay (fun hb=> ?_) (fun hb=> ?_)<;>have h:=hb<;>(try simp only[wf_preprocess] at h)<;>simp -implicitDefEqProofs (disch:=omega) only[go_sem,hb,iF,gB,iG,gD]<;>(repeat(with_reducible refine And.intro ?_ ?_;focus first|omega|rfl|assumption|exact⟨_,rfl,rfl⟩|(simp;omega)|(simp;done)))
     ·omega
     ·rw[hi,co];refine wO hj (.cons (by exact Less.refl _) (.cons (Less.refl _) .nil)) ?_;simp -implicitDefEqProofs (disch:=omega) only[go_sem];exact⟨by omega,by omega,by rw[ht];rfl⟩
theorem aai(x:ah)(hsz:x.sz<=67108864):aF prog 118 [x.v] (.c (.d (.s (dH x)))):=Kj _ x (br _) hsz
theorem Bu(x:ah)(hsz:x.sz<=67108864):aF prog 46 [x.v] (.c (.d (.s (sP x)))):=fun S=>by
 refine zcx [.tmp 2] func46 ntmps46 ?_;simp -implicitDefEqProofs (disch:=omega) only[go_sem];refine aA (pV x hsz) ?_;simp -implicitDefEqProofs (disch:=omega) only[go_sem]<;>(repeat(with_reducible refine And.intro ?_ ?_;focus first|omega|rfl|assumption|exact⟨_,rfl,rfl⟩|(simp;omega)|(simp;done)))
 with_reducible refine ay (fun hb=> ?_) (fun hb=> ?_)<;>have h:=hb<;>(try simp only[wf_preprocess] at h)<;>simp -implicitDefEqProofs (disch:=omega) only[go_sem,hb]<;>(repeat(with_reducible refine And.intro ?_ ?_;focus first|omega|rfl|assumption|exact⟨_,rfl,rfl⟩|(simp;omega)|(simp;done)))
 ·rw[sP,if_neg (by simpa using h)]
 ·refine aA (aai x hsz) ?_;simp -implicitDefEqProofs (disch:=omega) only[go_sem]<;>(repeat(with_reducible refine And.intro ?_ ?_;focus first|omega|rfl|assumption|exact⟨_,rfl,rfl⟩|(simp;omega)|(simp;done)));rw[sP,if_pos (by simpa using h)]
theorem Lb(x:aj)(hsz:x.sz<=1048576):aF prog 8 [x.v] (.c (.d (.s (oN (iE x))))):=fun S=>by
 have c1:aF prog 16 [x.v] (iE x).v:=by
  have h2:aF prog 16 [x.v] (.agg ((eu (iE x).enc 0).map .d)):=by
   have:=EN x 0 hsz
   first|exact this|(rw[tT];exact this)
  have:=aF.less h2 Cb;rw[ah.ny] at this;exact this
 have hd:(iE x).sz<=1048576:=TR (by omega);obtain⟨X,hX⟩:∃X,X=iE x:=⟨_,rfl⟩;rw[<-hX] at hd c1 ⊢;clear hX;refine zcx [.tmp 2] func8 ntmps8 ?_;simp -implicitDefEqProofs (disch:=omega) only[go_sem];refine aA c1 ?_;simp -implicitDefEqProofs (disch:=omega) only[go_sem];refine wO (xK X gF (by omega)) (.cons (by exact Less.refl _) (.cons (by exact Less.refl _) .nil)) ?_;simp -implicitDefEqProofs (disch:=omega) only[go_sem]
 with_reducible refine ay (fun hb=> ?_) (fun hb=> ?_)<;>have h:=hb<;>(try simp only[wf_preprocess] at h)<;>simp -implicitDefEqProofs (disch:=omega) only[go_sem,hb]<;>(repeat(with_reducible refine And.intro ?_ ?_;focus first|omega|rfl|assumption|exact⟨_,rfl,rfl⟩|(simp;omega)|(simp;done)))
 ·rw[ZV (by simpa using h)]
 ·refine aA (K4 X (by omega)) ?_;simp -implicitDefEqProofs (disch:=omega) only[go_sem]<;>(repeat(with_reducible refine And.intro ?_ ?_;focus first|omega|rfl|assumption|exact⟨_,rfl,rfl⟩|(simp;omega)|(simp;done)));rw[ZW (by simpa using h)]
theorem Lc(x:aj)(hsz:x.sz<=1048576):aF prog 13 [x.v] (.c (.d (.s (oN (iE x))))):=fun S=>by
 have c1:=Gm x (by omega);have hd:(iE x).sz<=1048576:=TR (by omega);obtain⟨X,hX⟩:∃X,X=iE x:=⟨_,rfl⟩;rw[<-hX] at hd c1 ⊢;clear hX;refine zcx [.tmp 2] func13 ntmps13 ?_;simp -implicitDefEqProofs (disch:=omega) only[go_sem];refine aA c1 ?_;simp -implicitDefEqProofs (disch:=omega) only[go_sem]
 with_reducible refine ay (fun hb=> ?_) (fun hb=> ?_)<;>have h:=hb<;>(try simp only[wf_preprocess] at h)<;>simp -implicitDefEqProofs (disch:=omega) only[go_sem,hb]<;>(repeat(with_reducible refine And.intro ?_ ?_;focus first|omega|rfl|assumption|exact⟨_,rfl,rfl⟩|(simp;omega)|(simp;done)))
 ·have h1:=h
  (repeat(with_reducible refine And.intro ?_ ?_;focus first|omega|rfl|assumption|exact⟨_,rfl,rfl⟩|(simp;omega)|(simp;done)))
  with_reducible refine ay (fun hb=> ?_) (fun hb=> ?_)<;>have h:=hb<;>(try simp only[wf_preprocess] at h)<;>simp -implicitDefEqProofs (disch:=omega) only[go_sem,hb]<;>(repeat(with_reducible refine And.intro ?_ ?_;focus first|omega|rfl|assumption|exact⟨_,rfl,rfl⟩|(simp;omega)|(simp;done)))
  ·rw[ag9 h1 (by omega)]
  ·refine aA (Bu X (by omega)) ?_;simp -implicitDefEqProofs (disch:=omega) only[go_sem]<;>(repeat(with_reducible refine And.intro ?_ ?_;focus first|omega|rfl|assumption|exact⟨_,rfl,rfl⟩|(simp;omega)|(simp;done)));rw[ag8 (by omega)]
 ·refine aA (Bu X (by omega)) ?_;simp -implicitDefEqProofs (disch:=omega) only[go_sem]<;>(repeat(with_reducible refine And.intro ?_ ?_;focus first|omega|rfl|assumption|exact⟨_,rfl,rfl⟩|(simp;omega)|(simp;done)));rw[ag7 h]
theorem Xg{s:List UInt8}(h:lK s=false):kC s=gF:=by
 unfold kC;rw[dif_neg (oD h)]
theorem adq(s:List UInt8):(kC s).sz<=1048576:=by
 cases h:lK s with
 |true=>have:=wN (Sl h);omega
 |false=>rw[Xg h,GZ];omega
noncomputable def rT(s:List UInt8):Bool:=lK s&&sj (kC s)
noncomputable def zG(s:List UInt8):aj:=if lK s=true then xL (kC s) else lW
theorem aaj{w:World}{σ:Nat->Nat}{S:Store}{β:Hs}{x:ah}{lv:Value}{b:Bool}(h:bn w σ (.sl (x.ak.map ah.enc)) lv)(h1:lv.oneCell'=true):
 bJ w σ S β (.dI [(true,x.enc.map .d),(false,[.d (.b b)])]) (.tuple #[.agg #[.string ⟨x.aI.toArray⟩,lv],.bool b]):=by
 refine⟨_,rfl,rfl,fun j y hy=> ?_⟩
 match j,hy with
 |0,hy=>
  simp at hy;subst hy;refine⟨_,rfl,_,rfl,by rw[ah.aB];rfl,fun j y hy=> ?_⟩;rw[ah.aB] at hy
  match j,hy with
  |0,hy=>simp at hy;subst hy;exact⟨_,rfl,.s _,rfl⟩
  |1,hy=>simp at hy;subst hy;exact⟨_,rfl,h,h1⟩
 |1,hy=>
  simp at hy;subst hy;exact⟨_,rfl,_,rfl,.b _,rfl⟩
theorem ahm{w:World}{σ:Nat->Nat}{es:List (List D)}{v:Value}(h:bn w σ (.sl es) v):v.oneCell'=true:=by
 cases h<;>rfl
theorem Nf(s:List UInt8)(hs:s.length<=33554432):aF prog 31 [.c (.d (.s s))] (.dI [(true,(kC s).enc.map .d),(false,[.d (.b (lK s))])]):=fun S=>by
 refine⟨⟨_,func31,by kernel_rfl,by kernel_rfl⟩,fun w σ β vs hS hv=> ?_⟩;obtain⟨u,rfl,hu⟩:=QB hv
 obtain rfl:u=.string ⟨s.toArray⟩:=by cases hu.1;rfl
 refine(WW s w σ hS.live hS.lX hs).mono fun e w' ⟨lv,σ',he,hr,hg,hgl⟩=> ?_;exact⟨_,_,S,σ',β,he,hS.grow hg,Keep.refl _ _,Step.jm hg,aaj hr (ahm hr),rfl,rfl⟩
theorem Kk(s:List UInt8)(n:Nat)(hs:s.length<=1048576):aF prog 9 [.c (.d (.s s))] (.dI [(true,(eu (zG s).enc n).map .d),(false,[.d (.b (rT s))])]):=aF.of_le fun S=>by
 rw[zx];have hz:=adq s;have c1:=Nf s (by omega);have c2:=Ag (kC s) n hz
 have yx:lK s=false->Less (.dI [(true,EO),(false,[.d (.b false)])]) (.dI [(true,(zG s).cl n),(false,[.d (.b (rT s))])]):=fun e=>by
  have e1:zG s=lW:=if_neg (by rw[e];decide)
  have e2:rT s=false:=by unfold rT;rw[e];rfl
  rw[e2];exact aah _ e1 n false
 have ad5:lK s=true->zG s=xL (kC s)/\rT s=sj (kC s):=fun e=>⟨if_pos e,by unfold rT;rw[e];rfl⟩;obtain⟨X,hX⟩:∃X,X=kC s:=⟨_,rfl⟩;rw[<-hX] at c1 c2 ad5;refine zcx [.cell 2 30,.tmp 3] func9 ntmps9 ?_;simp -implicitDefEqProofs (disch:=omega) only[go_sem];refine aA c1 ?_;simp -implicitDefEqProofs (disch:=omega) only[go_sem,ah.aB,ag,az]
 with_reducible refine ay (fun hb=> ?_) (fun hb=> ?_)<;>have h:=hb<;>(try simp only[wf_preprocess] at h)<;>simp -implicitDefEqProofs (disch:=omega) only[go_sem,hb]<;>(repeat(with_reducible refine And.intro ?_ ?_;focus first|omega|rfl|assumption|exact⟨_,rfl,rfl⟩|(simp;omega)|(simp;done)))
 ·exact yx h
 ·obtain⟨q1,q2⟩:=ad5 h;rw[q1,q2];refine aA c2 ?_;simp -implicitDefEqProofs (disch:=omega) only[go_sem];exact iZ _
def Xh(k:List UInt8):Prop:=∀b,k.head? =some b->aY b=false
theorem adr:Xh []:=fun b h=>by cases h
theorem ML{b:UInt8}{k:List UInt8}(h:aY b=false):Xh (b::k):=fun c hc=>by
 obtain rfl:b=c:=by simpa using hc
 exact h
theorem QZ:∀(u k:List UInt8),u.all aY=true->Xh k->(u++k).takeWhile aY=u/\(u++k).dropWhile aY=k
 |[],k,_,hk=>by
  cases k with
  |nil=>exact⟨rfl,rfl⟩
  |cons b k=>
   have:=hk b rfl;simp[List.takeWhile,List.dropWhile,this]
 |b::u,k,hu,hk=>by
  rw[dT,af] at hu;obtain⟨h1,h2⟩:=QZ u k hu.2 hk;simp[List.takeWhile,List.dropWhile,hu.1,h1,h2]
mutual
theorem Hl:∀(x:ah),gu x=true->∀k,Xh k->lex (dH x++k)=l7 x++lex k
 | .mk [] l,hf,k,hk=>by
   rw[gu,if_pos rfl] at hf;rw[dH,if_pos rfl,l7,show [40]++dM [32] (jP l)++[41]++k=40::(dM [32] (jP l)++(41::k)) by simp];rw[jM (oq (by decide)),if_neg (by decide),if_pos rfl,EP l hf k]
   simp
 | .mk (b::u) l,hf,k,hk=>by
   rw[gu,if_neg (by simp),af] at hf;have ha:=hf.1;unfold validAtom at ha;rw[af,dT,af] at ha;rw[dH,if_neg (by simp),l7,am,jM (oq (Ep ha.1.1).1),if_pos ha.1.1];obtain⟨h1,h2⟩:=QZ u k ha.1.2 hk;rw[h1,h2];rfl
theorem EP:∀(l:List ah),fI l=true->∀k,lex (dM [32] (jP l)++(41::k))=gY l++ .cl::lex k
 |[],_,k=>by
  show lex (41::k)=.cl::lex k;rw[jM (oq (by decide)),if_neg (by decide),if_neg (by decide),if_pos rfl]
 |[x],hf,k=>by
  rw[fI,af] at hf;have h1:=Hl x hf.1 (41::k) (ML (by decide));have h2:=EP [] rfl k;rw[show dM [32] (jP [x])=dH x by simp[jP,dM],h1];rw[show dM [32] (jP [])++(41::k)=41::k from rfl] at h2;rw[h2];simp[gY]
 |x::y::l,hf,k=>by
  rw[fI,af] at hf;have h1:=Hl x hf.1 (32::(dM [32] (jP (y::l))++(41::k))) (ML (by decide));have h2:=EP (y::l) hf.2 k;rw[show dM [32] (jP (x::y::l))++(41::k)=dH x++(32::(dM [32] (jP (y::l))++(41::k))) by simp[jP,dM],h1]
  rw[show lex (32::(dM [32] (jP (y::l))++(41::k)))=lex (dM [32] (jP (y::l))++(41::k)) by
   rw[<-sJ (32::_),Co (by decide),sJ],h2]
  simp[gY]
end
theorem Q0{x:ah}(h:dJ x=true):Denotes (dH x) x:=by
 have hf:=(Er h).1;have:=Hl x hf [] adr;rw[bw,lex_nil (l:=[]) rfl,bw] at this;exact⟨h,this⟩
theorem Xi{x:ah}(h:dJ x=true):lK (dH x)=true/\kC (dH x)=x:=zY (Q0 h)
theorem SH:lK []=false:=by
 refine aT fun⟨x,hx⟩=> ?_;have h2:=hx.2;rw[lex_nil (l:=[]) rfl] at h2;obtain⟨a,l⟩:=x;cases a<;>simp[l7] at h2
theorem afH(x:ah):dH x≠[]:=by
 rw[G6];split
 ·simp
 ·assumption
theorem ahn{e:aj}(h:d9 e=true)(hx:dJ (bT e)=true):sj (bT e)=true/\xL (bT e)=e:=by
 have hd:=Bn true e (iq h);have ho:sj (bT e)=true:=cK ⟨hx,by rw[hd];exact h,by rw[hd]⟩;exact⟨ho,by unfold xL;rw[if_pos ho,hd]⟩
theorem rtE(e:aj):rT (oN (iE e))=dec (oN (iE e)≠[])/\(rT (oN (iE e))=true->zG (oN (iE e))=e):=by
 have hno:∀s:List UInt8,s=[]->rT s=dec (s≠[])/\(rT s=true->zG s=e):=fun s hs=>by
  have:rT s=false:=by unfold rT;rw[hs,SH];rfl
  rw[this,hs];exact⟨(aT fun h=>h rfl).symm,fun h=>by cases h⟩
 by_cases hz:(iE e).aI=[]/\(iE e).ak.length=0
 ·exact hno _ (if_pos hz)
 have hf:oN (iE e)=sP (iE e):=if_neg hz
 have hyes:∀x,x=bT e->d9 e=true->dJ x=true->rT (dH x)=dec (dH x≠[])/\(rT (dH x)=true->zG (dH x)=e):=by
  rintro x rfl h1 h2;obtain⟨p1,p2⟩:=Xi h2;obtain⟨q1,q2⟩:=ahn h1 h2;refine⟨?_,fun _=> ?_⟩
  ·rw[cK (afH _)];unfold rT;rw[p1,p2,q1];rfl
  ·unfold zG;rw[if_pos p1,p2,q2]
 rw[hf];unfold iE zf at hz ⊢
 cases h1:d9 e with
 |false=>
  rw[h1] at hz;exact absurd ⟨rfl,rfl⟩ hz
 |true=>
  rw[h1] at hz;simp only at hz ⊢;unfold DY at hz ⊢;by_cases h2:dJ (bT e)=true
  ·rw[if_pos h2,sP,if_pos h2];exact hyes _ rfl h1 h2
  ·rw[if_neg h2] at hz;exact absurd ⟨rfl,rfl⟩ hz
theorem aj.Ho{x:aj}(h:x.sz<=4194304):x.aW.length<=4194304/\x.fName.length<=4194304/\x.fType.sz<=4194304/\x.fArgs.length<=4194304/\x.aG.length<=4194304:=by
 simp only[aj.sz,aj.aB,bG,dR,D.sz,ai,au.dz] at h;omega
theorem aj.aiN{x:aj}{i:Nat}(hi:i<x.fArgs.length)(h:x.sz<=4194304):x.fArgs[i].sz<=4194304:=by
 have hx:x.fArgs[i].sz<=bC (x.fArgs.map aj.enc):=iK (cE (ap hi));simp only[aj.sz,aj.aB,bG,dR,D.sz,ai,au.dz] at h;omega
theorem aj.aiO{x:aj}{i:Nat}(hi:i<x.aG.length)(h:x.sz<=4194304):x.aG[i].sz<=4194304:=by
 have hx:x.aG[i].sz<=bC (x.aG.map aK.enc):=iK (cE (ap hi));simp only[aj.sz,aj.aB,bG,dR,D.sz,ai,au.dz] at h;omega
theorem aK.Ho{x:aK}(h:x.sz<=4194304):x.bK.length<=4194304/\x.bH.length<=4194304/\x.fBody.sz<=4194304:=by
 simp only[aK.sz,aK.aB,bG,dR,D.sz,ai,aj.dz] at h;omega
theorem xO:∀n:Nat,∀x:aj,SizeOf.sizeOf x<n->∀y:aj,x.sz<=4194304->aF prog 14 [x.v,y.v] (.c (.d (.b (dec (x=y)))))
 |0=>fun x h=>by omega
 |n+1=>by
  have ih:=xO n;intro x hn y hsz S;have j4:=aj.jo x;have BU:=aj.tu x;have hb0:=aj.Ho hsz;refine zcx [.tmp 4] func14 ntmps14 ?_;simp -implicitDefEqProofs (disch:=omega) only[go_sem]
  with_reducible refine ay (fun hb=> ?_) (fun hb=> ?_)<;>have h:=hb<;>(try simp only[wf_preprocess] at h)<;>simp -implicitDefEqProofs (disch:=omega) only[go_sem,hb]<;>(repeat(with_reducible refine And.intro ?_ ?_;focus first|omega|rfl|assumption|exact⟨_,rfl,rfl⟩|(simp;omega)|(simp;done)))
  ·exact aO (aT (fun e=>h (by rw[e]))).symm
  have h1:=h
  with_reducible refine ay (fun hb=> ?_) (fun hb=> ?_)<;>have h:=hb<;>(try simp only[wf_preprocess] at h)<;>simp -implicitDefEqProofs (disch:=omega) only[go_sem,hb]<;>(repeat(with_reducible refine And.intro ?_ ?_;focus first|omega|rfl|assumption|exact⟨_,rfl,rfl⟩|(simp;omega)|(simp;done)))
  ·exact aO (aT (fun e=>h (by rw[e]))).symm
  have h2:=h
  with_reducible refine ay (fun hb=> ?_) (fun hb=> ?_)<;>have h:=hb<;>(try simp only[wf_preprocess] at h)<;>simp -implicitDefEqProofs (disch:=omega) only[go_sem,hb]<;>(repeat(with_reducible refine And.intro ?_ ?_;focus first|omega|rfl|assumption|exact⟨_,rfl,rfl⟩|(simp;omega)|(simp;done)))
  ·exact aO (aT (fun e=>h (by rw[e]))).symm
  have h3:=h
  with_reducible refine ay (fun hb=> ?_) (fun hb=> ?_)<;>have h:=hb<;>(try simp only[wf_preprocess] at h)<;>simp -implicitDefEqProofs (disch:=omega) only[go_sem,hb]<;>(repeat(with_reducible refine And.intro ?_ ?_;focus first|omega|rfl|assumption|exact⟨_,rfl,rfl⟩|(simp;omega)|(simp;done)))
  ·exact aO (aT (fun e=>h (by rw[e]))).symm
  have h4:=h;refine aA (GX x.fType y.fType (by omega)) ?_;simp -implicitDefEqProofs (disch:=omega) only[go_sem]<;>(repeat(with_reducible refine And.intro ?_ ?_;focus first|omega|rfl|assumption|exact⟨_,rfl,rfl⟩|(simp;omega)|(simp;done)))
  with_reducible refine ay (fun hb=> ?_) (fun hb=> ?_)<;>have h:=hb<;>(try simp only[wf_preprocess] at h)<;>simp -implicitDefEqProofs (disch:=omega) only[go_sem,hb]<;>(repeat(with_reducible refine And.intro ?_ ?_;focus first|omega|rfl|assumption|exact⟨_,rfl,rfl⟩|(simp;omega)|(simp;done)))
  ·exact aO (aT (fun e=>h (by rw[e]))).symm
  have h5:=h
  with_reducible refine ay (fun hb=> ?_) (fun hb=> ?_)<;>have h:=hb<;>(try simp only[wf_preprocess] at h)<;>simp -implicitDefEqProofs (disch:=omega) only[go_sem,hb]<;>(repeat(with_reducible refine And.intro ?_ ?_;focus first|omega|rfl|assumption|exact⟨_,rfl,rfl⟩|(simp;omega)|(simp;done)))
  ·exact aO (aT (fun e=>h (by rw[e]))).symm
  have h6:x.fArgs.length=y.fArgs.length:=by omega
  with_reducible refine ay (fun hb=> ?_) (fun hb=> ?_)<;>have h:=hb<;>(try simp only[wf_preprocess] at h)<;>simp -implicitDefEqProofs (disch:=omega) only[go_sem,hb]<;>(repeat(with_reducible refine And.intro ?_ ?_;focus first|omega|rfl|assumption|exact⟨_,rfl,rfl⟩|(simp;omega)|(simp;done)))
  ·exact aO (aT (fun e=>h (by rw[e]))).symm
  have h7:x.aG.length=y.aG.length:=by omega
  refine bI (ι:=Nat) zmx rfl [2,3,5] (fun i=>[.c (.ptr (0,0) 0),.c (.ptr (0,1) 0),.c (.d (.i .i64 i))]) (fun _=>[.box (x.enc.map .d),.box (y.enc.map .d)]::S)
   (fun i=>i<=x.fArgs.length/\∀j,j<i->x.fArgs[j]? =y.fArgs[j]?) (fun i=>x.fArgs.length-i) 0 rfl ?_ ⟨ba _,fun j h=>by omega⟩ ?_
  ·simp -implicitDefEqProofs (disch:=omega) only[go_sem]
  rintro i ⟨p1,p2⟩;simp -implicitDefEqProofs (disch:=omega) only[go_sem]
  with_reducible refine ay (fun hb=> ?_) (fun hb=> ?_)<;>have h:=hb<;>(try simp only[wf_preprocess] at h)<;>simp -implicitDefEqProofs (disch:=omega) only[go_sem,hb]<;>(repeat(with_reducible refine And.intro ?_ ?_;focus first|omega|rfl|assumption|exact⟨_,rfl,rfl⟩|(simp;omega)|(simp;done)))
  ·have hi:i<x.fArgs.length:=by omega
   have hi':i<y.fArgs.length:=by omega
   (repeat(with_reducible refine And.intro ?_ ?_;focus first|omega|rfl|assumption|exact⟨_,rfl,rfl⟩|(simp;omega)|(simp;done)))
   refine aA (ih x.fArgs[i] (by have:=bc (ap hi);omega) y.fArgs[i] (aj.aiN hi hsz)) ?_;simp -implicitDefEqProofs (disch:=omega) only[go_sem]<;>(repeat(with_reducible refine And.intro ?_ ?_;focus first|omega|rfl|assumption|exact⟨_,rfl,rfl⟩|(simp;omega)|(simp;done)))
   with_reducible refine ay (fun hb=> ?_) (fun hb=> ?_)<;>have h:=hb<;>(try simp only[wf_preprocess] at h)<;>simp -implicitDefEqProofs (disch:=omega) only[go_sem,hb]<;>(repeat(with_reducible refine And.intro ?_ ?_;focus first|omega|rfl|assumption|exact⟨_,rfl,rfl⟩|(simp;omega)|(simp;done)))
   ·exact aO (aT (fun e=>h (by simp only[e]))).symm
   refine bZ (i+1) (by omega) rfl rfl ⟨by omega,fun j hj=> ?_⟩;by_cases e:j=i
   ·subst e;rw[al hi,al hi',h]
   ·exact p2 j (by omega)
  have hi:i=x.fArgs.length:=by omega
  have h8:x.fArgs=y.fArgs:=dy fun j=>by
   by_cases hj:j<i
   ·exact p2 j hj
   ·rw[ck (by omega),ck (by omega)]
  refine bI (ι:=Nat) zmx rfl [2,3,6] (fun i=>[.c (.ptr (0,0) 0),.c (.ptr (0,1) 0),.c (.d (.i .i64 i))]) (fun _=>[.box (x.enc.map .d),.box (y.enc.map .d)]::S)
   (fun i=>i<=x.aG.length/\∀j,j<i->x.aG[j]? =y.aG[j]?) (fun i=>x.aG.length-i) 0 rfl ?_ ⟨ba _,fun j h=>by omega⟩ ?_
  ·simp -implicitDefEqProofs (disch:=omega) only[go_sem]
  clear p1 p2 hi hb h;clear i;rintro i ⟨p1,p2⟩;simp -implicitDefEqProofs (disch:=omega) only[go_sem]
  with_reducible refine ay (fun hb=> ?_) (fun hb=> ?_)<;>have h:=hb<;>(try simp only[wf_preprocess] at h)<;>simp -implicitDefEqProofs (disch:=omega) only[go_sem,hb]<;>(repeat(with_reducible refine And.intro ?_ ?_;focus first|omega|rfl|assumption|exact⟨_,rfl,rfl⟩|(simp;omega)|(simp;done)))
  ·have hi:i<x.aG.length:=by omega
   have hi':i<y.aG.length:=by omega
   have hs:=bc (ap hi);have hz:=aK.Ho (aj.aiO hi hsz);have akX:=aK.rD x.aG[i]
   (repeat(with_reducible refine And.intro ?_ ?_;focus first|omega|rfl|assumption|exact⟨_,rfl,rfl⟩|(simp;omega)|(simp;done)))
   with_reducible refine ay (fun hb=> ?_) (fun hb=> ?_)<;>have h:=hb<;>(try simp only[wf_preprocess] at h)<;>simp -implicitDefEqProofs (disch:=omega) only[go_sem,hb]<;>(repeat(with_reducible refine And.intro ?_ ?_;focus first|omega|rfl|assumption|exact⟨_,rfl,rfl⟩|(simp;omega)|(simp;done)))
   ·exact aO (aT (fun e=>h (by simp only[e]))).symm
   have k1:=h
   (repeat(with_reducible refine And.intro ?_ ?_;focus first|omega|rfl|assumption|exact⟨_,rfl,rfl⟩|(simp;omega)|(simp;done)))
   refine aA (RX x.aG[i].bH y.aG[i].bH (by omega)) ?_;simp -implicitDefEqProofs (disch:=omega) only[go_sem]<;>(repeat(with_reducible refine And.intro ?_ ?_;focus first|omega|rfl|assumption|exact⟨_,rfl,rfl⟩|(simp;omega)|(simp;done)))
   with_reducible refine ay (fun hb=> ?_) (fun hb=> ?_)<;>have h:=hb<;>(try simp only[wf_preprocess] at h)<;>simp -implicitDefEqProofs (disch:=omega) only[go_sem,hb]<;>(repeat(with_reducible refine And.intro ?_ ?_;focus first|omega|rfl|assumption|exact⟨_,rfl,rfl⟩|(simp;omega)|(simp;done)))
   ·exact aO (aT (fun e=>h (by simp only[e]))).symm
   have k2:=h
   (repeat(with_reducible refine And.intro ?_ ?_;focus first|omega|rfl|assumption|exact⟨_,rfl,rfl⟩|(simp;omega)|(simp;done)))
   refine aA (ih x.aG[i].fBody (by omega) y.aG[i].fBody (by omega)) ?_;simp -implicitDefEqProofs (disch:=omega) only[go_sem]<;>(repeat(with_reducible refine And.intro ?_ ?_;focus first|omega|rfl|assumption|exact⟨_,rfl,rfl⟩|(simp;omega)|(simp;done)))
   with_reducible refine ay (fun hb=> ?_) (fun hb=> ?_)<;>have h:=hb<;>(try simp only[wf_preprocess] at h)<;>simp -implicitDefEqProofs (disch:=omega) only[go_sem,hb]<;>(repeat(with_reducible refine And.intro ?_ ?_;focus first|omega|rfl|assumption|exact⟨_,rfl,rfl⟩|(simp;omega)|(simp;done)))
   ·exact aO (aT (fun e=>h (by simp only[e]))).symm
   have k3:=h;refine bZ (i+1) (by omega) rfl rfl ⟨by omega,fun j hj=> ?_⟩;by_cases e:j=i
   ·subst e;rw[al hi,al hi',aK.ext k1 k2 k3]
   ·exact p2 j (by omega)
  ·have hi:i=x.aG.length:=by omega
   have h9:x.aG=y.aG:=dy fun j=>by
    by_cases hj:j<i
    ·exact p2 j hj
    ·rw[ck (by omega),ck (by omega)]
   exact aO (cK (aj.ext h1 h2 h3 h4 h5 h8 h9)).symm
theorem Hq(x y:aj)(h:x.sz<=4194304):aF prog 14 [x.v,y.v] (.c (.d (.b (dec (x=y))))):=xO _ x (br _) y h
end Go.Ab
namespace Go.Proofs.YtlaaknnkeidlbaaGreatDoor.fnExprText
open Go Go.Ab
theorem ads{bs:List Int}(hB:Bytes bs):aF prog 7 [.c (.d (.sl (bs.map xB)))] (Cy (pO bs)).1.v:=fun S=>by
 refine zcx [.cell 2 30] func7 ntmps7 ?_;simp -implicitDefEqProofs (disch:=omega) only[go_sem];refine aQ rfl (zF hB _ _) ?_;simp -implicitDefEqProofs (disch:=omega) only[go_sem];refine aQ rfl (Xb hB (pO bs) 0 1 _ rfl) ?_;simp -implicitDefEqProofs (disch:=omega) only[go_sem]
 first|done|rfl
theorem adt{bs:List Int}(hB:Bytes bs):aF prog 10 [.c (.d (.sl (bs.map xB)))] (Bt bs).v:=fun S=>by
 obtain⟨R,hR⟩:∃R,R=Bt bs:=⟨_,rfl⟩;rw[<-hR];unfold Bt at hR;have q1:=fun(l j:Nat) (S:Store) (hk:aN S (l,j)=some (.box (cur (pO bs))))=>zW hB (pO bs) l j S 3 hk (by omega) (by omega);obtain⟨o,ho⟩:∃o,o=(fZ 3 (pO bs)).1:=⟨_,rfl⟩;obtain⟨c1,hc1⟩:∃c1,c1=(fZ 3 (pO bs)).2:=⟨_,rfl⟩;rw[<-ho,<-hc1] at hR q1;have q2:=fun(l j:Nat) (S:Store) (hk:aN S (l,j)=some (.box (cur c1)))=>aaf hB c1 l j S hk
 cases o with
 |true=>
  rw[if_pos rfl] at hR;rw[<-hR] at q2;refine zcx [.cell 2 37] func10 ntmps10 ?_;simp -implicitDefEqProofs (disch:=omega) only[go_sem];refine aQ rfl (zF hB _ _) ?_;simp -implicitDefEqProofs (disch:=omega) only[go_sem];refine aQ rfl (q1 0 1 _ rfl) ?_;simp -implicitDefEqProofs (disch:=omega) only[go_sem];refine aQ rfl (q2 0 1 _ rfl) ?_;simp -implicitDefEqProofs (disch:=omega) only[go_sem]
  first|done|rfl
 |false=>
  rw[if_neg (by decide)] at hR;have q3:=fun(l j:Nat) (S:Store) (hk:aN S (l,j)=some (.box (cur c1)))=>Gd (Gf hB 3 qc c1 l j S (by decide) hk);have hes:=Cn 3 qc c1 QY;have Zh:=Xe 3 qc c1;rw[show((3:Nat):Int)=3 from rfl] at q3;obtain⟨e,he⟩:∃e,e=(dA 3 qc c1).1:=⟨_,rfl⟩;obtain⟨c2,hc2⟩:∃c2,c2=(dA 3 qc c1).2:=⟨_,rfl⟩;simp only[<-he,<-hc2] at hR q3 hes Zh;have q4:=Gm e (by omega);have hos:=KP (d9 e) (bT e);have hit:=fun h=>Xf (x:=e) h;rw[show zf (d9 e) (bT e)=iE e from rfl] at hos;have q5:=fun(l j:Nat) (S:Store) (hk:aN S (l,j)=some (.box (cur c2)))=>zW hB c2 l j S 4 hk (by omega) (by omega);obtain⟨X,hX⟩:∃X,X=iE e:=⟨_,rfl⟩;rw[<-hX] at hR q4 hos hit;unfold NA at hR;obtain⟨o2,ho2⟩:∃o2,o2=(fZ 4 c2).1:=⟨_,rfl⟩;obtain⟨c3,hc3⟩:∃c3,c3=(fZ 4 c2).2:=⟨_,rfl⟩;rw[<-ho2,<-hc3] at hR q5
  have hXl:X.ak.length<=11700:=by
   simp only[ah.sz,ah.aB,bG,D.sz,List.length_map] at hos;omega
  by_cases h0:X.ak.length=0
  ·rw[if_neg (by omega)] at hR;rw[hR];have d0:decide ((0:Int)<(X.ak.length:Int))=false:=decide_eq_false (by omega);refine zcx [.cell 2 37] func10 ntmps10 ?_;simp -implicitDefEqProofs (disch:=omega) only[go_sem];refine aQ rfl (zF hB _ _) ?_;simp -implicitDefEqProofs (disch:=omega) only[go_sem];refine aQ rfl (q1 0 1 _ rfl) ?_;simp -implicitDefEqProofs (disch:=omega) only[go_sem];refine dQ [true] rfl (q3 0 1 _ rfl) ?_;simp -implicitDefEqProofs (disch:=omega) only[go_sem];refine aA q4 ?_;simp -implicitDefEqProofs (disch:=omega) only[go_sem,d0]
   first|done|rfl
  have d0:decide ((0:Int)<(X.ak.length:Int))=true:=decide_eq_true (by omega)
  cases o2 with
  |false=>
   rw[if_neg (by simp)] at hR;rw[hR];refine zcx [.cell 2 37] func10 ntmps10 ?_;simp -implicitDefEqProofs (disch:=omega) only[go_sem];refine aQ rfl (zF hB _ _) ?_;simp -implicitDefEqProofs (disch:=omega) only[go_sem];refine aQ rfl (q1 0 1 _ rfl) ?_;simp -implicitDefEqProofs (disch:=omega) only[go_sem];refine dQ [true] rfl (q3 0 1 _ rfl) ?_;simp -implicitDefEqProofs (disch:=omega) only[go_sem];refine aA q4 ?_;simp -implicitDefEqProofs (disch:=omega) only[go_sem,d0];refine aQ rfl (q5 0 1 _ rfl) ?_;simp -implicitDefEqProofs (disch:=omega) only[go_sem]
   first|done|rfl
  |true=>
   rw[if_pos ⟨h0,rfl⟩] at hR;obtain⟨hv,hw,hXe,k1,k2,k3⟩:=hit (fun e=>h0 (by rw[e];rfl))
   have hne:e.fArgs≠[]:=by
    rcases Zh with h|h|h|h
    ·exact absurd h k1
    ·exact absurd h k2
    ·exact absurd h k3
    ·exact h
   have hXa:X.aI=[]:=by rw[hXe];exact QX k1 k2 k3
   have q6:=fun(fr:List Ab.Obj) (Ω:Store)=>je.oK (pre:=[.d (.s [])]) rfl (S':=fr::Ω) rfl (Nc e (fr::Ω) (by omega) hv hw k1 k2 k3 hne);simp only[<-hXe,iM,fJ,List.cons_append,List.nil_append] at q6;have rk:=Xd (n:=X.ak.length) c3 (by omega);have q7:=fun(l j:Nat) (S:Store) (hk:aN S (l,j)=some (.box (cur c3)))=>SG hB c3 l j S X.ak.length hk (by omega) (by omega);obtain⟨k,hk⟩:∃k:Nat,(om X.ak.length c3).1=(k:Int):=⟨(om X.ak.length c3).1.toNat,by omega⟩;obtain⟨c4,hc4⟩:∃c4,c4=(om X.ak.length c3).2:=⟨_,rfl⟩;rw[hk,<-hc4] at q7;rw[hk,<-hc4,Int.toNat_natCast] at hR;rw[hk] at rk;have q8:=fun(l j:Nat) (S:Store) (hk:aN S (l,j)=some (.box (cur c4)))=>K8 hB 1 c4 l j S hk (by omega);rw[show((1:Nat):Int)=1 from rfl] at q8;obtain⟨y,hy⟩:∃y,y=(jT 1 c4).1:=⟨_,rfl⟩;obtain⟨c5,hc5⟩:∃c5,c5=(jT 1 c4).2:=⟨_,rfl⟩;simp only[<-hy,<-hc5] at q8 hR
   have hkl:k<X.ak.length:=by omega
   refine tX [58] (rs:=[.cell 2 37]) zmx func10 ntmps10 rfl rfl rfl rfl rfl ?_;simp -implicitDefEqProofs (disch:=omega) only[go_sem];refine aQ rfl (zF hB _ _) ?_;simp -implicitDefEqProofs (disch:=omega) only[go_sem];refine aQ rfl (q1 0 1 _ rfl) ?_;simp -implicitDefEqProofs (disch:=omega) only[go_sem];refine dQ [true] rfl (q3 0 1 _ rfl) ?_;simp -implicitDefEqProofs (disch:=omega) only[go_sem];refine aQ rfl (q6 _ _) ?_;simp -implicitDefEqProofs (disch:=omega) only[go_sem,d0];refine aQ rfl (q5 0 1 _ rfl) ?_;simp -implicitDefEqProofs (disch:=omega) only[go_sem];refine aQ rfl (q7 0 1 _ rfl) ?_;simp -implicitDefEqProofs (disch:=omega) only[go_sem];refine⟨fun _=>PY rfl,?_⟩;refine aQ rfl (q8 0 1 _ rfl) ?_;simp -implicitDefEqProofs (disch:=omega) only[go_sem];refine⟨fun _=>PY rfl,?_⟩
   (repeat(with_reducible refine And.intro ?_ ?_;focus first|omega|rfl|assumption|exact⟨_,rfl,rfl⟩|(simp;omega)|(simp;done)))
   refine⟨by rfl,?_⟩;simp -implicitDefEqProofs (disch:=omega) only[go_sem];rw[hR,show ∀(a:List UInt8)(b:List ah),(ah.mk a b).v=.agg [.d (.s a),.d (.sl (b.map ah.enc))] from fun _ _=>rfl,hXa,List.map_set];simp only[ah.aB];rfl
theorem law(x0:List Int)(b0:∀x∈x0,0<=x/\x<=255):bL prog 3 [.c (.d (.sl (x0.map xB)))] [] (fun r _=>r=.c (.d (.b true))):=by
 refine zcx [.tmp 2] func3 ntmps3 ?_;simp -implicitDefEqProofs (disch:=omega) only[go_sem];refine aA (ahl x0) ?_;simp -implicitDefEqProofs (disch:=omega) only[go_sem]
 with_reducible refine ay (fun hb=> ?_) (fun hb=> ?_)<;>have h:=hb<;>(try simp only[wf_preprocess] at h)<;>simp -implicitDefEqProofs (disch:=omega) only[go_sem,hb]<;>(repeat(with_reducible refine And.intro ?_ ?_;focus first|omega|rfl|assumption|exact⟨_,rfl,rfl⟩|(simp;omega)|(simp;done)))
 have Mc:Bytes x0:=⟨by omega,b0⟩;have p1:=ads Mc;have p2:=adt Mc;have hes:=adl (pO x0);have hys:=aae x0;obtain⟨e,he⟩:∃e,e=(Cy (pO x0)).1:=⟨_,rfl⟩;obtain⟨y,hy⟩:∃y,y=Bt x0:=⟨_,rfl⟩;rw[<-he] at p1 hes;rw[<-hy] at p2 hys;clear he hy;have e1:=Lb e (by omega);have e2:=Lc e (by omega);have v1:=Hq e e (by omega);obtain⟨r1,r2⟩:=rtE e;have ht:=acX (iE e);obtain⟨T,hT⟩:∃T,T=oN (iE e):=⟨_,rfl⟩;rw[<-hT] at e1 e2 r1 r2 ht;clear hT
 have d1:aF prog 9 [.c (.d (.s T))] (.dI [(true,(zG T).enc.map .d),(false,[.d (.b (rT T))])]):=
  aF.less (Kk T 0 (by omega)) (Mj fun w σ S β vs h=>LY h)
 have r3:T≠[]->zG T=e:=fun h=>r2 (by rw[r1];exact cK h);obtain⟨u,hu⟩:∃u,u=zG T:=⟨_,rfl⟩;rw[<-hu] at d1 r3;rw[r1] at d1;clear hu r1 r2
 have d2:aF prog 11 [y.v] (.dI [(true,(xL y).enc.map .d),(false,[.d (.b (sj y))])]):=
  aF.less (Hg y 0 (by omega)) (Mj fun w σ S β vs h=>LY h)
 have d3:=La y (by omega);have hfs:=ag3 (x:=y) (by omega)
 have hval:sj y=true->iE (xL y)=y:=fun h=>by
  rw[K9 h];obtain⟨a,b,c⟩:=iJ h;unfold iE zf DY;rw[b,c]
  simp only
  rw[if_pos a]
 obtain⟨f,hf⟩:∃f,f=xL y:=⟨_,rfl⟩;obtain⟨B,hB⟩:∃B,B=sj y:=⟨_,rfl⟩;rw[<-hf,<-hB] at d2 d3 hval;rw[<-hf] at hfs;clear hf hB;have d4:aF prog 16 [f.v] (iE f).v:=aF.less (EN f 0 (by omega)) (Fx (iE f) 0);have d5:=xJ y y (by omega);simp only[aj.aB,au.aB,aj.cv,List.cons_append,List.nil_append,List.map_cons,List.map_nil] at d1 d2 d3;refine aA p1 ?_;simp -implicitDefEqProofs (disch:=omega) only[go_sem];refine aA e1 ?_;simp -implicitDefEqProofs (disch:=omega) only[go_sem];refine aA d1 ?_;simp -implicitDefEqProofs (disch:=omega) only[go_sem];refine aA p2 ?_;simp -implicitDefEqProofs (disch:=omega) only[go_sem];refine aA d2 ?_;simp -implicitDefEqProofs (disch:=omega) only[go_sem];refine aA d3 ?_;simp -implicitDefEqProofs (disch:=omega) only[go_sem];refine aA e2 ?_;by_cases hT0:T=[]
 ·subst hT0;have k1:dec (([]:List UInt8)≠[])=false:=aT fun h=>h rfl
  cases B with
  |false=>
   simp -implicitDefEqProofs (disch:=omega) only[go_sem,k1,cK rfl,Bool.not_true,Bool.not_false]
   first|done|rfl
  |true=>
   rw[hval rfl] at d4;simp -implicitDefEqProofs (disch:=omega) only[go_sem,k1,cK rfl,Bool.not_true,Bool.not_false];refine aA d4 ?_;simp -implicitDefEqProofs (disch:=omega) only[go_sem];refine aA d5 ?_;simp -implicitDefEqProofs (disch:=omega) only[go_sem,cK rfl]
   first|done|rfl
 ·have k1:dec (T≠[])=true:=cK hT0;have k2:decide (T=[])=false:=decide_eq_false hT0;have hup:=r3 hT0;subst hup
  cases B with
  |false=>
   simp -implicitDefEqProofs (disch:=omega) only[go_sem,k1,k2,cK rfl,Bool.not_true,Bool.not_false];refine aA v1 ?_;simp -implicitDefEqProofs (disch:=omega) only[go_sem,k1,k2,cK rfl,Bool.not_true,Bool.not_false]
   first|done|rfl
  |true=>
   rw[hval rfl] at d4;simp -implicitDefEqProofs (disch:=omega) only[go_sem,k1,k2,cK rfl,Bool.not_true,Bool.not_false];refine aA v1 ?_;simp -implicitDefEqProofs (disch:=omega) only[go_sem,k1,k2,cK rfl,Bool.not_true,Bool.not_false];refine aA d4 ?_;simp -implicitDefEqProofs (disch:=omega) only[go_sem];refine aA d5 ?_;simp -implicitDefEqProofs (disch:=omega) only[go_sem,cK rfl]
   first|done|rfl
end Go.Proofs.YtlaaknnkeidlbaaGreatDoor.fnExprText
namespace Go.Ab
theorem Ng{H:Type}{enc:TypeId×Value->H}{P:Program}{w:World}{base:Nat}{sp:Nat->Bool}{held:Bool}{fuel n:Nat}{t e:TypeId}{k:IntKind}{cs:List Value}{ns:List Int}{p:List MemPlace}
 (ht:P.underlying t=some (.array n e))(he:P.underlying e=some (.int k))(ce:P.cellsOf e=1)(ct:P.cellsOf t=n)
 (h:DataW.trod enc P w base sp held fuel t cs=some (.agg (ns.map fun z=>.lit (.int k z)),p)):cs=ns.map (Value.int k ·):=by
 obtain⟨xs,m,_,ex,hlen,hl,hel⟩:=DataW.trod_array ht h;rw[ct] at hlen;have e3:=DataW.agg.inj (Prod.mk.inj ex).1
 have hns:ns.length=n:=by have:=congrArg List.length e3;simpa [hl] using this
 refine List.ext_getElem (by rw[hlen,ai,hns]) fun i h1 h2=> ?_;have k0:=hel i (by omega);rw[ce,Nat.mul_one] at k0
 have hd:(cs.drop i).take 1=[cs[i]]:=by
  rw[bO h1];rfl
 rw[hd,al (by omega)] at k0;obtain⟨z,a,b,_⟩:=DataW.trod_int he k0
 have e4:(ns.map fun z=>(DataW.lit (Lit.int k z):DataW H))[i]'(by rw[ai];omega)=(xs.map (·.1))[i]'(by rw[ai];omega):=by simp only[e3]
 rw[cj,cj,b] at e4;simp only[DataW.lit.injEq,Lit.int.injEq,true_and] at e4;rw[cj,e4];simpa using a
theorem ER{P:Program}{w:World}{n:String}{g:Nat}{cs:Array Value}(hg:P.globalNamed n=some g)(h:w.var? P n=some cs):∃t fz,w.heap[g]? =some (.cells cs t fz):=by
 unfold World.var? at h;rw[hg] at h;simp only[dc] at h;split at h
 ·rename_i c t fz hh;cases h;exact⟨t,fz,hh⟩
 ·cases h
open Go.ChangeShapes Go.RowKit
theorem gES:prog.globalNamed "strconv.ErrSyntax" =some 1:=by kernel_rfl
theorem afI:(prog.globals[1]?).map (·.type)=some 190:=by kernel_rfl
theorem gER:prog.globalNamed "strconv.ErrRange" =some 2:=by kernel_rfl
theorem afJ:(prog.globals[2]?).map (·.type)=some 190:=by kernel_rfl
theorem cellsE:prog.cellsOf 293=1:=by kernel_rfl
theorem cellsS:prog.cellsOf 9=1:=by kernel_rfl
theorem ad6: "*" ++ "errors.errorString" = "*errors.errorString" :=by decide
theorem aho(u:TypeId)(h:prog.typeName? 3 u=some "*errors.errorString"):u=291:=
 typeName_ptr_named (nm:= "errors.errorString") (by rw[ad6];kernel_rfl) (by kernel_rfl) (by decide) u (by rw[ad6];exact h)
theorem Q5{W:World}{r:List (String×DataW Unit)}(hr:(r.all fun x=>x.2.handleName?.isNone)=true)
 (h0:laidMetH prog (("math/bits.deBruijn32tab",YtlaaknnkeidlbaaGreatDoor.Rows.laid_math_bits_deBruijn32tab)::("math/bits.deBruijn64tab",YtlaaknnkeidlbaaGreatDoor.Rows.laid_math_bits_deBruijn64tab)::("internal/strconv.uint64pow10",YtlaaknnkeidlbaaGreatDoor.Rows.laid_internal_strconv_uint64pow10)::("strconv.ErrRange",YtlaaknnkeidlbaaGreatDoor.Rows.laid_strconv_ErrRange)::("strconv.ErrSyntax",YtlaaknnkeidlbaaGreatDoor.Rows.laid_strconv_ErrSyntax)::r) W):iU W (iO W):=by
 rw[MakeChecks.laidMetH_plain _ _ _ (by
  rw[dT,dT,dT,dT,dT,hr];kernel_rfl)] at h0
 have hR:=h0.tail.tail.tail;have hS:=hR.tail;obtain⟨a1,s1,hv1,_,_,_⟩:=laid_sentinel hR gER afJ underlying190 aho underlying291 underlying293 rfl rfl underlying9 cellsE cellsS;obtain⟨a2,s2,hv2,_,_,_⟩:=laid_sentinel hS gES afI underlying190 aho underlying291 underlying293 rfl rfl underlying9 cellsE cellsS;obtain⟨t1,yN,CG⟩:=ER gER hv1;obtain⟨t2,fz2,rW⟩:=ER gES hv2;obtain⟨ps,⟨_,_,_,_,_,_,_,_,_,_,⟨_,_,_,_,_,_,_,_,_,_,⟨g,t,cs,fuel,p,q,hg,ht,hv,hd,_,_⟩,_⟩,_⟩,_,_⟩:=h0
 have hn:prog.globalNamed "internal/strconv.uint64pow10" =some 3:=by kernel_rfl
 obtain rfl:=cx (hn.symm.trans hg);obtain rfl:=cx ((show(prog.globals[3]?).map (·.type)=some 285 by kernel_rfl).symm.trans ht)
 have hl:(YtlaaknnkeidlbaaGreatDoor.Rows.laid_internal_strconv_uint64pow10:DataW Unit)=.agg (((List.range 20).map fun i=>((10^i:Nat):Int)).map fun z=>.lit (.int .u64 z)):=by kernel_rfl
 rw[hl] at hd;have e:=Ng underlying285 underlying268 (by kernel_rfl) (by kernel_rfl) hd;obtain⟨t',fz,hh⟩:=ER hg hv;intro g' p' hm
 have fast:∀{b:Nat}{c:Array Value}{t:TypeId}{fz:Nat×Nat},W.heap[b]? =some (.cells c t fz)->c.size<=iO W b:=fun {b c t fz} hb=>by
  unfold iO;rw[hb];exact ax _
 rcases cA.1 hm with hm|hm
 ·cases hm;refine⟨cs,t',fz,hh,?_,fast hh⟩;show cs.toList=_;rw[e,fh];rfl
 rcases cA.1 hm with hm|hm
 ·cases hm;exact⟨_,t1,yN,CG,⟨_,_,rfl⟩,fast CG⟩
 ·have hm':=List.eq_of_mem_singleton hm;cases hm';exact⟨_,t2,fz2,rW,⟨_,_,rfl⟩,fast rW⟩
theorem aak{P:Program}{n:Nat}{t:TypeId}{ds:List D}(h:WT P n t ds):∃m,n=m+1:=by
 cases n with
 |zero=>exact h.elim
 |succ m=>exact⟨m,rfl⟩
theorem ahp{P:Program}{n:Nat}{t:TypeId}{k:IntKind}{ds:List D}(ht:P.underlying t=some (.int k))(h:WT P n t ds):∃x,ds=[.i k x]/\(Lit.int k x).wf=true:=by
 obtain⟨m,rfl⟩:=aak h;simp only[WT,ht] at h;exact h
theorem adu{P:Program}{n:Nat}{t e:TypeId}{ds:List D}(ht:P.underlying t=some (.slice e))(h:WT P n t ds):∃es m,m<n/\ds=[.sl es]/\∀x∈es,WT P m e x:=by
 obtain⟨m,rfl⟩:=aak h;simp only[WT,ht] at h;obtain⟨es,h1,_,h2⟩:=h;exact⟨es,m,by omega,h1,fun x hx=>(h2 x hx).2⟩
theorem TT{P:Program}{W:TypeId->List D->Prop}(hW:∀t ds,W t ds->yZ ds):∀(fs:List Field)(ds:List D),WTF P W fs ds->yZ ds
 |[],ds,h=>by
  have h:ds=[]:=h;rw[h];exact y5
 |f::fs,ds,h=>by
  obtain⟨a,b,rfl,_,h1,h2⟩:=h;exact RO.2 ⟨hW _ _ h1,TT hW fs b h2⟩
theorem Q6{P:Program}:∀(n:Nat)(t:TypeId)(ds:List D),WT P n t ds->yZ ds
 |0,t,ds,h=>h.elim
 |n+1,t,ds,h=>by
  simp only[WT] at h;split at h
  ·obtain⟨b,rfl⟩:=h;exact zM.2 ⟨.b _,y5⟩
  ·obtain⟨b,rfl,_⟩:=h;exact zM.2 ⟨.i _ _,y5⟩
  ·obtain⟨l,rfl,hl⟩:=h;exact zM.2 ⟨.s _ hl,y5⟩
  ·obtain⟨es,rfl,hl,hh⟩:=h;exact zM.2 ⟨.sl _ hl fun e he d hd=>Q6 n _ e (hh e he).2 d hd,y5⟩
  ·exact TT (Q6 n) _ _ h
  ·exact h.elim
end Go.Ab