/-
  SEVERAL TEXTS IN ONE (merged by program): contracts and models, each with its own heading.
-/
import Derived.Test.YtlaaknnkeidlbaaGreatDoorPartDedbI
import Derived.Lib.ItoaNum
import Derived.Shelf.LaysM
import Derived.Shelf.Strconv.Itoa3
import Derived.Test.YtlaaknnkeidlbaaGreatDoorProg
open Go.Proofs Go.Proofs.Tryz
set_option linter.unusedSimpArgs false
set_option linter.unusedVariables false
set_option maxRecDepth 4000
namespace Go.Ab
def vS:List UInt8:=[116,114,117,101]
def uN:List UInt8:=[102,97,108,115,101]
def kg:List UInt8:=[99,97,108,108]
def fM:List UInt8:=[109,101,116,104,111,100]
def mV:List UInt8:=[110,101,119]
def gJ:List UInt8:=[99,97,115,101]
def mW:List UInt8:=[108,101,116]
def qY:List UInt8:=[105,102]
def kr:List UInt8:=[112,97,99,107]
def nA:List UInt8:=[116,104,101]
def eD(k:Int)(tr nm:List UInt8)(ty:au):List ah:=
 if k=4 then aP [kg,nm] else if k=5 then aP [fM,tr,nm] else if k=6 then aP [mV,nm] else if k=8 then aP [mW,nm] else
 if k=9 then aP [qY] else if k=10 then aP [nm] else if k=11 then aP [kr,tr] else if k=12 then [aM nA,fP ty] else aP [gJ]
mutual
def bT:aj->ah
 | .mk k tr nm n ty zs ms=>if k=1 then aM (Lib.itoa n) else if k=2 then aM (if n=1 then vS else uN) else if k=3 then aM nm else
   dh (eD k tr nm ty++xA zs++(if k=4\/k=5\/k=6\/k=8\/k=9\/k=10\/k=11\/k=12 then [] else Cg ms))
def xA:List aj->List ah
 |[]=>[]
 |t::ts=>bT t::xA ts
def rJ:aK->ah
 | .mk c vs b=>dh ([aM c]++aP vs++[bT b])
def Cg:List aK->List ah
 |[]=>[]
 |t::ts=>rJ t::Cg ts
end
theorem zi:∀l,xA l=l.map bT
 |[]=>rfl
 |t::ts=>by rw[xA,ag,zi ts]
theorem Ch:∀l,Cg l=l.map rJ
 |[]=>rfl
 |t::ts=>by rw[Cg,ag,Ch ts]
theorem wP(x:aj):bT x=if x.aH=1 then aM (Lib.itoa x.fN) else if x.aH=2 then aM (if x.fN=1 then vS else uN) else if x.aH=3 then aM x.fName else
 dh (eD x.aH x.aW x.fName x.fType++x.fArgs.map bT++(if x.aH=4\/x.aH=5\/x.aH=6\/x.aH=8\/x.aH=9\/x.aH=10\/x.aH=11\/x.aH=12 then [] else x.aG.map rJ)):=by
 cases x;rw[bT,zi,Ch];rfl
theorem PU(x:aK):rJ x=dh ([aM x.bK]++aP x.bH++[bT x.fBody]):=by cases x;rw[rJ];rfl
def pY:List aj->Nat
 |[]=>0
 |x::xs=>x.sz+pY xs
theorem GL:∀l,bC (l.map aj.enc)=pY l
 |[]=>rfl
 |x::xs=>by rw[ag,bC,pY,GL xs];rfl
def xH:List aK->Nat
 |[]=>0
 |x::xs=>x.sz+xH xs
theorem GN:∀l,bC (l.map aK.enc)=xH l
 |[]=>rfl
 |x::xs=>by rw[ag,bC,xH,GN xs];rfl
theorem qZ(x:aj):x.sz=x.aW.length+x.fName.length+x.fType.sz+(x.fArgs.length+pY x.fArgs)+(x.aG.length+xH x.aG):=by
 rw[<-GL,<-GN];simp only[aj.sz,aj.aB,bG,dR,D.sz,ai,au.dz];omega
theorem tV(x:aK):x.sz=x.bK.length+(x.bH.length+(x.bH.map List.length).sum)+x.fBody.sz:=by
 rw[<-F7];simp only[aK.sz,aK.aB,bG,dR,D.sz,ai,aj.dz];omega
theorem Bf:∀(k n:Nat),n<10^ (k+1)->(Lib.decDigits n).length<=k+1
 |0,n,h=>by rw[Lib.decDigits,dif_pos (by simpa using h)];simp
 |k+1,n,h=>by
  rw[Lib.decDigits];split
  ·simp
  ·rw[ab];have:=Bf k (n/10) (by rw[fi] at h;omega);simp;omega
theorem aco{n:Int}(h: -999999<=n/\n<=999999):(Lib.itoa n).length<=7:=by
 unfold Lib.itoa;split
 ·have:=Bf 5 n.natAbs (by omega);simp;omega
 ·have:=Bf 5 n.toNat (by omega);omega
theorem Zb(k:Int)(tr nm:List UInt8)(ty:au):(eD k tr nm ty).length<=3/\dD (eD k tr nm ty)<=18+tr.length+nm.length+16*ty.sz:=by
 have h:=YX ty;unfold eD
 repeat' (first|(split;·refine⟨by simp[aP],?_⟩;simp[dD,aP,nE,kg,fM,mV,mW,qY,kr,nA,gJ];omega))
 refine⟨by simp[aP],?_⟩;simp[dD,aP,nE,gJ];omega
mutual
theorem zk:∀x:aj,gT x=true->(bT x).sz<=24+32*x.sz
 | .mk k tr nm n ty zs ms=>fun hok=>by
   rw[gT,af,af] at hok;have hf:=iJ hok.1;have h1:=Tv zs hok.2.1;have h2:=Tw ms hok.2.2;have h3:=Zb k tr nm ty;rw[qZ];simp only[aj.fName,aj.fArgs,aj.aW,aj.fType,aj.aG];rw[bT];split
   ·rename_i hk;have h4:=hf.2.2.2.1;simp only[aj.aH,aj.fN,hk,if_true] at h4;have:=aco h4;rw[nE];omega
   ·split
    ·rw[nE];split<;>simp[vS,uN]<;>omega
    ·split
     ·rw[nE];omega
     ·rw[yD,jF,jF,ab,ab,zi,ai,<-zi];split
      ·simp[dD];omega
      ·rw[Ch,ai,<-Ch];omega
theorem Tv:∀xs:List aj,jq xs=true->dD (xA xs)<=24*xs.length+32*pY xs
 |[],_=>by simp[xA,dD]
 |x::xs,h=>by
  rw[jq,af] at h;have h1:=zk x h.1;have h2:=Tv xs h.2;rw[xA,dD,pY,aa];omega
theorem agO:∀x:aK,rE x=true->(rJ x).sz<=26+32*x.sz
 | .mk c vs b=>fun hok=>by
   rw[rE,af,af] at hok;have h1:=zk b hok.2.2;rw[tV];simp only[aK.bK,aK.bH,aK.fBody];rw[rJ,yD,jF,jF,ab,ab,lq,LP];simp[dD,nE];omega
theorem Tw:∀xs:List aK,kZ xs=true->dD (Cg xs)<=26*xs.length+32*xH xs
 |[],_=>by simp[Cg,dD]
 |x::xs,h=>by
  rw[kZ,af] at h;have h1:=agO x h.1;have h2:=Tw xs h.2;rw[Cg,dD,xH,aa];omega
end
end Go.Ab
namespace Go.Proofs
open Go.Shelf
def Tryz.laysM171_ren:Go.Shelf.Ren:=⟨fun|171=>190|243=>244|246=>268|283=>288|284=>289|285=>290|286=>291|129=>300|317=>299|318=>301|319=>302|320=>303|337=>309|338=>310|n=>n,fun|3=>3|9=>9|2=>2|4=>4|171=>267|0=>0|53=>268|37=>22|5=>5|173=>271|212=>285|51=>286|20=>20|213=>287|46=>198|232=>297|233=>298|n=>n,fun|17=>3|18=>4|19=>5|n=>n⟩
theorem Tryz.laysM171:Go.Proofs.LaysM.n171 prog Tryz.laysM171_ren:={
 mixed:=by kernel_rfl
 f129:=func300.trans (congrArg some (by kernel_rfl))
 f171:=func190.trans (congrArg some (by kernel_rfl))
 f243:=func244.trans (congrArg some (by kernel_rfl))
 f246:=func268.trans (congrArg some (by kernel_rfl))
 f283:=func288.trans (congrArg some (by kernel_rfl))
 f284:=func289.trans (congrArg some (by kernel_rfl))
 f285:=func290.trans (congrArg some (by kernel_rfl))
 f286:=func291.trans (congrArg some (by kernel_rfl))
 f317:=func299.trans (congrArg some (by kernel_rfl))
 f318:=func301.trans (congrArg some (by kernel_rfl))
 f319:=func302.trans (congrArg some (by kernel_rfl))
 f320:=func303.trans (congrArg some (by kernel_rfl))
 f337:=func309.trans (congrArg some (by kernel_rfl))
 f338:=func310.trans (congrArg some (by kernel_rfl))
 t0:=underlying0
 a0:=Tryz.isAgg0
 z0:=Tryz.sizeOf0
 v0:=Tryz.zeroValue0
 t2:=underlying2
 a2:=Tryz.isAgg2
 z2:=Tryz.sizeOf2
 v2:=Tryz.zeroValue2
 t3:=underlying3
 a3:=Tryz.isAgg3
 z3:=Tryz.sizeOf3
 v3:=Tryz.zeroValue3
 t4:=underlying4
 a4:=Tryz.isAgg4
 z4:=Tryz.sizeOf4
 v4:=Tryz.zeroValue4
 t5:=underlying5
 a5:=Tryz.isAgg5
 z5:=Tryz.sizeOf5
 v5:=Tryz.zeroValue5
 t9:=underlying9
 a9:=Tryz.isAgg9
 z9:=Tryz.sizeOf9
 v9:=Tryz.zeroValue9
 t20:=underlying20
 a20:=Tryz.isAgg20
 z20:=Tryz.sizeOf20
 v20:=Tryz.zeroValue20
 t37:=underlying22
 a37:=Tryz.isAgg22
 z37:=Tryz.sizeOf22
 v37:=Tryz.zeroValue22
 t46:=underlying198
 a46:=Tryz.isAgg198
 z46:=Tryz.sizeOf198
 v46:=Tryz.zeroValue198
 t51:=underlying286
 a51:=Tryz.isAgg286
 z51:=Tryz.sizeOf286
 v51:=Tryz.zeroValue286
 t53:=underlying268
 a53:=Tryz.isAgg268
 z53:=Tryz.sizeOf268
 v53:=Tryz.zeroValue268
 t171:=underlying267
 a171:=Tryz.isAgg267
 z171:=Tryz.sizeOf267
 v171:=Tryz.zeroValue267
 t173:=underlying271
 a173:=Tryz.isAgg271
 z173:=Tryz.sizeOf271
 v173:=Tryz.zeroValue271
 t212:=underlying285
 a212:=Tryz.isAgg285
 z212:=Tryz.sizeOf285
 v212:=Tryz.zeroValue285
 t213:=underlying287
 a213:=Tryz.isAgg287
 z213:=Tryz.sizeOf287
 t232:=underlying297
 a232:=Tryz.isAgg297
 z232:=Tryz.sizeOf297
 v232:=Tryz.zeroValue297
 t233:=underlying298
 a233:=Tryz.isAgg298
 z233:=Tryz.sizeOf298
 v233:=Tryz.zeroValue298
 g17:=by kernel_rfl
 g18:=by kernel_rfl
 g19:=by kernel_rfl
 i0:=by kernel_rfl
 i2:=by kernel_rfl
 i3:=by kernel_rfl
 i4:=by kernel_rfl
 i5:=by kernel_rfl
 i9:=by kernel_rfl
 i20:=by kernel_rfl
 i37:=by kernel_rfl
 i46:=by kernel_rfl
 i51:=by kernel_rfl
 i53:=by kernel_rfl
 i171:=by kernel_rfl
 i173:=by kernel_rfl
 i212:=by kernel_rfl
 i232:=by kernel_rfl
 i233:=by kernel_rfl
 m17:=by kernel_rfl
 m18:=by kernel_rfl
 m19:=by kernel_rfl}
open Go.RowKit Go.Sort Go.Lib in
theorem Tryz.strconv_Itoa(n:Int)(h0: -9223372036854775808<=n)(h1:n<=9223372036854775807)(w:World)(htab:Lib.TabIs prog w "internal/strconv.uint64pow10" .u64 Lib.pow10Tab):
 Calls prog 190 #[.int .i64 n] w fun e w'=>e=.returned (.string ⟨(Lib.itoa n).toArray⟩)/\∃k os,w'=grow (w.drewN k) os:=Any.strconv_Itoa Tryz.laysM171 n h0 h1 w htab
end Go.Proofs
namespace Go.Ab
theorem VP{w:World}{σ:Nat->Nat}{k:Nat}{os:Array Go.Obj}(hl:∀b,b<w.heap.size\/σ b=0):Grow w σ (Go.Sort.grow (w.drewN k) os) σ:=by
 have hh:(Go.Sort.grow (w.drewN k) os).heap=w.heap++os:=rfl;refine⟨by rw[hh];simp,rfl,rfl,fun b hb=>⟨by rw[hh,cC hb],rfl⟩,fun b=> ?_⟩;rcases hl b with h|h
 ·left;rw[hh];simp;omega
 ·exact .inr h
theorem ae7{x:V}{vs:List Value}{w:World}{σ:Nat->Nat}{S:Store}{β:Hs}(h:jX w σ S β [x] vs):∃v,vs=[v]/\bJ w σ S β x v:=by
 obtain⟨hl,h⟩:=h;obtain⟨v,e,hr⟩:=h 0 x rfl
 match vs,hl,e with
 |[y],_,e=>simp at e;subst e;exact⟨_,rfl,hr⟩
theorem L9{w:World}{σ:Nat->Nat}(h:iU w σ):Lib.TabIs prog w "internal/strconv.uint64pow10" .u64 Lib.pow10Tab:=by
 obtain⟨c,t,fz,q1,q2,q3⟩:=h _ _ (show _∈SI from ez ..)
 have hn:prog.globalNamed "internal/strconv.uint64pow10" =some 3:=by kernel_rfl
 unfold Lib.TabIs World.var?;rw[hn];simp only[dc,q1,cb];apply Array.ext';rw[q2];simp[Lib.pow10Tab]
theorem ae8(n:Int)(h0: -9223372036854775808<=n)(h1:n<=9223372036854775807):aF prog 190 [.c (.d (.i .i64 n))] (.c (.d (.s (Lib.itoa n)))):=fun S=>by
 refine⟨⟨_,func190,by kernel_rfl,by kernel_rfl⟩,fun w σ β vs hS hv=> ?_⟩;obtain⟨v,rfl,hr,_⟩:=ae7 hv
 have hv0:v=.int .i64 n:=by cases hr;rfl
 subst hv0;refine(Tryz.strconv_Itoa n h0 h1 w (L9 hS.lX)).mono fun e w' ⟨he,k,os,hw⟩=> ?_;subst hw;have hg:Grow w σ (Go.Sort.grow (w.drewN k) os) σ:=VP hS.live;exact⟨_,.c (.d (.s (Lib.itoa n))),S,σ,β,he,hS.grow hg,Keep.refl _ _,Step.jm hg,⟨.s _,rfl⟩,rfl,rfl⟩
theorem GQ(n:Int)(h0: -9223372036854775808<=n)(h1:n<=9223372036854775807):aF prog 99 [.c (.d (.i .i64 n))] (.c (.d (.s (Lib.itoa n)))):=fun S=>by
 refine zcx [.tmp 2] func99 ntmps99 ?_;simp -implicitDefEqProofs (disch:=omega) only[go_sem];refine aA (ae8 n h0 h1) ?_;simp -implicitDefEqProofs (disch:=omega) only[go_sem]<;>(repeat(with_reducible refine And.intro ?_ ?_;focus first|omega|rfl|assumption|exact⟨_,rfl,rfl⟩|(simp;omega)|(simp;done)))
end Go.Ab