/-
  SEVERAL TEXTS IN ONE (merged by program): contracts and models, each with its own heading.
-/
import Derived.Test.YtlaaknnkeidlbaaGreatDoorPartDedbE
import Derived.Test.YtlaaknnkeidlbaaGreatDoorPartDedbG
import Derived.Test.YtlaaknnkeidlbaaGreatDoorPartDedbH
open Go.Proofs Go.Proofs.Tryz
set_option linter.unusedSimpArgs false
set_option linter.unusedVariables false
set_option maxRecDepth 4000
namespace Go.Ab
section
variable {P:Program} {N:Nat} {S:Store} {s:St} {tm:List (Nat×V)}
end
theorem VI{P:Program}{N:Nat}(n:Nat){f:FuncId}{fn:Func}{c:Code}{args:List V}{bq:List Obj}{Ω:Store}{post:V->Store->Prop}{rs:List ResultVar}(dZ:P.follows .mixedOrders=true)(hf:P.funcs[f]? =some fn)(hN:fn.ntmps=N)
 (hb:fn.body=some c) (hn:(fn.name== "runtime.NumGoroutine")=false) (hr:fn.results.toList=rs) (hl:Nat.ble args.length N=true) (hok:codeOk N c=true)
 (h:CW P N c (PD P rs post) ⟨jR (args.map (V.up 1)) 0,[.seed n]::bq::Ω⟩):bL P f args (bq::Ω) post:=by
 subst hN;subst hr;exact LW hf hb hn (cX hl) (KA n (iV dZ c _ _ hok h))
theorem aci{P:Program}{N:Nat}{c:Code}{Q:Exit->St->Prop}{tm:List (Nat×V)}{Ω:Store}(n k:Nat)(h:AW P N c Q ⟨tm,[.seed n,.seed k]::Ω⟩):AW P N c Q ⟨tm,[]::Ω⟩:=by
 refine KA n (kN h fun a w σ β hR=> ?_);obtain⟨bo,bΩ,rfl,hlen⟩:=frames hR;obtain⟨hS',hk,hst⟩:=hR.S.push (o:=.seed k) (h:=undef) (Grow.refl hR.S.live) hlen trivial (fun b hb=>by cases hb);exact⟨σ,_,⟨hR.size,hR.defers,hS',fun u=>(hR.T u).mono (bQ.refl _ _) hk⟩,hst,Keep.refl _ _⟩
section
variable {P:Program} {N:Nat} {S:Store}
theorem VJ(n k:Nat){f:FuncId}{fn:Func}{c:Code}{args:List V}{post:V->Store->Prop}{rs:List ResultVar}(dZ:P.follows .mixedOrders=true)(hf:P.funcs[f]? =some fn)(hN:fn.ntmps=N)
 (hb:fn.body=some c) (hn:(fn.name== "runtime.NumGoroutine")=false) (hr:fn.results.toList=rs) (hl:Nat.ble args.length N=true) (hok:codeOk N c=true)
 (h:CW P N c (VD P n rs post) ⟨jR (args.map (V.up 1)) 0,[.seed n,.seed k]::S⟩):bL P f args S post:=by
 subst hN;subst hr;exact vM hf hb hn (cX hl) (aci n k (II (D6 n) (iV dZ c _ _ hok h)))
end
def agM(n:Nat)(out:List UInt8):List UInt8:=if h:n=0 then out else agM (n/10) (UInt8.ofNat (48+n % 10)::out)
termination_by n
decreasing_by omega
def aiB(k:Int):List UInt8:=if k<=0 then [109,48] else 109::agM k.toNat []
mutual
def Jq:D->Nat
 | .sl es=>Cc es
 | .b _=>1
 | .i _ _=>1
 | .s _=>1
 | .o _=>0
 | .ol _ _=>0
def Tt:List D->Nat
 |[]=>0
 |d::ds=>Jq d+Tt ds
def Cc:List (List D)->Nat
 |[]=>0
 |r::rs=>Tt r+Cc rs
end
mutual
def mkD:D->Int->D
 | .sl es,k=>.sl (VK es k)
 | .b _,k=>.b (decide (k.tmod 3=0))
 | .i kd _,k=>.i kd k
 | .s _,k=>.s (aiB k)
 | .o v,_=>.o v
 | .ol n es,_=>.ol n es
def mkR:List D->Int->List D
 |[],_=>[]
 |d::ds,k=>mkD d k::mkR ds (k+Jq d)
def VK:List (List D)->Int->List (List D)
 |[],_=>[]
 |r::rs,k=>mkR r k::VK rs (k+Tt r)
end
mutual
def tL:D->Bool
 | .sl es=>jy es
 | .b _=>true
 | .i _ _=>true
 | .s _=>true
 | .o _=>true
 | .ol _ _=>true
def jg:List D->Bool
 |[]=>true
 |d::ds=>tL d&&jg ds
def jy:List (List D)->Bool
 |[]=>true
 |r::rs=>decide (r.length<=32)&&jg r&&jy rs
end
mutual
theorem aiC:∀d:D,tL d=true->Jq d<=32*d.sz+1
 | .sl es,h=>by
   have:=Y8 es (by simpa [tL] using h);simp only[Jq,D.sz];omega
 | .b _,_=>by simp[Jq]
 | .i _ _,_=>by simp[Jq]
 | .s _,_=>by simp[Jq]
 | .o _,_=>by simp[Jq]
 | .ol _ _,_=>by simp[Jq]
theorem Y9:∀r:List D,jg r=true->Tt r<=32*bG r+r.length
 |[],_=>by simp[Tt]
 |d::ds,h=>by
  rw[jg,af] at h;have h1:=aiC d h.1;have h2:=Y9 ds h.2;simp only[Tt,bG,aa];omega
theorem Y8:∀rs:List (List D),jy rs=true->Cc rs<=32*(rs.length+bC rs)
 |[],_=>by simp[Cc]
 |r::rs,h=>by
  rw[jy,af,af,decide_eq_true_eq] at h;have h1:=Y9 r h.1.2;have h2:=Y8 rs h.2;simp only[Cc,bC,aa];omega
end
theorem fV:∀a b,jg (a++b)=(jg a&&jg b)
 |[],b=>by simp[jg]
 |d::ds,b=>by rw[am,jg,jg,fV ds b,Bool.and_assoc]
theorem jL{α:Type}{f:α->List D}:∀{xs:List α},(∀x∈xs,jg (f x)=true/\(f x).length<=32)->jy (xs.map f)=true
 |[],_=>rfl
 |x::xs,h=>by
  rw[ag,jy,(h x (by simp)).1,jL fun y hy=>h y (by simp[hy]),decide_eq_true (h x (by simp)).2];rfl
abbrev akU(P:Program)(f:FuncId)(es:List (List D)):Prop:=∀(k:Int)(l j r:Nat)(p:List (Nat×Nat))(S:Store)(rs:List (List (List D))),aN S (l,j)=some (.xf rs)->atR rs r p=some es->0<=k/\k+Cc es<=4611686018427387904->
 bL P f [.c (.xp (l,j) r p),.c (.d (.i .i64 k))] S (fun res S'=>res=.c (.d (.i .i64 (k+Cc es)))/\S'=aR S (l,j) (.xf (Dc rs r p (VK es k))))
abbrev akV(P:Program)(f:FuncId)(es:List (List D)):Prop:=∀(k:Int)(l j r:Nat)(p:List (Nat×Nat))(S:Store)(rs:List (List (List D))),aN S (l,j)=some (.xf rs)->atR rs r p=some (VK es k)->0<=k/\k+Cc es<=4611686018427387904->
 bL P f [.c (.xp (l,j) r p),.c (.d (.i .i64 k))] S (fun res S'=>res=.c (.d (.i .i64 (k+Cc es)))/\S'=S)
section
variable {P:Program} {N:Nat} {c:Code} {Q:Exit->St->Prop} {s:St} {S:Store} {l j r n:Nat} {p:List (Nat×Nat)} {rs:List (List (List D))} {rows:List (List D)} {k:Int}
abbrev akW(l j r:Nat)(p:List (Nat×Nat))(k:Int)(i:Nat):List V:=[.c (.xp (1+l,j) r p),.c (.d (.i .i64 k)),.c (.d (.i .i64 i))]
end
theorem tO(xs:List (List UInt8)):iN (xs.map encS)=true:=jK fun _ _=>rfl
theorem tQ(xs:List (List UInt8)):jy (xs.map encS)=true:=jL fun _ _=>⟨rfl,by simp[encS]⟩
theorem PN:∀(xs:List (List UInt8))(n:Nat),fC (xs.map encS) n=xs.map encS
 |[],_=>rfl
 |x::xs,n=>by rw[ag,fC,PN xs];rfl
mutual
theorem au.eH:∀x:au,iC x.enc=true/\jg x.enc=true
 | .mk a0 a1 a2=>by simp only[au.enc,iC,nk,jg,tL,fU,fV,cF,cg,cG,and_self,and_true,true_and,(au.mU a2).1,(au.mU a2).2]
theorem au.mU:∀xs:List au,iN (au.encs xs)=true/\jy (au.encs xs)=true
 |[]=>⟨rfl,rfl⟩
 |x::xs=>by
  have h:decide ((au.enc x).length<=32)=true:=by rw[au.bF];rfl
  simp only[au.encs,iN,jy,h,(au.eH x).1,(au.eH x).2,(au.mU xs).1,(au.mU xs).2,cG,and_self]
end
theorem au.gL(xs:List au):iN (xs.map au.enc)=true/\jy (xs.map au.enc)=true:=by rw[<-au.iW];exact au.mU xs
theorem bY.eH(x:bY):iC x.enc=true/\jg x.enc=true:=by
 rw[bY.aB];simp only[am,aw,iC,nk,jg,tL,fU,fV,cF,cg,cG,and_self,and_true,true_and,(au.eH x.fType).1,(au.eH x.fType).2]
theorem bY.gL(xs:List bY):iN (xs.map bY.enc)=true/\jy (xs.map bY.enc)=true:=⟨jK fun x _=>x.eH.1,jL fun x _=>⟨x.eH.2,by rw[bY.bF];decide⟩⟩
theorem dN.eH(x:dN):iC x.enc=true/\jg x.enc=true:=by
 rw[dN.aB];simp only[am,aw,iC,nk,jg,tL,fU,fV,cF,cg,cG,and_self,and_true,true_and,(au.eH x.fType).1,(au.eH x.fType).2]
theorem dN.gL(xs:List dN):iN (xs.map dN.enc)=true/\jy (xs.map dN.enc)=true:=⟨jK fun x _=>x.eH.1,jL fun x _=>⟨x.eH.2,by rw[dN.bF];decide⟩⟩
mutual
theorem aj.eH:∀x:aj,iC x.enc=true/\jg x.enc=true
 | .mk a0 a1 a2 a3 a4 a5 a6=>by simp only[aj.enc,iC,nk,jg,tL,fU,fV,cF,cg,cG,and_self,and_true,true_and,(au.eH a4).1,(au.eH a4).2,(aj.mU a5).1,(aj.mU a5).2,(aK.mU a6).1,(aK.mU a6).2]
theorem aj.mU:∀xs:List aj,iN (aj.encs xs)=true/\jy (aj.encs xs)=true
 |[]=>⟨rfl,rfl⟩
 |x::xs=>by
  have h:decide ((aj.enc x).length<=32)=true:=by rw[aj.bF];rfl
  simp only[aj.encs,iN,jy,h,(aj.eH x).1,(aj.eH x).2,(aj.mU xs).1,(aj.mU xs).2,cG,and_self]
theorem aK.eH:∀x:aK,iC x.enc=true/\jg x.enc=true
 | .mk a0 a1 a2=>by simp only[aK.enc,iC,nk,jg,tL,fU,fV,cF,cg,cG,and_self,and_true,true_and,tO a1,tQ a1,(aj.eH a2).1,(aj.eH a2).2]
theorem aK.mU:∀xs:List aK,iN (aK.encs xs)=true/\jy (aK.encs xs)=true
 |[]=>⟨rfl,rfl⟩
 |x::xs=>by
  have h:decide ((aK.enc x).length<=32)=true:=by rw[aK.bF];rfl
  simp only[aK.encs,iN,jy,h,(aK.eH x).1,(aK.eH x).2,(aK.mU xs).1,(aK.mU xs).2,cG,and_self]
end
theorem aj.gL(xs:List aj):iN (xs.map aj.enc)=true/\jy (xs.map aj.enc)=true:=by rw[<-aj.iW];exact aj.mU xs
theorem aK.gL(xs:List aK):iN (xs.map aK.enc)=true/\jy (xs.map aK.enc)=true:=by rw[<-aK.iW];exact aK.mU xs
mutual
theorem ah.eH:∀x:ah,iC x.enc=true/\jg x.enc=true
 | .mk a0 a1=>by simp only[ah.enc,iC,nk,jg,tL,fU,fV,cF,cg,cG,and_self,and_true,true_and,(ah.mU a1).1,(ah.mU a1).2]
theorem ah.mU:∀xs:List ah,iN (ah.encs xs)=true/\jy (ah.encs xs)=true
 |[]=>⟨rfl,rfl⟩
 |x::xs=>by
  have h:decide ((ah.enc x).length<=32)=true:=by rw[ah.bF];rfl
  simp only[ah.encs,iN,jy,h,(ah.eH x).1,(ah.eH x).2,(ah.mU xs).1,(ah.mU xs).2,cG,and_self]
end
theorem ah.gL(xs:List ah):iN (xs.map ah.enc)=true/\jy (xs.map ah.enc)=true:=by rw[<-ah.iW];exact ah.mU xs
theorem bR.eH(x:bR):iC x.enc=true/\jg x.enc=true:=by
 rw[bR.aB];simp only[am,aw,iC,nk,jg,tL,fU,fV,cF,cg,cG,and_self,and_true,true_and,(au.gL x.jN).1,(au.gL x.jN).2,(au.eH x.iA).1,(au.eH x.iA).2,tO x.bH,tQ x.bH,(aj.eH x.fBody).1,(aj.eH x.fBody).2]
theorem bR.gL(xs:List bR):iN (xs.map bR.enc)=true/\jy (xs.map bR.enc)=true:=⟨jK fun x _=>x.eH.1,jL fun x _=>⟨x.eH.2,by rw[bR.bF];decide⟩⟩
theorem eF.eH(x:eF):iC x.enc=true/\jg x.enc=true:=by
 rw[eF.aB];simp only[am,aw,iC,nk,jg,tL,fU,fV,cF,cg,cG,and_self,and_true,true_and,tO x.kW,tQ x.kW,(bR.gL x.mq).1,(bR.gL x.mq).2]
theorem eF.gL(xs:List eF):iN (xs.map eF.enc)=true/\jy (xs.map eF.enc)=true:=⟨jK fun x _=>x.eH.1,jL fun x _=>⟨x.eH.2,by rw[eF.bF];decide⟩⟩
theorem bD.eH(x:bD):iC x.enc=true/\jg x.enc=true:=by
 rw[bD.aB];simp only[am,aw,iC,nk,jg,tL,fU,fV,cF,cg,cG,and_self,and_true,true_and,(au.gL x.oF).1,(au.gL x.oF).2]
theorem bD.gL(xs:List bD):iN (xs.map bD.enc)=true/\jy (xs.map bD.enc)=true:=⟨jK fun x _=>x.eH.1,jL fun x _=>⟨x.eH.2,by rw[bD.bF];decide⟩⟩
theorem bS.eH(x:bS):iC x.enc=true/\jg x.enc=true:=by
 rw[bS.aB];simp only[am,aw,iC,nk,jg,tL,fU,fV,cF,cg,cG,and_self,and_true,true_and,tO x.bH,tQ x.bH,(bD.gL x.jE).1,(bD.gL x.jE).2]
theorem bS.gL(xs:List bS):iN (xs.map bS.enc)=true/\jy (xs.map bS.enc)=true:=⟨jK fun x _=>x.eH.1,jL fun x _=>⟨x.eH.2,by rw[bS.bF];decide⟩⟩
theorem dK.eH(x:dK):iC x.enc=true/\jg x.enc=true:=by
 rw[dK.aB];simp only[am,aw,iC,nk,jg,tL,fU,fV,cF,cg,cG,and_self,and_true,true_and,tO x.bH,tQ x.bH,(aj.eH x.fBody).1,(aj.eH x.fBody).2]
theorem dK.gL(xs:List dK):iN (xs.map dK.enc)=true/\jy (xs.map dK.enc)=true:=⟨jK fun x _=>x.eH.1,jL fun x _=>⟨x.eH.2,by rw[dK.bF];decide⟩⟩
theorem cu.eH(x:cu):iC x.enc=true/\jg x.enc=true:=by
 rw[cu.aB];simp only[am,aw,iC,nk,jg,tL,fU,fV,cF,cg,cG,and_self,and_true,true_and,tO x.bH,tQ x.bH,(au.eH x.vR).1,(au.eH x.vR).2,(dN.gL x.kY).1,(dN.gL x.kY).2,(au.eH x.kX).1,(au.eH x.kX).2,(dK.gL x.qP).1,(dK.gL x.qP).2]
theorem cu.gL(xs:List cu):iN (xs.map cu.enc)=true/\jy (xs.map cu.enc)=true:=⟨jK fun x _=>x.eH.1,jL fun x _=>⟨x.eH.2,by rw[cu.bF];decide⟩⟩
theorem eU.eH(x:eU):iC x.enc=true/\jg x.enc=true:=by
 rw[eU.aB];simp only[am,aw,iC,nk,jg,tL,fU,fV,cF,cg,cG,and_self,and_true,true_and,(au.eH x.fType).1,(au.eH x.fType).2]
theorem eU.gL(xs:List eU):iN (xs.map eU.enc)=true/\jy (xs.map eU.enc)=true:=⟨jK fun x _=>x.eH.1,jL fun x _=>⟨x.eH.2,by rw[eU.bF];decide⟩⟩
theorem cB.eH(x:cB):iC x.enc=true/\jg x.enc=true:=by
 rw[cB.aB];simp only[am,aw,iC,nk,jg,tL,fU,fV,cF,cg,cG,and_self,and_true,true_and,tO x.bH,tQ x.bH,(dN.gL x.kY).1,(dN.gL x.kY).2,(eU.gL x.jN).1,(eU.gL x.jN).2,(au.eH x.iA).1,(au.eH x.iA).2,(aj.eH x.fBody).1,(aj.eH x.fBody).2]
theorem cB.gL(xs:List cB):iN (xs.map cB.enc)=true/\jy (xs.map cB.enc)=true:=⟨jK fun x _=>x.eH.1,jL fun x _=>⟨x.eH.2,by rw[cB.bF];decide⟩⟩
theorem dB.eH(x:dB):iC x.enc=true/\jg x.enc=true:=by
 rw[dB.aB];simp only[am,aw,iC,nk,jg,tL,fU,fV,cF,cg,cG,and_self,and_true,true_and,tO x.zN,tQ x.zN,(eF.gL x.tF).1,(eF.gL x.tF).2,(bS.gL x.nR).1,(bS.gL x.nR).2,(cu.gL x.nS).1,(cu.gL x.nS).2,(cB.gL x.nT).1,(cB.gL x.nT).2]
theorem dB.gL(xs:List dB):iN (xs.map dB.enc)=true/\jy (xs.map dB.enc)=true:=⟨jK fun x _=>x.eH.1,jL fun x _=>⟨x.eH.2,by rw[dB.bF];decide⟩⟩
theorem dU.eH(x:dU):iC x.enc=true/\jg x.enc=true:=by
 rw[dU.aB];simp only[am,aw,iC,nk,jg,tL,fU,fV,cF,cg,cG,and_self,and_true,true_and,(dB.gL x.oQ).1,(dB.gL x.oQ).2]
theorem dU.gL(xs:List dU):iN (xs.map dU.enc)=true/\jy (xs.map dU.enc)=true:=⟨jK fun x _=>x.eH.1,jL fun x _=>⟨x.eH.2,by rw[dU.bF];decide⟩⟩
theorem bV.eH(x:bV):iC x.enc=true/\jg x.enc=true:=by
 rw[bV.aB];simp only[am,aw,iC,nk,jg,tL,fU,fV,cF,cg,cG,and_self,and_true,true_and]
theorem bV.gL(xs:List bV):iN (xs.map bV.enc)=true/\jy (xs.map bV.enc)=true:=⟨jK fun x _=>x.eH.1,jL fun x _=>⟨x.eH.2,by rw[bV.bF];decide⟩⟩
def lx(l:List ah)(n:Nat):List (List D):=fC (l.map ah.enc) n
def PO(x:ah):Nat:=pE x.enc
def iR(l:List ah):Nat:=pz (l.map ah.enc)
theorem tT(x:ah)(n:Nat):eu x.enc n=[.s x.aI,.ol n (lx x.ak (n+1))]:=by
 rw[ah.aB];simp only[eu,lS,qz,di,lx]
theorem zU(s:List UInt8)(n:Nat):eu (aM s).enc n=[.s s,.ol n []]:=by rw[tT];rfl
theorem ae5(x:ah):PO x=iR x.ak+1:=by
 unfold PO iR;rw[ah.aB];simp only[pE,qz];omega
theorem D8(s:List UInt8):PO (aM s)=1:=by rw[ae5];rfl
theorem D9(n:Nat):lx [] n=[]:=rfl
theorem Bd(x:ah)(l:List ah)(n:Nat):lx (x::l) n=eu x.enc n::lx l (n+PO x):=rfl
theorem jO(a b:List ah)(n:Nat):lx (a++b) n=lx a n++lx b (n+iR a):=by unfold lx iR;rw[bi,qX]
theorem Za:iR []=0:=rfl
theorem VL(x:ah)(l:List ah):iR (x::l)=PO x+iR l:=rfl
theorem iX(l:List ah)(n:Nat):(lx l n).length=l.length:=by unfold lx;rw[mR,ai]
theorem mI{l:List ah}{n:Nat}:∀r∈lx l n,r.length=2:=Jk fun r hr=>by
 obtain⟨z,_,rfl⟩:=da.1 hr;exact z.bF
theorem KT{l:List ah}{i:Nat}(hi:i<l.length)(n:Nat):lx (l.take i) n++[eu l[i].enc (n+iR (l.take i))]=lx (l.take (i+1)) n:=by
 rw[bp hi,jO];rfl
theorem PS{l:List ah}{i:Nat}(hi:i<l.length)(n:Nat):lx (l.take i) n++[[.s l[i].aI,.ol (n+iR (l.take i)) (lx l[i].ak (n+iR (l.take i)+1))]]=lx (l.take (i+1)) n:=by
 rw[<-KT hi,tT]
theorem acj{base l:List ah}{i:Nat}(hi:i<l.length)(q:Nat):lx (base++l.take i) q++[[.s l[i].aI,.ol (q+iR (base++l.take i)) (lx l[i].ak (q+iR (base++l.take i)+1))]]=lx (base++l.take (i+1)) q:=by
 rw[bp hi,<-bk,jO (base++l.take i),Bd,D9,tT]
theorem ji{l:List ah}:∀r∈l.map ah.enc,r.length=2:=fun r hr=>by
 obtain⟨z,_,rfl⟩:=da.1 hr;exact z.bF
theorem Ar{cs cs':List C}(hl:cs'.length=cs.length)(h:∀(j:Nat)(x y:C),cs[j]? =some x->cs'[j]? =some y->∀w σ S β v,dS w σ S β x v->dS w σ S β y v):Less (.agg cs) (.agg cs'):=by
 rintro w σ S β v ⟨a,ha,hc⟩;refine⟨a,ha,hl.trans hc.1,fun j y hy=> ?_⟩
 have hj:j<cs.length:=by rw[<-hl];exact(ae.1 hy).1
 obtain⟨v,h1,h2,h3⟩:=hc.2 j _ (al hj);exact⟨v,h1,h j _ y (al hj) hy w σ S β v h2,h3⟩
theorem agN{w:World}{σ:Nat->Nat}{S:Store}{β:Hs}{v:Value}(n:Nat)(h:dS w σ S β (.bB []) v):dS w σ S β (.d (.ol n [])) v:=by
 obtain⟨hd,ad,m,hval⟩:=h
 have hm:m=0:=by rw[hval] at hd;cases hd<;>rfl
 subst hm;rw[hval];exact .rM _ _ _
theorem KU(s:List UInt8)(n:Nat):Less (.agg [.d (.s s),.bB []]) (.agg [.d (.s s),.d (.ol n [])]):=Ar rfl fun j x y hx hy w σ S β v hv=>by
 match j,hx,hy with
 |0,hx,hy=>cases hx;cases hy;exact hv
 |1,hx,hy=>cases hx;cases hy;exact agN _ hv
 |j+2,hx,hy=>simp at hx
theorem ae6(s:List UInt8)(n:Nat)(es:List (List D)):Less (.agg [.d (.s s),.iT n es]) (.agg [.d (.s s),.d (.ol n es)]):=Ar rfl fun j x y hx hy w σ S β v hv=>by
 match j,hx,hy with
 |0,hx,hy=>cases hx;cases hy;exact hv
 |1,hx,hy=>cases hx;cases hy;exact hv.1
 |j+2,hx,hy=>simp at hx
theorem R9(s:List UInt8):aF prog 98 [.c (.d (.s s))] (.agg [.d (.s s),.bB []]):=fun S=>by
 refine zcx [.cell 2 37] func98 ntmps98 ?_;simp -implicitDefEqProofs (disch:=omega) only[go_sem]
theorem gG(s:List UInt8)(n:Nat):aF prog 98 [.c (.d (.s s))] (.agg [.d (.s s),.d (.ol n [])]):=aF.less (R9 s) (KU s n)
theorem Jr(d:D):aF prog 101 [.c (.d d)] (.agg [.d (.s []),.d d]):=fun S=>by
 refine zcx [.cell 2 37] func101 ntmps101 ?_;simp -implicitDefEqProofs (disch:=omega) only[go_sem]
theorem Sb(n:Nat)(es:List (List D)):aF prog 101 [.c (.iT n es)] (.agg [.d (.s []),.iT n es]):=fun S=>by
 refine zcx [.cell 2 37] func101 ntmps101 ?_;simp -implicitDefEqProofs (disch:=omega) only[go_sem]
theorem Js(n:Nat)(es:List (List D)):aF prog 101 [.c (.iT n es)] (.agg [.d (.s []),.d (.ol n es)]):=aF.less (Sb n es) (ae6 [] n es)
theorem lZ(l j:Nat)(es:List (List D))(S:Store):bL prog 101 [.c (.bM (l,j) es)] S (fun r S'=>r=.agg [.d (.s []),.bM (l,j) es]/\S'=S):=by
 refine zcx [.cell 2 37] func101 ntmps101 ?_;simp -implicitDefEqProofs (disch:=omega) only[go_sem]
theorem CQ(xs:List (List UInt8))(hx:xs.length<=1073741824)(n q:Nat):aF prog 100 [.c (.d (.sl (xs.map encS)))] (.c (.d (.ol n (lx (aP xs) q)))):=fun S=>by
 refine oU (n) (rs:=[.tmp 2]) zmx func100 ntmps100 rfl rfl rfl rfl rfl ?_;simp -implicitDefEqProofs (disch:=omega) only[go_sem]
 (repeat(with_reducible refine And.intro ?_ ?_;focus first|omega|rfl|assumption|exact⟨_,rfl,rfl⟩|(simp;omega)|(simp;done)))
 refine vv n 3 2 [] (.inl rfl) (by simp) ?_
 refine bI (ι:=Nat) zmx rfl [3,7,8,9] (fun i=>[.c (.bM (0,1) (lx ((aP xs).take i) q)),.c (.d (.sl (xs.map encS))),.c (.d (.i .i64 xs.length)),.c (.d (.i .i64 i))]) (fun i=>[.seed n,.dY n 2 (lx ((aP xs).take i) q)]::S)
  (fun i=>i<=xs.length) (fun i=>xs.length-i) 0 rfl rfl (ba _) ?_
 intro i hi;simp -implicitDefEqProofs (disch:=omega) only[go_sem]
 with_reducible refine ay (fun hb=> ?_) (fun hb=> ?_)<;>have h:=hb<;>(try simp only[wf_preprocess] at h)<;>simp -implicitDefEqProofs (disch:=omega) only[go_sem,hb]<;>(repeat(with_reducible refine And.intro ?_ ?_;focus first|omega|rfl|assumption|exact⟨_,rfl,rfl⟩|(simp;omega)|(simp;done)))
 ·have hi':i<xs.length:=by omega
  have hw:i<(aP xs).length:=by rw[lq];exact hi'
  have hg:(aP xs)[i]=aM xs[i]:=by simp[aP]
  have hl:(lx ((aP xs).take i) q).length<=i:=by rw[iX];exact ci _ _
  (repeat(with_reducible refine And.intro ?_ ?_;focus first|omega|rfl|assumption|exact⟨_,rfl,rfl⟩|(simp;omega)|(simp;done)))
  refine aA (gG xs[i] (q+iR ((aP xs).take i))) ?_;simp -implicitDefEqProofs (disch:=omega) only[go_sem]
  (repeat(with_reducible refine And.intro ?_ ?_;focus first|omega|rfl|assumption|exact⟨_,rfl,rfl⟩|(simp;omega)|(simp;done)))
  have hs:=KT hw q;rw[hg,zU] at hs;rw[hs];exact bZ (i+1) (by omega) rfl rfl (by omega)
 ·have hi':i=(aP xs).length:=by rw[lq];omega
  rw[hi',co]
theorem Jt:∀N:Nat,(∀x:au,SizeOf.sizeOf x<N->∀n:Nat,formed x=true->x.sz<=4194304->aF prog 103 [x.v] (.agg [.d (.s (fP x).aI),.d (.ol n (lx (fP x).ak (n+1)))]))/\
 (∀xs:List au,SizeOf.sizeOf xs<N->∀n q:Nat,iP xs=true->xs.length<=4194304->(∀t∈xs,t.sz<=4194304)->aF prog 192 [.c (.d (.sl (xs.map au.enc)))] (.c (.d (.ol n (lx (xs.map fP) q)))))
 |0=>⟨fun x h=>by omega,fun x h=>by omega⟩
 |N+1=>by
  obtain⟨ih,mD⟩:=Jt N;refine⟨fun x hn n hf hsz=> ?_,fun xs hn n q hf hlen hsz=> ?_⟩
  ·have j4:=au.jo x;have hts:=zO hsz;have hx:=YW x;rw[wK,af] at hf;have hfi:=iJ hf.1
   have hall:∀t∈x.fArgs,t.sz<=4194304:=fun t ht=>by
    obtain⟨i,hi,e⟩:=cJ ht;rw[<-e];exact(wM hi hsz).1
   intro S;refine VJ (n) 1 (rs:=[.cell 2 37]) zmx func103 ntmps103 rfl rfl rfl rfl rfl ?_;simp -implicitDefEqProofs (disch:=omega) only[go_sem]
   with_reducible refine ay (fun hb=> ?_) (fun hb=> ?_)<;>have h:=hb<;>(try simp only[wf_preprocess] at h)<;>simp -implicitDefEqProofs (disch:=omega) only[go_sem,hb]<;>(repeat(with_reducible refine And.intro ?_ ?_;focus first|omega|rfl|assumption|exact⟨_,rfl,rfl⟩|(simp;omega)|(simp;done)))
   ·rw[if_pos h] at hx;rw[hx]
    (repeat(with_reducible refine And.intro ?_ ?_;focus first|omega|rfl|assumption|exact⟨_,rfl,rfl⟩|(simp;omega)|(simp;done)))
    refine aA (gG _ n) ?_;simp -implicitDefEqProofs (disch:=omega) only[go_sem];rfl
   have k1:=h;rw[if_neg h] at hx
   with_reducible refine ay (fun hb=> ?_) (fun hb=> ?_)<;>have h:=hb<;>(try simp only[wf_preprocess] at h)<;>simp -implicitDefEqProofs (disch:=omega) only[go_sem,hb]<;>(repeat(with_reducible refine And.intro ?_ ?_;focus first|omega|rfl|assumption|exact⟨_,rfl,rfl⟩|(simp;omega)|(simp;done)))
   ·rw[if_pos h] at hx;rw[hx];refine aA (gG _ (n+1)) ?_;simp -implicitDefEqProofs (disch:=omega) only[go_sem];refine aA (gG _ (n+1+1)) ?_;simp -implicitDefEqProofs (disch:=omega) only[go_sem];refine aA (Js _ _) ?_;simp -implicitDefEqProofs (disch:=omega) only[go_sem];rfl
   have k4:=h;rw[if_neg h] at hx
   with_reducible refine ay (fun hb=> ?_) (fun hb=> ?_)<;>have h:=hb<;>(try simp only[wf_preprocess] at h)<;>simp -implicitDefEqProofs (disch:=omega) only[go_sem,hb]<;>(repeat(with_reducible refine And.intro ?_ ?_;focus first|omega|rfl|assumption|exact⟨_,rfl,rfl⟩|(simp;omega)|(simp;done)))
   ·have hlen:x.fArgs.length=1:=by omega
    obtain⟨a,ha⟩:=List.length_eq_one_iff.1 hlen
    have ha0:x.fArgs[0]'(by omega)=a:=by simp[ha]
    rw[if_neg (by omega),if_pos h,ha] at hx;have hfa:formed a=true:=Ao.1 hf.2 a (by rw[ha];simp);have hsa:a.sz<=4194304:=hall a (by rw[ha];simp)
    have hla:SizeOf.sizeOf a<N:=by
     have:=bc (show a∈x.fArgs by rw[ha];simp);omega
    rw[hx];refine aA (gG _ (n+1)) ?_;simp -implicitDefEqProofs (disch:=omega) only[go_sem];refine aA (gG _ (n+1+1)) ?_;simp -implicitDefEqProofs (disch:=omega) only[go_sem,ha,eE]
    (repeat(with_reducible refine And.intro ?_ ?_;focus first|omega|rfl|assumption|exact⟨_,rfl,rfl⟩|(simp;omega)|(simp;done)))
    refine aA (ih a hla (n+1+1+1) hfa hsa) ?_;simp -implicitDefEqProofs (disch:=omega) only[go_sem];refine aA (Js _ _) ?_;simp -implicitDefEqProofs (disch:=omega) only[go_sem];simp only[fB,eY,am,aw,ag,az,Bd,D9,zU,D8,tT,x9,yg,lV]
   have k3:=h
   with_reducible refine ay (fun hb=> ?_) (fun hb=> ?_)<;>have h:=hb<;>(try simp only[wf_preprocess] at h)<;>simp -implicitDefEqProofs (disch:=omega) only[go_sem,hb]<;>(repeat(with_reducible refine And.intro ?_ ?_;focus first|omega|rfl|assumption|exact⟨_,rfl,rfl⟩|(simp;omega)|(simp;done)))
   ·rw[if_pos ⟨by omega,by omega⟩] at hx;rw[hx];refine aA (gG _ n) ?_;simp -implicitDefEqProofs (disch:=omega) only[go_sem];rfl
   rw[if_neg (by omega),if_neg k3] at hx;rw[hx];refine aA (gG _ (n+1)) ?_;simp -implicitDefEqProofs (disch:=omega) only[go_sem];refine aA (mD x.fArgs (by omega) 0 (n+1+1) hf.2 hts.1 hall) ?_;simp -implicitDefEqProofs (disch:=omega) only[go_sem]
   have hl:(lx (x.fArgs.map fP) (n+1+1)).length=x.fArgs.length:=by rw[iX,ai]
   have hr:=mI (l:=x.fArgs.map fP) (n:=n+1+1)
   (repeat(with_reducible refine And.intro ?_ ?_;focus first|omega|rfl|assumption|exact⟨_,rfl,rfl⟩|(simp;omega)|(simp;done)))
   refine aA (Jr _) ?_;simp -implicitDefEqProofs (disch:=omega) only[go_sem];simp only[fB,eY,am,aw,Bd,D9,zU,D8]
  ·have Ce:=fun(i:Nat) (hi:i<xs.length)=>PS (l:=xs.map fP) (i:=i) (by rw[ai];exact hi) q;intro S;refine oU (n) (rs:=[.tmp 2]) zmx func192 ntmps192 rfl rfl rfl rfl rfl ?_;simp -implicitDefEqProofs (disch:=omega) only[go_sem]
   (repeat(with_reducible refine And.intro ?_ ?_;focus first|omega|rfl|assumption|exact⟨_,rfl,rfl⟩|(simp;omega)|(simp;done)))
   refine vv n 3 2 [] (.inl rfl) (by simp) ?_
   refine bI (ι:=Nat) zmx rfl [3,7,8,9] (fun i=>[.c (.bM (0,1) (lx ((xs.map fP).take i) q)),.c (.d (.sl (xs.map au.enc))),.c (.d (.i .i64 xs.length)),.c (.d (.i .i64 i))]) (fun i=>[.seed n,.dY n 2 (lx ((xs.map fP).take i) q)]::S)
    (fun i=>i<=xs.length) (fun i=>xs.length-i) 0 rfl rfl (ba _) ?_
   intro i hi;simp -implicitDefEqProofs (disch:=omega) only[go_sem]
   with_reducible refine ay (fun hb=> ?_) (fun hb=> ?_)<;>have h:=hb<;>(try simp only[wf_preprocess] at h)<;>simp -implicitDefEqProofs (disch:=omega) only[go_sem,hb]<;>(repeat(with_reducible refine And.intro ?_ ?_;focus first|omega|rfl|assumption|exact⟨_,rfl,rfl⟩|(simp;omega)|(simp;done)))
   ·have hi':i<xs.length:=by omega
    have hs:=Ce i hi';rw[cj] at hs
    have hl:(lx ((xs.map fP).take i) q).length<=i:=by rw[iX];exact ci _ _
    (repeat(with_reducible refine And.intro ?_ ?_;focus first|omega|rfl|assumption|exact⟨_,rfl,rfl⟩|(simp;omega)|(simp;done)))
    refine aA (ih xs[i] (by have:=bc (ap hi');omega) (q+iR ((xs.map fP).take i)) (Ao.1 hf _ (ap hi')) (hsz _ (ap hi'))) ?_;simp -implicitDefEqProofs (disch:=omega) only[go_sem]
    (repeat(with_reducible refine And.intro ?_ ?_;focus first|omega|rfl|assumption|exact⟨_,rfl,rfl⟩|(simp;omega)|(simp;done)))
    rw[hs];exact iD 2 (by decide) (i+1) (by omega) rfl rfl rfl rfl (by omega)
   ·have hi':i=(xs.map fP).length:=by rw[ai];omega
    rw[hi',co]
theorem VN(x:au)(n:Nat)(hf:formed x=true)(hsz:x.sz<=4194304):aF prog 103 [x.v] (.agg [.d (.s (fP x).aI),.d (.ol n (lx (fP x).ak (n+1)))]):=(Jt _).1 x (br _) n hf hsz
theorem eO(s:List UInt8):(aM s).enc=[.s s,.sl []]:=by rw[ah.aB];rfl
theorem nX{base l:List ah}{i:Nat}(hi:i<l.length):(base++l.take i).map ah.enc++[[.s l[i].aI,.sl (l[i].ak.map ah.enc)]]=(base++l.take (i+1)).map ah.enc:=by
 rw[bp hi,<-bk,bi (l₂:=[l[i]]),ag,az,ah.aB]
theorem KV(s:List UInt8)(es:List (List D)):Less (.agg [.d (.s s),.bB es]) (.agg [.d (.s s),.d (.sl es)]):=Ar rfl fun j x y hx hy w σ S β v hv=>by
 match j,hx,hy with
 |0,hx,hy=>cases hx;cases hy;exact hv
 |1,hx,hy=>cases hx;cases hy;exact hv.1
 |j+2,hx,hy=>simp at hx
theorem Fx(x:ah)(n:Nat):Less (.agg [.d (.s x.aI),.d (.ol n (lx x.ak (n+1)))]) x.v:=by
 have h:=Cb (r:=x.enc) (n:=n);rw[tT,ah.ny] at h;exact h
theorem Ea(s:List UInt8):aF prog 83 [.c (.d (.s s))] (.agg [.d (.s s),.bB []]):=fun S=>by
 refine zcx [.cell 2 37] func83 ntmps83 ?_;simp -implicitDefEqProofs (disch:=omega) only[go_sem]
theorem aZ(s:List UInt8):aF prog 83 [.c (.d (.s s))] (.agg [.d (.s s),.d (.sl [])]):=aF.less (Ea s) (KV s [])
theorem Gb(es:List (List D))(hes:∀e∈es,e.length=2)(hl:es.length<=1073741824):aF prog 84 [.c (.d (.sl es))] (.agg [.d (.s []),.d (.sl es)]):=fun S=>by
 refine zcx [.cell 2 37] func84 ntmps84 ?_;simp -implicitDefEqProofs (disch:=omega) only[go_sem];exact⟨hes,⟨_,rfl,rfl⟩,(fun y hy=>by cases hy),hl⟩
theorem Eb(xs:List (List UInt8))(hx:xs.length<=1073741824):aF prog 117 [.c (.d (.sl (xs.map encS)))] (.c (.d (.sl ((aP xs).map ah.enc)))):=fun S=>by
 refine zcx [.tmp 2] func117 ntmps117 ?_;simp -implicitDefEqProofs (disch:=omega) only[go_sem]
 (repeat(with_reducible refine And.intro ?_ ?_;focus first|omega|rfl|assumption|exact⟨_,rfl,rfl⟩|(simp;omega)|(simp;done)))
 refine Iy 3 2 [] rfl (by simp) ?_
 refine bI (ι:=Nat) zmx rfl [0,3,4] (fun i=>[.c (.d (.sl (xs.map encS))),.c (.bM (0,0) (((aP xs).take i).map ah.enc)),.c (.d (.i .i64 i))]) (fun i=>[.tok 2 (((aP xs).take i).map ah.enc)]::S)
  (fun i=>i<=xs.length) (fun i=>xs.length-i) 0 rfl rfl (ba _) ?_
 intro i hi
 have hl:(((aP xs).take i).map ah.enc).length<=i:=by rw[ai];exact ci _ _
 simp -implicitDefEqProofs (disch:=omega) only[go_sem]
 with_reducible refine ay (fun hb=> ?_) (fun hb=> ?_)<;>have h:=hb<;>(try simp only[wf_preprocess] at h)<;>simp -implicitDefEqProofs (disch:=omega) only[go_sem,hb]<;>(repeat(with_reducible refine And.intro ?_ ?_;focus first|omega|rfl|assumption|exact⟨_,rfl,rfl⟩|(simp;omega)|(simp;done)))
 ·have hi':i<xs.length:=by omega
  have hs:=nX (base:=[]) (l:=aP xs) (i:=i) (by rw[lq];exact hi')
  have hg:(aP xs)[i]'(by rw[lq];exact hi')=aM xs[i]:=by simp[aP]
  rw[hg] at hs;simp only[aw,x9,yg,az] at hs
  (repeat(with_reducible refine And.intro ?_ ?_;focus first|omega|rfl|assumption|exact⟨_,rfl,rfl⟩|(simp;omega)|(simp;done)))
  refine aA (aZ xs[i]) ?_;simp -implicitDefEqProofs (disch:=omega) only[go_sem]
  (repeat(with_reducible refine And.intro ?_ ?_;focus first|omega|rfl|assumption|exact⟨_,rfl,rfl⟩|(simp;omega)|(simp;done)))
  rw[hs];exact bZ (i+1) (by omega) rfl rfl (by omega)
 ·have hi':i=(aP xs).length:=by rw[lq];omega
  rw[hi',co]
theorem Ju:∀N:Nat,(∀x:au,SizeOf.sizeOf x<N->x.sz<=4194304->aF prog 116 [x.v] (.agg [.d (.s (fP x).aI),.d (.sl ((fP x).ak.map ah.enc))]))
 |0=>fun x h=>by omega
 |N+1=>by
  have ih:=Ju N;intro x hn hsz;have j4:=au.jo x;have hts:=zO hsz;have hx:=YW x
  have hall:∀t∈x.fArgs,t.sz<=4194304:=fun t ht=>by
   obtain⟨i,hi,e⟩:=cJ ht;rw[<-e];exact(wM hi hsz).1
  intro S;refine zcx [.cell 2 37] func116 ntmps116 ?_;simp -implicitDefEqProofs (disch:=omega) only[go_sem]
  with_reducible refine ay (fun hb=> ?_) (fun hb=> ?_)<;>have h:=hb<;>(try simp only[wf_preprocess] at h)<;>simp -implicitDefEqProofs (disch:=omega) only[go_sem,hb]<;>(repeat(with_reducible refine And.intro ?_ ?_;focus first|omega|rfl|assumption|exact⟨_,rfl,rfl⟩|(simp;omega)|(simp;done)))
  ·rw[if_pos h] at hx;rw[hx]
   (repeat(with_reducible refine And.intro ?_ ?_;focus first|omega|rfl|assumption|exact⟨_,rfl,rfl⟩|(simp;omega)|(simp;done)))
   refine aA (aZ _) ?_;simp -implicitDefEqProofs (disch:=omega) only[go_sem];rfl
  rw[if_neg h] at hx
  with_reducible refine ay (fun hb=> ?_) (fun hb=> ?_)<;>have h:=hb<;>(try simp only[wf_preprocess] at h)<;>simp -implicitDefEqProofs (disch:=omega) only[go_sem,hb]<;>(repeat(with_reducible refine And.intro ?_ ?_;focus first|omega|rfl|assumption|exact⟨_,rfl,rfl⟩|(simp;omega)|(simp;done)))
  ·rw[if_pos h] at hx;rw[hx];refine aA (aZ _) ?_;simp -implicitDefEqProofs (disch:=omega) only[go_sem];refine aA (aZ _) ?_;simp -implicitDefEqProofs (disch:=omega) only[go_sem];refine aA (Gb _ (by simp) (by simp)) ?_;simp -implicitDefEqProofs (disch:=omega) only[go_sem];simp only[fB,eY,ag,az,eO,Ca]
  rw[if_neg h] at hx
  have ajU:x.aH=2->x.fArgs.length=0->fP x=aM x.fName:=fun a b=>by rw[hx,if_pos ⟨a,b⟩]
  have acn:¬(x.aH=2/\x.fArgs.length=0)->fP x=dh ((if x.aH=3 then [aM lV] else [])++[aM x.fName]++x.fArgs.map fP):=fun a=>by rw[hx,if_neg a]
  clear hx
  repeat' (first|(with_reducible refine ay (fun hb=> ?_) (fun hb=> ?_)<;>have h:=hb<;>(try simp only[wf_preprocess] at h)<;>simp -implicitDefEqProofs (disch:=omega) only[go_sem,hb]<;>(repeat(with_reducible refine And.intro ?_ ?_;focus first|omega|rfl|assumption|exact⟨_,rfl,rfl⟩|(simp;omega)|(simp;done)))))
  ·rw[ajU (by omega) (by omega)];refine aA (aZ _) ?_;simp -implicitDefEqProofs (disch:=omega) only[go_sem];rfl
  ·exfalso;omega
  ·have hx:=acn (by omega);rw[if_neg h,aw] at hx;refine aA (aZ _) ?_;simp -implicitDefEqProofs (disch:=omega) only[go_sem]
   (repeat(with_reducible refine And.intro ?_ ?_;focus first|omega|rfl|assumption|exact⟨_,rfl,rfl⟩|(simp;omega)|(simp;done)))
   refine bI (ι:=Nat) zmx rfl [1,2,3,4] (fun i=>[.c (.ptr (0,0) 0),.c (.ptr (0,1) 0),.c (.ptr (0,2) 0),.c (.d (.i .i64 i))])
    (fun i=>[.box [.d (.i .i64 x.aH),.d (.s x.fName),.d (.sl (x.fArgs.map au.enc))],.box [.d (.s []),.bB []],.box [.d (.s []),.bM (0,3) (([aM x.fName]++(x.fArgs.map fP).take i).map ah.enc)],.tok 2 (([aM x.fName]++(x.fArgs.map fP).take i).map ah.enc)]::S)
    (fun i=>i<=x.fArgs.length) (fun i=>x.fArgs.length-i) 0 rfl ?_ (ba _) ?_
   ·simp only[df,bw,ag,az,am,aw,eO]<;>(try rfl)
   intro i hi
   have hl:(([aM x.fName]++(x.fArgs.map fP).take i).map ah.enc).length<=i+2:=by
    rw[ai,ab];have:=ci i (x.fArgs.map fP);simp only[aa,aq];omega
   have hs:=fun hi=>nX (base:=[aM x.fName]) (l:=x.fArgs.map fP) (i:=i) hi;have hrw:=ji (l:=[aM x.fName]++(x.fArgs.map fP).take i);generalize hR:([aM x.fName]++(x.fArgs.map fP).take i).map ah.enc=R at hl hs hrw;simp -implicitDefEqProofs (disch:=omega) only[go_sem]
   with_reducible refine ay (fun hb=> ?_) (fun hb=> ?_)<;>have h:=hb<;>(try simp only[wf_preprocess] at h)<;>simp -implicitDefEqProofs (disch:=omega) only[go_sem,hb]<;>(repeat(with_reducible refine And.intro ?_ ?_;focus first|omega|rfl|assumption|exact⟨_,rfl,rfl⟩|(simp;omega)|(simp;done)))
   ·have hi':i<x.fArgs.length:=by omega
    have hs':=hs (by rw[ai];exact hi');rw[cj] at hs'
    (repeat(with_reducible refine And.intro ?_ ?_;focus first|omega|rfl|assumption|exact⟨_,rfl,rfl⟩|(simp;omega)|(simp;done)))
    refine aA (ih x.fArgs[i] (by have:=bc (ap hi');omega) (hall _ (ap hi'))) ?_;simp -implicitDefEqProofs (disch:=omega) only[go_sem]
    (repeat(with_reducible refine And.intro ?_ ?_;focus first|omega|rfl|assumption|exact⟨_,rfl,rfl⟩|(simp;omega)|(simp;done)))
    rw[hs'];exact bZ (i+1) (by omega) rfl rfl (by omega)
   ·have hi':i=(x.fArgs.map fP).length:=by rw[ai];omega
    rw[hx,<-hR,hi',co];simp only[fB,eY,am,aw]
  ·have hx:=acn (by omega);rw[if_pos h] at hx;refine aA (aZ _) ?_;simp -implicitDefEqProofs (disch:=omega) only[go_sem]
   (repeat(with_reducible refine And.intro ?_ ?_;focus first|omega|rfl|assumption|exact⟨_,rfl,rfl⟩|(simp;omega)|(simp;done)))
   refine aA (aZ _) ?_;simp -implicitDefEqProofs (disch:=omega) only[go_sem]
   (repeat(with_reducible refine And.intro ?_ ?_;focus first|omega|rfl|assumption|exact⟨_,rfl,rfl⟩|(simp;omega)|(simp;done)))
   refine bI (ι:=Nat) zmx rfl [1,2,3,4] (fun i=>[.c (.ptr (0,0) 0),.c (.ptr (0,1) 0),.c (.ptr (0,2) 0),.c (.d (.i .i64 i))])
    (fun i=>[.box [.d (.i .i64 x.aH),.d (.s x.fName),.d (.sl (x.fArgs.map au.enc))],.box [.d (.s []),.bB []],.box [.d (.s []),.bM (0,3) (([aM lV,aM x.fName]++(x.fArgs.map fP).take i).map ah.enc)],.tok 2 (([aM lV,aM x.fName]++(x.fArgs.map fP).take i).map ah.enc)]::S)
    (fun i=>i<=x.fArgs.length) (fun i=>x.fArgs.length-i) 0 rfl ?_ (ba _) ?_
   ·simp only[df,bw,ag,az,am,aw,eO]<;>(try rfl)
   intro i hi
   have hl:(([aM lV,aM x.fName]++(x.fArgs.map fP).take i).map ah.enc).length<=i+2:=by
    rw[ai,ab];have:=ci i (x.fArgs.map fP);simp only[aa,aq];omega
   have hs:=fun hi=>nX (base:=[aM lV,aM x.fName]) (l:=x.fArgs.map fP) (i:=i) hi;have hrw:=ji (l:=[aM lV,aM x.fName]++(x.fArgs.map fP).take i);generalize hR:([aM lV,aM x.fName]++(x.fArgs.map fP).take i).map ah.enc=R at hl hs hrw;simp -implicitDefEqProofs (disch:=omega) only[go_sem]
   with_reducible refine ay (fun hb=> ?_) (fun hb=> ?_)<;>have h:=hb<;>(try simp only[wf_preprocess] at h)<;>simp -implicitDefEqProofs (disch:=omega) only[go_sem,hb]<;>(repeat(with_reducible refine And.intro ?_ ?_;focus first|omega|rfl|assumption|exact⟨_,rfl,rfl⟩|(simp;omega)|(simp;done)))
   ·have hi':i<x.fArgs.length:=by omega
    have hs':=hs (by rw[ai];exact hi');rw[cj] at hs'
    (repeat(with_reducible refine And.intro ?_ ?_;focus first|omega|rfl|assumption|exact⟨_,rfl,rfl⟩|(simp;omega)|(simp;done)))
    refine aA (ih x.fArgs[i] (by have:=bc (ap hi');omega) (hall _ (ap hi'))) ?_;simp -implicitDefEqProofs (disch:=omega) only[go_sem]
    (repeat(with_reducible refine And.intro ?_ ?_;focus first|omega|rfl|assumption|exact⟨_,rfl,rfl⟩|(simp;omega)|(simp;done)))
    rw[hs'];exact bZ (i+1) (by omega) rfl rfl (by omega)
   ·have hi':i=(x.fArgs.map fP).length:=by rw[ai];omega
    rw[hx,<-hR,hi',co];simp only[fB,eY,am,aw]
  ·have hx:=acn (by omega);rw[if_neg h,aw] at hx;refine aA (aZ _) ?_;simp -implicitDefEqProofs (disch:=omega) only[go_sem]
   (repeat(with_reducible refine And.intro ?_ ?_;focus first|omega|rfl|assumption|exact⟨_,rfl,rfl⟩|(simp;omega)|(simp;done)))
   refine bI (ι:=Nat) zmx rfl [1,2,3,4] (fun i=>[.c (.ptr (0,0) 0),.c (.ptr (0,1) 0),.c (.ptr (0,2) 0),.c (.d (.i .i64 i))])
    (fun i=>[.box [.d (.i .i64 x.aH),.d (.s x.fName),.d (.sl (x.fArgs.map au.enc))],.box [.d (.s []),.bB []],.box [.d (.s []),.bM (0,3) (([aM x.fName]++(x.fArgs.map fP).take i).map ah.enc)],.tok 2 (([aM x.fName]++(x.fArgs.map fP).take i).map ah.enc)]::S)
    (fun i=>i<=x.fArgs.length) (fun i=>x.fArgs.length-i) 0 rfl ?_ (ba _) ?_
   ·simp only[df,bw,ag,az,am,aw,eO]<;>(try rfl)
   intro i hi
   have hl:(([aM x.fName]++(x.fArgs.map fP).take i).map ah.enc).length<=i+2:=by
    rw[ai,ab];have:=ci i (x.fArgs.map fP);simp only[aa,aq];omega
   have hs:=fun hi=>nX (base:=[aM x.fName]) (l:=x.fArgs.map fP) (i:=i) hi;have hrw:=ji (l:=[aM x.fName]++(x.fArgs.map fP).take i);generalize hR:([aM x.fName]++(x.fArgs.map fP).take i).map ah.enc=R at hl hs hrw;simp -implicitDefEqProofs (disch:=omega) only[go_sem]
   with_reducible refine ay (fun hb=> ?_) (fun hb=> ?_)<;>have h:=hb<;>(try simp only[wf_preprocess] at h)<;>simp -implicitDefEqProofs (disch:=omega) only[go_sem,hb]<;>(repeat(with_reducible refine And.intro ?_ ?_;focus first|omega|rfl|assumption|exact⟨_,rfl,rfl⟩|(simp;omega)|(simp;done)))
   ·have hi':i<x.fArgs.length:=by omega
    have hs':=hs (by rw[ai];exact hi');rw[cj] at hs'
    (repeat(with_reducible refine And.intro ?_ ?_;focus first|omega|rfl|assumption|exact⟨_,rfl,rfl⟩|(simp;omega)|(simp;done)))
    refine aA (ih x.fArgs[i] (by have:=bc (ap hi');omega) (hall _ (ap hi'))) ?_;simp -implicitDefEqProofs (disch:=omega) only[go_sem]
    (repeat(with_reducible refine And.intro ?_ ?_;focus first|omega|rfl|assumption|exact⟨_,rfl,rfl⟩|(simp;omega)|(simp;done)))
    rw[hs'];exact bZ (i+1) (by omega) rfl rfl (by omega)
   ·have hi':i=(x.fArgs.map fP).length:=by rw[ai];omega
    rw[hx,<-hR,hi',co];simp only[fB,eY,am,aw]
theorem L8(x:au)(hsz:x.sz<=4194304):aF prog 116 [x.v] (.agg [.d (.s (fP x).aI),.d (.sl ((fP x).ak.map ah.enc))]):=Ju _ x (br _) hsz
theorem VO(x:ah)(n:Nat)(hsz:x.sz<=67108864):aF prog 49 [.agg [.d (.s x.aI),.d (.ol n (lx x.ak (n+1)))]] (.agg [.d (.s (DY x).aI),.d (.ol n (lx (DY x).ak (n+1)))]):=by
 unfold DY
 cases hv:dJ x with
 |false=>
  refine aF.less (fun S=> ?_) (KU [] n);refine zcx [.cell 2 37] func49 ntmps49 ?_;simp -implicitDefEqProofs (disch:=omega) only[go_sem];refine wO (pU x hsz) (.cons (Fx x n) .nil) ?_;simp -implicitDefEqProofs (disch:=omega) only[go_sem,hv]
 |true=>
  intro S;refine zcx [.cell 2 37] func49 ntmps49 ?_;simp -implicitDefEqProofs (disch:=omega) only[go_sem];refine wO (pU x hsz) (.cons (Fx x n) .nil) ?_;simp -implicitDefEqProofs (disch:=omega) only[go_sem,hv]
end Go.Ab