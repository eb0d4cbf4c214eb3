/-
  SEVERAL TEXTS IN ONE (merged by program): contracts and models, each with its own heading.
-/
import Derived.Test.YtfhpfkaeldgcmaaGreatPartHfbJ
open Go.Proofs Go.Proofs.Tryz
set_option linter.unusedSimpArgs false
set_option linter.unusedVariables false
set_option maxRecDepth 4000
namespace Go.Ab
section
variable {P:Program} {N:Nat} {S:Store} {s:St} {tm:List (Nat×V)}
def oV(N:Nat):Code->Bool
 | .seq x y=>oV N x&&oV N y
 | .region _ R true=>Jq R N
 | .cond _ x y=>oV N x&&oV N y
 | .block _ c=>oV N c
 | .loop _=>true
 |c=>codeOk N c
theorem pO(fu:P.follows .mixedOrders=true):∀(c:Code)(Q:Exit->St->Prop)(s:St),oV N c=true->mR P N c Q s->AW P N c Q s
 | .seq x y,Q,s,ok,h=>by
   simp only[oV,Bool.and_eq_true] at ok;refine Qu (AW.mono (pO fu x _ s ok.1 h) fun e s' h'=> ?_)
   cases e with
   |normal=>exact pO fu y Q s' ok.2 h'
   |_=>exact h'
 | .region _ R true,Q,s,ok,h=>Tf fu ok h
 | .region id R false,Q,s,ok,h=>jG fu _ Q s ok h
 | .cond c x y,Q,s,ok,h=>by
   simp only[oV,Bool.and_eq_true] at ok;simp only[mR,yK] at h;split at h
   ·rename_i b hb;exact ME hb (fun e=>pO fu x Q s ok.1 (h.1 e)) (fun e=>pO fu y Q s ok.2 (h.2 e))
   ·exact h.elim
 | .block id c,Q,s,ok,h=>Jm (pO fu c _ s ok h)
 | .exit id,Q,s,ok,h=>jG fu _ Q s ok h
 | .ret,Q,s,ok,h=>jG fu _ Q s ok h
 | .skip,Q,s,ok,h=>jG fu _ Q s ok h
 | .loop c,Q,s,ok,h=>by
   rw[mR,MS] at h;exact h
 | .rangeFunc _ _ _ _,Q,s,ok,h=>h.elim
 | .scope _,Q,s,ok,h=>h.elim
 | .label _,Q,s,ok,h=>h.elim
 | .goto _,Q,s,ok,h=>h.elim
 | .refuse _,Q,s,ok,h=>h.elim
theorem yc{ι:Type}{c:Code}{Q:Exit->St->Prop}(fu:P.follows .mixedOrders=true)(hok:oV N c=true)(ts:List Nat)(f:ι->List V)(g:ι->Store)(p:ι->Prop)(μ:ι->Nat)(i0:ι)
 (h1:ts.map (look s.tm)=f i0)(h2:s.st=g i0)(h3:p i0)
 (round:∀i,p i->mR P N c (jP (Inv N ts f g p μ i) Q) ⟨jQ ts (f i),g i⟩):AW P N (.loop c) Q s:=by
 refine MF (ι:=ι) (fun i s=>∃s0,gN N s s0/\ts.map (look s0.tm)=f i/\s0.st=g i/\p i) μ i0 ⟨s,gN.refl _ _,h1,h2,h3⟩ fun i s hI=> ?_;obtain⟨s0,hg,h1,h2,h3⟩:=hI;refine l9 ?_ hg
 have hr:=(pO fu c _ _ hok (round i h3)).mono (Q':=jP (fun s'=>∃j,μ j<μ i/\∃s0,gN N s' s0/\ts.map (look s0.tm)=f j/\s0.st=g j/\p j) Q) fun e s' h=>by
  cases e with
  |normal=>
   obtain⟨j,s0,a1,a2,a3,a4,a5⟩:=h;exact⟨j,a1,s0,a2,a3,a4,a5⟩
  |_=>exact h
 obtain⟨tm,st⟩:=s0;simp only at h1 h2;subst h2;rw[<-h1] at hr;exact Wp hr fun t=>vJ _ ts t
theorem Gq{f:FuncId}{fn:Func}{c:Code}{args:List V}{post:V->Store->Prop}{rs:List ResultVar}(fu:P.follows .mixedOrders=true)(hf:P.funcs[f]? =some fn)(hN:fn.ntmps=N)
 (hb:fn.body=some c) (hn:(fn.name== "runtime.NumGoroutine")=false) (hr:fn.results.toList=rs) (hl:Nat.ble args.length N=true) (hok:oV N c=true)
 (h:mR P N c (Ju P rs post) ⟨kM (args.map (V.up 1)) 0,[]::S⟩):cB P f args S post:=by
 subst hN;subst hr;exact qm hf hb hn (Nat.le_of_ble_eq_true hl) (AU uh (pO fu c _ _ hok h))
theorem Ew(n:Nat){f:FuncId}{fn:Func}{c:Code}{args:List V}{post:V->Store->Prop}{rs:List ResultVar}(fu:P.follows .mixedOrders=true)(hf:P.funcs[f]? =some fn)(hN:fn.ntmps=N)
 (hb:fn.body=some c) (hn:(fn.name== "runtime.NumGoroutine")=false) (hr:fn.results.toList=rs) (hl:Nat.ble args.length N=true) (hok:oV N c=true)
 (h:mR P N c (XD P n rs post) ⟨kM (args.map (V.up 1)) 0,[.seed n]::S⟩):cB P f args S post:=by
 subst hN;subst hr;exact qm hf hb hn (Nat.le_of_ble_eq_true hl) (U1 n (AU (Gh n) (pO fu c _ _ hok h)))
end
section
variable {P:Program} {N:Nat} {S:Store}
end
def aiE(n:Nat)(out:List UInt8):List UInt8:=if h:n=0 then out else aiE (n/10) (UInt8.ofNat (48+n % 10)::out)
termination_by n
decreasing_by omega
def akH(k:Int):List UInt8:=if k<=0 then [109,48] else 109::aiE k.toNat []
mutual
def Lg:D->Nat
 | .sl es=>Ey es
 | .b _=>1
 | .i _ _=>1
 | .s _=>1
 | .o _=>0
 | .ol _ _=>0
def Ve:List D->Nat
 |[]=>0
 |d::ds=>Lg d+Ve ds
def Ey:List (List D)->Nat
 |[]=>0
 |r::rs=>Ve r+Ey rs
end
mutual
def mkD:D->Int->D
 | .sl es,k=>.sl (XM es k)
 | .b _,k=>.b (decide (k.tmod 3=0))
 | .i kd _,k=>.i kd k
 | .s _,k=>.s (akH k)
 | .o v,_=>.o v
 | .ol n es,_=>.ol n es
def mkR:List D->Int->List D
 |[],_=>[]
 |d::ds,k=>mkD d k::mkR ds (k+Lg d)
def XM:List (List D)->Int->List (List D)
 |[],_=>[]
 |r::rs,k=>mkR r k::XM rs (k+Ve r)
end
mutual
def vZ:D->Bool
 | .sl es=>kJ es
 | .b _=>true
 | .i _ _=>true
 | .s _=>true
 | .o _=>true
 | .ol _ _=>true
def j4:List D->Bool
 |[]=>true
 |d::ds=>vZ d&&j4 ds
def kJ:List (List D)->Bool
 |[]=>true
 |r::rs=>decide (r.length<=32)&&j4 r&&kJ rs
end
mutual
theorem akI:∀d:D,vZ d=true->Lg d<=32*d.sz+1
 | .sl es,h=>by
   have:=aaF es (by simpa [vZ] using h);simp only[Lg,D.sz];omega
 | .b _,_=>by simp[Lg]
 | .i _ _,_=>by simp[Lg]
 | .s _,_=>by simp[Lg]
 | .o _,_=>by simp[Lg]
 | .ol _ _,_=>by simp[Lg]
theorem aaG:∀r:List D,j4 r=true->Ve r<=32*bD r+r.length
 |[],_=>by simp[Ve]
 |d::ds,h=>by
  rw[j4,Bool.and_eq_true] at h;have h1:=akI d h.1;have h2:=aaG ds h.2;simp only[Ve,bD,List.length_cons];omega
theorem aaF:∀rs:List (List D),kJ rs=true->Ey rs<=32*(rs.length+aN rs)
 |[],_=>by simp[Ey]
 |r::rs,h=>by
  rw[kJ,Bool.and_eq_true,Bool.and_eq_true,decide_eq_true_eq] at h;have h1:=aaG r h.1.2;have h2:=aaF rs h.2;simp only[Ey,aN,List.length_cons];omega
end
theorem iB:∀a b,j4 (a++b)=(j4 a&&j4 b)
 |[],b=>by simp[j4]
 |d::ds,b=>by rw[List.cons_append,j4,j4,iB ds b,Bool.and_assoc]
theorem kT{α:Type}{f:α->List D}:∀{xs:List α},(∀x∈xs,j4 (f x)=true/\(f x).length<=32)->kJ (xs.map f)=true
 |[],_=>rfl
 |x::xs,h=>by
  rw[List.map_cons,kJ,(h x (by simp)).1,kT fun y hy=>h y (by simp[hy]),decide_eq_true (h x (by simp)).2];rfl
abbrev anX(P:Program)(f:FuncId)(es:List (List D)):Prop:=∀(k:Int)(l j r:Nat)(p:List (Nat×Nat))(S:Store)(rs:List (List (List D))),bA S (l,j)=some (.xf rs)->atR rs r p=some es->0<=k/\k+Ey es<=4611686018427387904->
 cB P f [.c (.xp (l,j) r p),.c (.d (.i .i64 k))] S (fun res S'=>res=.c (.d (.i .i64 (k+Ey es)))/\S'=bq S (l,j) (.xf (FB rs r p (XM es k))))
abbrev anY(P:Program)(f:FuncId)(es:List (List D)):Prop:=∀(k:Int)(l j r:Nat)(p:List (Nat×Nat))(S:Store)(rs:List (List (List D))),bA S (l,j)=some (.xf rs)->atR rs r p=some (XM es k)->0<=k/\k+Ey es<=4611686018427387904->
 cB P f [.c (.xp (l,j) r p),.c (.d (.i .i64 k))] S (fun res S'=>res=.c (.d (.i .i64 (k+Ey es)))/\S'=S)
section
variable {P:Program} {N:Nat} {c:Code} {Q:Exit->St->Prop} {s:St} {S:Store} {l j r n:Nat} {p:List (Nat×Nat)} {rs:List (List (List D))} {rows:List (List D)} {k:Int}
abbrev anZ(l j r:Nat)(p:List (Nat×Nat))(k:Int)(i:Nat):List V:=[.c (.xp (1+l,j) r p),.c (.d (.i .i64 k)),.c (.d (.i .i64 i))]
end
theorem yg:∀{rows:List (List D)}{n i:Nat}(hi:i<rows.length),(eU rows n)[i]? =some (fF rows[i] (n+gQ (rows.take i)))
 |r::rows,n,0,_=>by simp[eU,gQ]
 |r::rows,n,i+1,hi=>by
  have:=yg (rows:=rows) (n:=n+uy r) (i:=i) (by simpa using hi);rw[eU,List.getElem?_cons_succ,this,List.getElem_cons_succ,List.take_succ_cons,gQ,Nat.add_assoc]
theorem JC:∀row:List D,(row.map C.d).mapM J5=some row
 |[]=>rfl
 |d::row=>by
  have:=JC row;rw[List.map_cons,List.mapM_cons,this];rfl
theorem wh(xs:List (List UInt8)):jM (xs.map encS)=true:=kS fun _ _=>rfl
theorem wm(xs:List (List UInt8)):kJ (xs.map encS)=true:=kT fun _ _=>⟨rfl,by simp[encS]⟩
theorem Bl:∀(xs:List (List UInt8))(n:Nat),eU (xs.map encS) n=xs.map encS
 |[],_=>rfl
 |x::xs,n=>by rw[List.map_cons,eU,Bl xs];rfl
mutual
theorem ay.gB:∀x:ay,jC x.enc=true/\j4 x.enc=true
 | .mk a0 a1 a2=>by simp only[ay.enc,jC,oO,j4,vZ,iA,iB,Bool.and_true,Bool.true_and,Bool.and_self,and_self,and_true,true_and,(ay.oF a2).1,(ay.oF a2).2]
theorem ay.oF:∀xs:List ay,jM (ay.encs xs)=true/\kJ (ay.encs xs)=true
 |[]=>⟨rfl,rfl⟩
 |x::xs=>by
  have h:decide ((ay.enc x).length<=32)=true:=by rw[ay.dh];rfl
  simp only[ay.encs,jM,kJ,h,(ay.gB x).1,(ay.gB x).2,(ay.oF xs).1,(ay.oF xs).2,Bool.and_self,and_self]
end
theorem ay.iO(xs:List ay):jM (xs.map ay.enc)=true/\kJ (xs.map ay.enc)=true:=by rw[<-ay.jS];exact ay.oF xs
theorem dX.gB(x:dX):jC x.enc=true/\j4 x.enc=true:=by
 rw[dX.aj];simp only[List.cons_append,List.nil_append,jC,oO,j4,vZ,iA,iB,Bool.and_true,Bool.true_and,Bool.and_self,and_self,and_true,true_and,(ay.gB x.fType).1,(ay.gB x.fType).2]
theorem dX.iO(xs:List dX):jM (xs.map dX.enc)=true/\kJ (xs.map dX.enc)=true:=⟨kS fun x _=>x.gB.1,kT fun x _=>⟨x.gB.2,by rw[dX.dh];decide⟩⟩
theorem aU.gB(x:aU):jC x.enc=true/\j4 x.enc=true:=by
 rw[aU.aj];simp only[List.cons_append,List.nil_append,jC,oO,j4,vZ,iA,iB,Bool.and_true,Bool.true_and,Bool.and_self,and_self,and_true,true_and,(ay.gB x.fType).1,(ay.gB x.fType).2]
theorem aU.iO(xs:List aU):jM (xs.map aU.enc)=true/\kJ (xs.map aU.enc)=true:=⟨kS fun x _=>x.gB.1,kT fun x _=>⟨x.gB.2,by rw[aU.dh];decide⟩⟩
mutual
theorem aC.gB:∀x:aC,jC x.enc=true/\j4 x.enc=true
 | .mk a0 a1 a2 a3 a4 a5 a6=>by simp only[aC.enc,jC,oO,j4,vZ,iA,iB,Bool.and_true,Bool.true_and,Bool.and_self,and_self,and_true,true_and,(ay.gB a4).1,(ay.gB a4).2,(aC.oF a5).1,(aC.oF a5).2,(bn.oF a6).1,(bn.oF a6).2]
theorem aC.oF:∀xs:List aC,jM (aC.encs xs)=true/\kJ (aC.encs xs)=true
 |[]=>⟨rfl,rfl⟩
 |x::xs=>by
  have h:decide ((aC.enc x).length<=32)=true:=by rw[aC.dh];rfl
  simp only[aC.encs,jM,kJ,h,(aC.gB x).1,(aC.gB x).2,(aC.oF xs).1,(aC.oF xs).2,Bool.and_self,and_self]
theorem bn.gB:∀x:bn,jC x.enc=true/\j4 x.enc=true
 | .mk a0 a1 a2=>by simp only[bn.enc,jC,oO,j4,vZ,iA,iB,Bool.and_true,Bool.true_and,Bool.and_self,and_self,and_true,true_and,wh a1,wm a1,(aC.gB a2).1,(aC.gB a2).2]
theorem bn.oF:∀xs:List bn,jM (bn.encs xs)=true/\kJ (bn.encs xs)=true
 |[]=>⟨rfl,rfl⟩
 |x::xs=>by
  have h:decide ((bn.enc x).length<=32)=true:=by rw[bn.dh];rfl
  simp only[bn.encs,jM,kJ,h,(bn.gB x).1,(bn.gB x).2,(bn.oF xs).1,(bn.oF xs).2,Bool.and_self,and_self]
end
theorem aC.iO(xs:List aC):jM (xs.map aC.enc)=true/\kJ (xs.map aC.enc)=true:=by rw[<-aC.jS];exact aC.oF xs
theorem bn.iO(xs:List bn):jM (xs.map bn.enc)=true/\kJ (xs.map bn.enc)=true:=by rw[<-bn.jS];exact bn.oF xs
mutual
theorem au.gB:∀x:au,jC x.enc=true/\j4 x.enc=true
 | .mk a0 a1=>by simp only[au.enc,jC,oO,j4,vZ,iA,iB,Bool.and_true,Bool.true_and,Bool.and_self,and_self,and_true,true_and,(au.oF a1).1,(au.oF a1).2]
theorem au.oF:∀xs:List au,jM (au.encs xs)=true/\kJ (au.encs xs)=true
 |[]=>⟨rfl,rfl⟩
 |x::xs=>by
  have h:decide ((au.enc x).length<=32)=true:=by rw[au.dh];rfl
  simp only[au.encs,jM,kJ,h,(au.gB x).1,(au.gB x).2,(au.oF xs).1,(au.oF xs).2,Bool.and_self,and_self]
end
theorem au.iO(xs:List au):jM (xs.map au.enc)=true/\kJ (xs.map au.enc)=true:=by rw[<-au.jS];exact au.oF xs
theorem aI.gB(x:aI):jC x.enc=true/\j4 x.enc=true:=by
 rw[aI.aj];simp only[List.cons_append,List.nil_append,jC,oO,j4,vZ,iA,iB,Bool.and_true,Bool.true_and,Bool.and_self,and_self,and_true,true_and,(ay.iO x.bP).1,(ay.iO x.bP).2,(ay.gB x.cu).1,(ay.gB x.cu).2,wh x.aS,wm x.aS,(aC.gB x.fBody).1,(aC.gB x.fBody).2]
theorem aI.iO(xs:List aI):jM (xs.map aI.enc)=true/\kJ (xs.map aI.enc)=true:=⟨kS fun x _=>x.gB.1,kT fun x _=>⟨x.gB.2,by rw[aI.dh];decide⟩⟩
theorem bF.gB(x:bF):jC x.enc=true/\j4 x.enc=true:=by
 rw[bF.aj];simp only[List.cons_append,List.nil_append,jC,oO,j4,vZ,iA,iB,Bool.and_true,Bool.true_and,Bool.and_self,and_self,and_true,true_and,wh x.cO,wm x.cO,(aI.iO x.aK).1,(aI.iO x.aK).2]
theorem bF.iO(xs:List bF):jM (xs.map bF.enc)=true/\kJ (xs.map bF.enc)=true:=⟨kS fun x _=>x.gB.1,kT fun x _=>⟨x.gB.2,by rw[bF.dh];decide⟩⟩
theorem aH.gB(x:aH):jC x.enc=true/\j4 x.enc=true:=by
 rw[aH.aj];simp only[List.cons_append,List.nil_append,jC,oO,j4,vZ,iA,iB,Bool.and_true,Bool.true_and,Bool.and_self,and_self,and_true,true_and,(ay.iO x.gH).1,(ay.iO x.gH).2]
theorem aH.iO(xs:List aH):jM (xs.map aH.enc)=true/\kJ (xs.map aH.enc)=true:=⟨kS fun x _=>x.gB.1,kT fun x _=>⟨x.gB.2,by rw[aH.dh];decide⟩⟩
theorem aR.gB(x:aR):jC x.enc=true/\j4 x.enc=true:=by
 rw[aR.aj];simp only[List.cons_append,List.nil_append,jC,oO,j4,vZ,iA,iB,Bool.and_true,Bool.true_and,Bool.and_self,and_self,and_true,true_and,wh x.aS,wm x.aS,(aH.iO x.aF).1,(aH.iO x.aF).2]
theorem aR.iO(xs:List aR):jM (xs.map aR.enc)=true/\kJ (xs.map aR.enc)=true:=⟨kS fun x _=>x.gB.1,kT fun x _=>⟨x.gB.2,by rw[aR.dh];decide⟩⟩
theorem aT.gB(x:aT):jC x.enc=true/\j4 x.enc=true:=by
 rw[aT.aj];simp only[List.cons_append,List.nil_append,jC,oO,j4,vZ,iA,iB,Bool.and_true,Bool.true_and,Bool.and_self,and_self,and_true,true_and,wh x.aS,wm x.aS,(aC.gB x.fBody).1,(aC.gB x.fBody).2]
theorem aT.iO(xs:List aT):jM (xs.map aT.enc)=true/\kJ (xs.map aT.enc)=true:=⟨kS fun x _=>x.gB.1,kT fun x _=>⟨x.gB.2,by rw[aT.dh];decide⟩⟩
theorem aP.gB(x:aP):jC x.enc=true/\j4 x.enc=true:=by
 rw[aP.aj];simp only[List.cons_append,List.nil_append,jC,oO,j4,vZ,iA,iB,Bool.and_true,Bool.true_and,Bool.and_self,and_self,and_true,true_and,wh x.aS,wm x.aS,(ay.gB x.dL).1,(ay.gB x.dL).2,(aU.iO x.dS).1,(aU.iO x.dS).2,(ay.gB x.bW).1,(ay.gB x.bW).2,(aT.iO x.bC).1,(aT.iO x.bC).2]
theorem aP.iO(xs:List aP):jM (xs.map aP.enc)=true/\kJ (xs.map aP.enc)=true:=⟨kS fun x _=>x.gB.1,kT fun x _=>⟨x.gB.2,by rw[aP.dh];decide⟩⟩
theorem dG.gB(x:dG):jC x.enc=true/\j4 x.enc=true:=by
 rw[dG.aj];simp only[List.cons_append,List.nil_append,jC,oO,j4,vZ,iA,iB,Bool.and_true,Bool.true_and,Bool.and_self,and_self,and_true,true_and,(ay.gB x.fType).1,(ay.gB x.fType).2]
theorem dG.iO(xs:List dG):jM (xs.map dG.enc)=true/\kJ (xs.map dG.enc)=true:=⟨kS fun x _=>x.gB.1,kT fun x _=>⟨x.gB.2,by rw[dG.dh];decide⟩⟩
theorem bJ.gB(x:bJ):jC x.enc=true/\j4 x.enc=true:=by
 rw[bJ.aj];simp only[List.cons_append,List.nil_append,jC,oO,j4,vZ,iA,iB,Bool.and_true,Bool.true_and,Bool.and_self,and_self,and_true,true_and,wh x.aS,wm x.aS,(aU.iO x.dS).1,(aU.iO x.dS).2,(dG.iO x.bP).1,(dG.iO x.bP).2,(ay.gB x.cu).1,(ay.gB x.cu).2,(aC.gB x.fBody).1,(aC.gB x.fBody).2]
theorem bJ.iO(xs:List bJ):jM (xs.map bJ.enc)=true/\kJ (xs.map bJ.enc)=true:=⟨kS fun x _=>x.gB.1,kT fun x _=>⟨x.gB.2,by rw[bJ.dh];decide⟩⟩
theorem aM.gB(x:aM):jC x.enc=true/\j4 x.enc=true:=by
 rw[aM.aj];simp only[List.cons_append,List.nil_append,jC,oO,j4,vZ,iA,iB,Bool.and_true,Bool.true_and,Bool.and_self,and_self,and_true,true_and,wh x.iV,wm x.iV,(bF.iO x.dI).1,(bF.iO x.dI).2,(aR.iO x.aO).1,(aR.iO x.aO).2,(aP.iO x.dV).1,(aP.iO x.dV).2,(bJ.iO x.dB).1,(bJ.iO x.dB).2]
theorem aM.iO(xs:List aM):jM (xs.map aM.enc)=true/\kJ (xs.map aM.enc)=true:=⟨kS fun x _=>x.gB.1,kT fun x _=>⟨x.gB.2,by rw[aM.dh];decide⟩⟩
theorem bG.gB(x:bG):jC x.enc=true/\j4 x.enc=true:=by
 rw[bG.aj];simp only[List.cons_append,List.nil_append,jC,oO,j4,vZ,iA,iB,Bool.and_true,Bool.true_and,Bool.and_self,and_self,and_true,true_and,(aM.iO x.aQ).1,(aM.iO x.aQ).2]
theorem bG.iO(xs:List bG):jM (xs.map bG.enc)=true/\kJ (xs.map bG.enc)=true:=⟨kS fun x _=>x.gB.1,kT fun x _=>⟨x.gB.2,by rw[bG.dh];decide⟩⟩
theorem dU.gB(x:dU):jC x.enc=true/\j4 x.enc=true:=by
 rw[dU.aj];simp only[List.cons_append,List.nil_append,jC,oO,j4,vZ,iA,iB,Bool.and_true,Bool.true_and,Bool.and_self,and_self,and_true,true_and]
theorem dU.iO(xs:List dU):jM (xs.map dU.enc)=true/\kJ (xs.map dU.enc)=true:=⟨kS fun x _=>x.gB.1,kT fun x _=>⟨x.gB.2,by rw[dU.dh];decide⟩⟩
theorem yh{xs:List (List UInt8)}:∀y∈xs.map encS,y.length=1:=fun y hy=>by
 obtain⟨z,_,rfl⟩:=List.mem_map.1 hy;rfl
theorem zA(xs:List (List UInt8))(hx:xs.length<=1073741824)(n:Nat):bg prog 83 [.c (.d (.sl (xs.map encS)))] (.c (.d (.ol n (xs.map encS)))):=fun S=>by
 have h1:=yh (xs:=xs);refine Gi (n) (rs:=[.tmp 2]) zmx func83 ntmps83 rfl rfl rfl rfl rfl ?_;simp -implicitDefEqProofs (disch:=omega) only[go_sem];exact⟨h1,⟨_,rfl,rfl⟩,(fun y hy=>by cases hy),hx⟩
theorem zB:∀N:Nat,(∀x:ay,SizeOf.sizeOf x<N->∀n:Nat,x.sz<=4194304->bg prog 84 [x.v] (.agg ((fF x.enc n).map .d)))/\
 (∀xs:List ay,SizeOf.sizeOf xs<N->∀n:Nat,xs.length+aN (xs.map ay.enc)<=4194304->bg prog 87 [.c (.d (.sl (xs.map ay.enc)))] (.c (.d (jo (.sl (xs.map ay.enc)) n))))
 |0=>⟨fun x h=>by omega,fun x h=>by omega⟩
 |N+1=>by
  obtain⟨ih,wX⟩:=zB N;refine⟨fun x hn n hsz=> ?_,fun xs hn n hsz=> ?_⟩
  ·intro S;have nu:=ay.jW x;simp only[ay.sz,ay.aj,bD,D.sz,List.length_map] at hsz;refine zcx [.cell 2 41] func84 ntmps84 ?_;simp only[ay.aj,List.cons_append,List.nil_append,fF,jo,uy,oD,List.map_cons,List.map_nil,Nat.add_zero];simp -implicitDefEqProofs (disch:=omega) only[go_sem];refine aB (wX x.fArgs (by omega) n (by omega)) ?_;simp -implicitDefEqProofs (disch:=omega) only[go_sem,jo]
  ·obtain⟨T,hT⟩:∃T,T=eU (xs.map ay.enc) (n+1):=⟨_,rfl⟩
   have iG:T.length=xs.length:=by rw[hT,mW,List.length_map]
   show bg prog 87 [.c (.d (.sl (xs.map ay.enc)))] (.c (.d (.ol n (eU (xs.map ay.enc) (n+1)))));rw[<-hT];intro S;refine Gi (n) (rs:=[.tmp 2]) zmx func87 ntmps87 rfl rfl rfl rfl rfl ?_;simp -implicitDefEqProofs (disch:=omega) only[go_sem]
   (repeat(with_reducible refine And.intro ?_ ?_;focus first|omega|rfl|assumption|exact⟨_,rfl,rfl⟩|(simp;omega)|(simp;done)))
   refine bO (ι:=Nat×List (List D)) zmx rfl [3,9,10,11] (fun y=>[.c (.iJ (0,1)),.c (.d (.sl (xs.map ay.enc))),.c (.d (.i .i64 xs.length)),.c (.d (.i .i64 y.1))]) (fun y=>[.seed n,.eP 3 y.2]::S)
    (fun y=>y.1<=xs.length/\mQ 3 y.1 y.2 T) (fun y=>xs.length-y.1) (0,_) rfl rfl ⟨Nat.zero_le _,mQ.start (by simp[iG]) rfl⟩ ?_
   rintro⟨i,R⟩ ⟨p1,p2⟩;simp only at p1 p2;simp -implicitDefEqProofs (disch:=omega) only[go_sem]
   with_reducible refine aD (fun hb=> ?_) (fun hb=> ?_)<;>have h:=hb<;>(try simp only[wf_preprocess] at h)<;>simp -implicitDefEqProofs (disch:=omega) only[go_sem,hb]<;>(repeat(with_reducible refine And.intro ?_ ?_;focus first|omega|rfl|assumption|exact⟨_,rfl,rfl⟩|(simp;omega)|(simp;done)))
   ·have hi:i<xs.length:=by omega
    have hir:i<(xs.map ay.enc).length:=by rw[List.length_map];exact hi
    have hR:=p2.1;rw[iG] at hR
    have Bn:T[i]? =some (fF (ay.enc xs[i]) (n+1+gQ ((xs.map ay.enc).take i))):=by
     rw[hT,yg hir,List.getElem_map]
    have hx:xs[i].sz<=aN (xs.map ay.enc):=dx (List.mem_map_of_mem (List.getElem_mem hi))
    (repeat(with_reducible refine And.intro ?_ ?_;focus first|omega|rfl|assumption|exact⟨_,rfl,rfl⟩|(simp;omega)|(simp;done)))
    refine aB (ih xs[i] (by have:=List.sizeOf_lt_of_mem (List.getElem_mem hi);omega) (n+1+gQ ((xs.map ay.enc).take i)) (by omega)) ?_;obtain⟨row,hrow⟩:∃row,row=fF (ay.enc xs[i]) (n+1+gQ ((xs.map ay.enc).take i)):=⟨_,rfl⟩
    have hrl:row.length=3:=by rw[hrow,jw,ay.dh]
    rw[<-hrow] at Bn ⊢;simp -implicitDefEqProofs (disch:=omega) only[go_sem,hrl,JC]
    (repeat(with_reducible refine And.intro ?_ ?_;focus first|omega|rfl|assumption|exact⟨_,rfl,rfl⟩|(simp;omega)|(simp;done)))
    refine dZ 2 (by decide) (i+1,_) (by simp only;omega) rfl rfl ?_ rfl ⟨by simp only;omega,p2.step Bn hrl⟩;simp[oo,jQ,V.refs,C.refs,oP]
   ·have hi:i=xs.length:=by omega
    rw[p2.done (by omega)]
theorem Gs(x:ay)(n:Nat)(h:x.sz<=4194304):bg prog 84 [x.v] (.agg ((fF x.enc n).map .d)):=(zB _).1 x (Nat.lt_succ_self _) n h
theorem Fj(xs:List ay)(n:Nat)(h:xs.length+aN (xs.map ay.enc)<=4194304):bg prog 87 [.c (.d (.sl (xs.map ay.enc)))] (.c (.d (jo (.sl (xs.map ay.enc)) n))):=(zB _).2 xs (Nat.lt_succ_self _) n h
theorem RF(x:aR)(n:Nat)(hsz:x.sz<=4194304):bg prog 52 [x.v] (.agg ((fF x.enc n).map .d)):=fun S=>by
 have hz:x.aS.length<=4194304/\x.aF.length+aN (x.aF.map aH.enc)<=4194304:=by
  simp only[aR.sz,aR.aj,bD,aY,D.sz,List.length_map] at hsz;omega
 obtain⟨m,hm⟩:∃m,m=n+(gQ (x.aS.map encS)+1):=⟨_,rfl⟩;obtain⟨T,hT⟩:∃T,T=eU (x.aF.map aH.enc) (m+1):=⟨_,rfl⟩
 have iG:T.length=x.aF.length:=by rw[hT,mW,List.length_map]
 have hE:fF x.enc n=[.s x.fName,.ol n (x.aS.map encS),.ol m T]:=by
  simp only[aR.aj,List.cons_append,List.nil_append,fF,jo,uy,oD,Nat.add_zero,Bl,hT,hm]
 rw[hE];refine Ew (m) (rs:=[.cell 2 59]) zmx func52 ntmps52 rfl rfl rfl rfl rfl ?_;simp -implicitDefEqProofs (disch:=omega) only[go_sem];refine aB (zA x.aS (by omega) n) ?_;simp -implicitDefEqProofs (disch:=omega) only[go_sem]
 (repeat(with_reducible refine And.intro ?_ ?_;focus first|omega|rfl|assumption|exact⟨_,rfl,rfl⟩|(simp;omega)|(simp;done)))
 refine yc (ι:=Nat×List (List D)) zmx rfl [1,2,3,15,16,17] (fun y=>[.c (.ptr (0,1) 0),.c (.ptr (0,2) 0),.c (.iJ (0,3)),.c (.d (.sl (x.aF.map aH.enc))),.c (.d (.i .i64 x.aF.length)),.c (.d (.i .i64 y.1))])
  (fun y=>[.seed m,.box [.d (.s x.fName),.d (.ol n (x.aS.map encS)),.d (.sl (x.aF.map aH.enc))],.box [.d (.s []),.bI [],.bI []],.eP 2 y.2]::S)
  (fun y=>y.1<=x.aF.length/\mQ 2 y.1 y.2 T) (fun y=>x.aF.length-y.1) (0,_) rfl rfl ⟨Nat.zero_le _,mQ.start (by simp[iG]) rfl⟩ ?_
 rintro⟨i,R⟩ ⟨p1,p2⟩;simp only at p1 p2;simp -implicitDefEqProofs (disch:=omega) only[go_sem]
 with_reducible refine aD (fun hb=> ?_) (fun hb=> ?_)<;>have h:=hb<;>(try simp only[wf_preprocess] at h)<;>simp -implicitDefEqProofs (disch:=omega) only[go_sem,hb]<;>(repeat(with_reducible refine And.intro ?_ ?_;focus first|omega|rfl|assumption|exact⟨_,rfl,rfl⟩|(simp;omega)|(simp;done)))
 ·have hi:i<x.aF.length:=by omega
  have hir:i<(x.aF.map aH.enc).length:=by rw[List.length_map];exact hi
  have hR:=p2.1;rw[iG] at hR;have hx:x.aF[i].sz<=aN (x.aF.map aH.enc):=dx (List.mem_map_of_mem (List.getElem_mem hi));simp only[aH.sz,aH.aj,bD,D.sz,List.length_map] at hx;obtain⟨q,hq⟩:∃q,q=m+1+gQ ((x.aF.map aH.enc).take i):=⟨_,rfl⟩
  have Bn:T[i]? =some [.s x.aF[i].fName,.ol q (eU (x.aF[i].gH.map ay.enc) (q+1))]:=by
   rw[hT,yg hir,List.getElem_map,<-hq];simp only[aH.aj,fF,jo,oD,Nat.add_zero]
  (repeat(with_reducible refine And.intro ?_ ?_;focus first|omega|rfl|assumption|exact⟨_,rfl,rfl⟩|(simp;omega)|(simp;done)))
  refine aB (Fj x.aF[i].gH q (by omega)) ?_;simp -implicitDefEqProofs (disch:=omega) only[go_sem,jo]
  (repeat(with_reducible refine And.intro ?_ ?_;focus first|omega|rfl|assumption|exact⟨_,rfl,rfl⟩|(simp;omega)|(simp;done)))
  refine⟨by rfl,?_⟩;simp -implicitDefEqProofs (disch:=omega) only[go_sem]
  (repeat(with_reducible refine And.intro ?_ ?_;focus first|omega|rfl|assumption|exact⟨_,rfl,rfl⟩|(simp;omega)|(simp;done)))
  refine dZ 4 (by decide) (i+1,_) (by simp only;omega) rfl rfl ?_ rfl ⟨by simp only;omega,p2.step Bn rfl⟩;simp[oo,jQ,V.refs,C.refs,oP]
 ·have hi:i=x.aF.length:=by omega
  rw[p2.done (by omega)]
def lx(l:List au)(n:Nat):List (List D):=eU (l.map au.enc) n
theorem jk{l:List au}:∀r∈l.map au.enc,r.length=2:=fun r hr=>by
 obtain⟨z,_,rfl⟩:=List.mem_map.1 hr;exact z.dh
theorem Ui{cs cs':List C}(hl:cs'.length=cs.length)(h:∀(j:Nat)(x y:C),cs[j]? =some x->cs'[j]? =some y->∀w σ S β v,gJ w σ S β x v->gJ w σ S β y v):Less (.agg cs) (.agg cs'):=by
 rintro w σ S β v ⟨a,ha,hc⟩;refine⟨a,ha,hl.trans hc.1,fun j y hy=> ?_⟩
 have hj:j<cs.length:=by rw[<-hl];exact(List.getElem?_eq_some_iff.1 hy).1
 obtain⟨v,h1,h2,h3⟩:=hc.2 j _ (List.getElem?_eq_getElem hj);exact⟨v,h1,h j _ y (List.getElem?_eq_getElem hj) hy w σ S β v h2,h3⟩
theorem eY(s:List UInt8):(bR s).enc=[.s s,.sl []]:=by rw[au.aj];rfl
theorem jl(l:List au):(eD l).enc=[.s [],.sl (l.map au.enc)]:=by rw[au.aj];rfl
theorem iP{base l:List au}{i:Nat}(hi:i<l.length):(base++l.take i).map au.enc++[[.s l[i].bK,.sl (l[i].aA.map au.enc)]]=(base++l.take (i+1)).map au.enc:=by
 rw[List.take_succ_eq_append_getElem hi,<-List.append_assoc,List.map_append (l₂:=[l[i]]),List.map_cons,List.map_nil,au.aj]
theorem DC(s:List UInt8)(es:List (List D)):Less (.agg [.d (.s s),.bI es]) (.agg [.d (.s s),.d (.sl es)]):=Ui rfl fun j x y hx hy w σ S β v hv=>by
 match j,hx,hy with
 |0,hx,hy=>cases hx;cases hy;exact hv
 |1,hx,hy=>cases hx;cases hy;exact hv.1
 |j+2,hx,hy=>simp at hx
theorem RG(s:List UInt8):bg prog 266 [.c (.d (.s s))] (.agg [.d (.s s),.bI []]):=fun S=>by
 refine zcx [.cell 2 202] func266 ntmps266 ?_;simp -implicitDefEqProofs (disch:=omega) only[go_sem]
theorem bT(s:List UInt8):bg prog 266 [.c (.d (.s s))] (.agg [.d (.s s),.d (.sl [])]):=bg.less (RG s) (DC s [])
theorem lF(es:List (List D))(hes:∀e∈es,e.length=2)(hl:es.length<=1073741824):bg prog 265 [.c (.d (.sl es))] (.agg [.d (.s []),.d (.sl es)]):=fun S=>by
 refine zcx [.cell 2 202] func265 ntmps265 ?_;simp -implicitDefEqProofs (disch:=omega) only[go_sem];exact⟨hes,⟨_,rfl,rfl⟩,(fun y hy=>by cases hy),hl⟩
theorem jT(es:List (List D))(hes:∀e∈es,e.length=2)(hl:es.length<=1073741824)(cK:List Ab.Obj)(Ω:Store):cB prog 265 [.c (.d (.sl es))] (cK::Ω)
 (fun r S'=>r=.agg [.d (.s []),.bS (0,cK.length+1) es]/\S'=(cK++[.box [.d (.s []),.bS (0,cK.length+1) es],.tok 2 es])::Ω):=by
 refine F7 (rs:=[.cell 2 202]) zmx func265 ntmps265 rfl rfl rfl rfl rfl ?_;simp -implicitDefEqProofs (disch:=omega) only[go_sem];exact⟨hes,⟨_,rfl,rfl⟩,(fun y hy=>by cases hy),hl⟩
theorem Gt(xs:List (List UInt8))(hx:xs.length<=1073741824):bg prog 275 [.c (.d (.sl (xs.map encS)))] (.c (.d (.sl ((dn xs).map au.enc)))):=fun S=>by
 refine zcx [.tmp 2] func275 ntmps275 ?_;simp -implicitDefEqProofs (disch:=omega) only[go_sem]
 (repeat(with_reducible refine And.intro ?_ ?_;focus first|omega|rfl|assumption|exact⟨_,rfl,rfl⟩|(simp;omega)|(simp;done)))
 refine iZ 3 2 [] rfl (by simp) ?_
 refine bO (ι:=Nat) zmx rfl [0,3,4] (fun i=>[.c (.d (.sl (xs.map encS))),.c (.bS (0,0) (((dn xs).take i).map au.enc)),.c (.d (.i .i64 i))]) (fun i=>[.tok 2 (((dn xs).take i).map au.enc)]::S)
  (fun i=>i<=xs.length) (fun i=>xs.length-i) 0 rfl rfl (Nat.zero_le _) ?_
 intro i hi
 have hl:(((dn xs).take i).map au.enc).length<=i:=by rw[List.length_map];exact List.length_take_le _ _
 simp -implicitDefEqProofs (disch:=omega) only[go_sem]
 with_reducible refine aD (fun hb=> ?_) (fun hb=> ?_)<;>have h:=hb<;>(try simp only[wf_preprocess] at h)<;>simp -implicitDefEqProofs (disch:=omega) only[go_sem,hb]<;>(repeat(with_reducible refine And.intro ?_ ?_;focus first|omega|rfl|assumption|exact⟨_,rfl,rfl⟩|(simp;omega)|(simp;done)))
 ·have hi':i<xs.length:=by omega
  have hs:=iP (base:=[]) (l:=dn xs) (i:=i) (by rw[kZ];exact hi')
  have hg:(dn xs)[i]'(by rw[kZ];exact hi')=bR xs[i]:=by simp[dn]
  rw[hg] at hs;simp only[List.nil_append,Xy,Xz,List.map_nil] at hs
  (repeat(with_reducible refine And.intro ?_ ?_;focus first|omega|rfl|assumption|exact⟨_,rfl,rfl⟩|(simp;omega)|(simp;done)))
  refine aB (bT xs[i]) ?_;simp -implicitDefEqProofs (disch:=omega) only[go_sem]
  (repeat(with_reducible refine And.intro ?_ ?_;focus first|omega|rfl|assumption|exact⟨_,rfl,rfl⟩|(simp;omega)|(simp;done)))
  rw[hs];exact cZ (i+1) (by omega) rfl rfl (by omega)
 ·have hi':i=(dn xs).length:=by rw[kZ];omega
  rw[hi',List.take_length]
theorem dY(xs:List (List UInt8))(hx:xs.length<=1073741824):bg prog 267 [.c (.d (.sl (xs.map encS)))] (.agg [.d (.s []),.d (.sl ((dn xs).map au.enc))]):=fun S=>by
 refine zcx [.cell 2 202] func267 ntmps267 ?_;simp -implicitDefEqProofs (disch:=omega) only[go_sem];refine aB (Gt xs hx) ?_;simp -implicitDefEqProofs (disch:=omega) only[go_sem]
theorem Lh:∀N:Nat,(∀x:ay,SizeOf.sizeOf x<N->x.sz<=4194304->bg prog 269 [x.v] (.agg [.d (.s (dR x).bK),.d (.sl ((dR x).aA.map au.enc))]))
 |0=>fun x h=>by omega
 |N+1=>by
  have ih:=Lh N;intro x hn hsz;have nu:=ay.jW x;have hts:=KY hsz;have hx:=aio x
  have hall:∀t∈x.fArgs,t.sz<=4194304:=fun t ht=>by
   obtain⟨i,hi,e⟩:=List.getElem_of_mem ht;rw[<-e];exact(Dx hi hsz).1
  intro S;refine zcx [.cell 2 202] func269 ntmps269 ?_;simp -implicitDefEqProofs (disch:=omega) only[go_sem]
  with_reducible refine aD (fun hb=> ?_) (fun hb=> ?_)<;>have h:=hb<;>(try simp only[wf_preprocess] at h)<;>simp -implicitDefEqProofs (disch:=omega) only[go_sem,hb]<;>(repeat(with_reducible refine And.intro ?_ ?_;focus first|omega|rfl|assumption|exact⟨_,rfl,rfl⟩|(simp;omega)|(simp;done)))
  ·rw[if_pos h] at hx;rw[hx]
   (repeat(with_reducible refine And.intro ?_ ?_;focus first|omega|rfl|assumption|exact⟨_,rfl,rfl⟩|(simp;omega)|(simp;done)))
   refine aB (bT _) ?_;simp -implicitDefEqProofs (disch:=omega) only[go_sem];rfl
  rw[if_neg h] at hx
  with_reducible refine aD (fun hb=> ?_) (fun hb=> ?_)<;>have h:=hb<;>(try simp only[wf_preprocess] at h)<;>simp -implicitDefEqProofs (disch:=omega) only[go_sem,hb]<;>(repeat(with_reducible refine And.intro ?_ ?_;focus first|omega|rfl|assumption|exact⟨_,rfl,rfl⟩|(simp;omega)|(simp;done)))
  ·rw[if_pos h] at hx;rw[hx];refine aB (bT _) ?_;simp -implicitDefEqProofs (disch:=omega) only[go_sem];refine aB (bT _) ?_;simp -implicitDefEqProofs (disch:=omega) only[go_sem];refine aB (lF _ (by simp) (by simp)) ?_;simp -implicitDefEqProofs (disch:=omega) only[go_sem];simp only[lI,iy,List.map_cons,List.map_nil,eY,Et]
  rw[if_neg h] at hx
  have amE:x.aV=2->x.fArgs.length=0->dR x=bR x.fName:=fun a b=>by rw[hx,if_pos ⟨a,b⟩]
  have adY:¬(x.aV=2/\x.fArgs.length=0)->dR x=eD ((if x.aV=3 then [bR je] else [])++[bR x.fName]++x.fArgs.map dR):=fun a=>by rw[hx,if_neg a]
  clear hx
  repeat' (first|(with_reducible refine aD (fun hb=> ?_) (fun hb=> ?_)<;>have h:=hb<;>(try simp only[wf_preprocess] at h)<;>simp -implicitDefEqProofs (disch:=omega) only[go_sem,hb]<;>(repeat(with_reducible refine And.intro ?_ ?_;focus first|omega|rfl|assumption|exact⟨_,rfl,rfl⟩|(simp;omega)|(simp;done)))))
  ·rw[amE (by omega) (by omega)];refine aB (bT _) ?_;simp -implicitDefEqProofs (disch:=omega) only[go_sem];rfl
  ·exfalso;omega
  ·have hx:=adY (by omega);rw[if_neg h,List.nil_append] at hx;refine aB (bT _) ?_;simp -implicitDefEqProofs (disch:=omega) only[go_sem]
   (repeat(with_reducible refine And.intro ?_ ?_;focus first|omega|rfl|assumption|exact⟨_,rfl,rfl⟩|(simp;omega)|(simp;done)))
   refine bO (ι:=Nat) zmx rfl [1,2,3,4] (fun i=>[.c (.ptr (0,0) 0),.c (.ptr (0,1) 0),.c (.ptr (0,2) 0),.c (.d (.i .i64 i))])
    (fun i=>[.box [.d (.i .i64 x.aV),.d (.s x.fName),.d (.sl (x.fArgs.map ay.enc))],.box [.d (.s []),.bI []],.box [.d (.s []),.bS (0,3) (([bR x.fName]++(x.fArgs.map dR).take i).map au.enc)],.tok 2 (([bR x.fName]++(x.fArgs.map dR).take i).map au.enc)]::S)
    (fun i=>i<=x.fArgs.length) (fun i=>x.fArgs.length-i) 0 rfl ?_ (Nat.zero_le _) ?_
   ·simp only[List.take_zero,List.append_nil,List.map_cons,List.map_nil,List.cons_append,List.nil_append,eY]<;>(try rfl)
   intro i hi
   have hl:(([bR x.fName]++(x.fArgs.map dR).take i).map au.enc).length<=i+2:=by
    rw[List.length_map,List.length_append];have:=List.length_take_le i (x.fArgs.map dR);simp only[List.length_cons,List.length_nil];omega
   have hs:=fun hi=>iP (base:=[bR x.fName]) (l:=x.fArgs.map dR) (i:=i) hi;have hrw:=jk (l:=[bR x.fName]++(x.fArgs.map dR).take i);generalize hR:([bR x.fName]++(x.fArgs.map dR).take i).map au.enc=R at hl hs hrw;simp -implicitDefEqProofs (disch:=omega) only[go_sem]
   with_reducible refine aD (fun hb=> ?_) (fun hb=> ?_)<;>have h:=hb<;>(try simp only[wf_preprocess] at h)<;>simp -implicitDefEqProofs (disch:=omega) only[go_sem,hb]<;>(repeat(with_reducible refine And.intro ?_ ?_;focus first|omega|rfl|assumption|exact⟨_,rfl,rfl⟩|(simp;omega)|(simp;done)))
   ·have hi':i<x.fArgs.length:=by omega
    have hs':=hs (by rw[List.length_map];exact hi');rw[List.getElem_map] at hs'
    (repeat(with_reducible refine And.intro ?_ ?_;focus first|omega|rfl|assumption|exact⟨_,rfl,rfl⟩|(simp;omega)|(simp;done)))
    refine aB (ih x.fArgs[i] (by have:=List.sizeOf_lt_of_mem (List.getElem_mem hi');omega) (hall _ (List.getElem_mem hi'))) ?_;simp -implicitDefEqProofs (disch:=omega) only[go_sem]
    (repeat(with_reducible refine And.intro ?_ ?_;focus first|omega|rfl|assumption|exact⟨_,rfl,rfl⟩|(simp;omega)|(simp;done)))
    rw[hs'];exact cZ (i+1) (by omega) rfl rfl (by omega)
   ·have hi':i=(x.fArgs.map dR).length:=by rw[List.length_map];omega
    rw[hx,<-hR,hi',List.take_length];simp only[lI,iy,List.cons_append,List.nil_append]
  ·have hx:=adY (by omega);rw[if_pos h] at hx;refine aB (bT _) ?_;simp -implicitDefEqProofs (disch:=omega) only[go_sem]
   (repeat(with_reducible refine And.intro ?_ ?_;focus first|omega|rfl|assumption|exact⟨_,rfl,rfl⟩|(simp;omega)|(simp;done)))
   refine aB (bT _) ?_;simp -implicitDefEqProofs (disch:=omega) only[go_sem]
   (repeat(with_reducible refine And.intro ?_ ?_;focus first|omega|rfl|assumption|exact⟨_,rfl,rfl⟩|(simp;omega)|(simp;done)))
   refine bO (ι:=Nat) zmx rfl [1,2,3,4] (fun i=>[.c (.ptr (0,0) 0),.c (.ptr (0,1) 0),.c (.ptr (0,2) 0),.c (.d (.i .i64 i))])
    (fun i=>[.box [.d (.i .i64 x.aV),.d (.s x.fName),.d (.sl (x.fArgs.map ay.enc))],.box [.d (.s []),.bI []],.box [.d (.s []),.bS (0,3) (([bR je,bR x.fName]++(x.fArgs.map dR).take i).map au.enc)],.tok 2 (([bR je,bR x.fName]++(x.fArgs.map dR).take i).map au.enc)]::S)
    (fun i=>i<=x.fArgs.length) (fun i=>x.fArgs.length-i) 0 rfl ?_ (Nat.zero_le _) ?_
   ·simp only[List.take_zero,List.append_nil,List.map_cons,List.map_nil,List.cons_append,List.nil_append,eY]<;>(try rfl)
   intro i hi
   have hl:(([bR je,bR x.fName]++(x.fArgs.map dR).take i).map au.enc).length<=i+2:=by
    rw[List.length_map,List.length_append];have:=List.length_take_le i (x.fArgs.map dR);simp only[List.length_cons,List.length_nil];omega
   have hs:=fun hi=>iP (base:=[bR je,bR x.fName]) (l:=x.fArgs.map dR) (i:=i) hi;have hrw:=jk (l:=[bR je,bR x.fName]++(x.fArgs.map dR).take i);generalize hR:([bR je,bR x.fName]++(x.fArgs.map dR).take i).map au.enc=R at hl hs hrw;simp -implicitDefEqProofs (disch:=omega) only[go_sem]
   with_reducible refine aD (fun hb=> ?_) (fun hb=> ?_)<;>have h:=hb<;>(try simp only[wf_preprocess] at h)<;>simp -implicitDefEqProofs (disch:=omega) only[go_sem,hb]<;>(repeat(with_reducible refine And.intro ?_ ?_;focus first|omega|rfl|assumption|exact⟨_,rfl,rfl⟩|(simp;omega)|(simp;done)))
   ·have hi':i<x.fArgs.length:=by omega
    have hs':=hs (by rw[List.length_map];exact hi');rw[List.getElem_map] at hs'
    (repeat(with_reducible refine And.intro ?_ ?_;focus first|omega|rfl|assumption|exact⟨_,rfl,rfl⟩|(simp;omega)|(simp;done)))
    refine aB (ih x.fArgs[i] (by have:=List.sizeOf_lt_of_mem (List.getElem_mem hi');omega) (hall _ (List.getElem_mem hi'))) ?_;simp -implicitDefEqProofs (disch:=omega) only[go_sem]
    (repeat(with_reducible refine And.intro ?_ ?_;focus first|omega|rfl|assumption|exact⟨_,rfl,rfl⟩|(simp;omega)|(simp;done)))
    rw[hs'];exact cZ (i+1) (by omega) rfl rfl (by omega)
   ·have hi':i=(x.fArgs.map dR).length:=by rw[List.length_map];omega
    rw[hx,<-hR,hi',List.take_length];simp only[lI,iy,List.cons_append,List.nil_append]
  ·have hx:=adY (by omega);rw[if_neg h,List.nil_append] at hx;refine aB (bT _) ?_;simp -implicitDefEqProofs (disch:=omega) only[go_sem]
   (repeat(with_reducible refine And.intro ?_ ?_;focus first|omega|rfl|assumption|exact⟨_,rfl,rfl⟩|(simp;omega)|(simp;done)))
   refine bO (ι:=Nat) zmx rfl [1,2,3,4] (fun i=>[.c (.ptr (0,0) 0),.c (.ptr (0,1) 0),.c (.ptr (0,2) 0),.c (.d (.i .i64 i))])
    (fun i=>[.box [.d (.i .i64 x.aV),.d (.s x.fName),.d (.sl (x.fArgs.map ay.enc))],.box [.d (.s []),.bI []],.box [.d (.s []),.bS (0,3) (([bR x.fName]++(x.fArgs.map dR).take i).map au.enc)],.tok 2 (([bR x.fName]++(x.fArgs.map dR).take i).map au.enc)]::S)
    (fun i=>i<=x.fArgs.length) (fun i=>x.fArgs.length-i) 0 rfl ?_ (Nat.zero_le _) ?_
   ·simp only[List.take_zero,List.append_nil,List.map_cons,List.map_nil,List.cons_append,List.nil_append,eY]<;>(try rfl)
   intro i hi
   have hl:(([bR x.fName]++(x.fArgs.map dR).take i).map au.enc).length<=i+2:=by
    rw[List.length_map,List.length_append];have:=List.length_take_le i (x.fArgs.map dR);simp only[List.length_cons,List.length_nil];omega
   have hs:=fun hi=>iP (base:=[bR x.fName]) (l:=x.fArgs.map dR) (i:=i) hi;have hrw:=jk (l:=[bR x.fName]++(x.fArgs.map dR).take i);generalize hR:([bR x.fName]++(x.fArgs.map dR).take i).map au.enc=R at hl hs hrw;simp -implicitDefEqProofs (disch:=omega) only[go_sem]
   with_reducible refine aD (fun hb=> ?_) (fun hb=> ?_)<;>have h:=hb<;>(try simp only[wf_preprocess] at h)<;>simp -implicitDefEqProofs (disch:=omega) only[go_sem,hb]<;>(repeat(with_reducible refine And.intro ?_ ?_;focus first|omega|rfl|assumption|exact⟨_,rfl,rfl⟩|(simp;omega)|(simp;done)))
   ·have hi':i<x.fArgs.length:=by omega
    have hs':=hs (by rw[List.length_map];exact hi');rw[List.getElem_map] at hs'
    (repeat(with_reducible refine And.intro ?_ ?_;focus first|omega|rfl|assumption|exact⟨_,rfl,rfl⟩|(simp;omega)|(simp;done)))
    refine aB (ih x.fArgs[i] (by have:=List.sizeOf_lt_of_mem (List.getElem_mem hi');omega) (hall _ (List.getElem_mem hi'))) ?_;simp -implicitDefEqProofs (disch:=omega) only[go_sem]
    (repeat(with_reducible refine And.intro ?_ ?_;focus first|omega|rfl|assumption|exact⟨_,rfl,rfl⟩|(simp;omega)|(simp;done)))
    rw[hs'];exact cZ (i+1) (by omega) rfl rfl (by omega)
   ·have hi':i=(x.fArgs.map dR).length:=by rw[List.length_map];omega
    rw[hx,<-hR,hi',List.take_length];simp only[lI,iy,List.cons_append,List.nil_append]
theorem ku(x:ay)(hsz:x.sz<=4194304):bg prog 269 [x.v] (.agg [.d (.s (dR x).bK),.d (.sl ((dR x).aA.map au.enc))]):=Lh _ x (Nat.lt_succ_self _) hsz
theorem Aa(xs:List ay)(hlen:xs.length<=4194304)(hsz:∀t∈xs,t.sz<=4194304):bg prog 268 [.c (.d (.sl (xs.map ay.enc)))] (.c (.d (.sl ((xs.map dR).map au.enc)))):=fun S=>by
 refine zcx [.tmp 2] func268 ntmps268 ?_;simp -implicitDefEqProofs (disch:=omega) only[go_sem]
 (repeat(with_reducible refine And.intro ?_ ?_;focus first|omega|rfl|assumption|exact⟨_,rfl,rfl⟩|(simp;omega)|(simp;done)))
 refine iZ 3 2 [] rfl (by simp) ?_
 refine bO (ι:=Nat) zmx rfl [0,3,4] (fun i=>[.c (.d (.sl (xs.map ay.enc))),.c (.bS (0,0) (((xs.map dR).take i).map au.enc)),.c (.d (.i .i64 i))]) (fun i=>[.tok 2 (((xs.map dR).take i).map au.enc)]::S)
  (fun i=>i<=xs.length) (fun i=>xs.length-i) 0 rfl rfl (Nat.zero_le _) ?_
 intro i hi
 have hl:(((xs.map dR).take i).map au.enc).length<=i:=by rw[List.length_map];exact List.length_take_le _ _
 simp -implicitDefEqProofs (disch:=omega) only[go_sem]
 with_reducible refine aD (fun hb=> ?_) (fun hb=> ?_)<;>have h:=hb<;>(try simp only[wf_preprocess] at h)<;>simp -implicitDefEqProofs (disch:=omega) only[go_sem,hb]<;>(repeat(with_reducible refine And.intro ?_ ?_;focus first|omega|rfl|assumption|exact⟨_,rfl,rfl⟩|(simp;omega)|(simp;done)))
 ·have hi':i<xs.length:=by omega
  have hs:=iP (base:=[]) (l:=xs.map dR) (i:=i) (by rw[List.length_map];exact hi');rw[List.getElem_map] at hs;simp only[List.nil_append] at hs
  (repeat(with_reducible refine And.intro ?_ ?_;focus first|omega|rfl|assumption|exact⟨_,rfl,rfl⟩|(simp;omega)|(simp;done)))
  refine aB (ku xs[i] (hsz _ (List.getElem_mem hi'))) ?_;simp -implicitDefEqProofs (disch:=omega) only[go_sem]
  (repeat(with_reducible refine And.intro ?_ ?_;focus first|omega|rfl|assumption|exact⟨_,rfl,rfl⟩|(simp;omega)|(simp;done)))
  rw[hs];exact cZ (i+1) (by omega) rfl rfl (by omega)
 ·have hi':i=(xs.map dR).length:=by rw[List.length_map];omega
  rw[hi',List.take_length]
theorem pQ(b:Bool)(x:au)(hsz:x.sz<=67108864):bg prog 271 [.c (.d (.b b)),x.v] (uw b x).v:=by
 have zero:bg prog 271 [.c (.d (.b b)),x.v] (.agg [.d (.s []),.bI []])->bg prog 271 [.c (.d (.b b)),x.v] dz.v:=fun h=>bg.less h (DC [] [])
 cases b with
 |false=>
  refine zero fun S=> ?_;refine zcx [.cell 4 202] func271 ntmps271 ?_;simp -implicitDefEqProofs (disch:=omega) only[go_sem]
 |true=>
  show bg prog 271 [.c (.d (.b true)),x.v] (Bg x).v;unfold Bg
  cases hv:iU x with
  |false=>
   refine zero fun S=> ?_;refine zcx [.cell 4 202] func271 ntmps271 ?_;simp -implicitDefEqProofs (disch:=omega) only[go_sem];refine aB (lU x hsz) ?_;simp -implicitDefEqProofs (disch:=omega) only[go_sem,hv]
  |true=>
   intro S;refine zcx [.cell 4 202] func271 ntmps271 ?_;simp -implicitDefEqProofs (disch:=omega) only[go_sem];refine aB (lU x hsz) ?_;simp -implicitDefEqProofs (disch:=omega) only[go_sem,hv]
theorem aR.bounds{x:aR}(h:x.sz<=4194304):x.fName.length<=4194304/\x.aS.length<=4194304/\x.aF.length<=4194304/\∀s∈x.aS,s.length<=4194304:=by
 simp only[aR.sz,aR.aj,bD,aY,D.sz,List.length_map] at h;refine⟨by omega,by omega,by omega,fun s hs=> ?_⟩;have:=y8 hs;omega
theorem aR.afq{x:aR}{i:Nat}(hi:i<x.aF.length)(h:x.sz<=4194304):x.aF[i].sz<=4194304:=by
 have hx:x.aF[i].sz<=aN (x.aF.map aH.enc):=dx (List.mem_map_of_mem (List.getElem_mem hi));simp only[aR.sz,aR.aj,bD,aY,D.sz,List.length_map] at h;omega
theorem aH.bounds{x:aH}(h:x.sz<=4194304):x.fName.length<=4194304/\x.gH.length<=4194304/\∀t∈x.gH,t.sz<=4194304:=by
 simp only[aH.sz,aH.aj,bD,aY,D.sz,List.length_map] at h;refine⟨by omega,by omega,fun t ht=> ?_⟩;have hx:t.sz<=aN (x.gH.map ay.enc):=dx (List.mem_map_of_mem ht);omega
noncomputable def vg(vars:List (List UInt8))(c:aH):Bool:=dec (c.gH.length<=4)&&mU vars c.gH
noncomputable def ru(d:aR):List (List UInt8):=d.aF.map aH.fName
noncomputable def iQ(d:aR):Bool:=
 validName d.fName&&(dec (d.aS.length<=3)&&(iT d.aS&&(dec (1<=d.aF.length)&&(dec (d.aF.length<=5)&&(d.aF.all (vg d.aS)&&iT (ru d))))))
theorem Bo(d:aR)(hsz:d.sz<=4194304):bg prog 124 [d.v] (.c (.d (.b (iQ d)))):=fun S=>by
 have hb0:=aR.bounds hsz
 have bad:∀i,∀hi:i<d.aF.length,vg d.aS d.aF[i]=false->iQ d=false:=fun i hi h=>by
  have:d.aF.all (vg d.aS)=false:=Bool.eq_false_iff.2 fun hx=>by
   rw[List.all_eq_true.1 hx _ (List.getElem_mem hi)] at h;cases h
  unfold iQ
  rw[this];simp
 refine zcx [.tmp 2] func124 ntmps124 ?_;simp -implicitDefEqProofs (disch:=omega) only[go_sem]
 (repeat(with_reducible refine And.intro ?_ ?_;focus first|omega|rfl|assumption|exact⟨_,rfl,rfl⟩|(simp;omega)|(simp;done)))
 refine iZ 3 1 [] rfl (by simp) ?_
 refine bO (ι:=Nat×List (List UInt8)) zmx rfl [1,3,4] (fun y=>[.c (.ptr (0,0) 0),.c (.bS (0,1) (y.2.map encS)),.c (.d (.i .i64 y.1))]) (fun y=>[.box (d.enc.map .d),.tok 1 (y.2.map encS)]::S)
  (fun y=>y.1<=d.aF.length/\y.2=(ru d).take y.1/\∀j,∀hj:j<d.aF.length,j<y.1->vg d.aS d.aF[j]=true) (fun y=>d.aF.length-y.1) (0,[]) rfl ?_ ⟨Nat.zero_le _,rfl,fun j _ h=>by simp only at h;omega⟩ ?_
 ·simp -implicitDefEqProofs (disch:=omega) only[go_sem]
 rintro⟨i,names⟩ ⟨p1,p2,p3⟩;simp only at p1 p2 p3
 have pl:names.length<=d.aF.length:=by rw[p2];simp[ru];omega
 simp -implicitDefEqProofs (disch:=omega) only[go_sem]
 with_reducible refine aD (fun hb=> ?_) (fun hb=> ?_)<;>have h:=hb<;>(try simp only[wf_preprocess] at h)<;>simp -implicitDefEqProofs (disch:=omega) only[go_sem,hb]<;>(repeat(with_reducible refine And.intro ?_ ?_;focus first|omega|rfl|assumption|exact⟨_,rfl,rfl⟩|(simp;omega)|(simp;done)))
 ·have hi:i<d.aF.length:=by omega
  have hc:=aH.bounds (aR.afq hi hsz)
  (repeat(with_reducible refine And.intro ?_ ?_;focus first|omega|rfl|assumption|exact⟨_,rfl,rfl⟩|(simp;omega)|(simp;done)))
  with_reducible refine aD (fun hb=> ?_) (fun hb=> ?_)<;>have h:=hb<;>(try simp only[wf_preprocess] at h)<;>simp -implicitDefEqProofs (disch:=omega) only[go_sem,hb]<;>(repeat(with_reducible refine And.intro ?_ ?_;focus first|omega|rfl|assumption|exact⟨_,rfl,rfl⟩|(simp;omega)|(simp;done)))
  ·rw[bad i hi (by unfold vg;rw[bM (by omega)];rfl)]
  have h1:=h
  (repeat(with_reducible refine And.intro ?_ ?_;focus first|omega|rfl|assumption|exact⟨_,rfl,rfl⟩|(simp;omega)|(simp;done)))
  refine aB (N9 d.aF[i].gH d.aS (by omega) hc.2.2 (by omega)) ?_;simp -implicitDefEqProofs (disch:=omega) only[go_sem]<;>(repeat(with_reducible refine And.intro ?_ ?_;focus first|omega|rfl|assumption|exact⟨_,rfl,rfl⟩|(simp;omega)|(simp;done)))
  with_reducible refine aD (fun hb=> ?_) (fun hb=> ?_)<;>have h:=hb<;>(try simp only[wf_preprocess] at h)<;>simp -implicitDefEqProofs (disch:=omega) only[go_sem,hb]<;>(repeat(with_reducible refine And.intro ?_ ?_;focus first|omega|rfl|assumption|exact⟨_,rfl,rfl⟩|(simp;omega)|(simp;done)))
  ·rw[bad i hi (by unfold vg;rw[h];simp)]
  have h2:=h
  (repeat(with_reducible refine And.intro ?_ ?_;focus first|omega|rfl|assumption|exact⟨_,rfl,rfl⟩|(simp;omega)|(simp;done)))
  rw[show List.map encS names++[[D.s d.aF[i].fName]]=List.map encS (names++[d.aF[i].fName]) by simp[encS]]
  exact cZ (i+1,names++[d.aF[i].fName]) (by simp only;omega) rfl rfl ⟨by simp only;omega,by simp only;rw[p2,jB (by simpa [ru] using hi)];simp[ru],fun j hj hji=>by
   simp only at hji;by_cases e:j=i
   ·subst e;unfold vg;rw[h2,dH (by omega)];rfl
   ·exact p3 j hj (by omega)⟩
 have hi:i=d.aF.length:=by omega
 have hn:names=ru d:=by rw[p2,List.take_of_length_le (by simp[ru];omega)]
 have hall:d.aF.all (vg d.aS)=true:=List.all_eq_true.2 fun c hc=>by
  obtain⟨j,hj,e⟩:=List.getElem_of_mem hc;rw[<-e];exact p3 j hj (by omega)
 have hnl:∀s∈names,s.length<=4194304:=fun s hs=>by
  rw[hn] at hs;obtain⟨c,hc,e⟩:=List.mem_map.1 hs;obtain⟨j,hj,e'⟩:=List.getElem_of_mem hc;rw[<-e,<-e'];exact(aH.bounds (aR.afq hj hsz)).1
 have hlen:names.length=d.aF.length:=by rw[hn];simp[ru]
 refine aB (gU d.fName (by omega)) ?_;simp -implicitDefEqProofs (disch:=omega) only[go_sem]<;>(repeat(with_reducible refine And.intro ?_ ?_;focus first|omega|rfl|assumption|exact⟨_,rfl,rfl⟩|(simp;omega)|(simp;done)))
 with_reducible refine aD (fun hb=> ?_) (fun hb=> ?_)<;>have h:=hb<;>(try simp only[wf_preprocess] at h)<;>simp -implicitDefEqProofs (disch:=omega) only[go_sem,hb]<;>(repeat(with_reducible refine And.intro ?_ ?_;focus first|omega|rfl|assumption|exact⟨_,rfl,rfl⟩|(simp;omega)|(simp;done)))
 ·have h1:=h;refine aB (kG d.aS 3 (by omega) hb0.2.2.2) ?_;simp -implicitDefEqProofs (disch:=omega) only[go_sem]<;>(repeat(with_reducible refine And.intro ?_ ?_;focus first|omega|rfl|assumption|exact⟨_,rfl,rfl⟩|(simp;omega)|(simp;done)))
  with_reducible refine aD (fun hb=> ?_) (fun hb=> ?_)<;>have h:=hb<;>(try simp only[wf_preprocess] at h)<;>simp -implicitDefEqProofs (disch:=omega) only[go_sem,hb]<;>(repeat(with_reducible refine And.intro ?_ ?_;focus first|omega|rfl|assumption|exact⟨_,rfl,rfl⟩|(simp;omega)|(simp;done)))
  ·have h2:=h
   with_reducible refine aD (fun hb=> ?_) (fun hb=> ?_)<;>have h:=hb<;>(try simp only[wf_preprocess] at h)<;>simp -implicitDefEqProofs (disch:=omega) only[go_sem,hb]<;>(repeat(with_reducible refine And.intro ?_ ?_;focus first|omega|rfl|assumption|exact⟨_,rfl,rfl⟩|(simp;omega)|(simp;done)))
   ·have h3:=h;refine aB (kG names 5 (by omega) hnl) ?_;simp -implicitDefEqProofs (disch:=omega) only[go_sem]<;>(repeat(with_reducible refine And.intro ?_ ?_;focus first|omega|rfl|assumption|exact⟨_,rfl,rfl⟩|(simp;omega)|(simp;done)));refine bN ?_;rw[Bool.and_eq_true] at h2;have h4:=gP h2.1;unfold iQ;rw[h1,h2.2,hall,<-hn,dH (show d.aS.length<=3 by omega),dH (show 1<=d.aF.length by omega),hlen];simp only[Bool.true_and];congr 1;exact kX ⟨fun h=>by omega,fun h=>by omega⟩
   ·refine bN ?_;unfold iQ
    rw[bM (show ¬1<=d.aF.length by omega)];simp
  ·refine bN ?_;unfold iQ
   have h2:(dec (d.aS.length<=3)&&iT d.aS)=false:=by
    rw[<-h];congr 1;exact kX ⟨fun h=>by omega,fun h=>by omega⟩
   rw[<-Bool.and_assoc (dec (d.aS.length<=3)),h2];simp
 ·exact bN (by unfold iQ;rw[h];rfl)
def vC:List UInt8:=[100,97,116,97]
def IV(c:aH):au:=eD ([bR c.fName]++c.gH.map dR)
def baseD(d:aR):List au:=[bR vC,bR d.fName,eD (dn d.aS)]
def IW(d:aR):au:=eD (baseD d++d.aF.map IV)
noncomputable def RH(d:aR):au:=uw (iQ d) (IW d)
theorem agM{d:aR}(h:d.sz<=1048576):(RH d).sz<=1048576:=Nat.le_trans (Ib _ _) (by decide)
def zJ:List aH->Nat
 |[]=>0
 |x::xs=>x.sz+zJ xs
theorem JD:∀l,aN (l.map aH.enc)=zJ l
 |[]=>rfl
 |x::xs=>by rw[List.map_cons,aN,zJ,JD xs];rfl
theorem wo(x:aH):x.sz=x.fName.length+(x.gH.length+oz x.gH):=by
 rw[<-x9];simp only[aH.sz,aH.aj,bD,D.sz,List.length_map];omega
theorem pR(x:aR):x.sz=x.fName.length+(x.aS.length+(x.aS.map List.length).sum)+(x.aF.length+zJ x.aF):=by
 rw[<-JD,<-eB];simp only[aR.sz,aR.aj,bD,D.sz,List.length_map];omega
theorem aiF(c:aH):(IV c).sz<=1+16*c.sz:=by
 have:=K5 c.gH;rw[IV,jg,jY,List.length_append,List.length_map,wo];simp[dK,jf];omega
theorem Vf:∀l:List aH,dK (l.map IV)<=l.length+16*zJ l
 |[]=>by simp[dK]
 |c::l=>by
  have h1:=aiF c;have h2:=Vf l;rw[List.map_cons,dK,zJ,List.length_cons];omega
theorem aiG(d:aR):(IW d).sz<=7+16*d.sz:=by
 have:=Vf d.aF;rw[IW,jg,jY,List.length_append,List.length_map,pR];simp[baseD,dK,jf,jg,kZ,pJ,vC];omega
theorem vL{vars:List (List UInt8)}{ts:List ay}(h:mU vars ts=true):kD ts=true:=CP.2 fun t ht=>by
 have:=List.all_eq_true.1 h t ht;unfold iK at this;rw[Bool.and_eq_true] at this;exact wT this.1
theorem M9{d:aR}(h:iQ d=true):∀c∈d.aF,kD c.gH=true:=fun c hc=>by
 have h1:d.aF.all (vg d.aS)=true:=by
  unfold iQ at h;simp only[Bool.and_eq_true] at h;simp_all
 have h2:=List.all_eq_true.1 h1 c hc;unfold vg at h2;rw[Bool.and_eq_true] at h2;exact vL h2.2
theorem aaH{l:List ay}{t:ay}(h:t∈l):t.sz<=oz l:=by
 rw[<-x9];exact dx (List.mem_map_of_mem h)
theorem XO{l:List aH}{t:aH}(h:t∈l):t.sz<=zJ l:=by
 rw[<-JD];exact dx (List.mem_map_of_mem h)
theorem Uj(d:aR)(hsz:d.sz<=1048576):bg prog 255 [d.v] (RH d).v:=fun S=>by
 have hz:=aiG d;have hdz:=pR d;obtain⟨T,hT⟩:∃T:Nat->List (List D),T=fun i=>(baseD d++(d.aF.map IV).take i).map au.enc:=⟨_,rfl⟩
 have hT0:T 0=[[.s vC,.sl []],[.s d.fName,.sl []],[.s [],.sl ((dn d.aS).map au.enc)]]:=by
  rw[hT];simp only[List.take_zero,List.append_nil,baseD,List.map_cons,List.map_nil,eY,jl]
 have iG:∀i,(T i).length<=i+3:=fun i=>by
  rw[hT];simp only[List.length_map,List.length_append];have:=List.length_take_le i (d.aF.map IV);simp[baseD];omega
 have hTs:∀i (hi:i<d.aF.length),T i++[[.s [],.sl (([bR d.aF[i].fName]++d.aF[i].gH.map dR).map au.enc)]]=T (i+1):=fun i hi=>by
  have:=iP (base:=baseD d) (l:=d.aF.map IV) (i:=i) (by rw[List.length_map];exact hi);rw[List.getElem_map] at this;rw[hT];exact this
 have hTr:∀i,∀r∈T i,r.length=2:=fun i=>by rw[hT];exact jk
 have hTe:T d.aF.length=(IW d).aA.map au.enc:=by
  rw[hT];simp only
  rw[List.take_of_length_le (by simp)];rfl
 clear hT;refine zcx [.cell 2 202] func255 ntmps255 ?_;simp -implicitDefEqProofs (disch:=omega) only[go_sem];refine aB (bT _) ?_;simp -implicitDefEqProofs (disch:=omega) only[go_sem];refine aB (bT _) ?_;simp -implicitDefEqProofs (disch:=omega) only[go_sem];refine aB (dY d.aS (by omega)) ?_;simp -implicitDefEqProofs (disch:=omega) only[go_sem];have hE:=fun cK Ω=>jT (T 0) (hTr 0) (by have:=iG 0;omega) cK Ω;simp only[hT0] at hE;refine bZ [false] rfl (hE _ _) ?_;simp -implicitDefEqProofs (disch:=omega) only[go_sem]
 refine bO (ι:=Nat) zmx rfl [1,2,3,4] (fun i=>[.c (.ptr (0,0) 0),.c (.ptr (0,1) 0),.c (.ptr (0,4) 0),.c (.d (.i .i64 i))])
  (fun i=>[.box [.d (.s d.fName),.d (.sl (d.aS.map encS)),.d (.sl (d.aF.map aH.enc))],.box [.d (.s []),.bI []],.box [.d (.s []),.bS (0,3) (T 0)],.tok 2 (T i),.box [.d (.s []),.bS (0,3) (T i)]]::S)
  (fun i=>i<=d.aF.length) (fun i=>d.aF.length-i) 0 rfl (by simp only[hT0]<;>(try rfl)) (Nat.zero_le _) ?_
 intro i hi;have hl:=iG i;simp -implicitDefEqProofs (disch:=omega) only[go_sem]
 with_reducible refine aD (fun hb=> ?_) (fun hb=> ?_)<;>have h:=hb<;>(try simp only[wf_preprocess] at h)<;>simp -implicitDefEqProofs (disch:=omega) only[go_sem,hb]<;>(repeat(with_reducible refine And.intro ?_ ?_;focus first|omega|rfl|assumption|exact⟨_,rfl,rfl⟩|(simp;omega)|(simp;done)))
 ·have hi':i<d.aF.length:=by omega
  have hm:=List.getElem_mem hi';have hcz:=XO hm;have hce:=wo d.aF[i];have hs:=hTs i hi'
  (repeat(with_reducible refine And.intro ?_ ?_;focus first|omega|rfl|assumption|exact⟨_,rfl,rfl⟩|(simp;omega)|(simp;done)))
  refine aB (bT _) ?_;simp -implicitDefEqProofs (disch:=omega) only[go_sem]
  (repeat(with_reducible refine And.intro ?_ ?_;focus first|omega|rfl|assumption|exact⟨_,rfl,rfl⟩|(simp;omega)|(simp;done)))
  refine aB (Aa d.aF[i].gH (by omega) (fun t ht=>by have:=aaH ht;omega)) ?_;simp -implicitDefEqProofs (disch:=omega) only[go_sem];have hr:=jk (l:=d.aF[i].gH.map dR)
  have hl2:((d.aF[i].gH.map dR).map au.enc).length=d.aF[i].gH.length:=by rw[List.length_map,List.length_map]
  (repeat(with_reducible refine And.intro ?_ ?_;focus first|omega|rfl|assumption|exact⟨_,rfl,rfl⟩|(simp;omega)|(simp;done)))
  simp only[List.cons_append,List.nil_append,List.map_cons,eY] at hs;rw[hs];exact dZ 5 (by decide) (i+1) (by omega) rfl rfl rfl rfl (by omega)
 ·have hi':i=d.aF.length:=by omega
  subst hi';rw[hTe];refine aB (Bo d (by omega)) ?_;simp -implicitDefEqProofs (disch:=omega) only[go_sem];refine aB (pQ (iQ d) (IW d) (by omega)) ?_;simp -implicitDefEqProofs (disch:=omega) only[go_sem];rfl
end Go.Ab