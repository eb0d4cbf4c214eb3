/-
  SEVERAL TEXTS IN ONE (merged by program): contracts and models, each with its own heading.
-/
import Derived.Test.YtfhpfkaeldgcmaaGreatPartHdbJ
open Go.Proofs Go.Proofs.Tryz
set_option linter.unusedSimpArgs false
set_option linter.unusedVariables false
set_option maxRecDepth 4000
namespace Go.Ab
section
variable {P:Program} {N:Nat} {S:Store} {s:St} {tm:List (Nat×V)}
def oK(N:Nat):Code->Bool
 | .seq x y=>oK N x&&oK N y
 | .region _ R true=>IL R N
 | .cond _ x y=>oK N x&&oK N y
 | .block _ c=>oK N c
 | .loop _=>true
 |c=>codeOk N c
theorem pz(fq:P.follows .mixedOrders=true):∀(c:Code)(Q:Exit->St->Prop)(s:St),oK N c=true->mI P N c Q s->AW P N c Q s
 | .seq x y,Q,s,ok,h=>by
   simp only[oK,Bool.and_eq_true] at ok;refine PI (AW.mono (pz fq x _ s ok.1 h) fun e s' h'=> ?_)
   cases e with
   |normal=>exact pz fq y Q s' ok.2 h'
   |_=>exact h'
 | .region _ R true,Q,s,ok,h=>R5 fq ok h
 | .region id R false,Q,s,ok,h=>jy fq _ Q s ok h
 | .cond c x y,Q,s,ok,h=>by
   simp only[oK,Bool.and_eq_true] at ok;simp only[mI,xZ] at h;split at h
   ·rename_i b hb;exact LG hb (fun e=>pz fq x Q s ok.1 (h.1 e)) (fun e=>pz fq y Q s ok.2 (h.2 e))
   ·exact h.elim
 | .block id c,Q,s,ok,h=>II (pz fq c _ s ok h)
 | .exit id,Q,s,ok,h=>jy fq _ Q s ok h
 | .ret,Q,s,ok,h=>jy fq _ Q s ok h
 | .skip,Q,s,ok,h=>jy fq _ Q s ok h
 | .loop c,Q,s,ok,h=>by
   rw[mI,L6] at h;exact h
 | .rangeFunc _ _ _ _,Q,s,ok,h=>h.elim
 | .scope _,Q,s,ok,h=>h.elim
 | .label _,Q,s,ok,h=>h.elim
 | .goto _,Q,s,ok,h=>h.elim
 | .refuse _,Q,s,ok,h=>h.elim
theorem AL{ι:Type}{c:Code}{Q:Exit->St->Prop}(fq:P.follows .mixedOrders=true)(hok:oK N c=true)(ts:List Nat)(f:ι->List V)(g:ι->Store)(p:ι->Prop)(μ:ι->Nat)(i0:ι)
 (h1:ts.map (look s.tm)=f i0)(h2:s.st=g i0)(h3:p i0)
 (round:∀i,p i->mI P N c (jJ (Inv N ts f g p μ i) Q) ⟨jC ts (f i),g i⟩):AW P N (.loop c) Q s:=by
 refine LH (ι:=ι) (fun i s=>∃s0,gK N s s0/\ts.map (look s0.tm)=f i/\s0.st=g i/\p i) μ i0 ⟨s,gK.refl _ _,h1,h2,h3⟩ fun i s hI=> ?_;obtain⟨s0,hg,h1,h2,h3⟩:=hI;refine lU ?_ hg
 have hr:=(pz fq c _ _ hok (round i h3)).mono (Q':=jJ (fun s'=>∃j,μ j<μ i/\∃s0,gK N s' s0/\ts.map (look s0.tm)=f j/\s0.st=g j/\p j) Q) fun e s' h=>by
  cases e with
  |normal=>
   obtain⟨j,s0,a1,a2,a3,a4,a5⟩:=h;exact⟨j,a1,s0,a2,a3,a4,a5⟩
  |_=>exact h
 obtain⟨tm,st⟩:=s0;simp only at h1 h2;subst h2;rw[<-h1] at hr;exact Vp hr fun t=>uX _ ts t
theorem Nv{f:FuncId}{fn:Func}{c:Code}{args:List V}{post:V->Store->Prop}{rs:List ResultVar}(fq:P.follows .mixedOrders=true)(hf:P.funcs[f]? =some fn)(hN:fn.ntmps=N)
 (hb:fn.body=some c) (hn:(fn.name== "runtime.NumGoroutine")=false) (hr:fn.results.toList=rs) (hl:Nat.ble args.length N=true) (hok:oK N c=true)
 (h:mI P N c (IW P rs post) ⟨kE (args.map (V.up 1)) 0,[]::S⟩):cB P f args S post:=by
 subst hN;subst hr;exact pY hf hb hn (Nat.le_of_ble_eq_true hl) (Ak tq (pz fq c _ _ hok h))
theorem D7(n:Nat){f:FuncId}{fn:Func}{c:Code}{args:List V}{post:V->Store->Prop}{rs:List ResultVar}(fq:P.follows .mixedOrders=true)(hf:P.funcs[f]? =some fn)(hN:fn.ntmps=N)
 (hb:fn.body=some c) (hn:(fn.name== "runtime.NumGoroutine")=false) (hr:fn.results.toList=rs) (hl:Nat.ble args.length N=true) (hok:oK N c=true)
 (h:mI P N c (WC P n rs post) ⟨kE (args.map (V.up 1)) 0,[.seed n]::S⟩):cB P f args S post:=by
 subst hN;subst hr;exact pY hf hb hn (Nat.le_of_ble_eq_true hl) (Ua n (Ak (FR n) (pz fq c _ _ hok h)))
end
section
variable {P:Program} {N:Nat} {S:Store}
end
def ahK(n:Nat)(out:List UInt8):List UInt8:=if h:n=0 then out else ahK (n/10) (UInt8.ofNat (48+n % 10)::out)
termination_by n
decreasing_by omega
def ajO(k:Int):List UInt8:=if k<=0 then [109,48] else 109::ahK k.toNat []
mutual
def KL:D->Nat
 | .sl es=>D8 es
 | .b _=>1
 | .i _ _=>1
 | .s _=>1
 | .o _=>0
 | .ol _ _=>0
def Ul:List D->Nat
 |[]=>0
 |d::ds=>KL d+Ul ds
def D8:List (List D)->Nat
 |[]=>0
 |r::rs=>Ul r+D8 rs
end
mutual
def mkD:D->Int->D
 | .sl es,k=>.sl (WO es k)
 | .b _,k=>.b (decide (k.tmod 3=0))
 | .i kd _,k=>.i kd k
 | .s _,k=>.s (ajO k)
 | .o v,_=>.o v
 | .ol n es,_=>.ol n es
def mkR:List D->Int->List D
 |[],_=>[]
 |d::ds,k=>mkD d k::mkR ds (k+KL d)
def WO:List (List D)->Int->List (List D)
 |[],_=>[]
 |r::rs,k=>mkR r k::WO rs (k+Ul r)
end
mutual
def vH:D->Bool
 | .sl es=>ku es
 | .b _=>true
 | .i _ _=>true
 | .s _=>true
 | .o _=>true
 | .ol _ _=>true
def jT:List D->Bool
 |[]=>true
 |d::ds=>vH d&&jT ds
def ku:List (List D)->Bool
 |[]=>true
 |r::rs=>decide (r.length<=32)&&jT r&&ku rs
end
mutual
theorem ajP:∀d:D,vH d=true->KL d<=32*d.sz+1
 | .sl es,h=>by
   have:=ZU es (by simpa [vH] using h);simp only[KL,D.sz];omega
 | .b _,_=>by simp[KL]
 | .i _ _,_=>by simp[KL]
 | .s _,_=>by simp[KL]
 | .o _,_=>by simp[KL]
 | .ol _ _,_=>by simp[KL]
theorem ZV:∀r:List D,jT r=true->Ul r<=32*bF r+r.length
 |[],_=>by simp[Ul]
 |d::ds,h=>by
  rw[jT,Bool.and_eq_true] at h;have h1:=ajP d h.1;have h2:=ZV ds h.2;simp only[Ul,bF,List.length_cons];omega
theorem ZU:∀rs:List (List D),ku rs=true->D8 rs<=32*(rs.length+aI rs)
 |[],_=>by simp[D8]
 |r::rs,h=>by
  rw[ku,Bool.and_eq_true,Bool.and_eq_true,decide_eq_true_eq] at h;have h1:=ZV r h.1.2;have h2:=ZU rs h.2;simp only[D8,aI,List.length_cons];omega
end
theorem iq:∀a b,jT (a++b)=(jT a&&jT b)
 |[],b=>by simp[jT]
 |d::ds,b=>by rw[List.cons_append,jT,jT,iq ds b,Bool.and_assoc]
theorem kK{α:Type}{f:α->List D}:∀{xs:List α},(∀x∈xs,jT (f x)=true/\(f x).length<=32)->ku (xs.map f)=true
 |[],_=>rfl
 |x::xs,h=>by
  rw[List.map_cons,ku,(h x (by simp)).1,kK fun y hy=>h y (by simp[hy]),decide_eq_true (h x (by simp)).2];rfl
abbrev amV(P:Program)(f:FuncId)(es:List (List D)):Prop:=∀(k:Int)(l j r:Nat)(p:List (Nat×Nat))(S:Store)(rs:List (List (List D))),bg S (l,j)=some (.xf rs)->atR rs r p=some es->0<=k/\k+D8 es<=4611686018427387904->
 cB P f [.c (.xp (l,j) r p),.c (.d (.i .i64 k))] S (fun res S'=>res=.c (.d (.i .i64 (k+D8 es)))/\S'=aX S (l,j) (.xf (EW rs r p (WO es k))))
abbrev amW(P:Program)(f:FuncId)(es:List (List D)):Prop:=∀(k:Int)(l j r:Nat)(p:List (Nat×Nat))(S:Store)(rs:List (List (List D))),bg S (l,j)=some (.xf rs)->atR rs r p=some (WO es k)->0<=k/\k+D8 es<=4611686018427387904->
 cB P f [.c (.xp (l,j) r p),.c (.d (.i .i64 k))] S (fun res S'=>res=.c (.d (.i .i64 (k+D8 es)))/\S'=S)
section
variable {P:Program} {N:Nat} {c:Code} {Q:Exit->St->Prop} {s:St} {S:Store} {l j r n:Nat} {p:List (Nat×Nat)} {rs:List (List (List D))} {rows:List (List D)} {k:Int}
abbrev amX(l j r:Nat)(p:List (Nat×Nat))(k:Int)(i:Nat):List V:=[.c (.xp (1+l,j) r p),.c (.d (.i .i64 k)),.c (.d (.i .i64 i))]
end
theorem xG:∀{rows:List (List D)}{n i:Nat}(hi:i<rows.length),(eu rows n)[i]? =some (fV rows[i] (n+gQ (rows.take i)))
 |r::rows,n,0,_=>by simp[eu,gQ]
 |r::rows,n,i+1,hi=>by
  have:=xG (rows:=rows) (n:=n+uZ r) (i:=i) (by simpa using hi);rw[eu,List.getElem?_cons_succ,this,List.getElem_cons_succ,List.take_succ_cons,gQ,Nat.add_assoc]
theorem I7:∀row:List D,(row.map C.d).mapM Jz=some row
 |[]=>rfl
 |d::row=>by
  have:=I7 row;rw[List.map_cons,List.mapM_cons,this];rfl
theorem vI(xs:List (List UInt8)):jG (xs.map encS)=true:=kJ fun _ _=>rfl
theorem vJ(xs:List (List UInt8)):ku (xs.map encS)=true:=kK fun _ _=>⟨rfl,by simp[encS]⟩
theorem D9:∀(xs:List (List UInt8))(n:Nat),eu (xs.map encS) n=xs.map encS
 |[],_=>rfl
 |x::xs,n=>by rw[List.map_cons,eu,D9 xs];rfl
mutual
theorem ay.gu:∀x:ay,jq x.enc=true/\jT x.enc=true
 | .mk a0 a1 a2=>by simp only[ay.enc,jq,oG,jT,vH,ig,iq,Bool.and_true,Bool.true_and,Bool.and_self,and_self,and_true,true_and,(ay.oo a2).1,(ay.oo a2).2]
theorem ay.oo:∀xs:List ay,jG (ay.encs xs)=true/\ku (ay.encs xs)=true
 |[]=>⟨rfl,rfl⟩
 |x::xs=>by
  have h:decide ((ay.enc x).length<=32)=true:=by rw[ay.cZ];rfl
  simp only[ay.encs,jG,ku,h,(ay.gu x).1,(ay.gu x).2,(ay.oo xs).1,(ay.oo xs).2,Bool.and_self,and_self]
end
theorem ay.iM(xs:List ay):jG (xs.map ay.enc)=true/\ku (xs.map ay.enc)=true:=by rw[<-ay.jL];exact ay.oo xs
theorem dW.gu(x:dW):jq x.enc=true/\jT x.enc=true:=by
 rw[dW.aj];simp only[List.cons_append,List.nil_append,jq,oG,jT,vH,ig,iq,Bool.and_true,Bool.true_and,Bool.and_self,and_self,and_true,true_and,(ay.gu x.fType).1,(ay.gu x.fType).2]
theorem dW.iM(xs:List dW):jG (xs.map dW.enc)=true/\ku (xs.map dW.enc)=true:=⟨kJ fun x _=>x.gu.1,kK fun x _=>⟨x.gu.2,by rw[dW.cZ];decide⟩⟩
theorem aM.gu(x:aM):jq x.enc=true/\jT x.enc=true:=by
 rw[aM.aj];simp only[List.cons_append,List.nil_append,jq,oG,jT,vH,ig,iq,Bool.and_true,Bool.true_and,Bool.and_self,and_self,and_true,true_and,(ay.gu x.fType).1,(ay.gu x.fType).2]
theorem aM.iM(xs:List aM):jG (xs.map aM.enc)=true/\ku (xs.map aM.enc)=true:=⟨kJ fun x _=>x.gu.1,kK fun x _=>⟨x.gu.2,by rw[aM.cZ];decide⟩⟩
mutual
theorem aC.gu:∀x:aC,jq x.enc=true/\jT x.enc=true
 | .mk a0 a1 a2 a3 a4 a5 a6=>by simp only[aC.enc,jq,oG,jT,vH,ig,iq,Bool.and_true,Bool.true_and,Bool.and_self,and_self,and_true,true_and,(ay.gu a4).1,(ay.gu a4).2,(aC.oo a5).1,(aC.oo a5).2,(aZ.oo a6).1,(aZ.oo a6).2]
theorem aC.oo:∀xs:List aC,jG (aC.encs xs)=true/\ku (aC.encs xs)=true
 |[]=>⟨rfl,rfl⟩
 |x::xs=>by
  have h:decide ((aC.enc x).length<=32)=true:=by rw[aC.cZ];rfl
  simp only[aC.encs,jG,ku,h,(aC.gu x).1,(aC.gu x).2,(aC.oo xs).1,(aC.oo xs).2,Bool.and_self,and_self]
theorem aZ.gu:∀x:aZ,jq x.enc=true/\jT x.enc=true
 | .mk a0 a1 a2=>by simp only[aZ.enc,jq,oG,jT,vH,ig,iq,Bool.and_true,Bool.true_and,Bool.and_self,and_self,and_true,true_and,vI a1,vJ a1,(aC.gu a2).1,(aC.gu a2).2]
theorem aZ.oo:∀xs:List aZ,jG (aZ.encs xs)=true/\ku (aZ.encs xs)=true
 |[]=>⟨rfl,rfl⟩
 |x::xs=>by
  have h:decide ((aZ.enc x).length<=32)=true:=by rw[aZ.cZ];rfl
  simp only[aZ.encs,jG,ku,h,(aZ.gu x).1,(aZ.gu x).2,(aZ.oo xs).1,(aZ.oo xs).2,Bool.and_self,and_self]
end
theorem aC.iM(xs:List aC):jG (xs.map aC.enc)=true/\ku (xs.map aC.enc)=true:=by rw[<-aC.jL];exact aC.oo xs
theorem aZ.iM(xs:List aZ):jG (xs.map aZ.enc)=true/\ku (xs.map aZ.enc)=true:=by rw[<-aZ.jL];exact aZ.oo xs
mutual
theorem au.gu:∀x:au,jq x.enc=true/\jT x.enc=true
 | .mk a0 a1=>by simp only[au.enc,jq,oG,jT,vH,ig,iq,Bool.and_true,Bool.true_and,Bool.and_self,and_self,and_true,true_and,(au.oo a1).1,(au.oo a1).2]
theorem au.oo:∀xs:List au,jG (au.encs xs)=true/\ku (au.encs xs)=true
 |[]=>⟨rfl,rfl⟩
 |x::xs=>by
  have h:decide ((au.enc x).length<=32)=true:=by rw[au.cZ];rfl
  simp only[au.encs,jG,ku,h,(au.gu x).1,(au.gu x).2,(au.oo xs).1,(au.oo xs).2,Bool.and_self,and_self]
end
theorem au.iM(xs:List au):jG (xs.map au.enc)=true/\ku (xs.map au.enc)=true:=by rw[<-au.jL];exact au.oo xs
theorem aK.gu(x:aK):jq x.enc=true/\jT x.enc=true:=by
 rw[aK.aj];simp only[List.cons_append,List.nil_append,jq,oG,jT,vH,ig,iq,Bool.and_true,Bool.true_and,Bool.and_self,and_self,and_true,true_and,(ay.iM x.bS).1,(ay.iM x.bS).2,(ay.gu x.dB).1,(ay.gu x.dB).2,vI x.aO,vJ x.aO,(aC.gu x.fBody).1,(aC.gu x.fBody).2]
theorem aK.iM(xs:List aK):jG (xs.map aK.enc)=true/\ku (xs.map aK.enc)=true:=⟨kJ fun x _=>x.gu.1,kK fun x _=>⟨x.gu.2,by rw[aK.cZ];decide⟩⟩
theorem bG.gu(x:bG):jq x.enc=true/\jT x.enc=true:=by
 rw[bG.aj];simp only[List.cons_append,List.nil_append,jq,oG,jT,vH,ig,iq,Bool.and_true,Bool.true_and,Bool.and_self,and_self,and_true,true_and,vI x.dJ,vJ x.dJ,(aK.iM x.aS).1,(aK.iM x.aS).2]
theorem bG.iM(xs:List bG):jG (xs.map bG.enc)=true/\ku (xs.map bG.enc)=true:=⟨kJ fun x _=>x.gu.1,kK fun x _=>⟨x.gu.2,by rw[bG.cZ];decide⟩⟩
theorem aJ.gu(x:aJ):jq x.enc=true/\jT x.enc=true:=by
 rw[aJ.aj];simp only[List.cons_append,List.nil_append,jq,oG,jT,vH,ig,iq,Bool.and_true,Bool.true_and,Bool.and_self,and_self,and_true,true_and,(ay.iM x.iw).1,(ay.iM x.iw).2]
theorem aJ.iM(xs:List aJ):jG (xs.map aJ.enc)=true/\ku (xs.map aJ.enc)=true:=⟨kJ fun x _=>x.gu.1,kK fun x _=>⟨x.gu.2,by rw[aJ.cZ];decide⟩⟩
theorem bB.gu(x:bB):jq x.enc=true/\jT x.enc=true:=by
 rw[bB.aj];simp only[List.cons_append,List.nil_append,jq,oG,jT,vH,ig,iq,Bool.and_true,Bool.true_and,Bool.and_self,and_self,and_true,true_and,vI x.aO,vJ x.aO,(aJ.iM x.aW).1,(aJ.iM x.aW).2]
theorem bB.iM(xs:List bB):jG (xs.map bB.enc)=true/\ku (xs.map bB.enc)=true:=⟨kJ fun x _=>x.gu.1,kK fun x _=>⟨x.gu.2,by rw[bB.cZ];decide⟩⟩
theorem aN.gu(x:aN):jq x.enc=true/\jT x.enc=true:=by
 rw[aN.aj];simp only[List.cons_append,List.nil_append,jq,oG,jT,vH,ig,iq,Bool.and_true,Bool.true_and,Bool.and_self,and_self,and_true,true_and,vI x.aO,vJ x.aO,(aC.gu x.fBody).1,(aC.gu x.fBody).2]
theorem aN.iM(xs:List aN):jG (xs.map aN.enc)=true/\ku (xs.map aN.enc)=true:=⟨kJ fun x _=>x.gu.1,kK fun x _=>⟨x.gu.2,by rw[aN.cZ];decide⟩⟩
theorem aH.gu(x:aH):jq x.enc=true/\jT x.enc=true:=by
 rw[aH.aj];simp only[List.cons_append,List.nil_append,jq,oG,jT,vH,ig,iq,Bool.and_true,Bool.true_and,Bool.and_self,and_self,and_true,true_and,vI x.aO,vJ x.aO,(ay.gu x.dA).1,(ay.gu x.dA).2,(aM.iM x.dO).1,(aM.iM x.dO).2,(ay.gu x.bV).1,(ay.gu x.bV).2,(aN.iM x.aQ).1,(aN.iM x.aQ).2]
theorem aH.iM(xs:List aH):jG (xs.map aH.enc)=true/\ku (xs.map aH.enc)=true:=⟨kJ fun x _=>x.gu.1,kK fun x _=>⟨x.gu.2,by rw[aH.cZ];decide⟩⟩
theorem dD.gu(x:dD):jq x.enc=true/\jT x.enc=true:=by
 rw[dD.aj];simp only[List.cons_append,List.nil_append,jq,oG,jT,vH,ig,iq,Bool.and_true,Bool.true_and,Bool.and_self,and_self,and_true,true_and,(ay.gu x.fType).1,(ay.gu x.fType).2]
theorem dD.iM(xs:List dD):jG (xs.map dD.enc)=true/\ku (xs.map dD.enc)=true:=⟨kJ fun x _=>x.gu.1,kK fun x _=>⟨x.gu.2,by rw[dD.cZ];decide⟩⟩
theorem bA.gu(x:bA):jq x.enc=true/\jT x.enc=true:=by
 rw[bA.aj];simp only[List.cons_append,List.nil_append,jq,oG,jT,vH,ig,iq,Bool.and_true,Bool.true_and,Bool.and_self,and_self,and_true,true_and,vI x.aO,vJ x.aO,(aM.iM x.dO).1,(aM.iM x.dO).2,(dD.iM x.bS).1,(dD.iM x.bS).2,(ay.gu x.dB).1,(ay.gu x.dB).2,(aC.gu x.fBody).1,(aC.gu x.fBody).2]
theorem bA.iM(xs:List bA):jG (xs.map bA.enc)=true/\ku (xs.map bA.enc)=true:=⟨kJ fun x _=>x.gu.1,kK fun x _=>⟨x.gu.2,by rw[bA.cZ];decide⟩⟩
theorem aP.gu(x:aP):jq x.enc=true/\jT x.enc=true:=by
 rw[aP.aj];simp only[List.cons_append,List.nil_append,jq,oG,jT,vH,ig,iq,Bool.and_true,Bool.true_and,Bool.and_self,and_self,and_true,true_and,vI x.iR,vJ x.iR,(bG.iM x.eX).1,(bG.iM x.eX).2,(bB.iM x.bM).1,(bB.iM x.bM).2,(aH.iM x.bZ).1,(aH.iM x.bZ).2,(bA.iM x.dK).1,(bA.iM x.dK).2]
theorem aP.iM(xs:List aP):jG (xs.map aP.enc)=true/\ku (xs.map aP.enc)=true:=⟨kJ fun x _=>x.gu.1,kK fun x _=>⟨x.gu.2,by rw[aP.cZ];decide⟩⟩
theorem bR.gu(x:bR):jq x.enc=true/\jT x.enc=true:=by
 rw[bR.aj];simp only[List.cons_append,List.nil_append,jq,oG,jT,vH,ig,iq,Bool.and_true,Bool.true_and,Bool.and_self,and_self,and_true,true_and,(aP.iM x.bJ).1,(aP.iM x.bJ).2]
theorem bR.iM(xs:List bR):jG (xs.map bR.enc)=true/\ku (xs.map bR.enc)=true:=⟨kJ fun x _=>x.gu.1,kK fun x _=>⟨x.gu.2,by rw[bR.cZ];decide⟩⟩
theorem bH.gu(x:bH):jq x.enc=true/\jT x.enc=true:=by
 rw[bH.aj];simp only[List.cons_append,List.nil_append,jq,oG,jT,vH,ig,iq,Bool.and_true,Bool.true_and,Bool.and_self,and_self,and_true,true_and]
theorem bH.iM(xs:List bH):jG (xs.map bH.enc)=true/\ku (xs.map bH.enc)=true:=⟨kJ fun x _=>x.gu.1,kK fun x _=>⟨x.gu.2,by rw[bH.cZ];decide⟩⟩
theorem QT{xs:List (List UInt8)}:∀y∈xs.map encS,y.length=1:=fun y hy=>by
 obtain⟨z,_,rfl⟩:=List.mem_map.1 hy;rfl
theorem EK(xs:List (List UInt8))(hx:xs.length<=1073741824)(n:Nat):bq prog 83 [.c (.d (.sl (xs.map encS)))] (.c (.d (.ol n (xs.map encS)))):=fun S=>by
 have h1:=QT (xs:=xs);refine FT (n) (rs:=[.tmp 2]) zmx func83 ntmps83 rfl rfl rfl rfl rfl ?_;simp -implicitDefEqProofs (disch:=omega) only[go_sem];exact⟨h1,⟨_,rfl,rfl⟩,(fun y hy=>by cases hy),hx⟩
theorem EL:∀N:Nat,(∀x:ay,SizeOf.sizeOf x<N->∀n:Nat,x.sz<=4194304->bq prog 84 [x.v] (.agg ((fV x.enc n).map .d)))/\
 (∀xs:List ay,SizeOf.sizeOf xs<N->∀n:Nat,xs.length+aI (xs.map ay.enc)<=4194304->bq prog 87 [.c (.d (.sl (xs.map ay.enc)))] (.c (.d (jQ (.sl (xs.map ay.enc)) n))))
 |0=>⟨fun x h=>by omega,fun x h=>by omega⟩
 |N+1=>by
  obtain⟨ih,yL⟩:=EL N;refine⟨fun x hn n hsz=> ?_,fun xs hn n hsz=> ?_⟩
  ·intro S;have oF:=ay.kQ x;simp only[ay.sz,ay.aj,bF,D.sz,List.length_map] at hsz;refine zcx [.cell 2 41] func84 ntmps84 ?_;simp only[ay.aj,List.cons_append,List.nil_append,fV,jQ,uZ,qz,List.map_cons,List.map_nil,Nat.add_zero];simp -implicitDefEqProofs (disch:=omega) only[go_sem];refine aB (yL x.fArgs (by omega) n (by omega)) ?_;simp -implicitDefEqProofs (disch:=omega) only[go_sem,jQ]
  ·obtain⟨T,hT⟩:∃T,T=eu (xs.map ay.enc) (n+1):=⟨_,rfl⟩
   have iE:T.length=xs.length:=by rw[hT,mM,List.length_map]
   show bq prog 87 [.c (.d (.sl (xs.map ay.enc)))] (.c (.d (.ol n (eu (xs.map ay.enc) (n+1)))));rw[<-hT];intro S;refine FT (n) (rs:=[.tmp 2]) zmx func87 ntmps87 rfl rfl rfl rfl rfl ?_;simp -implicitDefEqProofs (disch:=omega) only[go_sem]
   (repeat(with_reducible refine And.intro ?_ ?_;focus first|omega|rfl|assumption|exact⟨_,rfl,rfl⟩|(simp;omega)|(simp;done)))
   refine bT (ι:=Nat×List (List D)) zmx rfl [3,9,10,11] (fun y=>[.c (.iH (0,1)),.c (.d (.sl (xs.map ay.enc))),.c (.d (.i .i64 xs.length)),.c (.d (.i .i64 y.1))]) (fun y=>[.seed n,.eO 3 y.2]::S)
    (fun y=>y.1<=xs.length/\mH 3 y.1 y.2 T) (fun y=>xs.length-y.1) (0,_) rfl rfl ⟨Nat.zero_le _,mH.start (by simp[iE]) rfl⟩ ?_
   rintro⟨i,R⟩ ⟨p1,p2⟩;simp only at p1 p2;simp -implicitDefEqProofs (disch:=omega) only[go_sem]
   with_reducible refine aD (fun hb=> ?_) (fun hb=> ?_)<;>have h:=hb<;>(try simp only[wf_preprocess] at h)<;>simp -implicitDefEqProofs (disch:=omega) only[go_sem,hb]<;>(repeat(with_reducible refine And.intro ?_ ?_;focus first|omega|rfl|assumption|exact⟨_,rfl,rfl⟩|(simp;omega)|(simp;done)))
   ·have hi:i<xs.length:=by omega
    have hir:i<(xs.map ay.enc).length:=by rw[List.length_map];exact hi
    have hR:=p2.1;rw[iE] at hR
    have AO:T[i]? =some (fV (ay.enc xs[i]) (n+1+gQ ((xs.map ay.enc).take i))):=by
     rw[hT,xG hir,List.getElem_map]
    have hx:xs[i].sz<=aI (xs.map ay.enc):=dV (List.mem_map_of_mem (List.getElem_mem hi))
    (repeat(with_reducible refine And.intro ?_ ?_;focus first|omega|rfl|assumption|exact⟨_,rfl,rfl⟩|(simp;omega)|(simp;done)))
    refine aB (ih xs[i] (by have:=List.sizeOf_lt_of_mem (List.getElem_mem hi);omega) (n+1+gQ ((xs.map ay.enc).take i)) (by omega)) ?_;obtain⟨row,hrow⟩:∃row,row=fV (ay.enc xs[i]) (n+1+gQ ((xs.map ay.enc).take i)):=⟨_,rfl⟩
    have hrl:row.length=3:=by rw[hrow,jl,ay.cZ]
    rw[<-hrow] at AO ⊢;simp -implicitDefEqProofs (disch:=omega) only[go_sem,hrl,I7]
    (repeat(with_reducible refine And.intro ?_ ?_;focus first|omega|rfl|assumption|exact⟨_,rfl,rfl⟩|(simp;omega)|(simp;done)))
    refine fu 2 (by decide) (i+1,_) (by simp only;omega) rfl rfl ?_ rfl ⟨by simp only;omega,p2.step AO hrl⟩;simp[ny,jC,V.refs,C.refs,oH]
   ·have hi:i=xs.length:=by omega
    rw[p2.done (by omega)]
theorem wF(x:ay)(n:Nat)(h:x.sz<=4194304):bq prog 84 [x.v] (.agg ((fV x.enc n).map .d)):=(EL _).1 x (Nat.lt_succ_self _) n h
def lx(l:List au)(n:Nat):List (List D):=eu (l.map au.enc) n
theorem je{l:List au}:∀r∈l.map au.enc,r.length=2:=fun r hr=>by
 obtain⟨z,_,rfl⟩:=List.mem_map.1 hr;exact z.cZ
theorem Ti{cs cs':List C}(hl:cs'.length=cs.length)(h:∀(j:Nat)(x y:C),cs[j]? =some x->cs'[j]? =some y->∀w σ S β v,gF w σ S β x v->gF w σ S β y v):Less (.agg cs) (.agg cs'):=by
 rintro w σ S β v ⟨a,ha,hc⟩;refine⟨a,ha,hl.trans hc.1,fun j y hy=> ?_⟩
 have hj:j<cs.length:=by rw[<-hl];exact(List.getElem?_eq_some_iff.1 hy).1
 obtain⟨v,h1,h2,h3⟩:=hc.2 j _ (List.getElem?_eq_getElem hj);exact⟨v,h1,h j _ y (List.getElem?_eq_getElem hj) hy w σ S β v h2,h3⟩
theorem eU(s:List UInt8):(bN s).enc=[.s s,.sl []]:=by rw[au.aj];rfl
theorem jf(l:List au):(d9 l).enc=[.s [],.sl (l.map au.enc)]:=by rw[au.aj];rfl
theorem iN{base l:List au}{i:Nat}(hi:i<l.length):(base++l.take i).map au.enc++[[.s l[i].bC,.sl (l[i].aA.map au.enc)]]=(base++l.take (i+1)).map au.enc:=by
 rw[List.take_succ_eq_append_getElem hi,<-List.append_assoc,List.map_append (l₂:=[l[i]]),List.map_cons,List.map_nil,au.aj]
theorem Da(s:List UInt8)(es:List (List D)):Less (.agg [.d (.s s),.bI es]) (.agg [.d (.s s),.d (.sl es)]):=Ti rfl fun j x y hx hy w σ S β v hv=>by
 match j,hx,hy with
 |0,hx,hy=>cases hx;cases hy;exact hv
 |1,hx,hy=>cases hx;cases hy;exact hv.1
 |j+2,hx,hy=>simp at hx
theorem QU(s:List UInt8):bq prog 266 [.c (.d (.s s))] (.agg [.d (.s s),.bI []]):=fun S=>by
 refine zcx [.cell 2 202] func266 ntmps266 ?_;simp -implicitDefEqProofs (disch:=omega) only[go_sem]
theorem bQ(s:List UInt8):bq prog 266 [.c (.d (.s s))] (.agg [.d (.s s),.d (.sl [])]):=bq.less (QU s) (Da s [])
theorem kY(es:List (List D))(hes:∀e∈es,e.length=2)(hl:es.length<=1073741824):bq prog 265 [.c (.d (.sl es))] (.agg [.d (.s []),.d (.sl es)]):=fun S=>by
 refine zcx [.cell 2 202] func265 ntmps265 ?_;simp -implicitDefEqProofs (disch:=omega) only[go_sem];exact⟨hes,⟨_,rfl,rfl⟩,(fun y hy=>by cases hy),hl⟩
theorem jM(es:List (List D))(hes:∀e∈es,e.length=2)(hl:es.length<=1073741824)(cO:List Ab.Obj)(Ω:Store):cB prog 265 [.c (.d (.sl es))] (cO::Ω)
 (fun r S'=>r=.agg [.d (.s []),.bX (0,cO.length+1) es]/\S'=(cO++[.box [.d (.s []),.bX (0,cO.length+1) es],.tok 2 es])::Ω):=by
 refine FH (rs:=[.cell 2 202]) zmx func265 ntmps265 rfl rfl rfl rfl rfl ?_;simp -implicitDefEqProofs (disch:=omega) only[go_sem];exact⟨hes,⟨_,rfl,rfl⟩,(fun y hy=>by cases hy),hl⟩
theorem FZ(xs:List (List UInt8))(hx:xs.length<=1073741824):bq prog 275 [.c (.d (.sl (xs.map encS)))] (.c (.d (.sl ((dh xs).map au.enc)))):=fun S=>by
 refine zcx [.tmp 2] func275 ntmps275 ?_;simp -implicitDefEqProofs (disch:=omega) only[go_sem]
 (repeat(with_reducible refine And.intro ?_ ?_;focus first|omega|rfl|assumption|exact⟨_,rfl,rfl⟩|(simp;omega)|(simp;done)))
 refine lq 3 2 [] rfl (by simp) ?_
 refine bT (ι:=Nat) zmx rfl [0,3,4] (fun i=>[.c (.d (.sl (xs.map encS))),.c (.bX (0,0) (((dh xs).take i).map au.enc)),.c (.d (.i .i64 i))]) (fun i=>[.tok 2 (((dh xs).take i).map au.enc)]::S)
  (fun i=>i<=xs.length) (fun i=>xs.length-i) 0 rfl rfl (Nat.zero_le _) ?_
 intro i hi
 have hl:(((dh xs).take i).map au.enc).length<=i:=by rw[List.length_map];exact List.length_take_le _ _
 simp -implicitDefEqProofs (disch:=omega) only[go_sem]
 with_reducible refine aD (fun hb=> ?_) (fun hb=> ?_)<;>have h:=hb<;>(try simp only[wf_preprocess] at h)<;>simp -implicitDefEqProofs (disch:=omega) only[go_sem,hb]<;>(repeat(with_reducible refine And.intro ?_ ?_;focus first|omega|rfl|assumption|exact⟨_,rfl,rfl⟩|(simp;omega)|(simp;done)))
 ·have hi':i<xs.length:=by omega
  have hs:=iN (base:=[]) (l:=dh xs) (i:=i) (by rw[kS];exact hi')
  have hg:(dh xs)[i]'(by rw[kS];exact hi')=bN xs[i]:=by simp[dh]
  rw[hg] at hs;simp only[List.nil_append,Wx,Wy,List.map_nil] at hs
  (repeat(with_reducible refine And.intro ?_ ?_;focus first|omega|rfl|assumption|exact⟨_,rfl,rfl⟩|(simp;omega)|(simp;done)))
  refine aB (bQ xs[i]) ?_;simp -implicitDefEqProofs (disch:=omega) only[go_sem]
  (repeat(with_reducible refine And.intro ?_ ?_;focus first|omega|rfl|assumption|exact⟨_,rfl,rfl⟩|(simp;omega)|(simp;done)))
  rw[hs];exact dG (i+1) (by omega) rfl rfl (by omega)
 ·have hi':i=(dh xs).length:=by rw[kS];omega
  rw[hi',List.take_length]
theorem dX(xs:List (List UInt8))(hx:xs.length<=1073741824):bq prog 267 [.c (.d (.sl (xs.map encS)))] (.agg [.d (.s []),.d (.sl ((dh xs).map au.enc))]):=fun S=>by
 refine zcx [.cell 2 202] func267 ntmps267 ?_;simp -implicitDefEqProofs (disch:=omega) only[go_sem];refine aB (FZ xs hx) ?_;simp -implicitDefEqProofs (disch:=omega) only[go_sem]
theorem KM:∀N:Nat,(∀x:ay,SizeOf.sizeOf x<N->x.sz<=4194304->bq prog 269 [x.v] (.agg [.d (.s (dR x).bC),.d (.sl ((dR x).aA.map au.enc))]))
 |0=>fun x h=>by omega
 |N+1=>by
  have ih:=KM N;intro x hn hsz;have oF:=ay.kQ x;have hts:=OI hsz;have hx:=ahv x
  have hall:∀t∈x.fArgs,t.sz<=4194304:=fun t ht=>by
   obtain⟨i,hi,e⟩:=List.getElem_of_mem ht;rw[<-e];exact(CZ hi hsz).1
  intro S;refine zcx [.cell 2 202] func269 ntmps269 ?_;simp -implicitDefEqProofs (disch:=omega) only[go_sem]
  with_reducible refine aD (fun hb=> ?_) (fun hb=> ?_)<;>have h:=hb<;>(try simp only[wf_preprocess] at h)<;>simp -implicitDefEqProofs (disch:=omega) only[go_sem,hb]<;>(repeat(with_reducible refine And.intro ?_ ?_;focus first|omega|rfl|assumption|exact⟨_,rfl,rfl⟩|(simp;omega)|(simp;done)))
  ·rw[if_pos h] at hx;rw[hx]
   (repeat(with_reducible refine And.intro ?_ ?_;focus first|omega|rfl|assumption|exact⟨_,rfl,rfl⟩|(simp;omega)|(simp;done)))
   refine aB (bQ _) ?_;simp -implicitDefEqProofs (disch:=omega) only[go_sem];rfl
  rw[if_neg h] at hx
  with_reducible refine aD (fun hb=> ?_) (fun hb=> ?_)<;>have h:=hb<;>(try simp only[wf_preprocess] at h)<;>simp -implicitDefEqProofs (disch:=omega) only[go_sem,hb]<;>(repeat(with_reducible refine And.intro ?_ ?_;focus first|omega|rfl|assumption|exact⟨_,rfl,rfl⟩|(simp;omega)|(simp;done)))
  ·rw[if_pos h] at hx;rw[hx];refine aB (bQ _) ?_;simp -implicitDefEqProofs (disch:=omega) only[go_sem];refine aB (bQ _) ?_;simp -implicitDefEqProofs (disch:=omega) only[go_sem];refine aB (kY _ (by simp) (by simp)) ?_;simp -implicitDefEqProofs (disch:=omega) only[go_sem];simp only[lu,gZ,List.map_cons,List.map_nil,eU,DZ]
  rw[if_neg h] at hx
  have alH:x.aR=2->x.fArgs.length=0->dR x=bN x.fName:=fun a b=>by rw[hx,if_pos ⟨a,b⟩]
  have adf:¬(x.aR=2/\x.fArgs.length=0)->dR x=d9 ((if x.aR=3 then [bN iX] else [])++[bN x.fName]++x.fArgs.map dR):=fun a=>by rw[hx,if_neg a]
  clear hx
  repeat' (first|(with_reducible refine aD (fun hb=> ?_) (fun hb=> ?_)<;>have h:=hb<;>(try simp only[wf_preprocess] at h)<;>simp -implicitDefEqProofs (disch:=omega) only[go_sem,hb]<;>(repeat(with_reducible refine And.intro ?_ ?_;focus first|omega|rfl|assumption|exact⟨_,rfl,rfl⟩|(simp;omega)|(simp;done)))))
  ·rw[alH (by omega) (by omega)];refine aB (bQ _) ?_;simp -implicitDefEqProofs (disch:=omega) only[go_sem];rfl
  ·exfalso;omega
  ·have hx:=adf (by omega);rw[if_neg h,List.nil_append] at hx;refine aB (bQ _) ?_;simp -implicitDefEqProofs (disch:=omega) only[go_sem]
   (repeat(with_reducible refine And.intro ?_ ?_;focus first|omega|rfl|assumption|exact⟨_,rfl,rfl⟩|(simp;omega)|(simp;done)))
   refine bT (ι:=Nat) zmx rfl [1,2,3,4] (fun i=>[.c (.ptr (0,0) 0),.c (.ptr (0,1) 0),.c (.ptr (0,2) 0),.c (.d (.i .i64 i))])
    (fun i=>[.box [.d (.i .i64 x.aR),.d (.s x.fName),.d (.sl (x.fArgs.map ay.enc))],.box [.d (.s []),.bI []],.box [.d (.s []),.bX (0,3) (([bN x.fName]++(x.fArgs.map dR).take i).map au.enc)],.tok 2 (([bN x.fName]++(x.fArgs.map dR).take i).map au.enc)]::S)
    (fun i=>i<=x.fArgs.length) (fun i=>x.fArgs.length-i) 0 rfl ?_ (Nat.zero_le _) ?_
   ·simp only[List.take_zero,List.append_nil,List.map_cons,List.map_nil,List.cons_append,List.nil_append,eU]<;>(try rfl)
   intro i hi
   have hl:(([bN x.fName]++(x.fArgs.map dR).take i).map au.enc).length<=i+2:=by
    rw[List.length_map,List.length_append];have:=List.length_take_le i (x.fArgs.map dR);simp only[List.length_cons,List.length_nil];omega
   have hs:=fun hi=>iN (base:=[bN x.fName]) (l:=x.fArgs.map dR) (i:=i) hi;have hrw:=je (l:=[bN x.fName]++(x.fArgs.map dR).take i);generalize hR:([bN x.fName]++(x.fArgs.map dR).take i).map au.enc=R at hl hs hrw;simp -implicitDefEqProofs (disch:=omega) only[go_sem]
   with_reducible refine aD (fun hb=> ?_) (fun hb=> ?_)<;>have h:=hb<;>(try simp only[wf_preprocess] at h)<;>simp -implicitDefEqProofs (disch:=omega) only[go_sem,hb]<;>(repeat(with_reducible refine And.intro ?_ ?_;focus first|omega|rfl|assumption|exact⟨_,rfl,rfl⟩|(simp;omega)|(simp;done)))
   ·have hi':i<x.fArgs.length:=by omega
    have hs':=hs (by rw[List.length_map];exact hi');rw[List.getElem_map] at hs'
    (repeat(with_reducible refine And.intro ?_ ?_;focus first|omega|rfl|assumption|exact⟨_,rfl,rfl⟩|(simp;omega)|(simp;done)))
    refine aB (ih x.fArgs[i] (by have:=List.sizeOf_lt_of_mem (List.getElem_mem hi');omega) (hall _ (List.getElem_mem hi'))) ?_;simp -implicitDefEqProofs (disch:=omega) only[go_sem]
    (repeat(with_reducible refine And.intro ?_ ?_;focus first|omega|rfl|assumption|exact⟨_,rfl,rfl⟩|(simp;omega)|(simp;done)))
    rw[hs'];exact dG (i+1) (by omega) rfl rfl (by omega)
   ·have hi':i=(x.fArgs.map dR).length:=by rw[List.length_map];omega
    rw[hx,<-hR,hi',List.take_length];simp only[lu,gZ,List.cons_append,List.nil_append]
  ·have hx:=adf (by omega);rw[if_pos h] at hx;refine aB (bQ _) ?_;simp -implicitDefEqProofs (disch:=omega) only[go_sem]
   (repeat(with_reducible refine And.intro ?_ ?_;focus first|omega|rfl|assumption|exact⟨_,rfl,rfl⟩|(simp;omega)|(simp;done)))
   refine aB (bQ _) ?_;simp -implicitDefEqProofs (disch:=omega) only[go_sem]
   (repeat(with_reducible refine And.intro ?_ ?_;focus first|omega|rfl|assumption|exact⟨_,rfl,rfl⟩|(simp;omega)|(simp;done)))
   refine bT (ι:=Nat) zmx rfl [1,2,3,4] (fun i=>[.c (.ptr (0,0) 0),.c (.ptr (0,1) 0),.c (.ptr (0,2) 0),.c (.d (.i .i64 i))])
    (fun i=>[.box [.d (.i .i64 x.aR),.d (.s x.fName),.d (.sl (x.fArgs.map ay.enc))],.box [.d (.s []),.bI []],.box [.d (.s []),.bX (0,3) (([bN iX,bN x.fName]++(x.fArgs.map dR).take i).map au.enc)],.tok 2 (([bN iX,bN x.fName]++(x.fArgs.map dR).take i).map au.enc)]::S)
    (fun i=>i<=x.fArgs.length) (fun i=>x.fArgs.length-i) 0 rfl ?_ (Nat.zero_le _) ?_
   ·simp only[List.take_zero,List.append_nil,List.map_cons,List.map_nil,List.cons_append,List.nil_append,eU]<;>(try rfl)
   intro i hi
   have hl:(([bN iX,bN x.fName]++(x.fArgs.map dR).take i).map au.enc).length<=i+2:=by
    rw[List.length_map,List.length_append];have:=List.length_take_le i (x.fArgs.map dR);simp only[List.length_cons,List.length_nil];omega
   have hs:=fun hi=>iN (base:=[bN iX,bN x.fName]) (l:=x.fArgs.map dR) (i:=i) hi;have hrw:=je (l:=[bN iX,bN x.fName]++(x.fArgs.map dR).take i);generalize hR:([bN iX,bN x.fName]++(x.fArgs.map dR).take i).map au.enc=R at hl hs hrw;simp -implicitDefEqProofs (disch:=omega) only[go_sem]
   with_reducible refine aD (fun hb=> ?_) (fun hb=> ?_)<;>have h:=hb<;>(try simp only[wf_preprocess] at h)<;>simp -implicitDefEqProofs (disch:=omega) only[go_sem,hb]<;>(repeat(with_reducible refine And.intro ?_ ?_;focus first|omega|rfl|assumption|exact⟨_,rfl,rfl⟩|(simp;omega)|(simp;done)))
   ·have hi':i<x.fArgs.length:=by omega
    have hs':=hs (by rw[List.length_map];exact hi');rw[List.getElem_map] at hs'
    (repeat(with_reducible refine And.intro ?_ ?_;focus first|omega|rfl|assumption|exact⟨_,rfl,rfl⟩|(simp;omega)|(simp;done)))
    refine aB (ih x.fArgs[i] (by have:=List.sizeOf_lt_of_mem (List.getElem_mem hi');omega) (hall _ (List.getElem_mem hi'))) ?_;simp -implicitDefEqProofs (disch:=omega) only[go_sem]
    (repeat(with_reducible refine And.intro ?_ ?_;focus first|omega|rfl|assumption|exact⟨_,rfl,rfl⟩|(simp;omega)|(simp;done)))
    rw[hs'];exact dG (i+1) (by omega) rfl rfl (by omega)
   ·have hi':i=(x.fArgs.map dR).length:=by rw[List.length_map];omega
    rw[hx,<-hR,hi',List.take_length];simp only[lu,gZ,List.cons_append,List.nil_append]
  ·have hx:=adf (by omega);rw[if_neg h,List.nil_append] at hx;refine aB (bQ _) ?_;simp -implicitDefEqProofs (disch:=omega) only[go_sem]
   (repeat(with_reducible refine And.intro ?_ ?_;focus first|omega|rfl|assumption|exact⟨_,rfl,rfl⟩|(simp;omega)|(simp;done)))
   refine bT (ι:=Nat) zmx rfl [1,2,3,4] (fun i=>[.c (.ptr (0,0) 0),.c (.ptr (0,1) 0),.c (.ptr (0,2) 0),.c (.d (.i .i64 i))])
    (fun i=>[.box [.d (.i .i64 x.aR),.d (.s x.fName),.d (.sl (x.fArgs.map ay.enc))],.box [.d (.s []),.bI []],.box [.d (.s []),.bX (0,3) (([bN x.fName]++(x.fArgs.map dR).take i).map au.enc)],.tok 2 (([bN x.fName]++(x.fArgs.map dR).take i).map au.enc)]::S)
    (fun i=>i<=x.fArgs.length) (fun i=>x.fArgs.length-i) 0 rfl ?_ (Nat.zero_le _) ?_
   ·simp only[List.take_zero,List.append_nil,List.map_cons,List.map_nil,List.cons_append,List.nil_append,eU]<;>(try rfl)
   intro i hi
   have hl:(([bN x.fName]++(x.fArgs.map dR).take i).map au.enc).length<=i+2:=by
    rw[List.length_map,List.length_append];have:=List.length_take_le i (x.fArgs.map dR);simp only[List.length_cons,List.length_nil];omega
   have hs:=fun hi=>iN (base:=[bN x.fName]) (l:=x.fArgs.map dR) (i:=i) hi;have hrw:=je (l:=[bN x.fName]++(x.fArgs.map dR).take i);generalize hR:([bN x.fName]++(x.fArgs.map dR).take i).map au.enc=R at hl hs hrw;simp -implicitDefEqProofs (disch:=omega) only[go_sem]
   with_reducible refine aD (fun hb=> ?_) (fun hb=> ?_)<;>have h:=hb<;>(try simp only[wf_preprocess] at h)<;>simp -implicitDefEqProofs (disch:=omega) only[go_sem,hb]<;>(repeat(with_reducible refine And.intro ?_ ?_;focus first|omega|rfl|assumption|exact⟨_,rfl,rfl⟩|(simp;omega)|(simp;done)))
   ·have hi':i<x.fArgs.length:=by omega
    have hs':=hs (by rw[List.length_map];exact hi');rw[List.getElem_map] at hs'
    (repeat(with_reducible refine And.intro ?_ ?_;focus first|omega|rfl|assumption|exact⟨_,rfl,rfl⟩|(simp;omega)|(simp;done)))
    refine aB (ih x.fArgs[i] (by have:=List.sizeOf_lt_of_mem (List.getElem_mem hi');omega) (hall _ (List.getElem_mem hi'))) ?_;simp -implicitDefEqProofs (disch:=omega) only[go_sem]
    (repeat(with_reducible refine And.intro ?_ ?_;focus first|omega|rfl|assumption|exact⟨_,rfl,rfl⟩|(simp;omega)|(simp;done)))
    rw[hs'];exact dG (i+1) (by omega) rfl rfl (by omega)
   ·have hi':i=(x.fArgs.map dR).length:=by rw[List.length_map];omega
    rw[hx,<-hR,hi',List.take_length];simp only[lu,gZ,List.cons_append,List.nil_append]
theorem jX(x:ay)(hsz:x.sz<=4194304):bq prog 269 [x.v] (.agg [.d (.s (dR x).bC),.d (.sl ((dR x).aA.map au.enc))]):=KM _ x (Nat.lt_succ_self _) hsz
theorem zD(xs:List ay)(hlen:xs.length<=4194304)(hsz:∀t∈xs,t.sz<=4194304):bq prog 268 [.c (.d (.sl (xs.map ay.enc)))] (.c (.d (.sl ((xs.map dR).map au.enc)))):=fun S=>by
 refine zcx [.tmp 2] func268 ntmps268 ?_;simp -implicitDefEqProofs (disch:=omega) only[go_sem]
 (repeat(with_reducible refine And.intro ?_ ?_;focus first|omega|rfl|assumption|exact⟨_,rfl,rfl⟩|(simp;omega)|(simp;done)))
 refine lq 3 2 [] rfl (by simp) ?_
 refine bT (ι:=Nat) zmx rfl [0,3,4] (fun i=>[.c (.d (.sl (xs.map ay.enc))),.c (.bX (0,0) (((xs.map dR).take i).map au.enc)),.c (.d (.i .i64 i))]) (fun i=>[.tok 2 (((xs.map dR).take i).map au.enc)]::S)
  (fun i=>i<=xs.length) (fun i=>xs.length-i) 0 rfl rfl (Nat.zero_le _) ?_
 intro i hi
 have hl:(((xs.map dR).take i).map au.enc).length<=i:=by rw[List.length_map];exact List.length_take_le _ _
 simp -implicitDefEqProofs (disch:=omega) only[go_sem]
 with_reducible refine aD (fun hb=> ?_) (fun hb=> ?_)<;>have h:=hb<;>(try simp only[wf_preprocess] at h)<;>simp -implicitDefEqProofs (disch:=omega) only[go_sem,hb]<;>(repeat(with_reducible refine And.intro ?_ ?_;focus first|omega|rfl|assumption|exact⟨_,rfl,rfl⟩|(simp;omega)|(simp;done)))
 ·have hi':i<xs.length:=by omega
  have hs:=iN (base:=[]) (l:=xs.map dR) (i:=i) (by rw[List.length_map];exact hi');rw[List.getElem_map] at hs;simp only[List.nil_append] at hs
  (repeat(with_reducible refine And.intro ?_ ?_;focus first|omega|rfl|assumption|exact⟨_,rfl,rfl⟩|(simp;omega)|(simp;done)))
  refine aB (jX xs[i] (hsz _ (List.getElem_mem hi'))) ?_;simp -implicitDefEqProofs (disch:=omega) only[go_sem]
  (repeat(with_reducible refine And.intro ?_ ?_;focus first|omega|rfl|assumption|exact⟨_,rfl,rfl⟩|(simp;omega)|(simp;done)))
  rw[hs];exact dG (i+1) (by omega) rfl rfl (by omega)
 ·have hi':i=(xs.map dR).length:=by rw[List.length_map];omega
  rw[hi',List.take_length]
theorem pE(b:Bool)(x:au)(hsz:x.sz<=67108864):bq prog 271 [.c (.d (.b b)),x.v] (tJ b x).v:=by
 have zero:bq prog 271 [.c (.d (.b b)),x.v] (.agg [.d (.s []),.bI []])->bq prog 271 [.c (.d (.b b)),x.v] dw.v:=fun h=>bq.less h (Da [] [])
 cases b with
 |false=>
  refine zero fun S=> ?_;refine zcx [.cell 4 202] func271 ntmps271 ?_;simp -implicitDefEqProofs (disch:=omega) only[go_sem]
 |true=>
  show bq prog 271 [.c (.d (.b true)),x.v] (AA x).v;unfold AA
  cases hv:iQ x with
  |false=>
   refine zero fun S=> ?_;refine zcx [.cell 4 202] func271 ntmps271 ?_;simp -implicitDefEqProofs (disch:=omega) only[go_sem];refine aB (lJ x hsz) ?_;simp -implicitDefEqProofs (disch:=omega) only[go_sem,hv]
  |true=>
   intro S;refine zcx [.cell 4 202] func271 ntmps271 ?_;simp -implicitDefEqProofs (disch:=omega) only[go_sem];refine aB (lJ x hsz) ?_;simp -implicitDefEqProofs (disch:=omega) only[go_sem,hv]
theorem bB.bounds{x:bB}(h:x.sz<=4194304):x.fName.length<=4194304/\x.aO.length<=4194304/\x.aW.length<=4194304/\∀s∈x.aO,s.length<=4194304:=by
 simp only[bB.sz,bB.aj,bF,bL,D.sz,List.length_map] at h;refine⟨by omega,by omega,by omega,fun s hs=> ?_⟩;have:=yI hs;omega
theorem bB.aeG{x:bB}{i:Nat}(hi:i<x.aW.length)(h:x.sz<=4194304):x.aW[i].sz<=4194304:=by
 have hx:x.aW[i].sz<=aI (x.aW.map aJ.enc):=dV (List.mem_map_of_mem (List.getElem_mem hi));simp only[bB.sz,bB.aj,bF,bL,D.sz,List.length_map] at h;omega
theorem aJ.bounds{x:aJ}(h:x.sz<=4194304):x.fName.length<=4194304/\x.iw.length<=4194304/\∀t∈x.iw,t.sz<=4194304:=by
 simp only[aJ.sz,aJ.aj,bF,bL,D.sz,List.length_map] at h;refine⟨by omega,by omega,fun t ht=> ?_⟩;have hx:t.sz<=aI (x.iw.map ay.enc):=dV (List.mem_map_of_mem ht);omega
noncomputable def uK(vars:List (List UInt8))(c:aJ):Bool:=dec (c.iw.length<=4)&&mJ vars c.iw
noncomputable def qM(d:bB):List (List UInt8):=d.aW.map aJ.fName
noncomputable def iO(d:bB):Bool:=
 validName d.fName&&(dec (d.aO.length<=3)&&(iP d.aO&&(dec (1<=d.aW.length)&&(dec (d.aW.length<=5)&&(d.aW.all (uK d.aO)&&iP (qM d))))))
theorem AP(d:bB)(hsz:d.sz<=4194304):bq prog 124 [d.v] (.c (.d (.b (iO d)))):=fun S=>by
 have hb0:=bB.bounds hsz
 have bad:∀i,∀hi:i<d.aW.length,uK d.aO d.aW[i]=false->iO d=false:=fun i hi h=>by
  have:d.aW.all (uK d.aO)=false:=Bool.eq_false_iff.2 fun hx=>by
   rw[List.all_eq_true.1 hx _ (List.getElem_mem hi)] at h;cases h
  unfold iO
  rw[this];simp
 refine zcx [.tmp 2] func124 ntmps124 ?_;simp -implicitDefEqProofs (disch:=omega) only[go_sem]
 (repeat(with_reducible refine And.intro ?_ ?_;focus first|omega|rfl|assumption|exact⟨_,rfl,rfl⟩|(simp;omega)|(simp;done)))
 refine lq 3 1 [] rfl (by simp) ?_
 refine bT (ι:=Nat×List (List UInt8)) zmx rfl [1,3,4] (fun y=>[.c (.ptr (0,0) 0),.c (.bX (0,1) (y.2.map encS)),.c (.d (.i .i64 y.1))]) (fun y=>[.box (d.enc.map .d),.tok 1 (y.2.map encS)]::S)
  (fun y=>y.1<=d.aW.length/\y.2=(qM d).take y.1/\∀j,∀hj:j<d.aW.length,j<y.1->uK d.aO d.aW[j]=true) (fun y=>d.aW.length-y.1) (0,[]) rfl ?_ ⟨Nat.zero_le _,rfl,fun j _ h=>by simp only at h;omega⟩ ?_
 ·simp -implicitDefEqProofs (disch:=omega) only[go_sem]
 rintro⟨i,names⟩ ⟨p1,p2,p3⟩;simp only at p1 p2 p3
 have pl:names.length<=d.aW.length:=by rw[p2];simp[qM];omega
 simp -implicitDefEqProofs (disch:=omega) only[go_sem]
 with_reducible refine aD (fun hb=> ?_) (fun hb=> ?_)<;>have h:=hb<;>(try simp only[wf_preprocess] at h)<;>simp -implicitDefEqProofs (disch:=omega) only[go_sem,hb]<;>(repeat(with_reducible refine And.intro ?_ ?_;focus first|omega|rfl|assumption|exact⟨_,rfl,rfl⟩|(simp;omega)|(simp;done)))
 ·have hi:i<d.aW.length:=by omega
  have hc:=aJ.bounds (bB.aeG hi hsz)
  (repeat(with_reducible refine And.intro ?_ ?_;focus first|omega|rfl|assumption|exact⟨_,rfl,rfl⟩|(simp;omega)|(simp;done)))
  with_reducible refine aD (fun hb=> ?_) (fun hb=> ?_)<;>have h:=hb<;>(try simp only[wf_preprocess] at h)<;>simp -implicitDefEqProofs (disch:=omega) only[go_sem,hb]<;>(repeat(with_reducible refine And.intro ?_ ?_;focus first|omega|rfl|assumption|exact⟨_,rfl,rfl⟩|(simp;omega)|(simp;done)))
  ·rw[bad i hi (by unfold uK;rw[bK (by omega)];rfl)]
  have h1:=h
  (repeat(with_reducible refine And.intro ?_ ?_;focus first|omega|rfl|assumption|exact⟨_,rfl,rfl⟩|(simp;omega)|(simp;done)))
  refine aB (Nk d.aW[i].iw d.aO (by omega) hc.2.2 (by omega)) ?_;simp -implicitDefEqProofs (disch:=omega) only[go_sem]<;>(repeat(with_reducible refine And.intro ?_ ?_;focus first|omega|rfl|assumption|exact⟨_,rfl,rfl⟩|(simp;omega)|(simp;done)))
  with_reducible refine aD (fun hb=> ?_) (fun hb=> ?_)<;>have h:=hb<;>(try simp only[wf_preprocess] at h)<;>simp -implicitDefEqProofs (disch:=omega) only[go_sem,hb]<;>(repeat(with_reducible refine And.intro ?_ ?_;focus first|omega|rfl|assumption|exact⟨_,rfl,rfl⟩|(simp;omega)|(simp;done)))
  ·rw[bad i hi (by unfold uK;rw[h];simp)]
  have h2:=h
  (repeat(with_reducible refine And.intro ?_ ?_;focus first|omega|rfl|assumption|exact⟨_,rfl,rfl⟩|(simp;omega)|(simp;done)))
  rw[show List.map encS names++[[D.s d.aW[i].fName]]=List.map encS (names++[d.aW[i].fName]) by simp[encS]]
  exact dG (i+1,names++[d.aW[i].fName]) (by simp only;omega) rfl rfl ⟨by simp only;omega,by simp only;rw[p2,nP (by simpa [qM] using hi)];simp[qM],fun j hj hji=>by
   simp only at hji;by_cases e:j=i
   ·subst e;unfold uK;rw[h2,dQ (by omega)];rfl
   ·exact p3 j hj (by omega)⟩
 have hi:i=d.aW.length:=by omega
 have hn:names=qM d:=by rw[p2,List.take_of_length_le (by simp[qM];omega)]
 have hall:d.aW.all (uK d.aO)=true:=List.all_eq_true.2 fun c hc=>by
  obtain⟨j,hj,e⟩:=List.getElem_of_mem hc;rw[<-e];exact p3 j hj (by omega)
 have hnl:∀s∈names,s.length<=4194304:=fun s hs=>by
  rw[hn] at hs;obtain⟨c,hc,e⟩:=List.mem_map.1 hs;obtain⟨j,hj,e'⟩:=List.getElem_of_mem hc;rw[<-e,<-e'];exact(aJ.bounds (bB.aeG hj hsz)).1
 have hlen:names.length=d.aW.length:=by rw[hn];simp[qM]
 refine aB (gM d.fName (by omega)) ?_;simp -implicitDefEqProofs (disch:=omega) only[go_sem]<;>(repeat(with_reducible refine And.intro ?_ ?_;focus first|omega|rfl|assumption|exact⟨_,rfl,rfl⟩|(simp;omega)|(simp;done)))
 with_reducible refine aD (fun hb=> ?_) (fun hb=> ?_)<;>have h:=hb<;>(try simp only[wf_preprocess] at h)<;>simp -implicitDefEqProofs (disch:=omega) only[go_sem,hb]<;>(repeat(with_reducible refine And.intro ?_ ?_;focus first|omega|rfl|assumption|exact⟨_,rfl,rfl⟩|(simp;omega)|(simp;done)))
 ·have h1:=h;refine aB (j6 d.aO 3 (by omega) hb0.2.2.2) ?_;simp -implicitDefEqProofs (disch:=omega) only[go_sem]<;>(repeat(with_reducible refine And.intro ?_ ?_;focus first|omega|rfl|assumption|exact⟨_,rfl,rfl⟩|(simp;omega)|(simp;done)))
  with_reducible refine aD (fun hb=> ?_) (fun hb=> ?_)<;>have h:=hb<;>(try simp only[wf_preprocess] at h)<;>simp -implicitDefEqProofs (disch:=omega) only[go_sem,hb]<;>(repeat(with_reducible refine And.intro ?_ ?_;focus first|omega|rfl|assumption|exact⟨_,rfl,rfl⟩|(simp;omega)|(simp;done)))
  ·have h2:=h
   with_reducible refine aD (fun hb=> ?_) (fun hb=> ?_)<;>have h:=hb<;>(try simp only[wf_preprocess] at h)<;>simp -implicitDefEqProofs (disch:=omega) only[go_sem,hb]<;>(repeat(with_reducible refine And.intro ?_ ?_;focus first|omega|rfl|assumption|exact⟨_,rfl,rfl⟩|(simp;omega)|(simp;done)))
   ·have h3:=h;refine aB (j6 names 5 (by omega) hnl) ?_;simp -implicitDefEqProofs (disch:=omega) only[go_sem]<;>(repeat(with_reducible refine And.intro ?_ ?_;focus first|omega|rfl|assumption|exact⟨_,rfl,rfl⟩|(simp;omega)|(simp;done)));refine bO ?_;rw[Bool.and_eq_true] at h2;have h4:=gL h2.1;unfold iO;rw[h1,h2.2,hall,<-hn,dQ (show d.aO.length<=3 by omega),dQ (show 1<=d.aW.length by omega),hlen];simp only[Bool.true_and];congr 1;exact kP ⟨fun h=>by omega,fun h=>by omega⟩
   ·refine bO ?_;unfold iO
    rw[bK (show ¬1<=d.aW.length by omega)];simp
  ·refine bO ?_;unfold iO
   have h2:(dec (d.aO.length<=3)&&iP d.aO)=false:=by
    rw[<-h];congr 1;exact kP ⟨fun h=>by omega,fun h=>by omega⟩
   rw[<-Bool.and_assoc (dec (d.aO.length<=3)),h2];simp
 ·exact bO (by unfold iO;rw[h];rfl)
def uQ:List UInt8:=[100,97,116,97]
def Ig(c:aJ):au:=d9 ([bN c.fName]++c.iw.map dR)
def baseD(d:bB):List au:=[bN uQ,bN d.fName,d9 (dh d.aO)]
def Ih(d:bB):au:=d9 (baseD d++d.aW.map Ig)
noncomputable def QV(d:bB):au:=tJ (iO d) (Ih d)
theorem afT{d:bB}(h:d.sz<=1048576):(QV d).sz<=1048576:=Nat.le_trans (G5 _ _) (by decide)
def zf:List aJ->Nat
 |[]=>0
 |x::xs=>x.sz+zf xs
theorem I8:∀l,aI (l.map aJ.enc)=zf l
 |[]=>rfl
 |x::xs=>by rw[List.map_cons,aI,zf,I8 xs];rfl
theorem vK(x:aJ):x.sz=x.fName.length+(x.iw.length+oh x.iw):=by
 rw[<-xE];simp only[aJ.sz,aJ.aj,bF,D.sz,List.length_map];omega
theorem pF(x:bB):x.sz=x.fName.length+(x.aO.length+(x.aO.map List.length).sum)+(x.aW.length+zf x.aW):=by
 rw[<-I8,<-dZ];simp only[bB.sz,bB.aj,bF,D.sz,List.length_map];omega
theorem ahL(c:aJ):(Ig c).sz<=1+16*c.sz:=by
 have:=Ky c.iw;rw[Ig,iZ,jP,List.length_append,List.length_map,vK];simp[dI,iY];omega
theorem Um:∀l:List aJ,dI (l.map Ig)<=l.length+16*zf l
 |[]=>by simp[dI]
 |c::l=>by
  have h1:=ahL c;have h2:=Um l;rw[List.map_cons,dI,zf,List.length_cons];omega
theorem ahM(d:bB):(Ih d).sz<=7+16*d.sz:=by
 have:=Um d.aW;rw[Ih,iZ,jP,List.length_append,List.length_map,pF];simp[baseD,dI,iY,iZ,kS,o9,uQ];omega
theorem u6{vars:List (List UInt8)}{ts:List ay}(h:mJ vars ts=true):jZ ts=true:=Ch.2 fun t ht=>by
 have:=List.all_eq_true.1 h t ht;unfold iI at this;rw[Bool.and_eq_true] at this;exact wB this.1
theorem Mq{d:bB}(h:iO d=true):∀c∈d.aW,jZ c.iw=true:=fun c hc=>by
 have h1:d.aW.all (uK d.aO)=true:=by
  unfold iO at h;simp only[Bool.and_eq_true] at h;simp_all
 have h2:=List.all_eq_true.1 h1 c hc;unfold uK at h2;rw[Bool.and_eq_true] at h2;exact u6 h2.2
theorem ZW{l:List ay}{t:ay}(h:t∈l):t.sz<=oh l:=by
 rw[<-xE];exact dV (List.mem_map_of_mem h)
theorem WQ{l:List aJ}{t:aJ}(h:t∈l):t.sz<=zf l:=by
 rw[<-I8];exact dV (List.mem_map_of_mem h)
theorem Tj(d:bB)(hsz:d.sz<=1048576):bq prog 255 [d.v] (QV d).v:=fun S=>by
 have hz:=ahM d;have hdz:=pF d;obtain⟨T,hT⟩:∃T:Nat->List (List D),T=fun i=>(baseD d++(d.aW.map Ig).take i).map au.enc:=⟨_,rfl⟩
 have hT0:T 0=[[.s uQ,.sl []],[.s d.fName,.sl []],[.s [],.sl ((dh d.aO).map au.enc)]]:=by
  rw[hT];simp only[List.take_zero,List.append_nil,baseD,List.map_cons,List.map_nil,eU,jf]
 have iE:∀i,(T i).length<=i+3:=fun i=>by
  rw[hT];simp only[List.length_map,List.length_append];have:=List.length_take_le i (d.aW.map Ig);simp[baseD];omega
 have hTs:∀i (hi:i<d.aW.length),T i++[[.s [],.sl (([bN d.aW[i].fName]++d.aW[i].iw.map dR).map au.enc)]]=T (i+1):=fun i hi=>by
  have:=iN (base:=baseD d) (l:=d.aW.map Ig) (i:=i) (by rw[List.length_map];exact hi);rw[List.getElem_map] at this;rw[hT];exact this
 have hTr:∀i,∀r∈T i,r.length=2:=fun i=>by rw[hT];exact je
 have hTe:T d.aW.length=(Ih d).aA.map au.enc:=by
  rw[hT];simp only
  rw[List.take_of_length_le (by simp)];rfl
 clear hT;refine zcx [.cell 2 202] func255 ntmps255 ?_;simp -implicitDefEqProofs (disch:=omega) only[go_sem];refine aB (bQ _) ?_;simp -implicitDefEqProofs (disch:=omega) only[go_sem];refine aB (bQ _) ?_;simp -implicitDefEqProofs (disch:=omega) only[go_sem];refine aB (dX d.aO (by omega)) ?_;simp -implicitDefEqProofs (disch:=omega) only[go_sem];have hE:=fun cO Ω=>jM (T 0) (hTr 0) (by have:=iE 0;omega) cO Ω;simp only[hT0] at hE;refine cu [false] rfl (hE _ _) ?_;simp -implicitDefEqProofs (disch:=omega) only[go_sem]
 refine bT (ι:=Nat) zmx rfl [1,2,3,4] (fun i=>[.c (.ptr (0,0) 0),.c (.ptr (0,1) 0),.c (.ptr (0,4) 0),.c (.d (.i .i64 i))])
  (fun i=>[.box [.d (.s d.fName),.d (.sl (d.aO.map encS)),.d (.sl (d.aW.map aJ.enc))],.box [.d (.s []),.bI []],.box [.d (.s []),.bX (0,3) (T 0)],.tok 2 (T i),.box [.d (.s []),.bX (0,3) (T i)]]::S)
  (fun i=>i<=d.aW.length) (fun i=>d.aW.length-i) 0 rfl (by simp only[hT0]<;>(try rfl)) (Nat.zero_le _) ?_
 intro i hi;have hl:=iE i;simp -implicitDefEqProofs (disch:=omega) only[go_sem]
 with_reducible refine aD (fun hb=> ?_) (fun hb=> ?_)<;>have h:=hb<;>(try simp only[wf_preprocess] at h)<;>simp -implicitDefEqProofs (disch:=omega) only[go_sem,hb]<;>(repeat(with_reducible refine And.intro ?_ ?_;focus first|omega|rfl|assumption|exact⟨_,rfl,rfl⟩|(simp;omega)|(simp;done)))
 ·have hi':i<d.aW.length:=by omega
  have hm:=List.getElem_mem hi';have hcz:=WQ hm;have hce:=vK d.aW[i];have hs:=hTs i hi'
  (repeat(with_reducible refine And.intro ?_ ?_;focus first|omega|rfl|assumption|exact⟨_,rfl,rfl⟩|(simp;omega)|(simp;done)))
  refine aB (bQ _) ?_;simp -implicitDefEqProofs (disch:=omega) only[go_sem]
  (repeat(with_reducible refine And.intro ?_ ?_;focus first|omega|rfl|assumption|exact⟨_,rfl,rfl⟩|(simp;omega)|(simp;done)))
  refine aB (zD d.aW[i].iw (by omega) (fun t ht=>by have:=ZW ht;omega)) ?_;simp -implicitDefEqProofs (disch:=omega) only[go_sem];have hr:=je (l:=d.aW[i].iw.map dR)
  have hl2:((d.aW[i].iw.map dR).map au.enc).length=d.aW[i].iw.length:=by rw[List.length_map,List.length_map]
  (repeat(with_reducible refine And.intro ?_ ?_;focus first|omega|rfl|assumption|exact⟨_,rfl,rfl⟩|(simp;omega)|(simp;done)))
  simp only[List.cons_append,List.nil_append,List.map_cons,eU] at hs;rw[hs];exact fu 5 (by decide) (i+1) (by omega) rfl rfl rfl rfl (by omega)
 ·have hi':i=d.aW.length:=by omega
  subst hi';rw[hTe];refine aB (AP d (by omega)) ?_;simp -implicitDefEqProofs (disch:=omega) only[go_sem];refine aB (pE (iO d) (Ih d) (by omega)) ?_;simp -implicitDefEqProofs (disch:=omega) only[go_sem];rfl
end Go.Ab