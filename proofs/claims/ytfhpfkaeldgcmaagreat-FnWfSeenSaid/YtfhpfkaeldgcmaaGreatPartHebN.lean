/-
  SEVERAL TEXTS IN ONE (merged by program): contracts and models, each with its own heading.
-/
import Derived.Test.YtfhpfkaeldgcmaaGreatPartHebJ
open Go.Proofs Go.Proofs.Tryz
set_option linter.unusedSimpArgs false
set_option linter.unusedVariables false
set_option maxRecDepth 4000
namespace Go.Ab
section
variable {P:Program} {N:Nat} {S:Store} {s:St} {tm:List (Nat×V)}
def sQ(N:Nat):Code->Bool
 | .seq x y=>sQ N x&&sQ N y
 | .region _ R true=>Er R N
 | .cond _ x y=>sQ N x&&sQ N y
 | .block _ c=>sQ N c
 | .loop _=>true
 |c=>codeOk N c
theorem uq(eH:P.follows .mixedOrders=true):∀(c:Code)(Q:Exit->St->Prop)(s:St),sQ N c=true->nC P N c Q s->AW P N c Q s
 | .seq x y,Q,s,ok,h=>by
   simp only[sQ,Bool.and_eq_true] at ok;refine KM (AW.mono (uq eH x _ s ok.1 h) fun e s' h'=> ?_)
   cases e with
   |normal=>exact uq eH y Q s' ok.2 h'
   |_=>exact h'
 | .region _ R true,Q,s,ok,h=>Jd eH ok h
 | .region id R false,Q,s,ok,h=>gV eH _ Q s ok h
 | .cond c x y,Q,s,ok,h=>by
   simp only[sQ,Bool.and_eq_true] at ok;simp only[nC,yN] at h;split at h
   ·rename_i b hb;exact MN hb (fun e=>uq eH x Q s ok.1 (h.1 e)) (fun e=>uq eH y Q s ok.2 (h.2 e))
   ·exact h.elim
 | .block id c,Q,s,ok,h=>JG (uq eH c _ s ok h)
 | .exit id,Q,s,ok,h=>gV eH _ Q s ok h
 | .ret,Q,s,ok,h=>gV eH _ Q s ok h
 | .skip,Q,s,ok,h=>gV eH _ Q s ok h
 | .loop c,Q,s,ok,h=>by
   rw[nC,M5] at h;exact h
 | .rangeFunc _ _ _ _,Q,s,ok,h=>h.elim
 | .scope _,Q,s,ok,h=>h.elim
 | .label _,Q,s,ok,h=>h.elim
 | .goto _,Q,s,ok,h=>h.elim
 | .refuse _,Q,s,ok,h=>h.elim
theorem aen{ι:Type}{c:Code}{Q:Exit->St->Prop}(eH:P.follows .mixedOrders=true)(hok:sQ N c=true)(ts:List Nat)(f:ι->List V)(g:ι->Store)(p:ι->Prop)(μ:ι->Nat)(i0:ι)
 (h1:ts.map (look s.tm)=f i0)(h2:s.st=g i0)(h3:p i0)
 (round:∀i,p i->nC P N c (jG (Inv N ts f g p μ i) Q) ⟨mX ts (f i),g i⟩):AW P N (.loop c) Q s:=by
 refine MO (ι:=ι) (fun i s=>∃s0,jh N s s0/\ts.map (look s0.tm)=f i/\s0.st=g i/\p i) μ i0 ⟨s,jh.refl _ _,h1,h2,h3⟩ fun i s hI=> ?_;obtain⟨s0,hg,h1,h2,h3⟩:=hI;refine oD ?_ hg
 have hr:=(uq eH c _ _ hok (round i h3)).mono (Q':=jG (fun s'=>∃j,μ j<μ i/\∃s0,jh N s' s0/\ts.map (look s0.tm)=f j/\s0.st=g j/\p j) Q) fun e s' h=>by
  cases e with
  |normal=>
   obtain⟨j,s0,a1,a2,a3,a4,a5⟩:=h;exact⟨j,a1,s0,a2,a3,a4,a5⟩
  |_=>exact h
 obtain⟨tm,st⟩:=s0;simp only at h1 h2;subst h2;rw[<-h1] at hr;exact WH hr fun t=>yc _ ts t
end
section
variable {P:Program} {N:Nat} {S:Store}
end
def ai1(n:Nat)(out:List UInt8):List UInt8:=if h:n=0 then out else ai1 (n/10) (UInt8.ofNat (48+n % 10)::out)
termination_by n
decreasing_by omega
def ak1(k:Int):List UInt8:=if k<=0 then [109,48] else 109::ai1 k.toNat []
mutual
def LB:D->Nat
 | .sl es=>EL es
 | .b _=>1
 | .i _ _=>1
 | .s _=>1
 | .o _=>0
 | .ol _ _=>0
def Vu:List D->Nat
 |[]=>0
 |d::ds=>LB d+Vu ds
def EL:List (List D)->Nat
 |[]=>0
 |r::rs=>Vu r+EL rs
end
mutual
def mkD:D->Int->D
 | .sl es,k=>.sl (X5 es k)
 | .b _,k=>.b (decide (k.tmod 3=0))
 | .i kd _,k=>.i kd k
 | .s _,k=>.s (ak1 k)
 | .o v,_=>.o v
 | .ol n es,_=>.ol n es
def mkR:List D->Int->List D
 |[],_=>[]
 |d::ds,k=>mkD d k::mkR ds (k+LB d)
def X5:List (List D)->Int->List (List D)
 |[],_=>[]
 |r::rs,k=>mkR r k::X5 rs (k+Vu r)
end
mutual
def wu:D->Bool
 | .sl es=>kC es
 | .b _=>true
 | .i _ _=>true
 | .s _=>true
 | .o _=>true
 | .ol _ _=>true
def jS:List D->Bool
 |[]=>true
 |d::ds=>wu d&&jS ds
def kC:List (List D)->Bool
 |[]=>true
 |r::rs=>decide (r.length<=32)&&jS r&&kC rs
end
mutual
theorem ak2:∀d:D,wu d=true->LB d<=32*d.sz+1
 | .sl es,h=>by
   have:=aaY es (by simpa [wu] using h);simp only[LB,D.sz];omega
 | .b _,_=>by simp[LB]
 | .i _ _,_=>by simp[LB]
 | .s _,_=>by simp[LB]
 | .o _,_=>by simp[LB]
 | .ol _ _,_=>by simp[LB]
theorem aaZ:∀r:List D,jS r=true->Vu r<=32*bG r+r.length
 |[],_=>by simp[Vu]
 |d::ds,h=>by
  rw[jS,Bool.and_eq_true] at h;have h1:=ak2 d h.1;have h2:=aaZ ds h.2;simp only[Vu,bG,List.length_cons];omega
theorem aaY:∀rs:List (List D),kC rs=true->EL rs<=32*(rs.length+aQ rs)
 |[],_=>by simp[EL]
 |r::rs,h=>by
  rw[kC,Bool.and_eq_true,Bool.and_eq_true,decide_eq_true_eq] at h;have h1:=aaZ r h.1.2;have h2:=aaY rs h.2;simp only[EL,aQ,List.length_cons];omega
end
theorem iA:∀a b,jS (a++b)=(jS a&&jS b)
 |[],b=>by simp[jS]
 |d::ds,b=>by rw[List.cons_append,jS,jS,iA ds b,Bool.and_assoc]
theorem kK{α:Type}{f:α->List D}:∀{xs:List α},(∀x∈xs,jS (f x)=true/\(f x).length<=32)->kC (xs.map f)=true
 |[],_=>rfl
 |x::xs,h=>by
  rw[List.map_cons,kC,(h x (by simp)).1,kK fun y hy=>h y (by simp[hy]),decide_eq_true (h x (by simp)).2];rfl
abbrev aoc(P:Program)(f:FuncId)(es:List (List D)):Prop:=∀(k:Int)(l j r:Nat)(p:List (Nat×Nat))(S:Store)(rs:List (List (List D))),bn S (l,j)=some (.xf rs)->atR rs r p=some es->0<=k/\k+EL es<=4611686018427387904->
 bY P f [.c (.xp (l,j) r p),.c (.d (.i .i64 k))] S (fun res S'=>res=.c (.d (.i .i64 (k+EL es)))/\S'=aY S (l,j) (.xf (FW rs r p (X5 es k))))
abbrev aod(P:Program)(f:FuncId)(es:List (List D)):Prop:=∀(k:Int)(l j r:Nat)(p:List (Nat×Nat))(S:Store)(rs:List (List (List D))),bn S (l,j)=some (.xf rs)->atR rs r p=some (X5 es k)->0<=k/\k+EL es<=4611686018427387904->
 bY P f [.c (.xp (l,j) r p),.c (.d (.i .i64 k))] S (fun res S'=>res=.c (.d (.i .i64 (k+EL es)))/\S'=S)
section
variable {P:Program} {N:Nat} {c:Code} {Q:Exit->St->Prop} {s:St} {S:Store} {l j r n:Nat} {p:List (Nat×Nat)} {rs:List (List (List D))} {rows:List (List D)} {k:Int}
abbrev aoe(l j r:Nat)(p:List (Nat×Nat))(k:Int)(i:Nat):List V:=[.c (.xp (1+l,j) r p),.c (.d (.i .i64 k)),.c (.d (.i .i64 i))]
end
theorem wz(xs:List (List UInt8)):jE (xs.map encS)=true:=kJ fun _ _=>rfl
theorem wB(xs:List (List UInt8)):kC (xs.map encS)=true:=kK fun _ _=>⟨rfl,by simp[encS]⟩
mutual
theorem ay.gu:∀x:ay,jq x.enc=true/\jS x.enc=true
 | .mk a0 a1 a2=>by simp only[ay.enc,jq,pq,jS,wu,iy,iA,Bool.and_true,Bool.true_and,Bool.and_self,and_self,and_true,true_and,(ay.oJ a2).1,(ay.oJ a2).2]
theorem ay.oJ:∀xs:List ay,jE (ay.encs xs)=true/\kC (ay.encs xs)=true
 |[]=>⟨rfl,rfl⟩
 |x::xs=>by
  have h:decide ((ay.enc x).length<=32)=true:=by rw[ay.dx];rfl
  simp only[ay.encs,jE,kC,h,(ay.gu x).1,(ay.gu x).2,(ay.oJ xs).1,(ay.oJ xs).2,Bool.and_self,and_self]
end
theorem ay.iM(xs:List ay):jE (xs.map ay.enc)=true/\kC (xs.map ay.enc)=true:=by rw[<-ay.jJ];exact ay.oJ xs
theorem dY.gu(x:dY):jq x.enc=true/\jS x.enc=true:=by
 rw[dY.aj];simp only[List.cons_append,List.nil_append,jq,pq,jS,wu,iy,iA,Bool.and_true,Bool.true_and,Bool.and_self,and_self,and_true,true_and,(ay.gu x.fType).1,(ay.gu x.fType).2]
theorem dY.iM(xs:List dY):jE (xs.map dY.enc)=true/\kC (xs.map dY.enc)=true:=⟨kJ fun x _=>x.gu.1,kK fun x _=>⟨x.gu.2,by rw[dY.dx];decide⟩⟩
theorem aS.gu(x:aS):jq x.enc=true/\jS x.enc=true:=by
 rw[aS.aj];simp only[List.cons_append,List.nil_append,jq,pq,jS,wu,iy,iA,Bool.and_true,Bool.true_and,Bool.and_self,and_self,and_true,true_and,(ay.gu x.fType).1,(ay.gu x.fType).2]
theorem aS.iM(xs:List aS):jE (xs.map aS.enc)=true/\kC (xs.map aS.enc)=true:=⟨kJ fun x _=>x.gu.1,kK fun x _=>⟨x.gu.2,by rw[aS.dx];decide⟩⟩
mutual
theorem aD.gu:∀x:aD,jq x.enc=true/\jS x.enc=true
 | .mk a0 a1 a2 a3 a4 a5 a6=>by simp only[aD.enc,jq,pq,jS,wu,iy,iA,Bool.and_true,Bool.true_and,Bool.and_self,and_self,and_true,true_and,(ay.gu a4).1,(ay.gu a4).2,(aD.oJ a5).1,(aD.oJ a5).2,(bE.oJ a6).1,(bE.oJ a6).2]
theorem aD.oJ:∀xs:List aD,jE (aD.encs xs)=true/\kC (aD.encs xs)=true
 |[]=>⟨rfl,rfl⟩
 |x::xs=>by
  have h:decide ((aD.enc x).length<=32)=true:=by rw[aD.dx];rfl
  simp only[aD.encs,jE,kC,h,(aD.gu x).1,(aD.gu x).2,(aD.oJ xs).1,(aD.oJ xs).2,Bool.and_self,and_self]
theorem bE.gu:∀x:bE,jq x.enc=true/\jS x.enc=true
 | .mk a0 a1 a2=>by simp only[bE.enc,jq,pq,jS,wu,iy,iA,Bool.and_true,Bool.true_and,Bool.and_self,and_self,and_true,true_and,wz a1,wB a1,(aD.gu a2).1,(aD.gu a2).2]
theorem bE.oJ:∀xs:List bE,jE (bE.encs xs)=true/\kC (bE.encs xs)=true
 |[]=>⟨rfl,rfl⟩
 |x::xs=>by
  have h:decide ((bE.enc x).length<=32)=true:=by rw[bE.dx];rfl
  simp only[bE.encs,jE,kC,h,(bE.gu x).1,(bE.gu x).2,(bE.oJ xs).1,(bE.oJ xs).2,Bool.and_self,and_self]
end
theorem aD.iM(xs:List aD):jE (xs.map aD.enc)=true/\kC (xs.map aD.enc)=true:=by rw[<-aD.jJ];exact aD.oJ xs
theorem bE.iM(xs:List bE):jE (xs.map bE.enc)=true/\kC (xs.map bE.enc)=true:=by rw[<-bE.jJ];exact bE.oJ xs
mutual
theorem au.gu:∀x:au,jq x.enc=true/\jS x.enc=true
 | .mk a0 a1=>by simp only[au.enc,jq,pq,jS,wu,iy,iA,Bool.and_true,Bool.true_and,Bool.and_self,and_self,and_true,true_and,(au.oJ a1).1,(au.oJ a1).2]
theorem au.oJ:∀xs:List au,jE (au.encs xs)=true/\kC (au.encs xs)=true
 |[]=>⟨rfl,rfl⟩
 |x::xs=>by
  have h:decide ((au.enc x).length<=32)=true:=by rw[au.dx];rfl
  simp only[au.encs,jE,kC,h,(au.gu x).1,(au.gu x).2,(au.oJ xs).1,(au.oJ xs).2,Bool.and_self,and_self]
end
theorem au.iM(xs:List au):jE (xs.map au.enc)=true/\kC (xs.map au.enc)=true:=by rw[<-au.jJ];exact au.oJ xs
theorem aI.gu(x:aI):jq x.enc=true/\jS x.enc=true:=by
 rw[aI.aj];simp only[List.cons_append,List.nil_append,jq,pq,jS,wu,iy,iA,Bool.and_true,Bool.true_and,Bool.and_self,and_self,and_true,true_and,(ay.iM x.bO).1,(ay.iM x.bO).2,(ay.gu x.dn).1,(ay.gu x.dn).2,wz x.aU,wB x.aU,(aD.gu x.fBody).1,(aD.gu x.fBody).2]
theorem aI.iM(xs:List aI):jE (xs.map aI.enc)=true/\kC (xs.map aI.enc)=true:=⟨kJ fun x _=>x.gu.1,kK fun x _=>⟨x.gu.2,by rw[aI.dx];decide⟩⟩
theorem bD.gu(x:bD):jq x.enc=true/\jS x.enc=true:=by
 rw[bD.aj];simp only[List.cons_append,List.nil_append,jq,pq,jS,wu,iy,iA,Bool.and_true,Bool.true_and,Bool.and_self,and_self,and_true,true_and,wz x.dG,wB x.dG,(aI.iM x.aO).1,(aI.iM x.aO).2]
theorem bD.iM(xs:List bD):jE (xs.map bD.enc)=true/\kC (xs.map bD.enc)=true:=⟨kJ fun x _=>x.gu.1,kK fun x _=>⟨x.gu.2,by rw[bD.dx];decide⟩⟩
theorem aN.gu(x:aN):jq x.enc=true/\jS x.enc=true:=by
 rw[aN.aj];simp only[List.cons_append,List.nil_append,jq,pq,jS,wu,iy,iA,Bool.and_true,Bool.true_and,Bool.and_self,and_self,and_true,true_and,(ay.iM x.iB).1,(ay.iM x.iB).2]
theorem aN.iM(xs:List aN):jE (xs.map aN.enc)=true/\kC (xs.map aN.enc)=true:=⟨kJ fun x _=>x.gu.1,kK fun x _=>⟨x.gu.2,by rw[aN.dx];decide⟩⟩
theorem bg.gu(x:bg):jq x.enc=true/\jS x.enc=true:=by
 rw[bg.aj];simp only[List.cons_append,List.nil_append,jq,pq,jS,wu,iy,iA,Bool.and_true,Bool.true_and,Bool.and_self,and_self,and_true,true_and,wz x.aU,wB x.aU,(aN.iM x.aZ).1,(aN.iM x.aZ).2]
theorem bg.iM(xs:List bg):jE (xs.map bg.enc)=true/\kC (xs.map bg.enc)=true:=⟨kJ fun x _=>x.gu.1,kK fun x _=>⟨x.gu.2,by rw[bg.dx];decide⟩⟩
theorem aR.gu(x:aR):jq x.enc=true/\jS x.enc=true:=by
 rw[aR.aj];simp only[List.cons_append,List.nil_append,jq,pq,jS,wu,iy,iA,Bool.and_true,Bool.true_and,Bool.and_self,and_self,and_true,true_and,wz x.aU,wB x.aU,(aD.gu x.fBody).1,(aD.gu x.fBody).2]
theorem aR.iM(xs:List aR):jE (xs.map aR.enc)=true/\kC (xs.map aR.enc)=true:=⟨kJ fun x _=>x.gu.1,kK fun x _=>⟨x.gu.2,by rw[aR.dx];decide⟩⟩
theorem aJ.gu(x:aJ):jq x.enc=true/\jS x.enc=true:=by
 rw[aJ.aj];simp only[List.cons_append,List.nil_append,jq,pq,jS,wu,iy,iA,Bool.and_true,Bool.true_and,Bool.and_self,and_self,and_true,true_and,wz x.aU,wB x.aU,(ay.gu x.dI).1,(ay.gu x.dI).2,(aS.iM x.dV).1,(aS.iM x.dV).2,(ay.gu x.bX).1,(ay.gu x.bX).2,(aR.iM x.bA).1,(aR.iM x.bA).2]
theorem aJ.iM(xs:List aJ):jE (xs.map aJ.enc)=true/\kC (xs.map aJ.enc)=true:=⟨kJ fun x _=>x.gu.1,kK fun x _=>⟨x.gu.2,by rw[aJ.dx];decide⟩⟩
theorem dA.gu(x:dA):jq x.enc=true/\jS x.enc=true:=by
 rw[dA.aj];simp only[List.cons_append,List.nil_append,jq,pq,jS,wu,iy,iA,Bool.and_true,Bool.true_and,Bool.and_self,and_self,and_true,true_and,(ay.gu x.fType).1,(ay.gu x.fType).2]
theorem dA.iM(xs:List dA):jE (xs.map dA.enc)=true/\kC (xs.map dA.enc)=true:=⟨kJ fun x _=>x.gu.1,kK fun x _=>⟨x.gu.2,by rw[dA.dx];decide⟩⟩
theorem bF.gu(x:bF):jq x.enc=true/\jS x.enc=true:=by
 rw[bF.aj];simp only[List.cons_append,List.nil_append,jq,pq,jS,wu,iy,iA,Bool.and_true,Bool.true_and,Bool.and_self,and_self,and_true,true_and,wz x.aU,wB x.aU,(aS.iM x.dV).1,(aS.iM x.dV).2,(dA.iM x.bO).1,(dA.iM x.bO).2,(ay.gu x.dn).1,(ay.gu x.dn).2,(aD.gu x.fBody).1,(aD.gu x.fBody).2]
theorem bF.iM(xs:List bF):jE (xs.map bF.enc)=true/\kC (xs.map bF.enc)=true:=⟨kJ fun x _=>x.gu.1,kK fun x _=>⟨x.gu.2,by rw[bF.dx];decide⟩⟩
theorem aK.gu(x:aK):jq x.enc=true/\jS x.enc=true:=by
 rw[aK.aj];simp only[List.cons_append,List.nil_append,jq,pq,jS,wu,iy,iA,Bool.and_true,Bool.true_and,Bool.and_self,and_self,and_true,true_and,wz x.dP,wB x.dP,(bD.iM x.dJ).1,(bD.iM x.dJ).2,(bg.iM x.bI).1,(bg.iM x.bI).2,(aJ.iM x.dX).1,(aJ.iM x.dX).2,(bF.iM x.dK).1,(bF.iM x.dK).2]
theorem aK.iM(xs:List aK):jE (xs.map aK.enc)=true/\kC (xs.map aK.enc)=true:=⟨kJ fun x _=>x.gu.1,kK fun x _=>⟨x.gu.2,by rw[aK.dx];decide⟩⟩
theorem aM.gu(x:aM):jq x.enc=true/\jS x.enc=true:=by
 rw[aM.aj];simp only[List.cons_append,List.nil_append,jq,pq,jS,wu,iy,iA,Bool.and_true,Bool.true_and,Bool.and_self,and_self,and_true,true_and,(aK.iM x.aG).1,(aK.iM x.aG).2]
theorem aM.iM(xs:List aM):jE (xs.map aM.enc)=true/\kC (xs.map aM.enc)=true:=⟨kJ fun x _=>x.gu.1,kK fun x _=>⟨x.gu.2,by rw[aM.dx];decide⟩⟩
theorem dW.gu(x:dW):jq x.enc=true/\jS x.enc=true:=by
 rw[dW.aj];simp only[List.cons_append,List.nil_append,jq,pq,jS,wu,iy,iA,Bool.and_true,Bool.true_and,Bool.and_self,and_self,and_true,true_and]
theorem dW.iM(xs:List dW):jE (xs.map dW.enc)=true/\kC (xs.map dW.enc)=true:=⟨kJ fun x _=>x.gu.1,kK fun x _=>⟨x.gu.2,by rw[dW.dx];decide⟩⟩
def lx(l:List au)(n:Nat):List (List D):=ig (l.map au.enc) n
theorem jf{l:List au}:∀r∈l.map au.enc,r.length=2:=fun r hr=>by
 obtain⟨z,_,rfl⟩:=List.mem_map.1 hr;exact z.dx
theorem Uu{cs cs':List C}(hl:cs'.length=cs.length)(h:∀(j:Nat)(x y:C),cs[j]? =some x->cs'[j]? =some y->∀w σ S β v,iq w σ S β x v->iq w σ S β y v):Less (.agg cs) (.agg cs'):=by
 rintro w σ S β v ⟨a,ha,hc⟩;refine⟨a,ha,hl.trans hc.1,fun j y hy=> ?_⟩
 have hj:j<cs.length:=by rw[<-hl];exact(List.getElem?_eq_some_iff.1 hy).1
 obtain⟨v,h1,h2,h3⟩:=hc.2 j _ (List.getElem?_eq_getElem hj);exact⟨v,h1,h j _ y (List.getElem?_eq_getElem hj) hy w σ S β v h2,h3⟩
theorem eU(s:List UInt8):(bQ s).enc=[.s s,.sl []]:=by rw[au.aj];rfl
theorem jg(l:List au):(eB l).enc=[.s [],.sl (l.map au.enc)]:=by rw[au.aj];rfl
theorem iN{base l:List au}{i:Nat}(hi:i<l.length):(base++l.take i).map au.enc++[[.s l[i].bH,.sl (l[i].aA.map au.enc)]]=(base++l.take (i+1)).map au.enc:=by
 rw[List.take_succ_eq_append_getElem hi,<-List.append_assoc,List.map_append (l₂:=[l[i]]),List.map_cons,List.map_nil,au.aj]
theorem DU(s:List UInt8)(es:List (List D)):Less (.agg [.d (.s s),.bM es]) (.agg [.d (.s s),.d (.sl es)]):=Uu rfl fun j x y hx hy w σ S β v hv=>by
 match j,hx,hy with
 |0,hx,hy=>cases hx;cases hy;exact hv
 |1,hx,hy=>cases hx;cases hy;exact hv.1
 |j+2,hx,hy=>simp at hx
theorem RP(s:List UInt8):aX prog 266 [.c (.d (.s s))] (.agg [.d (.s s),.bM []]):=fun S=>by
 refine zcx [.cell 2 202] func266 ntmps266 ?_;simp -implicitDefEqProofs (disch:=omega) only[go_sem]
theorem bS(s:List UInt8):aX prog 266 [.c (.d (.s s))] (.agg [.d (.s s),.d (.sl [])]):=aX.less (RP s) (DU s [])
theorem lg(es:List (List D))(hes:∀e∈es,e.length=2)(hl:es.length<=1073741824):aX prog 265 [.c (.d (.sl es))] (.agg [.d (.s []),.d (.sl es)]):=fun S=>by
 refine zcx [.cell 2 202] func265 ntmps265 ?_;simp -implicitDefEqProofs (disch:=omega) only[go_sem];exact⟨hes,⟨_,rfl,rfl⟩,(fun y hy=>by cases hy),hl⟩
theorem jK(es:List (List D))(hes:∀e∈es,e.length=2)(hl:es.length<=1073741824)(cB:List Ab.Obj)(Ω:Store):bY prog 265 [.c (.d (.sl es))] (cB::Ω)
 (fun r S'=>r=.agg [.d (.s []),.bV (0,cB.length+1) es]/\S'=(cB++[.box [.d (.s []),.bV (0,cB.length+1) es],.tok 2 es])::Ω):=by
 refine Gt (rs:=[.cell 2 202]) zmx func265 ntmps265 rfl rfl rfl rfl rfl ?_;simp -implicitDefEqProofs (disch:=omega) only[go_sem];exact⟨hes,⟨_,rfl,rfl⟩,(fun y hy=>by cases hy),hl⟩
theorem GQ(xs:List (List UInt8))(hx:xs.length<=1073741824):aX prog 275 [.c (.d (.sl (xs.map encS)))] (.c (.d (.sl ((cZ xs).map au.enc)))):=fun S=>by
 refine zcx [.tmp 2] func275 ntmps275 ?_;simp -implicitDefEqProofs (disch:=omega) only[go_sem]
 (repeat(with_reducible refine And.intro ?_ ?_;focus first|omega|rfl|assumption|exact⟨_,rfl,rfl⟩|(simp;omega)|(simp;done)))
 refine kN 3 2 [] rfl (by simp) ?_
 refine bN (ι:=Nat) zmx rfl [0,3,4] (fun i=>[.c (.d (.sl (xs.map encS))),.c (.bV (0,0) (((cZ xs).take i).map au.enc)),.c (.d (.i .i64 i))]) (fun i=>[.tok 2 (((cZ xs).take i).map au.enc)]::S)
  (fun i=>i<=xs.length) (fun i=>xs.length-i) 0 rfl rfl (Nat.zero_le _) ?_
 intro i hi
 have hl:(((cZ xs).take i).map au.enc).length<=i:=by rw[List.length_map];exact List.length_take_le _ _
 simp -implicitDefEqProofs (disch:=omega) only[go_sem]
 with_reducible refine aC (fun hb=> ?_) (fun hb=> ?_)<;>have h:=hb<;>(try simp only[wf_preprocess] at h)<;>simp -implicitDefEqProofs (disch:=omega) only[go_sem,hb]<;>(repeat(with_reducible refine And.intro ?_ ?_;focus first|omega|rfl|assumption|exact⟨_,rfl,rfl⟩|(simp;omega)|(simp;done)))
 ·have hi':i<xs.length:=by omega
  have hs:=iN (base:=[]) (l:=cZ xs) (i:=i) (by rw[kR];exact hi')
  have hg:(cZ xs)[i]'(by rw[kR];exact hi')=bQ xs[i]:=by simp[cZ]
  rw[hg] at hs;simp only[List.nil_append,XO,XP,List.map_nil] at hs
  (repeat(with_reducible refine And.intro ?_ ?_;focus first|omega|rfl|assumption|exact⟨_,rfl,rfl⟩|(simp;omega)|(simp;done)))
  refine aB (bS xs[i]) ?_;simp -implicitDefEqProofs (disch:=omega) only[go_sem]
  (repeat(with_reducible refine And.intro ?_ ?_;focus first|omega|rfl|assumption|exact⟨_,rfl,rfl⟩|(simp;omega)|(simp;done)))
  rw[hs];exact bT (i+1) (by omega) rfl rfl (by omega)
 ·have hi':i=(cZ xs).length:=by rw[kR];omega
  rw[hi',List.take_length]
theorem dZ(xs:List (List UInt8))(hx:xs.length<=1073741824):aX prog 267 [.c (.d (.sl (xs.map encS)))] (.agg [.d (.s []),.d (.sl ((cZ xs).map au.enc))]):=fun S=>by
 refine zcx [.cell 2 202] func267 ntmps267 ?_;simp -implicitDefEqProofs (disch:=omega) only[go_sem];refine aB (GQ xs hx) ?_;simp -implicitDefEqProofs (disch:=omega) only[go_sem]
theorem LC:∀N:Nat,(∀x:ay,SizeOf.sizeOf x<N->x.sz<=4194304->aX prog 269 [x.v] (.agg [.d (.s (dU x).bH),.d (.sl ((dU x).aA.map au.enc))]))
 |0=>fun x h=>by omega
 |N+1=>by
  have ih:=LC N;intro x hn hsz;have nO:=ay.j3 x;have hts:=PL hsz;have hx:=aiM x
  have hall:∀t∈x.fArgs,t.sz<=4194304:=fun t ht=>by
   obtain⟨i,hi,e⟩:=List.getElem_of_mem ht;rw[<-e];exact(DN hi hsz).1
  intro S;refine zcx [.cell 2 202] func269 ntmps269 ?_;simp -implicitDefEqProofs (disch:=omega) only[go_sem]
  with_reducible refine aC (fun hb=> ?_) (fun hb=> ?_)<;>have h:=hb<;>(try simp only[wf_preprocess] at h)<;>simp -implicitDefEqProofs (disch:=omega) only[go_sem,hb]<;>(repeat(with_reducible refine And.intro ?_ ?_;focus first|omega|rfl|assumption|exact⟨_,rfl,rfl⟩|(simp;omega)|(simp;done)))
  ·rw[if_pos h] at hx;rw[hx]
   (repeat(with_reducible refine And.intro ?_ ?_;focus first|omega|rfl|assumption|exact⟨_,rfl,rfl⟩|(simp;omega)|(simp;done)))
   refine aB (bS _) ?_;simp -implicitDefEqProofs (disch:=omega) only[go_sem];rfl
  rw[if_neg h] at hx
  with_reducible refine aC (fun hb=> ?_) (fun hb=> ?_)<;>have h:=hb<;>(try simp only[wf_preprocess] at h)<;>simp -implicitDefEqProofs (disch:=omega) only[go_sem,hb]<;>(repeat(with_reducible refine And.intro ?_ ?_;focus first|omega|rfl|assumption|exact⟨_,rfl,rfl⟩|(simp;omega)|(simp;done)))
  ·rw[if_pos h] at hx;rw[hx];refine aB (bS _) ?_;simp -implicitDefEqProofs (disch:=omega) only[go_sem];refine aB (bS _) ?_;simp -implicitDefEqProofs (disch:=omega) only[go_sem];refine aB (lg _ (by simp) (by simp)) ?_;simp -implicitDefEqProofs (disch:=omega) only[go_sem];simp only[lD,iw,List.map_cons,List.map_nil,eU,EI]
  rw[if_neg h] at hx
  have amT:x.aV=2->x.fArgs.length=0->dU x=bQ x.fName:=fun a b=>by rw[hx,if_pos ⟨a,b⟩]
  have aeo:¬(x.aV=2/\x.fArgs.length=0)->dU x=eB ((if x.aV=3 then [bQ iZ] else [])++[bQ x.fName]++x.fArgs.map dU):=fun a=>by rw[hx,if_neg a]
  clear hx
  repeat' (first|(with_reducible refine aC (fun hb=> ?_) (fun hb=> ?_)<;>have h:=hb<;>(try simp only[wf_preprocess] at h)<;>simp -implicitDefEqProofs (disch:=omega) only[go_sem,hb]<;>(repeat(with_reducible refine And.intro ?_ ?_;focus first|omega|rfl|assumption|exact⟨_,rfl,rfl⟩|(simp;omega)|(simp;done)))))
  ·rw[amT (by omega) (by omega)];refine aB (bS _) ?_;simp -implicitDefEqProofs (disch:=omega) only[go_sem];rfl
  ·exfalso;omega
  ·have hx:=aeo (by omega);rw[if_neg h,List.nil_append] at hx;refine aB (bS _) ?_;simp -implicitDefEqProofs (disch:=omega) only[go_sem]
   (repeat(with_reducible refine And.intro ?_ ?_;focus first|omega|rfl|assumption|exact⟨_,rfl,rfl⟩|(simp;omega)|(simp;done)))
   refine bN (ι:=Nat) zmx rfl [1,2,3,4] (fun i=>[.c (.ptr (0,0) 0),.c (.ptr (0,1) 0),.c (.ptr (0,2) 0),.c (.d (.i .i64 i))])
    (fun i=>[.box [.d (.i .i64 x.aV),.d (.s x.fName),.d (.sl (x.fArgs.map ay.enc))],.box [.d (.s []),.bM []],.box [.d (.s []),.bV (0,3) (([bQ x.fName]++(x.fArgs.map dU).take i).map au.enc)],.tok 2 (([bQ x.fName]++(x.fArgs.map dU).take i).map au.enc)]::S)
    (fun i=>i<=x.fArgs.length) (fun i=>x.fArgs.length-i) 0 rfl ?_ (Nat.zero_le _) ?_
   ·simp only[List.take_zero,List.append_nil,List.map_cons,List.map_nil,List.cons_append,List.nil_append,eU]<;>(try rfl)
   intro i hi
   have hl:(([bQ x.fName]++(x.fArgs.map dU).take i).map au.enc).length<=i+2:=by
    rw[List.length_map,List.length_append];have:=List.length_take_le i (x.fArgs.map dU);simp only[List.length_cons,List.length_nil];omega
   have hs:=fun hi=>iN (base:=[bQ x.fName]) (l:=x.fArgs.map dU) (i:=i) hi;have hrw:=jf (l:=[bQ x.fName]++(x.fArgs.map dU).take i);generalize hR:([bQ x.fName]++(x.fArgs.map dU).take i).map au.enc=R at hl hs hrw;simp -implicitDefEqProofs (disch:=omega) only[go_sem]
   with_reducible refine aC (fun hb=> ?_) (fun hb=> ?_)<;>have h:=hb<;>(try simp only[wf_preprocess] at h)<;>simp -implicitDefEqProofs (disch:=omega) only[go_sem,hb]<;>(repeat(with_reducible refine And.intro ?_ ?_;focus first|omega|rfl|assumption|exact⟨_,rfl,rfl⟩|(simp;omega)|(simp;done)))
   ·have hi':i<x.fArgs.length:=by omega
    have hs':=hs (by rw[List.length_map];exact hi');rw[List.getElem_map] at hs'
    (repeat(with_reducible refine And.intro ?_ ?_;focus first|omega|rfl|assumption|exact⟨_,rfl,rfl⟩|(simp;omega)|(simp;done)))
    refine aB (ih x.fArgs[i] (by have:=List.sizeOf_lt_of_mem (List.getElem_mem hi');omega) (hall _ (List.getElem_mem hi'))) ?_;simp -implicitDefEqProofs (disch:=omega) only[go_sem]
    (repeat(with_reducible refine And.intro ?_ ?_;focus first|omega|rfl|assumption|exact⟨_,rfl,rfl⟩|(simp;omega)|(simp;done)))
    rw[hs'];exact bT (i+1) (by omega) rfl rfl (by omega)
   ·have hi':i=(x.fArgs.map dU).length:=by rw[List.length_map];omega
    rw[hx,<-hR,hi',List.take_length];simp only[lD,iw,List.cons_append,List.nil_append]
  ·have hx:=aeo (by omega);rw[if_pos h] at hx;refine aB (bS _) ?_;simp -implicitDefEqProofs (disch:=omega) only[go_sem]
   (repeat(with_reducible refine And.intro ?_ ?_;focus first|omega|rfl|assumption|exact⟨_,rfl,rfl⟩|(simp;omega)|(simp;done)))
   refine aB (bS _) ?_;simp -implicitDefEqProofs (disch:=omega) only[go_sem]
   (repeat(with_reducible refine And.intro ?_ ?_;focus first|omega|rfl|assumption|exact⟨_,rfl,rfl⟩|(simp;omega)|(simp;done)))
   refine bN (ι:=Nat) zmx rfl [1,2,3,4] (fun i=>[.c (.ptr (0,0) 0),.c (.ptr (0,1) 0),.c (.ptr (0,2) 0),.c (.d (.i .i64 i))])
    (fun i=>[.box [.d (.i .i64 x.aV),.d (.s x.fName),.d (.sl (x.fArgs.map ay.enc))],.box [.d (.s []),.bM []],.box [.d (.s []),.bV (0,3) (([bQ iZ,bQ x.fName]++(x.fArgs.map dU).take i).map au.enc)],.tok 2 (([bQ iZ,bQ x.fName]++(x.fArgs.map dU).take i).map au.enc)]::S)
    (fun i=>i<=x.fArgs.length) (fun i=>x.fArgs.length-i) 0 rfl ?_ (Nat.zero_le _) ?_
   ·simp only[List.take_zero,List.append_nil,List.map_cons,List.map_nil,List.cons_append,List.nil_append,eU]<;>(try rfl)
   intro i hi
   have hl:(([bQ iZ,bQ x.fName]++(x.fArgs.map dU).take i).map au.enc).length<=i+2:=by
    rw[List.length_map,List.length_append];have:=List.length_take_le i (x.fArgs.map dU);simp only[List.length_cons,List.length_nil];omega
   have hs:=fun hi=>iN (base:=[bQ iZ,bQ x.fName]) (l:=x.fArgs.map dU) (i:=i) hi;have hrw:=jf (l:=[bQ iZ,bQ x.fName]++(x.fArgs.map dU).take i);generalize hR:([bQ iZ,bQ x.fName]++(x.fArgs.map dU).take i).map au.enc=R at hl hs hrw;simp -implicitDefEqProofs (disch:=omega) only[go_sem]
   with_reducible refine aC (fun hb=> ?_) (fun hb=> ?_)<;>have h:=hb<;>(try simp only[wf_preprocess] at h)<;>simp -implicitDefEqProofs (disch:=omega) only[go_sem,hb]<;>(repeat(with_reducible refine And.intro ?_ ?_;focus first|omega|rfl|assumption|exact⟨_,rfl,rfl⟩|(simp;omega)|(simp;done)))
   ·have hi':i<x.fArgs.length:=by omega
    have hs':=hs (by rw[List.length_map];exact hi');rw[List.getElem_map] at hs'
    (repeat(with_reducible refine And.intro ?_ ?_;focus first|omega|rfl|assumption|exact⟨_,rfl,rfl⟩|(simp;omega)|(simp;done)))
    refine aB (ih x.fArgs[i] (by have:=List.sizeOf_lt_of_mem (List.getElem_mem hi');omega) (hall _ (List.getElem_mem hi'))) ?_;simp -implicitDefEqProofs (disch:=omega) only[go_sem]
    (repeat(with_reducible refine And.intro ?_ ?_;focus first|omega|rfl|assumption|exact⟨_,rfl,rfl⟩|(simp;omega)|(simp;done)))
    rw[hs'];exact bT (i+1) (by omega) rfl rfl (by omega)
   ·have hi':i=(x.fArgs.map dU).length:=by rw[List.length_map];omega
    rw[hx,<-hR,hi',List.take_length];simp only[lD,iw,List.cons_append,List.nil_append]
  ·have hx:=aeo (by omega);rw[if_neg h,List.nil_append] at hx;refine aB (bS _) ?_;simp -implicitDefEqProofs (disch:=omega) only[go_sem]
   (repeat(with_reducible refine And.intro ?_ ?_;focus first|omega|rfl|assumption|exact⟨_,rfl,rfl⟩|(simp;omega)|(simp;done)))
   refine bN (ι:=Nat) zmx rfl [1,2,3,4] (fun i=>[.c (.ptr (0,0) 0),.c (.ptr (0,1) 0),.c (.ptr (0,2) 0),.c (.d (.i .i64 i))])
    (fun i=>[.box [.d (.i .i64 x.aV),.d (.s x.fName),.d (.sl (x.fArgs.map ay.enc))],.box [.d (.s []),.bM []],.box [.d (.s []),.bV (0,3) (([bQ x.fName]++(x.fArgs.map dU).take i).map au.enc)],.tok 2 (([bQ x.fName]++(x.fArgs.map dU).take i).map au.enc)]::S)
    (fun i=>i<=x.fArgs.length) (fun i=>x.fArgs.length-i) 0 rfl ?_ (Nat.zero_le _) ?_
   ·simp only[List.take_zero,List.append_nil,List.map_cons,List.map_nil,List.cons_append,List.nil_append,eU]<;>(try rfl)
   intro i hi
   have hl:(([bQ x.fName]++(x.fArgs.map dU).take i).map au.enc).length<=i+2:=by
    rw[List.length_map,List.length_append];have:=List.length_take_le i (x.fArgs.map dU);simp only[List.length_cons,List.length_nil];omega
   have hs:=fun hi=>iN (base:=[bQ x.fName]) (l:=x.fArgs.map dU) (i:=i) hi;have hrw:=jf (l:=[bQ x.fName]++(x.fArgs.map dU).take i);generalize hR:([bQ x.fName]++(x.fArgs.map dU).take i).map au.enc=R at hl hs hrw;simp -implicitDefEqProofs (disch:=omega) only[go_sem]
   with_reducible refine aC (fun hb=> ?_) (fun hb=> ?_)<;>have h:=hb<;>(try simp only[wf_preprocess] at h)<;>simp -implicitDefEqProofs (disch:=omega) only[go_sem,hb]<;>(repeat(with_reducible refine And.intro ?_ ?_;focus first|omega|rfl|assumption|exact⟨_,rfl,rfl⟩|(simp;omega)|(simp;done)))
   ·have hi':i<x.fArgs.length:=by omega
    have hs':=hs (by rw[List.length_map];exact hi');rw[List.getElem_map] at hs'
    (repeat(with_reducible refine And.intro ?_ ?_;focus first|omega|rfl|assumption|exact⟨_,rfl,rfl⟩|(simp;omega)|(simp;done)))
    refine aB (ih x.fArgs[i] (by have:=List.sizeOf_lt_of_mem (List.getElem_mem hi');omega) (hall _ (List.getElem_mem hi'))) ?_;simp -implicitDefEqProofs (disch:=omega) only[go_sem]
    (repeat(with_reducible refine And.intro ?_ ?_;focus first|omega|rfl|assumption|exact⟨_,rfl,rfl⟩|(simp;omega)|(simp;done)))
    rw[hs'];exact bT (i+1) (by omega) rfl rfl (by omega)
   ·have hi':i=(x.fArgs.map dU).length:=by rw[List.length_map];omega
    rw[hx,<-hR,hi',List.take_length];simp only[lD,iw,List.cons_append,List.nil_append]
theorem jX(x:ay)(hsz:x.sz<=4194304):aX prog 269 [x.v] (.agg [.d (.s (dU x).bH),.d (.sl ((dU x).aA.map au.enc))]):=LC _ x (Nat.lt_succ_self _) hsz
theorem Ak(xs:List ay)(hlen:xs.length<=4194304)(hsz:∀t∈xs,t.sz<=4194304):aX prog 268 [.c (.d (.sl (xs.map ay.enc)))] (.c (.d (.sl ((xs.map dU).map au.enc)))):=fun S=>by
 refine zcx [.tmp 2] func268 ntmps268 ?_;simp -implicitDefEqProofs (disch:=omega) only[go_sem]
 (repeat(with_reducible refine And.intro ?_ ?_;focus first|omega|rfl|assumption|exact⟨_,rfl,rfl⟩|(simp;omega)|(simp;done)))
 refine kN 3 2 [] rfl (by simp) ?_
 refine bN (ι:=Nat) zmx rfl [0,3,4] (fun i=>[.c (.d (.sl (xs.map ay.enc))),.c (.bV (0,0) (((xs.map dU).take i).map au.enc)),.c (.d (.i .i64 i))]) (fun i=>[.tok 2 (((xs.map dU).take i).map au.enc)]::S)
  (fun i=>i<=xs.length) (fun i=>xs.length-i) 0 rfl rfl (Nat.zero_le _) ?_
 intro i hi
 have hl:(((xs.map dU).take i).map au.enc).length<=i:=by rw[List.length_map];exact List.length_take_le _ _
 simp -implicitDefEqProofs (disch:=omega) only[go_sem]
 with_reducible refine aC (fun hb=> ?_) (fun hb=> ?_)<;>have h:=hb<;>(try simp only[wf_preprocess] at h)<;>simp -implicitDefEqProofs (disch:=omega) only[go_sem,hb]<;>(repeat(with_reducible refine And.intro ?_ ?_;focus first|omega|rfl|assumption|exact⟨_,rfl,rfl⟩|(simp;omega)|(simp;done)))
 ·have hi':i<xs.length:=by omega
  have hs:=iN (base:=[]) (l:=xs.map dU) (i:=i) (by rw[List.length_map];exact hi');rw[List.getElem_map] at hs;simp only[List.nil_append] at hs
  (repeat(with_reducible refine And.intro ?_ ?_;focus first|omega|rfl|assumption|exact⟨_,rfl,rfl⟩|(simp;omega)|(simp;done)))
  refine aB (jX xs[i] (hsz _ (List.getElem_mem hi'))) ?_;simp -implicitDefEqProofs (disch:=omega) only[go_sem]
  (repeat(with_reducible refine And.intro ?_ ?_;focus first|omega|rfl|assumption|exact⟨_,rfl,rfl⟩|(simp;omega)|(simp;done)))
  rw[hs];exact bT (i+1) (by omega) rfl rfl (by omega)
 ·have hi':i=(xs.map dU).length:=by rw[List.length_map];omega
  rw[hi',List.take_length]
theorem pY(b:Bool)(x:au)(hsz:x.sz<=67108864):aX prog 271 [.c (.d (.b b)),x.v] (um b x).v:=by
 have zero:aX prog 271 [.c (.d (.b b)),x.v] (.agg [.d (.s []),.bM []])->aX prog 271 [.c (.d (.b b)),x.v] dh.v:=fun h=>aX.less h (DU [] [])
 cases b with
 |false=>
  refine zero fun S=> ?_;refine zcx [.cell 4 202] func271 ntmps271 ?_;simp -implicitDefEqProofs (disch:=omega) only[go_sem]
 |true=>
  show aX prog 271 [.c (.d (.b true)),x.v] (Bv x).v;unfold Bv
  cases hv:iR x with
  |false=>
   refine zero fun S=> ?_;refine zcx [.cell 4 202] func271 ntmps271 ?_;simp -implicitDefEqProofs (disch:=omega) only[go_sem];refine aB (lS x hsz) ?_;simp -implicitDefEqProofs (disch:=omega) only[go_sem,hv]
  |true=>
   intro S;refine zcx [.cell 4 202] func271 ntmps271 ?_;simp -implicitDefEqProofs (disch:=omega) only[go_sem];refine aB (lS x hsz) ?_;simp -implicitDefEqProofs (disch:=omega) only[go_sem,hv]
theorem bg.bounds{x:bg}(h:x.sz<=4194304):x.fName.length<=4194304/\x.aU.length<=4194304/\x.aZ.length<=4194304/\∀s∈x.aU,s.length<=4194304:=by
 simp only[bg.sz,bg.aj,bG,bC,D.sz,List.length_map] at h;refine⟨by omega,by omega,by omega,fun s hs=> ?_⟩;have:=zo hs;omega
theorem bg.afR{x:bg}{i:Nat}(hi:i<x.aZ.length)(h:x.sz<=4194304):x.aZ[i].sz<=4194304:=by
 have hx:x.aZ[i].sz<=aQ (x.aZ.map aN.enc):=dO (List.mem_map_of_mem (List.getElem_mem hi));simp only[bg.sz,bg.aj,bG,bC,D.sz,List.length_map] at h;omega
theorem aN.bounds{x:aN}(h:x.sz<=4194304):x.fName.length<=4194304/\x.iB.length<=4194304/\∀t∈x.iB,t.sz<=4194304:=by
 simp only[aN.sz,aN.aj,bG,bC,D.sz,List.length_map] at h;refine⟨by omega,by omega,fun t ht=> ?_⟩;have hx:t.sz<=aQ (x.iB.map ay.enc):=dO (List.mem_map_of_mem ht);omega
noncomputable def vk(vars:List (List UInt8))(c:aN):Bool:=dec (c.iB.length<=4)&&mK vars c.iB
noncomputable def ru(d:bg):List (List UInt8):=d.aZ.map aN.fName
noncomputable def iO(d:bg):Bool:=
 validName d.fName&&(dec (d.aU.length<=3)&&(iQ d.aU&&(dec (1<=d.aZ.length)&&(dec (d.aZ.length<=5)&&(d.aZ.all (vk d.aU)&&iQ (ru d))))))
theorem BD(d:bg)(hsz:d.sz<=4194304):aX prog 124 [d.v] (.c (.d (.b (iO d)))):=fun S=>by
 have hb0:=bg.bounds hsz
 have bad:∀i,∀hi:i<d.aZ.length,vk d.aU d.aZ[i]=false->iO d=false:=fun i hi h=>by
  have:d.aZ.all (vk d.aU)=false:=Bool.eq_false_iff.2 fun hx=>by
   rw[List.all_eq_true.1 hx _ (List.getElem_mem hi)] at h;cases h
  unfold iO
  rw[this];simp
 refine zcx [.tmp 2] func124 ntmps124 ?_;simp -implicitDefEqProofs (disch:=omega) only[go_sem]
 (repeat(with_reducible refine And.intro ?_ ?_;focus first|omega|rfl|assumption|exact⟨_,rfl,rfl⟩|(simp;omega)|(simp;done)))
 refine kN 3 1 [] rfl (by simp) ?_
 refine bN (ι:=Nat×List (List UInt8)) zmx rfl [1,3,4] (fun y=>[.c (.ptr (0,0) 0),.c (.bV (0,1) (y.2.map encS)),.c (.d (.i .i64 y.1))]) (fun y=>[.box (d.enc.map .d),.tok 1 (y.2.map encS)]::S)
  (fun y=>y.1<=d.aZ.length/\y.2=(ru d).take y.1/\∀j,∀hj:j<d.aZ.length,j<y.1->vk d.aU d.aZ[j]=true) (fun y=>d.aZ.length-y.1) (0,[]) rfl ?_ ⟨Nat.zero_le _,rfl,fun j _ h=>by simp only at h;omega⟩ ?_
 ·simp -implicitDefEqProofs (disch:=omega) only[go_sem]
 rintro⟨i,names⟩ ⟨p1,p2,p3⟩;simp only at p1 p2 p3
 have pl:names.length<=d.aZ.length:=by rw[p2];simp[ru];omega
 simp -implicitDefEqProofs (disch:=omega) only[go_sem]
 with_reducible refine aC (fun hb=> ?_) (fun hb=> ?_)<;>have h:=hb<;>(try simp only[wf_preprocess] at h)<;>simp -implicitDefEqProofs (disch:=omega) only[go_sem,hb]<;>(repeat(with_reducible refine And.intro ?_ ?_;focus first|omega|rfl|assumption|exact⟨_,rfl,rfl⟩|(simp;omega)|(simp;done)))
 ·have hi:i<d.aZ.length:=by omega
  have hc:=aN.bounds (bg.afR hi hsz)
  (repeat(with_reducible refine And.intro ?_ ?_;focus first|omega|rfl|assumption|exact⟨_,rfl,rfl⟩|(simp;omega)|(simp;done)))
  with_reducible refine aC (fun hb=> ?_) (fun hb=> ?_)<;>have h:=hb<;>(try simp only[wf_preprocess] at h)<;>simp -implicitDefEqProofs (disch:=omega) only[go_sem,hb]<;>(repeat(with_reducible refine And.intro ?_ ?_;focus first|omega|rfl|assumption|exact⟨_,rfl,rfl⟩|(simp;omega)|(simp;done)))
  ·rw[bad i hi (by unfold vk;rw[bJ (by omega)];rfl)]
  have h1:=h
  (repeat(with_reducible refine And.intro ?_ ?_;focus first|omega|rfl|assumption|exact⟨_,rfl,rfl⟩|(simp;omega)|(simp;done)))
  refine aB (Ol d.aZ[i].iB d.aU (by omega) hc.2.2 (by omega)) ?_;simp -implicitDefEqProofs (disch:=omega) only[go_sem]<;>(repeat(with_reducible refine And.intro ?_ ?_;focus first|omega|rfl|assumption|exact⟨_,rfl,rfl⟩|(simp;omega)|(simp;done)))
  with_reducible refine aC (fun hb=> ?_) (fun hb=> ?_)<;>have h:=hb<;>(try simp only[wf_preprocess] at h)<;>simp -implicitDefEqProofs (disch:=omega) only[go_sem,hb]<;>(repeat(with_reducible refine And.intro ?_ ?_;focus first|omega|rfl|assumption|exact⟨_,rfl,rfl⟩|(simp;omega)|(simp;done)))
  ·rw[bad i hi (by unfold vk;rw[h];simp)]
  have h2:=h
  (repeat(with_reducible refine And.intro ?_ ?_;focus first|omega|rfl|assumption|exact⟨_,rfl,rfl⟩|(simp;omega)|(simp;done)))
  rw[show List.map encS names++[[D.s d.aZ[i].fName]]=List.map encS (names++[d.aZ[i].fName]) by simp[encS]]
  exact bT (i+1,names++[d.aZ[i].fName]) (by simp only;omega) rfl rfl ⟨by simp only;omega,by simp only;rw[p2,nZ (by simpa [ru] using hi)];simp[ru],fun j hj hji=>by
   simp only at hji;by_cases e:j=i
   ·subst e;unfold vk;rw[h2,dD (by omega)];rfl
   ·exact p3 j hj (by omega)⟩
 have hi:i=d.aZ.length:=by omega
 have hn:names=ru d:=by rw[p2,List.take_of_length_le (by simp[ru];omega)]
 have hall:d.aZ.all (vk d.aU)=true:=List.all_eq_true.2 fun c hc=>by
  obtain⟨j,hj,e⟩:=List.getElem_of_mem hc;rw[<-e];exact p3 j hj (by omega)
 have hnl:∀s∈names,s.length<=4194304:=fun s hs=>by
  rw[hn] at hs;obtain⟨c,hc,e⟩:=List.mem_map.1 hs;obtain⟨j,hj,e'⟩:=List.getElem_of_mem hc;rw[<-e,<-e'];exact(aN.bounds (bg.afR hj hsz)).1
 have hlen:names.length=d.aZ.length:=by rw[hn];simp[ru]
 refine aB (gL d.fName (by omega)) ?_;simp -implicitDefEqProofs (disch:=omega) only[go_sem]<;>(repeat(with_reducible refine And.intro ?_ ?_;focus first|omega|rfl|assumption|exact⟨_,rfl,rfl⟩|(simp;omega)|(simp;done)))
 with_reducible refine aC (fun hb=> ?_) (fun hb=> ?_)<;>have h:=hb<;>(try simp only[wf_preprocess] at h)<;>simp -implicitDefEqProofs (disch:=omega) only[go_sem,hb]<;>(repeat(with_reducible refine And.intro ?_ ?_;focus first|omega|rfl|assumption|exact⟨_,rfl,rfl⟩|(simp;omega)|(simp;done)))
 ·have h1:=h;refine aB (kg d.aU 3 (by omega) hb0.2.2.2) ?_;simp -implicitDefEqProofs (disch:=omega) only[go_sem]<;>(repeat(with_reducible refine And.intro ?_ ?_;focus first|omega|rfl|assumption|exact⟨_,rfl,rfl⟩|(simp;omega)|(simp;done)))
  with_reducible refine aC (fun hb=> ?_) (fun hb=> ?_)<;>have h:=hb<;>(try simp only[wf_preprocess] at h)<;>simp -implicitDefEqProofs (disch:=omega) only[go_sem,hb]<;>(repeat(with_reducible refine And.intro ?_ ?_;focus first|omega|rfl|assumption|exact⟨_,rfl,rfl⟩|(simp;omega)|(simp;done)))
  ·have h2:=h
   with_reducible refine aC (fun hb=> ?_) (fun hb=> ?_)<;>have h:=hb<;>(try simp only[wf_preprocess] at h)<;>simp -implicitDefEqProofs (disch:=omega) only[go_sem,hb]<;>(repeat(with_reducible refine And.intro ?_ ?_;focus first|omega|rfl|assumption|exact⟨_,rfl,rfl⟩|(simp;omega)|(simp;done)))
   ·have h3:=h;refine aB (kg names 5 (by omega) hnl) ?_;simp -implicitDefEqProofs (disch:=omega) only[go_sem]<;>(repeat(with_reducible refine And.intro ?_ ?_;focus first|omega|rfl|assumption|exact⟨_,rfl,rfl⟩|(simp;omega)|(simp;done)));refine bL ?_;rw[Bool.and_eq_true] at h2;have h4:=gD h2.1;unfold iO;rw[h1,h2.2,hall,<-hn,dD (show d.aU.length<=3 by omega),dD (show 1<=d.aZ.length by omega),hlen];simp only[Bool.true_and];congr 1;exact gG ⟨fun h=>by omega,fun h=>by omega⟩
   ·refine bL ?_;unfold iO
    rw[bJ (show ¬1<=d.aZ.length by omega)];simp
  ·refine bL ?_;unfold iO
   have h2:(dec (d.aU.length<=3)&&iQ d.aU)=false:=by
    rw[<-h];congr 1;exact gG ⟨fun h=>by omega,fun h=>by omega⟩
   rw[<-Bool.and_assoc (dec (d.aU.length<=3)),h2];simp
 ·exact bL (by unfold iO;rw[h];rfl)
def vD:List UInt8:=[100,97,116,97]
def Jj(c:aN):au:=eB ([bQ c.fName]++c.iB.map dU)
def baseD(d:bg):List au:=[bQ vD,bQ d.fName,eB (cZ d.aU)]
def Jk(d:bg):au:=eB (baseD d++d.aZ.map Jj)
noncomputable def RQ(d:bg):au:=um (iO d) (Jk d)
theorem aha{d:bg}(h:d.sz<=1048576):(RQ d).sz<=1048576:=Nat.le_trans (IE _ _) (by decide)
def zS:List aN->Nat
 |[]=>0
 |x::xs=>x.sz+zS xs
theorem JW:∀l,aQ (l.map aN.enc)=zS l
 |[]=>rfl
 |x::xs=>by rw[List.map_cons,aQ,zS,JW xs];rfl
theorem wC(x:aN):x.sz=x.fName.length+(x.iB.length+oH x.iB):=by
 rw[<-yt];simp only[aN.sz,aN.aj,bG,D.sz,List.length_map];omega
theorem p9(x:bg):x.sz=x.fName.length+(x.aU.length+(x.aU.map List.length).sum)+(x.aZ.length+zS x.aZ):=by
 rw[<-JW,<-eu];simp only[bg.sz,bg.aj,bG,D.sz,List.length_map];omega
theorem ai2(c:aN):(Jj c).sz<=1+16*c.sz:=by
 have:=Li c.iB;rw[Jj,jd,jO,List.length_append,List.length_map,wC];simp[dH,jc];omega
theorem Vv:∀l:List aN,dH (l.map Jj)<=l.length+16*zS l
 |[]=>by simp[dH]
 |c::l=>by
  have h1:=ai2 c;have h2:=Vv l;rw[List.map_cons,dH,zS,List.length_cons];omega
theorem ai3(d:bg):(Jk d).sz<=7+16*d.sz:=by
 have:=Vv d.aZ;rw[Jk,jd,jO,List.length_append,List.length_map,p9];simp[baseD,dH,jc,jd,kR,pW,vD];omega
theorem vM{vars:List (List UInt8)}{ts:List ay}(h:mK vars ts=true):j4 ts=true:=Da.2 fun t ht=>by
 have:=List.all_eq_true.1 h t ht;unfold iH at this;rw[Bool.and_eq_true] at this;exact wY this.1
theorem Ni{d:bg}(h:iO d=true):∀c∈d.aZ,j4 c.iB=true:=fun c hc=>by
 have h1:d.aZ.all (vk d.aU)=true:=by
  unfold iO at h;simp only[Bool.and_eq_true] at h;simp_all
 have h2:=List.all_eq_true.1 h1 c hc;unfold vk at h2;rw[Bool.and_eq_true] at h2;exact vM h2.2
theorem aa0{l:List ay}{t:ay}(h:t∈l):t.sz<=oH l:=by
 rw[<-yt];exact dO (List.mem_map_of_mem h)
theorem X6{l:List aN}{t:aN}(h:t∈l):t.sz<=zS l:=by
 rw[<-JW];exact dO (List.mem_map_of_mem h)
theorem Uv(d:bg)(hsz:d.sz<=1048576):aX prog 255 [d.v] (RQ d).v:=fun S=>by
 have hz:=ai3 d;have hdz:=p9 d;obtain⟨T,hT⟩:∃T:Nat->List (List D),T=fun i=>(baseD d++(d.aZ.map Jj).take i).map au.enc:=⟨_,rfl⟩
 have hT0:T 0=[[.s vD,.sl []],[.s d.fName,.sl []],[.s [],.sl ((cZ d.aU).map au.enc)]]:=by
  rw[hT];simp only[List.take_zero,List.append_nil,baseD,List.map_cons,List.map_nil,eU,jg]
 have jY:∀i,(T i).length<=i+3:=fun i=>by
  rw[hT];simp only[List.length_map,List.length_append];have:=List.length_take_le i (d.aZ.map Jj);simp[baseD];omega
 have hTs:∀i (hi:i<d.aZ.length),T i++[[.s [],.sl (([bQ d.aZ[i].fName]++d.aZ[i].iB.map dU).map au.enc)]]=T (i+1):=fun i hi=>by
  have:=iN (base:=baseD d) (l:=d.aZ.map Jj) (i:=i) (by rw[List.length_map];exact hi);rw[List.getElem_map] at this;rw[hT];exact this
 have hTr:∀i,∀r∈T i,r.length=2:=fun i=>by rw[hT];exact jf
 have hTe:T d.aZ.length=(Jk d).aA.map au.enc:=by
  rw[hT];simp only
  rw[List.take_of_length_le (by simp)];rfl
 clear hT;refine zcx [.cell 2 202] func255 ntmps255 ?_;simp -implicitDefEqProofs (disch:=omega) only[go_sem];refine aB (bS _) ?_;simp -implicitDefEqProofs (disch:=omega) only[go_sem];refine aB (bS _) ?_;simp -implicitDefEqProofs (disch:=omega) only[go_sem];refine aB (dZ d.aU (by omega)) ?_;simp -implicitDefEqProofs (disch:=omega) only[go_sem];have hE:=fun cB Ω=>jK (T 0) (hTr 0) (by have:=jY 0;omega) cB Ω;simp only[hT0] at hE;refine cu [false] rfl (hE _ _) ?_;simp -implicitDefEqProofs (disch:=omega) only[go_sem]
 refine bN (ι:=Nat) zmx rfl [1,2,3,4] (fun i=>[.c (.ptr (0,0) 0),.c (.ptr (0,1) 0),.c (.ptr (0,4) 0),.c (.d (.i .i64 i))])
  (fun i=>[.box [.d (.s d.fName),.d (.sl (d.aU.map encS)),.d (.sl (d.aZ.map aN.enc))],.box [.d (.s []),.bM []],.box [.d (.s []),.bV (0,3) (T 0)],.tok 2 (T i),.box [.d (.s []),.bV (0,3) (T i)]]::S)
  (fun i=>i<=d.aZ.length) (fun i=>d.aZ.length-i) 0 rfl (by simp only[hT0]<;>(try rfl)) (Nat.zero_le _) ?_
 intro i hi;have hl:=jY i;simp -implicitDefEqProofs (disch:=omega) only[go_sem]
 with_reducible refine aC (fun hb=> ?_) (fun hb=> ?_)<;>have h:=hb<;>(try simp only[wf_preprocess] at h)<;>simp -implicitDefEqProofs (disch:=omega) only[go_sem,hb]<;>(repeat(with_reducible refine And.intro ?_ ?_;focus first|omega|rfl|assumption|exact⟨_,rfl,rfl⟩|(simp;omega)|(simp;done)))
 ·have hi':i<d.aZ.length:=by omega
  have hm:=List.getElem_mem hi';have hcz:=X6 hm;have hce:=wC d.aZ[i];have hs:=hTs i hi'
  (repeat(with_reducible refine And.intro ?_ ?_;focus first|omega|rfl|assumption|exact⟨_,rfl,rfl⟩|(simp;omega)|(simp;done)))
  refine aB (bS _) ?_;simp -implicitDefEqProofs (disch:=omega) only[go_sem]
  (repeat(with_reducible refine And.intro ?_ ?_;focus first|omega|rfl|assumption|exact⟨_,rfl,rfl⟩|(simp;omega)|(simp;done)))
  refine aB (Ak d.aZ[i].iB (by omega) (fun t ht=>by have:=aa0 ht;omega)) ?_;simp -implicitDefEqProofs (disch:=omega) only[go_sem];have hr:=jf (l:=d.aZ[i].iB.map dU)
  have hl2:((d.aZ[i].iB.map dU).map au.enc).length=d.aZ[i].iB.length:=by rw[List.length_map,List.length_map]
  (repeat(with_reducible refine And.intro ?_ ?_;focus first|omega|rfl|assumption|exact⟨_,rfl,rfl⟩|(simp;omega)|(simp;done)))
  simp only[List.cons_append,List.nil_append,List.map_cons,eU] at hs;rw[hs];exact fu 5 (by decide) (i+1) (by omega) rfl rfl rfl rfl (by omega)
 ·have hi':i=d.aZ.length:=by omega
  subst hi';rw[hTe];refine aB (BD d (by omega)) ?_;simp -implicitDefEqProofs (disch:=omega) only[go_sem];refine aB (pY (iO d) (Jk d) (by omega)) ?_;simp -implicitDefEqProofs (disch:=omega) only[go_sem];rfl
end Go.Ab