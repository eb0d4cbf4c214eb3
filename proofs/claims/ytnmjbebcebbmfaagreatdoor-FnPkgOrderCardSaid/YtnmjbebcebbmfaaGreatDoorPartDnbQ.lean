/-
  SEVERAL TEXTS IN ONE (merged by program): contracts and models, each with its own heading.
-/
import Derived.Test.YtnmjbebcebbmfaaGreatDoorPartDnbE
import Derived.Test.YtnmjbebcebbmfaaGreatDoorPartDnbI
import Derived.Test.YtnmjbebcebbmfaaGreatDoorPartDnbM
import Derived.Test.YtnmjbebcebbmfaaGreatDoorPartDnbN
import Derived.Test.YtnmjbebcebbmfaaGreatDoorPartDnbP
import Derived.Lib.ItoaNum
import Derived.Shelf.LaysM
import Derived.Shelf.Strconv.Itoa3
import Derived.Test.YtnmjbebcebbmfaaGreatDoorProg
import Derived.Lib.AppendZeros
import Derived.Laws.Cover3
set_option maxHeartbeats 8000000
open Go.Proofs Go.Proofs.Tryz
set_option linter.unusedSimpArgs false
set_option linter.unusedVariables false
set_option maxRecDepth 4000
namespace Go.Ab
section
variable {P:Program} {N:Nat} {S:Store} {s:St} {tm:List (Nat×V)}
end
theorem afl{P:Program}{N:Nat}(n:Nat){f:FuncId}{fn:Func}{c:Code}{args:List V}{bY:List Obj}{Ω:Store}{post:V->Store->Prop}{rs:List ResultVar}(gP:P.follows .mixedOrders=true)(hf:P.funcs[f]? =some fn)(hN:fn.ntmps=N)
 (hb:fn.body=some c) (hn:(fn.name== "runtime.NumGoroutine")=false) (hr:fn.results.toList=rs) (hl:Nat.ble args.length N=true) (hok:codeOk N c=true)
 (h:CW P N c (YX P rs post) ⟨mV (args.map (V.up 1)) 0,[.seed n]::bY::Ω⟩):bS P f args (bY::Ω) post:=by
 subst hN;subst hr;exact Vm hf hb hn (dd hl) (Ua n (lG gP c _ _ hok h))
theorem Zr{P:Program}{N:Nat}{c:Code}{Q:Exit->St->Prop}{tm:List (Nat×V)}{Ω:Store}(n k:Nat)(h:AW P N c Q ⟨tm,[.seed n,.seed k]::Ω⟩):AW P N c Q ⟨tm,[]::Ω⟩:=by
 refine Ua n (mO h fun a w σ β hR=> ?_);obtain⟨bo,bΩ,rfl,hlen⟩:=frames hR;obtain⟨hS',hk,hst⟩:=hR.S.push (o:=.seed k) (h:=undef) (Grow.refl hR.S.live) hlen trivial (fun b hb=>by cases hb);exact⟨σ,_,⟨hR.size,hR.defers,hS',fun u=>(hR.T u).mono (eH.refl _ _) hk⟩,hst,Keep.refl _ _⟩
section
variable {P:Program} {N:Nat} {S:Store}
theorem sF(n k:Nat){f:FuncId}{fn:Func}{c:Code}{args:List V}{post:V->Store->Prop}{rs:List ResultVar}(gP:P.follows .mixedOrders=true)(hf:P.funcs[f]? =some fn)(hN:fn.ntmps=N)
 (hb:fn.body=some c) (hn:(fn.name== "runtime.NumGoroutine")=false) (hr:fn.results.toList=rs) (hl:Nat.ble args.length N=true) (hok:codeOk N c=true)
 (h:CW P N c (Zm P n rs post) ⟨mV (args.map (V.up 1)) 0,[.seed n,.seed k]::S⟩):bS P f args S post:=by
 subst hN;subst hr;exact sP hf hb hn (dd hl) (Zr n k (yA (GL n) (lG gP c _ _ hok h)))
end
def aq6(n:Nat)(out:List UInt8):List UInt8:=if h:n=0 then out else aq6 (n/10) (UInt8.ofNat (48+n % 10)::out)
termination_by n
decreasing_by omega
def atz(k:Int):List UInt8:=if k<=0 then [109,48] else 109::aq6 k.toNat []
mutual
def mcD:D->Nat
 | .sl es=>Uu es
 | .b _=>1
 | .i _ _=>1
 | .s _=>1
 | .o _=>0
 | .ol _ _=>0
def mcR:List D->Nat
 |[]=>0
 |d::ds=>mcD d+mcR ds
def Uu:List (List D)->Nat
 |[]=>0
 |r::rs=>mcR r+Uu rs
end
mutual
def mkD:D->Int->D
 | .sl es,k=>.sl (afm es k)
 | .b _,k=>.b (decide (k.tmod 3=0))
 | .i kd _,k=>.i kd k
 | .s _,k=>.s (atz k)
 | .o v,_=>.o v
 | .ol n es,_=>.ol n es
def mkR:List D->Int->List D
 |[],_=>[]
 |d::ds,k=>mkD d k::mkR ds (k+mcD d)
def afm:List (List D)->Int->List (List D)
 |[],_=>[]
 |r::rs,k=>mkR r k::afm rs (k+mcR r)
end
mutual
def Ci:D->Bool
 | .sl es=>sG es
 | .b _=>true
 | .i _ _=>true
 | .s _=>true
 | .o _=>true
 | .ol _ _=>true
def nE:List D->Bool
 |[]=>true
 |d::ds=>Ci d&&nE ds
def sG:List (List D)->Bool
 |[]=>true
 |r::rs=>decide (r.length<=32)&&nE r&&sG rs
end
theorem jE:∀a b,nE (a++b)=(nE a&&nE b)
 |[],b=>by simp[nE]
 |d::ds,b=>by rw[ba,nE,nE,jE ds b,fW]
theorem rP{α:Type}{f:α->List D}:∀{xs:List α},(∀x∈xs,nE (f x)=true/\(f x).length<=32)->sG (xs.map f)=true
 |[],_=>rfl
 |x::xs,h=>by
  rw[af,sG,(h x gL).1,rP fun y hy=>h y (by simp[hy]),decide_eq_true (h x gL).2];rfl
abbrev axj(P:Program)(f:FuncId)(es:List (List D)):Prop:=∀(k:Int)(l j r:Nat)(p:List (Nat×Nat))(S:Store)(rs:List (List (List D))),bC S (l,j)=some (.xf rs)->atR rs r p=some es->0<=k/\k+Uu es<=4611686018427387904->
 bS P f [.c (.xp (l,j) r p),.c (.d (.i .i64 k))] S (fun res S'=>res=.c (.d (.i .i64 (k+Uu es)))/\S'=bA S (l,j) (.xf (LK rs r p (afm es k))))
abbrev axk(P:Program)(f:FuncId)(es:List (List D)):Prop:=∀(k:Int)(l j r:Nat)(p:List (Nat×Nat))(S:Store)(rs:List (List (List D))),bC S (l,j)=some (.xf rs)->atR rs r p=some (afm es k)->0<=k/\k+Uu es<=4611686018427387904->
 bS P f [.c (.xp (l,j) r p),.c (.d (.i .i64 k))] S (fun res S'=>res=.c (.d (.i .i64 (k+Uu es)))/\S'=S)
section
variable {P:Program} {N:Nat} {c:Code} {Q:Exit->St->Prop} {s:St} {S:Store} {l j r n:Nat} {p:List (Nat×Nat)} {rs:List (List (List D))} {rows:List (List D)} {k:Int}
abbrev axl(l j r:Nat)(p:List (Nat×Nat))(k:Int)(i:Nat):List V:=[.c (.xp (1+l,j) r p),.c (.d (.i .i64 k)),.c (.d (.i .i64 i))]
end
theorem Zt:∀row:List D,(row.map C.d).mapM QE=some row
 |[]=>rfl
 |d::row=>by
  have:=Zt row;rw[af,ef,this];rfl
theorem AJ(xs:List (List UInt8)):qg (xs.map encS)=true:=rO fun _ _=>rfl
theorem AL(xs:List (List UInt8)):sG (xs.map encS)=true:=rP fun _ _=>⟨rfl,by simp[encS]⟩
theorem wP:∀(xs:List (List UInt8))(n:Nat),eO (xs.map encS) n=xs.map encS
 |[],_=>rfl
 |x::xs,n=>by rw[af,eO,wP xs];rfl
mutual
theorem ak.iP:∀x:ak,l8 x.enc=true/\nE x.enc=true
 | .mk a0 a1 a2=>by simp only[ak.enc,l8,xW,nE,Ci,jD,jE,cD,cd,cX,and_self,and_true,true_and,(ak.vS a2).1,(ak.vS a2).2]
theorem ak.vS:∀xs:List ak,qg (ak.encs xs)=true/\sG (ak.encs xs)=true
 |[]=>⟨rfl,rfl⟩
 |x::xs=>by
  have h:decide ((ak.enc x).length<=32)=true:=by rw[ak.dK];rfl
  simp only[ak.encs,qg,sG,h,(ak.iP x).1,(ak.iP x).2,(ak.vS xs).1,(ak.vS xs).2,cX,and_self]
end
theorem ak.lT(xs:List ak):qg (xs.map ak.enc)=true/\sG (xs.map ak.enc)=true:=by rw[<-ak.oz];exact ak.vS xs
theorem jT.iP(x:jT):l8 x.enc=true/\nE x.enc=true:=by
 rw[jT.aC];simp only[ba,bc,l8,xW,nE,Ci,jD,jE,cD,cd,cX,and_self,and_true,true_and,(ak.iP x.fType).1,(ak.iP x.fType).2]
theorem bQ.iP(x:bQ):l8 x.enc=true/\nE x.enc=true:=by
 rw[bQ.aC];simp only[ba,bc,l8,xW,nE,Ci,jD,jE,cD,cd,cX,and_self,and_true,true_and,(ak.iP x.fType).1,(ak.iP x.fType).2]
theorem bQ.lT(xs:List bQ):qg (xs.map bQ.enc)=true/\sG (xs.map bQ.enc)=true:=⟨rO fun x _=>x.iP.1,rP fun x _=>⟨x.iP.2,by rw[bQ.dK];decide⟩⟩
mutual
theorem au.iP:∀x:au,l8 x.enc=true/\nE x.enc=true
 | .mk a0 a1 a2 a3 a4 a5 a6=>by simp only[au.enc,l8,xW,nE,Ci,jD,jE,cD,cd,cX,and_self,and_true,true_and,(ak.iP a4).1,(ak.iP a4).2,(au.vS a5).1,(au.vS a5).2,(bq.vS a6).1,(bq.vS a6).2]
theorem au.vS:∀xs:List au,qg (au.encs xs)=true/\sG (au.encs xs)=true
 |[]=>⟨rfl,rfl⟩
 |x::xs=>by
  have h:decide ((au.enc x).length<=32)=true:=by rw[au.dK];rfl
  simp only[au.encs,qg,sG,h,(au.iP x).1,(au.iP x).2,(au.vS xs).1,(au.vS xs).2,cX,and_self]
theorem bq.iP:∀x:bq,l8 x.enc=true/\nE x.enc=true
 | .mk a0 a1 a2=>by simp only[bq.enc,l8,xW,nE,Ci,jD,jE,cD,cd,cX,and_self,and_true,true_and,AJ a1,AL a1,(au.iP a2).1,(au.iP a2).2]
theorem bq.vS:∀xs:List bq,qg (bq.encs xs)=true/\sG (bq.encs xs)=true
 |[]=>⟨rfl,rfl⟩
 |x::xs=>by
  have h:decide ((bq.enc x).length<=32)=true:=by rw[bq.dK];rfl
  simp only[bq.encs,qg,sG,h,(bq.iP x).1,(bq.iP x).2,(bq.vS xs).1,(bq.vS xs).2,cX,and_self]
end
mutual
theorem ah.iP:∀x:ah,l8 x.enc=true/\nE x.enc=true
 | .mk a0 a1=>by simp only[ah.enc,l8,xW,nE,Ci,jD,jE,cD,cd,cX,and_self,and_true,true_and,(ah.vS a1).1,(ah.vS a1).2]
theorem ah.vS:∀xs:List ah,qg (ah.encs xs)=true/\sG (ah.encs xs)=true
 |[]=>⟨rfl,rfl⟩
 |x::xs=>by
  have h:decide ((ah.enc x).length<=32)=true:=by rw[ah.dK];rfl
  simp only[ah.encs,qg,sG,h,(ah.iP x).1,(ah.iP x).2,(ah.vS xs).1,(ah.vS xs).2,cX,and_self]
end
theorem bg.iP(x:bg):l8 x.enc=true/\nE x.enc=true:=by
 rw[bg.aC];simp only[ba,bc,l8,xW,nE,Ci,jD,jE,cD,cd,cX,and_self,and_true,true_and,(ak.lT x.bG).1,(ak.lT x.bG).2,(ak.iP x.dh).1,(ak.iP x.dh).2,AJ x.aG,AL x.aG,(au.iP x.fBody).1,(au.iP x.fBody).2]
theorem bg.lT(xs:List bg):qg (xs.map bg.enc)=true/\sG (xs.map bg.enc)=true:=⟨rO fun x _=>x.iP.1,rP fun x _=>⟨x.iP.2,by rw[bg.dK];decide⟩⟩
theorem bI.iP(x:bI):l8 x.enc=true/\nE x.enc=true:=by
 rw[bI.aC];simp only[ba,bc,l8,xW,nE,Ci,jD,jE,cD,cd,cX,and_self,and_true,true_and,AJ x.bU,AL x.bU,(bg.lT x.aA).1,(bg.lT x.aA).2]
theorem bI.lT(xs:List bI):qg (xs.map bI.enc)=true/\sG (xs.map bI.enc)=true:=⟨rO fun x _=>x.iP.1,rP fun x _=>⟨x.iP.2,by rw[bI.dK];decide⟩⟩
theorem bF.iP(x:bF):l8 x.enc=true/\nE x.enc=true:=by
 rw[bF.aC];simp only[ba,bc,l8,xW,nE,Ci,jD,jE,cD,cd,cX,and_self,and_true,true_and,(ak.lT x.iq).1,(ak.lT x.iq).2]
theorem bF.lT(xs:List bF):qg (xs.map bF.enc)=true/\sG (xs.map bF.enc)=true:=⟨rO fun x _=>x.iP.1,rP fun x _=>⟨x.iP.2,by rw[bF.dK];decide⟩⟩
theorem aU.iP(x:aU):l8 x.enc=true/\nE x.enc=true:=by
 rw[aU.aC];simp only[ba,bc,l8,xW,nE,Ci,jD,jE,cD,cd,cX,and_self,and_true,true_and,AJ x.aG,AL x.aG,(bF.lT x.aF).1,(bF.lT x.aF).2]
theorem aU.lT(xs:List aU):qg (xs.map aU.enc)=true/\sG (xs.map aU.enc)=true:=⟨rO fun x _=>x.iP.1,rP fun x _=>⟨x.iP.2,by rw[aU.dK];decide⟩⟩
theorem cO.iP(x:cO):l8 x.enc=true/\nE x.enc=true:=by
 rw[cO.aC];simp only[ba,bc,l8,xW,nE,Ci,jD,jE,cD,cd,cX,and_self,and_true,true_and,AJ x.aG,AL x.aG,(au.iP x.fBody).1,(au.iP x.fBody).2]
theorem cO.lT(xs:List cO):qg (xs.map cO.enc)=true/\sG (xs.map cO.enc)=true:=⟨rO fun x _=>x.iP.1,rP fun x _=>⟨x.iP.2,by rw[cO.dK];decide⟩⟩
theorem aQ.iP(x:aQ):l8 x.enc=true/\nE x.enc=true:=by
 rw[aQ.aC];simp only[ba,bc,l8,xW,nE,Ci,jD,jE,cD,cd,cX,and_self,and_true,true_and,AJ x.aG,AL x.aG,(ak.iP x.cB).1,(ak.iP x.cB).2,(bQ.lT x.dJ).1,(bQ.lT x.dJ).2,(ak.iP x.bP).1,(ak.iP x.bP).2,(cO.lT x.aP).1,(cO.lT x.aP).2]
theorem aQ.lT(xs:List aQ):qg (xs.map aQ.enc)=true/\sG (xs.map aQ.enc)=true:=⟨rO fun x _=>x.iP.1,rP fun x _=>⟨x.iP.2,by rw[aQ.dK];decide⟩⟩
theorem dz.iP(x:dz):l8 x.enc=true/\nE x.enc=true:=by
 rw[dz.aC];simp only[ba,bc,l8,xW,nE,Ci,jD,jE,cD,cd,cX,and_self,and_true,true_and,(ak.iP x.fType).1,(ak.iP x.fType).2]
theorem dz.lT(xs:List dz):qg (xs.map dz.enc)=true/\sG (xs.map dz.enc)=true:=⟨rO fun x _=>x.iP.1,rP fun x _=>⟨x.iP.2,by rw[dz.dK];decide⟩⟩
theorem aV.iP(x:aV):l8 x.enc=true/\nE x.enc=true:=by
 rw[aV.aC];simp only[ba,bc,l8,xW,nE,Ci,jD,jE,cD,cd,cX,and_self,and_true,true_and,AJ x.aG,AL x.aG,(bQ.lT x.dJ).1,(bQ.lT x.dJ).2,(dz.lT x.bG).1,(dz.lT x.bG).2,(ak.iP x.dh).1,(ak.iP x.dh).2,(au.iP x.fBody).1,(au.iP x.fBody).2]
theorem aV.lT(xs:List aV):qg (xs.map aV.enc)=true/\sG (xs.map aV.enc)=true:=⟨rO fun x _=>x.iP.1,rP fun x _=>⟨x.iP.2,by rw[aV.dK];decide⟩⟩
theorem aT.iP(x:aT):l8 x.enc=true/\nE x.enc=true:=by
 rw[aT.aC];simp only[ba,bc,l8,xW,nE,Ci,jD,jE,cD,cd,cX,and_self,and_true,true_and,AJ x.eY,AL x.eY,(bI.lT x.aJ).1,(bI.lT x.aJ).2,(aU.lT x.ay).1,(aU.lT x.ay).2,(aQ.lT x.aH).1,(aQ.lT x.aH).2,(aV.lT x.aM).1,(aV.lT x.aM).2]
theorem aT.lT(xs:List aT):qg (xs.map aT.enc)=true/\sG (xs.map aT.enc)=true:=⟨rO fun x _=>x.iP.1,rP fun x _=>⟨x.iP.2,by rw[aT.dK];decide⟩⟩
theorem nO.iP(x:nO):l8 x.enc=true/\nE x.enc=true:=by
 rw[nO.aC];simp only[ba,bc,l8,xW,nE,Ci,jD,jE,cD,cd,cX,and_self,and_true,true_and,(aT.lT x.DY).1,(aT.lT x.DY).2]
theorem jy.iP(x:jy):l8 x.enc=true/\nE x.enc=true:=by
 rw[jy.aC];simp only[ba,bc,l8,xW,nE,Ci,jD,jE,cD,cd,cX,and_self,and_true,true_and]
def lx(l:List ah)(n:Nat):List (List D):=eO (l.map ah.enc) n
def d9(x:ah):Nat:=Ez x.enc
def iY(l:List ah):Nat:=mH (l.map ah.enc)
theorem jM(x:ah)(n:Nat):fE x.enc n=[.s x.aI,.ol n (lx x.aj (n+1))]:=by
 rw[ah.aC];simp only[fE,rM,vR,cR,lx]
theorem yL(s:List UInt8)(n:Nat):fE (bN s).enc n=[.s s,.ol n []]:=by rw[jM];rfl
theorem ao6(x:ah):d9 x=iY x.aj+1:=by
 unfold d9 iY;rw[ah.aC];simp only[Ez,vR];omega
theorem kI(s:List UInt8):d9 (bN s)=1:=by rw[ao6];rfl
theorem nU(n:Nat):lx [] n=[]:=rfl
theorem jZ(x:ah)(l:List ah)(n:Nat):lx (x::l) n=fE x.enc n::lx l (n+d9 x):=rfl
theorem l9(a b:List ah)(n:Nat):lx (a++b) n=lx a n++lx b (n+iY a):=by unfold lx iY;rw[bw,qO]
theorem aik:iY []=0:=rfl
theorem afn(x:ah)(l:List ah):iY (x::l)=d9 x+iY l:=rfl
theorem gM(l:List ah)(n:Nat):(lx l n).length=l.length:=by unfold lx;rw[kT,ab]
theorem lg{l:List ah}{n:Nat}:∀r∈lx l n,r.length=2:=zm fun r hr=>by
 obtain⟨z,_,rfl⟩:=cr.1 hr;exact z.dK
theorem Om{l:List ah}{i:Nat}(hi:i<l.length)(n:Nat):lx (l.take i) n++[fE l[i].enc (n+iY (l.take i))]=lx (l.take (i+1)) n:=by
 rw[bu hi,l9];rfl
theorem Cz{l:List ah}{i:Nat}(hi:i<l.length)(n:Nat):lx (l.take i) n++[[.s l[i].aI,.ol (n+iY (l.take i)) (lx l[i].aj (n+iY (l.take i)+1))]]=lx (l.take (i+1)) n:=by
 rw[<-Om hi,jM]
theorem CB{base l:List ah}{i:Nat}(hi:i<l.length)(q:Nat):lx (base++l.take i) q++[[.s l[i].aI,.ol (q+iY (base++l.take i)) (lx l[i].aj (q+iY (base++l.take i)+1))]]=lx (base++l.take (i+1)) q:=by
 rw[bu hi,<-cf,l9 (base++l.take i),jZ,nU,jM]
theorem gK{l:List ah}:∀r∈l.map ah.enc,r.length=2:=fun r hr=>by
 obtain⟨z,_,rfl⟩:=cr.1 hr;exact z.dK
theorem Ja{cs cs':List C}(hl:cs'.length=cs.length)(h:∀(j:Nat)(x y:C),cs[j]? =some x->cs'[j]? =some y->∀w σ S β v,jc w σ S β x v->jc w σ S β y v):Less (.agg cs) (.agg cs'):=by
 rintro w σ S β v ⟨a,ha,hc⟩;refine⟨a,ha,hl.trans hc.1,fun j y hy=> ?_⟩
 have hj:j<cs.length:=by rw[<-hl];exact(ap.1 hy).1
 obtain⟨v,h1,h2,h3⟩:=hc.2 j _ (am hj);exact⟨v,h1,h j _ y (am hj) hy w σ S β v h2,h3⟩
theorem aq8{w:World}{σ:Nat->Nat}{S:Store}{β:Hs}{v:Value}(n:Nat)(h:jc w σ S β (.bH []) v):jc w σ S β (.d (.ol n [])) v:=by
 obtain⟨hd,ad,m,hval⟩:=h
 have hm:m=0:=by rw[hval] at hd;cases hd<;>rfl
 subst hm;rw[hval];exact .xO _ _ _
theorem Oo(s:List UInt8)(n:Nat):Less (.agg [.d (.s s),.bH []]) (.agg [.d (.s s),.d (.ol n [])]):=Ja rfl fun j x y hx hy w σ S β v hv=>by
 match j,hx,hy with
 |0,hx,hy=>cases hx;cases hy;exact hv
 |1,hx,hy=>cases hx;cases hy;exact aq8 _ hv
 |j+2,hx,hy=>simp at hx
theorem ao7(s:List UInt8)(n:Nat)(es:List (List D)):Less (.agg [.d (.s s),.mE n es]) (.agg [.d (.s s),.d (.ol n es)]):=Ja rfl fun j x y hx hy w σ S β v hv=>by
 match j,hx,hy with
 |0,hx,hy=>cases hx;cases hy;exact hv
 |1,hx,hy=>cases hx;cases hy;exact hv.1
 |j+2,hx,hy=>simp at hx
theorem abO(s:List UInt8):aD prog 74 [.c (.d (.s s))] (.agg [.d (.s s),.bH []]):=fun S=>by
 refine zcx [.cell 2 26] func74 ntmps74 ?_;exact Z1
theorem dL(s:List UInt8)(n:Nat):aD prog 74 [.c (.d (.s s))] (.agg [.d (.s s),.d (.ol n [])]):=aD.less (abO s) (Oo s n)
theorem lS(d:D):aD prog 81 [.c (.d d)] (.agg [.d (.s []),.d d]):=fun S=>by
 refine zcx [.cell 2 26] func81 ntmps81 ?_;exact Z1
theorem abP(n:Nat)(es:List (List D)):aD prog 81 [.c (.mE n es)] (.agg [.d (.s []),.mE n es]):=fun S=>by
 refine zcx [.cell 2 26] func81 ntmps81 ?_;exact Z1
theorem oF(n:Nat)(es:List (List D)):aD prog 81 [.c (.mE n es)] (.agg [.d (.s []),.d (.ol n es)]):=aD.less (abP n es) (ao7 [] n es)
theorem kP(l j:Nat)(es:List (List D))(S:Store):bS prog 81 [.c (.bJ (l,j) es)] S (fun r S'=>r=.agg [.d (.s []),.bJ (l,j) es]/\S'=S):=by
 refine zcx [.cell 2 26] func81 ntmps81 ?_;exact Z1
theorem EA(xs:List (List UInt8))(hx:xs.length<=1073741824)(n q:Nat):aD prog 146 [.c (.d (.sl (xs.map encS)))] (.c (.d (.ol n (lx (aR xs) q)))):=fun S=>by
 refine lF (n) (rs:=[.tmp 2]) zmx func146 ntmps146 rfl rfl rfl rfl rfl ?_;refine W1 ?_;refine W3 ?_;refine lV n 3 2 [] (.inl rfl) gL ?_
 refine aZ (ι:=Nat) zmx rfl [3,7,8,9] (fun i=>[.c (.bJ (0,1) (lx ((aR xs).take i) q)),.c (.d (.sl (xs.map encS))),.c (.d (.i .i64 xs.length)),.c (.d (.i .i64 i))]) (fun i=>[.seed n,.eP n 2 (lx ((aR xs).take i) q)]::S)
  (fun i=>i<=xs.length) (fun i=>xs.length-i) 0 rfl rfl (an _) ?_
 intro i hi;refine W1 ?_;refine S0 (fun hb h=>?_) fun hb h=>?_
 ·have hi':i<xs.length:=gA
  have hw:i<(aR xs).length:=by rw[jP];exact hi'
  have hg:(aR xs)[i]=bN xs[i]:=by simp[aR]
  have hl:(lx ((aR xs).take i) q).length<=i:=by rw[gM];exact bi _ _
  refine W3 ?_;refine C1 (dL xs[i] (q+iY ((aR xs).take i))) ?_;refine W3 ?_;have hs:=Om hw q;rw[hg,yL] at hs;rw[hs];exact dH (i+1) gA rfl rfl gA
 ·have hi':i=(aR xs).length:=by rw[jP];omega
  rw[hi',ch]
theorem eT(xs:List (List UInt8))(hx:xs.length<=1073741824)(n:Nat):aD prog 75 [.c (.d (.sl (xs.map encS)))] (.agg [.d (.s []),.d (.ol n (lx (aR xs) (n+1)))]):=fun S=>by
 refine zcx [.cell 2 26] func75 ntmps75 ?_;refine W1 ?_;refine C1 (EA xs hx n (n+1)) ?_;exact C3 (lS _)
theorem KM:∀N:Nat,(∀x:ak,SizeOf.sizeOf x<N->∀n:Nat,formed x=true->x.sz<=4194304->aD prog 148 [x.v] (.agg [.d (.s (dI x).aI),.d (.ol n (lx (dI x).aj (n+1)))]))/\
 (∀xs:List ak,SizeOf.sizeOf xs<N->∀n q:Nat,jG xs=true->xs.length<=4194304->(∀t∈xs,t.sz<=4194304)->aD prog 147 [.c (.d (.sl (xs.map ak.enc)))] (.c (.d (.ol n (lx (xs.map dI) q)))))
 |0=>⟨fun x h=>gA,fun x h=>gA⟩
 |N+1=>by
  obtain⟨ih,qm⟩:=KM N;refine⟨fun x hn n hf hsz=> ?_,fun xs hn n q hf hlen hsz=> ?_⟩
  ·have kL:=ak.jF x;have hts:=Io hsz;have hx:=aib x;rw[Az,ai] at hf;have hfi:=gD hf.1
   have hall:∀t∈x.fArgs,t.sz<=4194304:=fun t ht=>by
    obtain⟨i,hi,e⟩:=ci ht;rw[<-e];exact(yF hi hsz).1
   intro S;refine sF (n) 1 (rs:=[.cell 2 26]) zmx func148 ntmps148 rfl rfl rfl rfl rfl ?_;refine W1 ?_;refine S0 (fun hb h=>?_) fun hb h=>?_
   ·rw[if_pos h] at hx;rw[hx];refine W3 ?_;refine C1 (dL _ n) ?_;rfl
   have k1:=h;rw[if_neg h] at hx;refine S0 (fun hb h=>?_) fun hb h=>?_
   ·rw[if_pos h] at hx;rw[hx];refine C1 (dL _ (n+1)) ?_;refine C1 (dL _ (n+1+1)) ?_;refine C1 (oF _ _) ?_;rfl
   have k4:=h;rw[if_neg h] at hx;refine S0 (fun hb h=>?_) fun hb h=>?_
   ·have hlen:x.fArgs.length=1:=gA
    obtain⟨a,ha⟩:=List.length_eq_one_iff.1 hlen
    have ha0:x.fArgs[0]' gA=a:=by simp[ha]
    rw[if_neg gA,if_pos h,ha] at hx;have hfa:formed a=true:=zM.1 hf.2 a (by rw[ha];simp);have hsa:a.sz<=4194304:=hall a (by rw[ha];simp)
    have hla:SizeOf.sizeOf a<N:=by
     have:=bh (show a∈x.fArgs by rw[ha];simp);omega
    rw[hx];refine C1 (dL _ (n+1)) ?_;refine bn (dL _ (n+1+1)) ?_;simp -implicitDefEqProofs (disch:=omega) only[go_sem,ha,fb];refine W3 ?_;refine C1 (ih a hla (n+1+1+1) hfa hsa) ?_;refine C1 (oF _ _) ?_;simp only[eF,dD,ba,bc,af,aw,jZ,nU,yL,kI,jM,kM,kN,jm]
   have k3:=h;refine S0 (fun hb h=>?_) fun hb h=>?_
   ·rw[if_pos ⟨gA,gA⟩] at hx;rw[hx];refine C1 (dL _ n) ?_;rfl
   rw[if_neg gA,if_neg k3] at hx;rw[hx];refine C1 (dL _ (n+1)) ?_;refine C1 (qm x.fArgs gA 0 (n+1+1) hf.2 hts.1 hall) ?_
   have hl:(lx (x.fArgs.map dI) (n+1+1)).length=x.fArgs.length:=by rw[gM,ab]
   have hr:=lg (l:=x.fArgs.map dI) (n:=n+1+1);refine W3 ?_;refine C1 (lS _) ?_;simp only[eF,dD,ba,bc,jZ,nU,yL,kI]
  ·have FB:=fun(i:Nat) (hi:i<xs.length)=>Cz (l:=xs.map dI) (i:=i) hJ q;intro S;refine lF (n) (rs:=[.tmp 2]) zmx func147 ntmps147 rfl rfl rfl rfl rfl ?_;refine W1 ?_;refine W3 ?_;refine lV n 3 2 [] (.inl rfl) gL ?_
   refine aZ (ι:=Nat) zmx rfl [3,7,8,9] (fun i=>[.c (.bJ (0,1) (lx ((xs.map dI).take i) q)),.c (.d (.sl (xs.map ak.enc))),.c (.d (.i .i64 xs.length)),.c (.d (.i .i64 i))]) (fun i=>[.seed n,.eP n 2 (lx ((xs.map dI).take i) q)]::S)
    (fun i=>i<=xs.length) (fun i=>xs.length-i) 0 rfl rfl (an _) ?_
   intro i hi;refine W1 ?_;refine S0 (fun hb h=>?_) fun hb h=>?_
   ·have hi':i<xs.length:=gA
    have hs:=FB i hi';rw[bp] at hs
    have hl:(lx ((xs.map dI).take i) q).length<=i:=by rw[gM];exact bi _ _
    refine W3 ?_;refine C1 (ih xs[i] (by have:=bh (ac hi');omega) (q+iY ((xs.map dI).take i)) (zM.1 hf _ (ac hi')) (hsz _ (ac hi'))) ?_;refine W3 ?_;rw[hs];exact bR 2 gE (i+1) gA rfl rfl rfl rfl gA
   ·have hi':i=(xs.map dI).length:=by rw[ab];omega
    rw[hi',ch]
theorem mI(x:ak)(n:Nat)(hf:formed x=true)(hsz:x.sz<=4194304):aD prog 148 [x.v] (.agg [.d (.s (dI x).aI),.d (.ol n (lx (dI x).aj (n+1)))]):=(KM _).1 x (cg _) n hf hsz
theorem Dq(xs:List ak)(n q:Nat)(hf:jG xs=true)(hlen:xs.length<=4194304)(hsz:∀t∈xs,t.sz<=4194304):aD prog 147 [.c (.d (.sl (xs.map ak.enc)))] (.c (.d (.ol n (lx (xs.map dI) q)))):=(KM _).2 xs (cg _) n q hf hlen hsz
theorem fI(s:List UInt8):(bN s).enc=[.s s,.sl []]:=by rw[ah.aC];rfl
theorem jV(l:List ah):(bL l).enc=[.s [],.sl (l.map ah.enc)]:=by rw[ah.aC];rfl
theorem jI{base l:List ah}{i:Nat}(hi:i<l.length):(base++l.take i).map ah.enc++[[.s l[i].aI,.sl (l[i].aj.map ah.enc)]]=(base++l.take (i+1)).map ah.enc:=by
 rw[bu hi,<-cf,bw (l₂:=[l[i]]),af,aw,ah.aC]
theorem CF(s:List UInt8)(es:List (List D)):Less (.agg [.d (.s s),.bH es]) (.agg [.d (.s s),.d (.sl es)]):=Ja rfl fun j x y hx hy w σ S β v hv=>by
 match j,hx,hy with
 |0,hx,hy=>cases hx;cases hy;exact hv
 |1,hx,hy=>cases hx;cases hy;exact hv.1
 |j+2,hx,hy=>simp at hx
theorem AO(x:ah)(n:Nat):Less (.agg [.d (.s x.aI),.d (.ol n (lx x.aj (n+1)))]) x.v:=by
 have h:=GK (r:=x.enc) (n:=n);rw[jM,ah.Ml] at h;exact h
theorem Zu(s:List UInt8):aD prog 39 [.c (.d (.s s))] (.agg [.d (.s s),.bH []]):=fun S=>by
 refine zcx [.cell 2 26] func39 ntmps39 ?_;exact Z1
theorem bW(s:List UInt8):aD prog 39 [.c (.d (.s s))] (.agg [.d (.s s),.d (.sl [])]):=aD.less (Zu s) (CF s [])
theorem oq(es:List (List D))(hes:∀e∈es,e.length=2)(hl:es.length<=1073741824):aD prog 38 [.c (.d (.sl es))] (.agg [.d (.s []),.d (.sl es)]):=fun S=>by
 refine zcx [.cell 2 26] func38 ntmps38 ?_;refine W1 ?_;exact⟨hes,⟨_,rfl,rfl⟩,(fun y hy=>by cases hy),hl⟩
theorem kD(es:List (List D))(hes:∀e∈es,e.length=2)(hl:es.length<=1073741824)(bY:List Ab.Obj)(Ω:Store):bS prog 38 [.c (.d (.sl es))] (bY::Ω)
 (fun r S'=>r=.agg [.d (.s []),.bJ (0,bY.length+1) es]/\S'=(bY++[.box [.d (.s []),.bJ (0,bY.length+1) es],.tok 2 es])::Ω):=by
 refine Mq (rs:=[.cell 2 26]) zmx func38 ntmps38 rfl rfl rfl rfl rfl ?_;refine W1 ?_;exact⟨hes,⟨_,rfl,rfl⟩,(fun y hy=>by cases hy),hl⟩
theorem MR(xs:List (List UInt8))(hx:xs.length<=1073741824):aD prog 105 [.c (.d (.sl (xs.map encS)))] (.c (.d (.sl ((aR xs).map ah.enc)))):=fun S=>by
 refine zcx [.tmp 2] func105 ntmps105 ?_;refine W1 ?_;refine W3 ?_;refine nu 3 2 [] rfl gL ?_
 refine aZ (ι:=Nat) zmx rfl [0,3,4] (fun i=>[.c (.d (.sl (xs.map encS))),.c (.bJ (0,0) (((aR xs).take i).map ah.enc)),.c (.d (.i .i64 i))]) (fun i=>[.tok 2 (((aR xs).take i).map ah.enc)]::S)
  (fun i=>i<=xs.length) (fun i=>xs.length-i) 0 rfl rfl (an _) ?_
 intro i hi
 have hl:(((aR xs).take i).map ah.enc).length<=i:=by rw[ab];exact bi _ _
 refine W1 ?_;refine S0 (fun hb h=>?_) fun hb h=>?_
 ·have hi':i<xs.length:=gA
  have hs:=jI (base:=[]) (l:=aR xs) (i:=i) (by rw[jP];exact hi')
  have hg:(aR xs)[i]'(by rw[jP];exact hi')=bN xs[i]:=by simp[aR]
  rw[hg] at hs;simp only[bc,kM,kN,aw] at hs;refine W3 ?_;refine C1 (bW xs[i]) ?_;refine W3 ?_;rw[hs];exact dH (i+1) gA rfl rfl gA
 ·have hi':i=(aR xs).length:=by rw[jP];omega
  rw[hi',ch]
theorem eG(xs:List (List UInt8))(hx:xs.length<=1073741824):aD prog 40 [.c (.d (.sl (xs.map encS)))] (.agg [.d (.s []),.d (.sl ((aR xs).map ah.enc))]):=fun S=>by
 refine zcx [.cell 2 26] func40 ntmps40 ?_;refine W1 ?_;exact C3 (MR xs hx)
theorem Sl:∀N:Nat,(∀x:ak,SizeOf.sizeOf x<N->x.sz<=4194304->aD prog 108 [x.v] (.agg [.d (.s (dI x).aI),.d (.sl ((dI x).aj.map ah.enc))]))
 |0=>fun x h=>by omega
 |N+1=>by
  have ih:=Sl N;intro x hn hsz;have kL:=ak.jF x;have hts:=Io hsz;have hx:=aib x
  have hall:∀t∈x.fArgs,t.sz<=4194304:=fun t ht=>by
   obtain⟨i,hi,e⟩:=ci ht;rw[<-e];exact(yF hi hsz).1
  intro S;refine zcx [.cell 2 26] func108 ntmps108 ?_;refine W1 ?_;refine S0 (fun hb h=>?_) fun hb h=>?_
  ·rw[if_pos h] at hx;rw[hx];refine W3 ?_;refine C1 (bW _) ?_;rfl
  rw[if_neg h] at hx;refine S0 (fun hb h=>?_) fun hb h=>?_
  ·rw[if_pos h] at hx;rw[hx];refine C1 (bW _) ?_;refine C1 (bW _) ?_;refine C1 (oq _ gL gL) ?_;simp only[eF,dD,af,aw,fI,KL]
  rw[if_neg h] at hx
  have avI:x.aN=2->x.fArgs.length=0->dI x=bN x.fName:=fun a b=>by rw[hx,if_pos ⟨a,b⟩]
  have alQ:¬(x.aN=2/\x.fArgs.length=0)->dI x=bL ((if x.aN=3 then [bN jm] else [])++[bN x.fName]++x.fArgs.map dI):=fun a=>by rw[hx,if_neg a]
  clear hx
  repeat' (first|(refine S0 (fun hb h=>?_) fun hb h=>?_))
  ·rw[avI gA gA];refine C1 (bW _) ?_;rfl
  ·exfalso;omega
  ·have hx:=alQ gA;rw[if_neg h,bc] at hx;refine C1 (bW _) ?_;refine W3 ?_
   refine aZ (ι:=Nat) zmx rfl [1,2,3,4] (fun i=>[.c (.ptr (0,0) 0),.c (.ptr (0,1) 0),.c (.ptr (0,2) 0),.c (.d (.i .i64 i))])
    (fun i=>[.box [.d (.i .i64 x.aN),.d (.s x.fName),.d (.sl (x.fArgs.map ak.enc))],.box [.d (.s []),.bH []],.box [.d (.s []),.bJ (0,3) (([bN x.fName]++(x.fArgs.map dI).take i).map ah.enc)],.tok 2 (([bN x.fName]++(x.fArgs.map dI).take i).map ah.enc)]::S)
    (fun i=>i<=x.fArgs.length) (fun i=>x.fArgs.length-i) 0 rfl ?_ (an _) ?_
   ·simp only[cE,bm,af,aw,ba,bc,fI]<;>(try rfl)
   intro i hi
   have hl:(([bN x.fName]++(x.fArgs.map dI).take i).map ah.enc).length<=i+2:=by
    rw[ab,ae];have:=bi i (x.fArgs.map dI);simp only[aa,al];omega
   have hs:=fun hi=>jI (base:=[bN x.fName]) (l:=x.fArgs.map dI) (i:=i) hi;have hrw:=gK (l:=[bN x.fName]++(x.fArgs.map dI).take i);generalize hR:([bN x.fName]++(x.fArgs.map dI).take i).map ah.enc=R at hl hs hrw;refine W1 ?_;refine S0 (fun hb h=>?_) fun hb h=>?_
   ·have hi':i<x.fArgs.length:=gA
    have hs':=hs (by rw[ab];exact hi');rw[bp] at hs';refine W3 ?_;refine C1 (ih x.fArgs[i] (by have:=bh (ac hi');omega) (hall _ (ac hi'))) ?_;refine W3 ?_;rw[hs'];exact dH (i+1) gA rfl rfl gA
   ·have hi':i=(x.fArgs.map dI).length:=by rw[ab];omega
    rw[hx,<-hR,hi',ch];simp only[eF,dD,ba,bc]
  ·have hx:=alQ gA;rw[if_pos h] at hx;refine C1 (bW _) ?_;refine W3 ?_;refine C1 (bW _) ?_;refine W3 ?_
   refine aZ (ι:=Nat) zmx rfl [1,2,3,4] (fun i=>[.c (.ptr (0,0) 0),.c (.ptr (0,1) 0),.c (.ptr (0,2) 0),.c (.d (.i .i64 i))])
    (fun i=>[.box [.d (.i .i64 x.aN),.d (.s x.fName),.d (.sl (x.fArgs.map ak.enc))],.box [.d (.s []),.bH []],.box [.d (.s []),.bJ (0,3) (([bN jm,bN x.fName]++(x.fArgs.map dI).take i).map ah.enc)],.tok 2 (([bN jm,bN x.fName]++(x.fArgs.map dI).take i).map ah.enc)]::S)
    (fun i=>i<=x.fArgs.length) (fun i=>x.fArgs.length-i) 0 rfl ?_ (an _) ?_
   ·simp only[cE,bm,af,aw,ba,bc,fI]<;>(try rfl)
   intro i hi
   have hl:(([bN jm,bN x.fName]++(x.fArgs.map dI).take i).map ah.enc).length<=i+2:=by
    rw[ab,ae];have:=bi i (x.fArgs.map dI);simp only[aa,al];omega
   have hs:=fun hi=>jI (base:=[bN jm,bN x.fName]) (l:=x.fArgs.map dI) (i:=i) hi;have hrw:=gK (l:=[bN jm,bN x.fName]++(x.fArgs.map dI).take i);generalize hR:([bN jm,bN x.fName]++(x.fArgs.map dI).take i).map ah.enc=R at hl hs hrw;refine W1 ?_;refine S0 (fun hb h=>?_) fun hb h=>?_
   ·have hi':i<x.fArgs.length:=gA
    have hs':=hs (by rw[ab];exact hi');rw[bp] at hs';refine W3 ?_;refine C1 (ih x.fArgs[i] (by have:=bh (ac hi');omega) (hall _ (ac hi'))) ?_;refine W3 ?_;rw[hs'];exact dH (i+1) gA rfl rfl gA
   ·have hi':i=(x.fArgs.map dI).length:=by rw[ab];omega
    rw[hx,<-hR,hi',ch];simp only[eF,dD,ba,bc]
  ·have hx:=alQ gA;rw[if_neg h,bc] at hx;refine C1 (bW _) ?_;refine W3 ?_
   refine aZ (ι:=Nat) zmx rfl [1,2,3,4] (fun i=>[.c (.ptr (0,0) 0),.c (.ptr (0,1) 0),.c (.ptr (0,2) 0),.c (.d (.i .i64 i))])
    (fun i=>[.box [.d (.i .i64 x.aN),.d (.s x.fName),.d (.sl (x.fArgs.map ak.enc))],.box [.d (.s []),.bH []],.box [.d (.s []),.bJ (0,3) (([bN x.fName]++(x.fArgs.map dI).take i).map ah.enc)],.tok 2 (([bN x.fName]++(x.fArgs.map dI).take i).map ah.enc)]::S)
    (fun i=>i<=x.fArgs.length) (fun i=>x.fArgs.length-i) 0 rfl ?_ (an _) ?_
   ·simp only[cE,bm,af,aw,ba,bc,fI]<;>(try rfl)
   intro i hi
   have hl:(([bN x.fName]++(x.fArgs.map dI).take i).map ah.enc).length<=i+2:=by
    rw[ab,ae];have:=bi i (x.fArgs.map dI);simp only[aa,al];omega
   have hs:=fun hi=>jI (base:=[bN x.fName]) (l:=x.fArgs.map dI) (i:=i) hi;have hrw:=gK (l:=[bN x.fName]++(x.fArgs.map dI).take i);generalize hR:([bN x.fName]++(x.fArgs.map dI).take i).map ah.enc=R at hl hs hrw;refine W1 ?_;refine S0 (fun hb h=>?_) fun hb h=>?_
   ·have hi':i<x.fArgs.length:=gA
    have hs':=hs (by rw[ab];exact hi');rw[bp] at hs';refine W3 ?_;refine C1 (ih x.fArgs[i] (by have:=bh (ac hi');omega) (hall _ (ac hi'))) ?_;refine W3 ?_;rw[hs'];exact dH (i+1) gA rfl rfl gA
   ·have hi':i=(x.fArgs.map dI).length:=by rw[ab];omega
    rw[hx,<-hR,hi',ch];simp only[eF,dD,ba,bc]
theorem mX(x:ak)(hsz:x.sz<=4194304):aD prog 108 [x.v] (.agg [.d (.s (dI x).aI),.d (.sl ((dI x).aj.map ah.enc))]):=Sl _ x (cg _) hsz
theorem FC(xs:List ak)(hlen:xs.length<=4194304)(hsz:∀t∈xs,t.sz<=4194304):aD prog 107 [.c (.d (.sl (xs.map ak.enc)))] (.c (.d (.sl ((xs.map dI).map ah.enc)))):=fun S=>by
 refine zcx [.tmp 2] func107 ntmps107 ?_;refine W1 ?_;refine W3 ?_;refine nu 3 2 [] rfl gL ?_
 refine aZ (ι:=Nat) zmx rfl [0,3,4] (fun i=>[.c (.d (.sl (xs.map ak.enc))),.c (.bJ (0,0) (((xs.map dI).take i).map ah.enc)),.c (.d (.i .i64 i))]) (fun i=>[.tok 2 (((xs.map dI).take i).map ah.enc)]::S)
  (fun i=>i<=xs.length) (fun i=>xs.length-i) 0 rfl rfl (an _) ?_
 intro i hi
 have hl:(((xs.map dI).take i).map ah.enc).length<=i:=by rw[ab];exact bi _ _
 refine W1 ?_;refine S0 (fun hb h=>?_) fun hb h=>?_
 ·have hi':i<xs.length:=gA
  have hs:=jI (base:=[]) (l:=xs.map dI) (i:=i) (by rw[ab];exact hi');rw[bp] at hs;simp only[bc] at hs;refine W3 ?_;refine C1 (mX xs[i] (hsz _ (ac hi'))) ?_;refine W3 ?_;rw[hs];exact dH (i+1) gA rfl rfl gA
 ·have hi':i=(xs.map dI).length:=by rw[ab];omega
  rw[hi',ch]
theorem sW(b:Bool)(x:ah)(hsz:x.sz<=67108864):aD prog 45 [.c (.d (.b b)),x.v] (sD b x).v:=by
 have zero:aD prog 45 [.c (.d (.b b)),x.v] (.agg [.d (.s []),.bH []])->aD prog 45 [.c (.d (.b b)),x.v] cZ.v:=fun h=>aD.less h (CF [] [])
 cases b with
 |false=>
  refine zero fun S=> ?_;refine zcx [.cell 4 26] func45 ntmps45 ?_;exact Z1
 |true=>
  show aD prog 45 [.c (.d (.b true)),x.v] (vQ x).v;unfold vQ
  cases hv:dQ x with
  |false=>
   refine zero fun S=> ?_;refine zcx [.cell 4 26] func45 ntmps45 ?_;refine W1 ?_;refine bn (pz x hsz) ?_;exact Rt
  |true=>
   intro S;refine zcx [.cell 4 26] func45 ntmps45 ?_;refine W1 ?_;refine bn (pz x hsz) ?_;exact Rt
theorem afo(x:ah)(n:Nat)(hsz:x.sz<=67108864):aD prog 80 [.agg [.d (.s x.aI),.d (.ol n (lx x.aj (n+1)))]] (.agg [.d (.s (vQ x).aI),.d (.ol n (lx (vQ x).aj (n+1)))]):=by
 unfold vQ
 cases hv:dQ x with
 |false=>
  refine aD.less (fun S=> ?_) (Oo [] n);refine zcx [.cell 2 26] func80 ntmps80 ?_;refine W1 ?_;refine lQ (rJ x hsz) (.cons (AO x n) .nil) ?_;exact Rt
 |true=>
  intro S;refine zcx [.cell 2 26] func80 ntmps80 ?_;refine W1 ?_;refine lQ (rJ x hsz) (.cons (AO x n) .nil) ?_;exact Rt
theorem aU.bounds{x:aU}(h:x.sz<=4194304):x.fName.length<=4194304/\x.aG.length<=4194304/\x.aF.length<=4194304/\∀s∈x.aG,s.length<=4194304:=by
 simp only[aU.sz,aU.aC,bX,bT,D.sz,ab] at h;refine⟨gA,gA,gA,fun s hs=> ?_⟩;have:=uO hs;omega
theorem aU.Xz{x:aU}{i:Nat}(hi:i<x.aF.length)(h:x.sz<=4194304):x.aF[i].sz<=4194304:=by
 have hx:x.aF[i].sz<=aS (x.aF.map bF.enc):=dM (be (ac hi));simp only[aU.sz,aU.aC,bX,bT,D.sz,ab] at h;omega
theorem bF.bounds{x:bF}(h:x.sz<=4194304):x.fName.length<=4194304/\x.iq.length<=4194304/\∀t∈x.iq,t.sz<=4194304:=by
 simp only[bF.sz,bF.aC,bX,bT,D.sz,ab] at h;refine⟨gA,gA,fun t ht=> ?_⟩;have hx:t.sz<=aS (x.iq.map ak.enc):=dM (be ht);omega
noncomputable def qP(vars:List (List UInt8))(c:bF):Bool:=dec (c.iq.length<=4)&&mW vars c.iq
noncomputable def mY(d:aU):List (List UInt8):=d.aF.map bF.fName
noncomputable def fK(d:aU):Bool:=
 validName d.fName&&(dec (d.aG.length<=3)&&(je d.aG&&(dec (1<=d.aF.length)&&(dec (d.aF.length<=5)&&(d.aF.all (qP d.aG)&&je (mY d))))))
theorem GN(d:aU)(hsz:d.sz<=4194304):aD prog 110 [d.v] (.c (.d (.b (fK d)))):=fun S=>by
 have hb0:=aU.bounds hsz
 have bad:∀i,∀hi:i<d.aF.length,qP d.aG d.aF[i]=false->fK d=false:=fun i hi h=>by
  have:d.aF.all (qP d.aG)=false:=eX.2 fun hx=>by
   rw[az.1 hx _ (ac hi)] at h;cases h
  unfold fK
  rw[this];simp
 refine zcx [.tmp 2] func110 ntmps110 ?_;refine W1 ?_;refine W3 ?_;refine nu 3 1 [] rfl gL ?_
 refine aZ (ι:=Nat×List (List UInt8)) zmx rfl [1,3,4] (fun y=>[.c (.ptr (0,0) 0),.c (.bJ (0,1) (y.2.map encS)),.c (.d (.i .i64 y.1))]) (fun y=>[.box (d.enc.map .d),.tok 1 (y.2.map encS)]::S)
  (fun y=>y.1<=d.aF.length/\y.2=(mY d).take y.1/\∀j,∀hj:j<d.aF.length,j<y.1->qP d.aG d.aF[j]=true) (fun y=>d.aF.length-y.1) (0,[]) rfl ?_ ⟨an _,rfl,fun j _ h=>by simp only at h;omega⟩ ?_
 ·exact Z1
 rintro⟨i,names⟩ ⟨p1,p2,p3⟩;simp only at p1 p2 p3
 have pl:names.length<=d.aF.length:=by rw[p2];simp[mY];omega
 refine W1 ?_;refine S0 (fun hb h=>?_) fun hb h=>?_
 ·have hi:i<d.aF.length:=gA
  have hc:=bF.bounds (aU.Xz hi hsz);refine W3 ?_;refine S0 (fun hb h=>?_) fun hb h=>?_
  ·rw[bad i hi (by unfold qP;rw[aO gA];rfl)]
  have h1:=h;refine W3 ?_;refine C2 (Vy d.aF[i].iq d.aG gA hc.2.2 gA) ?_;refine S0 (fun hb h=>?_) fun hb h=>?_
  ·rw[bad i hi (by unfold qP;rw[h];simp)]
  have h2:=h;refine W3 ?_;rw[show List.map encS names++[[D.s d.aF[i].fName]]=List.map encS (names++[d.aF[i].fName]) by simp[encS]]
  exact dH (i+1,names++[d.aF[i].fName]) gC rfl rfl ⟨gC,by simp only;rw[p2,jk (by simpa [mY] using hi)];simp[mY],fun j hj hji=>by
   simp only at hji;by_cases e:j=i
   ·subst e;unfold qP;rw[h2,bK gA];rfl
   ·exact p3 j hj gA⟩
 have hi:i=d.aF.length:=gA
 have hn:names=mY d:=by rw[p2,aE (by simp[mY];omega)]
 have hall:d.aF.all (qP d.aG)=true:=az.2 fun c hc=>by
  obtain⟨j,hj,e⟩:=ci hc;rw[<-e];exact p3 j hj gA
 have hnl:∀s∈names,s.length<=4194304:=fun s hs=>by
  rw[hn] at hs;obtain⟨c,hc,e⟩:=cr.1 hs;obtain⟨j,hj,e'⟩:=ci hc;rw[<-e,<-e'];exact(bF.bounds (aU.Xz hj hsz)).1
 have hlen:names.length=d.aF.length:=by rw[hn];simp[mY]
 refine C2 (iV d.fName gA) ?_;refine S0 (fun hb h=>?_) fun hb h=>?_
 ·have h1:=h;refine C2 (nD d.aG 3 gA hb0.2.2.2) ?_;refine S0 (fun hb h=>?_) fun hb h=>?_
  ·have h2:=h;refine S0 (fun hb h=>?_) fun hb h=>?_
   ·have h3:=h;refine C2 (nD names 5 gA hnl) ?_;refine aK ?_;rw[ai] at h2;have h4:=gD h2.1;unfold fK;rw[h1,h2.2,hall,<-hn,bK (show d.aG.length<=3 by omega),bK (show 1<=d.aF.length by omega),hlen];simp only[cd];congr 1;exact iJ ⟨fun h=>gA,fun h=>gA⟩
   ·refine aK ?_;unfold fK
    rw[aO (show ¬1<=d.aF.length by omega)];simp
  ·refine aK ?_;unfold fK
   have h2:(dec (d.aG.length<=3)&&je d.aG)=false:=by
    rw[<-h];congr 1;exact iJ ⟨fun h=>gA,fun h=>gA⟩
   rw[<-fW (dec (d.aG.length<=3)),h2];simp
 ·exact aK (by unfold fK;rw[h];rfl)
theorem GQ(d:aU)(hsz:d.sz<=4194304):aD prog 35 [d.v] (.c (.d (.b (fK d)))):=fun S=>by
 have hb0:=aU.bounds hsz
 have bad:∀i,∀hi:i<d.aF.length,qP d.aG d.aF[i]=false->fK d=false:=fun i hi h=>by
  have:d.aF.all (qP d.aG)=false:=eX.2 fun hx=>by
   rw[az.1 hx _ (ac hi)] at h;cases h
  unfold fK
  rw[this];simp
 refine zcx [.tmp 2] func35 ntmps35 ?_;refine W1 ?_;refine C2 (iU d.fName gA) ?_;refine S0 (fun hb h=>?_) fun hb h=>?_
 ·exact aK (by unfold fK;rw[h];rfl)
 have h1:=h;refine S0 (fun hb h=>?_) fun hb h=>?_
 ·exact aK (by unfold fK;rw[aO (show ¬d.aG.length<=3 by omega)];simp)
 have h2:=h;refine C2 (qB d.aG gA hb0.2.2.2) ?_;refine S0 (fun hb h=>?_) fun hb h=>?_
 ·exact aK (by unfold fK;rw[h];simp)
 have h3:=h;refine S0 (fun hb h=>?_) fun hb h=>?_
 ·exact aK (by unfold fK;rw[aO (show ¬1<=d.aF.length by omega)];simp)
 have h4:=h;refine S0 (fun hb h=>?_) fun hb h=>?_
 ·exact aK (by unfold fK;rw[aO (show ¬d.aF.length<=5 by omega)];simp)
 have h5:=h;refine W3 ?_;refine nu 3 1 [] rfl gL ?_
 refine aZ (ι:=Nat×List (List UInt8)) zmx rfl [1,3,36,37,38] (fun y=>[.c (.ptr (0,0) 0),.c (.bJ (0,1) (y.2.map encS)),.c (.d (.sl (d.aF.map bF.enc))),.c (.d (.i .i64 d.aF.length)),.c (.d (.i .i64 y.1))]) (fun y=>[.box (d.enc.map .d),.tok 1 (y.2.map encS)]::S)
  (fun y=>y.1<=d.aF.length/\y.2=(mY d).take y.1/\∀j,∀hj:j<d.aF.length,j<y.1->qP d.aG d.aF[j]=true) (fun y=>d.aF.length-y.1) (0,[]) rfl ?_ ⟨an _,rfl,fun j _ h=>by simp only at h;omega⟩ ?_
 ·exact Z1
 rintro⟨i,names⟩ ⟨p1,p2,p3⟩;simp only at p1 p2 p3
 have pl:names.length<=d.aF.length:=by rw[p2];simp[mY];omega
 refine W1 ?_;refine S0 (fun hb h=>?_) fun hb h=>?_
 ·have hi:i<d.aF.length:=gA
  have hc:=bF.bounds (aU.Xz hi hsz);refine W3 ?_;refine S0 (fun hb h=>?_) fun hb h=>?_
  ·rw[bad i hi (by unfold qP;rw[aO gA];rfl)]
  have k1:=h;refine W3 ?_;refine C2 (BI d.aF[i].iq d.aG gA hc.2.2 gA) ?_;refine S0 (fun hb h=>?_) fun hb h=>?_
  ·rw[bad i hi (by unfold qP;rw[h];simp)]
  have k2:=h;refine W3 ?_;rw[show List.map encS names++[[D.s d.aF[i].fName]]=List.map encS (names++[d.aF[i].fName]) by simp[encS]]
  exact bR 2 gE (i+1,names++[d.aF[i].fName]) gC rfl rfl rfl rfl ⟨gC,by simp only;rw[p2,jk (by simpa [mY] using hi)];simp[mY],fun j hj hji=>by
   simp only at hji;by_cases e:j=i
   ·subst e;unfold qP;rw[k2,bK gA];rfl
   ·exact p3 j hj gA⟩
 have hi:i=d.aF.length:=gA
 have hn:names=mY d:=by rw[p2,aE (by simp[mY];omega)]
 have hall:d.aF.all (qP d.aG)=true:=az.2 fun c hc=>by
  obtain⟨j,hj,e⟩:=ci hc;rw[<-e];exact p3 j hj gA
 have hnl:∀s∈names,s.length<=4194304:=fun s hs=>by
  rw[hn] at hs;obtain⟨c,hc,e⟩:=cr.1 hs;obtain⟨j,hj,e'⟩:=ci hc;rw[<-e,<-e'];exact(bF.bounds (aU.Xz hj hsz)).1
 refine C2 (qB names gA hnl) ?_;exact aK (by unfold fK;rw[h1,h3,hall,<-hn,bK (show d.aG.length<=3 by omega),bK (show 1<=d.aF.length by omega),bK (show d.aF.length<=5 by omega)];simp)
def og:List UInt8:=[100,97,116,97]
def Ec(c:bF):ah:=bL ([bN c.fName]++c.iq.map dI)
def baseD(d:aU):List ah:=[bN og,bN d.fName,bL (aR d.aG)]
def uQ(d:aU):ah:=bL (baseD d++d.aF.map Ec)
noncomputable def BJ(d:aU):ah:=sD (fK d) (uQ d)
theorem ao8{d:aU}(h:d.sz<=1048576):(BJ d).sz<=1048576:=co (FV _ _) gE
def ET:List bF->Nat
 |[]=>0
 |x::xs=>x.sz+ET xs
theorem Qe:∀l,aS (l.map bF.enc)=ET l
 |[]=>rfl
 |x::xs=>by rw[af,aS,ET,Qe xs];rfl
theorem yM(x:bF):x.sz=x.fName.length+(x.iq.length+tT x.iq):=by
 rw[<-Cy];simp only[bF.sz,bF.aC,bX,D.sz,ab];omega
theorem sH(x:aU):x.sz=x.fName.length+(x.aG.length+(x.aG.map List.length).sum)+(x.aF.length+ET x.aF):=by
 rw[<-Qe,<-dN];simp only[aU.sz,aU.aC,bX,D.sz,ab];omega
theorem aq9(c:bF):(Ec c).sz<=1+16*c.sz:=by
 have:=R5 c.iq;rw[Ec,jH,gQ,ae,ab,yM];simp[dx,jY];omega
theorem acU:∀l:List bF,dx (l.map Ec)<=l.length+16*ET l
 |[]=>by simp[dx]
 |c::l=>by
  have h1:=aq9 c;have h2:=acU l;rw[af,dx,ET,aa];omega
theorem Zv(d:aU):(uQ d).sz<=7+16*d.sz:=by
 have:=acU d.aF;rw[uQ,jH,gQ,ae,ab,sH];simp[baseD,dx,jY,jH,jP,sU,og];omega
theorem MS(n:Nat)(a b:List UInt8)(w:List (List UInt8)):lx [bN a,bN b,bL (aR w)] (n+1)=[[.s a,.ol (n+1) []],[.s b,.ol (n+1+1) []],[.s [],.ol (n+1+1+1) (lx (aR w) (n+1+1+1+1))]]:=by
 simp only[jZ,nU,jM,kM,kN,eF,dD,kI]
theorem Ad{vars:List (List UInt8)}{ts:List ak}(h:mW vars ts=true):jG ts=true:=zM.2 fun t ht=>by
 have:=az.1 h t ht;unfold iC at this;rw[ai] at this;exact yI this.1
theorem JN{d:aU}(h:fK d=true):∀c∈d.aF,jG c.iq=true:=fun c hc=>by
 have h1:d.aF.all (qP d.aG)=true:=by
  unfold fK at h;simp only[ai] at h;simp_all
 have h2:=az.1 h1 c hc;unfold qP at h2;rw[ai] at h2;exact Ad h2.2
theorem VH{l:List ak}{t:ak}(h:t∈l):t.sz<=tT l:=by
 rw[<-Cy];exact dM (be h)
theorem Sm{l:List bF}{t:bF}(h:t∈l):t.sz<=ET l:=by
 rw[<-Qe];exact dM (be h)
theorem BK(d:aU)(n:Nat)(hv:fK d=true)(hsz:d.sz<=1048576):aD prog 77 [d.v] (.agg [.d (.s []),.d (.ol n (lx (uQ d).aj (n+1)))]):=fun S=>by
 have hdz:=sH d;have hfo:=JN hv
 have hlen:d.aF.length<=1048576:=gA
 obtain⟨L,hL⟩:∃L:Nat->Nat,L=fun i=>n+1+iY (baseD d++(d.aF.map Ec).take i):=⟨_,rfl⟩;obtain⟨T,hT⟩:∃T:Nat->List (List D),T=fun i=>lx (baseD d++(d.aF.map Ec).take i) (n+1):=⟨_,rfl⟩
 have hT0:T 0=[[.s og,.ol (n+1) []],[.s d.fName,.ol (n+1+1) []],[.s [],.ol (n+1+1+1) (lx (aR d.aG) (n+1+1+1+1))]]:=by
  rw[hT];simp only[cE,bm];exact MS _ _ _ _
 have fZ:∀i,(T i).length<=i+3:=fun i=>by
  rw[hT];simp only[gM,ae];have:=bi i (d.aF.map Ec);simp[baseD];omega
 have hTs:∀i (hi:i<d.aF.length),T i++[[.s [],.ol (L i) (lx ([bN d.aF[i].fName]++d.aF[i].iq.map dI) (L i+1))]]=T (i+1):=fun i hi=>by
  have:=CB (base:=baseD d) (l:=d.aF.map Ec) (i:=i) hJ (n+1);rw[bp] at this;rw[hT,hL];exact this
 have hTr:∀i,∀r∈T i,r.length=2:=fun i=>by rw[hT];exact lg
 have hTe:T d.aF.length=lx (uQ d).aj (n+1):=by
  rw[hT];simp only
  rw[aE gL];rfl
 clear hT hL;refine sF (n) 1 (rs:=[.cell 2 26]) zmx func77 ntmps77 rfl rfl rfl rfl rfl ?_;refine W1 ?_;refine C1 (dL _ (n+1)) ?_;refine C1 (dL _ (n+1+1)) ?_;refine C1 (eT d.aG gA (n+1+1+1)) ?_;refine W3 ?_;refine lV n 3 2 (T 0) (.inl ?_) (hTr 0) ?_
 ·rw[hT0];rfl
 refine oW (L 0) ?_
 refine aZ (ι:=Nat) zmx rfl [2,3,15,16,17] (fun i=>[.c (.ptr (0,3) 0),.c (.bJ (0,4) (T i)),.c (.d (.sl (d.aF.map bF.enc))),.c (.d (.i .i64 d.aF.length)),.c (.d (.i .i64 i))])
  (fun i=>[.seed (L i),.seed 1,.box [.d (.s d.fName),.d (.sl (d.aG.map encS)),.d (.sl (d.aF.map bF.enc))],.box [.d (.s []),.bH []],.eP n 2 (T i)]::S)
  (fun i=>i<=d.aF.length) (fun i=>d.aF.length-i) 0 rfl rfl (an _) ?_
 intro i hi;have hl:=fZ i;refine W1 ?_;refine S0 (fun hb h=>?_) fun hb h=>?_
 ·have hi':i<d.aF.length:=gA
  have hm:=ac hi';have hcz:=Sm hm;have hce:=yM d.aF[i];have hs:=hTs i hi';refine W3 ?_;refine C1 (dL _ (L i+1)) ?_;refine C1 (Dq d.aF[i].iq 0 (L i+1+1) (hfo _ hm) gA (fun t ht=>by have:=VH ht;omega)) ?_;have hr:=lg (l:=d.aF[i].iq.map dI) (n:=L i+1+1)
  have hl2:(lx (d.aF[i].iq.map dI) (L i+1+1)).length=d.aF[i].iq.length:=by rw[gM,ab]
  refine W3 ?_;refine C1 (lS _) ?_;refine W3 ?_;simp only[ba,bc,jZ,yL,kI] at hs;rw[hs];refine lH (L (i+1)) 4 gE (i+1) gA rfl rfl ?_ rfl gA;simp[jh,iy,V.refs,C.refs,kR]
 ·have hi':i=d.aF.length:=gA
  refine bD rfl (kP 0 4 _ _) ?_;refine W1 ?_;rw[hi',hTe]
theorem Jb(d:aU)(hsz:d.sz<=1048576):aD prog 42 [d.v] (BJ d).v:=fun S=>by
 have hz:=Zv d;have hdz:=sH d;obtain⟨T,hT⟩:∃T:Nat->List (List D),T=fun i=>(baseD d++(d.aF.map Ec).take i).map ah.enc:=⟨_,rfl⟩
 have hT0:T 0=[[.s og,.sl []],[.s d.fName,.sl []],[.s [],.sl ((aR d.aG).map ah.enc)]]:=by
  rw[hT];simp only[cE,bm,baseD,af,aw,fI,jV]
 have fZ:∀i,(T i).length<=i+3:=fun i=>by
  rw[hT];simp only[ab,ae];have:=bi i (d.aF.map Ec);simp[baseD];omega
 have hTs:∀i (hi:i<d.aF.length),T i++[[.s [],.sl (([bN d.aF[i].fName]++d.aF[i].iq.map dI).map ah.enc)]]=T (i+1):=fun i hi=>by
  have:=jI (base:=baseD d) (l:=d.aF.map Ec) (i:=i) hJ;rw[bp] at this;rw[hT];exact this
 have hTr:∀i,∀r∈T i,r.length=2:=fun i=>by rw[hT];exact gK
 have hTe:T d.aF.length=(uQ d).aj.map ah.enc:=by
  rw[hT];simp only
  rw[aE gL];rfl
 clear hT;refine zcx [.cell 2 26] func42 ntmps42 ?_;refine W1 ?_;refine C1 (bW _) ?_;refine C1 (bW _) ?_;refine C1 (eG d.aG gA) ?_;have hE:=fun bY Ω=>kD (T 0) (hTr 0) (by have:=fZ 0;omega) bY Ω;simp only[hT0] at hE;refine dX [false] rfl (hE _ _) ?_;refine W1 ?_
 refine aZ (ι:=Nat) zmx rfl [1,2,3,4] (fun i=>[.c (.ptr (0,0) 0),.c (.ptr (0,1) 0),.c (.ptr (0,4) 0),.c (.d (.i .i64 i))])
  (fun i=>[.box [.d (.s d.fName),.d (.sl (d.aG.map encS)),.d (.sl (d.aF.map bF.enc))],.box [.d (.s []),.bH []],.box [.d (.s []),.bJ (0,3) (T 0)],.tok 2 (T i),.box [.d (.s []),.bJ (0,3) (T i)]]::S)
  (fun i=>i<=d.aF.length) (fun i=>d.aF.length-i) 0 rfl (by simp only[hT0]<;>(try rfl)) (an _) ?_
 intro i hi;have hl:=fZ i;refine W1 ?_;refine S0 (fun hb h=>?_) fun hb h=>?_
 ·have hi':i<d.aF.length:=gA
  have hm:=ac hi';have hcz:=Sm hm;have hce:=yM d.aF[i];have hs:=hTs i hi';refine W3 ?_;refine C1 (bW _) ?_;refine W3 ?_;refine C1 (FC d.aF[i].iq gA (fun t ht=>by have:=VH ht;omega)) ?_;have hr:=gK (l:=d.aF[i].iq.map dI)
  have hl2:((d.aF[i].iq.map dI).map ah.enc).length=d.aF[i].iq.length:=by rw[ab,ab]
  refine W3 ?_;simp only[ba,bc,af,fI] at hs;rw[hs];exact bR 5 gE (i+1) gA rfl rfl rfl rfl gA
 ·have hi':i=d.aF.length:=gA
  subst hi';rw[hTe];refine C1 (GN d gA) ?_;refine C1 (sW (fK d) (uQ d) gA) ?_;rfl
def Dr:List UInt8:=[116,114,117,101]
def BL:List UInt8:=[102,97,108,115,101]
def qC:List UInt8:=[99,97,108,108]
def jN:List UInt8:=[109,101,116,104,111,100]
def u7:List UInt8:=[110,101,119]
def lX:List UInt8:=[99,97,115,101]
def vg:List UInt8:=[108,101,116]
def zN:List UInt8:=[105,102]
def qD:List UInt8:=[112,97,99,107]
def vT:List UInt8:=[116,104,101]
def jL(k:Int)(tr nm:List UInt8)(ty:ak):List ah:=
 if k=4 then aR [qC,nm] else if k=5 then aR [jN,tr,nm] else if k=6 then aR [u7,nm] else if k=8 then aR [vg,nm] else
 if k=9 then aR [zN] else if k=10 then aR [nm] else if k=11 then aR [qD,tr] else if k=12 then [bN vT,dI ty] else aR [lX]
mutual
def fG:au->ah
 | .mk k tr nm n ty zs ms=>if k=1 then bN (Lib.itoa n) else if k=2 then bN (if n=1 then Dr else BL) else if k=3 then bN nm else
   bL (jL k tr nm ty++EB zs++(if k=4\/k=5\/k=6\/k=8\/k=9\/k=10\/k=11\/k=12 then [] else KN ms))
def EB:List au->List ah
 |[]=>[]
 |t::ts=>fG t::EB ts
def Cj:bq->ah
 | .mk c vs b=>bL ([bN c]++aR vs++[fG b])
def KN:List bq->List ah
 |[]=>[]
 |t::ts=>Cj t::KN ts
end
theorem GR:∀l,EB l=l.map fG
 |[]=>rfl
 |t::ts=>by rw[EB,af,GR ts]
theorem KO:∀l,KN l=l.map Cj
 |[]=>rfl
 |t::ts=>by rw[KN,af,KO ts]
theorem MU(x:au):fG x=if x.aN=1 then bN (Lib.itoa x.fN) else if x.aN=2 then bN (if x.fN=1 then Dr else BL) else if x.aN=3 then bN x.fName else
 bL (jL x.aN x.bO x.fName x.fType++x.fArgs.map fG++(if x.aN=4\/x.aN=5\/x.aN=6\/x.aN=8\/x.aN=9\/x.aN=10\/x.aN=11\/x.aN=12 then [] else x.aX.map Cj)):=by
 cases x;rw[fG,GR,KO];rfl
theorem ail(x:bq):Cj x=bL ([bN x.dV]++aR x.aG++[fG x.fBody]):=by cases x;rw[Cj];rfl
def xk:List au->Nat
 |[]=>0
 |x::xs=>x.sz+xk xs
theorem Qf:∀l,aS (l.map au.enc)=xk l
 |[]=>rfl
 |x::xs=>by rw[af,aS,xk,Qf xs];rfl
def EU:List bq->Nat
 |[]=>0
 |x::xs=>x.sz+EU xs
theorem Qg:∀l,aS (l.map bq.enc)=EU l
 |[]=>rfl
 |x::xs=>by rw[af,aS,EU,Qg xs];rfl
theorem Ae(x:au):x.sz=x.bO.length+x.fName.length+x.fType.sz+(x.fArgs.length+xk x.fArgs)+(x.aX.length+EU x.aX):=by
 rw[<-Qf,<-Qg];simp only[au.sz,au.aC,bX,bT,D.sz,ab,ak.dY];omega
theorem Ed(x:bq):x.sz=x.dV.length+(x.aG.length+(x.aG.map List.length).sum)+x.fBody.sz:=by
 rw[<-dN];simp only[bq.sz,bq.aC,bX,bT,D.sz,ab,au.dY];omega
theorem JO:∀(k n:Nat),n<10^ (k+1)->(Lib.decDigits n).length<=k+1
 |0,n,h=>by rw[Lib.decDigits,dif_pos (by simpa using h)];simp
 |k+1,n,h=>by
  rw[Lib.decDigits];split
  ·simp
  ·rw[ae];have:=JO k (n/10) (by rw[gv] at h;omega);simp;omega
theorem alR{n:Int}(h: -999999<=n/\n<=999999):(Lib.itoa n).length<=7:=by
 unfold Lib.itoa;split
 ·have:=JO 5 n.natAbs gA;simp;omega
 ·have:=JO 5 n.toNat gA;omega
theorem ain(k:Int)(tr nm:List UInt8)(ty:ak):(jL k tr nm ty).length<=3/\dx (jL k tr nm ty)<=18+tr.length+nm.length+16*ty.sz:=by
 have h:=D9 ty;unfold jL
 repeat' (first|(split;·refine⟨by simp[aR],?_⟩;simp[dx,aR,jY,qC,jN,u7,vg,zN,qD,vT,lX];omega))
 refine⟨by simp[aR],?_⟩;simp[dx,aR,jY,lX];omega
mutual
theorem MV:∀x:au,jl x=true->(fG x).sz<=24+32*x.sz
 | .mk k tr nm n ty zs ms=>fun hok=>by
   rw[jl,ai,ai] at hok;have hf:=gD hok.1;have h1:=acV zs hok.2.1;have h2:=acW ms hok.2.2;have h3:=ain k tr nm ty;rw[Ae];simp only[au.fName,au.fArgs,au.bO,au.fType,au.aX];rw[fG];split
   ·rename_i hk;have h4:=hf.2.2.2.1;simp only[au.aN,au.fN,hk,if_true] at h4;have:=alR h4;rw[jY];omega
   ·split
    ·rw[jY];split<;>simp[Dr,BL]<;>omega
    ·split
     ·rw[jY];omega
     ·rw[jH,gQ,gQ,ae,ae,GR,ab,<-GR];split
      ·simp[dx];omega
      ·rw[KO,ab,<-KO];omega
theorem acV:∀xs:List au,ni xs=true->dx (EB xs)<=24*xs.length+32*xk xs
 |[],_=>by simp[EB,dx]
 |x::xs,h=>by
  rw[ni,ai] at h;have h1:=MV x h.1;have h2:=acV xs h.2;rw[EB,dx,xk,aa];omega
theorem ara:∀x:bq,zl x=true->(Cj x).sz<=26+32*x.sz
 | .mk c vs b=>fun hok=>by
   rw[zl,ai,ai] at hok;have h1:=MV b hok.2.2;rw[Ed];simp only[bq.dV,bq.aG,bq.fBody];rw[Cj,jH,gQ,gQ,ae,ae,jP,sU];simp[dx,jY];omega
theorem acW:∀xs:List bq,qL xs=true->dx (KN xs)<=26*xs.length+32*EU xs
 |[],_=>by simp[KN,dx]
 |x::xs,h=>by
  rw[qL,ai] at h;have h1:=ara x h.1;have h2:=acW xs h.2;rw[KN,dx,EU,aa];omega
end
end Go.Ab
namespace Go.Proofs
open Go.Shelf
def Tryz.laysM171_ren:Go.Shelf.Ren:=⟨fun|171=>219|243=>248|246=>262|283=>270|284=>271|285=>272|286=>273|129=>279|317=>278|318=>280|319=>281|320=>282|337=>286|338=>287|n=>n,fun|3=>3|9=>9|2=>2|4=>4|171=>259|0=>0|53=>260|37=>22|5=>5|173=>263|212=>274|51=>275|20=>20|213=>276|46=>202|232=>284|233=>285|n=>n,fun|17=>3|18=>4|19=>5|n=>n⟩
theorem Tryz.laysM171:Go.Proofs.LaysM.n171 prog Tryz.laysM171_ren:={
 mixed:=by kernel_rfl
 f129:=func279.trans (congrArg some (by kernel_rfl))
 f171:=func219.trans (congrArg some (by kernel_rfl))
 f243:=func248.trans (congrArg some (by kernel_rfl))
 f246:=func262.trans (congrArg some (by kernel_rfl))
 f283:=func270.trans (congrArg some (by kernel_rfl))
 f284:=func271.trans (congrArg some (by kernel_rfl))
 f285:=func272.trans (congrArg some (by kernel_rfl))
 f286:=func273.trans (congrArg some (by kernel_rfl))
 f317:=func278.trans (congrArg some (by kernel_rfl))
 f318:=func280.trans (congrArg some (by kernel_rfl))
 f319:=func281.trans (congrArg some (by kernel_rfl))
 f320:=func282.trans (congrArg some (by kernel_rfl))
 f337:=func286.trans (congrArg some (by kernel_rfl))
 f338:=func287.trans (congrArg some (by kernel_rfl))
 t0:=underlying0
 a0:=Tryz.isAgg0
 z0:=Tryz.sizeOf0
 v0:=Tryz.zeroValue0
 t2:=underlying2
 a2:=Tryz.isAgg2
 z2:=Tryz.sizeOf2
 v2:=Tryz.zeroValue2
 t3:=underlying3
 a3:=Tryz.isAgg3
 z3:=Tryz.sizeOf3
 v3:=Tryz.zeroValue3
 t4:=underlying4
 a4:=Tryz.isAgg4
 z4:=Tryz.sizeOf4
 v4:=Tryz.zeroValue4
 t5:=underlying5
 a5:=Tryz.isAgg5
 z5:=Tryz.sizeOf5
 v5:=Tryz.zeroValue5
 t9:=underlying9
 a9:=Tryz.isAgg9
 z9:=Tryz.sizeOf9
 v9:=Tryz.zeroValue9
 t20:=underlying20
 a20:=Tryz.isAgg20
 z20:=Tryz.sizeOf20
 v20:=Tryz.zeroValue20
 t37:=underlying22
 a37:=Tryz.isAgg22
 z37:=Tryz.sizeOf22
 v37:=Tryz.zeroValue22
 t46:=underlying202
 a46:=Tryz.isAgg202
 z46:=Tryz.sizeOf202
 v46:=Tryz.zeroValue202
 t51:=underlying275
 a51:=Tryz.isAgg275
 z51:=Tryz.sizeOf275
 v51:=Tryz.zeroValue275
 t53:=underlying260
 a53:=Tryz.isAgg260
 z53:=Tryz.sizeOf260
 v53:=Tryz.zeroValue260
 t171:=underlying259
 a171:=Tryz.isAgg259
 z171:=Tryz.sizeOf259
 v171:=Tryz.zeroValue259
 t173:=underlying263
 a173:=Tryz.isAgg263
 z173:=Tryz.sizeOf263
 v173:=Tryz.zeroValue263
 t212:=underlying274
 a212:=Tryz.isAgg274
 z212:=Tryz.sizeOf274
 v212:=Tryz.zeroValue274
 t213:=underlying276
 a213:=Tryz.isAgg276
 z213:=Tryz.sizeOf276
 t232:=underlying284
 a232:=Tryz.isAgg284
 z232:=Tryz.sizeOf284
 v232:=Tryz.zeroValue284
 t233:=underlying285
 a233:=Tryz.isAgg285
 z233:=Tryz.sizeOf285
 v233:=Tryz.zeroValue285
 g17:=by kernel_rfl
 g18:=by kernel_rfl
 g19:=by kernel_rfl
 i0:=by kernel_rfl
 i2:=by kernel_rfl
 i3:=by kernel_rfl
 i4:=by kernel_rfl
 i5:=by kernel_rfl
 i9:=by kernel_rfl
 i20:=by kernel_rfl
 i37:=by kernel_rfl
 i46:=by kernel_rfl
 i51:=by kernel_rfl
 i53:=by kernel_rfl
 i171:=by kernel_rfl
 i173:=by kernel_rfl
 i212:=by kernel_rfl
 i232:=by kernel_rfl
 i233:=by kernel_rfl
 m17:=by kernel_rfl
 m18:=by kernel_rfl
 m19:=by kernel_rfl}
open Go.RowKit Go.Sort Go.Lib in
theorem Tryz.strconv_Itoa(n:Int)(h0: -9223372036854775808<=n)(h1:n<=9223372036854775807)(w:World)(htab:Lib.TabIs prog w "internal/strconv.uint64pow10" .u64 Lib.pow10Tab):
 Calls prog 219 #[.int .i64 n] w fun e w'=>e=.returned (.string ⟨(Lib.itoa n).toArray⟩)/\∃k os,w'=grow (w.drewN k) os:=Any.strconv_Itoa Tryz.laysM171 n h0 h1 w htab
end Go.Proofs
namespace Go.Ab
theorem afp{w:World}{σ:Nat->Nat}{k:Nat}{os:Array Go.Obj}(hl:∀b,b<w.heap.size\/σ b=0):Grow w σ (Go.Sort.grow (w.drewN k) os) σ:=by
 have hh:(Go.Sort.grow (w.drewN k) os).heap=w.heap++os:=rfl;refine⟨by rw[hh];simp,rfl,rfl,fun b hb=>⟨by rw[hh,cU hb],rfl⟩,fun b=> ?_⟩;rcases hl b with h|h
 ·left;rw[hh];simp;omega
 ·exact .inr h
theorem ao9{x:V}{vs:List Value}{w:World}{σ:Nat->Nat}{S:Store}{β:Hs}(h:pO w σ S β [x] vs):∃v,vs=[v]/\dR w σ S β x v:=by
 obtain⟨hl,h⟩:=h;obtain⟨v,e,hr⟩:=h 0 x rfl
 match vs,hl,e with
 |[y],_,e=>simp at e;subst e;exact⟨_,rfl,hr⟩
theorem VI{w:World}{σ:Nat->Nat}(h:mF w σ):Lib.TabIs prog w "internal/strconv.uint64pow10" .u64 Lib.pow10Tab:=by
 obtain⟨c,t,fz,q1,q2,q3⟩:=h _ _ (show _∈acs from ey ..)
 have hn:prog.globalNamed "internal/strconv.uint64pow10" =some 3:=by kernel_rfl
 unfold Lib.TabIs World.var?;rw[hn];simp only[dy,q1,cC];apply Array.ext';rw[q2];simp[Lib.pow10Tab]
theorem apa(n:Int)(h0: -9223372036854775808<=n)(h1:n<=9223372036854775807):aD prog 219 [.c (.d (.i .i64 n))] (.c (.d (.s (Lib.itoa n)))):=fun S=>by
 refine⟨⟨_,func219,by kernel_rfl,by kernel_rfl⟩,fun w σ β vs hS hv=> ?_⟩;obtain⟨v,rfl,hr,_⟩:=ao9 hv
 have hv0:v=.int .i64 n:=by cases hr;rfl
 subst hv0;refine(Tryz.strconv_Itoa n h0 h1 w (VI hS.vH)).mono fun e w' ⟨he,k,os,hw⟩=> ?_;subst hw;have hg:Grow w σ (Go.Sort.grow (w.drewN k) os) σ:=afp hS.live;exact⟨_,.c (.d (.s (Lib.itoa n))),S,σ,β,he,hS.grow hg,Keep.refl _ _,Step.oQ hg,⟨.s _,rfl⟩,rfl,rfl⟩
theorem Qh(n:Int)(h0: -9223372036854775808<=n)(h1:n<=9223372036854775807):aD prog 193 [.c (.d (.i .i64 n))] (.c (.d (.s (Lib.itoa n)))):=fun S=>by
 refine zcx [.tmp 2] func193 ntmps193 ?_;refine W1 ?_;exact C4 (apa n h0 h1)
def MW(m:Nat):List UInt8:=if m=0 then [] else Lib.decDigits m
theorem aio{m:Nat}(h:m≠0):MW (m/10)++[UInt8.ofNat (48+m % 10)]=MW m:=by
 unfold MW;rw[if_neg h]
 conv=>rhs;rw[Lib.decDigits]
 by_cases h10:m<10
 ·rw[dif_pos h10,if_pos gA,bc,Nat.mod_eq_of_lt h10]
 ·rw[dif_neg h10,if_neg gA]
theorem alS(n:Int)(h0: -9223372036854775808<=n)(h1:n<=9223372036854775807):∃sg:Nat->Int,sg 0=0/\sg n.natAbs=n/\(∀m,m≠0->sg m≠0)/\(∀m,(sg m).tmod 10= -((m % 10:Nat):Int)\/(sg m).tmod 10=((m % 10:Nat):Int))/\
 (∀m,(sg m).tdiv 10=sg (m/10))/\∀m,m<=n.natAbs-> -9223372036854775808<=sg m/\sg m<=9223372036854775807:=by
 by_cases h:n<0
 ·refine⟨fun m=> -(m:Int),rfl,gC,fun m hm=>gC,fun m=>.inl ?_,fun m=> ?_,fun m hm=>gC⟩
  ·simp only;rw[Int.neg_tmod];congr 1
  ·simp only;rw[Int.neg_tdiv];congr 1
 ·refine⟨fun m=>(m:Int),rfl,gC,fun m hm=>gC,fun m=>.inr rfl,fun m=>rfl,fun m hm=>gC⟩
theorem aip:Lib.itoa 0=[48]:=by
 unfold Lib.itoa;rw[if_neg gE,Lib.decDigits,dif_pos gE];rfl
theorem afq(a:Nat)(h:a<=9223372036854775808):(Lib.decDigits a).length<=19:=JO 18 a gA
theorem Af(n:Int)(h0: -9223372036854775808<=n)(h1:n<=9223372036854775807):aD prog 170 [.c (.d (.i .i64 n))] (.c (.d (.s (Lib.itoa n)))):=fun S=>by
 obtain⟨sg,g0,gn,gne,avJ,avK,ard⟩:=alS n h0 h1;refine zcx [.tmp 2] func170 ntmps170 ?_;refine W1 ?_;refine S0 (fun hb h=>?_) fun hb h=>?_
 ·rw[h,aip]
 have hn0:=h
 have hd0:MW n.natAbs=Lib.decDigits n.natAbs:=by unfold MW;rw[if_neg gA]
 have hln:=afq n.natAbs gA
 refine aZ (ι:=Nat×List UInt8) zmx rfl [0,3,4] (fun y=>[.c (.d (.i .i64 (sg y.1))),.c (.d (.b (decide (n<0)))),.c (.d (.s y.2))]) (fun _=>[]::S)
  (fun y=>y.1<=n.natAbs/\MW y.1++y.2=MW n.natAbs/\y.2.length<=19) (fun y=>y.1) (n.natAbs,[]) (by rw[gn];rfl) rfl ⟨ax _,bm _,gL⟩ ?_
 rintro⟨m,out⟩ ⟨p1,p2,p3⟩;simp only at p1 p2 p3;have hr:=ard m p1;have hm:=avJ m;have hq:=avK m
 generalize hx:sg m=x at *
 generalize hy:x.tmod 10=y at *
 have hlo:out.length<=19:=p3;refine W1 ?_;refine S0 (fun hb h=>?_) fun hb h=>?_
 ·have hm0:m≠0:=fun e=>by rw[e,g0] at hx;omega
  have hst:=aio hm0;have hr2:=ard (m/10) gA
  have axt:(MW (m/10)).length+1+out.length<=19:=by
   have:=congrArg List.length p2;rw[<-hst,hd0] at this;simp only[ae,aa,al] at this;omega
  simp -implicitDefEqProofs (disch:=omega) only[go_sem,hy];refine S0 (fun hb h=>?_) fun hb h=>?_
  ·have e1:(0:Int)-y=((m % 10:Nat):Int):=gA
   have hc:UInt8.ofNat (IntKind.u8.wrap (48+(0-y))).toNat=UInt8.ofNat (48+m % 10):=by
    rw[wrap_u8 _ gA,e1];congr 1
   simp -implicitDefEqProofs (disch:=omega) only[go_sem,hy,hq];refine W3 ?_;refine dH (m/10,UInt8.ofNat (48+m % 10)::out) gC (by rw[<-hc];rfl) rfl ⟨gC,?_,by simp only[aa];omega⟩
   simp only
   rw[<-p2,<-hst,cf];rfl
  ·have e1:y=((m % 10:Nat):Int):=gA
   have hc:UInt8.ofNat (IntKind.u8.wrap (48+y)).toNat=UInt8.ofNat (48+m % 10):=by
    rw[wrap_u8 _ gA,e1];congr 1
   simp -implicitDefEqProofs (disch:=omega) only[go_sem,hy,hq];refine W3 ?_;refine dH (m/10,UInt8.ofNat (48+m % 10)::out) gC (by rw[<-hc];rfl) rfl ⟨gC,?_,by simp only[aa];omega⟩
   simp only
   rw[<-p2,<-hst,cf];rfl
 ·have hm0:m=0:=by
   rcases fx m with e|e
   ·exact e
   ·exact absurd (by rw[hx];omega) (gne m gA)
  subst hm0
  have hout:out=Lib.decDigits n.natAbs:=by rw[<-hd0,<-p2];rfl
  refine S0 (fun hb h=>?_) fun hb h=>?_
  ·refine W3 ?_;rw[hout];unfold Lib.itoa;rw[if_pos h]
  ·rw[hout];unfold Lib.itoa;rw[if_neg h,show n.toNat=n.natAbs by omega]
theorem MX{P:Program}{w:World}{t u ty e:TypeId}{base:Option Addr}{n:Nat}{i:TypeInfo}{z:Value}(ht:P.underlying t=some (.slice e))(hu:P.underlying u=some (.int .i64))(hi:P.info? e=some i)
 (hz:i.zero=some z)(h1:1<=n)(hn:n<=1073741824)(hb:i.bytes<=4096)(hs:i.size=z.cells.size):
 ∃(cap:Nat) (row:Array Value),n<=cap/\row.size=cap*z.cells.size/\(Builtin.append_ #[t,u] ty #[.slice base 0 0,.int .i64 n]).run P w=
  .ok (.slice (some ⟨w.heap.size,0,none⟩) n cap) {w.drew with heap:=w.heap.push (.cells row e)}:=by
 have hn1:=QO n 0 gA
 have h48:¬(281474976710656<Builtin.nextslicecap n 0*i.bytes):=by
  have:Builtin.nextslicecap n 0*i.bytes<=(2*n+512)*4096:=gx hn1 hb;omega
 have h49:¬(281474976710656<(n:Int)*(i.bytes:Int)):=by
  have h2:n*i.bytes<=1073741824*4096:=gx hn hb
  have:(n:Int)*(i.bytes:Int)=((n*i.bytes:Nat):Int):=gL
  rw[this];omega
 have h63':¬(9223372036854775807<(n:Int)):=gA
 have hroom':¬(n<=0):=gA
 have hneg:¬((n:Int)<0):=gA
 have hn0:¬n=0:=gA
 have hw:IntKind.i64.wrap (n:Int)=n:=Ob _ gA
 have hmax:IntKind.i64.max=9223372036854775807:=gE
 have ha:∀w:World,(asInt (.int .i64 (n:Int))).run P w=.ok (n:Int) w:=fun w=>by simp[asInt,asIntOf]
 let cap:=(Question.appendCap n 0 e).cut (w.tape w.drawn (Question.appendCap n 0 e))
 have hcap:n<=cap:=by simp[cap,Question.cut]
 refine⟨cap,#[]++(if n*i.size=0 then #[] else Builtin.zeroCells z.cells n)++Builtin.zeroCells z.cells (cap-n),hcap,?_,?_⟩
 ·by_cases h0:n*i.size=0
  ·rw[if_pos h0]
   have hsz:z.cells.size=0:=by
    rcases Nat.mul_eq_zero.1 h0 with h|h
    ·omega
    ·omega
   simp[Builtin.zeroCells,hsz]
  ·rw[if_neg h0];simp only[Builtin.zeroCells,Array.size_append,Array.size_map,Array.size_range,Array.size_empty,cG];rw[<-cS];congr 1;omega
 ·by_cases h0:n*i.size=0
  ·rw[if_pos h0];cases base<;>simp[Builtin.append_,run_underlying ht,run_underlying hu,sizeOf,typeInfo,zeroValue,hi,hz,hroom',h48,h49,h63',hneg,hw,hmax,Question.forced,newRow,ha,hn0,loadCellsFrom,h0,Builtin.firstCells,loadCells]<;>exact⟨rfl,rfl⟩
  ·rw[if_neg h0];cases base<;>simp[Builtin.append_,run_underlying ht,run_underlying hu,sizeOf,typeInfo,zeroValue,hi,hz,hroom',h48,h49,h63',hneg,hw,hmax,Question.forced,newRow,ha,hn0,loadCellsFrom,h0,Builtin.firstCells,loadCells]<;>exact⟨rfl,rfl⟩
theorem aiq(base:Option Addr)(n:Nat)(h1:1<=n)(hn:n<=1073741824)(w:World):Calls prog 254 #[.slice base 0 0,.int .i64 n] w fun e w'=>
 ∃cap row,n<=cap/\row.size=cap/\e=.returned (.slice (some ⟨w.heap.size,0,none⟩) 0 cap)/\w'={w.drew with heap:=w.heap.push (.cells row 9)}:=by
 obtain⟨cap,row,hc,hr,hm⟩:=MX (P:=prog) (w:=w) (t:=28) (u:=3) (ty:=28) (e:=9) (base:=base) (n:=n) underlying28 underlying3 rfl rfl h1 hn (by decide +kernel) rfl
 have h0:¬((n:Int)<0):=gA
 have h2:(0:Int)<n:=gA
 go_enter func254,ntmps254
 go_wp2_with (at_builtin;refine Lib.wpList_append_run _ rfl _ _ _ _ rfl _ _ rfl rfl _ _ hm ?_)
 all_goals go_ret
 exact⟨cap,hc,row,hr.trans (Nat.mul_one _),rfl,rfl⟩
theorem afr(base:Option Addr)(w:World):Calls prog 254 #[.slice base 0 0,.int .i64 0] w fun e w'=>e=.returned (.slice base 0 0)/\w'=w:=by
 go_enter func254,ntmps254
 go_wp2
 all_goals go_ret
 exact⟨rfl,rfl⟩
theorem alT(n:Nat)(hn:n<=1073741824)(bY:List Ab.Obj)(Ω:Store):bS prog 254 [.c (.bH []),.c (.d (.i .i64 n))] (bY::Ω)
 (fun r S'=>r=.c (.bJ (0,bY.length) [])/\S'=(bY++[.tok 1 []])::Ω):=by
 refine⟨⟨_,func254,by kernel_rfl,by kernel_rfl⟩,fun w σ β vs hS hv=> ?_⟩;obtain⟨hl,h⟩:=hv;obtain⟨v0,e0,⟨h0,a,m,h00⟩,_⟩:=h 0 _ rfl;obtain⟨v1,e1,h1,_⟩:=h 1 _ rfl
 have h1':v1=.int .i64 n:=by cases h1;rfl
 subst h1'
 have hm:m=0:=by rw[h00] at h0;cases h0<;>rfl
 subst hm;subst h00
 have hvs:vs=[.slice a 0 0,.int .i64 n]:=by
  match vs,hl,e0,e1 with
  |[x,y],_,e0,e1=>simp at e0 e1;rw[e0,e1]
 subst hvs
 cases β with
 |nil=>have:=hS.shape.1;simp at this
 |cons bo bΩ=>
 have hlen:bo.length=bY.length:=by
  obtain⟨gr,g1,g2⟩:=hS.shape.2 0 bY rfl;simp at g1;rw[g1];exact g2
 by_cases hz:n=0
 ·subst hz;refine(afr a w).mono fun e w' ⟨he,hw⟩=> ?_;subst hw;obtain⟨hS',hk,hst⟩:=hS.push (o:=.tok 1 []) (h:=.slice a 0 0) (Grow.refl hS.live) hlen ⟨h0,gL,a,0,rfl,gL,.inl rfl⟩ (fun b hb=>by cases a<;>simp[owns,blk] at hb);refine⟨_,.c (.bJ (0,bY.length) []),_,_,_,he,hS',hk,hst,⟨⟨h0,.tok 1 [],?_,fun bB es e=> ?_⟩,rfl⟩,rfl,rfl⟩
  ·rw[dw]
  ·obtain⟨_,rfl⟩:=mM (lab:=none) e;exact⟨ax _,fun _=>by rw[<-hlen,dw]⟩
 ·refine(aiq a n gA hn w).mono fun e w' ⟨cap,row,hc,hr,he,hw⟩=> ?_;subst hw;have hσ:σ w.heap.size=0:=(hS.live w.heap.size).resolve_left gA
  have hg:Grow w σ {w.drew with heap:=w.heap.push (.cells row 9)} σ:=by
   refine⟨gL,rfl,rfl,fun b hb=>⟨?_,rfl⟩,fun b=> ?_⟩
   ·simp only[dj];rw[if_neg gA]
   ·rcases hS.live b with hb|hb
    ·left;simp;omega
    ·exact .inr hb
  obtain⟨hS',hk,hst⟩:=hS.push (o:=.tok 1 []) (h:=.slice (some ⟨w.heap.size,0,none⟩) 0 cap) hg hlen ⟨.nil _ _,gL,_,cap,rfl,gL,.inr ⟨w.heap.size,0,row,9,rfl,gL,by simp[hσ],gA⟩⟩ (fun b hb=>by
   simp only[owns,blk] at hb;split at hb
   ·cases hb
   ·cases hb;exact ax _)
  refine⟨_,.c (.bJ (0,bY.length) []),_,_,_,he,hS',hk,hst,⟨⟨.nil _ _,.tok 1 [],?_,fun bB es e=> ?_⟩,rfl⟩,rfl,rfl⟩
  ·rw[dw]
  ·obtain⟨_,rfl⟩:=mM (lab:=none) e;exact⟨ax _,fun _=>by rw[<-hlen,dw]⟩
theorem GU{xs:List (List UInt8)}:∀y∈xs.map encS,y.length=1:=fun y hy=>by
 obtain⟨z,_,rfl⟩:=cr.1 hy;rfl
theorem KP{α:Type}(xss:List (List α)){i:Nat}(hi:i<xss.length):(xss.take (i+1)).flatten.length=(xss.take i).flatten.length+xss[i].length:=by
 rw[bu hi,cV,ae];simp only[cF,fe,bm]
theorem AP{α:Type}(xss:List (List α))(i:Nat):(xss.take i).flatten.length<=xss.flatten.length:=by
 conv=>rhs;rw[<-da i xss]
 rw[cV,ae];omega
theorem afs(xss:List (List (List UInt8)))(hl:xss.length<=1073741824)(hf:xss.flatten.length<=1073741824):aD prog 236 [.c (.d (.sl (xss.map fun a=>[.sl (a.map encS)])))] (.c (.d (.sl (xss.flatten.map encS)))):=fun S=>by
 refine zcx [.tmp 2] func236 ntmps236 ?_;refine W1 ?_
 refine aZ (ι:=Nat) zmx rfl [0,3,9,10,11] (fun i=>[.c (.d (.sl (xss.map fun a=>[.sl (a.map encS)]))),.c (.d (.i .i64 (xss.take i).flatten.length)),.c (.d (.sl (xss.map fun a=>[.sl (a.map encS)]))),.c (.d (.i .i64 xss.length)),.c (.d (.i .i64 i))]) (fun _=>[]::S)
  (fun i=>i<=xss.length) (fun i=>xss.length-i) 0 rfl rfl (an _) ?_
 rintro i p1;have hfi:=AP xss i;by_cases hi:i<xss.length
 ·have hs:=KP xss hi;have alU:=AP xss (i+1);refine W1 ?_;refine S0 (fun hb h=>?_) fun hb h=>?_
  ·refine W3 ?_;refine S0 (fun hb h=>?_) fun hb h=>?_
   ·omega
   ·refine dH (i+1) gA ?_ rfl gA;rw[hs];rfl
  ·omega
 have hi:i=xss.length:=gA
 subst hi;refine W1 ?_;refine S0 (fun hb h=>?_) fun hb h=>?_
 ·omega
 rw[ch];clear hfi;refine bD rfl (alT xss.flatten.length hf [] S) ?_;refine W1 ?_
 refine aZ (ι:=Nat) zmx rfl [6,25,26,27] (fun i=>[.c (.bJ (0,0) ((xss.take i).flatten.map encS)),.c (.d (.sl (xss.map fun a=>[.sl (a.map encS)]))),.c (.d (.i .i64 xss.length)),.c (.d (.i .i64 i))]) (fun i=>[.tok 1 ((xss.take i).flatten.map encS)]::S)
  (fun i=>i<=xss.length) (fun i=>xss.length-i) 0 rfl rfl (an _) ?_
 rintro i p1;have hfi:=AP xss i;by_cases hi:i<xss.length
 ·have hs:=KP xss hi;have alU:=AP xss (i+1)
  have e:(xss.take (i+1)).flatten.map encS=(xss.take i).flatten.map encS++xss[i].map encS:=by
   rw[bu hi,cV,bw];simp only[cF,fe,bm]
  refine W1 ?_;refine S0 (fun hb h=>?_) fun hb h=>?_
  ·refine W3 ?_;refine⟨GU,⟨_,rfl,rfl⟩,gA,?_⟩;exact dH (i+1) gA (by rw[e];rfl) (by rw[e]) gA
  ·omega
 ·have hi:i=xss.length:=gA
  subst hi;refine W1 ?_;refine S0 (fun hb h=>?_) fun hb h=>?_
  ·omega
  rw[ch]
theorem aft(c:Nat)(w:World):Calls prog 235 #[.slice none 0 c] w fun e w'=>e=.returned (.slice none 0 0)/\w'=w:=by
 have hb:(binOp .eql 28 (.slice none 0 c) (.slice none 0 0)).run prog w=.ok (.bool true) w:=by
  simp[binOp,run_equal_slice_nil w _ _ _ _ _ underlying28]
 go_enter func235,ntmps235
 go_wp2
 all_goals go_ret
 exact⟨rfl,rfl⟩
theorem afu(w w':World)(a:Addr)(n c:Nat)(r:Value)(hm:(Builtin.append_ #[28,28] 28 #[.slice (some ⟨w.heap.size,0,none⟩) 0 0,.slice (some a) n c]).run prog (w.alloc (.cells #[] 9))=.ok r w'):
 Calls prog 235 #[.slice (some a) n c] w fun e w''=>e=.returned r/\w''=w':=by
 have hb:(binOp .eql 28 (.slice (some a) n c) (.slice none 0 0)).run prog w=.ok (.bool false) w:=by
  simp[binOp,run_equal_slice_nil w _ _ _ _ _ underlying28]
 go_enter func235,ntmps235
 go_wp2_with (at_builtin;refine Lib.wpList_append_run _ rfl _ _ _ _ rfl _ _ rfl rfl _ _ hm ?_)
 all_goals go_ret
 exact⟨rfl,rfl⟩
theorem air(xs:List (List UInt8))(hx:xs.length<=1073741824)(bY:List Ab.Obj)(Ω:Store):bS prog 235 [.c (.d (.sl (xs.map encS)))] (bY::Ω)
 (fun r S'=>r=.c (.bJ (0,bY.length) (xs.map encS))/\S'=(bY++[.tok 1 (xs.map encS)])::Ω):=by
 have atB:(xs.map encS).length<=1073741824:=by simpa using hx
 have h1:=GU (xs:=xs)
 generalize xs.map encS=es at *
 refine⟨⟨_,func235,by kernel_rfl,by kernel_rfl⟩,fun w σ β vs hS hv=> ?_⟩;obtain⟨hl,h⟩:=hv;obtain⟨v,e0,hd,_⟩:=h 0 _ rfl;have hd:dO w σ (.sl es) v:=hd
 have hvs:vs=[v]:=by
  match vs,hl,e0 with
  |[x],_,e0=>simp at e0;rw[e0]
 subst hvs
 cases β with
 |nil=>have:=hS.shape.1;simp at this
 |cons bo bΩ=>
 have hlen:bo.length=bY.length:=by
  obtain⟨gr,g1,g2⟩:=hS.shape.2 0 bY rfl;simp at g1;rw[g1];exact g2
 have hv:∃a c,v=.slice a es.length c/\(a=none->es=[]):=by
  cases hd with
  |nil a cap=>exact⟨a,cap,rfl,fun _=>rfl⟩
  |sl b off cap bB es vals c t fz=>exact⟨_,_,rfl,fun h=>by cases h⟩
 obtain⟨a,c,rfl,ha⟩:=hv
 cases a with
 |none=>
  have:=ha rfl;subst this;refine(aft c w).mono fun e w' ⟨he,hw⟩=> ?_;subst hw;obtain⟨hS',hk,hst⟩:=hS.push (o:=.tok 1 []) (h:=.slice none 0 0) (Grow.refl hS.live) hlen ⟨.nil _ _,gL,none,0,rfl,gL,.inl rfl⟩ (fun b hb=>by simp[owns,blk] at hb);refine⟨_,.c (.bJ (0,bY.length) []),_,_,_,he,hS',hk,hst,⟨⟨.nil _ _,.tok 1 [],?_,fun bB es e=> ?_⟩,rfl⟩,rfl,rfl⟩
  ·rw[dw]
  ·obtain⟨_,rfl⟩:=mM (lab:=none) e;exact⟨ax _,fun _=>by rw[<-hlen,dw]⟩
 |some a=>
  have hσ:σ w.heap.size=0:=(hS.live w.heap.size).resolve_left gA
  have hg:Grow w σ (w.alloc (.cells #[] 9)) σ:=by
   have hh:(w.alloc (.cells #[] 9)).heap=w.heap.push (.cells #[] 9):=rfl;refine⟨by rw[hh];simp,rfl,rfl,fun b hb=>⟨?_,rfl⟩,fun b=> ?_⟩
   ·rw[hh,dj];rw[if_neg gA]
   ·rcases hS.live b with hb|hb
    ·left;rw[hh];simp;omega
    ·exact .inr hb
  have IZ:iI (w.alloc (.cells #[] 9)) σ [] [] (.tok 1 []) (.slice (some ⟨w.heap.size,0,none⟩) 0 0):=⟨.nil _ _,gL,_,0,rfl,gL,.inl rfl⟩;obtain⟨r,w',σ',hr,hro,hsz,hos,hout,hn,hli,vJ,hbk,hzero,h1c⟩:=Bn (lab:=none) (P:=prog) (w:=w.alloc (.cells #[] 9)) (σ:=σ) (S:=[]) (β:=[]) (t:=28) (u:=28) (ty:=28) (e:=9) (size:=1) (es:=[]) (ys:=es) hg.live underlying28 (.inl ⟨_,underlying28⟩) ⟨[.d (.s [])],by kernel_rfl,rfl⟩ rfl (by decide +kernel) IZ (LV (dO.mono hg.near hd) h1) (by simpa using atB);rw[bc] at hro hbk;refine(afu w w' a es.length c r hr).mono fun e w'' ⟨he,hw⟩=> ?_;subst hw;have hg2:Grow (w.alloc (.cells #[] 9)) σ w'' σ':=⟨hsz,hos,hout,fun b hb=>vJ b hb (by simp[ku,owns,blk]),hli⟩;have hg3:=hg.trans hg2
  obtain⟨hS',hk,hst⟩:=hS.push (o:=.tok 1 es) (h:=r) hg3 hlen (hro _ _) (fun b hb=>by
   rcases hbk b hb with h|h
   ·simp[ku,owns,blk] at h
   ·exact co hg.size h)
  refine⟨_,.c (.bJ (0,bY.length) es),_,_,_,he,hS',hk,hst,⟨⟨(hro [] []).1,.tok 1 es,?_,fun bB es' e=> ?_⟩,h1c⟩,rfl,rfl⟩
  ·rw[dw]
  ·obtain⟨_,rfl⟩:=mM (lab:=none) e;exact⟨ax _,fun _=>by rw[<-hlen,dw]⟩
theorem bS.args{P:Program}{f:FuncId}{args args':List V}{S:Store}{post:V->Store->Prop}(h:bS P f args' S post)(hl:xg args args'):bS P f args S post:=h.weaken hl.length fun j x y hx hy w σ β v hr=>hl.at j x y hx hy w σ S β v hr
theorem pE(n:Nat)(es:List (List D)):Less (.c (.mE n es)) (.c (.d (.sl es))):=fun w σ S β v h=>⟨vI h.1.1,h.2⟩
theorem pG(xs:List (List UInt8))(hx:xs.length<=1073741824)(n q:Nat)(bY:List Ab.Obj)(Ω:Store):bS prog 146 [.c (.d (.sl (xs.map encS)))] (bY::Ω)
 (fun r S'=>r=.c (.bJ (0,bY.length+1) (lx (aR xs) q))/\S'=(bY++[.seed n,.eP n 2 (lx (aR xs) q)])::Ω):=by
 refine afl (n) (rs:=[.tmp 2]) zmx func146 ntmps146 rfl rfl rfl rfl rfl ?_;refine W1 ?_;refine W3 ?_;refine lV n 3 2 [] (.inl rfl) gL ?_
 refine aZ (ι:=Nat) zmx rfl [3,7,8,9] (fun i=>[.c (.bJ (0,1) (lx ((aR xs).take i) q)),.c (.d (.sl (xs.map encS))),.c (.d (.i .i64 xs.length)),.c (.d (.i .i64 i))]) (fun i=>[.seed n,.eP n 2 (lx ((aR xs).take i) q)]::bY::Ω)
  (fun i=>i<=xs.length) (fun i=>xs.length-i) 0 rfl rfl (an _) ?_
 intro i hi;refine W1 ?_;refine S0 (fun hb h=>?_) fun hb h=>?_
 ·have hi':i<xs.length:=gA
  have hw:i<(aR xs).length:=by rw[jP];exact hi'
  have hg:(aR xs)[i]=bN xs[i]:=by simp[aR]
  have hl:(lx ((aR xs).take i) q).length<=i:=by rw[gM];exact bi _ _
  refine W3 ?_;refine C1 (dL xs[i] (q+iY ((aR xs).take i))) ?_;refine W3 ?_;have hs:=Om hw q;rw[hg,yL] at hs;rw[hs];exact dH (i+1) gA rfl rfl gA
 ·have hi':i=(aR xs).length:=by rw[jP];omega
  rw[hi',ch];exact⟨rfl,rfl⟩
theorem ais(base:Option Addr)(n:Nat)(h1:1<=n)(hn:n<=1073741824)(w:World):Calls prog 220 #[.slice base 0 0,.int .i64 n] w fun e w'=>
 ∃cap row,n<=cap/\row.size=cap*2/\e=.returned (.slice (some ⟨w.heap.size,0,none⟩) 0 cap)/\w'={w.drew with heap:=w.heap.push (.cells row 26)}:=by
 obtain⟨cap,row,hc,hr,hm⟩:=MX (P:=prog) (w:=w) (t:=24) (u:=3) (ty:=24) (e:=26) (base:=base) (n:=n) underlying24 underlying3 rfl rfl h1 hn (by decide +kernel) rfl
 have h0:¬((n:Int)<0):=gA
 have h2:(0:Int)<n:=gA
 go_enter func220,ntmps220
 go_wp2_with (at_builtin;refine Lib.wpList_append_run _ rfl _ _ _ _ rfl _ _ rfl rfl _ _ hm ?_)
 all_goals go_ret
 exact⟨cap,hc,row,hr,rfl,rfl⟩
theorem afv(base:Option Addr)(w:World):Calls prog 220 #[.slice base 0 0,.int .i64 0] w fun e w'=>e=.returned (.slice base 0 0)/\w'=w:=by
 go_enter func220,ntmps220
 go_wp2
 all_goals go_ret
 exact⟨rfl,rfl⟩
theorem ait(m n:Nat)(hn:n<=1073741824)(bY:List Ab.Obj)(Ω:Store):bS prog 220 [.c (.bH []),.c (.d (.i .i64 n))] (bY::Ω)
 (fun r S'=>r=.c (.bJ (0,bY.length) [])/\S'=(bY++[.eP m 2 []])::Ω):=by
 refine⟨⟨_,func220,by kernel_rfl,by kernel_rfl⟩,fun w σ β vs hS hv=> ?_⟩;obtain⟨hl,h⟩:=hv;obtain⟨v0,e0,⟨h0,a,m',h00⟩,_⟩:=h 0 _ rfl;obtain⟨v1,e1,h1,_⟩:=h 1 _ rfl
 have h1':v1=.int .i64 n:=by cases h1;rfl
 subst h1'
 have hm:m'=0:=by rw[h00] at h0;cases h0<;>rfl
 subst hm;subst h00
 have hvs:vs=[.slice a 0 0,.int .i64 n]:=by
  match vs,hl,e0,e1 with
  |[x,y],_,e0,e1=>simp at e0 e1;rw[e0,e1]
 subst hvs
 cases β with
 |nil=>have:=hS.shape.1;simp at this
 |cons bo bΩ=>
 have hlen:bo.length=bY.length:=by
  obtain⟨gr,g1,g2⟩:=hS.shape.2 0 bY rfl;simp at g1;rw[g1];exact g2
 by_cases hz:n=0
 ·subst hz;refine(afv a w).mono fun e w' ⟨he,hw⟩=> ?_;subst hw;obtain⟨hS',hk,hst⟩:=hS.push (o:=.eP m 2 []) (h:=.slice a 0 0) (Grow.refl hS.live) hlen ⟨h0,gL,a,0,rfl,gL,.inl ⟨rfl,.xO _ _ _⟩⟩ (fun b hb=>by cases a<;>simp[owns,blk] at hb);refine⟨_,.c (.bJ (0,bY.length) []),_,_,_,he,hS',hk,hst,⟨⟨h0,.eP m 2 [],?_,fun bB es e=> ?_⟩,rfl⟩,rfl,rfl⟩
  ·rw[dw]
  ·obtain⟨_,rfl⟩:=mM (lab:=some m) e;exact⟨ax _,fun _=>by rw[<-hlen,dw]⟩
 ·refine(ais a n gA hn w).mono fun e w' ⟨cap,row,hc,hr,he,hw⟩=> ?_;subst hw;have hσ:σ w.heap.size=0:=(hS.live w.heap.size).resolve_left gA
  have hg:Grow w σ {w.drew with heap:=w.heap.push (.cells row 26)} σ:=by
   refine⟨gL,rfl,rfl,fun b hb=>⟨?_,rfl⟩,fun b=> ?_⟩
   ·simp only[dj];rw[if_neg gA]
   ·rcases hS.live b with hb|hb
    ·left;simp;omega
    ·exact .inr hb
  obtain⟨hS',hk,hst⟩:=hS.push (o:=.eP m 2 []) (h:=.slice (some ⟨w.heap.size,0,none⟩) 0 cap) hg hlen ⟨.nil _ _,gL,_,cap,rfl,gL,.inr ⟨gR,w.heap.size,0,row,26,rfl,gL,by simp[hσ],gA⟩⟩ (fun b hb=>by
   simp only[owns,blk] at hb;split at hb
   ·cases hb
   ·cases hb;exact ax _)
  refine⟨_,.c (.bJ (0,bY.length) []),_,_,_,he,hS',hk,hst,⟨⟨.nil _ _,.eP m 2 [],?_,fun bB es e=> ?_⟩,rfl⟩,rfl,rfl⟩
  ·rw[dw]
  ·obtain⟨_,rfl⟩:=mM (lab:=some m) e;exact⟨ax _,fun _=>by rw[<-hlen,dw]⟩
theorem abQ(m l:Nat)(xss:List (Nat×List (List D)))(hl:xss.length<=1073741824)(hr:∀p∈xss,∀r∈p.2,r.length=2)(hf:(xss.map (·.2)).flatten.length<=1073741824):aD prog 194 [.c (.mE l (xss.map fun p=>[.ol p.1 p.2]))] (.c (.d (.ol m (xss.map (·.2)).flatten))):=fun S=>by
 obtain⟨ys,hys⟩:∃ys:List (List (List D)),ys=xss.map (·.2):=⟨_,rfl⟩;rw[<-hys] at hf ⊢
 have hyl:ys.length=xss.length:=by rw[hys,ab]
 have hyi:∀i (hi:i<xss.length),ys[i]' gA=xss[i].2:=fun i hi=>by simp[hys]
 have QV:∀i (hi:i<xss.length),∀r∈xss[i].2,r.length=2:=fun i hi=>hr _ (ac hi);refine lF (m) (rs:=[.tmp 2]) zmx func194 ntmps194 rfl rfl rfl rfl rfl ?_;refine W1 ?_
 refine aZ (ι:=Nat) zmx rfl [0,3,9,10,11] (fun i=>[.c (.mE l (xss.map fun p=>[.ol p.1 p.2])),.c (.d (.i .i64 (ys.take i).flatten.length)),.c (.mE l (xss.map fun p=>[.ol p.1 p.2])),.c (.d (.i .i64 xss.length)),.c (.d (.i .i64 i))]) (fun _=>[.seed m]::S)
  (fun i=>i<=xss.length) (fun i=>xss.length-i) 0 rfl rfl (an _) ?_
 rintro i p1;have hfi:=AP ys i;by_cases hi:i<xss.length
 ·have hs:=KP ys (i:=i) gA;rw[hyi i hi] at hs;have alU:=AP ys (i+1);refine W1 ?_;refine S0 (fun hb h=>?_) fun hb h=>?_
  ·refine W3 ?_;refine S0 (fun hb h=>?_) fun hb h=>?_
   ·omega
   ·refine dH (i+1) gA ?_ rfl gA;rw[hs];rfl
  ·omega
 have hi:i=xss.length:=gA
 subst hi;refine W1 ?_;refine S0 (fun hb h=>?_) fun hb h=>?_
 ·omega
 rw[<-hyl,ch];clear hfi;refine bD rfl (ait m ys.flatten.length hf [.seed m] S) ?_;refine W1 ?_
 refine aZ (ι:=Nat) zmx rfl [6,25,26,27] (fun i=>[.c (.bJ (0,1) (ys.take i).flatten),.c (.mE l (xss.map fun p=>[.ol p.1 p.2])),.c (.d (.i .i64 xss.length)),.c (.d (.i .i64 i))]) (fun i=>[.seed m,.eP m 2 (ys.take i).flatten]::S)
  (fun i=>i<=xss.length) (fun i=>xss.length-i) 0 (by rw[<-hyl];rfl) rfl (an _) ?_
 rintro i p1;have hfi:=AP ys i;by_cases hi:i<xss.length
 ·have hs:=KP ys (i:=i) gA;rw[hyi i hi] at hs;have alU:=AP ys (i+1)
  have e:(ys.take (i+1)).flatten=(ys.take i).flatten++xss[i].2:=by
   rw[bu gA,cV,hyi i hi];simp only[cF,fe,bm]
  have Ee:=QV i hi;refine W1 ?_;refine S0 (fun hb h=>?_) fun hb h=>?_
  ·refine W3 ?_;exact dH (i+1) gA (by rw[e];rfl) (by rw[e]) gA
  ·omega
 ·have hi:i=ys.length:=gA
  refine W1 ?_;refine S0 (fun hb h=>?_) fun hb h=>?_
  ·omega
  rw[hi,ch]
theorem lI{x:au}{k:Int}(h:x.aN=k):jL x.aN x.bO x.fName x.fType=jL k x.bO x.fName x.fType:=by rw[h]
theorem VJ{l:List au}{t:au}(h:t∈l):t.sz<=xk l:=by
 rw[<-Qf];exact dM (be h)
theorem Sn{l:List bq}{t:bq}(h:t∈l):t.sz<=EU l:=by
 rw[<-Qg];exact dM (be h)
theorem Jc:∀{xs:List au},ni xs=true<->∀t∈xs,jl t=true
 |[]=>by simp[ni]
 |t::ts=>by simp[ni,Jc (xs:=ts)]
theorem KQ:∀{xs:List bq},qL xs=true<->∀t∈xs,zl t=true
 |[]=>by simp[qL]
 |t::ts=>by simp[qL,KQ (xs:=ts)]
theorem mP{x:au}(h1:x.aN≠1)(h2:x.aN≠2)(h3:x.aN≠3)(h:x.aN=4\/x.aN=5\/x.aN=6\/x.aN=8\/x.aN=9\/x.aN=10\/x.aN=11\/x.aN=12):
 fG x=bL (jL x.aN x.bO x.fName x.fType++x.fArgs.map fG):=by rw[MU,if_neg h1,if_neg h2,if_neg h3,if_pos h,bm]
theorem Sq:∀N:Nat,∀x:au,SizeOf.sizeOf x<N->∀n:Nat,jl x=true->x.sz<=4194304->aD prog 149 [x.v] (.agg [.d (.s (fG x).aI),.d (.ol n (lx (fG x).aj (n+1)))])
 |0=>fun x h=>by omega
 |N+1=>by
  have ih:=Sq N;intro x hn n hok hsz S;have kL:=au.jF x;have Fv:=au.xG x;have hzz:=Ae x;rw[AB,ai,ai] at hok;obtain⟨hfi,hoa,Zw⟩:=hok;have hfi:=gD hfi;have hoa:=Jc.1 hoa;have Zw:=KQ.1 Zw;obtain⟨qa,Ck⟩:∃qa,qa=n+1+iY (jL x.aN x.bO x.fName x.fType):=⟨_,rfl⟩;obtain⟨T,hT⟩:∃T:Nat->List (List D),T=fun i=>lx ((x.fArgs.map fG).take i) qa:=⟨_,rfl⟩
  have hT0:T 0=[]:=by rw[hT];rfl
  have fZ:∀i,(T i).length<=i:=fun i=>by rw[hT];simp only[gM];exact bi _ _
  have hTr:∀i,∀r∈T i,r.length=2:=fun i=>by rw[hT];exact lg
  have hTs:∀i (hi:i<x.fArgs.length),T i++[[.s (fG x.fArgs[i]).aI,.ol (qa+iY ((x.fArgs.map fG).take i)) (lx (fG x.fArgs[i]).aj (qa+iY ((x.fArgs.map fG).take i)+1))]]=T (i+1):=fun i hi=>by
   have:=Cz (l:=x.fArgs.map fG) (i:=i) hJ qa;rw[bp] at this;rw[hT];exact this
  have hTe:T x.fArgs.length=lx (x.fArgs.map fG) qa:=by rw[hT];simp only;rw[aE gL]
  clear hT;refine lF (n) (rs:=[.cell 2 26]) zmx func149 ntmps149 rfl rfl rfl rfl rfl ?_;refine W1 ?_;refine W3 ?_;refine lV n 3 2 [] (.inl rfl) gL ?_
  refine aZ (ι:=Nat) zmx rfl [1,2,3,11,12,13] (fun i=>[.c (.ptr (0,1) 0),.c (.ptr (0,2) 0),.c (.bJ (0,3) (T i)),.c (.d (.sl (x.fArgs.map au.enc))),.c (.d (.i .i64 x.fArgs.length)),.c (.d (.i .i64 i))])
   (fun i=>[.seed n,.box [.d (.i .i64 x.aN),.d (.s x.bO),.d (.s x.fName),.d (.i .i64 x.fN),.d (.i .i64 x.fType.aN),.d (.s x.fType.fName),.d (.sl (x.fType.fArgs.map ak.enc)),.d (.sl (x.fArgs.map au.enc)),.d (.sl (x.aX.map bq.enc))],.box [.d (.s []),.bH []],.eP n 2 (T i)]::S)
   (fun i=>i<=x.fArgs.length) (fun i=>x.fArgs.length-i) 0 (by rw[hT0];rfl) (by rw[hT0];rfl) (an _) ?_
  intro i hi;have hl:=fZ i;refine W1 ?_;refine S0 (fun hb h=>?_) fun hb h=>?_
  ·have hi':i<x.fArgs.length:=gA
   have hm:=ac hi';have hez:=VJ hm;have hs:=hTs i hi';refine W3 ?_;refine C1 (ih x.fArgs[i] (by have:=bh hm;omega) (qa+iY ((x.fArgs.map fG).take i)) (hoa _ hm) gA) ?_;refine W3 ?_;rw[hs];exact bR 4 gE (i+1) gA rfl rfl rfl rfl gA
  have hi':i=x.fArgs.length:=gA
  subst hi';clear hTs hi h hb;have hTT:=hTr x.fArgs.length;have hxe:=MU x;refine S0 (fun hb h=>?_) fun hb h=>?_
  ·rw[if_pos h] at hxe;rw[hxe];have hb:=hfi.2.2.2.1;rw[if_pos h] at hb;refine C1 (Qh x.fN gA gA) ?_;refine C1 (dL _ n) ?_;rfl
  have k1:=h;rw[if_neg h] at hxe;refine S0 (fun hb h=>?_) fun hb h=>?_
  ·rw[if_pos h] at hxe;rw[hxe];refine S0 (fun hb h=>?_) fun hb h=>?_
   ·rw[if_pos h];refine C1 (dL _ n) ?_;rfl
   ·rw[if_neg h];refine C1 (dL _ n) ?_;rfl
  have k2:=h;rw[if_neg h] at hxe;refine S0 (fun hb h=>?_) fun hb h=>?_
  ·rw[if_pos h] at hxe;rw[hxe];refine C1 (dL _ n) ?_;rfl
  have k3:=h;clear hxe;refine S0 (fun hb h=>?_) fun hb h=>?_
  ·have hx:=mP k1 k2 k3 gA
   have hh:jL x.aN x.bO x.fName x.fType=aR [qC,x.fName]:=by rw[lI h];rfl
   rw[hh] at hx Ck;refine W3 ?_;refine bD rfl (bS.args (pG [qC,x.fName] gL n (n+1) _ _) (.cons (pE n _) .nil)) ?_
   have Ls:(lx (aR [qC,x.fName]) (n+1)).length=2:=by rw[gM];rfl
   have VK:=lg (l:=aR [qC,x.fName]) (n:=n+1);refine W1 ?_;refine W3 ?_;refine bD rfl (kP 0 5 _ _) ?_;refine W1 ?_;rw[hx,hTe,Ck,eF,dD,l9]
  have k4:=h;refine S0 (fun hb h=>?_) fun hb h=>?_
  ·have hx:=mP k1 k2 k3 gA
   have hh:jL x.aN x.bO x.fName x.fType=aR [jN,x.bO,x.fName]:=by rw[lI h];rfl
   rw[hh] at hx Ck;refine W3 ?_;refine bD rfl (bS.args (pG [jN,x.bO,x.fName] gL n (n+1) _ _) (.cons (pE n _) .nil)) ?_
   have Ls:(lx (aR [jN,x.bO,x.fName]) (n+1)).length=3:=by rw[gM];rfl
   have VK:=lg (l:=aR [jN,x.bO,x.fName]) (n:=n+1);refine W1 ?_;refine W3 ?_;refine bD rfl (kP 0 5 _ _) ?_;refine W1 ?_;rw[hx,hTe,Ck,eF,dD,l9]
  have k5:=h;refine S0 (fun hb h=>?_) fun hb h=>?_
  ·have hx:=mP k1 k2 k3 gA
   have hh:jL x.aN x.bO x.fName x.fType=aR [u7,x.fName]:=by rw[lI h];rfl
   rw[hh] at hx Ck;refine W3 ?_;refine bD rfl (bS.args (pG [u7,x.fName] gL n (n+1) _ _) (.cons (pE n _) .nil)) ?_
   have Ls:(lx (aR [u7,x.fName]) (n+1)).length=2:=by rw[gM];rfl
   have VK:=lg (l:=aR [u7,x.fName]) (n:=n+1);refine W1 ?_;refine W3 ?_;refine bD rfl (kP 0 5 _ _) ?_;refine W1 ?_;rw[hx,hTe,Ck,eF,dD,l9]
  have k6:=h;refine S0 (fun hb h=>?_) fun hb h=>?_
  ·have hx:=MU x;rw[if_neg k1,if_neg k2,if_neg k3,if_neg gA] at hx
   have hh:jL x.aN x.bO x.fName x.fType=aR [lX]:=by rw[lI h];rfl
   rw[hh] at hx Ck;obtain⟨B,hB⟩:∃B:Nat->List (List D),B=fun i=>lx (x.fArgs.map fG++(x.aX.map Cj).take i) qa:=⟨_,rfl⟩;obtain⟨L,hL⟩:∃L:Nat->Nat,L=fun i=>qa+iY (x.fArgs.map fG++(x.aX.map Cj).take i):=⟨_,rfl⟩
   have hB0:T x.fArgs.length=B 0:=by rw[hTe,hB];simp only[cE,bm]
   have hBl:∀i,(B i).length<=i+x.fArgs.length:=fun i=>by
    rw[hB];simp only[gM,ae,ab];have:=bi i (x.aX.map Cj);omega
   have hBr:∀i,∀r∈B i,r.length=2:=fun i=>by rw[hB];exact lg
   have hBs:∀i (hi:i<x.aX.length),B i++[[.s [],.ol (L i) (lx ([bN x.aX[i].dV]++aR x.aX[i].aG++[fG x.aX[i].fBody]) (L i+1))]]=B (i+1):=fun i hi=>by
    have:=CB (base:=x.fArgs.map fG) (l:=x.aX.map Cj) (i:=i) hJ qa;rw[bp,ail,eF,dD] at this;rw[hB,hL];exact this
   have hBe:B x.aX.length=lx (x.fArgs.map fG++x.aX.map Cj) qa:=by rw[hB];simp only;rw[aE gL]
   clear hB hL hTT;refine W3 ?_;refine bD rfl (bS.args (pG [lX] gL n (n+1) _ _) (.cons (pE n _) .nil)) ?_
   have Ls:(lx (aR [lX]) (n+1)).length=1:=by rw[gM];rfl
   have VK:=lg (l:=aR [lX]) (n:=n+1);refine W1 ?_;rw[hB0];obtain⟨HD,hHD⟩:∃HD,HD=lx (aR [lX]) (n+1):=⟨_,rfl⟩;rw[<-hHD] at Ls VK ⊢
   refine aZ (ι:=Nat) zmx rfl [2,3,6,69,70,71] (fun i=>[.c (.ptr (0,2) 0),.c (.bJ (0,3) (B i)),.c (.bJ (0,5) HD),.c (.d (.sl (x.aX.map bq.enc))),.c (.d (.i .i64 x.aX.length)),.c (.d (.i .i64 i))])
    (fun i=>[.seed n,.box [.d (.i .i64 x.aN),.d (.s x.bO),.d (.s x.fName),.d (.i .i64 x.fN),.d (.i .i64 x.fType.aN),.d (.s x.fType.fName),.d (.sl (x.fType.fArgs.map ak.enc)),.d (.sl (x.fArgs.map au.enc)),.d (.sl (x.aX.map bq.enc))],.box [.d (.s []),.bH []],.eP n 2 (B i),.seed n,.eP n 2 HD]::S)
    (fun i=>i<=x.aX.length) (fun i=>x.aX.length-i) 0 rfl rfl (an _) ?_
   intro i hi;have hl:=hBl i;have hr:=hBr i;refine W1 ?_;refine S0 (fun hb h=>?_) fun hb h=>?_
   ·have hi':i<x.aX.length:=gA
    have hm:=ac hi';have hez:=Sn hm;have hea:=Ed x.aX[i];have hs:=hBs i hi';have hak:=Zw _ hm;rw[u6,ai,ai] at hak;have hls:=bh hm;have hlb:=bq.vN x.aX[i];refine W3 ?_;refine lQ (EA [x.aX[i].dV] gL 0 (L i+1)) (.cons (pE n _) .nil) ?_;refine W1 ?_;refine C1 (EA x.aX[i].aG gA 0 (L i+1+iY (aR [x.aX[i].dV]))) ?_;refine C1 (ih x.aX[i].fBody gA (L i+1+iY (aR [x.aX[i].dV]++aR x.aX[i].aG)) hak.2.2 gA) ?_;refine W3 ?_;refine bn (abQ (L i) n [(0,lx (aR [x.aX[i].dV]) (L i+1)),(0,lx (aR x.aX[i].aG) (L i+1+iY (aR [x.aX[i].dV]))),(n,[[.s (fG x.aX[i].fBody).aI,.ol (L i+1+iY (aR [x.aX[i].dV]++aR x.aX[i].aG)) (lx (fG x.aX[i].fBody).aj (L i+1+iY (aR [x.aX[i].dV]++aR x.aX[i].aG)+1))]])] gL ?_ ?_) ?_
    ·intro p hp;simp only[cT,fc,or_false] at hp;rcases hp with rfl|rfl|rfl
     ·exact lg
     ·exact lg
     ·simp
    ·simp only[af,aw,cF,fe,ae,gM,jP,aa,al];omega
    refine W1 ?_;refine C1 (lS _) ?_;refine W3 ?_
    have hrow:[lx (aR [x.aX[i].dV]) (L i+1),lx (aR x.aX[i].aG) (L i+1+iY (aR [x.aX[i].dV])),[[.s (fG x.aX[i].fBody).aI,.ol (L i+1+iY (aR [x.aX[i].dV]++aR x.aX[i].aG)) (lx (fG x.aX[i].fBody).aj (L i+1+iY (aR [x.aX[i].dV]++aR x.aX[i].aG)+1))]]].flatten=lx ([bN x.aX[i].dV]++aR x.aX[i].aG++[fG x.aX[i].fBody]) (L i+1):=by
     have e1:[bN x.aX[i].dV]=aR [x.aX[i].dV]:=rfl;rw[e1,l9,l9,jZ (fG x.aX[i].fBody) [],nU,jM (fG x.aX[i].fBody)];simp only[cF,fe,bm,cf]
    rw[hrow,hs];exact bR 6 gE (i+1) gA rfl rfl rfl rfl gA
   ·have hi':i=x.aX.length:=gA
    subst hi';have hr2:=hBr x.aX.length;refine W3 ?_;refine bD rfl (kP 0 5 _ _) ?_;refine W1 ?_;rw[hx,hBe,Ck,hHD,eF,dD,cf,l9 (aR [lX])]
  have k7:=h;refine S0 (fun hb h=>?_) fun hb h=>?_
  ·have hx:=mP k1 k2 k3 gA
   have hh:jL x.aN x.bO x.fName x.fType=aR [vg,x.fName]:=by rw[lI h];rfl
   rw[hh] at hx Ck;refine W3 ?_;refine bD rfl (bS.args (pG [vg,x.fName] gL n (n+1) _ _) (.cons (pE n _) .nil)) ?_
   have Ls:(lx (aR [vg,x.fName]) (n+1)).length=2:=by rw[gM];rfl
   have VK:=lg (l:=aR [vg,x.fName]) (n:=n+1);refine W1 ?_;refine W3 ?_;refine bD rfl (kP 0 5 _ _) ?_;refine W1 ?_;rw[hx,hTe,Ck,eF,dD,l9]
  have k8:=h;refine S0 (fun hb h=>?_) fun hb h=>?_
  ·have hx:=mP k1 k2 k3 gA
   have hh:jL x.aN x.bO x.fName x.fType=aR [zN]:=by rw[lI h];rfl
   rw[hh] at hx Ck;refine W3 ?_;refine bD rfl (bS.args (pG [zN] gL n (n+1) _ _) (.cons (pE n _) .nil)) ?_
   have Ls:(lx (aR [zN]) (n+1)).length=1:=by rw[gM];rfl
   have VK:=lg (l:=aR [zN]) (n:=n+1);refine W1 ?_;refine W3 ?_;refine bD rfl (kP 0 5 _ _) ?_;refine W1 ?_;rw[hx,hTe,Ck,eF,dD,l9]
  have k9:=h;refine S0 (fun hb h=>?_) fun hb h=>?_
  ·have hx:=mP k1 k2 k3 gA
   have hh:jL x.aN x.bO x.fName x.fType=aR [x.fName]:=by rw[lI h];rfl
   rw[hh] at hx Ck;refine W3 ?_;refine bD rfl (bS.args (pG [x.fName] gL n (n+1) _ _) (.cons (pE n _) .nil)) ?_
   have Ls:(lx (aR [x.fName]) (n+1)).length=1:=by rw[gM];rfl
   have VK:=lg (l:=aR [x.fName]) (n:=n+1);refine W1 ?_;refine W3 ?_;refine bD rfl (kP 0 5 _ _) ?_;refine W1 ?_;rw[hx,hTe,Ck,eF,dD,l9]
  have k10:=h;refine S0 (fun hb h=>?_) fun hb h=>?_
  ·have hx:=mP k1 k2 k3 gA
   have hh:jL x.aN x.bO x.fName x.fType=aR [qD,x.bO]:=by rw[lI h];rfl
   rw[hh] at hx Ck;refine W3 ?_;refine bD rfl (bS.args (pG [qD,x.bO] gL n (n+1) _ _) (.cons (pE n _) .nil)) ?_
   have Ls:(lx (aR [qD,x.bO]) (n+1)).length=2:=by rw[gM];rfl
   have VK:=lg (l:=aR [qD,x.bO]) (n:=n+1);refine W1 ?_;refine W3 ?_;refine bD rfl (kP 0 5 _ _) ?_;refine W1 ?_;rw[hx,hTe,Ck,eF,dD,l9]
  have k11:=h;refine S0 (fun hb h=>?_) fun hb h=>?_
  ·have hx:=mP k1 k2 k3 gA
   have hh:jL x.aN x.bO x.fName x.fType=[bN vT,dI x.fType]:=by rw[lI h];rfl
   rw[hh] at hx Ck;have hty:=hfi.2.2.2.2.1;rw[if_pos h] at hty;refine C1 (dL _ (n+1)) ?_;refine C1 (mI x.fType (n+1+1) (yI hty) gA) ?_;refine W3 ?_;refine bD rfl (kP 0 4 _ _) ?_;refine W1 ?_;rw[hx,hTe,Ck,eF,dD,l9];simp only[jZ,nU,jM,kM,kN,kI,afn,aik,vT,ba,bc]
  ·have:=hfi.1;omega
theorem BM(x:au)(n:Nat)(hok:jl x=true)(hsz:x.sz<=4194304):aD prog 149 [x.v] (.agg [.d (.s (fG x).aI),.d (.ol n (lx (fG x).aj (n+1)))]):=Sq _ x (cg _) n hok hsz
theorem sZ(hd:List ah)(xs:List au)(S:Store)(hA:∀t∈xs,aD prog 109 [t.v] (fG t).v)(hl:xs.length<=4194304)(hh:hd.length<=4):bS prog 171 [.c (.bH (hd.map ah.enc)),.c (.d (.sl (xs.map au.enc)))] S
 (fun r S'=>r=.agg [.d (.s []),.d (.sl ((hd++xs.map fG).map ah.enc))]/\S'=S):=by
 obtain⟨T,hT⟩:∃T:Nat->List (List D),T=fun i=>(hd++(xs.map fG).take i).map ah.enc:=⟨_,rfl⟩
 have hT0:T 0=hd.map ah.enc:=by rw[hT];simp only[cE,bm]
 have fZ:∀i,(T i).length<=i+hd.length:=fun i=>by
  rw[hT];simp only[ab,ae];have:=bi i (xs.map fG);omega
 have hTs:∀i (hi:i<xs.length),T i++[[.s (fG xs[i]).aI,.sl ((fG xs[i]).aj.map ah.enc)]]=T (i+1):=fun i hi=>by
  have:=jI (base:=hd) (l:=xs.map fG) (i:=i) hJ;rw[bp] at this;rw[hT];exact this
 have hTe:T xs.length=(hd++xs.map fG).map ah.enc:=by rw[hT];simp only;rw[aE gL]
 clear hT;rw[<-hT0];rw[<-hTe];refine zcx [.cell 4 26] func171 ntmps171 ?_;refine W1 ?_;refine uI 1 1 2 (T 0) [.d (.s []),.bH (T 0)] rfl rfl (by rw[hT0];exact gK) ?_
 refine aZ (ι:=Nat) zmx rfl [1,4,5,6] (fun i=>[.c (.d (.sl (xs.map au.enc))),.c (.ptr (0,0) 0),.c (.ptr (0,1) 0),.c (.d (.i .i64 i))])
  (fun i=>[.box [.d (.s []),.bH []],.box [.d (.s []),.bJ (0,2) (T i)],.tok 2 (T i)]::S)
  (fun i=>i<=xs.length) (fun i=>xs.length-i) 0 rfl rfl (an _) ?_
 intro i hi;have hl:=fZ i;refine W1 ?_;refine S0 (fun hb h=>?_) fun hb h=>?_
 ·have hi':i<xs.length:=gA
  have hs:=hTs i hi';refine W3 ?_;refine C1 (hA xs[i] (ac hi')) ?_;refine W3 ?_;rw[hs];exact dH (i+1) gA rfl rfl gA
 ·have hi':i=xs.length:=gA
  subst hi';rfl
theorem Zx(hd:List ah)(xs:List au)(bY:List Ab.Obj)(Ω:Store)(hA:∀t∈xs,aD prog 109 [t.v] (fG t).v)(hl:xs.length<=4194304)(hh:hd.length<=4):bS prog 171 [.c (.bH (hd.map ah.enc)),.c (.d (.sl (xs.map au.enc)))] (bY::Ω)
 (fun r S'=>r=.agg [.d (.s []),.bJ (0,bY.length+2) ((hd++xs.map fG).map ah.enc)]/\S'=(bY++[.box [.d (.s []),.bJ (0,bY.length+2) ((hd++xs.map fG).map ah.enc)],.box [.d (.s []),.bJ (0,bY.length+2) ((hd++xs.map fG).map ah.enc)],.tok 2 ((hd++xs.map fG).map ah.enc)])::Ω):=by
 obtain⟨T,hT⟩:∃T:Nat->List (List D),T=fun i=>(hd++(xs.map fG).take i).map ah.enc:=⟨_,rfl⟩
 have hT0:T 0=hd.map ah.enc:=by rw[hT];simp only[cE,bm]
 have fZ:∀i,(T i).length<=i+hd.length:=fun i=>by
  rw[hT];simp only[ab,ae];have:=bi i (xs.map fG);omega
 have hTs:∀i (hi:i<xs.length),T i++[[.s (fG xs[i]).aI,.sl ((fG xs[i]).aj.map ah.enc)]]=T (i+1):=fun i hi=>by
  have:=jI (base:=hd) (l:=xs.map fG) (i:=i) hJ;rw[bp] at this;rw[hT];exact this
 have hTe:T xs.length=(hd++xs.map fG).map ah.enc:=by rw[hT];simp only;rw[aE gL]
 clear hT;rw[<-hT0];rw[<-hTe];refine Mq (rs:=[.cell 4 26]) zmx func171 ntmps171 rfl rfl rfl rfl rfl ?_;refine W1 ?_;refine uI 1 1 2 (T 0) [.d (.s []),.bH (T 0)] rfl rfl (by rw[hT0];exact gK) ?_
 refine aZ (ι:=Nat) zmx rfl [1,4,5,6] (fun i=>[.c (.d (.sl (xs.map au.enc))),.c (.ptr (0,0) 0),.c (.ptr (0,1) 0),.c (.d (.i .i64 i))])
  (fun i=>[.box [.d (.s []),.bH []],.box [.d (.s []),.bJ (0,2) (T i)],.tok 2 (T i)]::bY::Ω)
  (fun i=>i<=xs.length) (fun i=>xs.length-i) 0 rfl rfl (an _) ?_
 intro i hi;have hl:=fZ i;refine W1 ?_;refine S0 (fun hb h=>?_) fun hb h=>?_
 ·have hi':i<xs.length:=gA
  have hs:=hTs i hi';refine W3 ?_;refine C1 (hA xs[i] (ac hi')) ?_;refine W3 ?_;rw[hs];exact dH (i+1) gA rfl rfl gA
 ·have hi':i=xs.length:=gA
  subst hi';exact⟨rfl,rfl⟩
theorem Sr:∀N:Nat,∀x:au,SizeOf.sizeOf x<N->jl x=true->x.sz<=4194304->aD prog 109 [x.v] (fG x).v
 |0=>fun x h=>by omega
 |N+1=>by
  have ih:=Sr N;intro x hn hok hsz S;have kL:=au.jF x;have Fv:=au.xG x;have hzz:=Ae x;rw[AB,ai,ai] at hok;obtain⟨hfi,hoa,Zw⟩:=hok;have hfi:=gD hfi;have hoa:=Jc.1 hoa;have Zw:=KQ.1 Zw;have hA:∀t∈x.fArgs,aD prog 109 [t.v] (fG t).v:=fun t ht=>ih t (by have:=bh ht;omega) (hoa t ht) (by have:=VJ ht;omega);have hxe:=MU x;refine zcx [.cell 2 26] func109 ntmps109 ?_;refine W1 ?_;refine S0 (fun hb h=>?_) fun hb h=>?_
  ·rw[if_pos h] at hxe;rw[hxe];have hb:=hfi.2.2.2.1;rw[if_pos h] at hb;refine C1 (Af x.fN gA gA) ?_;refine C1 (bW _) ?_;rfl
  have k1:=h;rw[if_neg h] at hxe;refine S0 (fun hb h=>?_) fun hb h=>?_
  ·rw[if_pos h] at hxe;rw[hxe];have hb:=hfi.2.2.2.1;rw[if_neg k1,if_pos h] at hb;rcases hb with e|e
   ·rw[e];simp -implicitDefEqProofs (disch:=omega) only[go_sem,fb];refine W3 ?_;refine C1 (bW _) ?_;rfl
   ·rw[e];simp -implicitDefEqProofs (disch:=omega) only[go_sem,fb,List.getD_cons_succ];refine W3 ?_;refine C1 (bW _) ?_;rfl
  have k2:=h;rw[if_neg h] at hxe;refine S0 (fun hb h=>?_) fun hb h=>?_
  ·rw[if_pos h] at hxe;rw[hxe];refine C1 (bW _) ?_;rfl
  have k3:=h;clear hxe;refine S0 (fun hb h=>?_) fun hb h=>?_
  ·have hx:=mP k1 k2 k3 gA
   have hh:jL x.aN x.bO x.fName x.fType=[bN qC,bN x.fName]:=by rw[lI h];rfl
   rw[hh] at hx;refine C1 (bW _) ?_;refine C1 (bW _) ?_;have hE:=fun S=>sZ [bN qC,bN x.fName] x.fArgs S hA gA gL;simp only[af,aw,fI] at hE;refine bD rfl (hE _) ?_;refine W1 ?_;rw[hx];rfl
  have k4:=h;refine S0 (fun hb h=>?_) fun hb h=>?_
  ·have hx:=mP k1 k2 k3 gA
   have hh:jL x.aN x.bO x.fName x.fType=[bN jN,bN x.bO,bN x.fName]:=by rw[lI h];rfl
   rw[hh] at hx;refine C1 (bW _) ?_;refine C1 (bW _) ?_;refine C1 (bW _) ?_;have hE:=fun S=>sZ [bN jN,bN x.bO,bN x.fName] x.fArgs S hA gA gL;simp only[af,aw,fI] at hE;refine bD rfl (hE _) ?_;refine W1 ?_;rw[hx];rfl
  have k5:=h;refine S0 (fun hb h=>?_) fun hb h=>?_
  ·have hx:=mP k1 k2 k3 gA
   have hh:jL x.aN x.bO x.fName x.fType=[bN u7,bN x.fName]:=by rw[lI h];rfl
   rw[hh] at hx;refine C1 (bW _) ?_;refine C1 (bW _) ?_;have hE:=fun S=>sZ [bN u7,bN x.fName] x.fArgs S hA gA gL;simp only[af,aw,fI] at hE;refine bD rfl (hE _) ?_;refine W1 ?_;rw[hx];rfl
  have k6:=h;refine S0 (fun hb h=>?_) fun hb h=>?_
  ·have hx:=mP k1 k2 k3 gA
   have hh:jL x.aN x.bO x.fName x.fType=[bN vg,bN x.fName]:=by rw[lI h];rfl
   rw[hh] at hx;refine C1 (bW _) ?_;refine C1 (bW _) ?_;have hE:=fun S=>sZ [bN vg,bN x.fName] x.fArgs S hA gA gL;simp only[af,aw,fI] at hE;refine bD rfl (hE _) ?_;refine W1 ?_;rw[hx];rfl
  have k8:=h;refine S0 (fun hb h=>?_) fun hb h=>?_
  ·have hx:=mP k1 k2 k3 gA
   have hh:jL x.aN x.bO x.fName x.fType=[bN zN]:=by rw[lI h];rfl
   rw[hh] at hx;refine C1 (bW _) ?_;have hE:=fun S=>sZ [bN zN] x.fArgs S hA gA gL;simp only[af,aw,fI] at hE;refine bD rfl (hE _) ?_;refine W1 ?_;rw[hx];rfl
  have k9:=h;refine S0 (fun hb h=>?_) fun hb h=>?_
  ·have hx:=mP k1 k2 k3 gA
   have hh:jL x.aN x.bO x.fName x.fType=[bN x.fName]:=by rw[lI h];rfl
   rw[hh] at hx;refine C1 (bW _) ?_;have hE:=fun S=>sZ [bN x.fName] x.fArgs S hA gA gL;simp only[af,aw,fI] at hE;refine bD rfl (hE _) ?_;refine W1 ?_;rw[hx];rfl
  have k10:=h;refine S0 (fun hb h=>?_) fun hb h=>?_
  ·have hx:=mP k1 k2 k3 gA
   have hh:jL x.aN x.bO x.fName x.fType=[bN qD,bN x.bO]:=by rw[lI h];rfl
   rw[hh] at hx;refine C1 (bW _) ?_;refine C1 (bW _) ?_;have hE:=fun S=>sZ [bN qD,bN x.bO] x.fArgs S hA gA gL;simp only[af,aw,fI] at hE;refine bD rfl (hE _) ?_;refine W1 ?_;rw[hx];rfl
  have k11:=h;refine S0 (fun hb h=>?_) fun hb h=>?_
  ·have hx:=mP k1 k2 k3 gA
   have hh:jL x.aN x.bO x.fName x.fType=[bN vT,dI x.fType]:=by rw[lI h];rfl
   rw[hh] at hx;refine C1 (bW _) ?_;refine C1 (mX x.fType gA) ?_;have hE:=fun S=>sZ [bN vT,dI x.fType] x.fArgs S hA gA gL;simp only[af,aw,fI,ah.aC (dI x.fType)] at hE;refine bD rfl (hE _) ?_;refine W1 ?_;rw[hx];show _=V.agg [.d (.s []),.d (.sl (List.map ah.enc (bN vT::dI x.fType::x.fArgs.map fG)))];simp only[ba,bc,af,fI,ah.aC (dI x.fType)];rfl
  have k12:=h
  have hk7:x.aN=7:=by have:=hfi.1;omega
  have hx:=MU x;rw[if_neg k1,if_neg k2,if_neg k3,if_neg gA] at hx
  have hh:jL x.aN x.bO x.fName x.fType=[bN lX]:=by rw[lI hk7];rfl
  rw[hh] at hx;refine C1 (bW _) ?_;have hE:=fun bY Ω=>Zx [bN lX] x.fArgs bY Ω hA gA gL;obtain⟨B,hB⟩:∃B:Nat->List (List D),B=fun i=>(([bN lX]++x.fArgs.map fG)++(x.aX.map Cj).take i).map ah.enc:=⟨_,rfl⟩
  have hB0:([bN lX]++x.fArgs.map fG).map ah.enc=B 0:=by rw[hB];simp only[cE,bm]
  have hBl:∀i,(B i).length<=i+x.fArgs.length+1:=fun i=>by
   rw[hB];simp only[ae,ab,aa,al];have:=bi i (x.aX.map Cj);omega
  have hBr:∀i,∀r∈B i,r.length=2:=fun i=>by rw[hB];exact gK
  have hBs:∀i (hi:i<x.aX.length),B i++[[.s [],.sl (([bN x.aX[i].dV]++aR x.aX[i].aG++[fG x.aX[i].fBody]).map ah.enc)]]=B (i+1):=fun i hi=>by
   have:=jI (base:=[bN lX]++x.fArgs.map fG) (l:=x.aX.map Cj) (i:=i) hJ;rw[bp,ail,eF,dD] at this;rw[hB];exact this
  have hBe:B x.aX.length=([bN lX]++x.fArgs.map fG++x.aX.map Cj).map ah.enc:=by rw[hB];simp only;rw[aE gL]
  clear hB;simp only[hB0] at hE;simp only[af,aw,fI] at hE;refine bD rfl (hE _ _) ?_;refine W1 ?_
  refine aZ (ι:=Nat) zmx rfl [1,2,3,4] (fun i=>[.c (.ptr (0,0) 0),.c (.ptr (0,1) 0),.c (.ptr (0,5) 0),.c (.d (.i .i64 i))])
   (fun i=>[.box [.d (.i .i64 x.aN),.d (.s x.bO),.d (.s x.fName),.d (.i .i64 x.fN),.d (.i .i64 x.fType.aN),.d (.s x.fType.fName),.d (.sl (x.fType.fArgs.map ak.enc)),.d (.sl (x.fArgs.map au.enc)),.d (.sl (x.aX.map bq.enc))],.box [.d (.s []),.bH []],.box [.d (.s []),.bJ (0,4) (B 0)],.box [.d (.s []),.bJ (0,4) (B 0)],.tok 2 (B i),.box [.d (.s []),.bJ (0,4) (B i)]]::S)
   (fun i=>i<=x.aX.length) (fun i=>x.aX.length-i) 0 rfl rfl (an _) ?_
  intro i hi;have hl:=hBl i;have hr:=hBr i;refine W1 ?_;refine S0 (fun hb h=>?_) fun hb h=>?_
  ·have hi':i<x.aX.length:=gA
   have hm:=ac hi';have hez:=Sn hm;have hea:=Ed x.aX[i];have hs:=hBs i hi';have hak:=Zw _ hm;rw[u6,ai,ai] at hak;have hls:=bh hm;have hlb:=bq.vN x.aX[i];refine W3 ?_;refine C1 (bW _) ?_;refine W3 ?_;refine bn (MR x.aX[i].aG gA) ?_;have hwr:=gK (l:=aR x.aX[i].aG)
   have hwl:(aR x.aX[i].aG).length=x.aX[i].aG.length:=by rw[jP]
   refine W1 ?_;refine W3 ?_;refine C1 (ih x.aX[i].fBody gA hak.2.2 gA) ?_;refine W3 ?_;simp only[ba,bc,af,aw,bw,fI,ah.aC (fG x.aX[i].fBody)] at hs;rw[hs];exact bR 6 gE (i+1) gA rfl rfl rfl rfl gA
  ·have hi':i=x.aX.length:=gA
   subst hi';rw[hx,hBe];rfl
theorem wz(x:au)(hok:jl x=true)(hsz:x.sz<=4194304):aD prog 109 [x.v] (fG x).v:=Sr _ x (cg _) hok hsz
theorem Zy{x:au}(h:uP x=true):jl x=true:=by rw[uP,ai] at h;exact h.2
noncomputable def EC(k:Int)(n:List UInt8)(bound out:List (List UInt8)):List (List UInt8):=if k=3/\n∉bound/\n∉out then out++[n] else out
mutual
noncomputable def lY:au->List (List UInt8)->List (List UInt8)->List (List UInt8)
 | .mk k _ n _ _ a b,bound,out=>zn b bound (vD a k n 0 bound (EC k n bound out))
noncomputable def vD:List au->Int->List UInt8->Nat->List (List UInt8)->List (List UInt8)->List (List UInt8)
 |[],_,_,_,_,out=>out
 |x::xs,k,n,i,bound,out=>vD xs k n (i+1) bound (lY x (if k=8/\i=1 then bound++[n] else bound) out)
noncomputable def zn:List bq->List (List UInt8)->List (List UInt8)->List (List UInt8)
 |[],_,out=>out
 |x::xs,bound,out=>zn xs bound (KR x bound out)
noncomputable def KR:bq->List (List UInt8)->List (List UInt8)->List (List UInt8)
 | .mk _ v b,bound,out=>lY b (bound++v) out
end
theorem Zz(x:au)(bound out:List (List UInt8)):lY x bound out=zn x.aX bound (vD x.fArgs x.aN x.fName 0 bound (EC x.aN x.fName bound out)):=by cases x;rw[lY];rfl
theorem ZA(x:bq)(bound out:List (List UInt8)):KR x bound out=lY x.fBody (bound++x.aG) out:=by cases x;rw[KR];rfl
theorem Sv{xs:List au}{k:Int}{n:List UInt8}{i:Nat}{bound out:List (List UInt8)}(hi:i<xs.length):vD (xs.drop i) k n i bound out=vD (xs.drop (i+1)) k n (i+1) bound (lY xs[i] (if k=8/\i=1 then bound++[n] else bound) out):=by
 rw[cb hi,vD]
theorem Sw{xs:List bq}{i:Nat}{bound out:List (List UInt8)}(hi:i<xs.length):zn (xs.drop i) bound out=zn (xs.drop (i+1)) bound (KR xs[i] bound out):=by
 rw[cb hi,zn]
theorem Qi(k:Int)(n:List UInt8)(bound out:List (List UInt8)):(EC k n bound out).length<=out.length+1:=by
 unfold EC;split<;>simp
mutual
theorem yN:∀(x:au)(bound out:List (List UInt8)),(lY x bound out).length<=out.length+x.cnt
 | .mk k t n m ty a b,bound,out=>by
   have h1:=Qi k n bound out;have h2:=VL a k n 0 bound (EC k n bound out);have h3:=VN b bound (vD a k n 0 bound (EC k n bound out));rw[lY,au.cnt];omega
theorem VL:∀(xs:List au)(k:Int)(n:List UInt8)(i:Nat)(bound out:List (List UInt8)),(vD xs k n i bound out).length<=out.length+au.fq xs
 |[],k,n,i,bound,out=>by rw[vD,au.fq];omega
 |x::xs,k,n,i,bound,out=>by
  have h1:=yN x (if k=8/\i=1 then bound++[n] else bound) out;have h2:=VL xs k n (i+1) bound (lY x (if k=8/\i=1 then bound++[n] else bound) out);rw[vD,au.fq];omega
theorem VN:∀(xs:List bq)(bound out:List (List UInt8)),(zn xs bound out).length<=out.length+bq.fq xs
 |[],bound,out=>by rw[zn,bq.fq];omega
 |x::xs,bound,out=>by
  have h1:=aiv x bound out;have h2:=VN xs bound (KR x bound out);rw[zn,bq.fq];omega
theorem aiv:∀(x:bq)(bound out:List (List UInt8)),(KR x bound out).length<=out.length+x.cnt
 | .mk c v b,bound,out=>by
   have h1:=yN b (bound++v) out;rw[KR,bq.cnt];omega
end
theorem au.yF{x:au}{i:Nat}(hi:i<x.fArgs.length):x.fArgs[i].sz+x.fArgs.length<=x.sz:=by
 have hx:x.fArgs[i].sz<=aS (x.fArgs.map au.enc):=dM (be (ac hi));have:=au.Gu x;omega
theorem au.aiw{x:au}{i:Nat}(hi:i<x.aX.length):x.aX[i].sz+x.aX.length<=x.sz:=by
 have hx:x.aX[i].sz<=aS (x.aX.map bq.enc):=dM (be (ac hi));have:=au.Gu x;omega
theorem bq.acX(x:bq):x.aG.length+x.fBody.sz<=x.sz:=by
 simp only[bq.sz,bq.aC,au.sz,bX,bT,D.sz,ab];omega
theorem Oq(xs:List (List UInt8))(s:List UInt8):xs.map encS++[[D.s s]]=(xs++[s]).map encS:=by simp[encS]
theorem MZ:∀N:Nat,∀x:au,SizeOf.sizeOf x<N->x.sz<=4194304->∀(bound out:List (List UInt8))(l j:Nat)(S:Store),bC S (l,j)=some (.tok 1 (out.map encS))->out.length+x.cnt<=1073741824->bound.length+x.sz<=1073741824->
 bS prog 206 [.c (.bJ (l,j) (out.map encS)),x.v,.c (.d (.sl (bound.map encS)))] S (fun r S'=>r=.c (.bJ (l,j) ((lY x bound out).map encS))/\S'=bA S (l,j) (.tok 1 ((lY x bound out).map encS)))
 |0=>fun x h=>by omega
 |N+1=>by
  have ih:=MZ N;intro x hn hsz bound out l j S hk hc hbd;have hb0:=au.Gu x;have kL:=au.jF x;have Fv:=au.xG x;have hcn:=au.rW x;have RU:∀y:Ab.Obj,bC (bA S (l,j) y) (l,j)=some y:=fun y=>dA _ _ _ _ hk;have hS0:bA S (l,j) (.tok 1 (out.map encS))=S:=DX _ _ hk;have fin:=Zz x bound out;have hal:=Qi x.aN x.fName bound out;obtain⟨o1,ho1⟩:∃o1,EC x.aN x.fName bound out=o1:=⟨_,rfl⟩;rw[ho1] at fin hal;refine(show Hold ?T->_ from fun tail=> ?main) ?tp
  case' main=>
   refine zcx [.tmp 6] func206 ntmps206 ?_;refine zA ?_
   repeat' (first
    |(refine S0k (fun hb h=>?_) fun hb h=>?_)
    |(refine bn (tO bound x.fName gA) ?_;refine zA ?_;refine W3 ?_)
    |(refine bn (tO out x.fName gA) ?_;refine zA ?_;refine W3 ?_))
   all_goals first
    |(have ha:EC x.aN x.fName bound out=out++[x.fName]:=if_pos ⟨by assumption,by assumption,by assumption⟩)
    |(have ha:EC x.aN x.fName bound out=out:=if_neg (fun y=>by have:=y.1;have:=y.2.1;have:=y.2.2;contradiction))
   all_goals
    refine oD (st':=[.box (x.enc.map .d)]::bA S (l,j) (.tok 1 (o1.map encS))) [0,2,4,34,35,36] [.c (.bJ (1+l,j) (o1.map encS)),.c (.d (.sl (bound.map encS))),.c (.ptr (0,0) 0),.c (.d (.sl (x.fArgs.map au.enc))),.c (.d (.i .i64 x.fArgs.length)),.c (.d (.i .i64 0))] ?_ ?_ ?_
    ·first|(rw[<-ho1,ha];rfl)|(rw[<-ho1,ha,<-Oq];rfl)
    ·first|(rw[<-ho1,ha,hS0];exact Z1;done)|(rw[<-ho1,ha,<-Oq];exact Z1;done)
    ·exact tail.out
  refine⟨?_⟩;clear ho1
  refine aZ (ι:=Nat×List (List UInt8)) zmx rfl [0,2,4,34,35,36] (fun y=>[.c (.bJ (1+l,j) (y.2.map encS)),.c (.d (.sl (bound.map encS))),.c (.ptr (0,0) 0),.c (.d (.sl (x.fArgs.map au.enc))),.c (.d (.i .i64 x.fArgs.length)),.c (.d (.i .i64 y.1))]) (fun y=>[.box (x.enc.map .d)]::bA S (l,j) (.tok 1 (y.2.map encS)))
   (fun y=>y.1<=x.fArgs.length/\y.2.length+au.fq (x.fArgs.drop y.1)+bq.fq x.aX<=1073741824/\vD (x.fArgs.drop y.1) x.aN x.fName y.1 bound y.2=vD x.fArgs x.aN x.fName 0 bound o1) (fun y=>x.fArgs.length-y.1) (0,o1) rfl rfl ⟨an _,by simp only[cN];omega,rfl⟩ ?_
  rintro⟨i,o⟩ ⟨p1,p2,p3⟩
  have refs:∀{a b},jh 1 (iy [0,2,4,34,35,36] [.c (.bJ (1+l,j) a),.c (.d (.sl (bound.map encS))),.c (.ptr (0,0) 0),.c (.d (.sl (x.fArgs.map au.enc))),.c (.d (.i .i64 x.fArgs.length)),.c (.d (.i .i64 b))])=true:=fun {a b}=>by simp[jh,iy,V.refs,C.refs,kR];omega
  simp only at p1 p2 p3;refine W1 ?_;refine S0 (fun hb h=>?_) fun hb h=>?_
  ·have hi:i<x.fArgs.length:=gA
   have hs:=bh (ac hi);have hz:=au.yF hi;rw[Sv hi] at p3;rw[au.nS hi] at p2;have hlo:=yN x.fArgs[i] (if x.aN=8/\i=1 then bound++[x.fName] else bound) o;refine W3 ?_
   have two:x.fArgs[i].sz+(bound.length+1)<=1073741824:=gA
   repeat' (first|refine S0 (fun hb h=>?_) fun hb h=>?_)
   ·
    have e1:x.aN=8/\i=1:=⟨gA,gA⟩;rw[if_pos e1] at p3 hlo;refine aqE rfl DS.push (air bound gA _ _) ?_;refine W1 ?_;refine W3 ?_;rw[Oq];refine dX [true,true,false] rfl (ih x.fArgs[i] gA gA (bound++[x.fName]) o (1+l) j _ (by refine W1 ?_;exact RU _) gA (by simp only[ae,aa,al];omega)) ?_;simp -implicitDefEqProofs (disch:=omega) only[go_sem,cu];exact bR 1 gE (i+1,lY x.fArgs[i] (bound++[x.fName]) o) gC rfl rfl refs rfl ⟨gC,gC,p3⟩
   all_goals
    have e1:¬(x.aN=8/\i=1):=fun h=>gA
    rw[if_neg e1] at p3 hlo;refine bD rfl (ih x.fArgs[i] gA gA bound o (1+l) j _ (by refine W1 ?_;exact RU _) gA gA) ?_;simp -implicitDefEqProofs (disch:=omega) only[go_sem,cu];exact bR 1 gE (i+1,lY x.fArgs[i] bound o) gC rfl rfl refs rfl ⟨gC,gC,p3⟩
  have hi:i=x.fArgs.length:=gA
  rw[hi,cy] at p2 p3;rw[au.fq] at p2;rw[vD] at p3;rw[<-p3] at fin;clear p3 refs
  refine aZ (ι:=Nat×List (List UInt8)) zmx rfl [0,2,63,64,65] (fun y=>[.c (.bJ (1+l,j) (y.2.map encS)),.c (.d (.sl (bound.map encS))),.c (.d (.sl (x.aX.map bq.enc))),.c (.d (.i .i64 x.aX.length)),.c (.d (.i .i64 y.1))]) (fun y=>[.box (x.enc.map .d)]::bA S (l,j) (.tok 1 (y.2.map encS)))
   (fun y=>y.1<=x.aX.length/\y.2.length+bq.fq (x.aX.drop y.1)<=1073741824/\zn (x.aX.drop y.1) bound y.2=lY x bound out) (fun y=>x.aX.length-y.1) (0,o) rfl ?_ ⟨an _,by simp only[cN];omega,fin.symm⟩ ?_
  ·exact Z1
  clear p1 p2 fin hal;rintro⟨i,o⟩ ⟨p1,p2,p3⟩
  have refs:∀a b,jh 1 (iy [0,2,63,64,65] [.c (.bJ (1+l,j) a),.c (.d (.sl (bound.map encS))),.c (.d (.sl (x.aX.map bq.enc))),.c (.d (.i .i64 x.aX.length)),.c (.d (.i .i64 b))])=true:=fun a b=>by simp[jh,iy,V.refs,C.refs,kR];omega
  simp only at p1 p2 p3;refine W1 ?_;refine S0 (fun hb h=>?_) fun hb h=>?_
  ·have hi:i<x.aX.length:=gA
   have hs:=bh (ac hi);have hs':=bq.vN x.aX[i];have hz:=au.aiw hi;have hz':=bq.acX x.aX[i];rw[Sw hi,ZA] at p3;rw[bq.nS hi] at p2;have hlo:=yN x.aX[i].fBody (bound++x.aX[i].aG) o;have hcc:=afs [bound,x.aX[i].aG] gL (by simp only[cF,fe,bm,ae];omega);simp only[af,aw,cF,fe,bm] at hcc;refine W3 ?_;refine bn hcc ?_;refine W1 ?_;refine bD rfl (ih x.aX[i].fBody gA gA (bound++x.aX[i].aG) o (1+l) j _ (by refine W1 ?_;exact RU _) gA (by simp only[ae];omega)) ?_;simp -implicitDefEqProofs (disch:=omega) only[go_sem,cu];exact bR 1 gE (i+1,lY x.aX[i].fBody (bound++x.aX[i].aG) o) gC rfl rfl (refs _ _) rfl ⟨gC,gC,p3⟩
  ·have hi:i=x.aX.length:=gA
   rw[hi,cy,zn] at p3;rw[<-p3];exact⟨rfl,rfl⟩
theorem Sy(x:au)(hsz:x.sz<=4194304):aD prog 168 [x.v] (.c (.d (.sl ((lY x [] []).map encS)))):=fun S=>by
 have hc:=au.nC x
 have h0:∀S,bS prog 206 [.c (.bH []),x.v,.c (.d (.sl []))] S (fun r S'=>r=.c (.d (.sl ((lY x [] []).map encS)))/\S'=S):=fun S=>by
  refine bS.ak5 0 (es:=[]) (bB:=1) rfl gL (MZ _ x (cg _) hsz [] [] 0 0 ([.tok 1 []]::S) rfl gR gR) ?_;rintro r fr S' ⟨rfl,h2⟩;injection h2 with h2 h3;exact⟨_,rfl,rfl,h3⟩
 refine zcx [.tmp 2] func168 ntmps168 ?_;refine W1 ?_;refine W3 ?_;refine dX [true,true,false] rfl (h0 _) ?_;exact Z1
theorem M0:∀N:Nat,∀x:au,SizeOf.sizeOf x<N->x.sz<=4194304->∀(bound out:List (List UInt8))(l j:Nat)(S:Store),bC S (l,j)=some (.tok 1 (out.map encS))->out.length+x.cnt<=1073741824->bound.length+x.sz<=1073741824->
 bS prog 242 [x.v,.c (.d (.sl (bound.map encS))),.c (.bJ (l,j) (out.map encS))] S (fun r S'=>r=.c (.bJ (l,j) ((lY x bound out).map encS))/\S'=bA S (l,j) (.tok 1 ((lY x bound out).map encS)))
 |0=>fun x h=>by omega
 |N+1=>by
  have ih:=M0 N;intro x hn hsz bound out l j S hk hc hbd;have hb0:=au.Gu x;have kL:=au.jF x;have Fv:=au.xG x;have hcn:=au.rW x;have RU:∀y:Ab.Obj,bC (bA S (l,j) y) (l,j)=some y:=fun y=>dA _ _ _ _ hk;have hS0:bA S (l,j) (.tok 1 (out.map encS))=S:=DX _ _ hk;have fin:=Zz x bound out;have hal:=Qi x.aN x.fName bound out;obtain⟨o1,ho1⟩:∃o1,EC x.aN x.fName bound out=o1:=⟨_,rfl⟩;rw[ho1] at fin hal;refine(show Hold ?T->_ from fun tail=> ?main) ?tp
  case' main=>
   refine zcx [.tmp 6] func242 ntmps242 ?_;refine zA ?_
   repeat' (first
    |(refine S0k (fun hb h=>?_) fun hb h=>?_)
    |(refine bn (tL bound x.fName gA) ?_;refine zA ?_;refine W3 ?_)
    |(refine bn (tL out x.fName gA) ?_;refine zA ?_;refine W3 ?_))
   all_goals first
    |(have ha:EC x.aN x.fName bound out=out++[x.fName]:=if_pos ⟨by assumption,by assumption,by assumption⟩)
    |(have ha:EC x.aN x.fName bound out=out:=if_neg (fun y=>by have:=y.1;have:=y.2.1;have:=y.2.2;contradiction))
   all_goals
    refine oD (st':=[.box (x.enc.map .d)]::bA S (l,j) (.tok 1 (o1.map encS))) [1,2,3,7] [.c (.d (.sl (bound.map encS))),.c (.bJ (1+l,j) (o1.map encS)),.c (.ptr (0,0) 0),.c (.d (.i .i64 0))] ?_ ?_ ?_
    ·first|(rw[<-ho1,ha];rfl)|(rw[<-ho1,ha,<-Oq];rfl)
    ·first|(rw[<-ho1,ha,hS0];exact Z1;done)|(rw[<-ho1,ha,<-Oq];exact Z1;done)
    ·exact tail.out
  refine⟨?_⟩;clear ho1
  refine aZ (ι:=Nat×List (List UInt8)) zmx rfl [1,2,3,7] (fun y=>[.c (.d (.sl (bound.map encS))),.c (.bJ (1+l,j) (y.2.map encS)),.c (.ptr (0,0) 0),.c (.d (.i .i64 y.1))]) (fun y=>[.box (x.enc.map .d)]::bA S (l,j) (.tok 1 (y.2.map encS)))
   (fun y=>y.1<=x.fArgs.length/\y.2.length+au.fq (x.fArgs.drop y.1)+bq.fq x.aX<=1073741824/\vD (x.fArgs.drop y.1) x.aN x.fName y.1 bound y.2=vD x.fArgs x.aN x.fName 0 bound o1) (fun y=>x.fArgs.length-y.1) (0,o1) rfl rfl ⟨an _,by simp only[cN];omega,rfl⟩ ?_
  rintro⟨i,o⟩ ⟨p1,p2,p3⟩
  have refs:∀{a b},jh 1 (iy [1,2,3,7] [.c (.d (.sl (bound.map encS))),.c (.bJ (1+l,j) a),.c (.ptr (0,0) 0),.c (.d (.i .i64 b))])=true:=fun {a b}=>by simp[jh,iy,V.refs,C.refs,kR];omega
  simp only at p1 p2 p3;refine W1 ?_;refine S0 (fun hb h=>?_) fun hb h=>?_
  ·have hi:i<x.fArgs.length:=gA
   have hs:=bh (ac hi);have hz:=au.yF hi;rw[Sv hi] at p3;rw[au.nS hi] at p2;have hlo:=yN x.fArgs[i] (if x.aN=8/\i=1 then bound++[x.fName] else bound) o
   have two:x.fArgs[i].sz+(bound.length+1)<=1073741824:=gA
   repeat' (first|refine S0 (fun hb h=>?_) fun hb h=>?_)
   ·have e1:x.aN=8/\i=1:=⟨gA,gA⟩;rw[if_pos e1] at p3 hlo;refine⟨GU,⟨_,rfl,rfl⟩,fun y hy=>(by cases hy),gA,?_⟩;refine W3 ?_;rw[Oq];refine dX [true,false,true] rfl (ih x.fArgs[i] gA gA (bound++[x.fName]) o (1+l) j _ (by refine W1 ?_;exact RU _) gA (by simp only[ae,aa,al];omega)) ?_;simp -implicitDefEqProofs (disch:=omega) only[go_sem,cu];exact bR 1 gE (i+1,lY x.fArgs[i] (bound++[x.fName]) o) gC rfl rfl refs rfl ⟨gC,gC,p3⟩
   all_goals
    have e1:¬(x.aN=8/\i=1):=fun h=>gA
    rw[if_neg e1] at p3 hlo;refine W3 ?_;refine bD rfl (ih x.fArgs[i] gA gA bound o (1+l) j _ (by refine W1 ?_;exact RU _) gA gA) ?_;simp -implicitDefEqProofs (disch:=omega) only[go_sem,cu];exact bR 1 gE (i+1,lY x.fArgs[i] bound o) gC rfl rfl refs rfl ⟨gC,gC,p3⟩
  have hi:i=x.fArgs.length:=gA
  rw[hi,cy] at p2 p3;rw[au.fq] at p2;rw[vD] at p3;rw[<-p3] at fin;clear p3 refs
  refine aZ (ι:=Nat×List (List UInt8)) zmx rfl [1,2,3,9] (fun y=>[.c (.d (.sl (bound.map encS))),.c (.bJ (1+l,j) (y.2.map encS)),.c (.ptr (0,0) 0),.c (.d (.i .i64 y.1))]) (fun y=>[.box (x.enc.map .d)]::bA S (l,j) (.tok 1 (y.2.map encS)))
   (fun y=>y.1<=x.aX.length/\y.2.length+bq.fq (x.aX.drop y.1)<=1073741824/\zn (x.aX.drop y.1) bound y.2=lY x bound out) (fun y=>x.aX.length-y.1) (0,o) rfl ?_ ⟨an _,by simp only[cN];omega,fin.symm⟩ ?_
  ·exact Z1
  clear p1 p2 fin hal;rintro⟨i,o⟩ ⟨p1,p2,p3⟩
  have refs:∀a b,jh 1 (iy [1,2,3,9] [.c (.d (.sl (bound.map encS))),.c (.bJ (1+l,j) a),.c (.ptr (0,0) 0),.c (.d (.i .i64 b))])=true:=fun a b=>by simp[jh,iy,V.refs,C.refs,kR];omega
  simp only at p1 p2 p3;refine W1 ?_;refine S0 (fun hb h=>?_) fun hb h=>?_
  ·have hi:i<x.aX.length:=gA
   have hs:=bh (ac hi);have hs':=bq.vN x.aX[i];have hz:=au.aiw hi;have hz':=bq.acX x.aX[i];rw[Sw hi,ZA] at p3;rw[bq.nS hi] at p2;have hlo:=yN x.aX[i].fBody (bound++x.aX[i].aG) o;refine⟨GU,⟨_,rfl,rfl⟩,fun y hy=>(by cases hy),gA,⟨gA,hi⟩,GU,⟨_,rfl,rfl⟩,gA,?_⟩;rw[<-bw];refine dX [true,false,true] rfl (ih x.aX[i].fBody gA gA (bound++x.aX[i].aG) o (1+l) j _ (by refine W1 ?_;exact RU _) gA (by simp only[ae];omega)) ?_;simp -implicitDefEqProofs (disch:=omega) only[go_sem,cu];exact bR 1 gE (i+1,lY x.aX[i].fBody (bound++x.aX[i].aG) o) gC rfl rfl (refs _ _) rfl ⟨gC,gC,p3⟩
  ·have hi:i=x.aX.length:=gA
   rw[hi,cy,zn] at p3;rw[<-p3];exact⟨rfl,rfl⟩
theorem Sz(x:au)(hsz:x.sz<=4194304):aD prog 212 [x.v] (.c (.d (.sl ((lY x [] []).map encS)))):=fun S=>by
 have hc:=au.nC x
 have h0:∀S,bS prog 242 [x.v,.c (.d (.sl [])),.c (.bH [])] S (fun r S'=>r=.c (.d (.sl ((lY x [] []).map encS)))/\S'=S):=fun S=>by
  refine bS.ak5 2 (es:=[]) (bB:=1) rfl gL (M0 _ x (cg _) hsz [] [] 0 0 ([.tok 1 []]::S) rfl gR gR) ?_;rintro r fr S' ⟨rfl,h2⟩;injection h2 with h2 h3;exact⟨_,rfl,rfl,h3⟩
 refine zcx [.tmp 2] func212 ntmps212 ?_;refine W1 ?_;refine W3 ?_;refine dX [true,false,true] rfl (h0 _) ?_;exact Z1
theorem au.GV{x:au}(h:x.sz<=4194304):x.bO.length<=4194304/\x.fName.length<=4194304/\x.fType.sz<=4194304/\x.fArgs.length<=4194304/\x.aX.length<=4194304:=by
 simp only[au.sz,au.aC,bX,bT,D.sz,ab,ak.dY] at h;omega
theorem au.anD{x:au}{i:Nat}(hi:i<x.fArgs.length)(h:x.sz<=4194304):x.fArgs[i].sz<=4194304:=by
 have hx:x.fArgs[i].sz<=aS (x.fArgs.map au.enc):=dM (be (ac hi));simp only[au.sz,au.aC,bX,bT,D.sz,ab,ak.dY] at h;omega
theorem au.anE{x:au}{i:Nat}(hi:i<x.aX.length)(h:x.sz<=4194304):x.aX[i].sz<=4194304:=by
 have hx:x.aX[i].sz<=aS (x.aX.map bq.enc):=dM (be (ac hi));simp only[au.sz,au.aC,bX,bT,D.sz,ab,ak.dY] at h;omega
theorem bq.GV{x:bq}(h:x.sz<=4194304):x.dV.length<=4194304/\x.aG.length<=4194304/\x.fBody.sz<=4194304:=by
 simp only[bq.sz,bq.aC,bX,bT,D.sz,ab,au.dY] at h;omega
theorem EW:∀n:Nat,∀x:au,SizeOf.sizeOf x<n->∀y:au,x.sz<=4194304->aD prog 197 [x.v,y.v] (.c (.d (.b (dec (x=y)))))
 |0=>fun x h=>by omega
 |n+1=>by
  have ih:=EW n;intro x hn y hsz S;have kL:=au.jF x;have Fv:=au.xG x;have hb0:=au.GV hsz
  have hargs:=P7 197 x.fArgs y.fArgs gA (fun u hu v=>by
   obtain⟨i,hi,e⟩:=ci hu;have:=bh hu
   exact ih u gA v (by rw[<-e];exact au.anD hi hsz))
  have atC:=RX 226 x.aX y.aX gA (fun u hu v=>by
   obtain⟨i,hi,e⟩:=ci hu;have hs:=bh hu
   have hz:u.sz<=4194304:=by rw[<-e];exact au.anE hi hsz
   have hz':=bq.GV hz;have atD:=bq.vN u;intro S;refine zcx [.tmp 4] func226 ntmps226 ?_;refine W1 ?_;refine S0 (fun hb h=>?_) fun hb h=>?_
   ·have h1:=h;refine C2 (ah8 u.aG v.aG gA) ?_;refine S0 (fun hb h=>?_) fun hb h=>?_
    ·have h2:=h;refine C2 (ih u.fBody gA v.fBody gA) ?_;exact aK (iJ ⟨fun e=>bq.ext h1 h2 e,fun e=>by rw[e]⟩)
    ·exact aK (aO (fun e=>h (by rw[e]))).symm
   ·exact aK (aO (fun e=>h (by rw[e]))).symm)
  refine zcx [.tmp 4] func197 ntmps197 ?_;refine W1 ?_;refine S0 (fun hb h=>?_) fun hb h=>?_
  ·have h1:=h;refine S0 (fun hb h=>?_) fun hb h=>?_
   ·have h2:=h;refine S0 (fun hb h=>?_) fun hb h=>?_
    ·have h3:=h;refine S0 (fun hb h=>?_) fun hb h=>?_
     ·have h4:=h;refine C2 (PX x.fType y.fType gA) ?_;refine S0 (fun hb h=>?_) fun hb h=>?_
      ·have h5:=h;refine C2 (hargs) ?_;refine S0 (fun hb h=>?_) fun hb h=>?_
       ·have h6:=h;refine C2 (atC) ?_;exact aK (iJ ⟨fun e=>au.ext h1 h2 h3 h4 h5 h6 e,fun e=>by rw[e]⟩)
       ·exact aK (aO (fun e=>h (by rw[e]))).symm
      ·exact aK (aO (fun e=>h (by rw[e]))).symm
     ·exact aK (aO (fun e=>h (by rw[e]))).symm
    ·exact aK (aO (fun e=>h (by rw[e]))).symm
   ·exact aK (aO (fun e=>h (by rw[e]))).symm
  ·exact aK (aO (fun e=>h (by rw[e]))).symm
theorem Qj(x y:au)(h:x.sz<=4194304):aD prog 197 [x.v,y.v] (.c (.d (.b (dec (x=y))))):=EW _ x (cg _) y h
theorem EX:∀n:Nat,∀x:au,SizeOf.sizeOf x<n->∀y:au,x.sz<=4194304->aD prog 237 [x.v,y.v] (.c (.d (.b (dec (x=y)))))
 |0=>fun x h=>by omega
 |n+1=>by
  have ih:=EX n;intro x hn y hsz S;have kL:=au.jF x;have Fv:=au.xG x;have hb0:=au.GV hsz;refine zcx [.tmp 4] func237 ntmps237 ?_;refine W1 ?_;refine S0 (fun hb h=>?_) fun hb h=>?_
  ·exact aK (aO (fun e=>h (by rw[e]))).symm
  have h1:=h;refine S0 (fun hb h=>?_) fun hb h=>?_
  ·exact aK (aO (fun e=>h (by rw[e]))).symm
  have h2:=h;refine S0 (fun hb h=>?_) fun hb h=>?_
  ·exact aK (aO (fun e=>h (by rw[e]))).symm
  have h3:=h;refine S0 (fun hb h=>?_) fun hb h=>?_
  ·exact aK (aO (fun e=>h (by rw[e]))).symm
  have h4:=h;refine C2 (PW x.fType y.fType gA) ?_;refine S0 (fun hb h=>?_) fun hb h=>?_
  ·exact aK (aO (fun e=>h (by rw[e]))).symm
  have h5:=h;refine S0 (fun hb h=>?_) fun hb h=>?_
  ·exact aK (aO (fun e=>h (by rw[e]))).symm
  have h6:x.fArgs.length=y.fArgs.length:=gA
  refine S0 (fun hb h=>?_) fun hb h=>?_
  ·exact aK (aO (fun e=>h (by rw[e]))).symm
  have h7:x.aX.length=y.aX.length:=gA
  refine aZ (ι:=Nat) zmx rfl [2,3,5] (fun i=>[.c (.ptr (0,0) 0),.c (.ptr (0,1) 0),.c (.d (.i .i64 i))]) (fun _=>[.box (x.enc.map .d),.box (y.enc.map .d)]::S)
   (fun i=>i<=x.fArgs.length/\∀j,j<i->x.fArgs[j]? =y.fArgs[j]?) (fun i=>x.fArgs.length-i) 0 rfl ?_ ⟨an _,fun j h=>gA⟩ ?_
  ·exact Z1
  rintro i ⟨p1,p2⟩;refine W1 ?_;refine S0 (fun hb h=>?_) fun hb h=>?_
  ·have hi:i<x.fArgs.length:=gA
   have hi':i<y.fArgs.length:=gA
   refine W3 ?_;refine C2 (ih x.fArgs[i] (by have:=bh (ac hi);omega) y.fArgs[i] (au.anD hi hsz)) ?_;refine S0 (fun hb h=>?_) fun hb h=>?_
   ·exact aK (aO (fun e=>h (by simp only[e]))).symm
   refine dH (i+1) gA rfl rfl ⟨gA,fun j hj=> ?_⟩;by_cases e:j=i
   ·subst e;rw[am hi,am hi',h]
   ·exact p2 j gA
  have hi:i=x.fArgs.length:=gA
  have h8:x.fArgs=y.fArgs:=dl fun j=>by
   by_cases hj:j<i
   ·exact p2 j hj
   ·rw[cn gA,cn gA]
  refine aZ (ι:=Nat) zmx rfl [2,3,6] (fun i=>[.c (.ptr (0,0) 0),.c (.ptr (0,1) 0),.c (.d (.i .i64 i))]) (fun _=>[.box (x.enc.map .d),.box (y.enc.map .d)]::S)
   (fun i=>i<=x.aX.length/\∀j,j<i->x.aX[j]? =y.aX[j]?) (fun i=>x.aX.length-i) 0 rfl ?_ ⟨an _,fun j h=>gA⟩ ?_
  ·exact Z1
  clear p1 p2 hi hb h;clear i;rintro i ⟨p1,p2⟩;refine W1 ?_;refine S0 (fun hb h=>?_) fun hb h=>?_
  ·have hi:i<x.aX.length:=gA
   have hi':i<y.aX.length:=gA
   have hs:=bh (ac hi);have hz:=bq.GV (au.anE hi hsz);have atD:=bq.vN x.aX[i];refine W3 ?_;refine S0 (fun hb h=>?_) fun hb h=>?_
   ·exact aK (aO (fun e=>h (by simp only[e]))).symm
   have k1:=h;refine W3 ?_;refine C2 (abG x.aX[i].aG y.aX[i].aG gA) ?_;refine S0 (fun hb h=>?_) fun hb h=>?_
   ·exact aK (aO (fun e=>h (by simp only[e]))).symm
   have k2:=h;refine W3 ?_;refine C2 (ih x.aX[i].fBody gA y.aX[i].fBody gA) ?_;refine S0 (fun hb h=>?_) fun hb h=>?_
   ·exact aK (aO (fun e=>h (by simp only[e]))).symm
   have k3:=h;refine dH (i+1) gA rfl rfl ⟨gA,fun j hj=> ?_⟩;by_cases e:j=i
   ·subst e;rw[am hi,am hi',bq.ext k1 k2 k3]
   ·exact p2 j gA
  ·have hi:i=x.aX.length:=gA
   have h9:x.aX=y.aX:=dl fun j=>by
    by_cases hj:j<i
    ·exact p2 j hj
    ·rw[cn gA,cn gA]
   exact aK (bK (au.ext h1 h2 h3 h4 h5 h8 h9)).symm
theorem Qk(x y:au)(h:x.sz<=4194304):aD prog 237 [x.v,y.v] (.c (.d (.b (dec (x=y))))):=EX _ x (cg _) y h
theorem JQ:∀n:Nat,∀t:ak,SizeOf.sizeOf t<n->t.sz<=4194304->∀v:List UInt8,aD prog 211 [t.v,.c (.d (.s v))] (.c (.d (.i .i64 (tQ v t))))
 |0=>fun t h=>by omega
 |n+1=>by
  have ih:=JQ n;intro t hn hsz v S;have kL:=ak.jF t;have hts:=MG hsz;have hcl:=ah7 v t;have hcn:=nC t;have he:=ah6 v t;refine zcx [.tmp 4] func211 ntmps211 ?_;refine W1 ?_
  repeat' (first|(refine S0 (fun hb h=>?_) fun hb h=>?_))
  all_goals first
   |(have hc:tQ v t=1+zk v t.fArgs:=by rw[he,if_pos (by simp only[RP,decide_eq_true_eq];exact⟨by assumption,by assumption⟩)])
   |(have hc:tQ v t=0+zk v t.fArgs:=by rw[he,if_neg (by simp only[RP,decide_eq_true_eq];exact fun x=>by have:=x.1;have:=x.2;contradiction)])
  all_goals
   refine aZ (ι:=Nat×Nat) zmx rfl [1,2,5,6] (fun y=>[.c (.d (.s v)),.c (.ptr (0,0) 0),.c (.d (.i .i64 y.2)),.c (.d (.i .i64 y.1))]) (fun _=>[.box [.d (.i .i64 t.aN),.d (.s t.fName),.d (.sl (t.fArgs.map ak.enc))]]::S)
    (fun y=>y.1<=t.fArgs.length/\tQ v t=y.2+zk v (t.fArgs.drop y.1)) (fun y=>t.fArgs.length-y.1) (0,_) rfl rfl ⟨an _,hc⟩ ?_
   rintro⟨i,c⟩ ⟨p1,p2⟩;simp only at p1 p2;refine W1 ?_;refine S0 (fun hb h=>?_) fun hb h=>?_
   ·have hi:i<t.fArgs.length:=gA
    rw[Ze hi] at p2;refine W3 ?_;refine C2 (ih t.fArgs[i] (by have:=bh (ac hi);omega) (FU hi hsz).1 v) ?_;rw[show(c:Int)+(tQ v t.fArgs[i]:Int)=((c+tQ v t.fArgs[i]:Nat):Int) by omega];exact dH (i+1,c+tQ v t.fArgs[i]) gC rfl rfl ⟨gC,gC⟩
   ·have hi:i=t.fArgs.length:=gA
    rw[hi,cy] at p2;have h0:zk v []=0:=rfl;exact int_eq gA
theorem Xa(v:List UInt8)(t:ak)(hsz:t.sz<=4194304):aD prog 176 [.c (.d (.s v)),t.v] (.c (.d (.b (occurs v t)))):=fun S=>by
 refine zcx [.tmp 4] func176 ntmps176 ?_;refine W1 ?_;refine C2 (JQ _ t (cg _) hsz v) ?_;exact aK (by unfold occurs;rw[fw];simp only[decide_eq_true_eq];omega)
def zeroE:au:=.mk 0 [] [] 0 (.mk 0 [] []) [] []
def Ot:List (List UInt8):=[[115,101,108,102]]
noncomputable def JR(vars:List (List UInt8))(e:au):Bool:=uP e&&among (lY e [] []) vars
noncomputable def nV(vars:List (List UInt8))(e:au):Bool:=je vars&&JR vars e
noncomputable def oU(vars:List (List UInt8))(b:bQ):Bool:=(validName b.bO&&pq b.fType)&&(!uq b.fType&&among (jX [] b.fType) vars)
noncomputable def rQ(vars:List (List UInt8))(bs:List bQ):Bool:=dec (bs.length<=4)&&bs.all (oU vars)
noncomputable def iZ(g:bg):Bool:=
 validName g.fName&&(dec (g.bG.length<=4)&&(mW Ot g.bG&&(iC Ot g.dh&&
  (if g.ji=true then dec (g.aG.length=g.bG.length+1)&&nV g.aG g.fBody else dec (g.aG.length=0)&&dec (g.fBody=zeroE)))))
theorem AQ{xs:List ak}{t:ak}(h:t∈xs):t.sz<=aS (xs.map ak.enc):=dM (be h)
theorem rA{xs:List bQ}{t:bQ}(h:t∈xs):t.sz<=aS (xs.map bQ.enc):=dM (be h)
theorem bg.sum(x:bg):x.fName.length+(x.bG.length+aS (x.bG.map ak.enc))+x.dh.sz+(x.aG.length+aS (x.aG.map encS))+x.fBody.sz<=x.sz:=by
 simp only[bg.sz,bg.aC,bX,bT,D.sz,ab,ak.dY,au.dY];omega
theorem bQ.sum(x:bQ):x.bO.length+x.fType.sz<=x.sz:=by
 simp only[bQ.sz,bQ.aC,bX,bT,D.sz,ab,ak.dY];omega
theorem ZB(e:au)(h:e.sz<=4194304):(lY e [] []).length<=1073741824:=by
 have h1:=yN e [] [];have h2:=au.nC e;simp at h1;omega
theorem SA(t:ak)(h:t.sz<=4194304):(jX [] t).length<=1073741824:=by
 have h1:=D8 t [];have h2:=_root_.Go.Ab.nC t;simp at h1;omega
theorem Ph(vars:List (List UInt8))(t:ak):iC vars t=(pq t&&among (jX [] t) vars):=rfl
theorem M4(vars:List (List UInt8))(e:au)(hv:vars.length<=1073741824)(hs:∀s∈vars,s.length<=4194304)(hsz:e.sz<=4194304):aD prog 102 [.c (.d (.sl (vars.map encS))),e.v] (.c (.d (.b (nV vars e)))):=fun S=>by
 refine zcx [.tmp 4] func102 ntmps102 ?_;refine W1 ?_;refine C2 (qB vars hv hs) ?_;refine S0 (fun hb h=>?_) fun hb h=>?_
 ·have h1:=h;refine C2 (Qc e hsz) ?_;refine S0 (fun hb h=>?_) fun hb h=>?_
  ·have h2:=h;refine C2 (Sy e hsz) ?_;refine C2 (Dp _ vars (ZB e hsz) hv) ?_;exact aK (by unfold nV JR;rw[h1,h2];rfl)
  ·exact aK (by unfold nV JR;rw[h];simp)
 ·exact aK (by unfold nV;rw[h];rfl)
theorem KT(vars:List (List UInt8))(e:au)(hv:vars.length<=1073741824)(hsz:e.sz<=4194304):aD prog 178 [e.v,.c (.d (.sl (vars.map encS)))] (.c (.d (.b (JR vars e)))):=fun S=>by
 have hlen:=ZB e hsz;refine zcx [.tmp 4] func178 ntmps178 ?_;refine W1 ?_;refine C2 (Sz e hsz) ?_;unfold JR;generalize lY e [] []=xs at hlen ⊢
 refine aZ (ι:=Nat) zmx rfl [1,2,5,6] (fun i=>[.c (.d (.sl (vars.map encS))),.c (.ptr (0,0) 0),.c (.d (.sl (xs.map encS))),.c (.d (.i .i64 i))]) (fun _=>[.box (e.enc.map .d)]::S)
  (fun i=>i<=xs.length/\among (xs.drop i) vars=among xs vars) (fun i=>xs.length-i) 0 rfl ?_ ⟨an _,rfl⟩ ?_
 ·exact Z1
 rintro i ⟨p1,p2⟩;refine wm ?_;refine BD (fun hb h=>?_) fun hb h=>?_
 ·have hi:i<xs.length:=gA
  rw[cb hi] at p2;have p3:among xs vars=(dec (xs[i]∈vars)&&among (xs.drop (i+1)) vars):=p2.symm;refine W3 ?_;refine C2 (tL vars xs[i] hv) ?_;refine S0 (fun hb h=>?_) fun hb h=>?_
  ·exact aK (by rw[p3,aO h];simp)
  ·exact dH (i+1) gA rfl rfl ⟨gA,by rw[p3,bK h];rfl⟩
 ·rw[cA gA] at p2;have p3:among xs vars=true:=p2.symm;refine W3 ?_;refine C2 (Qd e hsz) ?_;exact aK (by rw[p3];simp)
theorem SB(vars:List (List UInt8))(hv:vars.length<=1073741824)(rest:List Ab.Obj)(S:Store)(b:bQ)(hb:b.sz<=4194304):qA prog 165 [((0,0),0)] ((.box [.d (.sl (vars.map encS))]::rest)::S) [b.v] (.c (.d (.b (!oU vars b)))):=fun F=>by
 have hs:=bQ.sum b;refine zcx [.tmp 3] func165 ntmps165 ?_;refine W1 ?_;refine C2 (OE b gA gA) ?_;refine S0 (fun hb h=>?_) fun hb h=>?_
 ·exact aK (by unfold oU;rw[h];rfl)
 have h1:=h;refine W3 ?_;refine C2 (JI b.fType gA) ?_;refine S0 (fun hb h=>?_) fun hb h=>?_
 ·exact aK (by unfold oU;rw[h];simp)
 have h2:=h;refine W3 ?_;refine C2 (BH b.fType gA) ?_;refine C2 (Dp _ vars (SA _ gA) hv) ?_;exact aK (by unfold oU;rw[h1,h2];simp)
theorem M5(bs:List bQ)(vars:List (List UInt8))(hl:bs.length<=1073741824)(hz:∀b∈bs,b.sz<=4194304)(hv:vars.length<=1073741824):aD prog 100 [.c (.d (.sl (bs.map bQ.enc))),.c (.d (.sl (vars.map encS)))] (.c (.d (.b (rQ vars bs)))):=fun S=>by
 have ha:(bs.any fun t=> !oU vars t)= !bs.all (oU vars):=by rw[fp]
 refine zcx [.tmp 4] func100 ntmps100 ?_;refine W1 ?_;refine S0 (fun hb h=>?_) fun hb h=>?_
 ·have h1:=h;refine W3 ?_;refine bD rfl (KH 165 [((0,0),0)] _ bs (fun t=> !oU vars t) hl fun t hx=>SB vars hv [] S t (hz t hx)) ?_;refine W1 ?_;rw[ha];exact aK (by unfold rQ;rw[bK gA];simp)
 ·exact aK (by unfold rQ;rw[aO gA];rfl)
theorem Pj(bs:List bQ)(vars:List (List UInt8))(hl:bs.length<=1073741824)(hz:∀b∈bs,b.sz<=4194304)(hv:vars.length<=1073741824):aD prog 175 [.c (.d (.sl (bs.map bQ.enc))),.c (.d (.sl (vars.map encS)))] (.c (.d (.b (rQ vars bs)))):=fun S=>by
 refine zcx [.tmp 4] func175 ntmps175 ?_;refine W1 ?_
 refine aZ (ι:=Nat) zmx rfl [0,1,5] (fun i=>[.c (.d (.sl (bs.map bQ.enc))),.c (.d (.sl (vars.map encS))),.c (.d (.i .i64 i))]) (fun _=>[]::S)
  (fun i=>i<=bs.length/\(bs.drop i).all (oU vars)=bs.all (oU vars)) (fun i=>bs.length-i) 0 rfl rfl ⟨an _,rfl⟩ ?_
 rintro i ⟨p1,p2⟩;refine W1 ?_;refine S0 (fun hb h=>?_) fun hb h=>?_
 ·have hi:i<bs.length:=gA
  have hb:=hz _ (ac hi);have hs:=bQ.sum bs[i];rw[cb hi,dv] at p2;have no:oU vars bs[i]=false->V.c (.d (.b false))=V.c (.d (.b (rQ vars bs))):=fun h=>aK (by unfold rQ;rw[<-p2,h];simp);refine W3 ?_;refine C2 (OD bs[i] gA gA) ?_;refine S0 (fun hb h=>?_) fun hb h=>?_
  ·exact no (by unfold oU;rw[h];rfl)
  have h1:=h;refine W3 ?_;refine C2 (wO bs[i].fType vars gA hv) ?_;refine S0 (fun hb h=>?_) fun hb h=>?_
  ·exact no (by unfold oU;rw[Ph] at h;rw[ai] at h1;rw[h1.2,cd] at h;rw[h];simp)
  have h2:=h;refine W3 ?_;refine C2 (JH bs[i].fType gA) ?_;refine S0 (fun hb h=>?_) fun hb h=>?_
  ·exact no (by unfold oU;rw[h];simp)
  have h3:=h;rw[Ph,ai] at h2;exact dH (i+1) gA rfl rfl ⟨gA,by rw[<-p2];unfold oU;rw[h1,h2.2,h3];rfl⟩
 ·rw[cA gA] at p2;exact aK (by unfold rQ;rw[<-p2,kK];simp only[eN,cD];exact iJ ⟨fun h=>gA,fun h=>gA⟩)
theorem Xb(e:au)(hsz:e.sz<=4194304):aD prog 156 [e.v] (.c (.d (.b (dec (e=zeroE))))):=fun S=>by
 refine zcx [.tmp 2] func156 ntmps156 ?_;refine W1 ?_;exact C3 (Qj e zeroE hsz)
theorem afw(e:au)(hsz:e.sz<=4194304):aD prog 207 [e.v] (.c (.d (.b (dec (e=zeroE))))):=fun S=>by
 refine zcx [.tmp 2] func207 ntmps207 ?_;refine W1 ?_;exact C3 (Qk e zeroE hsz)
theorem Uv(g:bg)(hsz:g.sz<=4194304):aD prog 94 [g.v] (.c (.d (.b (iZ g)))):=fun S=>by
 have hs:=bg.sum g
 have hT:∀t∈g.bG,t.sz<=4194304:=fun t ht=>by have:=AQ ht;omega
 have hV:∀s∈g.aG,s.length<=4194304:=fun s h=>by have:=uO h;omega
 refine zcx [.tmp 2] func94 ntmps94 ?_;refine W1 ?_;refine C2 (iU g.fName gA) ?_;refine S0 (fun hb h=>?_) fun hb h=>?_
 ·exact aK (by unfold iZ;rw[h];rfl)
 have h1:=h;refine S0 (fun hb h=>?_) fun hb h=>?_
 ·exact aK (by unfold iZ;rw[aO (show ¬g.bG.length<=4 by omega)];simp)
 have h2:=h;refine W3 ?_;refine C1 (BI g.bG Ot gA hT gE) ?_;refine S0 (fun hb h=>?_) fun hb h=>?_
 ·exact aK (by unfold iZ;rw[h];simp)
 have h3:=h;refine W3 ?_;refine C1 (w9 g.dh Ot gA gE) ?_;refine S0 (fun hb h=>?_) fun hb h=>?_
 ·exact aK (by unfold iZ;rw[h];simp)
 have h4:=h;refine S0 (fun hb h=>?_) fun hb h=>?_
 ·have h5:=h;refine S0 (fun hb h=>?_) fun hb h=>?_
  ·have h6:=h;refine C2 (M4 g.aG g.fBody gA hV gA) ?_;exact aK (by unfold iZ;rw[h1,h3,h4,if_pos h5,bK (show g.bG.length<=4 by omega),bK (show g.aG.length=g.bG.length+1 by omega)];rfl)
  ·exact aK (by unfold iZ;rw[if_pos h5,aO (show ¬g.aG.length=g.bG.length+1 by omega)];simp)
 ·have h5:¬g.ji=true:=by rw[h];simp
  refine S0 (fun hb h=>?_) fun hb h=>?_
  ·refine C2 (Xb g.fBody gA) ?_;exact aK (by unfold iZ;rw[h1,h3,h4,if_neg h5,bK (show g.bG.length<=4 by omega),bK (show g.aG.length=0 by omega)];rfl)
  ·exact aK (by unfold iZ;rw[if_neg h5,aO (show ¬g.aG.length=0 by omega)];simp)
theorem aix(g:bg)(hsz:g.sz<=4194304):aD prog 169 [g.v] (.c (.d (.b (iZ g)))):=fun S=>by
 have hs:=bg.sum g
 have hT:∀t∈g.bG,t.sz<=4194304:=fun t ht=>by have:=AQ ht;omega
 have hV:∀s∈g.aG,s.length<=4194304:=fun s h=>by have:=uO h;omega
 refine zcx [.tmp 2] func169 ntmps169 ?_;refine W1 ?_;refine C2 (iV g.fName gA) ?_;refine S0 (fun hb h=>?_) fun hb h=>?_
 ·exact aK (by unfold iZ;rw[h];rfl)
 have h1:=h;refine S0 (fun hb h=>?_) fun hb h=>?_
 ·exact aK (by unfold iZ;rw[aO (show ¬g.bG.length<=4 by omega)];simp)
 have h2:=h;refine W3 ?_;refine C1 (Vy g.bG Ot gA hT gE) ?_;refine S0 (fun hb h=>?_) fun hb h=>?_
 ·exact aK (by unfold iZ;rw[h];simp)
 have h3:=h;refine W3 ?_;refine C1 (wO g.dh Ot gA gE) ?_;refine S0 (fun hb h=>?_) fun hb h=>?_
 ·exact aK (by unfold iZ;rw[h];simp)
 have h4:=h;refine S0 (fun hb h=>?_) fun hb h=>?_
 ·have h5:¬g.ji=true:=by rw[h];simp
  refine S0 (fun hb h=>?_) fun hb h=>?_
  ·refine C2 (afw g.fBody gA) ?_;exact aK (by unfold iZ;rw[h1,h3,h4,if_neg h5,bK (show g.bG.length<=4 by omega),bK (show g.aG.length=0 by omega)];rfl)
  ·exact aK (by unfold iZ;rw[if_neg h5,aO (show ¬g.aG.length=0 by omega)];simp)
 ·have h5:=h;refine C2 (nD g.aG 5 gA hV) ?_;refine S0 (fun hb h=>?_) fun hb h=>?_
  ·have h6:=h;rw[ai] at h6;refine S0 (fun hb h=>?_) fun hb h=>?_
   ·refine C2 (KT g.aG g.fBody gA gA) ?_;exact aK (by unfold iZ nV;rw[h1,h3,h4,if_pos h5,h6.2,bK (show g.bG.length<=4 by omega),bK (show g.aG.length=g.bG.length+1 by omega)];rfl)
   ·exact aK (by unfold iZ;rw[if_pos h5,aO (show ¬g.aG.length=g.bG.length+1 by omega)];simp)
  ·refine aK ?_;by_cases h7:g.aG.length=g.bG.length+1
   ·rw[bK gA,cd] at h
    unfold iZ nV;rw[if_pos h5,h];simp
   ·unfold iZ;rw[if_pos h5,aO h7];simp
def vU(f:aV):List (List UInt8):=f.bG.map dz.fName
def SC(f:aV):List ak:=f.bG.map dz.fType
noncomputable def j3(f:aV):Bool:=
 validName f.fName&&(dec (f.aG.length<=3)&&(je f.aG&&(rQ f.aG f.dJ&&(dec (f.bG.length<=5)&&(mW f.aG (SC f)&&(iC f.aG f.dh&&nV (vU f) f.fBody))))))
theorem aV.sum(x:aV):x.fName.length+(x.aG.length+aS (x.aG.map encS))+(x.dJ.length+aS (x.dJ.map bQ.enc))+(x.bG.length+aS (x.bG.map dz.enc))+x.dh.sz+x.fBody.sz<=x.sz:=by
 simp only[aV.sz,aV.aC,bX,bT,D.sz,ab,ak.dY,au.dY];omega
theorem dz.sum(x:dz):x.fName.length+x.fType.sz<=x.sz:=by
 simp only[dz.sz,dz.aC,bX,bT,D.sz,ab,ak.dY];omega
theorem Ou{xs:List dz}{t:dz}(h:t∈xs):t.sz<=aS (xs.map dz.enc):=dM (be h)
theorem Xc(ps:List dz)(hl:ps.length<=1073741823):aD prog 104 [.c (.d (.sl (ps.map dz.enc)))] (.c (.d (.sl ((ps.map dz.fName).map encS)))):=fun S=>by
 refine zcx [.tmp 2] func104 ntmps104 ?_;refine W1 ?_;refine W3 ?_;refine nu 3 1 [] rfl gL ?_
 refine aZ (ι:=Nat×List (List UInt8)) zmx rfl [3,7,8,9] (fun y=>[.c (.bJ (0,0) (y.2.map encS)),.c (.d (.sl (ps.map dz.enc))),.c (.d (.i .i64 ps.length)),.c (.d (.i .i64 y.1))]) (fun y=>[.tok 1 (y.2.map encS)]::S)
  (fun y=>y.1<=ps.length/\y.2=(ps.map dz.fName).take y.1) (fun y=>ps.length-y.1) (0,[]) rfl rfl ⟨an _,rfl⟩ ?_
 rintro⟨i,names⟩ ⟨p1,p2⟩;simp only at p1 p2
 have pl:names.length<=ps.length:=by rw[p2];simp;omega
 refine W1 ?_;refine S0 (fun hb h=>?_) fun hb h=>?_
 ·have hi:i<ps.length:=gA
  refine W3 ?_;rw[show List.map encS names++[[D.s ps[i].fName]]=List.map encS (names++[ps[i].fName]) by simp[encS]];exact bR 1 gE (i+1,names++[ps[i].fName]) gC rfl rfl rfl rfl ⟨gC,by simp only;rw[p2,jk (by simpa using hi)];simp⟩
 ·rw[aE gR] at p2;rw[p2]
theorem Xd(ps:List dz)(hl:ps.length<=1073741823):aD prog 103 [.c (.d (.sl (ps.map dz.enc)))] (.c (.d (.sl ((ps.map dz.fType).map ak.enc)))):=fun S=>by
 refine zcx [.tmp 2] func103 ntmps103 ?_;refine W1 ?_;refine W3 ?_;refine nu 3 3 [] rfl gL ?_
 refine aZ (ι:=Nat×List ak) zmx rfl [3,7,8,9] (fun y=>[.c (.bJ (0,0) (y.2.map ak.enc)),.c (.d (.sl (ps.map dz.enc))),.c (.d (.i .i64 ps.length)),.c (.d (.i .i64 y.1))]) (fun y=>[.tok 3 (y.2.map ak.enc)]::S)
  (fun y=>y.1<=ps.length/\y.2=(ps.map dz.fType).take y.1) (fun y=>ps.length-y.1) (0,[]) rfl rfl ⟨an _,rfl⟩ ?_
 rintro⟨i,names⟩ ⟨p1,p2⟩;simp only at p1 p2
 have pl:names.length<=ps.length:=by rw[p2];simp;omega
 refine W1 ?_;refine S0 (fun hb h=>?_) fun hb h=>?_
 ·have hi:i<ps.length:=gA
  refine W3 ?_;rw[show List.map ak.enc names++[[D.i .i64 ps[i].fType.aN,D.s ps[i].fType.fName,D.sl (ps[i].fType.fArgs.map ak.enc)]]=List.map ak.enc (names++[ps[i].fType]) by simp[ak.aC]];exact bR 1 gE (i+1,names++[ps[i].fType]) gC rfl rfl rfl rfl ⟨gC,by simp only;rw[p2,jk (by simpa using hi)];simp⟩
 ·rw[aE gR] at p2;rw[p2]
theorem JU(f:aV)(hsz:f.sz<=4194304):aD prog 37 [f.v] (.c (.d (.b (j3 f)))):=fun S=>by
 have hs:=aV.sum f
 have hV:∀s∈f.aG,s.length<=4194304:=fun s h=>by have:=uO h;omega
 have hW:∀b∈f.dJ,b.sz<=4194304:=fun b h=>by have:=rA h;omega
 have hP:∀p∈f.bG,p.sz<=4194304:=fun m h=>by have:=Ou h;omega
 have hpt:∀t∈f.bG.map dz.fType,t.sz<=4194304:=fun t h=>by
  obtain⟨p,hp,e⟩:=cr.1 h;have:=hP p hp;have:=dz.sum p;rw[<-e];omega
 have hpn:∀s∈f.bG.map dz.fName,s.length<=4194304:=fun t h=>by
  obtain⟨p,hp,e⟩:=cr.1 h;have:=hP p hp;have:=dz.sum p;rw[<-e];omega
 have hpl:(f.bG.map dz.fName).length=f.bG.length:=gL
 have hpl':(f.bG.map dz.fType).length=f.bG.length:=gL
 refine zcx [.tmp 2] func37 ntmps37 ?_;refine W1 ?_
 repeat' (first
  |refine S0 (fun hb h=>?_) fun hb h=>?_
  |((with_reducible show fH _ _ 30 _ _ _ _);refine bn (iU f.fName gA) ?_;refine W1 ?_)
  |((with_reducible show fH _ _ 31 _ _ _ _);refine bn (qB f.aG gA hV) ?_;refine W1 ?_)
  |((with_reducible show fH _ _ 100 _ _ _ _);refine bn (M5 f.dJ f.aG gA hW gA) ?_;refine W1 ?_)
  |((with_reducible show fH _ _ 103 _ _ _ _);refine bn (Xd f.bG gA) ?_;refine W1 ?_)
  |((with_reducible show fH _ _ 95 _ _ _ _);refine bn (BI (f.bG.map dz.fType) f.aG gA hpt gA) ?_;refine W1 ?_)
  |((with_reducible show fH _ _ 96 _ _ _ _);refine bn (w9 f.dh f.aG gA gA) ?_;refine W1 ?_)
  |((with_reducible show fH _ _ 104 _ _ _ _);refine bn (Xc f.bG gA) ?_;refine W1 ?_)
  |((with_reducible show fH _ _ 102 _ _ _ _);refine bn (M4 (f.bG.map dz.fName) f.fBody gA hpn gA) ?_;refine W1 ?_)
  |(refine aK ?_;unfold j3 SC vU;grind [gD,jw,bK,aO]))
theorem CG(f:aV)(hsz:f.sz<=4194304):aD prog 113 [f.v] (.c (.d (.b (j3 f)))):=fun S=>by
 have hs:=aV.sum f
 have hV:∀s∈f.aG,s.length<=4194304:=fun s h=>by have:=uO h;omega
 have hW:∀b∈f.dJ,b.sz<=4194304:=fun b h=>by have:=rA h;omega
 have hP:∀p∈f.bG,p.sz<=4194304:=fun m h=>by have:=Ou h;omega
 have hpn:∀s∈vU f,s.length<=4194304:=fun t h=>by
  obtain⟨p,hp,e⟩:=cr.1 h;have:=hP p hp;have:=dz.sum p;rw[<-e];omega
 have hnl:(vU f).length=f.bG.length:=by simp[vU]
 have bad:∀i,∀hi:i<f.bG.length,iC f.aG f.bG[i].fType=false->V.c (.d (.b false))=V.c (.d (.b (j3 f))):=fun i hi h=>aK (by
  have:mW f.aG (SC f)=false:=eX.2 fun hx=>by
   have:=az.1 hx f.bG[i].fType (be (ac hi));rw[h] at this;cases this
  unfold j3
  rw[this];simp)
 refine zcx [.tmp 2] func113 ntmps113 ?_;refine W1 ?_;refine W3 ?_;refine nu 3 1 [] rfl gL ?_
 refine aZ (ι:=Nat×List (List UInt8)) zmx rfl [1,3,4] (fun y=>[.c (.ptr (0,0) 0),.c (.bJ (0,1) (y.2.map encS)),.c (.d (.i .i64 y.1))]) (fun y=>[.box (f.enc.map .d),.tok 1 (y.2.map encS)]::S)
  (fun y=>y.1<=f.bG.length/\y.2=(vU f).take y.1/\∀j,∀hj:j<f.bG.length,j<y.1->iC f.aG f.bG[j].fType=true) (fun y=>f.bG.length-y.1) (0,[]) rfl ?_ ⟨an _,rfl,fun j _ h=>by simp only at h;omega⟩ ?_
 ·exact Z1
 rintro⟨i,names⟩ ⟨p1,p2,p3⟩;simp only at p1 p2 p3
 have pl:names.length<=f.bG.length:=by rw[p2];simp[vU];omega
 refine W1 ?_;refine S0 (fun hb h=>?_) fun hb h=>?_
 ·have hi:i<f.bG.length:=gA
  have hp:=hP _ (ac hi);have hps:=dz.sum f.bG[i];refine W3 ?_;refine C2 (wO f.bG[i].fType f.aG gA gA) ?_;refine S0 (fun hb h=>?_) fun hb h=>?_
  ·exact bad i hi h
  have k3:=h;refine W3 ?_;rw[show List.map encS names++[[D.s f.bG[i].fName]]=List.map encS (names++[f.bG[i].fName]) by simp[encS]]
  exact dH (i+1,names++[f.bG[i].fName]) gC rfl rfl ⟨gC,by simp only;rw[p2,jk (by simpa [vU] using hi)];simp[vU],fun j hj hji=>by
   simp only at hji;by_cases e:j=i
   ·subst e;exact k3
   ·exact p3 j hj gA⟩
 have hi:i=f.bG.length:=gA
 have hn:names=vU f:=by rw[p2,aE (by simp[vU];omega)]
 have hall:mW f.aG (SC f)=true:=az.2 fun c hc=>by
  obtain⟨p,hp,e⟩:=cr.1 hc;obtain⟨j,hj,e'⟩:=ci hp;rw[<-e,<-e'];exact p3 j hj gA
 clear p2 p3 bad;subst hn
 repeat' (first
  |refine S0 (fun hb h=>?_) fun hb h=>?_
  |((with_reducible show fH _ _ 69 _ _ _ _);refine bn (iV f.fName gA) ?_;refine W1 ?_)
  |((with_reducible show fH _ _ 70 _ _ _ _);refine bn (nD f.aG 3 gA hV) ?_;refine W1 ?_)
  |((with_reducible show fH _ _ 175 _ _ _ _);refine bn (Pj f.dJ f.aG gA hW gA) ?_;refine W1 ?_)
  |((with_reducible show fH _ _ 70 _ _ _ _);refine bn (nD (vU f) 5 gA hpn) ?_;refine W1 ?_)
  |((with_reducible show fH _ _ 173 _ _ _ _);refine bn (wO f.dh f.aG gA gA) ?_;refine W1 ?_)
  |((with_reducible show fH _ _ 178 _ _ _ _);refine bn (KT (vU f) f.fBody gA gA) ?_;refine W1 ?_)
  |(refine aK ?_;unfold j3 nV;grind [gD,jw,bK,aO]))
def GX(n:Nat)(s:St):St:=match s.st with
 |(.seed _::own)::Ω=>⟨s.tm,(.seed n::own)::Ω⟩
 |_=>s
theorem JV{N:Nat}(n:Nat)(s:St):iK N s (GX n s):=by
 obtain⟨tm,st⟩:=s;unfold GX;split
 ·rename_i h;simp only at h;subst h;exact Gm n
 ·exact iK.refl _ _
theorem abR{n m:Nat}{tm:List (Nat×V)}{own:List Obj}{Ω:Store}:GX n ⟨tm,(.seed m::own)::Ω⟩=⟨tm,(.seed n::own)::Ω⟩:=rfl
def anF(j p n:Nat)(s:St):St:=GX n (Xx j p s)
theorem Jd{N:Nat}(j p n:Nat)(s:St):iK N s (anF j p n s):=(Pb j p s).trans (JV n _)
attribute [go_sem] anF abR
def yO:List UInt8:=[102,110]
def rC(b:bQ):ah:=bL [bN b.bO,dI b.fType]
def sI(b:dz):ah:=bL [bN b.fName,dI b.fType]
def xu(f:aV):ah:=bL [bN yO,bN f.fName,bL (aR f.aG),bL (f.dJ.map rC),bL (f.bG.map sI),dI f.dh,fG f.fBody]
noncomputable def ED(f:aV):ah:=sD (j3 f) (xu f)
theorem apb{f:aV}(h:f.sz<=1048576):(ED f).sz<=1048576:=co (FV _ _) gE
theorem ari(b:bQ):(rC b).sz<=14+16*b.sz:=by
 have:=D9 b.fType;have:=bQ.sum b;rw[rC,jH];simp[dx,jY];omega
theorem alV(b:dz):(sI b).sz<=14+16*b.sz:=by
 have:=D9 b.fType;have:=dz.sum b;rw[sI,jH];simp[dx,jY];omega
theorem Uw:∀l:List bQ,dx (l.map rC)<=14*l.length+16*aS (l.map bQ.enc)
 |[]=>by simp[dx]
 |c::l=>by
  have h1:=ari c;have h2:=Uw l;rw[af,dx,af,aS,aa];simp only[bQ.sz] at h1;omega
theorem VO:∀l:List dz,dx (l.map sI)<=14*l.length+16*aS (l.map dz.enc)
 |[]=>by simp[dx]
 |c::l=>by
  have h1:=alV c;have h2:=VO l;rw[af,dx,af,aS,aa];simp only[dz.sz] at h1;omega
theorem ZC{f:aV}(hok:jl f.fBody=true):(xu f).sz<=60+32*f.sz:=by
 have h1:=Uw f.dJ;have h2:=VO f.bG;have h3:=D9 f.dh;have h4:=MV f.fBody hok;have h5:=aV.sum f;rw[dN] at h5;rw[xu,jH];simp[dx,jY,jH,jP,sU,yO];omega
theorem EY{vars:List (List UInt8)}{bs:List bQ}(h:rQ vars bs=true):∀b∈bs,formed b.fType=true:=fun b hb=>by
 unfold rQ at h;rw[ai] at h;have h2:=az.1 h.2 b hb;unfold oU at h2;simp only[ai] at h2;exact yI h2.1.2
theorem xX{vars:List (List UInt8)}{t:ak}(h:iC vars t=true):formed t=true:=by
 unfold iC at h;rw[ai] at h;exact yI h.1
theorem Iq{vars:List (List UInt8)}{e:au}(h:nV vars e=true):jl e=true:=by
 unfold nV JR at h;simp only[ai] at h;exact Zy h.2.1
theorem xw{f:aV}(h:j3 f=true):(∀b∈f.dJ,formed b.fType=true)/\(∀q∈f.bG,formed q.fType=true)/\formed f.dh=true/\jl f.fBody=true:=by
 unfold j3 at h;simp only[ai] at h;obtain⟨_,_,_,h1,_,h2,h3,h4⟩:=h;exact⟨EY h1,fun q hq=>zM.1 (Ad h2) _ (be hq),xX h3,Iq h4⟩
theorem xA(xs:List bQ)(n:Nat)(hfo:∀b∈xs,formed b.fType=true)(hlen:xs.length<=4194304)(hsz:∀b∈xs,b.sz<=4194304):aD prog 150 [.c (.d (.sl (xs.map bQ.enc)))] (.agg [.d (.s []),.d (.ol n (lx (xs.map rC) (n+1)))]):=fun S=>by
 obtain⟨L,hL⟩:∃L:Nat->Nat,L=fun i=>n+1+iY ((xs.map rC).take i):=⟨_,rfl⟩;obtain⟨T,hT⟩:∃T:Nat->List (List D),T=fun i=>lx ((xs.map rC).take i) (n+1):=⟨_,rfl⟩
 have hT0:T 0=[]:=by rw[hT];rfl
 have fZ:∀i,(T i).length<=i:=fun i=>by
  rw[hT];simp only[gM];exact bi _ _
 have hTs:∀i (hi:i<xs.length),T i++[[.s [],.ol (L i) [[.s xs[i].bO,.ol (L i+1) []],[.s (dI xs[i].fType).aI,.ol (L i+1+1) (lx (dI xs[i].fType).aj (L i+1+1+1))]]]]=T (i+1):=fun i hi=>by
  have:=Cz (l:=xs.map rC) (i:=i) hJ (n+1);rw[bp,rC,eF,dD,jZ,jZ,nU,yL,jM,kI] at this;rw[hT,hL];exact this
 have hTe:T xs.length=lx (xs.map rC) (n+1):=by
  rw[hT];simp only
  rw[aE gL]
 clear hT hL;refine sF (n) 1 (rs:=[.cell 2 26]) zmx func150 ntmps150 rfl rfl rfl rfl rfl ?_;refine W1 ?_;refine W3 ?_;refine lV n 3 2 [] (.inl rfl) gL ?_;refine oW (L 0) ?_
 refine aZ (ι:=Nat) zmx rfl [2,3,7,8,9] (fun i=>[.c (.ptr (0,2) 0),.c (.bJ (0,3) (T i)),.c (.d (.sl (xs.map bQ.enc))),.c (.d (.i .i64 xs.length)),.c (.d (.i .i64 i))])
  (fun i=>[.seed (L i),.seed 1,.box [.d (.s []),.bH []],.eP n 2 (T i)]::S)
  (fun i=>i<=xs.length) (fun i=>xs.length-i) 0 (by rw[hT0];rfl) (by rw[hT0];rfl) (an _) ?_
 intro i hi;have hl:=fZ i;refine W1 ?_;refine S0 (fun hb h=>?_) fun hb h=>?_
 ·have hi':i<xs.length:=gA
  have hm:=ac hi';have hcz:=hsz _ hm;have hce:=bQ.sum xs[i];have hs:=hTs i hi';refine W3 ?_;refine C1 (dL _ (L i+1)) ?_;refine C1 (mI xs[i].fType (L i+1+1) (hfo _ hm) gA) ?_;refine W3 ?_;refine C1 (oF _ _) ?_;refine W3 ?_;rw[hs];refine lH (L (i+1)) 3 gE (i+1) gA rfl rfl ?_ rfl gA;simp[jh,iy,V.refs,C.refs,kR]
 ·have hi':i=xs.length:=gA
  refine bD rfl (kP 0 3 _ _) ?_;refine W1 ?_;rw[hi',hTe]
theorem EF(f:aV)(n:Nat)(hv:j3 f=true)(hsz:f.sz<=1048576):aD prog 79 [f.v] (.agg [.d (.s []),.d (.ol n (lx (xu f).aj (n+1)))]):=fun S=>by
 have hdz:=aV.sum f;rw[dN] at hdz;obtain⟨hf1,hf2,hf3,Ir⟩:=xw hv;obtain⟨p,hp⟩:∃p:Nat,p=n+1+1+1+d9 (bL (aR f.aG))+d9 (bL (f.dJ.map rC)):=⟨_,rfl⟩;obtain⟨L,hL⟩:∃L:Nat->Nat,L=fun i=>p+1+iY ((f.bG.map sI).take i):=⟨_,rfl⟩;obtain⟨T,hT⟩:∃T:Nat->List (List D),T=fun i=>lx ((f.bG.map sI).take i) (p+1):=⟨_,rfl⟩
 have hT0:T 0=[]:=by rw[hT];rfl
 have fZ:∀i,(T i).length<=i:=fun i=>by
  rw[hT];simp only[gM];exact bi _ _
 have hTs:∀i (hi:i<f.bG.length),T i++[[.s [],.ol (L i) [[.s f.bG[i].fName,.ol (L i+1) []],[.s (dI f.bG[i].fType).aI,.ol (L i+1+1) (lx (dI f.bG[i].fType).aj (L i+1+1+1))]]]]=T (i+1):=fun i hi=>by
  have:=Cz (l:=f.bG.map sI) (i:=i) hJ (p+1);rw[bp,sI,eF,dD,jZ,jZ,nU,yL,jM,kI] at this;rw[hT,hL];exact this
 have hTe:T f.bG.length=lx (f.bG.map sI) (p+1):=by
  rw[hT];simp only
  rw[aE gL]
 clear hT hL;refine sF (p) 1 (rs:=[.cell 2 26]) zmx func79 ntmps79 rfl rfl rfl rfl rfl ?_;refine W1 ?_;refine W3 ?_;refine lV p 3 2 [] (.inl rfl) gL ?_;refine oW (L 0) ?_;refine yA (Jd 4 p n) ?_
 refine aZ (ι:=Nat) zmx rfl [1,2,3,8,9,10] (fun i=>[.c (.ptr (0,2) 0),.c (.ptr (0,3) 0),.c (.bJ (0,4) (T i)),.c (.d (.sl (f.bG.map dz.enc))),.c (.d (.i .i64 f.bG.length)),.c (.d (.i .i64 i))])
  (fun i=>[.seed (L i),.seed 1,.box [.d (.s f.fName),.d (.sl (f.aG.map encS)),.d (.sl (f.dJ.map bQ.enc)),.d (.sl (f.bG.map dz.enc)),.d (.i .i64 f.dh.aN),.d (.s f.dh.fName),.d (.sl (f.dh.fArgs.map ak.enc)),.d (.i .i64 f.fBody.aN),.d (.s f.fBody.bO),.d (.s f.fBody.fName),.d (.i .i64 f.fBody.fN),.d (.i .i64 f.fBody.fType.aN),.d (.s f.fBody.fType.fName),.d (.sl (f.fBody.fType.fArgs.map ak.enc)),.d (.sl (f.fBody.fArgs.map au.enc)),.d (.sl (f.fBody.aX.map bq.enc))],.box [.d (.s []),.bH []],.eP p 2 (T i)]::S)
  (fun i=>i<=f.bG.length) (fun i=>f.bG.length-i) 0 (by rw[hT0];rfl) (by rw[hT0];rfl) (an _) ?_
 intro i hi;have hl:=fZ i;refine W1 ?_;refine S0 (fun hb h=>?_) fun hb h=>?_
 ·have hi':i<f.bG.length:=gA
  have hm:=ac hi';have hcz:=Ou hm;have hce:=dz.sum f.bG[i];have hs:=hTs i hi';refine W3 ?_;refine C1 (dL _ (L i+1)) ?_;refine C1 (mI f.bG[i].fType (L i+1+1) (hf2 _ hm) gA) ?_;refine W3 ?_;refine C1 (oF _ _) ?_;refine W3 ?_;rw[hs];refine lH (L (i+1)) 4 gE (i+1) gA rfl rfl ?_ rfl gA;simp[jh,iy,V.refs,C.refs,kR]
 ·have hi':i=f.bG.length:=gA
  subst hi';rw[hTe];refine C1 (dL _ (n+1)) ?_;refine C1 (dL _ (n+1+1)) ?_;refine C1 (eT f.aG gA (n+1+1+1)) ?_;refine C1 (xA f.dJ (n+1+1+1+d9 (bL (aR f.aG))) hf1 gA (fun b hb=>by have:=rA hb;omega)) ?_;refine C1 (lS _) ?_;refine C1 (mI f.dh (p+d9 (bL (f.bG.map sI))) hf3 gA) ?_;refine C1 (BM f.fBody (p+d9 (bL (f.bG.map sI))+d9 (dI f.dh)) Ir gA) ?_;refine W3 ?_;refine C1 (oF _ _) ?_;rw[xu,dD];simp only[jZ,nU,jM,kM,kN,eF,dD,kI,<-hp,yO]
theorem yP(xs:List bQ)(hlen:xs.length<=4194304)(hsz:∀b∈xs,b.sz<=4194304):aD prog 112 [.c (.d (.sl (xs.map bQ.enc)))] (.agg [.d (.s []),.d (.sl ((xs.map rC).map ah.enc))]):=fun S=>by
 obtain⟨T,hT⟩:∃T:Nat->List (List D),T=fun i=>((xs.map rC).take i).map ah.enc:=⟨_,rfl⟩
 have hT0:T 0=[]:=by rw[hT];rfl
 have fZ:∀i,(T i).length<=i:=fun i=>by
  rw[hT];simp only[ab];exact bi _ _
 have hTs:∀i (hi:i<xs.length),T i++[[.s [],.sl [[.s xs[i].bO,.sl []],[.s (dI xs[i].fType).aI,.sl ((dI xs[i].fType).aj.map ah.enc)]]]]=T (i+1):=fun i hi=>by
  have:=jI (base:=[]) (l:=xs.map rC) (i:=i) hJ;rw[bp,rC,eF,dD,af,af,aw,fI,ah.aC (dI xs[i].fType)] at this;rw[hT];exact this
 have hTe:T xs.length=(xs.map rC).map ah.enc:=by
  rw[hT];simp only
  rw[aE gL]
 clear hT;refine zcx [.cell 2 26] func112 ntmps112 ?_;refine W1 ?_;refine uI 1 1 2 [] [.d (.s []),.bH []] rfl rfl gL ?_
 refine aZ (ι:=Nat) zmx rfl [0,2,3,4] (fun i=>[.c (.d (.sl (xs.map bQ.enc))),.c (.ptr (0,0) 0),.c (.ptr (0,1) 0),.c (.d (.i .i64 i))])
  (fun i=>[.box [.d (.s []),.bH []],.box [.d (.s []),.bJ (0,2) (T i)],.tok 2 (T i)]::S)
  (fun i=>i<=xs.length) (fun i=>xs.length-i) 0 rfl (by rw[hT0];rfl) (an _) ?_
 intro i hi;have hl:=fZ i;refine W1 ?_;refine S0 (fun hb h=>?_) fun hb h=>?_
 ·have hi':i<xs.length:=gA
  have hm:=ac hi';have hcz:=hsz _ hm;have hce:=bQ.sum xs[i];have hs:=hTs i hi';refine W3 ?_;refine C1 (bW _) ?_;refine W3 ?_;refine C1 (mX xs[i].fType gA) ?_;refine W3 ?_;refine C1 (oq _ gL gL) ?_;refine W3 ?_;rw[hs];exact dH (i+1) gA rfl rfl gA
 ·have hi':i=xs.length:=gA
  subst hi';rw[hTe]
theorem M6(f:aV)(hsz:f.sz<=1048576):aD prog 44 [f.v] (ED f).v:=by
 unfold ED
 cases hv:j3 f with
 |false=>
  rw[sD];refine aD.less (fun S=> ?_) (CF [] []);refine zcx [.cell 2 26] func44 ntmps44 ?_;refine W1 ?_;refine bn (CG f gA) ?_;exact Rt
 |true=>
  intro S;have hdz:=aV.sum f;rw[dN] at hdz;obtain⟨hf1,hf2,hf3,Ir⟩:=xw hv;have hz:=ZC Ir;obtain⟨T,hT⟩:∃T:Nat->List (List D),T=fun i=>((f.bG.map sI).take i).map ah.enc:=⟨_,rfl⟩
  have hT0:T 0=[]:=by rw[hT];rfl
  have fZ:∀i,(T i).length<=i:=fun i=>by
   rw[hT];simp only[ab];exact bi _ _
  have hTs:∀i (hi:i<f.bG.length),T i++[[.s [],.sl [[.s f.bG[i].fName,.sl []],[.s (dI f.bG[i].fType).aI,.sl ((dI f.bG[i].fType).aj.map ah.enc)]]]]=T (i+1):=fun i hi=>by
   have:=jI (base:=[]) (l:=f.bG.map sI) (i:=i) hJ;rw[bp,sI,eF,dD,af,af,aw,fI,ah.aC (dI f.bG[i].fType)] at this;rw[hT];exact this
  have hTe:T f.bG.length=(f.bG.map sI).map ah.enc:=by
   rw[hT];simp only
   rw[aE gL]
  clear hT;refine zcx [.cell 2 26] func44 ntmps44 ?_;refine W1 ?_;refine bn (CG f gA) ?_;refine W1v ?_;refine uI 2 1 2 [] [.d (.s []),.bH []] rfl rfl gL ?_
  refine aZ (ι:=Nat) zmx rfl [1,2,3,4] (fun i=>[.c (.ptr (0,0) 0),.c (.ptr (0,1) 0),.c (.ptr (0,2) 0),.c (.d (.i .i64 i))])
   (fun i=>[.box [.d (.s f.fName),.d (.sl (f.aG.map encS)),.d (.sl (f.dJ.map bQ.enc)),.d (.sl (f.bG.map dz.enc)),.d (.i .i64 f.dh.aN),.d (.s f.dh.fName),.d (.sl (f.dh.fArgs.map ak.enc)),.d (.i .i64 f.fBody.aN),.d (.s f.fBody.bO),.d (.s f.fBody.fName),.d (.i .i64 f.fBody.fN),.d (.i .i64 f.fBody.fType.aN),.d (.s f.fBody.fType.fName),.d (.sl (f.fBody.fType.fArgs.map ak.enc)),.d (.sl (f.fBody.fArgs.map au.enc)),.d (.sl (f.fBody.aX.map bq.enc))],.box [.d (.s []),.bH []],.box [.d (.s []),.bJ (0,3) (T i)],.tok 2 (T i)]::S)
   (fun i=>i<=f.bG.length) (fun i=>f.bG.length-i) 0 rfl (by rw[hT0];rfl) (an _) ?_
  intro i hi;have hl:=fZ i;refine W1 ?_;refine S0 (fun hb h=>?_) fun hb h=>?_
  ·have hi':i<f.bG.length:=gA
   have hm:=ac hi';have hcz:=Ou hm;have hce:=dz.sum f.bG[i];have hs:=hTs i hi';refine W3 ?_;refine C1 (bW _) ?_;refine W3 ?_;refine C1 (mX f.bG[i].fType gA) ?_;refine W3 ?_;refine C1 (oq _ gL gL) ?_;refine W3 ?_;rw[hs];exact dH (i+1) gA rfl rfl gA
  ·have hi':i=f.bG.length:=gA
   subst hi';rw[hTe];refine C1 (bW _) ?_;refine C1 (bW _) ?_;refine C1 (eG f.aG gA) ?_;refine C1 (yP f.dJ gA (fun b hb=>by have:=rA hb;omega)) ?_;refine C1 (mX f.dh gA) ?_;refine C1 (wz f.fBody Ir gA) ?_;refine W3 ?_;refine C1 (oq _ gL gL) ?_;refine W3 ?_;have hI:=sW true (xu f) gA
   have hx:(xu f).v=V.agg [.d (.s []),.d (.sl [[.s [102,110],.sl []],[.s f.fName,.sl []],[.s [],.sl ((aR f.aG).map ah.enc)],[.s [],.sl ((f.dJ.map rC).map ah.enc)],[.s [],.sl ((f.bG.map sI).map ah.enc)],[.s (dI f.dh).aI,.sl ((dI f.dh).aj.map ah.enc)],[.s (fG f.fBody).aI,.sl ((fG f.fBody).aj.map ah.enc)]])]:=by
    rw[xu];show V.agg [.d (.s []),.d (.sl (List.map ah.enc _))]=_;simp only[dD,af,aw,fI,jV,ah.aC (dI f.dh),ah.aC (fG f.fBody),yO]
   rw[hx] at hI;refine bn hI ?_;exact Z1
end Go.Ab