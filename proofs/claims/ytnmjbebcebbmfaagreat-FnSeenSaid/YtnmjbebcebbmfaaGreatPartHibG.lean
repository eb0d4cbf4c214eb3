/-
  SEVERAL TEXTS IN ONE (merged by program): contracts and models, each with its own heading.
-/
import Derived.Test.YtnmjbebcebbmfaaGreatPartHibF
import Derived.Lib.ItoaNum
import Derived.Shelf.Strconv.Itoa3
set_option linter.unusedSimpArgs false
set_option linter.unusedVariables false
set_option maxRecDepth 4000
namespace Go.Ab
section
variable {P:Program} {N:Nat} {S:Store} {s:St} {tm:List (Nat×V)}
def Cc(E:Md)(R:Array Oper)(K:St->Prop)(s:St):Prop:=Ju E R s.tm=true/\K s
@[congr] theorem ab6 {E:Md} {R:Array Oper} {K:St->Prop} {s s':St} (h2:s=s'):Cc E R K s=Cc E R K s':=by rw[h2]
def vO(P:Program)(N:Nat):Code->(Exit->St->Prop)->St->Prop
 | .seq x y,Q,s=>vO P N x (gZ (vO P N y Q) Q) s
 | .region _ R true,Q,s=>oM P (uV R N) R R.toList s (Cc (uV R N) R (Q .normal))
 | .region id R false,Q,s=>CW P N (.region id R false) Q s
 | .cond c x y,Q,s=>CW P N (.cond c x y) Q s
 | .block id c,Q,s=>CW P N (.block id c) Q s
 | .exit id,Q,s=>CW P N (.exit id) Q s
 | .ret,Q,s=>CW P N .ret Q s
 | .skip,Q,s=>CW P N .skip Q s
 | .loop c,Q,s=>CW P N (.loop c) Q s
 |_,_,_=>False
theorem ZK{x y:Code}{Q:Exit->St->Prop}:vO P N (.seq x y) Q s=vO P N x (gZ (vO P N y Q) Q) s:=by rw[vO]
theorem Xb{id:Nat}{l:List Oper}{Q:Exit->St->Prop}:vO P N (.region id ⟨l⟩ true) Q s=oM P (uV ⟨l⟩ N) ⟨l⟩ l s (Cc (uV ⟨l⟩ N) ⟨l⟩ (Q .normal)):=by rw[vO]
theorem QN{id:Nat}{l:List Oper}{Q:Exit->St->Prop}:vO P N (.region id ⟨l⟩ false) Q s=CW P N (.region id ⟨l⟩ false) Q s:=by rw[vO]
theorem Xc{c:Operand}{x y:Code}{Q:Exit->St->Prop}:vO P N (.cond c x y) Q s=CW P N (.cond c x y) Q s:=by rw[vO]
theorem ZL{Q:Exit->St->Prop}:vO P N .ret Q s=CW P N .ret Q s:=by rw[vO]
theorem Xd{Q:Exit->St->Prop}:vO P N .skip Q s=CW P N .skip Q s:=by rw[vO]
end
attribute [go_sem ↓] ZK Xb QN Xc ZL Xd
section
variable {P:Program} {N:Nat} {S:Store} {s:St} {tm:List (Nat×V)}
def mW(P:Program)(N:Nat):Code->(Exit->St->Prop)->St->Prop
 | .seq x y,Q,s=>mW P N x (gZ (mW P N y Q) Q) s
 | .region _ R true,Q,s=>oM P (uV R N) R R.toList s (Cc (uV R N) R (Q .normal))
 | .region id R false,Q,s=>CW P N (.region id R false) Q s
 | .cond c x y,Q,s=>vW (ev s.tm c) (mW P N x Q) (mW P N y Q) s
 | .block id c,Q,s=>mW P N c (su id Q) s
 | .exit id,Q,s=>CW P N (.exit id) Q s
 | .ret,Q,s=>CW P N .ret Q s
 | .skip,Q,s=>CW P N .skip Q s
 | .loop c,Q,s=>CW P N (.loop c) Q s
 |_,_,_=>False
theorem ZM{x y:Code}{Q:Exit->St->Prop}:mW P N (.seq x y) Q s=mW P N x (gZ (mW P N y Q) Q) s:=by rw[mW]
theorem Xe{id:Nat}{l:List Oper}{Q:Exit->St->Prop}:mW P N (.region id ⟨l⟩ true) Q s=oM P (uV ⟨l⟩ N) ⟨l⟩ l s (Cc (uV ⟨l⟩ N) ⟨l⟩ (Q .normal)):=by rw[mW]
theorem QO{id:Nat}{l:List Oper}{Q:Exit->St->Prop}:mW P N (.region id ⟨l⟩ false) Q s=CW P N (.region id ⟨l⟩ false) Q s:=by rw[mW]
theorem Xf{c:Operand}{x y:Code}{Q:Exit->St->Prop}:mW P N (.cond c x y) Q s=vW (ev s.tm c) (mW P N x Q) (mW P N y Q) s:=by rw[mW]
theorem Uh{id:Nat}{c:Code}{Q:Exit->St->Prop}:mW P N (.block id c) Q s=mW P N c (su id Q) s:=by rw[mW]
theorem Xg{id:Nat}{Q:Exit->St->Prop}:mW P N (.exit id) Q s=CW P N (.exit id) Q s:=by rw[mW]
theorem ZN{Q:Exit->St->Prop}:mW P N .ret Q s=CW P N .ret Q s:=by rw[mW]
theorem Xh{Q:Exit->St->Prop}:mW P N .skip Q s=CW P N .skip Q s:=by rw[mW]
theorem Xi{c:Code}{Q:Exit->St->Prop}:mW P N (.loop c) Q s=CW P N (.loop c) Q s:=by rw[mW]
end
attribute [go_sem ↓] ZM Xe QO Xf Uh Xg ZN Xh Xi
def oU(s:List UInt8):bC:=.mk s []
def Ce(l:List bC):bC:=.mk [] l
def jN(l:List (List UInt8)):List bC:=l.map oU
def abe:List UInt8:=[100,121,110]
def Ui:List UInt8:=[97,115,115,111,99]
mutual
def Uj:ah->bC
 | .mk k n zs=>if k=1 then oU ([39]++n) else if k=4 then Ce [oU abe,oU n] else if k=2/\zs.length=0 then oU n else
   Ce ((if k=3 then [oU Ui] else [])++[oU n]++DX zs)
def DX:List ah->List bC
 |[]=>[]
 |t::ts=>Uj t::DX ts
end
theorem DY:∀l,DX l=l.map Uj
 |[]=>rfl
 |t::ts=>by rw[DX,af,DY ts]
theorem JB(x:bC):x.sz=x.qK.length+(x.pY.length+aH (x.pY.map bC.enc)):=by
 simp only[bC.sz,bC.aB,aY,D.sz,al];omega
def kJ:List bC->Nat
 |[]=>0
 |x::xs=>x.sz+kJ xs
theorem zD:∀l,aH (l.map bC.enc)=kJ l
 |[]=>rfl
 |x::xs=>by rw[af,aH,kJ,zD xs];rfl
theorem nR:∀a b,kJ (a++b)=kJ a+kJ b
 |[],b=>by simp[kJ]
 |x::a,b=>by rw[az,kJ,kJ,nR a b];omega
theorem nA(s:List UInt8):(oU s).sz=s.length:=by rw[JB];simp[oU,bC.qK,bC.pY,aH]
theorem Cg(l:List bC):(Ce l).sz=l.length+kJ l:=by rw[JB,zD];simp[Ce,bC.qK,bC.pY]
theorem IC:∀l:List (List UInt8),kJ (jN l)=(l.map List.length).sum
 |[]=>rfl
 |s::l=>by rw[jN,af,kJ,nA,<-jN,IC l,af,eg]
theorem Uk(l:List (List UInt8)):(jN l).length=l.length:=by simp[jN]
theorem yu:∀l:List (List UInt8),aH (l.map encS)=(l.map List.length).sum
 |[]=>rfl
 |s::l=>by rw[af,aH,yu l,af,eg];simp[encS,aY,D.sz]
def zZ:List ah->Nat
 |[]=>0
 |x::xs=>x.sz+zZ xs
theorem DZ:∀l,aH (l.map ah.enc)=zZ l
 |[]=>rfl
 |x::xs=>by rw[af,aH,zZ,DZ xs];rfl
theorem Xj(x:ah):x.sz=x.fName.length+(x.fArgs.length+zZ x.fArgs):=by
 rw[<-DZ];simp only[ah.sz,ah.aB,aY,D.sz,al];omega
mutual
theorem Ul:∀x:ah,(Uj x).sz<=12+16*x.sz
 | .mk k n zs=>by
   have h:=Oq zs;rw[Xj];simp only[ah.fName,ah.fArgs];rw[Uj];split
   ·rw[nA];simp;omega
   ·split
    ·rw[Cg];simp[kJ,nA,abe];omega
    ·split
     ·rw[nA];omega
     ·rw[Cg,nR,nR,ab,ab,DY,al,<-DY];split<;>simp[kJ,nA,Ui]<;>omega
theorem Oq:∀xs:List ah,kJ (DX xs)<=12*xs.length+16*zZ xs
 |[]=>by simp[DX,kJ]
 |x::xs=>by
  have h1:=Ul x;have h2:=Oq xs;rw[DX,kJ,zZ,aa];omega
end
def Xk(b:UInt8):Bool:=decide (97<=b.toNat/\b.toNat<=122)||decide (48<=b.toNat/\b.toNat<=57)||decide (b∈([39,45,43,42,60,61,46]:List UInt8))
def validAtom(s:List UInt8):Bool:=s.all Xk&&decide (1<=s.length/\s.length<=12)
mutual
def QS:bC->Bool
 | .mk a l=>if a=[] then FR l else validAtom a&&decide (l.length=0)
def FR:List bC->Bool
 |[]=>true
 |x::xs=>QS x&&FR xs
end
mutual
def LG:bC->Nat
 | .mk a l=>if a=[] then yR l+1 else 0
def yR:List bC->Nat
 |[]=>0
 |x::xs=>max (LG x) (yR xs)
end
mutual
def zF:bC->Nat
 | .mk _ l=>sM l+1
def sM:List bC->Nat
 |[]=>0
 |x::xs=>zF x+sM xs
end
mutual
theorem Nt:∀x:bC,LG x<=zF x
 | .mk a l=>by
   have:=Bo l;rw[LG,zF];split<;>omega
theorem Bo:∀l:List bC,yR l<=sM l
 |[]=>by simp[yR]
 |x::xs=>by
  have h1:=Nt x;have h2:=Bo xs;rw[yR,sM];omega
end
mutual
theorem Xl:∀x:bC,zF x<=x.sz+1
 | .mk a l=>by
   have:=IE l;rw[JB,zF,zD];simp only[bC.qK,bC.pY];omega
theorem IE:∀l:List bC,sM l<=l.length+kJ l
 |[]=>by simp[sM]
 |x::xs=>by
  have h1:=Xl x;have h2:=IE xs;rw[sM,kJ,aa];omega
end
mutual
theorem Xm:∀x:bC,QS x=true->x.sz+1<=13*zF x
 | .mk a l=>fun h=>by
   rw[QS] at h;rw[JB,zF,zD];simp only[bC.qK,bC.pY];split at h
   ·rename_i ha;have:=IG l h;subst ha;simp only[ae];omega
   ·rw[aq,decide_eq_true_eq] at h;have h1:=h.1;unfold validAtom at h1;rw[aq,decide_eq_true_eq] at h1;have:l=[]:=co h.2;subst this;simp[kJ];omega
theorem IG:∀l:List bC,FR l=true->l.length+kJ l<=13*sM l
 |[],_=>by simp[kJ]
 |x::xs,h=>by
  rw[FR,aq] at h;have h1:=Xm x h.1;have h2:=IG xs h.2;rw[kJ,sM,aa];omega
end
mutual
def vE:D->Nat
 | .sl es=>Ch es+1
 | .ol _ _=>0
 | .b _=>0
 | .i _ _=>0
 | .s _=>0
 | .o _=>0
def uj:List D->Nat
 |[]=>0
 |d::ds=>vE d+uj ds
def Ch:List (List D)->Nat
 |[]=>0
 |r::rs=>uj r+Ch rs
end
mutual
def nC:D->Nat->D
 | .sl es,n=>.ol n (iK es (n+1))
 | .ol m es,_=>.ol m es
 | .b x,_=>.b x
 | .i k x,_=>.i k x
 | .s l,_=>.s l
 | .o v,_=>.o v
def jE:List D->Nat->List D
 |[],_=>[]
 |d::ds,n=>nC d n::jE ds (n+vE d)
def iK:List (List D)->Nat->List (List D)
 |[],_=>[]
 |r::rs,n=>jE r n::iK rs (n+uj r)
end
mutual
def lV:D->Bool
 | .sl es=>gY es
 | .ol _ _=>false
 | .b _=>true
 | .i _ _=>true
 | .s _=>true
 | .o _=>false
def gU:List D->Bool
 |[]=>true
 |d::ds=>lV d&&gU ds
def gY:List (List D)->Bool
 |[]=>true
 |r::rs=>gU r&&gY rs
end
theorem jv:∀r n,(jE r n).length=r.length
 |[],_=>rfl
 |d::ds,n=>by rw[jE,aa,jv ds,aa]
theorem w9:∀rs n,(iK rs n).length=rs.length
 |[],_=>rfl
 |r::rs,n=>by rw[iK,aa,w9 rs,aa]
theorem fQ:∀a b,gU (a++b)=(gU a&&gU b)
 |[],b=>by simp[gU]
 |d::ds,b=>by rw[az,gU,gU,fQ ds b,ey]
theorem jc{α:Type}{f:α->List D}:∀{xs:List α},(∀x∈xs,gU (f x)=true)->gY (xs.map f)=true
 |[],_=>rfl
 |x::xs,h=>by
  rw[af,gY,h x (by simp),jc fun y hy=>h y (by simp[hy])];rfl
section
variable {P:Program} {w:World} {σ σ':Nat->Nat} {S:Store} {β:Hs} {N:Nat} {s:St}
mutual
theorem aeP:∀(d:D)(n:Nat)(v:Value),dw w σ (nC d n) v->dw w σ d v
 | .sl es,n,v,h=>by
   rw[nC] at h;have hl:=w9 es (n+1);have hrec:=YA es (n+1);generalize iK es (n+1)=q at h hl hrec
   cases h with
   |wF n a cap=>
    have:es=[]:=co (by simpa using hl.symm);subst this;exact .nil a cap
   |ol n b off cap aM q vals c t hcap hlen hb hσ hfit hc hv hx=>
    obtain⟨r1,r2⟩:=hrec vals hv;rw[hl] at hcap hfit hc ⊢;refine .sl b off cap aM es vals c t (0,0) hcap (fun e he=> ?_) hb (by omega) hc r2;obtain⟨e',h1,h2⟩:=r1 e he;rw[<-h2];exact hlen e' h1
 | .ol m es,n,v,h=>h
 | .b x,n,v,h=>h
 | .i k x,n,v,h=>h
 | .s l,n,v,h=>h
 | .o u,n,v,h=>h
theorem abf:∀(r:List D)(n:Nat)(vals:Nat->Value),(∀j d,(jE r n)[j]? =some d->dw w σ d (vals j))->∀(j:Nat) d,r[j]? =some d->dw w σ d (vals j)
 |[],n,vals,h,j,d,hd=>by simp at hd
 |a::r,n,vals,h,j,d,hd=>by
  cases j with
  |zero=>
   simp at hd;subst hd;exact aeP a n _ (h 0 _ rfl)
  |succ j=>exact abf r (n+vE a) (fun i=>vals (i+1)) (fun i d hi=>h (i+1) d (by rw[jE];exact hi)) j d hd
theorem YA:∀(rs:List (List D))(n:Nat)(vals:Nat->Value),(∀j d,(iK rs n).flatten[j]? =some d->dw w σ d (vals j))->
 (∀e∈rs,∃e'∈iK rs n,e'.length=e.length)/\∀(j:Nat) d,rs.flatten[j]? =some d->dw w σ d (vals j)
 |[],n,vals,h=>⟨fun e he=>(by cases he),fun j d hd=>(by simp at hd)⟩
 |r::rs,n,vals,h=>by
  rw[iK,ci] at h;have h1:=abf r n vals fun j d hd=>h j d (by rw[an (ai.1 hd).1];exact hd);obtain⟨h2,h3⟩:=YA rs (n+uj r) (fun i=>vals (r.length+i)) fun j d hd=>h (r.length+j) d (by rw[am (by rw[jv];omega),jv,cI];exact hd);refine⟨fun e he=> ?_,fun j d hd=> ?_⟩
  ·rcases du.1 he with e1|he
   ·subst e1;exact⟨_,by rw[iK];exact List.mem_cons_self ..,jv _ _⟩
   ·obtain⟨e',q1,q2⟩:=h2 e he;exact⟨e',by rw[iK];exact List.mem_cons_of_mem _ q1,q2⟩
  ·rw[ci] at hd;by_cases hj:j<r.length
   ·rw[an hj] at hd;exact h1 j d hd
   ·rw[am (by omega)] at hd;have:=h3 (j-r.length) d hd
    rwa [show r.length+(j-r.length)=j by omega] at this
end
inductive pO:List V->List V->Prop
 |nil:pO [] []
 |cons {x y:V} {xs ys:List V}:Less x y->pO xs ys->pO (x::xs) (y::ys)
theorem pO.length:∀{xs ys:List V},pO xs ys->xs.length=ys.length
 |_,_,.nil=>rfl
 |_,_,.cons _ h=>by rw[aa,aa,pO.length h]
theorem pO.at:∀{xs ys:List V},pO xs ys->∀(j:Nat)(x y:V),xs[j]? =some x->ys[j]? =some y->Less x y
 |_,_,.nil,j,x,y,h,_=>by simp at h
 |_,_,.cons a h,0,x,y,h1,h2=>by simp at h1 h2;subst h1;subst h2;exact a
 |_,_,.cons a h,j+1,x,y,h1,h2=>pO.at h j x y (by simpa using h1) (by simpa using h2)
theorem aT.args{f:FuncId}{args args':List V}{r:V}(h:aT P f args' r)(hl:pO args args'):aT P f args r:=fun S=>(h S).weaken hl.length fun j x y hx hy w σ β v hr=>hl.at j x y hx hy w σ S β v hr
def Xn(row:Bool)(j n:Nat)(es:List (List D))(tm:List (Nat×V)):List (Nat×V):=tm.map fun x=>(x.1,x.2.gN (C.lab row j n es))
theorem Um{row:Bool}{j n:Nat}{es:List (List D)}{tm:List (Nat×V)}{t:Nat}:look (Xn row j n es tm) t=(look tm t).gN (C.lab row j n es):=tX (f:=V.gN (C.lab row j n es)) rfl tm t
def Xo(j n:Nat)(tm:List (Nat×V))(own:List Obj)(Ω:Store):Option Obj->St
 |some (.cZ _ es)=>⟨Xn true j n es tm,(own.map (Obj.gN (C.lab true j n es))).set j .dead::Ω⟩
 |some (.gX m _ es)=>⟨Xn false j m es tm,(own.map (Obj.gN (C.lab false j m es))).set j .dead::Ω⟩
 |_=>⟨tm,own::Ω⟩
def QT(j n:Nat)(s:St):St:=
 match s.st with
 |own::Ω=>Xo j n s.tm own Ω (own[j]?)
 |[]=>s
def JC:Nat->Nat->St->St
 |0,_,s=>s
 |k+1,n,s=>JC k n (QT k n s)
def FT(n:Nat)(s:St):St:=
 match s.st with
 |own::_=>JC own.length n s
 |[]=>s
theorem Xp{j n:Nat}{tm:List (Nat×V)}{own:List Obj}{Ω:Store}:QT j n ⟨tm,own::Ω⟩=Xo j n tm own Ω (own[j]?):=rfl
theorem Un{n:Nat}{tm:List (Nat×V)}{own:List Obj}{Ω:Store}:FT n ⟨tm,own::Ω⟩=JC own.length n ⟨tm,own::Ω⟩:=rfl
def abg(P:Program)(n:Nat)(rs:List ResultVar)(post:V->Store->Prop)(e:Exit)(s:St):Prop:=Vf P rs post e (FT n s)
theorem Xq{n:Nat}{rs:List ResultVar}{post:V->Store->Prop}:abg P n rs post .ret s=K4 P rs post (FT n s):=rfl
theorem Nu{n:Nat}{rs:List ResultVar}{post:V->Store->Prop}:abg P n rs post .normal s=K4 P rs post (FT n s):=rfl
theorem Xr{row:Bool}{j n l i:Nat}{es es':List (List D)}:C.lab row j n es (.bM (1+l,i) es')=.bM (1+l,i) es':=by rw[dT];rfl
theorem Xt{row:Bool}{j n i:Nat}{es es':List (List D)}:C.lab row j n es (.bM (0,i) es')=if i=j/\row=false/\es'.length=es.length then .d (.ol n es) else .bM (0,i) es':=rfl
theorem Xu{row:Bool}{j n l i:Nat}{es:List (List D)}:C.lab row j n es (.eP (1+l,i))=.eP (1+l,i):=by rw[dT];rfl
theorem Xv{row:Bool}{j n i:Nat}{es:List (List D)}:C.lab row j n es (.eP (0,i))=if i=j/\row=true then .d (.ol n es) else .eP (0,i):=rfl
theorem ac7{row:Bool}{j n:Nat}{es:List (List D)}{x:D}:C.lab row j n es (.d x)=.d x:=rfl
theorem ZO{row:Bool}{j n:Nat}{es:List (List D)}:C.lab row j n es .any=.any:=rfl
theorem ZP{row:Bool}{j n:Nat}{es es':List (List D)}:C.lab row j n es (.bF es')=.bF es':=rfl
theorem ZQ{row:Bool}{j n m:Nat}{es es':List (List D)}:C.lab row j n es (.kF m es')=.kF m es':=rfl
theorem ZR{row:Bool}{j n off:Nat}{es:List (List D)}{k:Key}:C.lab row j n es (.ptr k off)=.ptr k off:=rfl
theorem abh{row:Bool}{j n f:Nat}{es:List (List D)}{caps:List (Key×Nat)}:C.lab row j n es (.fn f caps)=.fn f caps:=rfl
theorem Xw{row:Bool}{j n:Nat}{es:List (List D)}{cs:List D}:C.lab row j n es (.iY cs)=.iY cs:=rfl
end
attribute [go_sem ↓] Xq Nu Un
attribute [go_sem] JC Xp Xo Um V.gN Obj.gN Xr Xt Xu Xv ac7 ZO ZP ZQ ZR abh Xw
section
variable {P:Program} {N:Nat} {S:Store} {s:St} {tm:List (Nat×V)}
end
section
variable {P:Program} {N:Nat} {S:Store}
end
section
variable {P:Program} {w w':World} {σ σ':Nat->Nat} {S:Store} {β:Hs}
def nD(w:World)(σ:Nat->Nat)(lo hi b:Nat):Prop:=∃c t fz m,w.heap[b]? =some (.cells c t fz)/\σ b=c.size+1+m/\lo<=m/\m<hi
theorem nD.mono{lo hi lo' hi' b:Nat}(h:nD w σ lo hi b)(h1:lo'<=lo)(h2:hi<=hi'):nD w σ lo' hi' b:=by
 obtain⟨c,t,fz,m,a1,a2,a3,a4⟩:=h;exact⟨c,t,fz,m,a1,a2,by omega,by omega⟩
theorem nD.apart{lo hi lo' hi' b:Nat}(h:nD w σ lo hi b)(h':nD w σ lo' hi' b)(ho:hi<=lo'):False:=by
 obtain⟨c,t,fz,m,a1,a2,a3,a4⟩:=h;obtain⟨c',t',Kc,m',b1,b2,b3,b4⟩:=h';rw[a1] at b1;cases b1;omega
abbrev Kids:=List (List (Option Value))
def jJ(rows:Kids)(i o:Nat):Option Value:=((rows[i]?).bind fun r=>r[o]?).bind id
def YB(rows:Kids):Array Value:=(rows.map fun r=>Value.tuple (r.map fun u=>u.getD (.bool false)).toArray).toArray
def mkT(v:Value)(rows:Kids):Value:=.tuple #[v,.tuple (YB rows)]
theorem Ot{v:Value}{rows:Kids}:hdr (mkT v rows)=some v:=rfl
def IsT(v:Value):Prop:=∃a,v=.tuple a
theorem G5{v:Value}{rows:Kids}(h:∀i o u,jJ rows i o=some u->IsT u)(i o:Nat):kid (mkT v rows) i o=jJ rows i o:=by
 have h':=h i o
 unfold kid mkT YB jJ at *
 simp only[cA,df,List.getElem?_cons_zero,aV]
 cases hr:rows[i]? with
 |none=>rfl
 |some r=>
  rw[hr] at h';simp only[cL,cA,aV]
  cases hu:r[o]? with
  |none=>simp[hu]
  |some u=>
   simp only[dp,hu,id] at h'
   cases u with
   |none=>simp[hu]
   |some u=>
    obtain⟨a,rfl⟩:=h' u rfl;simp[hu]
def JD(w:World)(d:D)(v:Value)(u:Option Value):Prop:=
 match d with
 | .sl es=>∃T,u=some T/\IsT T/\hdr T=some v/\l9 w es T
 |d=>u=none/\SD d v
theorem LH{z:Nat}:∀{rs:List (List D)}{n:Nat},(∀r∈iK rs n,r.length=z)->∀r∈rs,r.length=z
 |[],_,_,r,h=>by cases h
 |a::rs,n,ha,r,h=>by
  rw[iK] at ha;rcases du.1 h with e|h
  ·subst e;rw[<-jv r n];exact ha _ (by simp)
  ·exact LH (n:=n+uj a) (fun r hr=>ha r (by simp[hr])) r h
structure aeQ(w:World)(σ:Nat->Nat)(r:List D)(n m:Nat)(vals:Nat->Value)(us:List (Option Value)):Prop where
 len:us.length=r.length
 cell:∀(j:Nat)(d:D),r[j]? =some d->∃u,us[j]? =some u/\JD w d (vals j) u
 own:∀(j:Nat)(u:Value),us[j]? =some (some u)->∀b,jm u b->nD w σ n m b
 apart:∀(j j':Nat)(u u':Value)(b:Nat),j≠j'->us[j]? =some (some u)->us[j']? =some (some u')->jm u b->jm u' b->False
structure ac8(w:World)(σ:Nat->Nat)(z:Nat)(rs:List (List D))(n m:Nat)(vals:Nat->Value)(U:Kids):Prop where
 cell:∀(i o:Nat)(d:D),cellAt rs i o=some d->∃u,((U[i]?).bind fun r=>r[o]?)=some u/\JD w d (vals (i*z+o)) u
 kid:∀(i o:Nat)(u:Value),jJ U i o=some u->∃es,cellAt rs i o=some (.sl es)
 own:∀(i o:Nat)(u:Value),jJ U i o=some u->∀b,jm u b->nD w σ n m b
 apart:∀(i o i' o':Nat)(u u':Value)(b:Nat),(i,o)≠(i',o')->jJ U i o=some u->jJ U i' o'=some u'->jm u b->jm u' b->False
theorem sN{us:List (Option Value)}{U:Kids}{o:Nat}{u:Value}:jJ (us::U) 0 o=some u<->us[o]? =some (some u):=by
 show(us[o]?).bind id=some u<->_
 cases us[o]? with
 |none=>simp
 |some x=>simp
mutual
theorem ac9:∀(d:D)(n:Nat)(v:Value),lV d=true->dw w σ (nC d n) v->∃u,JD w d v u/\∀T,u=some T->∀b,jm T b->nD w σ n (n+vE d) b
 | .sl es,n,v,hp,h=>by
   rw[nC] at h;have hl:=w9 es (n+1);have hrec:=Uo es (n+1);have hrow:=fun z=>LH (z:=z) (rs:=es) (n:=n+1);generalize iK es (n+1)=q at h hl hrec hrow
   have hempty:∀a cap,es=[]->v=.slice a 0 cap->∃u,JD w (.sl es) v u/\∀T,u=some T->∀b,jm T b->nD w σ n (n+vE (.sl es)) b:=by
    rintro a cap rfl rfl
    have hk:∀i o,kid (mkT (.slice a 0 cap) []) i o=none:=fun i o=>by rw[G5 (fun i o u h=>by simp[jJ] at h)];simp[jJ]
    refine⟨some (mkT (.slice a 0 cap) []),⟨_,rfl,⟨_,rfl⟩,rfl,.nil a cap _ rfl hk⟩,fun T hT b hb=> ?_⟩;cases hT;exfalso
    cases hb with
    |here h1 h2=>rw[Ot] at h1;cases h1;omega
    |kid h1 h2=>rw[hk] at h1;cases h1
   cases h with
   |wF n a cap=>exact hempty a cap (co (by simpa using hl.symm)) rfl
   |ol n b off cap z q vals c t hcap hlen hb hσ hfit hc hv hx=>
    by_cases hne:es=[]
    ·subst hne
     have hq0:q.length=0:=by simpa using hl
     exact hempty _ _ rfl (by rw[hq0])
    rw[hl] at hcap hfit hc ⊢;obtain⟨U,hU⟩:=hrec z vals (hrow z hlen) (by simpa [lV] using hp) hv;have hrl:=hrow z hlen
    have hT:∀i o u,jJ U i o=some u->IsT u:=fun i o u hu=>by
     obtain⟨es',he⟩:=hU.kid i o u hu;obtain⟨u',h1,h2⟩:=hU.cell i o _ he;obtain⟨T,h3,h4,_⟩:=h2;unfold jJ at hu;rw[h1,h3] at hu;cases hu;exact h4
    have oL:∀i o,kid (mkT (.slice (some ⟨b,off,none⟩) es.length cap) U) i o=jJ U i o:=G5 hT
    have hcell:∀i o es',cellAt es i o=some (.sl es')->∃T,jJ U i o=some T/\hdr T=some (vals (i*z+o))/\l9 w es' T:=fun i o es' he=>by
     obtain⟨u',h1,T,h3,h4,h5,h6⟩:=hU.cell i o _ he;refine⟨T,?_,h5,h6⟩;unfold jJ;rw[h1,h3];rfl
    have hself:∀x,nD w σ (n+1) (n+1+Ch es) x->x≠b:=by
     rintro x ⟨c',t',Kc,m,a1,a2,a3,a4⟩ rfl;rw[hb] at a1;cases a1;omega
    refine⟨some (mkT (.slice (some ⟨b,off,none⟩) es.length cap) U),⟨_,rfl,⟨_,rfl⟩,rfl,?_⟩,fun T hT' x hx=> ?_⟩
    ·refine .mk b off cap z es _ c t (fun i o=>vals (i*z+o)) (fun i o=>(jJ U i o).getD undef) rfl hne hcap hrl hb hfit (fun i o d hd=> ?_) (fun i o d hd=> ?_) (fun i o es' he=> ?_) (fun i o es' he=> ?_) (fun i o u hu hb'=> ?_) (fun i o i' o' u u' x YC hu hu' h1 h2=> ?_) (fun i o u hu=> ?_)
     ·obtain⟨hi,ho⟩:=tN hd;rw[hrl _ (ac hi)] at ho;refine hc _ ?_;have:(i+1)*z<=es.length*z:=ce _ hi;rw[ck,Nat.one_mul] at this;omega
     ·obtain⟨u,h1,h2⟩:=hU.cell i o d hd
      cases d<;>first|exact .inl ⟨_,rfl⟩|exact .inr h2.2
     ·obtain⟨T,h1,h2,h3⟩:=hcell i o es' he;rw[oL,h1];exact⟨rfl,h2⟩
     ·obtain⟨T,h1,h2,h3⟩:=hcell i o es' he;rw[h1];exact h3
     ·rw[oL] at hu;exact hself b (hU.own i o u hu b hb') rfl
     ·rw[oL] at hu hu';exact hU.apart i o i' o' u u' x YC hu hu' h1 h2
     ·rw[oL] at hu;exact hU.kid i o u hu
    ·cases hT'
     cases hx with
     |here h1 h2=>rw[Ot] at h1;cases h1;exact⟨c,t,(0,0),n,hb,hσ,aw _,by rw[vE];omega⟩
     |kid h1 h2=>
      rw[oL] at h1;exact(hU.own _ _ _ h1 _ h2).mono (by omega) (by rw[vE];omega)
 | .ol m es,n,v,hp,h=>by simp[lV] at hp
 | .b x,n,v,hp,h=>by rw[nC] at h;cases h;exact⟨none,⟨rfl,rfl⟩,fun T h=>by cases h⟩
 | .i k x,n,v,hp,h=>by rw[nC] at h;cases h;exact⟨none,⟨rfl,rfl⟩,fun T h=>by cases h⟩
 | .s l,n,v,hp,h=>by rw[nC] at h;cases h;exact⟨none,⟨rfl,rfl⟩,fun T h=>by cases h⟩
 | .o u,n,v,hp,h=>by simp[lV] at hp
theorem QU:∀(r:List D)(n:Nat)(vals:Nat->Value),gU r=true->(∀(j:Nat)(d:D),(jE r n)[j]? =some d->dw w σ d (vals j))->∃us,aeQ w σ r n (n+uj r) vals us
 |[],n,vals,hp,h=>⟨[],rfl,fun j d h=>by simp at h,fun j u h=>by simp at h,fun j j' u u' b _ h=>by simp at h⟩
 |d::r,n,vals,hp,h=>by
  rw[gU,aq] at hp;rw[jE] at h;obtain⟨u,h1,h2⟩:=ac9 d n (vals 0) hp.1 (h 0 _ rfl);obtain⟨us,tJ⟩:=QU r (n+vE d) (fun j=>vals (j+1)) hp.2 fun j x hx=>h (j+1) x hx;rw[uj];have hown:∀(j:Nat)(T:Value),us[j]? =some (some T)->∀b,jm T b->nD w σ (n+vE d) (n+vE d+uj r) b:=tJ.own;refine⟨u::us,by rw[aa,aa,tJ.len],fun j x hx=> ?_,fun j T hT b hb=> ?_,fun j j' T T' b hj hT hT' hb hb'=> ?_⟩
  ·cases j with
   |zero=>simp at hx;subst hx;exact⟨u,rfl,h1⟩
   |succ j=>exact tJ.cell j x hx
  ·cases j with
   |zero=>simp at hT;exact(h2 T hT b hb).mono (aw _) (by omega)
   |succ j=>exact(hown j T hT b hb).mono (by omega) (by omega)
  ·cases j with
   |zero=>
    cases j' with
    |zero=>exact hj rfl
    |succ j'=>simp at hT;exact(h2 T hT b hb).apart (hown j' T' hT' b hb') (aw _)
   |succ j=>
    cases j' with
    |zero=>simp at hT';exact(h2 T' hT' b hb').apart (hown j T hT b hb) (aw _)
    |succ j'=>exact tJ.apart j j' T T' b (by omega) hT hT' hb hb'
theorem Uo:∀(rs:List (List D))(n z:Nat)(vals:Nat->Value),(∀r∈rs,r.length=z)->gY rs=true->(∀(j:Nat)(d:D),(iK rs n).flatten[j]? =some d->dw w σ d (vals j))->∃U,ac8 w σ z rs n (n+Ch rs) vals U
 |[],n,z,vals,hz,hp,h=>⟨[],fun i o d h=>by simp[cellAt] at h,fun i o u h=>by simp[jJ] at h,fun i o u h=>by simp[jJ] at h,fun i o i' o' u u' b _ h=>by simp[jJ] at h⟩
 |r::rs,n,z,vals,hz,hp,h=>by
  rw[gY,aq] at hp;rw[iK,ci] at h;have hrz:r.length=z:=hz r (by simp);obtain⟨us,tJ⟩:=QU r n vals hp.1 fun j d hd=>h j d (by rw[an (ai.1 hd).1];exact hd)
  obtain⟨U,hU⟩:=Uo rs (n+uj r) z (fun j=>vals (z+j)) (fun r hr=>hz r (by simp[hr])) hp.2 fun j d hd=>h (z+j) d (by
   rw[am (by rw[jv];omega),jv,hrz,cI];exact hd)
  rw[Ch];have hown:∀(i o:Nat)(T:Value),jJ U i o=some T->∀b,jm T b->nD w σ (n+uj r) (n+uj r+Ch rs) b:=hU.own;refine⟨us::U,fun i o d hd=> ?_,fun i o u hu=> ?_,fun i o T hT b hb=> ?_,fun i o i' o' T T' b YC hT hT' hb hb'=> ?_⟩
  ·cases i with
   |zero=>
    obtain⟨u,h1,h2⟩:=tJ.cell o d hd;exact⟨u,h1,by rw[Nat.zero_mul,cT];exact h2⟩
   |succ i=>
    obtain⟨u,h1,h2⟩:=hU.cell i o d hd;exact⟨u,h1,by rw[show(i+1)*z+o=z+(i*z+o) by rw[ck];omega];exact h2⟩
  ·cases i with
   |zero=>
    rw[sN] at hu
    have ho:o<r.length:=by rw[<-tJ.len];exact(ai.1 hu).1
    obtain⟨u',h1,h2⟩:=tJ.cell o r[o] (ag ho);rw[hu] at h1;cases h1;have hc:cellAt (r::rs) 0 o=some r[o]:=ag ho;rw[hc];generalize r[o]=d at h2
    cases d<;>first|exact⟨_,rfl⟩|(cases h2.1)
   |succ i=>exact hU.kid i o u hu
  ·cases i with
   |zero=>rw[sN] at hT;exact(tJ.own o T hT b hb).mono (aw _) (by omega)
   |succ i=>exact(hown i o T hT b hb).mono (by omega) (by omega)
  ·cases i with
   |zero=>
    rw[sN] at hT
    cases i' with
    |zero=>rw[sN] at hT';exact tJ.apart o o' T T' b (fun e=>YC (by rw[e])) hT hT' hb hb'
    |succ i'=>exact(tJ.own o T hT b hb).apart (hown i' o' T' hT' b hb') (aw _)
   |succ i=>
    cases i' with
    |zero=>rw[sN] at hT';exact(tJ.own o' T' hT' b hb').apart (hown i o T hT b hb) (aw _)
    |succ i'=>exact hU.apart i o i' o' T T' b (fun e=>YC (by cases e;rfl)) hT hT' hb hb'
end
end
section
variable {P:Program} {w w':World} {σ σ':Nat->Nat} {S:Store} {β:Hs}
def FU:D->List (List D)
 | .sl es=>es
 |_=>[]
def YD(k:Key)(j:Nat):D->C
 | .sl _=>.xp k j []
 |d=>.d d
def D5(k:Key):Nat->List D->List C
 |_,[]=>[]
 |j,d::ds=>YD k j d::D5 k (j+1) ds
theorem yw{k:Key}:∀(j:Nat)(r:List D),(D5 k j r).length=r.length
 |_,[]=>rfl
 |j,d::ds=>by rw[D5,aa,yw,aa]
theorem Ou{k:Key}:∀(r:List D)(j i:Nat),(D5 k j r)[i]? =(r[i]?).map (YD k (j+i))
 |[],j,i=>by simp[D5]
 |d::ds,j,0=>rfl
 |d::ds,j,i+1=>by
  rw[D5,df,df,Ou ds (j+1) i,show j+1+i=j+(i+1) by omega]
def QV:C->C
 | .d x=>.d x
 | .bF es=>.d (.sl es)
 | .bM _ es=>.d (.sl es)
 | .kF n es=>.d (.ol n es)
 | .iY cs=>.iY cs
 |_=>.any
def FV:V->V
 | .c x=>.c (QV x)
 | .agg cs=>.agg (cs.map QV)
 |_=>.any
theorem II{c:C}{v:Value}(h:fu w σ S β c v)(S':Store)(β':Hs):fu w σ S' β' (QV c) v:=by
 cases c with
 |d x=>exact h
 |bF es=>exact h.1
 |bM k es=>exact h.1
 |kF n es=>exact h.1
 |iY cs=>exact h
 |_=>trivial
theorem LJ{x:V}{v:Value}(h:cu w σ S β x v)(S':Store)(β':Hs):cu w σ S' β' (FV x) v:=by
 cases x with
 |c x=>exact⟨II h.1 _ _,h.2⟩
 |agg cs=>
  obtain⟨a,ha,hl,hc⟩:=h;refine⟨a,ha,by rw[al];exact hl,fun i x hx=> ?_⟩;rw[aV] at hx
  cases hi:cs[i]? with
  |none=>rw[hi] at hx;cases hx
  |some y=>
   rw[hi] at hx;cases hx;obtain⟨u,q1,q2,q3⟩:=hc i y hi;exact⟨u,q1,II q2 _ _,q3⟩
 |_=>trivial
theorem FW(hl:∀b,b<w.heap.size\/σ b=0)(hg:xZ w σ):dM w σ [] [] where
 qp:=hg
 obj:=fun k o h=>by rw[kK] at h;cases h
 apart:=fun k k' o o' h h' b h1=>by rw[kK] at h1;cases h1
 shape:=⟨rfl,fun l fr h=>by simp at h⟩
 live:=hl
theorem Ci{β:Hs}{b:Nat}:¬Own [] β b:=fun⟨k,o,h,h1,_⟩=>by rw[kK] at h1;cases h1
def abk(mk:List C->V)(m:Nat):Prop:=∀w σ S β cs v,cs.length=m->cu w σ S β (mk cs) v->∃vs,dS w σ S β cs vs/\∀w' σ' S' β' cs',cs'.length=m->dS w' σ' S' β' cs' vs->cu w' σ' S' β' (mk cs') v
def oo:Value:=mkT (.slice none 0 0) []
theorem Bp(i o:Nat):kid oo i o=none:=by
 unfold oo;rw[G5 (fun i o u h=>by simp[jJ] at h)];simp[jJ]
theorem sO{b:Nat}:¬jm oo b:=fun h=>by
 cases h with
 |here h1 h2=>cases h1
 |kid h1 h2=>rw[Bp] at h1;cases h1
theorem LK(σ:Nat->Nat):∀n:Nat,∃m,∀b,b<n->σ b<=m
 |0=>⟨0,fun b h=>by omega⟩
 |n+1=>by
  obtain⟨m,hm⟩:=LK σ n;refine⟨max m (σ n),fun b hb=> ?_⟩;by_cases e:b=n
  ·subst e;omega
  ·have:=hm b (by omega);omega
open Classical in
theorem bK.own{f:FuncId}{args:List V}{bT:List Obj}{Ω:Store}{mk:List C->V}{r:List D}(hm:abk mk r.length)(hp:gU r=true)
 (h:∀n,aT P f (args.map FV) (mk ((jE r n).map .d))):
 bK P f args (bT::Ω) (fun r' S'=>r'=mk (D5 (0,bT.length) 0 r)/\S'=(bT++[.xf (r.map FU)])::Ω):=by
 refine⟨(h 0 []).1,fun w σ β vs hS hargs=> ?_⟩;obtain⟨n,hn⟩:=LK σ w.heap.size
 have Uq:mX w σ [] [] (args.map FV) vs:=by
  refine⟨by rw[al];exact hargs.1,fun j x hx=> ?_⟩;rw[aV] at hx
  cases ha:args[j]? with
  |none=>rw[ha] at hx;cases hx
  |some y=>
   rw[ha] at hx;cases hx;obtain⟨v,h1,h2⟩:=hargs.2 j y ha;exact⟨v,h1,LJ h2 _ _⟩
 refine((h n []).2 w σ [] vs (FW hS.live hS.qp) Uq).mono fun e w' ⟨v,r',S',σ',β',he,hS',hk,hst,hv,hr',hS2⟩=> ?_;subst hr';subst hS2;obtain⟨us0,hcs,hback⟩:=hm w' σ' _ β' _ v (by rw[al,jv]) hv
 have aeR:us0.length=r.length:=by rw[<-hcs.1,al,jv]
 obtain⟨us,tJ⟩:=QU r n (fun j=>us0.getD j undef) hp (fun j d hd=>by
  obtain⟨u,h1,h2,_⟩:=hcs.2 j (.d d) (by rw[aV,hd];rfl);simp only[ch,h1,dn]
  exact h2)
 let h0:Value:=.tuple (us.map fun u=>u.getD oo).toArray
 have hroot:∀j,nW h0 j=(us[j]?).map fun u=>u.getD oo:=fun j=>by simp[h0,nW]
 have hfresh:∀b,jX h0 b->w.heap.size<=b:=by
  rintro b ⟨j,T,h1,h2⟩;rw[hroot] at h1
  cases hu:us[j]? with
  |none=>rw[hu] at h1;cases h1
  |some u=>
   rw[hu] at h1;simp only[cL,cX] at h1
   cases u with
   |none=>subst h1;exact absurd h2 sO
   |some u=>
    simp at h1;subst h1;obtain⟨c,t,fz,m,a1,a2,a3,a4⟩:=tJ.own j u hu b h2;refine Nat.le_of_not_lt fun hlt=> ?_;have h1:=(hst.far b hlt Ci).2;have h2:=hn b hlt;omega
 let σ2:Nat->Nat:=fun b=>if jX h0 b then 0 else σ' b
 have hg:Grow w σ w' σ2:=⟨hst.size,hst.os,hst.output,fun b hb=>by
  obtain⟨h1,h2⟩:=hst.far b hb Ci
  exact⟨h1,(if_neg fun hx=>by have:=hfresh b hx;omega).trans h2⟩,fun b=>by
  rcases hS'.live b with hb|hb
  ·exact .inl hb
  ·right;show(if jX h0 b then 0 else σ' b)=0;rw[hb];split<;>rfl⟩
 cases β with
 |nil=>have:=hS.shape.1;simp at this
 |cons bo bΩ=>
 have hlen:bo.length=bT.length:=by
  obtain⟨gr,g1,g2⟩:=hS.shape.2 0 bT rfl;simp at g1;rw[g1];exact g2
 obtain⟨hS3,hk3,aeS⟩:=hS.push (o:=.xf (r.map FU)) (h:=h0) hg hlen (by
  refine⟨fun j es hj=> ?_,fun j T hT=> ?_,fun b hb=>if_pos hb,fun j j' T T' x hjj hT hT' hx hx'=> ?_⟩
  ·rw[aV] at hj
   cases hd:r[j]? with
   |none=>rw[hd] at hj;cases hj
   |some d=>
    rw[hd] at hj;simp only[cL,cX] at hj;subst hj;obtain⟨u,h1,h2⟩:=tJ.cell j d hd;rw[hroot,h1]
    have hsc:(∀es,d≠ .sl es)->∃T,Option.map (fun u=>Option.getD u oo) (some u)=some T/\l9 w' (FU d) T:=fun hne=>by
     have hu:u=none:=by cases d<;>first|exact absurd rfl (hne _)|exact h2.1
     have hr0:FU d=[]:=by cases d<;>first|exact absurd rfl (hne _)|rfl
     subst hu;rw[hr0];exact⟨oo,rfl,.nil none 0 _ rfl Bp⟩
    cases d with
    |sl es=>obtain⟨T,rfl,_,_,h6⟩:=h2;exact⟨T,rfl,h6⟩
    |_=>exact hsc (fun es e=>by cases e)
  ·rw[al];rw[hroot] at hT
   cases hu:us[j]? with
   |none=>rw[hu] at hT;cases hT
   |some u=>rw[<-tJ.len];exact(ai.1 hu).1
  ·rw[hroot] at hT hT'
   cases hu:us[j]? with
   |none=>rw[hu] at hT;cases hT
   |some u=>
    cases hu':us[j']? with
    |none=>rw[hu'] at hT';cases hT'
    |some u'=>
     rw[hu] at hT;rw[hu'] at hT';simp only[cL,cX] at hT hT'
     cases u with
     |none=>subst hT;exact sO hx
     |some u=>
      cases u' with
      |none=>subst hT';exact sO hx'
      |some u'=>simp at hT hT';subst hT;subst hT';exact tJ.apart j j' u u' x hjj hu hu' hx hx') (fun b hb=>hfresh b hb)
 refine⟨v,_,_,σ2,(bo++[h0])::bΩ,he,hS3,hk3,aeS,?_,rfl,rfl⟩;refine hback _ _ _ _ _ (by rw[yw]) ⟨by rw[yw,aeR],fun j x hx=> ?_⟩;rw[Ou,cT] at hx
 cases hd:r[j]? with
 |none=>rw[hd] at hx;cases hx
 |some d=>
  rw[hd] at hx;simp only[cL,cX] at hx;obtain⟨u,h1,h2⟩:=tJ.cell j d hd
  have hjl:j<(jE r n).length:=by rw[jv];exact(ai.1 hd).1
  obtain⟨v0,h3,_,h4⟩:=hcs.2 j (.d (jE r n)[j]) (by rw[aV,ag hjl];rfl)
  have hv0:us0.getD j undef=v0:=by rw[ch,h3];rfl
  simp only[hv0] at h2;refine⟨v0,h3,?_,h4⟩
  have hsc:(∀es,d≠ .sl es)->fu w' σ2 ((bT++[.xf (r.map FU)])::Ω) ((bo++[h0])::bΩ) (.d d) v0:=fun hne=>by
   have:SD d v0:=by cases d<;>first|exact absurd rfl (hne _)|exact h2.2
   exact JW this
  cases d with
  |sl es=>
   subst hx;obtain⟨T,rfl,_,h5,_⟩:=h2;refine⟨_,bL _ _ _,fun rs _=>⟨h0,by rw[<-hlen,bL],?_⟩⟩;unfold yV;rw[hroot,h1];exact h5
  |_=>subst hx;exact hsc (fun es e=>by cases e)
end
section
variable {P:Program} {w w':World} {σ σ':Nat->Nat} {S:Store} {β:Hs}
def aeT(r:V):Prop:=∀w σ σ2 S β S2 β2 v,(∀b c t fz,w.heap[b]? =some (.cells c t fz)->c.size<σ b->σ2 b=σ b)->cu w σ S β r v->cu w σ2 S2 β2 r v
mutual
theorem aeU{σ2:Nat->Nat}(hs:∀b c t fz,w.heap[b]? =some (.cells c t fz)->c.size<σ b->σ2 b=σ b):∀(d:D)(n:Nat)(v:Value),lV d=true->dw w σ (nC d n) v->dw w σ2 (nC d n) v
 | .sl es,n,v,hp,h=>by
   rw[nC] at h ⊢;have hrec:=YE hs es (n+1);generalize iK es (n+1)=q at h hrec ⊢
   cases h with
   |wF n a cap=>exact .wF n a cap
   |ol n b off cap z q vals c t hcap hlen hb hσ hfit hc hv hx=>exact .ol n b off cap z q vals c t hcap hlen hb ((hs b c t _ hb (by omega)).trans hσ) hfit hc (hrec vals (by simpa [lV] using hp) hv) hx
 | .ol m es,n,v,hp,h=>by simp[lV] at hp
 | .b x,n,v,hp,h=>by rw[nC] at h ⊢;cases h;constructor
 | .i k x,n,v,hp,h=>by rw[nC] at h ⊢;cases h;constructor
 | .s l,n,v,hp,h=>by rw[nC] at h ⊢;cases h;constructor
 | .o u,n,v,hp,h=>by simp[lV] at hp
theorem abm{σ2:Nat->Nat}(hs:∀b c t fz,w.heap[b]? =some (.cells c t fz)->c.size<σ b->σ2 b=σ b):∀(r:List D)(n:Nat)(vals:Nat->Value),gU r=true->(∀(j:Nat)(d:D),(jE r n)[j]? =some d->dw w σ d (vals j))->
 ∀(j:Nat)(d:D),(jE r n)[j]? =some d->dw w σ2 d (vals j)
 |[],n,vals,hp,h,j,d,hd=>by simp[jE] at hd
 |a::r,n,vals,hp,h,j,d,hd=>by
  rw[gU,aq] at hp;rw[jE] at h hd
  cases j with
  |zero=>
   simp at hd;subst hd;exact aeU hs a n _ hp.1 (h 0 _ rfl)
  |succ j=>exact abm hs r (n+vE a) (fun i=>vals (i+1)) hp.2 (fun i d hi=>h (i+1) d hi) j d hd
theorem YE{σ2:Nat->Nat}(hs:∀b c t fz,w.heap[b]? =some (.cells c t fz)->c.size<σ b->σ2 b=σ b):∀(rs:List (List D))(n:Nat)(vals:Nat->Value),gY rs=true->(∀(j:Nat)(d:D),(iK rs n).flatten[j]? =some d->dw w σ d (vals j))->
 ∀(j:Nat)(d:D),(iK rs n).flatten[j]? =some d->dw w σ2 d (vals j)
 |[],n,vals,hp,h,j,d,hd=>by simp[iK] at hd
 |r::rs,n,vals,hp,h,j,d,hd=>by
  rw[gY,aq] at hp;rw[iK,ci] at h hd;by_cases hj:j<(jE r n).length
  ·rw[an hj] at hd;exact abm hs r n vals hp.1 (fun j d hd=>h j d (by rw[an (ai.1 hd).1];exact hd)) j d hd
  ·rw[am (by omega)] at hd;have:=YE hs rs (n+uj r) (fun i=>vals ((jE r n).length+i)) hp.2 (fun j d hd=>h _ d (by rw[am (by omega),cI];exact hd)) (j-(jE r n).length) d hd
   rwa [show(jE r n).length+(j-(jE r n).length)=j by omega] at this
end
theorem l9.data{es:List (List D)}{T v:Value}(h:l9 w es T)(hv:hdr T=some v)(hσ:∀b c t fz,jm T b->w.heap[b]? =some (.cells c t fz)->c.size<=σ b):dw w σ (.sl es) v:=by
 induction h generalizing v with
 |nil a cap T h hk=>rw[h] at hv;cases hv;exact .nil a cap
 |mk b off cap z es T c t vals kids hh hne hcap hlen hb hfit hc hs hk hx hself hap oL ih=>
  rw[hh] at hv;cases hv;have hpos:0<es.length:=eC.2 hne;have hfl:=iF es z hlen
  have hidx:∀j,j<es.length*z->∃hi:j/z<es.length,j % z<z/\j/z*z+j % z=j:=fun j hj=>by
   have hz:0<z:=by rcases Nat.eq_zero_or_pos z with h|h;·rw[h] at hj;simp at hj
                   ·exact h
   exact⟨(Nat.div_lt_iff_lt_mul hz).2 hj,Nat.mod_lt _ hz,by rw[Nat.mul_comm];exact Nat.div_add_mod j z⟩
  have hcell:∀j d,es.flatten[j]? =some d->∃hi:j/z<es.length,cellAt es (j/z) (j % z)=some d/\j/z*z+j % z=j:=fun j d hd=>by
   have hj:j<es.length*z:=by rw[<-hfl];exact(ai.1 hd).1
   obtain⟨hi,hm,he⟩:=hidx j hj;refine⟨hi,?_,he⟩;have:=flat_get es z hlen (j/z) (j % z) hi hm;rw[he,hd] at this;unfold cellAt;rw[ag hi];exact this.symm
  refine .sl b off cap z es (fun j=>vals (j/z) (j % z)) c t (0,0) hcap hlen hb (cx hfit (hσ b c t _ (.here hh hpos) hb)) (fun j hj=> ?_) (fun j d hd=> ?_)
  ·obtain⟨hi,hce,he⟩:=hcell j _ (ag (by rw[hfl];exact hj));have:=hc _ _ _ hce
   rwa [he] at this
  ·obtain⟨hi,hce,he⟩:=hcell j d hd;rcases hs _ _ _ hce with⟨es',rfl⟩|hsd
   ·obtain⟨k1,k2⟩:=hk _ _ _ hce;exact ih _ _ _ hce k2 fun b' c' t' Kc ho hb'=>hσ b' c' t' Kc (.kid k1 ho) hb'
   ·exact JW hsd
def JE(k:Key)(rs:List (List (List D))):C->C
 | .xp k' r []=>if k'=k then(match rs[r]? with|some es=>.d (.sl es)|none=>.any) else .any
 | .d x=>.d x
 |_=>.any
def YF(k:Key)(rs:List (List (List D))):V->V
 | .c x=>.c (JE k rs x)
 | .agg cs=>.agg (cs.map (JE k rs))
 |_=>.any
open Classical in
theorem bK.lend{f:FuncId}{args:List V}{k:Key}{rs:List (List (List D))}{r:V}(hk:aN S k=some (.xf rs))(hr:aeT r)(h:aT P f (args.map (YF k rs)) r):bK P f args S (fun r' S'=>r'=r/\S'=S):=by
 refine⟨(h S).1,fun w σ β vs hS hargs=> ?_⟩;obtain⟨hh,hb,qx⟩:=hS.obj k _ hk;obtain⟨hX1,hX2,J8,Yk⟩:=qx
 let IJ:Nat->Nat:=fun b=>match w.heap[b]? with
  |some (.cells c _ _)=>c.size
  |_=>0
 have abn:∀b c t fz,w.heap[b]? =some (.cells c t fz)->IJ b=c.size:=fun b c t fz e=>by simp[IJ,e]
 have hXlt:∀b,jX hh b->b<w.heap.size:=fun b hb'=>wG (o:=.xf rs) (S:=S) (β:=β) ⟨hX1,hX2,J8,Yk⟩ hb'
 let σ1:Nat->Nat:=fun b=>if jX hh b then IJ b else σ b
 have hn1:dR w σ w σ1:=fun b c t fz e=>by
  refine⟨?_,fun hlt=> ?_,c,e,rfl,fun _ _=>rfl⟩
  ·show σ b<=if jX hh b then IJ b else σ b
   split
   ·rename_i hx;rw[J8 b hx];exact ao _
   ·exact aw _
  ·show(if jX hh b then IJ b else σ b)=σ b;rw[if_neg fun hx=>by have:=J8 b hx;omega]
 have hS1:dM w σ1 [] []:=by
  refine FW (fun b=> ?_) (hS.qp.near hn1);by_cases hx:jX hh b
  ·exact .inl (hXlt b hx)
  ·rcases hS.live b with h'|h'
   ·exact .inl h'
   ·right;show(if jX hh b then IJ b else σ b)=0;rw[if_neg hx];exact h'
 have hlc:∀c v,fu w σ S β c v->fu w σ1 [] [] (JE k rs c) v:=by
  intro c v hc;unfold JE;split
  ·rename_i k' r';split
   ·rename_i e;subst e;split
    ·rename_i es hes;obtain⟨o,ho,h2⟩:=hc;rw[hk] at ho;cases ho;obtain⟨h',e1,e2⟩:=h2 rs rfl;rw[hb] at e1;cases e1;obtain⟨T,q1,q2⟩:=hX1 r' es hes;unfold yV at e2;rw[q1] at e2;refine q2.data e2 fun b c t fz ho hb'=> ?_
     show c.size<=if jX hh b then IJ b else σ b
     rw[if_pos ⟨r',T,q1,ho⟩,abn b c t fz hb'];exact aw _
    ·trivial
   ·trivial
  ·exact dw.mono hn1 hc
  ·trivial
 have abo:mX w σ1 [] [] (args.map (YF k rs)) vs:=by
  refine⟨by rw[al];exact hargs.1,fun j x hx=> ?_⟩;rw[aV] at hx
  cases ha:args[j]? with
  |none=>rw[ha] at hx;cases hx
  |some y=>
   rw[ha] at hx;cases hx;obtain⟨v,h1,h2⟩:=hargs.2 j y ha;refine⟨v,h1,?_⟩
   cases y with
   |c x=>exact⟨hlc x v h2.1,h2.2⟩
   |agg cs=>
    obtain⟨a,e,hl,hc⟩:=h2;refine⟨a,e,by rw[al];exact hl,fun i x hx=> ?_⟩;rw[aV] at hx
    cases hi:cs[i]? with
    |none=>rw[hi] at hx;cases hx
    |some y=>
     rw[hi] at hx;cases hx;obtain⟨u,q1,q2,q3⟩:=hc i y hi;exact⟨u,q1,hlc y u q2,q3⟩
   |_=>trivial
 refine((h []).2 w σ1 [] vs hS1 abo).mono fun e w' ⟨v,r',S',σ',β',he,hS',hk',hst,hv,hr',hS2⟩=> ?_;subst hr';subst hS2
 let σ2:Nat->Nat:=fun b=>if jX hh b then 0 else σ' b
 have hg:Grow w σ w' σ2:=⟨hst.size,hst.os,hst.output,fun b hlt=>by
  obtain⟨h1,h2⟩:=hst.far b hlt Ci;refine⟨h1,?_⟩;show(if jX hh b then 0 else σ' b)=σ b;by_cases hx:jX hh b
  ·rw[if_pos hx,J8 b hx]
  ·rw[if_neg hx,h2]
   exact if_neg hx,fun b=>by
  rcases hS'.live b with h'|h'
  ·exact .inl h'
  ·right;show(if jX hh b then 0 else σ' b)=0;rw[h'];split<;>rfl⟩
 refine⟨v,_,_,σ2,β,he,hS.grow hg,Keep.refl _ _,Step.lu hg,?_,rfl,rfl⟩;refine hr w' σ' σ2 _ _ _ _ v (fun b c t fz e hlt=> ?_) hv;by_cases hx:jX hh b
 ·obtain⟨h1,h2⟩:=hst.far b (hXlt b hx) Ci;rw[h1] at e;have:σ1 b=IJ b:=if_pos hx;rw[h2,this,abn b c t fz e] at hlt;omega
 ·exact if_neg hx
end
section
variable {P:Program} {w w':World} {σ σ':Nat->Nat} {S:Store} {β:Hs}
end
def abp(n:Nat)(out:List UInt8):List UInt8:=if h:n=0 then out else abp (n/10) (UInt8.ofNat (48+n % 10)::out)
termination_by n
decreasing_by omega
def ada(k:Int):List UInt8:=if k<=0 then [109,48] else 109::abp k.toNat []
mutual
def FX:D->Nat
 | .sl es=>zG es
 | .b _=>1
 | .i _ _=>1
 | .s _=>1
 | .o _=>0
 | .ol _ _=>0
def Ov:List D->Nat
 |[]=>0
 |d::ds=>FX d+Ov ds
def zG:List (List D)->Nat
 |[]=>0
 |r::rs=>Ov r+zG rs
end
mutual
def mkD:D->Int->D
 | .sl es,k=>.sl (QW es k)
 | .b _,k=>.b (decide (k.tmod 3=0))
 | .i kd _,k=>.i kd k
 | .s _,k=>.s (ada k)
 | .o v,_=>.o v
 | .ol n es,_=>.ol n es
def mkR:List D->Int->List D
 |[],_=>[]
 |d::ds,k=>mkD d k::mkR ds (k+FX d)
def QW:List (List D)->Int->List (List D)
 |[],_=>[]
 |r::rs,k=>mkR r k::QW rs (k+Ov r)
end
mutual
def rA:D->Bool
 | .sl es=>iR es
 | .b _=>true
 | .i _ _=>true
 | .s _=>true
 | .o _=>true
 | .ol _ _=>true
def iE:List D->Bool
 |[]=>true
 |d::ds=>rA d&&iE ds
def iR:List (List D)->Bool
 |[]=>true
 |r::rs=>decide (r.length<=32)&&iE r&&iR rs
end
mutual
theorem adb:∀d:D,rA d=true->FX d<=32*d.sz+1
 | .sl es,h=>by
   have:=Ur es (by simpa [rA] using h);simp only[FX,D.sz];omega
 | .b _,_=>by simp[FX]
 | .i _ _,_=>by simp[FX]
 | .s _,_=>by simp[FX]
 | .o _,_=>by simp[FX]
 | .ol _ _,_=>by simp[FX]
theorem Us:∀r:List D,iE r=true->Ov r<=32*aY r+r.length
 |[],_=>by simp[Ov]
 |d::ds,h=>by
  rw[iE,aq] at h;have h1:=adb d h.1;have h2:=Us ds h.2;simp only[Ov,aY,aa];omega
theorem Ur:∀rs:List (List D),iR rs=true->zG rs<=32*(rs.length+aH rs)
 |[],_=>by simp[zG]
 |r::rs,h=>by
  rw[iR,aq,aq,decide_eq_true_eq] at h;have h1:=Us r h.1.2;have h2:=Ur rs h.2;simp only[zG,aH,aa];omega
end
theorem fT:∀a b,iE (a++b)=(iE a&&iE b)
 |[],b=>by simp[iE]
 |d::ds,b=>by rw[az,iE,iE,fT ds b,ey]
theorem jd{α:Type}{f:α->List D}:∀{xs:List α},(∀x∈xs,iE (f x)=true/\(f x).length<=32)->iR (xs.map f)=true
 |[],_=>rfl
 |x::xs,h=>by
  rw[af,iR,(h x (by simp)).1,jd fun y hy=>h y (by simp[hy]),decide_eq_true (h x (by simp)).2];rfl
abbrev afD(P:Program)(f:FuncId)(es:List (List D)):Prop:=∀(k:Int)(l j r:Nat)(p:List (Nat×Nat))(S:Store)(rs:List (List (List D))),aN S (l,j)=some (.xf rs)->atR rs r p=some es->0<=k/\k+zG es<=4611686018427387904->
 bK P f [.c (.xp (l,j) r p),.c (.d (.i .i64 k))] S (fun res S'=>res=.c (.d (.i .i64 (k+zG es)))/\S'=aP S (l,j) (.xf (Af rs r p (QW es k))))
abbrev afE(P:Program)(f:FuncId)(es:List (List D)):Prop:=∀(k:Int)(l j r:Nat)(p:List (Nat×Nat))(S:Store)(rs:List (List (List D))),aN S (l,j)=some (.xf rs)->atR rs r p=some (QW es k)->0<=k/\k+zG es<=4611686018427387904->
 bK P f [.c (.xp (l,j) r p),.c (.d (.i .i64 k))] S (fun res S'=>res=.c (.d (.i .i64 (k+zG es)))/\S'=S)
section
variable {P:Program} {N:Nat} {c:Code} {Q:Exit->St->Prop} {s:St} {S:Store} {l j r n:Nat} {p:List (Nat×Nat)} {rs:List (List (List D))} {rows:List (List D)} {k:Int}
abbrev afF(l j r:Nat)(p:List (Nat×Nat))(k:Int)(i:Nat):List V:=[.c (.xp (1+l,j) r p),.c (.d (.i .i64 k)),.c (.d (.i .i64 i))]
end
theorem rC(xs:List (List UInt8)):gY (xs.map encS)=true:=jc fun _ _=>rfl
theorem rD(xs:List (List UInt8)):iR (xs.map encS)=true:=jd fun _ _=>⟨rfl,by simp[encS]⟩
mutual
theorem ah.eG:∀x:ah,gU x.enc=true/\iE x.enc=true
 | .mk a0 a1 a2=>by simp only[ah.enc,gU,lV,iE,rA,fQ,fT,bx,bj,cm,and_self,and_true,true_and,(ah.lQ a2).1,(ah.lQ a2).2]
theorem ah.lQ:∀xs:List ah,gY (ah.encs xs)=true/\iR (ah.encs xs)=true
 |[]=>⟨rfl,rfl⟩
 |x::xs=>by
  have h:decide ((ah.enc x).length<=32)=true:=by rw[ah.bV];rfl
  simp only[ah.encs,gY,iR,h,(ah.eG x).1,(ah.eG x).2,(ah.lQ xs).1,(ah.lQ xs).2,cm,and_self]
end
theorem ah.gI(xs:List ah):gY (xs.map ah.enc)=true/\iR (xs.map ah.enc)=true:=by rw[<-ah.iw];exact ah.lQ xs
theorem dI.eG(x:dI):gU x.enc=true/\iE x.enc=true:=by
 rw[dI.aB];simp only[az,ba,gU,lV,iE,rA,fQ,fT,bx,bj,cm,and_self,and_true,true_and,(ah.eG x.fType).1,(ah.eG x.fType).2]
theorem dI.gI(xs:List dI):gY (xs.map dI.enc)=true/\iR (xs.map dI.enc)=true:=⟨jc fun x _=>x.eG.1,jd fun x _=>⟨x.eG.2,by rw[dI.bV];decide⟩⟩
theorem bR.eG(x:bR):gU x.enc=true/\iE x.enc=true:=by
 rw[bR.aB];simp only[az,ba,gU,lV,iE,rA,fQ,fT,bx,bj,cm,and_self,and_true,true_and,(ah.eG x.fType).1,(ah.eG x.fType).2]
theorem bR.gI(xs:List bR):gY (xs.map bR.enc)=true/\iR (xs.map bR.enc)=true:=⟨jc fun x _=>x.eG.1,jd fun x _=>⟨x.eG.2,by rw[bR.bV];decide⟩⟩
mutual
theorem ak.eG:∀x:ak,gU x.enc=true/\iE x.enc=true
 | .mk a0 a1 a2 a3 a4 a5 a6=>by simp only[ak.enc,gU,lV,iE,rA,fQ,fT,bx,bj,cm,and_self,and_true,true_and,(ah.eG a4).1,(ah.eG a4).2,(ak.lQ a5).1,(ak.lQ a5).2,(aR.lQ a6).1,(aR.lQ a6).2]
theorem ak.lQ:∀xs:List ak,gY (ak.encs xs)=true/\iR (ak.encs xs)=true
 |[]=>⟨rfl,rfl⟩
 |x::xs=>by
  have h:decide ((ak.enc x).length<=32)=true:=by rw[ak.bV];rfl
  simp only[ak.encs,gY,iR,h,(ak.eG x).1,(ak.eG x).2,(ak.lQ xs).1,(ak.lQ xs).2,cm,and_self]
theorem aR.eG:∀x:aR,gU x.enc=true/\iE x.enc=true
 | .mk a0 a1 a2=>by simp only[aR.enc,gU,lV,iE,rA,fQ,fT,bx,bj,cm,and_self,and_true,true_and,rC a1,rD a1,(ak.eG a2).1,(ak.eG a2).2]
theorem aR.lQ:∀xs:List aR,gY (aR.encs xs)=true/\iR (aR.encs xs)=true
 |[]=>⟨rfl,rfl⟩
 |x::xs=>by
  have h:decide ((aR.enc x).length<=32)=true:=by rw[aR.bV];rfl
  simp only[aR.encs,gY,iR,h,(aR.eG x).1,(aR.eG x).2,(aR.lQ xs).1,(aR.lQ xs).2,cm,and_self]
end
theorem ak.gI(xs:List ak):gY (xs.map ak.enc)=true/\iR (xs.map ak.enc)=true:=by rw[<-ak.iw];exact ak.lQ xs
theorem aR.gI(xs:List aR):gY (xs.map aR.enc)=true/\iR (xs.map aR.enc)=true:=by rw[<-aR.iw];exact aR.lQ xs
mutual
theorem bC.eG:∀x:bC,gU x.enc=true/\iE x.enc=true
 | .mk a0 a1=>by simp only[bC.enc,gU,lV,iE,rA,fQ,fT,bx,bj,cm,and_self,and_true,true_and,(bC.lQ a1).1,(bC.lQ a1).2]
theorem bC.lQ:∀xs:List bC,gY (bC.encs xs)=true/\iR (bC.encs xs)=true
 |[]=>⟨rfl,rfl⟩
 |x::xs=>by
  have h:decide ((bC.enc x).length<=32)=true:=by rw[bC.bV];rfl
  simp only[bC.encs,gY,iR,h,(bC.eG x).1,(bC.eG x).2,(bC.lQ xs).1,(bC.lQ xs).2,cm,and_self]
end
theorem bC.gI(xs:List bC):gY (xs.map bC.enc)=true/\iR (xs.map bC.enc)=true:=by rw[<-bC.iw];exact bC.lQ xs
theorem bA.eG(x:bA):gU x.enc=true/\iE x.enc=true:=by
 rw[bA.aB];simp only[az,ba,gU,lV,iE,rA,fQ,fT,bx,bj,cm,and_self,and_true,true_and,(ah.gI x.bQ).1,(ah.gI x.bQ).2,(ah.eG x.eZ).1,(ah.eG x.eZ).2,rC x.aO,rD x.aO,(ak.eG x.fBody).1,(ak.eG x.fBody).2]
theorem bA.gI(xs:List bA):gY (xs.map bA.enc)=true/\iR (xs.map bA.enc)=true:=⟨jc fun x _=>x.eG.1,jd fun x _=>⟨x.eG.2,by rw[bA.bV];decide⟩⟩
theorem dx.eG(x:dx):gU x.enc=true/\iE x.enc=true:=by
 rw[dx.aB];simp only[az,ba,gU,lV,iE,rA,fQ,fT,bx,bj,cm,and_self,and_true,true_and,rC x.dN,rD x.dN,(bA.gI x.bE).1,(bA.gI x.bE).2]
theorem dx.gI(xs:List dx):gY (xs.map dx.enc)=true/\iR (xs.map dx.enc)=true:=⟨jc fun x _=>x.eG.1,jd fun x _=>⟨x.eG.2,by rw[dx.bV];decide⟩⟩
theorem aU.eG(x:aU):gU x.enc=true/\iE x.enc=true:=by
 rw[aU.aB];simp only[az,ba,gU,lV,iE,rA,fQ,fT,bx,bj,cm,and_self,and_true,true_and,(ah.gI x.jg).1,(ah.gI x.jg).2]
theorem aU.gI(xs:List aU):gY (xs.map aU.enc)=true/\iR (xs.map aU.enc)=true:=⟨jc fun x _=>x.eG.1,jd fun x _=>⟨x.eG.2,by rw[aU.bV];decide⟩⟩
theorem aZ.eG(x:aZ):gU x.enc=true/\iE x.enc=true:=by
 rw[aZ.aB];simp only[az,ba,gU,lV,iE,rA,fQ,fT,bx,bj,cm,and_self,and_true,true_and,rC x.aO,rD x.aO,(aU.gI x.aK).1,(aU.gI x.aK).2]
theorem aZ.gI(xs:List aZ):gY (xs.map aZ.enc)=true/\iR (xs.map aZ.enc)=true:=⟨jc fun x _=>x.eG.1,jd fun x _=>⟨x.eG.2,by rw[aZ.bV];decide⟩⟩
theorem cO.eG(x:cO):gU x.enc=true/\iE x.enc=true:=by
 rw[cO.aB];simp only[az,ba,gU,lV,iE,rA,fQ,fT,bx,bj,cm,and_self,and_true,true_and,rC x.aO,rD x.aO,(ak.eG x.fBody).1,(ak.eG x.fBody).2]
theorem cO.gI(xs:List cO):gY (xs.map cO.enc)=true/\iR (xs.map cO.enc)=true:=⟨jc fun x _=>x.eG.1,jd fun x _=>⟨x.eG.2,by rw[cO.bV];decide⟩⟩
theorem bI.eG(x:bI):gU x.enc=true/\iE x.enc=true:=by
 rw[bI.aB];simp only[az,ba,gU,lV,iE,rA,fQ,fT,bx,bj,cm,and_self,and_true,true_and,rC x.aO,rD x.aO,(ah.eG x.fD).1,(ah.eG x.fD).2,(bR.gI x.fI).1,(bR.gI x.fI).2,(ah.eG x.fP).1,(ah.eG x.fP).2,(cO.gI x.bN).1,(cO.gI x.bN).2]
theorem bI.gI(xs:List bI):gY (xs.map bI.enc)=true/\iR (xs.map bI.enc)=true:=⟨jc fun x _=>x.eG.1,jd fun x _=>⟨x.eG.2,by rw[bI.bV];decide⟩⟩
theorem bY.eG(x:bY):gU x.enc=true/\iE x.enc=true:=by
 rw[bY.aB];simp only[az,ba,gU,lV,iE,rA,fQ,fT,bx,bj,cm,and_self,and_true,true_and,(ah.eG x.fType).1,(ah.eG x.fType).2]
theorem bY.gI(xs:List bY):gY (xs.map bY.enc)=true/\iR (xs.map bY.enc)=true:=⟨jc fun x _=>x.eG.1,jd fun x _=>⟨x.eG.2,by rw[bY.bV];decide⟩⟩
theorem bJ.eG(x:bJ):gU x.enc=true/\iE x.enc=true:=by
 rw[bJ.aB];simp only[az,ba,gU,lV,iE,rA,fQ,fT,bx,bj,cm,and_self,and_true,true_and,rC x.aO,rD x.aO,(bR.gI x.fI).1,(bR.gI x.fI).2,(bY.gI x.bQ).1,(bY.gI x.bQ).2,(ah.eG x.eZ).1,(ah.eG x.eZ).2,(ak.eG x.fBody).1,(ak.eG x.fBody).2]
theorem bJ.gI(xs:List bJ):gY (xs.map bJ.enc)=true/\iR (xs.map bJ.enc)=true:=⟨jc fun x _=>x.eG.1,jd fun x _=>⟨x.eG.2,by rw[bJ.bV];decide⟩⟩
theorem aA.eG(x:aA):gU x.enc=true/\iE x.enc=true:=by
 rw[aA.aB];simp only[az,ba,gU,lV,iE,rA,fQ,fT,bx,bj,cm,and_self,and_true,true_and,rC x.bX,rD x.bX,(dx.gI x.bZ).1,(dx.gI x.bZ).2,(aZ.gI x.aG).1,(aZ.gI x.aG).2,(bI.gI x.bS).1,(bI.gI x.bS).2,(bJ.gI x.bH).1,(bJ.gI x.bH).2]
theorem aA.gI(xs:List aA):gY (xs.map aA.enc)=true/\iR (xs.map aA.enc)=true:=⟨jc fun x _=>x.eG.1,jd fun x _=>⟨x.eG.2,by rw[aA.bV];decide⟩⟩
theorem aS.eG(x:aS):gU x.enc=true/\iE x.enc=true:=by
 rw[aS.aB];simp only[az,ba,gU,lV,iE,rA,fQ,fT,bx,bj,cm,and_self,and_true,true_and,(aA.gI x.aF).1,(aA.gI x.aF).2]
theorem aS.gI(xs:List aS):gY (xs.map aS.enc)=true/\iR (xs.map aS.enc)=true:=⟨jc fun x _=>x.eG.1,jd fun x _=>⟨x.eG.2,by rw[aS.bV];decide⟩⟩
theorem dF.eG(x:dF):gU x.enc=true/\iE x.enc=true:=by
 rw[dF.aB];simp only[az,ba,gU,lV,iE,rA,fQ,fT,bx,bj,cm,and_self,and_true,true_and]
theorem dF.gI(xs:List dF):gY (xs.map dF.enc)=true/\iR (xs.map dF.enc)=true:=⟨jc fun x _=>x.eG.1,jd fun x _=>⟨x.eG.2,by rw[dF.bV];decide⟩⟩
def lx(l:List bC)(n:Nat):List (List D):=iK (l.map bC.enc) n
def Dg:List aU->Nat
 |[]=>0
 |x::xs=>x.sz+Dg xs
theorem LM:∀l,aH (l.map aU.enc)=Dg l
 |[]=>rfl
 |x::xs=>by rw[af,aH,Dg,LM xs];rfl
theorem Bq(x:aU):x.sz=x.fName.length+(x.jg.length+zZ x.jg):=by
 rw[<-DZ];simp only[aU.sz,aU.aB,aY,D.sz,al];omega
theorem sP(x:aZ):x.sz=x.fName.length+(x.aO.length+(x.aO.map List.length).sum)+(x.aK.length+Dg x.aK):=by
 rw[<-LM,<-yu];simp only[aZ.sz,aZ.aB,aY,D.sz,al];omega
def YG:List UInt8:=[116,114,117,101]
def Ut:List UInt8:=[102,97,108,115,101]
def YH:List UInt8:=[99,97,108,108]
def Ow:List UInt8:=[109,101,116,104,111,100]
def abq:List UInt8:=[110,101,119]
def QX:List UInt8:=[99,97,115,101]
def abr:List UInt8:=[108,101,116]
def wIf:List UInt8:=[105,102]
def YI:List UInt8:=[112,97,99,107]
def abt:List UInt8:=[116,104,101]
def JF(k:Int)(tr nm:List UInt8)(ty:ah):List bC:=
 if k=4 then jN [YH,nm] else if k=5 then jN [Ow,tr,nm] else if k=6 then jN [abq,nm] else if k=8 then jN [abr,nm] else
 if k=9 then jN [wIf] else if k=10 then jN [nm] else if k=11 then jN [YI,tr] else if k=12 then [oU abt,Uj ty] else jN [QX]
mutual
def Uu:ak->bC
 | .mk k tr nm n ty zs ms=>if k=1 then oU (Lib.itoa n) else if k=2 then oU (if n=1 then YG else Ut) else if k=3 then oU nm else
   Ce (JF k tr nm ty++D6 zs++(if k=4\/k=5\/k=6\/k=8\/k=9\/k=10\/k=11\/k=12 then [] else D7 ms))
def D6:List ak->List bC
 |[]=>[]
 |t::ts=>Uu t::D6 ts
def YJ:aR->bC
 | .mk c vs b=>Ce ([oU c]++jN vs++[Uu b])
def D7:List aR->List bC
 |[]=>[]
 |t::ts=>YJ t::D7 ts
end
theorem D8:∀l,D6 l=l.map Uu
 |[]=>rfl
 |t::ts=>by rw[D6,af,D8 ts]
theorem D9:∀l,D7 l=l.map YJ
 |[]=>rfl
 |t::ts=>by rw[D7,af,D9 ts]
def Ox:List ak->Nat
 |[]=>0
 |x::xs=>x.sz+Ox xs
theorem LP:∀l,aH (l.map ak.enc)=Ox l
 |[]=>rfl
 |x::xs=>by rw[af,aH,Ox,LP xs];rfl
def Oy:List aR->Nat
 |[]=>0
 |x::xs=>x.sz+Oy xs
theorem LQ:∀l,aH (l.map aR.enc)=Oy l
 |[]=>rfl
 |x::xs=>by rw[af,aH,Oy,LQ xs];rfl
theorem Xx(x:ak):x.sz=x.dP.length+x.fName.length+x.fType.sz+(x.fArgs.length+Ox x.fArgs)+(x.aX.length+Oy x.aX):=by
 rw[<-LP,<-LQ];simp only[ak.sz,ak.aB,aY,bG,D.sz,al,ah.cB];omega
theorem Uv(x:aR):x.sz=x.fO.length+(x.aO.length+(x.aO.map List.length).sum)+x.fBody.sz:=by
 rw[<-yu];simp only[aR.sz,aR.aB,aY,bG,D.sz,al,ak.cB];omega
theorem G6:∀(k n:Nat),n<10^ (k+1)->(Lib.decDigits n).length<=k+1
 |0,n,h=>by rw[Lib.decDigits,dif_pos (by simpa using h)];simp
 |k+1,n,h=>by
  rw[Lib.decDigits];split
  ·simp
  ·rw[ab];have:=G6 k (n/10) (by rw[Nat.pow_succ] at h;omega);simp;omega
theorem Xy{n:Int}(h: -999999<=n/\n<=999999):(Lib.itoa n).length<=7:=by
 unfold Lib.itoa;split
 ·have:=G6 5 n.natAbs (by omega);simp;omega
 ·have:=G6 5 n.toNat (by omega);omega
theorem Uw(k:Int)(tr nm:List UInt8)(ty:ah):(JF k tr nm ty).length<=3/\kJ (JF k tr nm ty)<=18+tr.length+nm.length+16*ty.sz:=by
 have h:=Ul ty;unfold JF
 repeat' (first|(split;·refine⟨by simp[jN],?_⟩;simp[kJ,jN,nA,YH,Ow,abq,abr,wIf,YI,abt,QX];omega))
 refine⟨by simp[jN],?_⟩;simp[kJ,jN,nA,QX];omega
mutual
theorem Ux:∀x:ak,ku x=true->(Uu x).sz<=24+32*x.sz
 | .mk k tr nm n ty zs ms=>fun hok=>by
   rw[ku,aq,aq] at hok;have hf:=iD hok.1;have h1:=Oz zs hok.2.1;have h2:=OA ms hok.2.2;have h3:=Uw k tr nm ty;rw[Xx];simp only[ak.fName,ak.fArgs,ak.dP,ak.fType,ak.aX];rw[Uu];split
   ·rename_i hk;have h4:=hf.2.2.2.1;simp only[ak.aW,ak.fN,hk,if_true] at h4;have:=Xy h4;rw[nA];omega
   ·split
    ·rw[nA];split<;>simp[YG,Ut]<;>omega
    ·split
     ·rw[nA];omega
     ·rw[Cg,nR,nR,ab,ab,D8,al,<-D8];split
      ·simp[kJ];omega
      ·rw[D9,al,<-D9];omega
theorem Oz:∀xs:List ak,lF xs=true->kJ (D6 xs)<=24*xs.length+32*Ox xs
 |[],_=>by simp[D6,kJ]
 |x::xs,h=>by
  rw[lF,aq] at h;have h1:=Ux x h.1;have h2:=Oz xs h.2;rw[D6,kJ,Ox,aa];omega
theorem abu:∀x:aR,uH x=true->(YJ x).sz<=26+32*x.sz
 | .mk c vs b=>fun hok=>by
   rw[uH,aq,aq] at hok;have h1:=Ux b hok.2.2;rw[Uv];simp only[aR.fO,aR.aO,aR.fBody];rw[YJ,Cg,nR,nR,ab,ab,Uk,IC];simp[kJ,nA];omega
theorem OA:∀xs:List aR,om xs=true->kJ (D7 xs)<=26*xs.length+32*Oy xs
 |[],_=>by simp[D7,kJ]
 |x::xs,h=>by
  rw[om,aq] at h;have h1:=abu x h.1;have h2:=OA xs h.2;rw[D7,kJ,Oy,aa];omega
end
theorem bK.args{P:Program}{f:FuncId}{args args':List V}{S:Store}{post:V->Store->Prop}(h:bK P f args' S post)(hl:pO args args'):bK P f args S post:=h.weaken hl.length fun j x y hx hy w σ β v hr=>hl.at j x y hx hy w σ S β v hr
def LU(n:Nat)(s:St):St:=match s.st with
 |(.seed _::own)::Ω=>⟨s.tm,(.seed n::own)::Ω⟩
 |_=>s
theorem Nv{n m:Nat}{tm:List (Nat×V)}{own:List Obj}{Ω:Store}:LU n ⟨tm,(.seed m::own)::Ω⟩=⟨tm,(.seed n::own)::Ω⟩:=rfl
def ade(j p n:Nat)(s:St):St:=LU n (QT j p s)
attribute [go_sem] ade Nv
end Go.Ab