/-
  SEVERAL TEXTS IN ONE (merged by program): contracts and models, each with its own heading.
-/
import Derived.Test.YtocpgjlbagncjaaGreatDoorPartRvbE
import Derived.Shelf.Strconv.Atoi
import Derived.Shelf.LaysC
import Derived.Shelf.Strconv.AtoiErr
import Derived.Shelf.Strconv.ErrVar
import Derived.Test.YtocpgjlbagncjaaGreatDoorProg
import Derived.Lib.AppendIntMem
import Derived.Lib.AtoiBound
set_option linter.unusedSimpArgs false
set_option linter.unusedVariables false
set_option maxRecDepth 4000
set_option maxRecDepth 8000
namespace Go.Ab
theorem abl{x:aj}{i:Nat}(hi:i<x.ah.length)(h:x.sz≤4194304):x.ah[i].sz≤4194304:=by
 have:=iK (List.getElem_mem hi)
 rw[kI,mI] at h
 omega
theorem abm{x:aj}(h:x.sz≤4194304):x.bf.length≤4194304∧x.ah.length≤4194304:=by
 rw[kI] at h
 omega
end Go.Ab
namespace Go.Proofs.YtocpgjlbagncjaaGreatDoor
open Go Go.Ab
theorem Ay:∀n:Nat,∀x:aj,SizeOf.sizeOf x<n→∀y:aj,x.sz≤4194304→aI Tryz.prog 123 [x.v,y.v] (.c (.d (.b (dec (x=y)))))
 |0=>fun x h=>by omega
 |n+1=>by
  have ih:=Ay n
  intro x hn y hsz S
  have Lu:=aj.oO x
  have hb:=abm hsz
  refine aG (rs:=[.tmp 4]) Tryz.checked.mixed Tryz.func123 Tryz.ntmps123 rfl rfl rfl rfl rfl ?_
  refine W1 ?_
  refine S0 (fun hb h=>?_) fun hb h=>?_
  ·exact aB (aF (fun e=>h (by rw[e]))).symm
  have h1:=h
  refine S0 (fun hb h=>?_) fun hb h=>?_
  ·exact aB (aF (fun e=>h (by rw[e]))).symm
  have hl:x.ah.length=y.ah.length:=by omega
  refine aT (ι:=Nat) Tryz.checked.mixed rfl [2,3,5] (fun i=>[.c (.ptr (0,0) 0),.c (.ptr (0,1) 0),.c (.d (.i .i64 i))]) (fun i=>[.box [.d (.s x.bf),.d (.sl (x.ah.map aj.enc))],.box [.d (.s y.bf),.d (.sl (y.ah.map aj.enc))]]::S)
   (fun i=>i≤x.ah.length∧∀j,j<i→x.ah[j]? =y.ah[j]?) (fun i=>x.ah.length-i) 0 rfl rfl ⟨Nat.zero_le _,fun j h=>by omega⟩ ?_
  rintro i ⟨p1,p2⟩
  simp -implicitDefEqProofs (disch:=omega) only[go_sem,aj.aD]
  refine S0 (fun hb h=>?_) fun hb h=>?_
  ·have hi:i<x.ah.length:=by omega
   have hi':i<y.ah.length:=by omega
   refine W3 ?_
   refine C1 (ih x.ah[i] (by have:=List.sizeOf_lt_of_mem (List.getElem_mem hi);omega) y.ah[i] (abl hi hsz)) ?_
   refine S0 (fun hb h=>?_) fun hb h=>?_
   ·exact aB (aF (fun e=>h (by simp only[e]))).symm
   refine bP (i+1) (by omega) rfl rfl ⟨by omega,fun j hj=> ?_⟩
   by_cases e:j=i
   ·subst e
    rw[List.getElem?_eq_getElem hi,List.getElem?_eq_getElem hi',h]
   ·exact p2 j (by omega)
  ·have hi:i=x.ah.length:=by omega
   refine aB (bA ?_).symm
   refine aj.ext (by first|exact h1|(simp at h1;exact h1)) (List.ext_getElem? fun j=> ?_)
   by_cases hj:j<i
   ·exact p2 j hj
   ·rw[List.getElem?_eq_none (by omega),List.getElem?_eq_none (by omega)]
theorem sN(x y:aj)(h:x.sz≤4194304):aI Tryz.prog 123 [x.v,y.v] (.c (.d (.b (dec (x=y))))):=Ay _ x (Nat.lt_succ_self _) y h
theorem Az:∀n:Nat,(∀x:aj,SizeOf.sizeOf x<n→∀y:aj,x.sz≤4194304→aI Tryz.prog 128 [x.v,y.v] (.c (.d (.b (dec (x=y))))))∧
 (∀xs:List aj,SizeOf.sizeOf xs<n→∀ys:List aj,xs.length≤4194304→(∀t∈xs,t.sz≤4194304)→aI Tryz.prog 214 [.c (.d (.sl (xs.map aj.enc))),.c (.d (.sl (ys.map aj.enc))),.c (.fn 128 [])] (.c (.d (.b (dec (xs=ys))))))
 |0=>⟨fun x h=>by omega,fun x h=>by omega⟩
 |n+1=>by
  obtain⟨ih,qh⟩:=Az n
  refine⟨fun x hn y hsz S=> ?_,fun xs hn ys hlen hsz S=> ?_⟩
  ·have Lu:=aj.oO x
   have hb:=abm hsz
   refine aG (rs:=[.tmp 4]) Tryz.checked.mixed Tryz.func128 Tryz.ntmps128 rfl rfl rfl rfl rfl ?_
   refine W1 ?_
   refine S0 (fun hb h=>?_) fun hb h=>?_
   ·have h1:=h
    refine W3 ?_
    refine aZ (qh x.ah (by omega) y.ah (by omega) (fun t ht=>by
     obtain⟨i,hi,e⟩:=List.getElem_of_mem ht
     rw[←e];exact abl hi hsz)) ?_
    refine W1 ?_
    refine aB (iq ⟨fun e=>aj.ext h1 e,fun e=>by rw[e]⟩)
   ·exact aB (aF (fun e=>h (by rw[e]))).symm
  ·refine aG (rs:=[.tmp 6]) Tryz.checked.mixed Tryz.func214 Tryz.ntmps214 rfl rfl rfl rfl rfl ?_
   refine W1 ?_
   refine S0 (fun hb h=>?_) fun hb h=>?_
   ·exact aB (aF (fun e=>h (by rw[e]))).symm
   have hl:xs.length=ys.length:=by omega
   refine aT (ι:=Nat) Tryz.checked.mixed rfl [1,2,15,16,17] (fun y=>[.c (.d (.sl (ys.map aj.enc))),.c (.fn 128 []),.c (.d (.sl (xs.map aj.enc))),.c (.d (.i .i64 xs.length)),.c (.d (.i .i64 y))]) (fun y=>[]::S)
    (fun i=>i≤xs.length∧∀j,j<i→xs[j]? =ys[j]?) (fun y=>xs.length-y) 0 rfl rfl ⟨Nat.zero_le _,fun j h=>by omega⟩ ?_
   rintro i ⟨p1,p2⟩
   refine W1 ?_
   refine S0 (fun hb h=>?_) fun hb h=>?_
   ·have hi:i<xs.length:=by omega
    have hi':i<ys.length:=by omega
    refine W3 ?_
    refine C1 (ih xs[i] (by have:=List.sizeOf_lt_of_mem (List.getElem_mem hi);omega) ys[i] (hsz _ (List.getElem_mem hi))) ?_
    refine S0 (fun hb h=>?_) fun hb h=>?_
    ·exact aB (aF (fun e=>h (by simp only[e]))).symm
    refine dh 0 (by decide) (i+1) (by omega) rfl rfl rfl rfl ⟨by omega,fun j hj=> ?_⟩
    by_cases e:j=i
    ·subst e
     rw[List.getElem?_eq_getElem hi,List.getElem?_eq_getElem hi',h]
    ·exact p2 j (by omega)
   ·have hi:i=xs.length:=by omega
    refine aB (bA (List.ext_getElem? fun j=> ?_)).symm
    by_cases hj:j<i
    ·exact p2 j hj
    ·rw[List.getElem?_eq_none (by omega),List.getElem?_eq_none (by omega)]
theorem sO(x y:aj)(h:x.sz≤4194304):aI Tryz.prog 128 [x.v,y.v] (.c (.d (.b (dec (x=y))))):=(Az _).1 x (Nat.lt_succ_self _) y h
end Go.Proofs.YtocpgjlbagncjaaGreatDoor
namespace Go.Ab
section
variable {P:Program} {w w':World} {σ σ':Nat→Nat} {S:Store} {β:Hs}
end
end Go.Ab
namespace Go.Ab
section
variable {P:Program} {w w':World} {σ σ':Nat→Nat} {β:Hs}
theorem agv{own:List Obj}{Ω:Store}(lab:Option Nat)(j i bE:Nat)(es:List (List D))(cs:List C)(hj:own[j]? =some (.box cs))(hi:cs[i]? =some (match lab with|some n=>.kW n es|none=>.bO es))(hes:∀e∈es,e.length=bE)(hS:fK w σ (own::Ω) β):
 ∃β',fK w σ ((own.set j (.box (cs.set i (.bS (0,own.length) es)))++[jE lab bE es])::Ω) β'∧Step (own::Ω) β σ w ((own.set j (.box (cs.set i (.bS (0,own.length) es)))++[jE lab bE es])::Ω) β' σ w∧Keep (own::Ω) β ((own.set j (.box (cs.set i (.bS (0,own.length) es)))++[jE lab bE es])::Ω) β':=by
 cases β with
 |nil=>have:=hS.shape.1;simp at this
 |cons bo bΩ=>
 have hlen:bo.length=own.length:=by
  obtain⟨gr,g1,g2⟩:=hS.shape.2 0 own rfl
  simp at g1;rw[g1];exact g2
 have hjl:=(List.getElem?_eq_some_iff.1 hj).1
 have hg0:bI (own::Ω) (0,j)=some (.box cs):=by rw[cO];exact hj
 obtain⟨hb,Jj,hr⟩:=hS.obj (0,j) _ hg0
 obtain⟨b,cv,ty,rfl,hbc,hσ,hcs⟩:=hr
 have hcs:gK w σ (own::Ω) (bo::bΩ) cs cv.toList:=hcs
 obtain⟨v,hv,hc0,hone⟩:=hcs.2 i _ hi
 have hx:∃ad:Option Addr,d9 w σ (.sl es) v∧v=.slice ad es.length es.length∧∀n,lab=some n→d9 w σ (.ol n es) v:=by
  cases lab with
  |none=>
   obtain⟨hd,ad,n,hval⟩:=hc0
   have hn:n=es.length:=by rw[hval] at hd;cases hd<;>rfl
   exact⟨ad,hd,by rw[hval,hn],fun n e=>by cases e⟩
  |some n=>
   obtain⟨hd,ad,m,hval⟩:=hc0
   have hn:m=es.length:=by
    have:=sP hd
    rw[hval] at this
    cases this<;>rfl
   exact⟨ad,sP hd,by rw[hval,hn],fun n' e=>by cases e;exact hd⟩
 obtain⟨ad,hd,hval,hol⟩:=hx
 have hg:Grow w σ w σ:=Grow.refl hS.live
 obtain⟨hS',hk,hst⟩:=hS.push (o:=jE lab bE es) (h:=v) hg hlen (by
  cases lab with
  |none=>exact⟨hd,hes,ad,es.length,hval,Nat.le_refl _,.inl rfl⟩
  |some n=>exact⟨hd,hes,ad,es.length,hval,Nat.le_refl _,.inl ⟨rfl,hol n rfl⟩⟩) (fun b hb=>by
  rw[hval] at hb
  cases lab<;>cases ad<;>simp[jE,owns,blk] at hb)
 have hk1:bI ((own++[jE lab bE es])::Ω) (0,j)=some (.box cs):=mO _ _ _ _ _ hg0
 have F6:bI ((bo++[v])::bΩ) (0,j)=some (.pointer (some ⟨b,0,none⟩)):=mO _ _ _ _ _ Jj
 have hko:ni (.box cs) (some (Value.pointer (some ⟨b,0,none⟩))) (.box (cs.set i (.bS (0,own.length) es))) (some (Value.pointer (some ⟨b,0,none⟩))):=.inr ⟨⟨_,rfl⟩,rfl⟩
 have hK:Keep ((own++[jE lab bE es])::Ω) ((bo++[v])::bΩ) (bQ ((own++[jE lab bE es])::Ω) (0,j) (.box (cs.set i (.bS (0,own.length) es)))) (bQ ((bo++[v])::bΩ) (0,j) (.pointer (some ⟨b,0,none⟩))):=by
  intro k1 o1 e1
  by_cases e:k1=(0,j)
  ·subst e
   rw[hk1] at e1;cases e1
   exact⟨_,dK _ _ _ _ hk1,by rw[F6,dK _ _ _ _ F6];exact hko⟩
  ·exact⟨o1,(fZ _ _ _ _ (Ne.symm e)).trans e1,by rw[fZ _ _ _ _ (Ne.symm e)];exact .refl _ _⟩
 have hne:(0,own.length)≠(0,j):=fun e=>by injection e with _ e;omega
 obtain⟨hS2,hk2,BZ⟩:=hS'.set (w':=w) (σ':=σ) (o':=.box (cs.set i (.bS (0,own.length) es))) (h':=.pointer (some ⟨b,0,none⟩)) hk1 F6 (Nat.le_refl _) rfl rfl (gD.refl _ _) hS'.live (fun _ _ _=>⟨rfl,rfl⟩) hko
  ⟨b,cv,ty,rfl,hbc,hσ,by
    refine⟨by rw[List.length_set];exact hcs.1,fun m x hm=> ?_⟩
    rw[List.getElem?_set] at hm
    by_cases e:i=m
    ·subst e
     rw[if_pos rfl] at hm
     split at hm
     ·cases hm
      refine⟨v,hv,⟨hd,jE lab bE es,?_,fun a1 b1 e1=> ?_⟩,hone⟩
      ·show bI (bQ _ (0,j) _) (0,own.length)=_
       rw[fZ _ _ _ _ (Ne.symm hne),dH]
      ·obtain⟨_,rfl⟩:=oI e1
       refine⟨Nat.le_refl _,fun _=> ?_⟩
       show bI (bQ _ (0,j) _) (0,own.length)=_
       rw[fZ _ _ _ _ (Ne.symm hne),←hlen,dH]
     ·cases hm
    ·rw[if_neg e] at hm
     obtain⟨u,hu,hc,ho⟩:=hcs.2 m x hm
     exact⟨u,hu,(hc.mono (gD.refl _ _) hk).mono (gD.refl _ _) hK,ho⟩⟩ (fun _ e=>.inl e)
 have est:bQ ((own++[jE lab bE es])::Ω) (0,j) (.box (cs.set i (.bS (0,own.length) es)))=(own.set j (.box (cs.set i (.bS (0,own.length) es)))++[jE lab bE es])::Ω:=by
  rw[bQ,List.set_append_left _ _ hjl]
 rw[est] at hS2 hk2 BZ
 exact⟨_,hS2,hst.trans BZ,hk.trans hk2⟩
end
end Go.Ab
namespace Go.Ab
section
variable {P:Program} {w w':World} {σ σ':Nat→Nat} {β:Hs} {N:Nat}
def oF(x y:C):Prop:=∀w σ S β v,jf w σ S β x v→jf w σ S β y v
theorem oF.refl(x:C):oF x x:=fun _ _ _ _ _ h=>h
theorem Ia(n:Nat):oF (.bO []) (.kW n []):=fun w σ S β v h=>by
 obtain⟨hd,a,m,hv⟩:=h
 have hm:m=0:=by rw[hv] at hd;cases hd<;>rfl
 subst hm
 exact⟨by rw[hv];exact .vw _ _ _,a,0,hv⟩
theorem dX(n:Nat):oF (.bO []) (.d (.ol n [])):=fun w σ S β v h=>(Ia n w σ S β v h).1
theorem fP(es:List (List D)):oF (.bO es) (.d (.sl es)):=fun w σ S β v h=>h.1
theorem EF(n:Nat)(es:List (List D)):oF (.d (.ol n es)) (.d (.sl es)):=fun w σ S β v h=>sP h
inductive fQ:List C→List C→Prop
 |nil:fQ [] []
 |cons {x y:C} {xs ys:List C}:oF x y→fQ xs ys→fQ (x::xs) (y::ys)
theorem fQ.refl:∀xs,fQ xs xs
 |[]=>.nil
 |x::xs=>.cons (.refl x) (fQ.refl xs)
theorem fQ.length:∀{xs ys:List C},fQ xs ys→xs.length=ys.length
 |_,_,.nil=>rfl
 |_,_,.cons _ h=>by rw[List.length_cons,List.length_cons,fQ.length h]
theorem fQ.at:∀{xs ys:List C},fQ xs ys→∀(j:Nat) (x y:C),xs[j]? =some x→ys[j]? =some y→oF x y
 |_,_,.nil,j,x,y,h,_=>by simp at h
 |_,_,.cons a h,0,x,y,h1,h2=>by simp at h1 h2;subst h1;subst h2;exact a
 |_,_,.cons a h,j+1,x,y,h1,h2=>fQ.at h j x y (by simpa using h1) (by simpa using h2)
theorem fQ.less{xs ys:List C}(h:fQ xs ys):Less (.agg xs) (.agg ys):=by
 rintro w σ S β v ⟨a,ha,hc⟩
 refine⟨a,ha,h.length.symm.trans hc.1,fun j y hy=> ?_⟩
 have hj:j<xs.length:=by rw[h.length];exact(List.getElem?_eq_some_iff.1 hy).1
 obtain⟨v,h1,h2,h3⟩:=hc.2 j _ (List.getElem?_eq_getElem hj)
 exact⟨v,h1,h.at j _ y (List.getElem?_eq_getElem hj) hy w σ S β v h2,h3⟩
theorem fQ.ahW{xs ys:List C}(h:fQ xs ys){w:World}{σ:Nat→Nat}{S:Store}{β:Hs}{vs:List Value}(hc:gK w σ S β xs vs):gK w σ S β ys vs:=by
 refine⟨h.length.symm.trans hc.1,fun j y hy=> ?_⟩
 have hj:j<xs.length:=by rw[h.length];exact(List.getElem?_eq_some_iff.1 hy).1
 obtain⟨v,h1,h2,h3⟩:=hc.2 j _ (List.getElem?_eq_getElem hj)
 exact⟨v,h1,h.at j _ y (List.getElem?_eq_getElem hj) hy w σ S β v h2,h3⟩
theorem aek{own:List Obj}{Ω:Store}(j:Nat)(cs cs':List C)(hj:own[j]? =some (.box cs))(hle:fQ cs cs')(hS:fK w σ (own::Ω) β):
 ∃β',fK w σ ((own.set j (.box cs'))::Ω) β'∧Step (own::Ω) β σ w ((own.set j (.box cs'))::Ω) β' σ w∧Keep (own::Ω) β ((own.set j (.box cs'))::Ω) β'∧gY β'=gY β∧β'.length=β.length:=by
 cases β with
 |nil=>have:=hS.shape.1;simp at this
 |cons bo bΩ=>
 have hg0:bI (own::Ω) (0,j)=some (.box cs):=by rw[cO];exact hj
 obtain⟨hb,Jj,hr⟩:=hS.obj (0,j) _ hg0
 obtain⟨b,cv,ty,rfl,hbc,hσ,hcs⟩:=hr
 have hcs:gK w σ (own::Ω) (bo::bΩ) cs cv.toList:=hcs
 have hko:ni (.box cs) (some (Value.pointer (some ⟨b,0,none⟩))) (.box cs') (some (Value.pointer (some ⟨b,0,none⟩))):=.inr ⟨⟨_,rfl⟩,rfl⟩
 have hK:Keep (own::Ω) (bo::bΩ) (bQ (own::Ω) (0,j) (.box cs')) (bQ (bo::bΩ) (0,j) (.pointer (some ⟨b,0,none⟩))):=by
  intro k1 o1 e1
  by_cases e:k1=(0,j)
  ·subst e
   rw[hg0] at e1;cases e1
   exact⟨_,dK _ _ _ _ hg0,by rw[Jj,dK _ _ _ _ Jj];exact hko⟩
  ·exact⟨o1,(fZ _ _ _ _ (Ne.symm e)).trans e1,by rw[fZ _ _ _ _ (Ne.symm e)];exact .refl _ _⟩
 obtain⟨hS2,hk2,BZ⟩:=hS.set (w':=w) (σ':=σ) (o':=.box cs') (h':=.pointer (some ⟨b,0,none⟩)) hg0 Jj (Nat.le_refl _) rfl rfl (gD.refl _ _) hS.live (fun _ _ _=>⟨rfl,rfl⟩) hko
  ⟨b,cv,ty,rfl,hbc,hσ,by
    have h1:=hle.ahW hcs
    refine⟨h1.1,fun m x hm=> ?_⟩
    obtain⟨u,hu,hc,ho⟩:=h1.2 m x hm
    exact⟨u,hu,hc.mono (gD.refl _ _) hK,ho⟩⟩ (fun _ e=>.inl e)
 have est:bQ (own::Ω) (0,j) (.box cs')=(own.set j (.box cs'))::Ω:=rfl
 rw[est] at hS2 hk2 BZ
 exact⟨_,hS2,BZ,hk2,rfl,by simp[bQ]⟩
theorem Qg{tm:List (Nat×V)}{own:List Obj}{Ω:Store}(j:Nat)(cs cs':List C)(hj:own[j]? =some (.box cs))(hle:fQ cs cs'):iN N ⟨tm,own::Ω⟩ ⟨tm,(own.set j (.box cs'))::Ω⟩:=by
 intro a w σ β hR
 obtain⟨β',hS,hst,hk,ht,_⟩:=aek j cs cs' hj hle hR.S
 refine⟨σ,β',⟨hR.size,hR.defers,hS,fun u=>(hR.T u).mono (gD.refl _ _) hk⟩,hst,?_⟩
 rw[ht];exact Keep.refl _ _
theorem Ib{tm:List (Nat×V)}{own:List Obj}{Ω:Store}(lab:Option Nat)(j i bE:Nat)(es:List (List D))(cs:List C)(hj:own[j]? =some (.box cs))(hi:cs[i]? =some (match lab with|some n=>.kW n es|none=>.bO es))(hes:∀e∈es,e.length=bE):
 iN N ⟨tm,own::Ω⟩ ⟨tm,(own.set j (.box (cs.set i (.bS (0,own.length) es)))++[jE lab bE es])::Ω⟩:=by
 intro a w σ β hR
 obtain⟨β',hS,hst,hk⟩:=agv lab j i bE es cs hj hi hes hR.S
 refine⟨σ,β',⟨hR.size,hR.defers,hS,fun u=>(hR.T u).mono (gD.refl _ _) hk⟩,hst,?_⟩
 intro k o hko
 obtain⟨o',h1,h2⟩:=hk (k.1+1,k.2) o (by
  obtain⟨l,i⟩:=k
  show bI (own::Ω) (l+1,i)=_
  rw[dD];exact hko)
 obtain⟨bo,bΩ,rfl,_⟩:=frames hR
 have h3:=hS.shape.1
 cases β' with
 |nil=>simp at h3
 |cons bo' bΩ'=>
  rw[dD] at h1
  rw[dD,dD] at h2
  exact⟨o',h1,h2⟩
theorem FP{c:Code}{Q:Exit→St→Prop}{tm:List (Nat×V)}{own:List Obj}{Ω:Store}(j:Nat)(cs cs':List C)(hj:own[j]? =some (.box cs))(hle:fQ cs cs')(h:AW P N c Q ⟨tm,(own.set j (.box cs'))::Ω⟩):AW P N c Q ⟨tm,own::Ω⟩:=oK h (Qg j cs cs' hj hle)
theorem Dn{x y:C}(hle:oF x y):∀(i:Nat) (cs:List C),cs[i]? =some x→fQ cs (cs.set i y)
 |0,[],h=>by simp at h
 |0,z::cs,h=>by simp at h;subst h;exact .cons hle (.refl cs)
 |i+1,[],h=>by simp at h
 |i+1,z::cs,h=>.cons (.refl z) (Dn hle i cs (by simpa using h))
theorem pq{c:Code}{Q:Exit→St→Prop}{tm:List (Nat×V)}{own:List Obj}{Ω:Store}(n j i bE:Nat)(cs:List C)(hj:own[j]? =some (.box cs))(hi:cs[i]? =some (.bO []))
 (h:AW P N c Q ⟨tm,(own.set j (.box (cs.set i (.bS (0,own.length) [])))++[.fF n bE []])::Ω⟩):AW P N c Q ⟨tm,own::Ω⟩:=by
 have hjl:=(List.getElem?_eq_some_iff.1 hj).1
 have hil:=(List.getElem?_eq_some_iff.1 hi).1
 refine FP j cs (cs.set i (.kW n [])) hj (Dn (Ia n) i cs hi) ?_
 refine oK ?_ (Ib (some n) j i bE [] (cs.set i (.kW n [])) (by rw[List.getElem?_set_self hjl]) (by rw[List.getElem?_set_self hil]) (by simp))
 rw[List.set_set,List.set_set,List.length_set]
 exact h
theorem qV{c:Code}{Q:Exit→St→Prop}{tm:List (Nat×V)}{own:List Obj}{Ω:Store}(j i bE:Nat)(cs:List C)(hj:own[j]? =some (.box cs))(hi:cs[i]? =some (.bO []))
 (h:AW P N c Q ⟨tm,(own.set j (.box (cs.set i (.bS (0,own.length) [])))++[.tok bE []])::Ω⟩):AW P N c Q ⟨tm,own::Ω⟩:=
 oK h (Ib none j i bE [] cs hj hi (by simp))
def Ic(x y:D):Prop:=∀w σ v,d9 w σ x v→d9 w σ y v
theorem Ic.refl(x:D):Ic x x:=fun _ _ _ h=>h
theorem Wo(d:D)(n:Nat):Ic (lI d n) d:=fun w σ v h=>adl d n v h
inductive nu:List D→List D→Prop
 |nil:nu [] []
 |cons {x y:D} {xs ys:List D}:Ic x y→nu xs ys→nu (x::xs) (y::ys)
theorem nu.refl:∀r,nu r r
 |[]=>.nil
 |x::xs=>.cons (.refl x) (nu.refl xs)
theorem nu.length:∀{r r':List D},nu r r'→r.length=r'.length
 |_,_,.nil=>rfl
 |_,_,.cons _ h=>by rw[List.length_cons,List.length_cons,h.length]
theorem nu.at:∀{r r':List D},nu r r'→∀(j:Nat) (y:D),r'[j]? =some y→∃x,r[j]? =some x∧Ic x y
 |_,_,.nil,j,y,h=>by simp at h
 |_,_,.cons a h,0,y,h2=>by simp at h2;subst h2;exact⟨_,rfl,a⟩
 |_,_,.cons a h,j+1,y,h2=>h.at j y (by simpa using h2)
theorem Pf:∀(r:List D) (n:Nat),nu (eX r n) r
 |[],n=>.nil
 |d::ds,n=>.cons (Wo d n) (Pf ds _)
theorem nu.append:∀{a a' b b':List D},nu a a'→nu b b'→nu (a++b) (a'++b')
 |_,_,_,_,.nil,h=>h
 |_,_,_,_,.cons x h,k=>.cons x (h.append k)
inductive iJ:List (List D)→List (List D)→Prop
 |nil:iJ [] []
 |cons {x y:List D} {xs ys:List (List D)}:nu x y→iJ xs ys→iJ (x::xs) (y::ys)
theorem iJ.length:∀{r r':List (List D)},iJ r r'→r.length=r'.length
 |_,_,.nil=>rfl
 |_,_,.cons _ h=>by rw[List.length_cons,List.length_cons,h.length]
theorem iJ.snoc:∀{a b:List (List D)} {x y:List D},iJ a b→nu x y→iJ (a++[x]) (b++[y])
 |_,_,_,_,.nil,h=>.cons h .nil
 |_,_,_,_,.cons z h,k=>.cons z (h.snoc k)
theorem iJ.rows{z:Nat}:∀{a b:List (List D)},iJ a b→(∀r∈b,r.length=z)→∀r∈a,r.length=z
 |_,_,.nil,h,r,hr=>by cases hr
 |_,_,.cons x h,k,r,hr=>by
  rcases List.mem_cons.1 hr with rfl|hr
  ·rw[x.length];exact k _ (by simp)
  ·exact h.rows (fun r hr=>k r (by simp[hr])) r hr
theorem iJ.flat:∀{a b:List (List D)},iJ a b→nu a.flatten b.flatten
 |_,_,.nil=>.nil
 |_,_,.cons x h=>by rw[List.flatten_cons,List.flatten_cons];exact x.append h.flat
theorem iJ.rep{a b:List (List D)}(h:iJ a b){w:World}{σ:Nat→Nat}{v:Value}(hr:d9 w σ (.sl a) v):d9 w σ (.sl b) v:=by
 cases hr with
 |nil ad cap=>
  cases h
  exact .nil ad cap
 |sl b0 off cap bE es vals c t fz hcap hlen hb hσ hc hv=>
  have hl:=h.length
  rw[hl] at hcap hσ hc ⊢
  have hlb:∀e∈b,e.length=bE:=fun e he=>by
   obtain⟨i,hi,rfl⟩:=List.getElem_of_mem he
   have:∀{a b:List (List D)} (h:iJ a b) (i:Nat) (hi:i<b.length) (hi':i<a.length),nu a[i] b[i]:=by
    intro a b h
    induction h with
    |nil=>intro i hi;simp at hi
    |cons x h ih=>intro i hi hi';cases i with
     |zero=>exact x
     |succ i=>exact ih i (by simpa using hi) (by simpa using hi')
   have h1:=this h i hi (by omega)
   rw[←h1.length];exact hlen _ (List.getElem_mem _)
  refine .sl b0 off cap bE b vals c t fz hcap hlb hb hσ hc fun j d hd=> ?_
  obtain⟨x,hx,hle⟩:=h.flat.at j d hd
  exact hle w σ _ (hv j x hx)
theorem pz:∀(r:List (List D)) (n:Nat),iJ (eB r n) r
 |[],n=>.nil
 |d::ds,n=>.cons (Pf d n) (pz ds _)
inductive jd:List (Bool×List C)→List (Bool×List C)→Prop
 |nil:jd [] []
 |cons {b:Bool} {cs cs':List C} {xs ys:List (Bool×List C)}:fQ cs cs'→jd xs ys→jd ((b,cs)::xs) ((b,cs')::ys)
theorem jd.refl:∀xs,jd xs xs
 |[]=>.nil
 |(b,cs)::xs=>.cons (.refl cs) (jd.refl xs)
theorem jd.length:∀{xs ys:List (Bool×List C)},jd xs ys→xs.length=ys.length
 |_,_,.nil=>rfl
 |_,_,.cons _ h=>by rw[List.length_cons,List.length_cons,h.length]
theorem jd.at:∀{xs ys:List (Bool×List C)},jd xs ys→∀(j:Nat) (y:Bool×List C),ys[j]? =some y→∃cs,xs[j]? =some (y.1,cs)∧fQ cs y.2
 |_,_,.nil,j,y,h=>by simp at h
 |_,_,.cons a h,0,y,h2=>by simp at h2;subst h2;exact⟨_,rfl,a⟩
 |_,_,.cons a h,j+1,y,h2=>h.at j y (by simpa using h2)
theorem jd.less{xs ys:List (Bool×List C)}(h:jd xs ys):Less (.dY xs) (.dY ys):=by
 rintro w σ S β v ⟨a,ha,hl,hc⟩
 refine⟨a,ha,h.length.symm.trans hl,fun j y hy=> ?_⟩
 obtain⟨cs,h1,h2⟩:=h.at j y hy
 obtain⟨u,hu,hr⟩:=hc j _ h1
 refine⟨u,hu,?_⟩
 obtain⟨b,cs'⟩:=y
 cases b with
 |true=>
  obtain⟨a',e,hcs⟩:=hr
  exact⟨a',e,h2.ahW hcs⟩
 |false=>
  obtain⟨x,e,hx,ho⟩:=hr
  simp only at e h2
  subst e
  cases h2 with
  |cons hxy hn=>
   cases hn
   exact⟨_,rfl,hxy w σ S β u hx,ho⟩
theorem aI.of_le{f:FuncId}{args:List V}{t:V}(h:∀S,cB P f args S fun r S'=>Less r t∧S'=S):aI P f args t:=fun S=>
 ⟨(h S).1,fun w σ β vs hS hv=>((h S).2 w σ β vs hS hv).mono fun e w' ⟨v,r,S',σ',β',h1,h2,h3,h4,h5,h6,h7⟩=>⟨v,t,S',σ',β',h1,h2,h3,h4,h6 _ _ _ _ _ h5,rfl,h7⟩⟩
theorem abn{cs cs':List C}{xs:List (Bool×List C)}(h:∀w σ S β vs,gK w σ S β cs vs→gK w σ S β cs' vs):Less (.dY ((true,cs)::xs)) (.dY ((true,cs')::xs)):=by
 rintro w σ S β v ⟨a,ha,hl,hc⟩
 obtain⟨u,hu,a',rfl,hcs⟩:=hc 0 _ rfl
 refine⟨a,ha,hl,fun j y hy=> ?_⟩
 cases j with
 |zero=>
  simp at hy;subst hy
  exact⟨_,hu,a',rfl,h _ _ _ _ _ hcs⟩
 |succ j=>exact hc (j+1) y (by simpa using hy)
theorem iF(v:V):Less v v:=fun _ _ _ _ _ h=>h
end
end Go.Ab
namespace Go.Ab
theorem zY{α:Type}[SizeOf α]:∀(i:Nat) (l:List α),SizeOf.sizeOf (l.drop i)≤SizeOf.sizeOf l
 |0,l=>by simp
 |i+1,[]=>by simp
 |i+1,x::l=>by
  have:=zY i l
  rw[List.drop_succ_cons];simp only[List.cons.sizeOf_spec];omega
theorem oq(l:List aj)(n i:Nat)(h:l.length≤n):((l.map aj.enc).take n).drop i=(l.drop i).map aj.enc:=by
 rw[List.take_of_length_le (by rw[List.length_map];exact h),List.map_drop]
theorem wm(l:List aj)(i:Nat):(l.getD i dB).sz≤dQ l:=by
 rw[List.getD_eq_getElem?_getD]
 by_cases h:i<l.length
 ·rw[List.getElem?_eq_getElem h];exact iK (List.getElem_mem h)
 ·rw[List.getElem?_eq_none (by omega)]
  rw[Option.getD_none,kI];simp[dB,aj.bf,aj.ah,bD]
theorem eP(x:aj):x.ah.length+dQ x.ah≤x.sz:=by rw[kI,mI];omega
theorem zK(x:aj):x.bf.length≤x.sz:=by rw[kI];omega
def yA(x:aj):List D:=[.s x.bf]
def allA(l:List aj):Bool:=l.all fun x=>decide (x.bf≠[])
theorem Wp{l:List aj}{i:Nat}(hi:i<l.length)(h:l[i].bf=[]):allA l=false∧fq l=[]:=by
 have:allA l=false:=by
  unfold allA
  rw[List.all_eq_false]
  exact⟨_,List.getElem_mem hi,by simp[h]⟩
 refine⟨this,?_⟩
 unfold fq
 unfold allA at this
 rw[this];rfl
theorem TD{l:List aj}(h:∀j (hj:j<l.length),l[j].bf≠[]):allA l=true∧(fq l).map encS=l.map yA:=by
 have:allA l=true:=by
  unfold allA
  rw[List.all_eq_true]
  intro x hx
  obtain⟨j,hj,rfl⟩:=List.getElem_of_mem hx
  exact decide_eq_true (h j hj)
 refine⟨this,?_⟩
 unfold fq
 unfold allA at this
 rw[this,if_pos rfl,List.map_map];rfl
theorem Ie{l:List aj}{i:Nat}(hi:i<l.length):(l.take i).map yA++[[.s l[i].bf]]=(l.take (i+1)).map yA:=by
 rw[List.take_succ_eq_append_getElem hi,List.map_append];rfl
theorem JJ{l:List aj}{i:Nat}:((l.take i).map yA).length≤i:=by rw[List.length_map];exact List.length_take_le _ _
def lt(l:List au)(n:Nat):List (List D):=eB (l.map au.enc) n
def gq(l:List au):Nat:=iW (l.map au.enc)
theorem agw(x:au)(n:Nat):eX x.enc n=[.i .i64 x.aK,.s x.fName,.ol n (lt x.fArgs (n+1))]:=by
 rw[au.aD];simp only[eX,lI,ow,Nat.add_zero,lt]
theorem abo(l:List au)(n:Nat):(lt l n).length=l.length:=by unfold lt;rw[jN,List.length_map]
theorem agx{l:List au}{i:Nat}(hi:i<l.length)(n:Nat):lt (l.take i) n++[[.i .i64 l[i].aK,.s l[i].fName,.ol (n+gq (l.take i)) (lt l[i].fArgs (n+gq (l.take i)+1))]]=lt (l.take (i+1)) n:=by
 rw[List.take_succ_eq_append_getElem hi]
 unfold lt gq
 rw[List.map_append,pO]
 simp only[List.map_cons,List.map_nil,eB,agw,lt]
theorem Pg{l:List au}{i:Nat}(hi:i<l.length):(l.take i).map au.enc++[[.i .i64 l[i].aK,.s l[i].fName,.sl (l[i].fArgs.map au.enc)]]=(l.take (i+1)).map au.enc:=by
 rw[List.take_succ_eq_append_getElem hi,List.map_append]
 simp only[List.map_cons,List.map_nil,au.aD]
theorem NZ(k:Int)(s:List UInt8)(n:Nat):Less (.agg [.d (.i .i64 k),.d (.s s),.bO []]) (.agg [.d (.i .i64 k),.d (.s s),.d (.ol n [])]):=(fQ.cons (.refl _) (.cons (.refl _) (.cons (dX n) .nil))).less
theorem Wq(k:Int)(s:List UInt8)(es:List (List D)):Less (.agg [.d (.i .i64 k),.d (.s s),.bO es]) (.agg [.d (.i .i64 k),.d (.s s),.d (.sl es)]):=(fQ.cons (.refl _) (.cons (.refl _) (.cons (fP es) .nil))).less
theorem ahX{s:List UInt8}(h:s≠[]):((s.getD 0 0).toNat:Int)=39↔s.head? =some 39:=by
 cases s with
 |nil=>exact(h rfl).elim
 |cons b s=>
  simp only[List.getD_cons_zero,List.head?_cons,Option.some.injEq]
  constructor
  ·intro e
   have:b.toNat=39:=by omega
   exact UInt8.toNat.inj this
  ·intro e;rw[e];rfl
theorem MK(s:List UInt8)(n:Nat)(h:s.length≤n):(s.take n).drop 1=s.tail:=by rw[List.take_of_length_le h,List.drop_one]
theorem ML{a b:List (List D)}(h:iJ a b):oF (.d (.sl a)) (.d (.sl b)):=fun w σ S β v hr=>h.rep hr
abbrev au.vl (t:au) (n:Nat):V:=.agg [.d (.i .i64 t.aK),.d (.s t.fName),.d (.ol n (lt t.fArgs (n+1)))]
theorem wo(l:List (List UInt8)):iW (l.map encS)=0:=by
 induction l with
 |nil=>rfl
 |cons s l ih=>rw[List.map_cons,iW,ih];rfl
theorem ahY{b:Bool}{x:aj}{r:V}{k:Int}{s:List UInt8}{l:List au}(h:dO b x=.mk k s l)(hl:Less r (.agg [.d (.i .i64 k),.d (.s s),.d (.sl (l.map au.enc))])):Less r (dO b x).v:=by rw[h];exact hl
theorem aeY{b:Bool}{x:aj}{k:Int}{s:List UInt8}(h:dO b x=.mk k s []):Less (.agg [.d (.i .i64 k),.d (.s s),.bO []]) (dO b x).v:=by rw[h];exact Wq k s []
theorem aeZ{b:Bool}{x:aj}{k:Int}{s:List UInt8}(h:dO b x=.mk k s []):Less (.agg [.d (.i .i64 k),.d (.s s),.d (.sl [])]) (dO b x).v:=by rw[h];exact iF _
theorem ae0{b:Bool}{x:aj}{r:V}{n:Nat}{k:Int}{s:List UInt8}{l:List au}(h:dO b x=.mk k s l)(hl:Less r (.agg [.d (.i .i64 k),.d (.s s),.d (.ol n (lt l (n+1)))])):Less r ((dO b x).vl n):=by rw[h];exact hl
theorem abp{b:Bool}{x:aj}{n:Nat}{k:Int}{s:List UInt8}(h:dO b x=.mk k s []):Less (.agg [.d (.i .i64 k),.d (.s s),.bO []]) ((dO b x).vl n):=by rw[h];exact NZ k s n
theorem abq{b:Bool}{x:aj}{n:Nat}{k:Int}{s:List UInt8}(h:dO b x=.mk k s []):Less (.agg [.d (.i .i64 k),.d (.s s),.d (.ol n [])]) ((dO b x).vl n):=by rw[h];exact iF _
theorem Vt{s:List UInt8}(h:1≤s.length):(s.take 1).drop 0=[39]↔s.head? =some 39:=by
 cases s with
 |nil=>simp at h
 |cons b s=>simp
end Go.Ab
namespace Go.Proofs.YtocpgjlbagncjaaGreatDoor
open Go Go.Ab
theorem CK(xs:List aj)(hx:xs.length≤1073741824):aI Tryz.prog 29 [.c (.d (.sl (xs.map aj.enc)))] (.dY [(false,[.d (.sl ((fq xs).map encS))]),(false,[.d (.b (allA xs))])]):=aI.of_le fun S=>by
 refine aG (rs:=[.tmp 2,.tmp 3]) Tryz.checked.mixed Tryz.func29 Tryz.ntmps29 rfl rfl rfl rfl rfl ?_
 refine W1 ?_
 refine W3 ?_
 refine mR 4 1 [] rfl (by simp) ?_
 refine aT (ι:=Nat) Tryz.checked.mixed rfl [0,4,5] (fun i=>[.c (.d (.sl (xs.map aj.enc))),.c (.bS (0,0) ((xs.take i).map yA)),.c (.d (.i .i64 i))]) (fun i=>[.tok 1 ((xs.take i).map yA)]::S)
  (fun i=>i≤xs.length∧∀j,∀hj:j<xs.length,j<i→xs[j].bf≠[]) (fun i=>xs.length-i) 0 rfl rfl ⟨Nat.zero_le _,fun j _ h=>by omega⟩ ?_
 rintro i ⟨p1,p2⟩
 have hl:=JJ (l:=xs) (i:=i)
 simp -implicitDefEqProofs (disch:=omega) only[go_sem,aj.aD]
 refine S0 (fun hb h=>?_) fun hb h=>?_
 ·have hi':i<xs.length:=by omega
  have hs:=Ie hi'
  refine W3 ?_
  refine S0 (fun hb h=>?_) fun hb h=>?_
  ·obtain⟨e1,e2⟩:=Wp hi' h
   rw[e1,e2]
   exact(jd.cons (.cons (fP _) .nil) (.refl _)).less
  ·refine W3 ?_
   rw[hs]
   refine bP (i+1) (by omega) rfl rfl ⟨by omega,fun j hj hji=> ?_⟩
   by_cases e':j=i
   ·subst e';exact h
   ·exact p2 j hj (by omega)
 ·have hi':i=xs.length:=by omega
  subst hi'
  obtain⟨e1,e2⟩:=TD fun j hj=>p2 j hj hj
  rw[e1,e2,List.take_length]
  exact iF _
theorem rA(x:aj)(hx:x.sz≤4194304):aI Tryz.prog 142 [x.v] (.c (.d (.sl ((fq x.ah).map encS)))):=fun S=>by
 have:=eP x
 refine aG (rs:=[.tmp 2]) Tryz.checked.mixed Tryz.func142 Tryz.ntmps142 rfl rfl rfl rfl rfl ?_
 refine W1 ?_
 exact C3 (CK x.ah (by omega))
theorem fJ(x:aj)(i:Nat)(hx:x.sz≤4194304)(hi:i≤100):aI Tryz.prog 30 [x.v,.c (.d (.i .i64 i))] (x.ah.getD i dB).v:=aI.of_le fun S=>by
 have:=eP x
 refine aG (rs:=[.cell 4 37]) Tryz.checked.mixed Tryz.func30 Tryz.ntmps30 rfl rfl rfl rfl rfl ?_
 refine W1 ?_
 refine S0 (fun hb h=>?_) fun hb h=>?_
 ·rw[List.getD_eq_getElem?_getD,List.getElem?_eq_none (by omega)]
  exact(fQ.cons (.refl _) (.cons (fP _) .nil)).less
 ·have hi:i<x.ah.length:=by omega
  rw[List.getD_eq_getElem?_getD,List.getElem?_eq_getElem hi]
  exact iF _
theorem uo(a b:Int):aI Tryz.prog 199 [.c (.d (.i .i64 a)),.c (.d (.i .i64 b))] (.c (.d (.i .i64 (min a b)))):=fun S=>by
 refine aG (rs:=[.tmp 4]) Tryz.checked.mixed Tryz.func199 Tryz.ntmps199 rfl rfl rfl rfl rfl ?_
 refine W1 ?_
 refine S0 (fun hb h=>?_) fun hb h=>?_
 ·exact int_eq (by omega)
 ·exact int_eq (by omega)
theorem wZ(x:aj)(i:Nat)(hx:x.sz≤4194304):aI Tryz.prog 143 [x.v,.c (.d (.i .i64 i))] (.c (.d (.sl ((x.ah.drop i).map aj.enc)))):=fun S=>by
 have:=eP x
 refine aG (rs:=[.tmp 4]) Tryz.checked.mixed Tryz.func143 Tryz.ntmps143 rfl rfl rfl rfl rfl ?_
 refine W1 ?_
 refine aZ (uo _ _) ?_
 have e:min (i:Int) (x.ah.length:Int)=((min i x.ah.length:Nat):Int):=by omega
 rw[e]
 have hr:=gT (l:=x.ah)
 refine W1 ?_
 refine W3 ?_
 refine⟨⟨by omega,by omega,by omega,hr⟩,?_⟩
 rw[oq _ _ _ (Nat.le_refl _)]
 by_cases h:i≤x.ah.length
 ·rw[Nat.min_eq_left h]
 ·rw[Nat.min_eq_right (by omega),List.drop_length,List.drop_of_length_le (by omega)]
theorem YW(s:List UInt8):aI Tryz.prog 227 [.c (.d (.s s)),.c (.d (.sl []))] (.agg [.d (.i .i64 2),.d (.s s),.d (.sl [])]):=aI.of_le fun S=>by
 refine aG (rs:=[.cell 4 46]) Tryz.checked.mixed Tryz.func227 Tryz.ntmps227 rfl rfl rfl rfl rfl ?_
 refine W1 ?_
 refine W3 ?_
 exact iF _
theorem YX(s:List UInt8):aI Tryz.prog 226 [.c (.d (.s s))] (.agg [.d (.i .i64 1),.d (.s s),.d (.sl [])]):=aI.of_le fun S=>by
 refine aG (rs:=[.cell 2 46]) Tryz.checked.mixed Tryz.func226 Tryz.ntmps226 rfl rfl rfl rfl rfl ?_
 refine W1 ?_
 refine W3 ?_
 exact Wq _ _ _
theorem Gf:∀N:Nat,(∀x:aj,SizeOf.sizeOf x<N→x.sz≤4194304→aI Tryz.prog 145 [x.v] (dO false x).v)
 |0=>fun x h=>by omega
 |N+1=>by
  have ih:=Gf N
  intro x hn hsz
  have jS:=aj.oO x
  have h1:=eP x
  have h2:=zK x
  have hx:=Wd false x
  have hall:∀t∈x.ah,t.sz≤4194304:=fun t ht=>by have:=iK ht;omega
  refine aI.of_le fun S=> ?_
  refine aG (rs:=[.cell 2 46]) Tryz.checked.mixed Tryz.func145 Tryz.ntmps145 rfl rfl rfl rfl rfl ?_
  refine W1 ?_
  refine S0 (fun hb h=>?_) fun hb h=>?_
  ·have hne:=h
   rw[if_neg h] at hx
   have h39:=ahX h
   have hln:0<x.bf.length:=List.length_pos_iff.2 hne
   have hsl:=MK x.bf x.bf.length (Nat.le_refl _)
   refine W3 ?_
   refine S0 (fun hb h=>?_) fun hb h=>?_
   ·rw[if_pos (h39.1 h)] at hx
    refine W3 ?_
    rw[hsl]
    refine C1 (YX _) ?_
    exact aeZ hx
   ·rw[if_neg (fun e=>h (h39.2 e))] at hx
    refine C1 (YW _) ?_
    exact aeZ hx
  rw[if_pos h] at hx
  refine S0 (fun hb h=>?_) fun hb h=>?_
  ·rw[if_pos (by omega)] at hx
   exact aeY hx
  rw[if_neg (by omega)] at hx
  have hl2:2≤x.ah.length:=by omega
  have a0:=jA (l:=x.ah) (i:=0) (by omega)
  have a1:=jA (l:=x.ah) (i:=1) (by omega)
  obtain⟨T,hT⟩:∃T:Nat→List (List D),T=fun i=>(((x.ah.map (dO false)).drop 1).take i).map au.enc:=⟨_,rfl⟩
  have hT0:T 0=[]:=by rw[hT];rfl
  have ig:∀i,(T i).length≤i:=fun i=>by rw[hT];simp only[List.length_map];exact List.length_take_le _ _
  have hTr:∀i,∀r∈T i,r.length=3:=fun i=>by
   rw[hT];intro r hr
   obtain⟨z,_,rfl⟩:=List.mem_map.1 hr
   exact z.dn
  have hTs:∀i (hi:i+1<x.ah.length),T i++[[.i .i64 (dO false x.ah[i+1]).aK,.s (dO false x.ah[i+1]).fName,.sl ((dO false x.ah[i+1]).fArgs.map au.enc)]]=T (i+1):=fun i hi=>by
   have:=Pg (l:=(x.ah.map (dO false)).drop 1) (i:=i) (by rw[List.length_drop,List.length_map];omega)
   rw[List.getElem_drop,List.getElem_map] at this
   rw[hT];simp only[Nat.add_comm 1 i] at this ⊢;exact this
  have hTe:T (x.ah.length-1)=((x.ah.map (dO false)).drop 1).map au.enc:=by
   rw[hT];simp only
   rw[List.take_of_length_le (by simp)]
  have hTn:(T (x.ah.length-1)).length=x.ah.length-1:=by rw[hTe];simp
  have hTd:(T (x.ah.length-1)).drop 1=((x.ah.map (dO false)).drop 2).map au.enc:=by rw[hTe,←List.map_drop,List.drop_drop]
  clear hT
  refine W3 ?_
  refine mR 4 3 [] rfl (by simp) ?_
  refine aT (ι:=Nat) Tryz.checked.mixed rfl [1,2,3,4,5] (fun i=>[.c (.ptr (0,0) 0),.c (.ptr (0,1) 0),.c (.d (.s x.ah[0].bf)),.c (.bS (0,2) (T i)),.c (.d (.i .i64 ((i+1:Nat):Int)))])
   (fun i=>[.box [.d (.s x.bf),.d (.sl (x.ah.map aj.enc))],.box [.d (.i .i64 0),.d (.s []),.bO []],.tok 3 (T i)]::S)
   (fun i=>i+1≤x.ah.length) (fun i=>x.ah.length-(i+1)) 0 (by rw[hT0];rfl) (by rw[hT0];rfl) (by omega) ?_
  intro i hi
  have hl:=ig i
  refine W1 ?_
  refine S0 (fun hb h=>?_) fun hb h=>?_
  ·have hi':i+1<x.ah.length:=by omega
   have hm:=List.getElem_mem hi'
   have hs:=hTs i hi'
   refine W3 ?_
   refine aZ (ih x.ah[i+1] (by have:=List.sizeOf_lt_of_mem hm;omega) (hall _ hm)) ?_
   simp -implicitDefEqProofs (disch:=omega) only[go_sem,au.aD]
   refine W3 ?_
   rw[hs]
   exact bP (i+1) (by omega) rfl rfl (by omega)
  have hi':i=x.ah.length-1:=by omega
  subst hi'
  have hrows:=hTr (x.ah.length-1)
  have hta:((T (x.ah.length-1)).take (x.ah.length-1))=T (x.ah.length-1):=List.take_of_length_le (by omega)
  rw[a0,a1] at hx
  have tD:x.ah[0].bf=[100,121,110]∧x.ah.length=2∧x.ah[1].bf≠[]→dO false x=.mk 4 x.ah[1].bf []:=fun e=>hx.trans (if_pos ⟨e.1,.inr e.2⟩)
  have tA:x.ah[0].bf=[97,115,115,111,99]∧x.ah.length=3∧x.ah[1].bf≠[]→dO false x=.mk 3 x.ah[1].bf ((x.ah.map (dO false)).drop 2):=fun e=>by
   rw[hx,if_neg (fun e'=>by have:=e'.1.symm.trans e.1;revert this;decide),if_pos ⟨e.1,.inr e.2⟩]
  have tN:¬(x.ah[0].bf=[100,121,110]∧x.ah.length=2∧x.ah[1].bf≠[])→¬(x.ah[0].bf=[97,115,115,111,99]∧x.ah.length=3∧x.ah[1].bf≠[])→dO false x=.mk 2 x.ah[0].bf ((x.ah.map (dO false)).drop 1):=fun e1 e2=>by
   rw[hx,if_neg (fun e'=>e1 ⟨e'.1,e'.2.resolve_left (by decide)⟩),if_neg (fun e'=>e2 ⟨e'.1,e'.2.resolve_left (by decide)⟩)]
  clear hx hTs ih
  repeat' (first|(refine S0 (fun hb h=>?_) fun hb h=>?_))
  all_goals first
   |(refine⟨⟨by omega,by omega,hrows⟩,?_⟩;refine ahY (tA ⟨by assumption,by omega,by assumption⟩) ?_;rw[hTn,hta,hTd];exact iF _)
   |exact aeY (tD ⟨by assumption,by omega,by assumption⟩)
   |(refine ahY (tN (fun⟨a,b,c⟩=>by first|contradiction|omega) (fun⟨a,b,c⟩=>by first|contradiction|omega)) ?_;rw[hTe];exact iF _)
   |trace_state
theorem p8(x:aj)(hsz:x.sz≤4194304):aI Tryz.prog 145 [x.v] (dO false x).v:=Gf _ x (Nat.lt_succ_self _) hsz
theorem Gg(xs:List aj)(hlen:xs.length≤4194304)(hsz:∀t∈xs,t.sz≤4194304):aI Tryz.prog 144 [.c (.d (.sl (xs.map aj.enc)))] (.c (.d (.sl ((xs.map (dO false)).map au.enc)))):=fun S=>by
 refine aG (rs:=[.tmp 2]) Tryz.checked.mixed Tryz.func144 Tryz.ntmps144 rfl rfl rfl rfl rfl ?_
 refine W1 ?_
 refine W3 ?_
 refine mR 3 3 [] rfl (by simp) ?_
 refine aT (ι:=Nat) Tryz.checked.mixed rfl [0,3,4] (fun i=>[.c (.d (.sl (xs.map aj.enc))),.c (.bS (0,0) (((xs.map (dO false)).take i).map au.enc)),.c (.d (.i .i64 i))]) (fun i=>[.tok 3 (((xs.map (dO false)).take i).map au.enc)]::S)
  (fun i=>i≤xs.length) (fun i=>xs.length-i) 0 rfl rfl (Nat.zero_le _) ?_
 intro i hi
 have hl:(((xs.map (dO false)).take i).map au.enc).length≤i:=by rw[List.length_map];exact List.length_take_le _ _
 refine W1 ?_
 refine S0 (fun hb h=>?_) fun hb h=>?_
 ·have hi':i<xs.length:=by omega
  have hs:=Pg (l:=xs.map (dO false)) (i:=i) (by rw[List.length_map];exact hi')
  rw[List.getElem_map] at hs
  refine W3 ?_
  refine C1 (p8 xs[i] (hsz _ (List.getElem_mem hi'))) ?_
  refine W3 ?_
  rw[hs]
  exact bP (i+1) (by omega) rfl rfl (by omega)
 ·have hi':i=(xs.map (dO false)).length:=by rw[List.length_map];omega
  rw[hi',List.take_length]
theorem MN(s:List UInt8)(hs:s.length≤1073741824):aI Tryz.prog 322 [.c (.d (.s s)),.c (.d (.s [39]))] (.c (.d (.b (decide (s.head? =some 39))))):=fun S=>by
 refine aG (rs:=[.tmp 4]) Tryz.checked.mixed Tryz.func322 Tryz.ntmps322 rfl rfl rfl rfl rfl ?_
 refine W1 ?_
 refine S0 (fun hb h=>?_) fun hb h=>?_
 ·exact aB (decide_eq_decide.2 (Vt (by omega)))
 ·have:s=[]:=List.eq_nil_of_length_eq_zero (by omega)
  subst this
  rfl
theorem MO(s:List UInt8)(hs:s.length≤1073741824):aI Tryz.prog 294 [.c (.d (.s s)),.c (.d (.s [39]))] (.dY [(false,[.d (.s (if s.head? =some 39 then s.tail else s))]),(false,[.d (.b (decide (s.head? =some 39)))])]):=fun S=>by
 refine aG (rs:=[.tmp 4,.tmp 5]) Tryz.checked.mixed Tryz.func294 Tryz.ntmps294 rfl rfl rfl rfl rfl ?_
 refine W1 ?_
 refine C1 (MN s hs) ?_
 refine S0 (fun hb h=>?_) fun hb h=>?_
 ·rw[if_neg h,decide_eq_false h]
 ·have hl:0<s.length:=by
   cases s with
   |nil=>cases h
   |cons _ _=>simp
  refine W3 ?_
  rw[if_pos h,decide_eq_true h,MK _ _ (Nat.le_refl _)]
theorem TF(s:List UInt8)(hs:s.length≤1073741824):aI Tryz.prog 247 [.c (.d (.s s)),.c (.d (.s [39]))] (.dY [(false,[.d (.s (if s.head? =some 39 then s.tail else s))]),(false,[.d (.b (decide (s.head? =some 39)))])]):=fun S=>by
 refine aG (rs:=[.tmp 4,.tmp 5]) Tryz.checked.mixed Tryz.func247 Tryz.ntmps247 rfl rfl rfl rfl rfl ?_
 refine W1 ?_
 exact C3 (MO s hs)
theorem yU(xs:List aj)(hx:xs.length≤1073741824)(n:Nat):aI Tryz.prog 36 [.c (.d (.sl (xs.map aj.enc)))] (.dY [(false,[.d (.ol n ((fq xs).map encS))]),(false,[.d (.b (allA xs))])]):=aI.of_le fun S=>by
 refine kC (n) (rs:=[.tmp 2,.tmp 3]) Tryz.checked.mixed Tryz.func36 Tryz.ntmps36 rfl rfl rfl rfl rfl ?_
 refine W1 ?_
 refine W3 ?_
 refine l6 n 4 1 [] (.inl rfl) (by simp) ?_
 refine aT (ι:=Nat) Tryz.checked.mixed rfl [4,8,9,10] (fun i=>[.c (.bS (0,1) ((xs.take i).map yA)),.c (.d (.sl (xs.map aj.enc))),.c (.d (.i .i64 xs.length)),.c (.d (.i .i64 i))]) (fun i=>[.seed n,.fF n 1 ((xs.take i).map yA)]::S)
  (fun i=>i≤xs.length∧∀j,∀hj:j<xs.length,j<i→xs[j].bf≠[]) (fun i=>xs.length-i) 0 rfl rfl ⟨Nat.zero_le _,fun j _ h=>by omega⟩ ?_
 rintro i ⟨p1,p2⟩
 have hl:=JJ (l:=xs) (i:=i)
 simp -implicitDefEqProofs (disch:=omega) only[go_sem,aj.aD]
 refine S0 (fun hb h=>?_) fun hb h=>?_
 ·have hi':i<xs.length:=by omega
  have hs:=Ie hi'
  refine W3 ?_
  refine S0 (fun hb h=>?_) fun hb h=>?_
  ·obtain⟨e1,e2⟩:=Wp hi' h
   rw[e1,e2]
   exact(jd.cons (.cons (dX n) .nil) (.refl _)).less
  ·refine W3 ?_
   rw[hs]
   refine dh 2 (by decide) (i+1) (by omega) rfl rfl rfl rfl ⟨by omega,fun j hj hji=> ?_⟩
   by_cases e':j=i
   ·subst e';exact h
   ·exact p2 j hj (by omega)
 ·have hi':i=xs.length:=by omega
  subst hi'
  obtain⟨e1,e2⟩:=TD fun j hj=>p2 j hj hj
  rw[e1,e2,List.take_length]
  exact iF _
theorem qA(x:aj)(hx:x.sz≤4194304)(n:Nat):aI Tryz.prog 163 [x.v] (.c (.d (.ol n ((fq x.ah).map encS)))):=fun S=>by
 have:=eP x
 refine aG (rs:=[.tmp 2]) Tryz.checked.mixed Tryz.func163 Tryz.ntmps163 rfl rfl rfl rfl rfl ?_
 refine W1 ?_
 exact C3 (yU x.ah (by omega) n)
theorem Vu(s:List UInt8)(n:Nat):aI Tryz.prog 248 [.c (.d (.s s))] (.agg [.d (.i .i64 1),.d (.s s),.d (.ol n [])]):=aI.of_le fun S=>by
 refine aG (rs:=[.cell 2 46]) Tryz.checked.mixed Tryz.func248 Tryz.ntmps248 rfl rfl rfl rfl rfl ?_
 refine W1 ?_
 refine W3 ?_
 exact NZ _ _ _
theorem Vv(s:List UInt8)(n:Nat):aI Tryz.prog 249 [.c (.d (.s s))] (.agg [.d (.i .i64 4),.d (.s s),.d (.ol n [])]):=aI.of_le fun S=>by
 refine aG (rs:=[.cell 2 46]) Tryz.checked.mixed Tryz.func249 Tryz.ntmps249 rfl rfl rfl rfl rfl ?_
 refine W1 ?_
 refine W3 ?_
 exact NZ _ _ _
theorem AX:∀N:Nat,(∀x:aj,SizeOf.sizeOf x<N→∀n:Nat,x.sz≤4194304→aI Tryz.prog 166 [x.v] ((dO true x).vl n))∧
 (∀xs:List aj,SizeOf.sizeOf xs<N→∀n q:Nat,xs.length≤4194304→(∀t∈xs,t.sz≤4194304)→aI Tryz.prog 164 [.c (.d (.sl (xs.map aj.enc)))] (.c (.d (.ol n (lt (xs.map (dO true)) q)))))
 |0=>⟨fun x h=>by omega,fun x h=>by omega⟩
 |N+1=>by
  obtain⟨ih,qh⟩:=AX N
  refine⟨fun x hn n hsz=>aI.of_le fun S=> ?_,fun xs hn n q hlen hsz S=> ?_⟩
  ·have jS:=aj.oO x
   have h1:=eP x
   have h2:=zK x
   have hx:=Wd true x
   have hall:∀t∈x.ah,t.sz≤4194304:=fun t ht=>by have:=iK ht;omega
   refine aG (rs:=[.cell 2 46]) Tryz.checked.mixed Tryz.func166 Tryz.ntmps166 rfl rfl rfl rfl rfl ?_
   refine W1 ?_
   refine S0 (fun hb h=>?_) fun hb h=>?_
   ·rw[if_neg h] at hx
    refine C1 (TF x.bf (by omega)) ?_
    refine S0 (fun hb h=>?_) fun hb h=>?_
    ·rw[if_pos h] at hx ⊢
     refine C1 (Vu _ n) ?_
     exact abq hx
    ·rw[if_neg h] at hx
     refine W3 ?_
     exact abp hx
   rw[if_pos h] at hx
   refine S0 (fun hb h=>?_) fun hb h=>?_
   ·rw[if_pos (by omega)] at hx
    exact abp hx
   rw[if_neg (by omega)] at hx
   have hl2:2≤x.ah.length:=by omega
   have a0:=jA (l:=x.ah) (i:=0) (by omega)
   have a1:=jA (l:=x.ah) (i:=1) (by omega)
   rw[a0,a1] at hx
   have hr:=gT (l:=x.ah)
   have hd:=fun i=>oq x.ah x.ah.length i (Nat.le_refl _)
   have hso:=fun i=>zY i x.ah
   have hdl:∀i,(x.ah.drop i).length≤4194304:=fun i=>by rw[List.length_drop];omega
   have hda:∀i,∀t∈x.ah.drop i,t.sz≤4194304:=fun i t ht=>hall t (List.mem_of_mem_drop ht)
   refine W3 ?_
   refine S0 (fun hb h=>?_) fun hb h=>?_
   ·have hx:=hx.trans (if_pos ⟨h,.inl rfl⟩)
    refine W3 ?_
    refine C1 (Vv _ n) ?_
    exact abq hx
   have hx:=hx.trans (if_neg fun e=>h e.1)
   refine S0 (fun hb h=>?_) fun hb h=>?_
   ·have hx:=hx.trans (if_pos ⟨h,.inl rfl⟩)
    refine⟨⟨by omega,by omega,hr⟩,?_⟩
    rw[hd]
    refine C1 (qh (x.ah.drop 2) (by have:=hso 2;omega) n (n+1) (hdl 2) (hda 2)) ?_
    refine ae0 hx ?_
    rw[List.map_drop]
    exact iF _
   ·have hx:=hx.trans (if_neg fun e=>h e.1)
    refine⟨⟨by omega,by omega,hr⟩,?_⟩
    rw[hd]
    refine C1 (qh (x.ah.drop 1) (by have:=hso 1;omega) n (n+1) (hdl 1) (hda 1)) ?_
    refine ae0 hx ?_
    rw[List.map_drop]
    exact iF _
  ·have Bt:=fun(i:Nat) (hi:i<xs.length)=>agx (l:=xs.map (dO true)) (i:=i) (by rw[List.length_map];exact hi) q
   refine kC (n) (rs:=[.tmp 2]) Tryz.checked.mixed Tryz.func164 Tryz.ntmps164 rfl rfl rfl rfl rfl ?_
   refine W1 ?_
   refine W3 ?_
   refine l6 n 3 3 [] (.inl rfl) (by simp) ?_
   refine aT (ι:=Nat) Tryz.checked.mixed rfl [3,7,8,9] (fun i=>[.c (.bS (0,1) (lt ((xs.map (dO true)).take i) q)),.c (.d (.sl (xs.map aj.enc))),.c (.d (.i .i64 xs.length)),.c (.d (.i .i64 i))]) (fun i=>[.seed n,.fF n 3 (lt ((xs.map (dO true)).take i) q)]::S)
    (fun i=>i≤xs.length) (fun i=>xs.length-i) 0 rfl rfl (Nat.zero_le _) ?_
   intro i hi
   simp -implicitDefEqProofs (disch:=omega) only[go_sem,aj.aD]
   refine S0 (fun hb h=>?_) fun hb h=>?_
   ·have hi':i<xs.length:=by omega
    have hs:=Bt i hi'
    rw[List.getElem_map] at hs
    have hl:(lt ((xs.map (dO true)).take i) q).length≤i:=by rw[abo];exact List.length_take_le _ _
    refine W3 ?_
    refine C1 (ih xs[i] (by have:=List.sizeOf_lt_of_mem (List.getElem_mem hi');omega) (q+gq ((xs.map (dO true)).take i)) (hsz _ (List.getElem_mem hi'))) ?_
    refine W3 ?_
    rw[hs]
    exact dh 2 (by decide) (i+1) (by omega) rfl rfl rfl rfl (by omega)
   ·have hi':i=(xs.map (dO true)).length:=by rw[List.length_map];omega
    rw[hi',List.take_length]
theorem qB(x:aj)(n:Nat)(hsz:x.sz≤4194304):aI Tryz.prog 166 [x.v] ((dO true x).vl n):=(AX _).1 x (Nat.lt_succ_self _) n hsz
theorem EG(xs:List aj)(n q:Nat)(hlen:xs.length≤4194304)(hsz:∀t∈xs,t.sz≤4194304):aI Tryz.prog 164 [.c (.d (.sl (xs.map aj.enc)))] (.c (.d (.ol n (lt (xs.map (dO true)) q)))):=(AX _).2 xs (Nat.lt_succ_self _) n q hlen hsz
theorem uq(x:aj)(s:List UInt8)(k:Nat)(hk:1≤k)(hk2:k≤100)(hsz:x.sz≤4194304):aI Tryz.prog 35 [x.v,.c (.d (.s s)),.c (.d (.i .i64 k))] (.c (.d (.b (dec (iI x=true∧k≤x.ah.length∧dM x.ah 0=s))))):=fun S=>by
 have h1:=eP x
 obtain⟨t,ht⟩:∃t,t=dec (iI x=true∧k≤x.ah.length∧dM x.ah 0=s):=⟨_,rfl⟩
 rw[←ht]
 refine aG (rs:=[.tmp 6]) Tryz.checked.mixed Tryz.func35 Tryz.ntmps35 rfl rfl rfl rfl rfl ?_
 refine W1 ?_
 refine C1 (P6 x (by omega)) ?_
 refine S0 (fun hb h=>?_) fun hb h=>?_
 ·have hv:=h
  refine S0 (fun hb h=>?_) fun hb h=>?_
  ·have hl:0<x.ah.length:=by omega
   have hl2:k≤x.ah.length:=by omega
   have a0:=jA hl
   refine W3 ?_
   refine aB ?_
   rw[jY,ht]
   exact iq ⟨fun e=>⟨hv,hl2,by rw[a0];exact e⟩,fun e=>by rw[←a0];exact e.2.2⟩
  ·exact aB (ht.trans (aF fun e=>by omega)).symm
 ·exact aB (ht.trans (aF fun e=>by rw[e.1] at h;cases h)).symm
end Go.Proofs.YtocpgjlbagncjaaGreatDoor
namespace Go.Ab
def ael:List UInt8:=[112,97,99,107,97,103,101]
def isK(s:List UInt8)(y:aj):Bool:=decide (dM y.ah 0=s)
noncomputable def FQ(l:List aj):List bC:=(l.filter (isK jV)).map um
noncomputable def FR(l:List aj):List aS:=(l.filter (isK nP)).map qQ
noncomputable def FT(l:List aj):List aQ:=(l.filter (isK kL)).map qE
noncomputable def FU(l:List aj):List aY:=(l.filter (isK wK)).map uI
noncomputable def jD(y:aj):Bool:=if isK jV y=true then wP y else if isK nP y=true then okD y else if isK kL y=true then yu y else if isK wK y=true then okF y else false
noncomputable def decP(x:aj):bB:=⟨dM x.ah 1,nY x.ah 2,FQ (x.ah.drop 3),FR (x.ah.drop 3),FT (x.ah.drop 3),FU (x.ah.drop 3)⟩
noncomputable def QE(x:aj):Prop:=iI x=true∧3≤x.ah.length∧dM x.ah 0=ael∧(gX x.ah 2).bf=[]∧(gX x.ah 2).ah.all (fun y=>decide (y.bf≠[]))=true
noncomputable def Dp(x:aj):Bool:=dec (QE x∧(∀y∈x.ah.drop 3,jD y=true)∧validPkg (decP x)=true)
def MP:bB:=⟨[],[],[],[],[],[]⟩
noncomputable def Ig(x:aj):bB:=if Dp x=true then decP x else MP
theorem abr{x:aj}(h:Dp x=false):Ig x=MP:=if_neg (by rw[h];decide)
theorem Ws{x:aj}(h:Dp x=true):Ig x=decP x:=if_pos h
theorem mY{s s':List UInt8}{y:aj}(h:isK s y=true)(hs:s≠s'):isK s' y=false:=by
 unfold isK at *
 rw[decide_eq_true_eq] at h
 rw[h];exact decide_eq_false hs
theorem CO{α:Type}(s:List UInt8)(f:aj→α){l:List aj}{i:Nat}(hi:i<l.length):((l.take (i+1)).filter (isK s)).map f=((l.take i).filter (isK s)).map f++if isK s l[i]=true then [f l[i]] else []:=by
 rw[List.take_succ_eq_append_getElem hi,List.filter_append,List.map_append]
 congr 1
 by_cases h:isK s l[i]=true
 ·rw[if_pos h,List.filter_cons,if_pos h];rfl
 ·rw[if_neg h,List.filter_cons,if_neg h];rfl
theorem Wt{α:Type}(s:List UInt8)(f:aj→α)(l:List aj)(i:Nat):(((l.take i).filter (isK s)).map f).length≤i:=by
 rw[List.length_map]
 exact Nat.le_trans (List.length_filter_le _ _) (List.length_take_le _ _)
theorem Wu(y:aj):(um y).sz≤y.sz:=by
 unfold um
 split
 ·exact Kt true y
 ·simp[H9,bC.sz,bC.aD,cu,D.sz,bD]
theorem abt(y:aj):(qQ y).sz≤y.sz:=by
 unfold qQ
 split
 ·exact NJ true y
 ·simp[aS.sz,aS.aD,cu,D.sz,bD]
theorem abu(y:aj):(qE y).sz≤y.sz:=by
 unfold qE
 split
 ·exact NT true y
 ·have:IZ.sz=0:=by simp[IZ,iV,aQ.sz,aQ.aD,au.aD,au.aK,au.fName,au.fArgs,cu,D.sz,bD]
  omega
theorem abv(y:aj):(uI y).sz≤y.sz:=by
 unfold uI
 split
 ·exact NR true y
 ·have:IY.sz=0:=by simp[IY,iV,lG,aY.sz,aY.aD,au.aD,au.aK,au.fName,au.fArgs,ay.aD,cu,D.sz,bD,ay.aK,ay.bL,ay.fName,ay.fN,ay.fType,ay.fArgs,ay.aP]
  omega
theorem yV{α:Type}(s:List UInt8)(f:aj→α)(e:α→List D)(h:∀y,cu (e (f y))≤y.sz):∀l:List aj,bD (((l.filter (isK s)).map f).map e)≤dQ l∧((l.filter (isK s)).map f).length≤l.length
 |[]=>⟨Nat.le_refl _,Nat.le_refl _⟩
 |y::l=>by
  obtain⟨h1,h2⟩:=yV s f e h l
  rw[List.filter_cons]
  split
  ·have:=h y
   rw[List.map_cons,List.map_cons,bD,dQ,List.length_cons,List.length_cons];omega
  ·rw[dQ,List.length_cons];omega
theorem Wv{x:aj}(h:x.sz≤500000):(decP x).sz≤4194304:=by
 have h1:=SQ x.ah 3
 have h2:=eP x
 have h3:(x.ah.drop 3).length≤x.ah.length:=by rw[List.length_drop];omega
 have h4:=qP (gX x.ah 2).ah
 have h5:(gX x.ah 2).sz≤dQ x.ah:=wm x.ah 2
 have h5':=pY (gX x.ah 2)
 have h6:(dM x.ah 1).length≤dQ x.ah:=Nat.le_trans (zK _) (wm x.ah 1)
 have t1:=yV jV um bC.enc Wu (x.ah.drop 3)
 have t2:=yV nP qQ aS.enc abt (x.ah.drop 3)
 have t3:=yV kL qE aQ.enc abu (x.ah.drop 3)
 have t4:=yV wK uI aY.enc abv (x.ah.drop 3)
 have t5:=eP (gX x.ah 2)
 simp only[bB.sz,bB.aD,cu,bN,D.sz,List.length_map,decP,FQ,FR,FT,FU,nY,dN] at *
 omega
end Go.Ab
namespace Go.Ab
theorem N7(x:aj)(i:Nat){m:Nat}(h:x.sz≤m):(x.ah.getD i dB).sz≤m:=by
 have:=wm x.ah i
 have:=eP x
 omega
theorem Ph{b:Bool}{l:List aj}{i:Nat}(hi:i<l.length):((l.take i).map (vW b)).map aM.enc++[[.s (l[i].ah.getD 0 dB).bf,.sl (((l[i].ah.drop 1).map (dO b)).map au.enc)]]=((l.take (i+1)).map (vW b)).map aM.enc:=by
 rw[List.take_succ_eq_append_getElem hi,List.map_append,List.map_append]
 simp only[List.map_cons,List.map_nil,aM.aD]
 rfl
theorem agy{x:aj}(h:okD x=true):(qQ x).fName=(j4 false x).fName∧(qQ x).aA=(j4 false x).aA∧(qQ x).aH=(j4 false x).aH:=by
 unfold qQ
 rw[if_pos h,←adS h];exact⟨rfl,rfl,rfl⟩
theorem abw{x:aj}(h:okD x=false):qQ x=⟨[],[],[]⟩:=by
 unfold qQ
 rw[if_neg (by rw[h];decide)]
theorem agz{x:aj}(h:okD x=true):qQ x=j4 true x:=if_pos h
theorem ahZ{x:aj}(h:x.ah.length=0):okD x=false:=aF fun h1=>by omega
theorem aem(ok:Bool):Less (.dY [(true,[.d (.s []),.bO [],.bO []]),(false,[.d (.b ok)])]) (.dY [(true,[.d (.s []),.d (.sl []),.d (.sl [])]),(false,[.d (.b ok)])]):=
 (jd.cons (.cons (.refl _) (.cons (fP _) (.cons (fP _) .nil))) (.refl _)).less
theorem YZ(n:Nat)(ok:Bool):Less (.dY [(true,[.d (.s []),.bO [],.bO []]),(false,[.d (.b ok)])]) (.dY [(true,[.d (.s []),.d (.ol n []),.d (.ol (n+1) [])]),(false,[.d (.b ok)])]):=
 (jd.cons (.cons (.refl _) (.cons (dX _) (.cons (dX _) .nil))) (.refl _)).less
def lc(l:List aM)(n:Nat):List (List D):=eB (l.map aM.enc) n
def QF(l:List aM):Nat:=iW (l.map aM.enc)
theorem agA(x:aM)(n:Nat):eX x.enc n=[.s x.fName,.ol n (lt x.fG (n+1))]:=by
 rw[aM.aD];simp only[eX,lI,ow,Nat.add_zero,lt]
theorem agB(x:aS)(n:Nat):eX x.enc n=[.s x.fName,.ol n (x.aA.map encS),.ol (n+1) (lc x.aH (n+1+1))]:=by
 rw[aS.aD];simp only[eX,lI,ow,Nat.add_zero,uh,wo,Nat.zero_add,lc]
theorem ah0(l:List au)(n:Nat):Ic (.ol n (lt l (n+1))) (.sl (l.map au.enc)):=Wo (.sl (l.map au.enc)) n
theorem agC{l:List aM}{i:Nat}(hi:i<l.length)(n:Nat):lc (l.take i) n++[[.s l[i].fName,.ol (n+QF (l.take i)) (lt l[i].fG (n+QF (l.take i)+1))]]=lc (l.take (i+1)) n:=by
 rw[List.take_succ_eq_append_getElem hi]
 unfold lc QF
 rw[List.map_append,pO]
 simp only[List.map_cons,List.map_nil,eB,agA]
end Go.Ab
namespace Go.Proofs.YtocpgjlbagncjaaGreatDoor
open Go Go.Ab
theorem N8(x:aj)(hsz:x.sz≤1048576):aI Tryz.prog 80 [x.v] (.dY [(true,[.d (.s (qQ x).fName),.d (.sl ((qQ x).aA.map encS)),.d (.sl ((qQ x).aH.map aM.enc))]),(false,[.d (.b (okD x))])]):=aI.of_le fun S=>by
 have h1:=eP x
 have hds:=NJ false x
 have hos:=af8 (d:=j4 false x) (by omega)
 obtain⟨l,hl⟩:∃l,l=x.ah.drop 3:=⟨_,rfl⟩
 have hll:l.length≤1048576:=by rw[hl,List.length_drop];omega
 have hlm:∀y∈l,y.sz≤1048576:=fun y hy=>by
  have:=iK (List.mem_of_mem_drop (hl▸hy));omega
 obtain⟨T,hT⟩:∃T:Nat→List (List D),T=fun i=>((l.take i).map (vW false)).map aM.enc:=⟨_,rfl⟩
 have hT0:T 0=[]:=by rw[hT];rfl
 have ig:∀i,(T i).length≤i:=fun i=>by rw[hT];simp only[List.length_map];exact List.length_take_le _ _
 have hTs:∀i (hi:i<l.length),T i++[[.s (l[i].ah.getD 0 dB).bf,.sl (((l[i].ah.drop 1).map (dO false)).map au.enc)]]=T (i+1):=fun i hi=>by rw[hT];exact Ph hi
 have hTe:T l.length=((j4 false x).aH).map aM.enc:=by
  rw[hT];simp only
  rw[List.take_length,hl];rfl
 clear hT
 refine aG (rs:=[.cell 2 107,.tmp 3]) Tryz.checked.mixed Tryz.func80 Tryz.ntmps80 rfl rfl rfl rfl rfl ?_
 refine W1 ?_
 refine C1 (fJ x 1 (by omega) (by omega)) ?_
 refine C1 (fJ x 2 (by omega) (by omega)) ?_
 refine C1 (rA _ (N7 x 2 (by omega))) ?_
 refine W3 ?_
 refine C1 (wZ x 3 (by omega)) ?_
 rw[←hl]
 refine qV 2 2 2 _ rfl rfl ?_
 refine aT (ι:=Nat) Tryz.checked.mixed rfl [1,2,4,5,6] (fun i=>[.c (.ptr (0,0) 0),.c (.ptr (0,1) 0),.c (.ptr (0,2) 0),.c (.d (.sl (l.map aj.enc))),.c (.d (.i .i64 i))])
  (fun i=>[.box [.d (.s x.bf),.d (.sl (x.ah.map aj.enc))],.box [.d (.s []),.bO [],.bO []],.box [.d (.s (j4 false x).fName),.d (.sl ((j4 false x).aA.map encS)),.bS (0,3) (T i)],.tok 2 (T i)]::S)
  (fun i=>i≤l.length) (fun i=>l.length-i) 0 rfl (by rw[hT0];rfl) (Nat.zero_le _) ?_
 intro i hi
 have hl':=ig i
 refine W1 ?_
 refine S0 (fun hb h=>?_) fun hb h=>?_
 ·have hi':i<l.length:=by omega
  have hm:=List.getElem_mem hi'
  have hs:=hTs i hi'
  have hz:=hlm _ hm
  have hz1:=eP l[i]
  refine W3 ?_
  refine C1 (fJ l[i] 0 (by omega) (by omega)) ?_
  refine W3 ?_
  refine C1 (wZ l[i] 1 (by omega)) ?_
  refine C1 (Gg (l[i].ah.drop 1) (by rw[List.length_drop];omega) (fun t ht=>by have:=iK (List.mem_of_mem_drop ht);omega)) ?_
  refine W3 ?_
  rw[hs]
  exact dh 4 (by decide) (i+1) (by omega) rfl rfl rfl rfl (by omega)
 ·have hi':i=l.length:=by omega
  subst hi'
  rw[hTe]
  clear hTs
  refine C1 (qy x (by omega)) ?_
  have gL:okD x=false→Less (.dY [(true,[.d (.s []),.bO [],.bO []]),(false,[.d (.b false)])]) (.dY [(true,[.d (.s (qQ x).fName),.d (.sl ((qQ x).aA.map encS)),.d (.sl ((qQ x).aH.map aM.enc))]),(false,[.d (.b (okD x))])]):=fun e=>by
   rw[abw e,e];exact aem false
  refine S0 (fun hb h=>?_) fun hb h=>?_
  ·exact gL (aF fun e=>by rw[e.1] at h;cases h)
  have hv:=h
  refine S0 (fun hb h=>?_) fun hb h=>?_
  ·exact gL (ahZ (by omega))
  have hne:x.ah≠[]:=fun e=>by rw[e] at h;exact h rfl
  have hok:=adR hne
  rw[hv,Bool.true_and] at hok
  refine W3 ?_
  refine C1 (Ve (j4 false x) (by omega)) ?_
  refine C1 (sN (SK (j4 false x)) x (by omega)) ?_
  refine S0 (fun hb h=>?_) fun hb h=>?_
  ·exact gL (by rw[hok];exact aF h)
  ·have hy:okD x=true:=by rw[hok];exact bA h
   obtain⟨e1,e2,e3⟩:=agy hy
   rw[e1,e2,e3,hy]
   exact iF _
theorem MQ(x:aj)(n:Nat)(hsz:x.sz≤1048576):aI Tryz.prog 91 [x.v] (.dY [(true,[.d (.s (qQ x).fName),.d (.ol n ((qQ x).aA.map encS)),.d (.ol (n+1) (lc (qQ x).aH (n+1+1)))]),(false,[.d (.b (okD x))])]):=aI.of_le fun S=>by
 have h1:=eP x
 have hds:=NJ true x
 obtain⟨l,hl⟩:∃l,l=x.ah.drop 3:=⟨_,rfl⟩
 have hll:l.length≤1048576:=by rw[hl,List.length_drop];omega
 have hlm:∀y∈l,y.sz≤1048576:=fun y hy=>by
  have:=iK (List.mem_of_mem_drop (hl▸hy));omega
 have gL:okD x=false→Less (.dY [(true,[.d (.s []),.bO [],.bO []]),(false,[.d (.b false)])]) (.dY [(true,[.d (.s (qQ x).fName),.d (.ol n ((qQ x).aA.map encS)),.d (.ol (n+1) (lc (qQ x).aH (n+1+1)))]),(false,[.d (.b (okD x))])]):=fun e=>by
  rw[abw e,e];exact YZ n false
 refine kC (n) (rs:=[.cell 2 107,.tmp 3]) Tryz.checked.mixed Tryz.func91 Tryz.ntmps91 rfl rfl rfl rfl rfl ?_
 refine W1 ?_
 refine C1 (uq x nP 3 (by omega) (by omega) (by omega)) ?_
 refine S0 (fun hb h=>?_) fun hb h=>?_
 ·exact gL (aF fun e=>h ⟨e.1,e.2.1,e.2.2.1⟩)
 have hf:=h
 have hlen:3≤x.ah.length:=hf.2.1
 have hr:=gT (l:=x.ah)
 have a1:=jA (l:=x.ah) (i:=1) (by omega)
 have g2:(x.ah.getD 2 dB)=x.ah[2]:=by rw[List.getD_eq_getElem?_getD,List.getElem?_eq_getElem (by omega)];rfl
 have z2:=N7 x 2 hsz
 rw[g2] at z2
 have hvars:(j4 true x).aA=fq x.ah[2].ah:=by rw[←g2];rfl
 have hname:(j4 true x).fName=x.ah[1].bf:=a1
 have hvx:=tF hf.1
 have hsl:=aaN (j4 true x)
 obtain⟨L,hL⟩:∃L:Nat→Nat,L=fun i=>n+1+1+QF ((l.map (vW true)).take i):=⟨_,rfl⟩
 obtain⟨T,hT⟩:∃T:Nat→List (List D),T=fun i=>lc ((l.map (vW true)).take i) (n+1+1):=⟨_,rfl⟩
 obtain⟨P,hP⟩:∃P:Nat→List (List D),P=fun i=>((l.take i).map (vW true)).map aM.enc:=⟨_,rfl⟩
 have hT0:T 0=[]:=by rw[hT];rfl
 have Rl:P 0=[]:=by rw[hP];rfl
 have hPl:∀i,(P i).length≤i:=fun i=>by rw[hP];simp only[List.length_map];exact List.length_take_le _ _
 have hPr:∀i,∀r∈P i,r.length=2:=fun i=>by
  rw[hP];intro r hr
  obtain⟨z,_,rfl⟩:=List.mem_map.1 hr
  exact z.dn
 have hTs:∀i (hi:i<l.length),T i++[[.s (vW true l[i]).fName,.ol (L i) (lt (vW true l[i]).fG (L i+1))]]=T (i+1):=fun i hi=>by
  have:=agC (l:=l.map (vW true)) (i:=i) (by rw[List.length_map];exact hi) (n+1+1)
  rw[List.getElem_map] at this
  rw[hT,hL];exact this
 have hPs:∀i (hi:i<l.length),P i++[[.s (l[i].ah.getD 0 dB).bf,.sl (((l[i].ah.drop 1).map (dO true)).map au.enc)]]=P (i+1):=fun i hi=>by rw[hP];exact Ph hi
 have hTe:T l.length=lc (j4 true x).aH (n+1+1):=by
  rw[hT];simp only
  rw[List.take_of_length_le (by simp),hl];rfl
 have hPe:P l.length=(j4 true x).aH.map aM.enc:=by
  rw[hP];simp only
  rw[List.take_length,hl];rfl
 clear hT hP hL
 refine C1 (qA x.ah[2] (by omega) n) ?_
 refine⟨⟨by omega,by omega,hr⟩,?_⟩
 rw[oq _ _ _ (Nat.le_refl _),←hl,←hvars,←hname]
 refine W1 ?_
 refine pq (n+1) 3 2 2 _ rfl rfl ?_
 refine aT (ι:=Nat×List (List D)) Tryz.checked.mixed rfl [1,2,4,25,26,27] (fun y=>[.c (.ptr (0,1) 0),.c (.ptr (0,2) 0),.c (.ptr (0,3) 0),.c (.d (.sl (l.map aj.enc))),.c (.d (.i .i64 l.length)),.c (.d (.i .i64 y.1))])
  (fun y=>[.seed n,.box [.d (.s x.bf),.d (.sl (x.ah.map aj.enc))],.box [.d (.s []),.bO [],.bO []],.box [.d (.s (j4 true x).fName),.d (.ol n ((j4 true x).aA.map encS)),.bS (0,4) y.2],.fF (n+1) 2 y.2]::S)
  (fun y=>y.1≤l.length∧iJ y.2 (P y.1)∧((∀j,∀hj:j<l.length,j<y.1→l[j].ah≠[])→y.2=T y.1)) (fun y=>l.length-y.1) (0,[]) rfl rfl ⟨Nat.zero_le _,by rw[Rl];exact .nil,fun _=>hT0.symm⟩ ?_
 rintro⟨i,U⟩ ⟨p1,p2,p3⟩
 simp only at p1 p2 p3
 have hU1:=p2.length
 have hU2:=hPl i
 have hU3:=p2.rows (hPr i)
 refine W1 ?_
 refine S0 (fun hb h=>?_) fun hb h=>?_
 ·have hi':i<l.length:=by omega
  have hm:=List.getElem_mem hi'
  have hs:=hTs i hi'
  have hps:=hPs i hi'
  have hz:=hlm _ hm
  have hz1:=eP l[i]
  have hry:=gT (l:=l[i].ah)
  refine W3 ?_
  refine S0 (fun hb h=>?_) fun hb h=>?_
  ·have hpos:0<l[i].ah.length:=by omega
   refine W3 ?_
   refine⟨⟨by omega,by omega,hry⟩,?_⟩
   rw[oq _ _ _ (Nat.le_refl _)]
   refine C1 (EG (l[i].ah.drop 1) (L i) (L i+1) (by rw[List.length_drop];omega) (fun t ht=>by have:=iK (List.mem_of_mem_drop ht);omega)) ?_
   refine W3 ?_
   have g0:l[i].ah.getD 0 dB=l[i].ah[0]:=by rw[List.getD_eq_getElem?_getD,List.getElem?_eq_getElem hpos];rfl
   rw[g0] at hps
   have hcn:(vW true l[i]).fName=l[i].ah[0].bf:=jA hpos
   rw[hcn] at hs
   refine dh 5 (by decide) (i+1,_) (by simp only;omega) rfl rfl rfl rfl ⟨by simp only;omega,?_,fun hg=> ?_⟩
   ·simp only
    rw[←hps]
    exact p2.snoc (.cons (.refl _) (.cons (ah0 _ _) .nil))
   ·simp only
    rw[p3 fun j hj hji=>hg j hj (by simp only;omega),←hs]
    rfl
  ·have hnil:l[i].ah=[]:=List.eq_nil_of_length_eq_zero (by omega)
   have g0:l[i].ah.getD 0 dB=dB:=by rw[hnil];rfl
   rw[g0,hnil] at hps
   refine dh 5 (by decide) (i+1,_) (by simp only;omega) rfl rfl rfl rfl ⟨by simp only;omega,?_,fun hg=> ?_⟩
   ·simp only
    rw[←hps]
    exact p2.snoc (.refl _)
   ·exact absurd hnil (hg i hi' (by simp only;omega))
 ·have hi':i=l.length:=by omega
  subst hi'
  clear hTs hPs
  rw[hPe] at p2
  refine nK (Cr (j4 true x) (by omega)) (.cons (fQ.less (.cons (.refl _) (.cons (EF _ _) (.cons (ML p2) .nil)))) .nil) ?_
  refine W1 ?_
  refine S0 (fun hb h=>?_) fun hb h=>?_
  ·exact gL (aF fun e=>by rw[e.2.2.2.1] at h;cases h)
  have hv:=h
  refine W3 ?_
  refine nK (aI.less (Me (j4 true x) 0 hv (by omega)) (IU (Ct (j4 true x)) 0)) (.cons (fQ.less (.cons (.refl _) (.cons (EF _ _) (.cons (ML p2) .nil)))) .nil) ?_
  refine W1 ?_
  refine C1 (sO (Ct (j4 true x)) x (by omega)) ?_
  refine S0 (fun hb h=>?_) fun hb h=>?_
  ·exact gL (aF fun e=>h e.2.2.2.2)
  ·have hy:okD x=true:=bA ⟨hf.1,hf.2.1,hf.2.2,hv,h⟩
   have hgood:U=T l.length:=p3 fun j hj _ e=>by
    have h3:=congrArg (fun z=>z.ah.drop 3) h
    simp only[←hl] at h3
    have h4:(Ct (j4 true x)).ah.drop 3=(j4 true x).aH.map Ap:=rfl
    rw[h4] at h3
    have h5:l[j]=Ap ((j4 true x).aH[j]'(by have:=congrArg List.length h3;rw[List.length_map] at this;omega)):=by
     simp only[←h3,List.getElem_map]
    rw[h5] at e
    simp[Ap,dJ] at e
   rw[hgood,hTe,agz hy,hy]
   exact iF _
end Go.Proofs.YtocpgjlbagncjaaGreatDoor
namespace Go.Ab
def yX(s:List UInt8):Prop:=s.head? =some 45
instance (s:List UInt8):Decidable (yX s):=inferInstanceAs (Decidable (_=_))
def gu(s:List UInt8):List UInt8:=if yX s then s.tail else s
theorem AA:∀(l:List UInt8) (acc v:Nat),Lib.decFrom acc l=some v→∀b∈l,48≤b.toNat∧b.toNat≤57
 |[],_,_,_,b,hb=>by cases hb
 |a::l,acc,v,h,b,hb=>by
  rw[Lib.decFrom] at h
  cases hd:Lib.digitVal a with
  |none=>rw[hd] at h;cases h
  |some d=>
   rw[hd] at h
   rcases List.mem_cons.1 hb with rfl|hb
   ·unfold Lib.digitVal at hd
    split at hd
    ·assumption
    ·cases hd
   ·exact AA l _ v h b hb
theorem Vw{b:UInt8}(h:48≤b.toNat∧b.toNat≤57):Lib.digitVal b=some (b.toNat-48):=if_pos h
theorem decFrom_take{t:List UInt8}{i acc:Nat}(hi:i<t.length)(h:Lib.decFrom 0 (t.take i)=some acc)(hd:48≤t[i].toNat∧t[i].toNat≤57):Lib.decFrom 0 (t.take (i+1))=some (acc*10+(t[i].toNat-48)):=by
 rw[List.take_succ_eq_append_getElem hi,Cv,h,Vw hd];rfl
theorem Ih{s:List UInt8}{m:Int}(h:gZ s=some m):(yX s↔m<0)∧gu s=Lib.decDigits m.natAbs∧1≤(gu s).length∧(gu s).length≤12:=by
 obtain⟨hr,he⟩:=Mh h
 have hl:(Lib.decDigits m.natAbs).length≤12:=Ey 11 _ (by omega)
 obtain⟨b,r,e,b1,b2⟩:=zA m.natAbs
 have hl1:1≤(Lib.decDigits m.natAbs).length:=by rw[e];simp
 unfold Lib.itoa at he
 by_cases hn:m<0
 ·rw[if_pos hn] at he
  have hs:yX s:=by rw[←he];rfl
  have hb:gu s=Lib.decDigits m.natAbs:=by unfold gu;rw[if_pos hs,←he];rfl
  exact⟨⟨fun _=>hn,fun _=>hs⟩,hb,by rw[hb];exact⟨hl1,hl⟩⟩
 ·rw[if_neg hn,show m.toNat=m.natAbs by omega] at he
  have hs:¬yX s:=fun x=>by
   rw[←he,e] at x
   unfold yX at x
   simp only[List.head?_cons,Option.some.injEq] at x
   rw[x] at b1;revert b1;decide
  have hb:gu s=Lib.decDigits m.natAbs:=by unfold gu;rw[if_neg hs,←he]
  exact⟨⟨fun x=>(hs x).elim,fun x=>(hn x).elim⟩,hb,by rw[hb];exact⟨hl1,hl⟩⟩
theorem w9{s:List UInt8}(h:(gu s).length<1∨12<(gu s).length):gZ s=none:=by
 cases hr:gZ s with
 |none=>rfl
 |some m=>have:=(Ih hr).2.2;omega
theorem Dq{s:List UInt8}{i:Nat}(hi:i<(gu s).length)(h:¬(48≤(gu s)[i].toNat∧(gu s)[i].toNat≤57)):gZ s=none:=by
 cases hr:gZ s with
 |none=>rfl
 |some m=>
  have hk:=(Ih hr).2.1
  have hd:=zy m.natAbs
  rw[←hk] at hd
  exact absurd (AA _ _ _ hd _ (List.getElem_mem hi)) h
theorem Pj{s:List UInt8}{v:Nat}(hv:Lib.decFrom 0 (gu s)=some v)(hb:v≤999999999999):gZ s=if Lib.itoa (if yX s then -(v:Int) else v)=s then some (if yX s then -(v:Int) else v) else none:=by
 obtain⟨z,hz⟩:∃z,z=(if yX s then -(v:Int) else v):=⟨_,rfl⟩
 have hzb: -999999999999≤z∧z≤999999999999:=by rw[hz];split<;>omega
 rw[←hz]
 by_cases h:Lib.itoa z=s
 ·rw[if_pos h]
  conv=>lhs;rw[←h]
  exact Mg hzb
 ·rw[if_neg h]
  cases hr:gZ s with
  |none=>rfl
  |some m=>
   have hk:=Ih hr
   have hd:=zy m.natAbs
   rw[←hk.2.1,hv] at hd
   have hm:v=m.natAbs:=by simpa using hd
   have:z=m:=by
    rw[hz]
    by_cases hn:yX s
    ·have:=hk.1.1 hn
     rw[if_pos hn];omega
    ·rw[if_neg hn]
     have:¬m<0:=fun x=>hn (hk.1.2 x)
     omega
   rw[this] at h
   exact absurd (Mh hr).2 h
end Go.Ab
namespace Go.Proofs.YtocpgjlbagncjaaGreatDoor
open Go Go.Ab
theorem Vx(s:List UInt8)(hs:s.length≤1073741824):aI Tryz.prog 269 [.c (.d (.s s)),.c (.d (.i .i64 12))] (.dY [(false,[.d (.i .i64 ((gZ s).getD 0))]),(false,[.d (.b (gZ s).isSome)])]):=fun S=>by
 have d0:gZ s=none→V.dY [(false,[.d (.i .i64 0)]),(false,[.d (.b false)])]=.dY [(false,[.d (.i .i64 ((gZ s).getD 0))]),(false,[.d (.b (gZ s).isSome)])]:=fun e=>by rw[e];rfl
 refine aG (rs:=[.tmp 4,.tmp 5]) Tryz.checked.mixed Tryz.func269 Tryz.ntmps269 rfl rfl rfl rfl rfl ?_
 refine W1 ?_
 refine S0 (fun hb h=>?_) fun hb h=>?_
 ·have hpos:0<s.length:=by omega
  have h0:(s.getD 0 0).toNat=45↔yX s:=by
   cases s with
   |nil=>simp at hpos
   |cons b s=>
    unfold yX
    simp only[List.getD_cons_zero,List.head?_cons,Option.some.injEq]
    constructor
    ·intro e;exact UInt8.toNat.inj e
    ·intro e;rw[e];rfl
  refine W3 ?_
  refine S0 (fun hb h=>?_) fun hb h=>?_
  ·have hn:yX s:=h0.1 (by omega)
   have hb:gu s=(s.take s.length).drop 1:=by unfold gu;rw[if_pos hn,List.take_length,List.drop_one]
   refine W3 ?_
   rw[←hb]
   have hbl:(gu s).length≤s.length:=by rw[hb];simp
   refine S0 (fun hb h=>?_) fun hb h=>?_
   ·exact d0 (w9 (by omega))
   refine S0 (fun hb h=>?_) fun hb h=>?_
   ·exact d0 (w9 (by omega))
   have hl1:1≤(gu s).length:=by omega
   have hl12:(gu s).length≤12:=by omega
   refine aT (ι:=Nat×Nat) Tryz.checked.mixed rfl [0,6,7,8,9] (fun y=>[.c (.d (.s s)),.c (.d (.b true)),.c (.d (.s (gu s))),.c (.d (.i .i64 y.2)),.c (.d (.i .i64 y.1))]) (fun _=>[]::S)
    (fun y=>y.1≤(gu s).length∧Lib.decFrom 0 ((gu s).take y.1)=some y.2∧y.2<10^y.1) (fun y=>(gu s).length-y.1) (0,0) rfl rfl ⟨Nat.zero_le _,rfl,by decide⟩ ?_
   rintro⟨i,acc⟩ ⟨p1,p2,p3⟩
   simp only at p1 p2 p3
   have p4:10^i≤10^12:=Nat.pow_le_pow_right (by decide) (by omega)
   refine W1 ?_
   refine S0 (fun hb h=>?_) fun hb h=>?_
   ·have hi:i<(gu s).length:=by omega
    have e:(gu s).getD i 0=(gu s)[i]:=by simp[List.getD,hi]
    have hbb:=(gu s)[i].toNat_lt
    refine W3 ?_
    simp only[e]
    refine S0 (fun hb h=>?_) fun hb h=>?_
    ·exact d0 (Dq hi (by omega))
    refine W3 ?_
    simp only[e]
    refine S0 (fun hb h=>?_) fun hb h=>?_
    ·exact d0 (Dq hi (by omega))
    have hdg:48≤(gu s)[i].toNat∧(gu s)[i].toNat≤57:=by omega
    have ht:=decFrom_take hi p2 hdg
    have e2:(10:Int)*acc+(((gu s)[i].toNat:Int)-48)=((acc*10+((gu s)[i].toNat-48):Nat):Int):=by omega
    refine W3 ?_
    simp -implicitDefEqProofs (disch:=omega) only[go_sem,wrap_u8,e]
    rw[e2]
    exact bP (i+1,acc*10+((gu s)[i].toNat-48)) (by simp only;omega) rfl rfl ⟨by simp only;omega,ht,by simp only[Nat.pow_succ];omega⟩
   ·have hi:i=(gu s).length:=by omega
    have hv:Lib.decFrom 0 (gu s)=some acc:=by rw[hi,List.take_length] at p2;exact p2
    have F3:=Pj hv (by omega)
    rw[if_pos hn] at F3
    rw[show(0:Int)-acc= -(acc:Int) by omega]
    refine C1 (xL (-(acc:Int)) (by omega) (by omega)) ?_
    refine S0 (fun hb h=>?_) fun hb h=>?_
    ·exact d0 (F3.trans (if_neg h))
    ·rw[F3.trans (if_pos h)];rfl
  ·have hn:¬yX s:=fun x=>h (by rw[h0.2 x];rfl)
   have hbs:gu s=s:=by unfold gu;rw[if_neg hn]
   have hbl:(gu s).length=s.length:=by rw[hbs]
   refine S0 (fun hb h=>?_) fun hb h=>?_
   ·exact d0 (w9 (by omega))
   refine S0 (fun hb h=>?_) fun hb h=>?_
   ·exact d0 (w9 (by omega))
   have hl1:1≤(gu s).length:=by omega
   have hl12:(gu s).length≤12:=by omega
   refine aT (ι:=Nat×Nat) Tryz.checked.mixed rfl [0,6,7,8,9] (fun y=>[.c (.d (.s s)),.c (.d (.b false)),.c (.d (.s (gu s))),.c (.d (.i .i64 y.2)),.c (.d (.i .i64 y.1))]) (fun _=>[]::S)
    (fun y=>y.1≤(gu s).length∧Lib.decFrom 0 ((gu s).take y.1)=some y.2∧y.2<10^y.1) (fun y=>(gu s).length-y.1) (0,0) (by rw[hbs];rfl) rfl ⟨Nat.zero_le _,rfl,by decide⟩ ?_
   rintro⟨i,acc⟩ ⟨p1,p2,p3⟩
   simp only at p1 p2 p3
   have p4:10^i≤10^12:=Nat.pow_le_pow_right (by decide) (by omega)
   refine W1 ?_
   refine S0 (fun hb h=>?_) fun hb h=>?_
   ·have hi:i<(gu s).length:=by omega
    have e:(gu s).getD i 0=(gu s)[i]:=by simp[List.getD,hi]
    have hbb:=(gu s)[i].toNat_lt
    refine W3 ?_
    simp only[e]
    refine S0 (fun hb h=>?_) fun hb h=>?_
    ·exact d0 (Dq hi (by omega))
    refine W3 ?_
    simp only[e]
    refine S0 (fun hb h=>?_) fun hb h=>?_
    ·exact d0 (Dq hi (by omega))
    have hdg:48≤(gu s)[i].toNat∧(gu s)[i].toNat≤57:=by omega
    have ht:=decFrom_take hi p2 hdg
    have e2:(10:Int)*acc+(((gu s)[i].toNat:Int)-48)=((acc*10+((gu s)[i].toNat-48):Nat):Int):=by omega
    refine W3 ?_
    simp -implicitDefEqProofs (disch:=omega) only[go_sem,wrap_u8,e]
    rw[e2]
    exact bP (i+1,acc*10+((gu s)[i].toNat-48)) (by simp only;omega) rfl rfl ⟨by simp only;omega,ht,by simp only[Nat.pow_succ];omega⟩
   ·have hi:i=(gu s).length:=by omega
    have hv:Lib.decFrom 0 (gu s)=some acc:=by rw[hi,List.take_length] at p2;exact p2
    have F3:=Pj hv (by omega)
    rw[if_neg hn] at F3
    refine C1 (xL ((acc:Int)) (by omega) (by omega)) ?_
    refine S0 (fun hb h=>?_) fun hb h=>?_
    ·exact d0 (F3.trans (if_neg h))
    ·rw[F3.trans (if_pos h)];rfl
 ·have hs0:s=[]:=List.eq_nil_of_length_eq_zero (by omega)
  have hb0:(gu s).length=0:=by rw[hs0];rfl
  refine S0 (fun hb h=>?_) fun hb h=>?_
  ·exact d0 (w9 (by omega))
  ·omega
theorem MR(s:List UInt8)(hs:s.length≤1073741824):aI Tryz.prog 195 [.c (.d (.s s))] (.dY [(false,[.d (.i .i64 ((gZ s).getD 0))]),(false,[.d (.b (gZ s).isSome)])]):=fun S=>by
 refine aG (rs:=[.tmp 2,.tmp 3]) Tryz.checked.mixed Tryz.func195 Tryz.ntmps195 rfl rfl rfl rfl rfl ?_
 refine W1 ?_
 exact C4 (Vx s hs)
end Go.Proofs.YtocpgjlbagncjaaGreatDoor
namespace Go.Ab
theorem qw(b:Bool)(x:aj):eZ b x=if x.bf=[] then
 if b=true∧(x.ah.length<2∨dM x.ah 0=jl∧x.ah.length<3) then lG
 else if dM x.ah 0=oZ then .mk 4 [] (dM x.ah 1) 0 iV ((x.ah.map (eZ b)).drop 2) []
 else if dM x.ah 0=sD then .mk 6 [] (dM x.ah 1) 0 iV ((x.ah.map (eZ b)).drop 2) []
 else if dM x.ah 0=sF then .mk 8 [] (dM x.ah 1) 0 iV ((x.ah.map (eZ b)).drop 2) []
 else if dM x.ah 0=o9 then .mk 11 (dM x.ah 1) [] 0 iV ((x.ah.map (eZ b)).drop 2) []
 else if dM x.ah 0=jl then .mk 5 (dM x.ah 1) (dM x.ah 2) 0 iV ((x.ah.map (eZ b)).drop 3) []
 else if dM x.ah 0=wX then .mk 9 [] [] 0 iV ((x.ah.map (eZ b)).drop 1) []
 else if dM x.ah 0=sZ then .mk 12 [] [] 0 (dO b (x.ah.getD 1 dB)) ((x.ah.map (eZ b)).drop 2) []
 else if dM x.ah 0=kM then .mk 7 [] [] 0 iV (((x.ah.map (eZ b)).drop 1).take 1) ((x.ah.map (ru b)).drop 2)
 else .mk 10 [] (dM x.ah 0) 0 iV ((x.ah.map (eZ b)).drop 1) []
 else match gZ x.bf with
  |some n=>.mk 1 [] [] n iV [] []
  |none=>if x.bf=zW then .mk 2 [] [] 1 iV [] [] else if x.bf=yO then .mk 2 [] [] 0 iV [] [] else .mk 3 [] x.bf 0 iV [] []:=by
 cases x;rw[eZ,Ar,Di];rfl
theorem Ww(b:Bool)(x:aj)(h:2≤x.ah.length):ru b x=.mk (dM x.ah 0) (fq ((x.ah.drop 1).dropLast)) (eZ b (x.ah[x.ah.length-1]'(by omega))):=by
 obtain⟨a,l⟩:=x
 simp only[aj.ah] at h ⊢
 rw[ru,if_neg (by omega),Ar]
 congr 1
 rw[List.getLastD_eq_getLast?,List.getLast?_eq_getElem?,List.length_map,List.getElem?_eq_getElem (by rw[List.length_map];omega)]
 simp
theorem Wx(b:Bool)(x:aj)(h:x.ah.length<2):ru b x=.mk [] [] lG:=by
 obtain⟨a,l⟩:=x
 rw[ru]
 exact if_pos h
def xA(b:Bool)(l:List aj):Prop:=¬(b=true∧(l.length<2∨dM l 0=jl∧l.length<3))
theorem Pk{b:Bool}{x:aj}(ha:x.bf=[])(hg:xA b x.ah)(h:dM x.ah 0=oZ):eZ b x=.mk 4 [] (dM x.ah 1) 0 iV ((x.ah.drop 2).map (eZ b)) []:=by
 rw[qw,if_pos ha,if_neg hg,if_pos h]
 simp only[List.map_drop,List.map_take]
theorem TG{b:Bool}{x:aj}(ha:x.bf=[])(hg:xA b x.ah)(h:dM x.ah 0=sD):eZ b x=.mk 6 [] (dM x.ah 1) 0 iV ((x.ah.drop 2).map (eZ b)) []:=by
 rw[qw,if_pos ha,if_neg hg,if_neg (by rw[h];decide),if_pos h]
 simp only[List.map_drop,List.map_take]
theorem TH{b:Bool}{x:aj}(ha:x.bf=[])(hg:xA b x.ah)(h:dM x.ah 0=sF):eZ b x=.mk 8 [] (dM x.ah 1) 0 iV ((x.ah.drop 2).map (eZ b)) []:=by
 rw[qw,if_pos ha,if_neg hg,if_neg (by rw[h];decide),if_neg (by rw[h];decide),if_pos h]
 simp only[List.map_drop,List.map_take]
theorem Pm{b:Bool}{x:aj}(ha:x.bf=[])(hg:xA b x.ah)(h:dM x.ah 0=o9):eZ b x=.mk 11 (dM x.ah 1) [] 0 iV ((x.ah.drop 2).map (eZ b)) []:=by
 rw[qw,if_pos ha,if_neg hg,if_neg (by rw[h];decide),if_neg (by rw[h];decide),if_neg (by rw[h];decide),if_pos h]
 simp only[List.map_drop,List.map_take]
theorem JK{b:Bool}{x:aj}(ha:x.bf=[])(hg:xA b x.ah)(h:dM x.ah 0=jl):eZ b x=.mk 5 (dM x.ah 1) (dM x.ah 2) 0 iV ((x.ah.drop 3).map (eZ b)) []:=by
 rw[qw,if_pos ha,if_neg hg,if_neg (by rw[h];decide),if_neg (by rw[h];decide),if_neg (by rw[h];decide),if_neg (by rw[h];decide),if_pos h]
 simp only[List.map_drop,List.map_take]
theorem Wy{b:Bool}{x:aj}(ha:x.bf=[])(hg:xA b x.ah)(h:dM x.ah 0=wX):eZ b x=.mk 9 [] [] 0 iV ((x.ah.drop 1).map (eZ b)) []:=by
 rw[qw,if_pos ha,if_neg hg,if_neg (by rw[h];decide),if_neg (by rw[h];decide),if_neg (by rw[h];decide),if_neg (by rw[h];decide),if_neg (by rw[h];decide),if_pos h]
 simp only[List.map_drop,List.map_take]
theorem TI{b:Bool}{x:aj}(ha:x.bf=[])(hg:xA b x.ah)(h:dM x.ah 0=sZ):eZ b x=.mk 12 [] [] 0 (dO b (x.ah.getD 1 dB)) ((x.ah.drop 2).map (eZ b)) []:=by
 rw[qw,if_pos ha,if_neg hg,if_neg (by rw[h];decide),if_neg (by rw[h];decide),if_neg (by rw[h];decide),if_neg (by rw[h];decide),if_neg (by rw[h];decide),if_neg (by rw[h];decide),if_pos h]
 simp only[List.map_drop,List.map_take]
theorem Pn{b:Bool}{x:aj}(ha:x.bf=[])(hg:xA b x.ah)(h:dM x.ah 0=kM):eZ b x=.mk 7 [] [] 0 iV (((x.ah.drop 1).take 1).map (eZ b)) ((x.ah.drop 2).map (ru b)):=by
 rw[qw,if_pos ha,if_neg hg,if_neg (by rw[h];decide),if_neg (by rw[h];decide),if_neg (by rw[h];decide),if_neg (by rw[h];decide),if_neg (by rw[h];decide),if_neg (by rw[h];decide),if_neg (by rw[h];decide),if_pos h]
 simp only[List.map_drop,List.map_take]
theorem Po{b:Bool}{x:aj}(ha:x.bf=[])(hg:xA b x.ah)(h0:dM x.ah 0≠oZ)(h1:dM x.ah 0≠sD)(h2:dM x.ah 0≠sF)(h3:dM x.ah 0≠o9)(h4:dM x.ah 0≠jl)(h5:dM x.ah 0≠wX)(h6:dM x.ah 0≠sZ)(h7:dM x.ah 0≠kM):eZ b x=.mk 10 [] (dM x.ah 0) 0 iV ((x.ah.drop 1).map (eZ b)) []:=by
 rw[qw,if_pos ha,if_neg hg,if_neg h0,if_neg h1,if_neg h2,if_neg h3,if_neg h4,if_neg h5,if_neg h6,if_neg h7]
 simp only[List.map_drop,List.map_take]
theorem Pp{x:aj}(ha:x.bf=[])(hg:¬xA true x.ah):eZ true x=lG:=by
 rw[qw,if_pos ha,if_pos (Decidable.not_not.1 hg)]
theorem TJ{b:Bool}{x:aj}{n:Int}(ha:x.bf≠[])(h:gZ x.bf=some n):eZ b x=.mk 1 [] [] n iV [] []:=by
 rw[qw,if_neg ha,h]
theorem Pq{b:Bool}{x:aj}(ha:x.bf≠[])(h:gZ x.bf=none)(h1:x.bf=zW):eZ b x=.mk 2 [] [] 1 iV [] []:=by
 rw[qw,if_neg ha,h];exact if_pos h1
theorem MS{b:Bool}{x:aj}(ha:x.bf≠[])(h:gZ x.bf=none)(h1:x.bf≠zW)(h2:x.bf=yO):eZ b x=.mk 2 [] [] 0 iV [] []:=by
 rw[qw,if_neg ha,h];exact(if_neg h1).trans (if_pos h2)
theorem TK{b:Bool}{x:aj}(ha:x.bf≠[])(h:gZ x.bf=none)(h1:x.bf≠zW)(h2:x.bf≠yO):eZ b x=.mk 3 [] x.bf 0 iV [] []:=by
 rw[qw,if_neg ha,h];exact(if_neg h1).trans (if_neg h2)
def lE(l:List ay)(n:Nat):List (List D):=eB (l.map ay.enc) n
def kP(l:List ay):Nat:=iW (l.map ay.enc)
def lM(l:List aR)(n:Nat):List (List D):=eB (l.map aR.enc) n
def Y0(l:List aR):Nat:=iW (l.map aR.enc)
abbrev ay.vl (x:ay) (n:Nat):V:=.agg [.d (.i .i64 x.aK),.d (.s x.bL),.d (.s x.fName),.d (.i .i64 x.fN),.d (.i .i64 x.fType.aK),.d (.s x.fType.fName),.d (.ol n (lt x.fType.fArgs (n+1))),
 .d (.ol (n+(gq x.fType.fArgs+1)) (lE x.fArgs (n+(gq x.fType.fArgs+1)+1))),.d (.ol (n+(gq x.fType.fArgs+1)+(kP x.fArgs+1)) (lM x.aP (n+(gq x.fType.fArgs+1)+(kP x.fArgs+1)+1)))]
theorem TL(x:ay)(n:Nat):eX x.enc n=[.i .i64 x.aK,.s x.bL,.s x.fName,.i .i64 x.fN,.i .i64 x.fType.aK,.s x.fType.fName,.ol n (lt x.fType.fArgs (n+1)),
 .ol (n+(gq x.fType.fArgs+1)) (lE x.fArgs (n+(gq x.fType.fArgs+1)+1)),.ol (n+(gq x.fType.fArgs+1)+(kP x.fArgs+1)) (lM x.aP (n+(gq x.fType.fArgs+1)+(kP x.fArgs+1)+1))]:=by
 simp only[ay.aD,au.aD,List.cons_append,List.nil_append,eX,lI,ow,Nat.add_zero,lt,lE,lM,gq,kP]
theorem aen(x:aR)(n:Nat):eX x.enc n=[.s x.dL,.ol n (x.aA.map encS)]++eX x.fBody.enc (n+1):=by
 rw[aR.aD,Jp]
 simp only[eX,lI,sU,ow,Nat.add_zero,uh,wo,Nat.zero_add]
abbrev aR.vl (x:aR) (n:Nat):V:=.agg [.d (.s x.dL),.d (.ol n (x.aA.map encS)),.d (.i .i64 x.fBody.aK),.d (.s x.fBody.bL),.d (.s x.fBody.fName),.d (.i .i64 x.fBody.fN),.d (.i .i64 x.fBody.fType.aK),.d (.s x.fBody.fType.fName),.d (.ol (n+1) (lt x.fBody.fType.fArgs (n+1+1))),
 .d (.ol (n+1+(gq x.fBody.fType.fArgs+1)) (lE x.fBody.fArgs (n+1+(gq x.fBody.fType.fArgs+1)+1))),.d (.ol (n+1+(gq x.fBody.fType.fArgs+1)+(kP x.fBody.fArgs+1)) (lM x.fBody.aP (n+1+(gq x.fBody.fType.fArgs+1)+(kP x.fBody.fArgs+1)+1)))]
theorem abx(l:List ay)(n:Nat):(lE l n).length=l.length:=by unfold lE;rw[jN,List.length_map]
theorem aby(l:List aR)(n:Nat):(lM l n).length=l.length:=by unfold lM;rw[jN,List.length_map]
theorem agD{l:List ay}{i:Nat}(hi:i<l.length)(n:Nat):lE (l.take i) n++[eX l[i].enc (n+kP (l.take i))]=lE (l.take (i+1)) n:=by
 rw[List.take_succ_eq_append_getElem hi]
 unfold lE kP
 rw[List.map_append,pO];rfl
theorem agE{l:List aR}{i:Nat}(hi:i<l.length)(n:Nat):lM (l.take i) n++[eX l[i].enc (n+Y0 (l.take i))]=lM (l.take (i+1)) n:=by
 rw[List.take_succ_eq_append_getElem hi]
 unfold lM Y0
 rw[List.map_append,pO];rfl
theorem abz{l:List ay}{i:Nat}(hi:i<l.length):(l.take i).map ay.enc++[l[i].enc]=(l.take (i+1)).map ay.enc:=by
 rw[List.take_succ_eq_append_getElem hi,List.map_append];rfl
theorem abA{l:List aR}{i:Nat}(hi:i<l.length):(l.take i).map aR.enc++[l[i].enc]=(l.take (i+1)).map aR.enc:=by
 rw[List.take_succ_eq_append_getElem hi,List.map_append];rfl
theorem Wz{x:ay}{n:Nat}{k N:Int}{tr nm:List UInt8}(h:x=.mk k tr nm N iV [] []):Less (.agg [.d (.i .i64 k),.d (.s tr),.d (.s nm),.d (.i .i64 N),.d (.i .i64 0),.d (.s []),.bO [],.bO [],.bO []]) (x.vl n):=by
 rw[h]
 exact(fQ.cons (.refl _) (.cons (.refl _) (.cons (.refl _) (.cons (.refl _) (.cons (.refl _) (.cons (.refl _) (.cons (dX _) (.cons (dX _) (.cons (dX _) .nil))))))))).less
theorem TM{x:ay}{n:Nat}{k N:Int}{tr nm:List UInt8}{args:List ay}(h:x=.mk k tr nm N iV args []):Less (.agg [.d (.i .i64 k),.d (.s tr),.d (.s nm),.d (.i .i64 N),.d (.i .i64 0),.d (.s []),.bO [],.d (.ol (n+1) (lE args (n+1+1))),.bO []]) (x.vl n):=by
 rw[h]
 exact(fQ.cons (.refl _) (.cons (.refl _) (.cons (.refl _) (.cons (.refl _) (.cons (.refl _) (.cons (.refl _) (.cons (dX _) (.cons (.refl _) (.cons (dX _) .nil))))))))).less
theorem ie2{x:ay}{n:Nat}{k N:Int}{tr nm:List UInt8}{ty:au}{args:List ay}(h:x=.mk k tr nm N ty args []):Less (.agg [.d (.i .i64 k),.d (.s tr),.d (.s nm),.d (.i .i64 N),.d (.i .i64 ty.aK),.d (.s ty.fName),.d (.ol n (lt ty.fArgs (n+1))),.d (.ol (n+(gq ty.fArgs+1)) (lE args (n+(gq ty.fArgs+1)+1))),.bO []]) (x.vl n):=by
 rw[h]
 exact(fQ.cons (.refl _) (.cons (.refl _) (.cons (.refl _) (.cons (.refl _) (.cons (.refl _) (.cons (.refl _) (.cons (.refl _) (.cons (.refl _) (.cons (dX _) .nil))))))))).less
theorem ie3{x:ay}{n:Nat}{k N:Int}{tr nm:List UInt8}{args:List ay}{arms:List aR}(h:x=.mk k tr nm N iV args arms):Less (.agg [.d (.i .i64 k),.d (.s tr),.d (.s nm),.d (.i .i64 N),.d (.i .i64 0),.d (.s []),.bO [],.d (.ol (n+1) (lE args (n+1+1))),.d (.ol (n+1+(kP args+1)) (lM arms (n+1+(kP args+1)+1)))]) (x.vl n):=by
 rw[h]
 exact(fQ.cons (.refl _) (.cons (.refl _) (.cons (.refl _) (.cons (.refl _) (.cons (.refl _) (.cons (.refl _) (.cons (dX _) (.cons (.refl _) (.cons (.refl _) .nil))))))))).less
theorem se0{x:ay}{k N:Int}{tr nm:List UInt8}(h:x=.mk k tr nm N iV [] []):Less (.agg [.d (.i .i64 k),.d (.s tr),.d (.s nm),.d (.i .i64 N),.d (.i .i64 0),.d (.s []),.bO [],.bO [],.bO []]) x.v:=by
 rw[h]
 exact(fQ.cons (.refl _) (.cons (.refl _) (.cons (.refl _) (.cons (.refl _) (.cons (.refl _) (.cons (.refl _) (.cons (fP _) (.cons (fP _) (.cons (fP _) .nil))))))))).less
theorem TN{x:ay}{k N:Int}{tr nm:List UInt8}{args:List ay}(h:x=.mk k tr nm N iV args []):Less (.agg [.d (.i .i64 k),.d (.s tr),.d (.s nm),.d (.i .i64 N),.d (.i .i64 0),.d (.s []),.bO [],.d (.sl (args.map ay.enc)),.bO []]) x.v:=by
 rw[h]
 exact(fQ.cons (.refl _) (.cons (.refl _) (.cons (.refl _) (.cons (.refl _) (.cons (.refl _) (.cons (.refl _) (.cons (fP _) (.cons (.refl _) (.cons (fP _) .nil))))))))).less
theorem se2{x:ay}{k N:Int}{tr nm:List UInt8}{ty:au}{args:List ay}(h:x=.mk k tr nm N ty args []):Less (.agg [.d (.i .i64 k),.d (.s tr),.d (.s nm),.d (.i .i64 N),.d (.i .i64 ty.aK),.d (.s ty.fName),.d (.sl (ty.fArgs.map au.enc)),.d (.sl (args.map ay.enc)),.bO []]) x.v:=by
 rw[h]
 exact(fQ.cons (.refl _) (.cons (.refl _) (.cons (.refl _) (.cons (.refl _) (.cons (.refl _) (.cons (.refl _) (.cons (.refl _) (.cons (.refl _) (.cons (fP _) .nil))))))))).less
theorem se3{x:ay}{k N:Int}{tr nm:List UInt8}{args:List ay}{arms:List aR}(h:x=.mk k tr nm N iV args arms):Less (.agg [.d (.i .i64 k),.d (.s tr),.d (.s nm),.d (.i .i64 N),.d (.i .i64 0),.d (.s []),.bO [],.d (.sl (args.map ay.enc)),.d (.sl (arms.map aR.enc))]) x.v:=by
 rw[h]
 exact(fQ.cons (.refl _) (.cons (.refl _) (.cons (.refl _) (.cons (.refl _) (.cons (.refl _) (.cons (.refl _) (.cons (fP _) (.cons (.refl _) (.cons (.refl _) .nil))))))))).less
theorem Vy(l:List aj)(i:Nat):((l.map aj.enc).take l.length).drop (min i l.length)=(l.drop i).map aj.enc:=by
 rw[oq _ _ _ (Nat.le_refl _)]
 by_cases h:i≤l.length
 ·rw[Nat.min_eq_left h]
 ·rw[Nat.min_eq_right (by omega),List.drop_length,List.drop_of_length_le (by omega)]
theorem agF(l:List aj):((l.map aj.enc).take (min 2 l.length)).drop 1=((l.drop 1).take 1).map aj.enc:=by
 match l with
 |[]=>rfl
 |[x]=>rfl
 |x::y::l=>simp[show min 2 (l.length+1+1)=2 by omega]
theorem Y1(l:List aj)(i:Nat)(h:i<l.length+3):(l.map aj.enc++([[.s [],.sl []],[.s [],.sl []],[.s [],.sl []]]:List (List D))).getD i []=[.s (dM l i),.sl ((l.getD i dB).ah.map aj.enc)]:=by
 rw[List.getD_eq_getElem?_getD,List.getElem?_append]
 split
 ·rename_i hi
  rw[List.length_map] at hi
  rw[List.getElem?_map,List.getElem?_eq_getElem hi]
  simp only[Option.map_some,Option.getD_some]
  rw[aj.aD,jA hi,List.getD_eq_getElem?_getD,List.getElem?_eq_getElem hi];rfl
 ·rename_i hi
  rw[List.length_map] at hi
  rw[Ev (by omega),List.getD_eq_getElem?_getD,List.getElem?_eq_none (by omega:l.length≤i),List.length_map]
  have:i-l.length=0∨i-l.length=1∨i-l.length=2:=by omega
  rcases this with e|e|e<;>rw[e]<;>rfl
theorem Pt(l:List aj)(h:2≤l.length):((l.map aj.enc).take ((l.length:Int)-1).toNat).drop 1=((l.drop 1).dropLast).map aj.enc:=by
 rw[show((l.length:Int)-1).toNat=l.length-1 by omega,←List.map_take,←List.map_drop,List.dropLast_eq_take,List.length_drop,List.drop_take]
theorem uw(x:aj)(i:Nat){m:Nat}(h:x.sz≤m):(x.ah.getD i dB).sz≤m:=by
 have:=wm x.ah i
 have:=eP x
 omega
theorem wu{l:List aj}(h:kJ l=true){t:aj}(ht:t∈l):jJ t=true:=Br.1 h t ht
theorem rY{l:List aj}(h:kJ l=true)(i:Nat):kJ (l.drop i)=true:=Br.2 fun t ht=>wu h (List.mem_of_mem_drop ht)
theorem abB{l:List aj}(h:kJ l=true)(i:Nat):kJ (l.take i)=true:=Br.2 fun t ht=>wu h (List.mem_of_mem_take ht)
theorem DY{α:Type}[SizeOf α]:∀(i:Nat) (l:List α),SizeOf.sizeOf (l.take i)≤SizeOf.sizeOf l
 |0,[]=>by simp
 |0,x::l=>by rw[List.take_zero];simp only[List.cons.sizeOf_spec,List.nil.sizeOf_spec];omega
 |i+1,[]=>by simp
 |i+1,x::l=>by
  have:=DY i l
  rw[List.take_succ_cons];simp only[List.cons.sizeOf_spec];omega
end Go.Ab
namespace Go.Proofs.YtocpgjlbagncjaaGreatDoor
open Go Go.Ab
theorem Y2(n:Int):aI Tryz.prog 196 [.c (.d (.i .i64 n))] (.agg [.d (.i .i64 1),.d (.s []),.d (.s []),.d (.i .i64 n),.d (.i .i64 0),.d (.s []),.bO [],.bO [],.bO []]):=fun S=>by
 refine aG (rs:=[.cell 2 50]) Tryz.checked.mixed Tryz.func196 Tryz.ntmps196 rfl rfl rfl rfl rfl ?_
 exact Z1
theorem Vz(s:List UInt8):aI Tryz.prog 197 [.c (.d (.s s))] (.agg [.d (.i .i64 3),.d (.s []),.d (.s s),.d (.i .i64 0),.d (.i .i64 0),.d (.s []),.bO [],.bO [],.bO []]):=fun S=>by
 refine aG (rs:=[.cell 2 50]) Tryz.checked.mixed Tryz.func197 Tryz.ntmps197 rfl rfl rfl rfl rfl ?_
 exact Z1
theorem Ii:∀N:Nat,(∀x:aj,SizeOf.sizeOf x<N→x.sz≤4194304→aI Tryz.prog 121 [x.v] (eZ false x).v)∧
 (∀xs:List aj,SizeOf.sizeOf xs<N→xs.length≤4194304→(∀t∈xs,t.sz≤4194304)→aI Tryz.prog 198 [.c (.d (.sl (xs.map aj.enc)))] (.c (.d (.sl ((xs.map (eZ false)).map ay.enc)))))∧
 (∀x:aj,SizeOf.sizeOf x<N→x.sz≤4194304→aI Tryz.prog 200 [x.v] (ru false x).v)
 |0=>⟨fun x h=>by omega,fun x h=>by omega,fun x h=>by omega⟩
 |N+1=>by
  obtain⟨ih,qh,ihM⟩:=Ii N
  refine⟨fun x hn hsz=>aI.of_le fun S=> ?_,fun xs hn hlen hsz S=> ?_,fun x hn hsz=>aI.of_le fun S=> ?_⟩
  ·have jS:=aj.oO x
   have h1:=eP x
   have h2:=zK x
   have hall:∀t∈x.ah,t.sz≤4194304:=fun t ht=>by have:=iK ht;omega
   have hr:=gT (l:=x.ah)
   have hso:=fun i=>zY i x.ah
   have hdl:∀i,(x.ah.drop i).length≤4194304:=fun i=>by rw[List.length_drop];omega
   have hda:∀i,∀t∈x.ah.drop i,t.sz≤4194304:=fun i t ht=>hall t (List.mem_of_mem_drop ht)
   have hg:xA false x.ah:=fun e=>by cases e.1
   refine aG (rs:=[.cell 2 50]) Tryz.checked.mixed Tryz.func121 Tryz.ntmps121 rfl rfl rfl rfl rfl ?_
   refine W1 ?_
   refine S0 (fun hb h=>?_) fun hb h=>?_
   ·have hne:=h
    refine aZ (MR x.bf (by omega)) ?_
    cases Av:gZ x.bf with
    |some m=>
     simp -implicitDefEqProofs (disch:=omega) only[go_sem,Option.getD_some,Option.isSome_some]
     refine C1 (Y2 m) ?_
     exact se0 (TJ hne Av)
    |none=>
     simp -implicitDefEqProofs (disch:=omega) only[go_sem,Option.getD_none,Option.isSome_none]
     refine S0 (fun hb h=>?_) fun hb h=>?_
     ·exact se0 (Pq hne Av h)
     have k1:=h
     refine S0 (fun hb h=>?_) fun hb h=>?_
     ·exact se0 (MS hne Av k1 h)
     have k2:=h
     refine C1 (Vz _) ?_
     exact se0 (TK hne Av k1 k2)
   have ha:=h
   have l0:=Y1 x.ah 0 (by omega)
   have l1:=Y1 x.ah 1 (by omega)
   have l2:=Y1 x.ah 2 (by omega)
   have hm1:min (1:Int) (x.ah.length:Int)=((min 1 x.ah.length:Nat):Int):=by omega
   have hm2:min (2:Int) (x.ah.length:Int)=((min 2 x.ah.length:Nat):Int):=by omega
   have hm3:min (3:Int) (x.ah.length:Int)=((min 3 x.ah.length:Nat):Int):=by omega
   have hd:=fun i=>Vy x.ah i
   have hdd:=oq x.ah x.ah.length 1 (Nat.le_refl _)
   simp -implicitDefEqProofs (disch:=omega) only[go_sem,l0,l1,l2]
   refine W3 ?_
   with_reducible refine dU (fun hb=> ?_) (fun hb=> ?_)<;>have h:=hb<;>(try simp only[wf_preprocess] at h)<;>simp -implicitDefEqProofs (disch:=omega) only[go_sem,hb,l0,l1,l2]<;>refine W3 ?_
   ·refine aZ (uo _ _) ?_
    rw[hm2]
    refine W1 ?_
    refine⟨⟨by omega,by omega,by omega,hr⟩,?_⟩
    rw[hd]
    refine C1 (qh (x.ah.drop 2) (by have:=hso 2;omega) (hdl 2) (hda 2)) ?_
    exact TN (Pk ha hg h)
   have Y3:=h
   with_reducible refine dU (fun hb=> ?_) (fun hb=> ?_)<;>have h:=hb<;>(try simp only[wf_preprocess] at h)<;>simp -implicitDefEqProofs (disch:=omega) only[go_sem,hb,l0,l1,l2]<;>refine W3 ?_
   ·refine aZ (uo _ _) ?_
    rw[hm3]
    refine W1 ?_
    refine⟨⟨by omega,by omega,by omega,hr⟩,?_⟩
    rw[hd]
    refine C1 (qh (x.ah.drop 3) (by have:=hso 3;omega) (hdl 3) (hda 3)) ?_
    exact TN (JK ha hg h)
   have I6:=h
   with_reducible refine dU (fun hb=> ?_) (fun hb=> ?_)<;>have h:=hb<;>(try simp only[wf_preprocess] at h)<;>simp -implicitDefEqProofs (disch:=omega) only[go_sem,hb,l0,l1,l2]<;>refine W3 ?_
   ·refine aZ (uo _ _) ?_
    rw[hm2]
    refine W1 ?_
    refine⟨⟨by omega,by omega,by omega,hr⟩,?_⟩
    rw[hd]
    refine C1 (qh (x.ah.drop 2) (by have:=hso 2;omega) (hdl 2) (hda 2)) ?_
    exact TN (TG ha hg h)
   have nNew:=h
   with_reducible refine dU (fun hb=> ?_) (fun hb=> ?_)<;>have h:=hb<;>(try simp only[wf_preprocess] at h)<;>simp -implicitDefEqProofs (disch:=omega) only[go_sem,hb,l0,l1,l2]<;>refine W3 ?_
   ·refine aZ (uo _ _) ?_
    rw[hm2]
    refine W1 ?_
    refine⟨⟨by omega,by omega,by omega,hr⟩,?_⟩
    rw[hd]
    refine C1 (qh (x.ah.drop 2) (by have:=hso 2;omega) (hdl 2) (hda 2)) ?_
    exact TN (TH ha hg h)
   have aeo:=h
   with_reducible refine dU (fun hb=> ?_) (fun hb=> ?_)<;>have h:=hb<;>(try simp only[wf_preprocess] at h)<;>simp -implicitDefEqProofs (disch:=omega) only[go_sem,hb,l0,l1,l2]<;>refine W3 ?_
   ·have hpos:0<x.ah.length:=by
     rcases Nat.eq_zero_or_pos x.ah.length with e|e
     ·rw[Ev (by omega)] at h;cases h
     ·exact e
    refine⟨⟨by omega,by omega,hr⟩,?_⟩
    rw[hdd]
    refine C1 (qh (x.ah.drop 1) (by have:=hso 1;omega) (hdl 1) (hda 1)) ?_
    exact TN (Wy ha hg h)
   have nIf:=h
   with_reducible refine dU (fun hb=> ?_) (fun hb=> ?_)<;>have h:=hb<;>(try simp only[wf_preprocess] at h)<;>simp -implicitDefEqProofs (disch:=omega) only[go_sem,hb,l0,l1,l2]<;>refine W3 ?_
   ·refine aZ (uo _ _) ?_
    rw[hm2]
    refine W1 ?_
    refine⟨⟨by omega,by omega,by omega,hr⟩,?_⟩
    rw[hd]
    refine C1 (qh (x.ah.drop 2) (by have:=hso 2;omega) (hdl 2) (hda 2)) ?_
    exact TN (Pm ha hg h)
   have Y4:=h
   with_reducible refine dU (fun hb=> ?_) (fun hb=> ?_)<;>have h:=hb<;>(try simp only[wf_preprocess] at h)<;>simp -implicitDefEqProofs (disch:=omega) only[go_sem,hb,l0,l1,l2]<;>refine W3 ?_
   ·refine C1 (p8 (x.ah.getD 1 dB) (uw x 1 hsz)) ?_
    refine aZ (uo _ _) ?_
    rw[hm2]
    refine W1 ?_
    refine⟨⟨by omega,by omega,by omega,hr⟩,?_⟩
    rw[hd]
    refine C1 (qh (x.ah.drop 2) (by have:=hso 2;omega) (hdl 2) (hda 2)) ?_
    exact se2 (TI ha hg h)
   have nThe:=h
   with_reducible refine dU (fun hb=> ?_) (fun hb=> ?_)<;>have h:=hb<;>(try simp only[wf_preprocess] at h)<;>simp -implicitDefEqProofs (disch:=omega) only[go_sem,hb,l0,l1,l2]<;>refine W3 ?_
   ·have hpos:0<x.ah.length:=by
     rcases Nat.eq_zero_or_pos x.ah.length with e|e
     ·rw[Ev (by omega)] at h;cases h
     ·exact e
    have hdec:=Pn ha hg h
    refine aZ (uo _ _) ?_
    rw[hm2]
    refine W1 ?_
    refine⟨⟨by omega,by omega,hr⟩,?_⟩
    rw[agF]
    refine C1 (qh ((x.ah.drop 1).take 1) (by have:=hso 1;have:=DY 1 (x.ah.drop 1);omega) (by rw[List.length_take];omega) (fun t ht=>hda 1 t (List.mem_of_mem_take ht))) ?_
    obtain⟨Pv,Y5⟩:∃Pv,Pv=((x.ah.drop 1).take 1).map (eZ false):=⟨_,rfl⟩
    obtain⟨T,hT⟩:∃T:Nat→List (List D),T=fun k=>(((x.ah.drop 2).map (ru false)).take k).map aR.enc:=⟨_,rfl⟩
    have hT0:T 0=[]:=by rw[hT];rfl
    have ig:∀k,(T k).length≤k:=fun k=>by rw[hT];simp only[List.length_map];exact List.length_take_le _ _
    have hTs:∀k (hk:k+2<x.ah.length),T k++[(ru false x.ah[k+2]).enc]=T (k+1):=fun k hk=>by
     have:=abA (l:=(x.ah.drop 2).map (ru false)) (i:=k) (by rw[List.length_map,List.length_drop];omega)
     rw[List.getElem_map,List.getElem_drop] at this
     rw[hT];simp only[Nat.add_comm 2 k] at this ⊢;exact this
    have hTe:T (x.ah.length-2)=((x.ah.drop 2).map (ru false)).map aR.enc:=by
     rw[hT];simp only
     rw[List.take_of_length_le (by simp)]
    clear hT
    rw[←Y5] at hdec ⊢
    refine qV 3 8 11 _ rfl rfl ?_
    refine aT (ι:=Nat) Tryz.checked.mixed rfl [1,2,6,8,9] (fun k=>[.c (.ptr (0,0) 0),.c (.ptr (0,1) 0),.c (.d (.i .i64 x.ah.length)),.c (.ptr (0,3) 0),.c (.d (.i .i64 ((k+2:Nat):Int)))])
     (fun k=>[.box [.d (.s x.bf),.d (.sl (x.ah.map aj.enc))],.box [.d (.i .i64 0),.d (.s []),.d (.s []),.d (.i .i64 0),.d (.i .i64 0),.d (.s []),.bO [],.bO [],.bO []],.tok 2 (x.ah.map aj.enc++[[.s [],.sl []],[.s [],.sl []],[.s [],.sl []]]),
       .box [.d (.i .i64 7),.d (.s []),.d (.s []),.d (.i .i64 0),.d (.i .i64 0),.d (.s []),.bO [],.d (.sl (Pv.map ay.enc)),.bS (0,4) (T k)],.tok 11 (T k)]::S)
     (fun k=>k≤x.ah.length-2) (fun k=>x.ah.length-(k+2)) 0 rfl (by rw[hT0];rfl) (Nat.zero_le _) ?_
    intro k hk
    have hlk:=ig k
    clear l0 l1 l2
    refine W1 ?_
    refine S0 (fun hb h=>?_) fun hb h=>?_
    ·have hk':k+2<x.ah.length:=by omega
     have hm:=List.getElem_mem hk'
     have hs:=hTs k hk'
     simp only[aR.aD,ay.aD,au.aD,List.cons_append,List.nil_append] at hs
     refine W3 ?_
     refine C1 (ihM x.ah[k+2] (by have:=List.sizeOf_lt_of_mem hm;omega) (hall _ hm)) ?_
     refine W3 ?_
     rw[hs]
     exact bP (k+1) (by omega) rfl rfl (by omega)
    ·have hk':k=x.ah.length-2:=by omega
     subst hk'
     rw[hTe]
     exact se3 hdec
   have Y6:=h
   refine aZ (uo _ _) ?_
   rw[hm1]
   refine W1 ?_
   refine⟨⟨by omega,by omega,by omega,hr⟩,?_⟩
   rw[hd]
   refine C1 (qh (x.ah.drop 1) (by have:=hso 1;omega) (hdl 1) (hda 1)) ?_
   exact TN (Po ha hg Y3 nNew aeo Y4 I6 nIf nThe Y6)
  ·have Bt:=fun(i:Nat) (hi:i<xs.length)=>abz (l:=xs.map (eZ false)) (i:=i) (by rw[List.length_map];exact hi)
   refine aG (rs:=[.tmp 2]) Tryz.checked.mixed Tryz.func198 Tryz.ntmps198 rfl rfl rfl rfl rfl ?_
   refine W1 ?_
   refine W3 ?_
   refine mR 3 9 [] rfl (by simp) ?_
   refine aT (ι:=Nat) Tryz.checked.mixed rfl [0,3,4] (fun i=>[.c (.d (.sl (xs.map aj.enc))),.c (.bS (0,0) (((xs.map (eZ false)).take i).map ay.enc)),.c (.d (.i .i64 i))]) (fun i=>[.tok 9 (((xs.map (eZ false)).take i).map ay.enc)]::S)
    (fun i=>i≤xs.length) (fun i=>xs.length-i) 0 rfl rfl (Nat.zero_le _) ?_
   intro i hi
   have hl:(((xs.map (eZ false)).take i).map ay.enc).length≤i:=by rw[List.length_map];exact List.length_take_le _ _
   refine W1 ?_
   refine S0 (fun hb h=>?_) fun hb h=>?_
   ·have hi':i<xs.length:=by omega
    have hs:=Bt i hi'
    rw[List.getElem_map] at hs
    simp only[ay.aD,au.aD,List.cons_append,List.nil_append] at hs
    refine W3 ?_
    refine C1 (ih xs[i] (by have:=List.sizeOf_lt_of_mem (List.getElem_mem hi');omega) (hsz _ (List.getElem_mem hi'))) ?_
    refine W3 ?_
    rw[hs]
    exact bP (i+1) (by omega) rfl rfl (by omega)
   ·have hi':i=(xs.map (eZ false)).length:=by rw[List.length_map];omega
    rw[hi',List.take_length]
  ·have jS:=aj.oO x
   have h1:=eP x
   have hall:∀t∈x.ah,t.sz≤4194304:=fun t ht=>by have:=iK ht;omega
   have hr:=gT (l:=x.ah)
   refine aG (rs:=[.cell 2 156]) Tryz.checked.mixed Tryz.func200 Tryz.ntmps200 rfl rfl rfl rfl rfl ?_
   refine W1 ?_
   refine S0 (fun hb h=>?_) fun hb h=>?_
   ·rw[Wx false x (by omega)]
    exact(fQ.cons (.refl _) (.cons (fP _) (.cons (.refl _) (.cons (.refl _) (.cons (.refl _) (.cons (.refl _) (.cons (.refl _) (.cons (.refl _) (.cons (fP _) (.cons (fP _) (.cons (fP _) .nil))))))))))).less
   have hl2:2≤x.ah.length:=by omega
   have a0:=jA (l:=x.ah) (i:=0) (by omega)
   have hm:=List.getElem_mem (l:=x.ah) (n:=x.ah.length-1) (by omega)
   rw[Ww false x hl2,a0]
   refine⟨⟨by omega,by omega,hr⟩,?_⟩
   rw[Pt _ hl2]
   refine C1 (CK ((x.ah.drop 1).dropLast) (by rw[List.length_dropLast,List.length_drop];omega)) ?_
   refine W3 ?_
   have el:((x.ah.length:Int)-1).toNat=x.ah.length-1:=by omega
   simp only[el]
   refine C1 (ih (x.ah[x.ah.length-1]) (by have:=List.sizeOf_lt_of_mem hm;omega) (hall _ hm)) ?_
   exact iF _
theorem DZ(x:aj)(hsz:x.sz≤4194304):aI Tryz.prog 121 [x.v] (eZ false x).v:=(Ii _).1 x (Nat.lt_succ_self _) hsz
end Go.Proofs.YtocpgjlbagncjaaGreatDoor
namespace Go.Proofs
open Go.Shelf
def Tryz.lays172_ren:Go.Shelf.Ren:=⟨fun|172=>307|244=>333|245=>334|247=>342|279=>343|280=>344|281=>345|282=>346|287=>353|316=>354|171=>280|205=>355|321=>361|322=>362|243=>312|246=>336|283=>347|284=>348|285=>349|286=>350|129=>357|317=>356|318=>358|319=>359|320=>360|337=>363|338=>364|n=>n,fun|9=>9|3=>3|75=>267|76=>268|4=>4|5=>5|167=>294|37=>158|0=>0|85=>295|2=>2|168=>297|53=>301|175=>309|46=>276|210=>313|127=>321|145=>324|143=>322|21=>21|171=>300|173=>304|212=>316|51=>306|20=>20|213=>317|232=>326|233=>327|80=>328|n=>n,fun|15=>3|16=>4|17=>5|18=>6|19=>7|n=>n⟩
theorem Tryz.lays172:Go.Proofs.Lays.n172 Tryz.prog Tryz.lays172_ren:={
 mixed:=by kernel_rfl
 f129:=Tryz.func357.trans (congrArg some (by kernel_rfl))
 f171:=Tryz.func280.trans (congrArg some (by kernel_rfl))
 f172:=Tryz.func307.trans (congrArg some (by kernel_rfl))
 f205:=Tryz.func355.trans (congrArg some (by kernel_rfl))
 f243:=Tryz.func312.trans (congrArg some (by kernel_rfl))
 f244:=Tryz.func333.trans (congrArg some (by kernel_rfl))
 f245:=Tryz.func334.trans (congrArg some (by kernel_rfl))
 f246:=Tryz.func336.trans (congrArg some (by kernel_rfl))
 f247:=Tryz.func342.trans (congrArg some (by kernel_rfl))
 f279:=Tryz.func343.trans (congrArg some (by kernel_rfl))
 f280:=Tryz.func344.trans (congrArg some (by kernel_rfl))
 f281:=Tryz.func345.trans (congrArg some (by kernel_rfl))
 f282:=Tryz.func346.trans (congrArg some (by kernel_rfl))
 f283:=Tryz.func347.trans (congrArg some (by kernel_rfl))
 f284:=Tryz.func348.trans (congrArg some (by kernel_rfl))
 f285:=Tryz.func349.trans (congrArg some (by kernel_rfl))
 f286:=Tryz.func350.trans (congrArg some (by kernel_rfl))
 f287:=Tryz.func353.trans (congrArg some (by kernel_rfl))
 f316:=Tryz.func354.trans (congrArg some (by kernel_rfl))
 f317:=Tryz.func356.trans (congrArg some (by kernel_rfl))
 f318:=Tryz.func358.trans (congrArg some (by kernel_rfl))
 f319:=Tryz.func359.trans (congrArg some (by kernel_rfl))
 f320:=Tryz.func360.trans (congrArg some (by kernel_rfl))
 f321:=Tryz.func361.trans (congrArg some (by kernel_rfl))
 f322:=Tryz.func362.trans (congrArg some (by kernel_rfl))
 f337:=Tryz.func363.trans (congrArg some (by kernel_rfl))
 f338:=Tryz.func364.trans (congrArg some (by kernel_rfl))
 t0:=Tryz.underlying0
 a0:=Tryz.isAgg0
 z0:=Tryz.sizeOf0
 v0:=Tryz.zeroValue0
 t2:=Tryz.underlying2
 a2:=Tryz.isAgg2
 z2:=Tryz.sizeOf2
 v2:=Tryz.zeroValue2
 t3:=Tryz.underlying3
 a3:=Tryz.isAgg3
 z3:=Tryz.sizeOf3
 v3:=Tryz.zeroValue3
 t4:=Tryz.underlying4
 a4:=Tryz.isAgg4
 z4:=Tryz.sizeOf4
 v4:=Tryz.zeroValue4
 t5:=Tryz.underlying5
 a5:=Tryz.isAgg5
 z5:=Tryz.sizeOf5
 v5:=Tryz.zeroValue5
 t9:=Tryz.underlying9
 a9:=Tryz.isAgg9
 z9:=Tryz.sizeOf9
 v9:=Tryz.zeroValue9
 t20:=Tryz.underlying20
 a20:=Tryz.isAgg20
 z20:=Tryz.sizeOf20
 v20:=Tryz.zeroValue20
 t21:=Tryz.underlying21
 a21:=Tryz.isAgg21
 z21:=Tryz.sizeOf21
 v21:=Tryz.zeroValue21
 t37:=Tryz.underlying158
 a37:=Tryz.isAgg158
 z37:=Tryz.sizeOf158
 v37:=Tryz.zeroValue158
 t46:=Tryz.underlying276
 a46:=Tryz.isAgg276
 z46:=Tryz.sizeOf276
 v46:=Tryz.zeroValue276
 t51:=Tryz.underlying306
 a51:=Tryz.isAgg306
 z51:=Tryz.sizeOf306
 v51:=Tryz.zeroValue306
 t53:=Tryz.underlying301
 a53:=Tryz.isAgg301
 z53:=Tryz.sizeOf301
 v53:=Tryz.zeroValue301
 t75:=Tryz.underlying267
 a75:=Tryz.isAgg267
 z75:=Tryz.sizeOf267
 v75:=Tryz.zeroValue267
 t76:=Tryz.underlying268
 a76:=Tryz.isAgg268
 z76:=Tryz.sizeOf268
 v76:=Tryz.zeroValue268
 t85:=Tryz.underlying295
 a85:=Tryz.isAgg295
 z85:=Tryz.sizeOf295
 v85:=Tryz.zeroValue295
 t127:=Tryz.underlying321
 a127:=Tryz.isAgg321
 z127:=Tryz.sizeOf321
 v127:=Tryz.zeroValue321
 t143:=Tryz.underlying322
 a143:=Tryz.isAgg322
 z143:=Tryz.sizeOf322
 v143:=Tryz.zeroValue322
 t145:=Tryz.underlying324
 a145:=Tryz.isAgg324
 z145:=Tryz.sizeOf324
 v145:=Tryz.zeroValue324
 t167:=Tryz.underlying294
 a167:=Tryz.isAgg294
 z167:=Tryz.sizeOf294
 v167:=Tryz.zeroValue294
 t168:=Tryz.underlying297
 a168:=Tryz.isAgg297
 z168:=Tryz.sizeOf297
 v168:=Tryz.zeroValue297
 t171:=Tryz.underlying300
 a171:=Tryz.isAgg300
 z171:=Tryz.sizeOf300
 v171:=Tryz.zeroValue300
 t173:=Tryz.underlying304
 a173:=Tryz.isAgg304
 z173:=Tryz.sizeOf304
 v173:=Tryz.zeroValue304
 t175:=Tryz.underlying309
 a175:=Tryz.isAgg309
 z175:=Tryz.sizeOf309
 v175:=Tryz.zeroValue309
 t210:=Tryz.underlying313
 a210:=Tryz.isAgg313
 z210:=Tryz.sizeOf313
 v210:=Tryz.zeroValue313
 t212:=Tryz.underlying316
 a212:=Tryz.isAgg316
 z212:=Tryz.sizeOf316
 v212:=Tryz.zeroValue316
 t213:=Tryz.underlying317
 a213:=Tryz.isAgg317
 z213:=Tryz.sizeOf317
 t232:=Tryz.underlying326
 a232:=Tryz.isAgg326
 z232:=Tryz.sizeOf326
 v232:=Tryz.zeroValue326
 t233:=Tryz.underlying327
 a233:=Tryz.isAgg327
 z233:=Tryz.sizeOf327
 v233:=Tryz.zeroValue327
 g15:=by kernel_rfl
 g16:=by kernel_rfl
 g17:=by kernel_rfl
 g18:=by kernel_rfl
 g19:=by kernel_rfl}
open Go.RowKit in
theorem Tryz.strconv_Atoi(s:ByteArray)(n:Int)(hl:s.size≤18)(h:Lib.atoi s.data.toList=some n)(w:World):
 Calls Tryz.prog 307 #[.string s] w fun e w'=>e=.returned (.tuple #[.int .i64 n,.nilIface])∧∃t,w'=Lib.bytesWorld w 5 t:=Any.strconv_Atoi Tryz.lays172 s n hl h w
def Tryz.laysC172_ren:Go.Shelf.Ren:=⟨fun|172=>307|244=>333|245=>334|247=>342|279=>343|280=>344|281=>345|282=>346|287=>353|316=>354|171=>280|205=>355|321=>361|322=>362|243=>312|246=>336|283=>347|284=>348|285=>349|286=>350|129=>357|317=>356|318=>358|319=>359|320=>360|337=>363|338=>364|n=>n,fun|9=>9|3=>3|75=>267|76=>268|4=>4|5=>5|167=>294|37=>158|0=>0|85=>295|2=>2|168=>297|53=>301|175=>309|46=>276|210=>313|127=>321|145=>324|143=>322|21=>21|171=>300|173=>304|212=>316|51=>306|20=>20|213=>317|232=>326|233=>327|80=>328|n=>n,fun|15=>3|16=>4|17=>5|18=>6|19=>7|n=>n⟩
theorem Tryz.laysC172:Go.Proofs.LaysC.n172 Tryz.prog Tryz.laysC172_ren:={
 mixed:=by kernel_rfl
 f129:=Tryz.func357.trans (congrArg some (by kernel_rfl))
 f171:=Tryz.func280.trans (congrArg some (by kernel_rfl))
 f172:=Tryz.func307.trans (congrArg some (by kernel_rfl))
 f205:=Tryz.func355.trans (congrArg some (by kernel_rfl))
 f243:=Tryz.func312.trans (congrArg some (by kernel_rfl))
 f244:=Tryz.func333.trans (congrArg some (by kernel_rfl))
 f245:=Tryz.func334.trans (congrArg some (by kernel_rfl))
 f246:=Tryz.func336.trans (congrArg some (by kernel_rfl))
 f247:=Tryz.func342.trans (congrArg some (by kernel_rfl))
 f279:=Tryz.func343.trans (congrArg some (by kernel_rfl))
 f280:=Tryz.func344.trans (congrArg some (by kernel_rfl))
 f281:=Tryz.func345.trans (congrArg some (by kernel_rfl))
 f282:=Tryz.func346.trans (congrArg some (by kernel_rfl))
 f283:=Tryz.func347.trans (congrArg some (by kernel_rfl))
 f284:=Tryz.func348.trans (congrArg some (by kernel_rfl))
 f285:=Tryz.func349.trans (congrArg some (by kernel_rfl))
 f286:=Tryz.func350.trans (congrArg some (by kernel_rfl))
 f287:=Tryz.func353.trans (congrArg some (by kernel_rfl))
 f316:=Tryz.func354.trans (congrArg some (by kernel_rfl))
 f317:=Tryz.func356.trans (congrArg some (by kernel_rfl))
 f318:=Tryz.func358.trans (congrArg some (by kernel_rfl))
 f319:=Tryz.func359.trans (congrArg some (by kernel_rfl))
 f320:=Tryz.func360.trans (congrArg some (by kernel_rfl))
 f321:=Tryz.func361.trans (congrArg some (by kernel_rfl))
 f322:=Tryz.func362.trans (congrArg some (by kernel_rfl))
 f337:=Tryz.func363.trans (congrArg some (by kernel_rfl))
 f338:=Tryz.func364.trans (congrArg some (by kernel_rfl))
 t0:=Tryz.underlying0
 a0:=Tryz.isAgg0
 z0:=Tryz.sizeOf0
 v0:=Tryz.zeroValue0
 t2:=Tryz.underlying2
 a2:=Tryz.isAgg2
 z2:=Tryz.sizeOf2
 v2:=Tryz.zeroValue2
 t3:=Tryz.underlying3
 a3:=Tryz.isAgg3
 z3:=Tryz.sizeOf3
 v3:=Tryz.zeroValue3
 t4:=Tryz.underlying4
 a4:=Tryz.isAgg4
 z4:=Tryz.sizeOf4
 v4:=Tryz.zeroValue4
 t5:=Tryz.underlying5
 a5:=Tryz.isAgg5
 z5:=Tryz.sizeOf5
 v5:=Tryz.zeroValue5
 t9:=Tryz.underlying9
 a9:=Tryz.isAgg9
 z9:=Tryz.sizeOf9
 v9:=Tryz.zeroValue9
 t20:=Tryz.underlying20
 a20:=Tryz.isAgg20
 z20:=Tryz.sizeOf20
 v20:=Tryz.zeroValue20
 t21:=Tryz.underlying21
 a21:=Tryz.isAgg21
 z21:=Tryz.sizeOf21
 v21:=Tryz.zeroValue21
 t37:=Tryz.underlying158
 a37:=Tryz.isAgg158
 z37:=Tryz.sizeOf158
 v37:=Tryz.zeroValue158
 t46:=Tryz.underlying276
 a46:=Tryz.isAgg276
 z46:=Tryz.sizeOf276
 v46:=Tryz.zeroValue276
 t51:=Tryz.underlying306
 a51:=Tryz.isAgg306
 z51:=Tryz.sizeOf306
 v51:=Tryz.zeroValue306
 t53:=Tryz.underlying301
 a53:=Tryz.isAgg301
 z53:=Tryz.sizeOf301
 v53:=Tryz.zeroValue301
 t75:=Tryz.underlying267
 a75:=Tryz.isAgg267
 z75:=Tryz.sizeOf267
 v75:=Tryz.zeroValue267
 t76:=Tryz.underlying268
 a76:=Tryz.isAgg268
 z76:=Tryz.sizeOf268
 v76:=Tryz.zeroValue268
 t85:=Tryz.underlying295
 a85:=Tryz.isAgg295
 z85:=Tryz.sizeOf295
 v85:=Tryz.zeroValue295
 t127:=Tryz.underlying321
 a127:=Tryz.isAgg321
 z127:=Tryz.sizeOf321
 v127:=Tryz.zeroValue321
 t143:=Tryz.underlying322
 a143:=Tryz.isAgg322
 z143:=Tryz.sizeOf322
 v143:=Tryz.zeroValue322
 t145:=Tryz.underlying324
 a145:=Tryz.isAgg324
 z145:=Tryz.sizeOf324
 v145:=Tryz.zeroValue324
 t167:=Tryz.underlying294
 a167:=Tryz.isAgg294
 z167:=Tryz.sizeOf294
 v167:=Tryz.zeroValue294
 t168:=Tryz.underlying297
 a168:=Tryz.isAgg297
 z168:=Tryz.sizeOf297
 v168:=Tryz.zeroValue297
 t171:=Tryz.underlying300
 a171:=Tryz.isAgg300
 z171:=Tryz.sizeOf300
 v171:=Tryz.zeroValue300
 t173:=Tryz.underlying304
 a173:=Tryz.isAgg304
 z173:=Tryz.sizeOf304
 v173:=Tryz.zeroValue304
 t175:=Tryz.underlying309
 a175:=Tryz.isAgg309
 z175:=Tryz.sizeOf309
 v175:=Tryz.zeroValue309
 t210:=Tryz.underlying313
 a210:=Tryz.isAgg313
 z210:=Tryz.sizeOf313
 v210:=Tryz.zeroValue313
 t212:=Tryz.underlying316
 a212:=Tryz.isAgg316
 z212:=Tryz.sizeOf316
 v212:=Tryz.zeroValue316
 t213:=Tryz.underlying317
 a213:=Tryz.isAgg317
 z213:=Tryz.sizeOf317
 t232:=Tryz.underlying326
 a232:=Tryz.isAgg326
 z232:=Tryz.sizeOf326
 v232:=Tryz.zeroValue326
 t233:=Tryz.underlying327
 a233:=Tryz.isAgg327
 z233:=Tryz.sizeOf327
 v233:=Tryz.zeroValue327
 g15:=by kernel_rfl
 g16:=by kernel_rfl
 g17:=by kernel_rfl
 g18:=by kernel_rfl
 g19:=by kernel_rfl
 t80:=Tryz.underlying328
 a80:=Tryz.isAgg328
 z80:=Tryz.sizeOf328
 v80:=Tryz.zeroValue328
 i0:=by kernel_rfl
 i2:=by kernel_rfl
 i3:=by kernel_rfl
 i4:=by kernel_rfl
 i5:=by kernel_rfl
 i9:=by kernel_rfl
 i20:=by kernel_rfl
 i21:=by kernel_rfl
 i37:=by kernel_rfl
 i46:=by kernel_rfl
 i51:=by kernel_rfl
 i53:=by kernel_rfl
 i75:=by kernel_rfl
 i76:=by kernel_rfl
 i80:=by kernel_rfl
 i85:=by kernel_rfl
 i127:=by kernel_rfl
 i143:=by kernel_rfl
 i145:=by kernel_rfl
 i167:=by kernel_rfl
 i168:=by kernel_rfl
 i171:=by kernel_rfl
 i173:=by kernel_rfl
 i175:=by kernel_rfl
 i210:=by kernel_rfl
 i212:=by kernel_rfl
 i232:=by kernel_rfl
 i233:=by kernel_rfl
 m15:=by kernel_rfl
 m16:=by kernel_rfl
 m17:=by kernel_rfl
 m18:=by kernel_rfl
 m19:=by kernel_rfl
 c0:=by kernel_rfl
 c2:=by kernel_rfl
 c3:=by kernel_rfl
 c4:=by kernel_rfl
 c5:=by kernel_rfl
 c9:=by kernel_rfl
 c20:=by kernel_rfl
 c21:=by kernel_rfl
 c37:=by kernel_rfl
 c46:=by kernel_rfl
 c51:=by kernel_rfl
 c53:=by kernel_rfl
 c75:=by kernel_rfl
 c76:=by kernel_rfl
 c80:=by kernel_rfl
 c85:=by kernel_rfl
 c127:=by kernel_rfl
 c143:=by kernel_rfl
 c145:=by kernel_rfl
 c167:=by kernel_rfl
 c168:=by kernel_rfl
 c171:=by kernel_rfl
 c173:=by kernel_rfl
 c175:=by kernel_rfl
 c210:=by kernel_rfl
 c212:=by kernel_rfl
 c213:=by kernel_rfl
 c232:=by kernel_rfl
 c233:=by kernel_rfl}
open Go.RowKit in
theorem Tryz.strconv_Atoi_err_var(s:ByteArray)(hl:s.size≤18)(h:Lib.atoi s.data.toList=none)(tp:TypeId)(p:Value)(w:World)(hvar:w.var? Tryz.prog "strconv.ErrSyntax" =some #[.iface tp p]):
 Calls Tryz.prog 307 #[.string s] w fun e w'=>∃N,e=.returned (.tuple #[.int .i64 0,.iface 297 (.pointer (some ⟨N,0,none⟩))])∧w.heap.size≤N∧w'.heap[N]? =some (.cells #[.string ⟨#[65,116,111,105]⟩,.string s,.iface tp p] 313 (0,0))∧Below w.heap.size w w':=Any.strconv_Atoi_err_var Tryz.laysC172 s hl h tp p w hvar
end Go.Proofs
namespace Go.Ab
theorem Qh{w w':World}{σ:Nat→Nat}(hl:∀b,b<w.heap.size∨σ b=0)(h:Go.RowKit.Below w.heap.size w w'):Grow w σ w' σ:=
 ⟨h.size,h.os,h.output,fun b hb=>⟨h.block b hb,rfl⟩,fun b=>(hl b).elim (fun x=>.inl (Nat.lt_of_lt_of_le x h.size)) .inr⟩
theorem abC{x y z:V}{vs:List Value}{w:World}{σ:Nat→Nat}{S:Store}{β:Hs}(h:p9 w σ S β [x,y,z] vs):∃u v t,vs=[u,v,t]∧dV w σ S β x u∧dV w σ S β y v∧dV w σ S β z t:=by
 obtain⟨hl,h⟩:=h
 obtain⟨u,e0,h0⟩:=h 0 x rfl
 obtain⟨v,e1,h1⟩:=h 1 y rfl
 obtain⟨t,e2,h2⟩:=h 2 z rfl
 match vs,hl,e0,e1,e2 with
 |[a,b,c],_,e0,e1,e2=>simp at e0 e1 e2;subst e0;subst e1;subst e2;exact⟨_,_,_,rfl,h0,h1,h2⟩
end Go.Ab
namespace Go.Proofs.YtocpgjlbagncjaaGreatDoor
open Go Go.Ab
theorem Y7(n:Int)(h0: -9223372036854775808≤n)(h1:n≤9223372036854775807)(w:World)(htab:Lib.TabIs Tryz.prog w "internal/strconv.uint64pow10" .u64 Lib.pow10Tab):
 Calls Tryz.prog 280 #[.int .i64 n] w fun e w'=>e=.returned (.string ⟨(Lib.itoa n).toArray⟩)∧Go.RowKit.Below w.heap.size w w':=
 (Tryz.strconv_Itoa n h0 h1 w htab).mono fun e w' ⟨he,k,os,hw⟩=>⟨he,by
   subst hw
   exact⟨rfl,rfl,rfl,by show w.heap.size≤(w.heap++os).size;simp,fun b hb=>by show(w.heap++os)[b]? =_;rw[Array.getElem?_append_left hb]⟩⟩
set_option maxHeartbeats 2000000 in
theorem VA(s:List UInt8)(hs:s.length≤18)(tp:TypeId)(p:Value)(w:World)(htab:Lib.TabIs Tryz.prog w "internal/strconv.uint64pow10" .u64 Lib.pow10Tab)(hvar:w.var? Tryz.prog "strconv.ErrSyntax" =some #[.iface tp p]):
 Calls Tryz.prog 274 #[.string ⟨s.toArray⟩,.int .i64 (-999999999999),.int .i64 999999999999] w fun e w'=>e=.returned (.tuple #[.int .i64 ((gZ s).getD 0),.bool (gZ s).isSome])∧Go.RowKit.Below w.heap.size w w':=by
 have hsz:(⟨s.toArray⟩:ByteArray).size≤18:=by show s.toArray.size≤18;simpa using hs
 cases h:Lib.atoi s with
 |none=>
  have hc:=Tryz.strconv_Atoi_err_var ⟨s.toArray⟩ hsz (by simpa using h) tp p w hvar
  have Av:gZ s=none:=by unfold gZ;rw[h]
  rw[Av]
  clear hsz
  go_enter Tryz.func274,Tryz.ntmps274
  go_wp2_with (go_at_call 307;refine hc.mono ?_;rintro e W1 ⟨N,rfl,-,-,hb⟩)
  go_ret2
  exact⟨rfl,hb⟩
 |some n=>
  have hbd:=Lib.atoi_bound h hs
  have hc:=Tryz.strconv_Atoi ⟨s.toArray⟩ n hsz (by simpa using h) w
  have Av:gZ s=if(-999999999999≤n∧n≤999999999999)∧Lib.itoa n=s then some n else none:=by unfold gZ;rw[h]
  have hc':Calls Tryz.prog 307 #[.string ⟨s.toArray⟩] w fun e w'=>e=.returned (.tuple #[.int .i64 n,.nilIface])∧Go.RowKit.Below w.heap.size w w':=hc.mono fun e w' ⟨he,t,hw⟩=>⟨he,by rw[hw];exact Lib.bytesWorld_below _ _ _⟩
  have hi:∀W1,Go.RowKit.Below w.heap.size w W1→Calls Tryz.prog 280 #[.int .i64 n] W1 fun e w'=>e=.returned (.string ⟨(Lib.itoa n).toArray⟩)∧Go.RowKit.Below w.heap.size w w':=fun W1 hw=>
   (Y7 n (by omega) (by omega) _ ((Lib.tabBelow_of_tabIs htab).on hw).here).mono fun e w' ⟨he,hb⟩=>⟨he,hw.trans (hb.mono hw.size)⟩
  clear hsz h hc
  go_enter Tryz.func274,Tryz.ntmps274
  go_wp2_with (first|(go_at_call 307;refine hc'.mono ?_;rintro e W1 ⟨rfl,hb1⟩)|(go_at_call 280;refine(hi _ hb1).mono ?_;rintro e W2 ⟨rfl,hb2⟩))
  all_goals go_ret2
  all_goals first
   |(exfalso;omega)
   |exact⟨rfl,hb2⟩
   |exact⟨rfl,hb1⟩
   |(rw[Av,if_pos ⟨⟨by omega,by omega⟩,by simp_all;done⟩];exact⟨rfl,hb2⟩)
   |(rw[Av,if_neg (by rintro⟨hc,_⟩;omega)];exact⟨rfl,hb1⟩)
   |(rw[Av,if_neg (by rintro⟨_,hc⟩;simp[hc] at *;omega)];exact⟨rfl,hb2⟩)
   |(rw[Av,if_neg (by rintro⟨_,hc⟩;simp_all;done)];exact⟨rfl,hb2⟩)
   |trace_state
theorem Qi{w:World}{σ:Nat→Nat}(h:DC w σ):∃tp p,w.var? Tryz.prog "strconv.ErrSyntax" =some #[.iface tp p]:=by
 obtain⟨c,t,fz,q1,q2,q3⟩:=h 3 (fun l=>∃te pe,l=[Value.iface te pe]) (List.mem_cons_of_mem _ (List.mem_cons_of_mem _ (List.mem_cons_self ..)))
 obtain⟨te,pe,e⟩:=q2
 have hn:Tryz.prog.globalNamed "strconv.ErrSyntax" =some 3:=by kernel_rfl
 refine⟨te,pe,?_⟩
 unfold World.var?
 rw[hn]
 simp only[Option.bind_some,q1,Option.some.injEq]
 exact Array.ext' e
theorem N9(s:List UInt8)(hs:s.length≤18):aI Tryz.prog 274 [.c (.d (.s s)),.c (.d (.i .i64 (-999999999999))),.c (.d (.i .i64 999999999999))] (.dY [(false,[.d (.i .i64 ((gZ s).getD 0))]),(false,[.d (.b (gZ s).isSome)])]):=fun S=>by
 refine⟨⟨_,Tryz.func274,by kernel_rfl,by kernel_rfl⟩,fun w σ β vs hS hv=> ?_⟩
 obtain⟨u,v,t,rfl,⟨hu,_⟩,⟨hv,_⟩,⟨ht,_⟩⟩:=abC hv
 have hu0:u=.string ⟨s.toArray⟩:=by cases hu;rfl
 have hv0:v=.int .i64 (-999999999999):=by cases hv;rfl
 have ht0:t=.int .i64 999999999999:=by cases ht;rfl
 subst hu0 hv0 ht0
 obtain⟨tp,p,hvar⟩:=Qi hS.uW
 refine(VA s hs tp p w (OZ hS.uW) hvar).mono fun e w' ⟨he,hb⟩=> ?_
 have hg:Grow w σ w' σ:=Qh hS.live hb
 exact⟨_,.dY [(false,[.d (.i .i64 ((gZ s).getD 0))]),(false,[.d (.b (gZ s).isSome)])],S,σ,β,he,hS.grow hg,Keep.refl _ _,Step.oH hg,⟨_,rfl,rfl,fun j y hy=>by
  match j,hy with
  |0,hy=>simp at hy;subst hy;exact⟨_,rfl,_,rfl,.i _ _,rfl⟩
  |1,hy=>simp at hy;subst hy;exact⟨_,rfl,_,rfl,.b _,rfl⟩
  |j+2,hy=>simp at hy⟩,rfl,rfl⟩
theorem MU(s:List UInt8)(hs:s.length≤18):aI Tryz.prog 209 [.c (.d (.s s))] (.dY [(false,[.d (.i .i64 ((gZ s).getD 0))]),(false,[.d (.b (gZ s).isSome)])]):=fun S=>by
 refine aG (rs:=[.tmp 2,.tmp 3]) Tryz.checked.mixed Tryz.func209 Tryz.ntmps209 rfl rfl rfl rfl rfl ?_
 refine W1 ?_
 exact C4 (N9 s hs)
end Go.Proofs.YtocpgjlbagncjaaGreatDoor
namespace Go.Ab
theorem BJ{l:List aj}(h2:2≤l.length)(h:dM l 0=jl→3≤l.length):xA true l:=fun e=>by
 rcases e.2 with e|e
 ·omega
 ·have:=h e.1;omega
theorem Pw{x:aj}(h:jJ x=true)(ha:x.bf=[]):kJ x.ah=true:=by rw[Cj,if_pos ha] at h;exact h
theorem abD{x:aj}(h:jJ x=true)(ha:x.bf≠[]):x.bf.length≤18:=by
 rw[Cj,if_neg ha,Bool.and_eq_true] at h
 have h1:=h.1
 unfold validAtom at h1
 rw[Bool.and_eq_true,decide_eq_true_eq] at h1
 omega
theorem Dr{x:aj}(h:jJ x=true)(ha:x.ah≠[]):kJ x.ah=true:=by
 by_cases e:x.bf=[]
 ·exact Pw h e
 ·rw[Cj,if_neg e,Bool.and_eq_true,decide_eq_true_eq] at h
  exact absurd (List.eq_nil_of_length_eq_zero h.2) ha
theorem ma0{x:aR}{n:Nat}(h:x=.mk [] [] lG):Less (.agg [.d (.s []),.bO [],.d (.i .i64 0),.d (.s []),.d (.s []),.d (.i .i64 0),.d (.i .i64 0),.d (.s []),.bO [],.bO [],.bO []]) (x.vl n):=by
 rw[h]
 exact(fQ.cons (.refl _) (.cons (dX _) (.cons (.refl _) (.cons (.refl _) (.cons (.refl _) (.cons (.refl _) (.cons (.refl _) (.cons (.refl _) (.cons (dX _) (.cons (dX _) (.cons (dX _) .nil))))))))))).less
end Go.Ab
namespace Go.Proofs.YtocpgjlbagncjaaGreatDoor
open Go Go.Ab
theorem Ij:∀N:Nat,(∀x:aj,SizeOf.sizeOf x<N→∀n:Nat,jJ x=true→x.sz≤4194304→aI Tryz.prog 126 [x.v] ((eZ true x).vl n))∧
 (∀xs:List aj,SizeOf.sizeOf xs<N→∀n q:Nat,kJ xs=true→xs.length≤4194304→(∀t∈xs,t.sz≤4194304)→aI Tryz.prog 210 [.c (.d (.sl (xs.map aj.enc)))] (.c (.d (.ol n (lE (xs.map (eZ true)) q)))))∧
 (∀x:aj,SizeOf.sizeOf x<N→∀n:Nat,jJ x=true→x.sz≤4194304→aI Tryz.prog 211 [x.v] ((ru true x).vl n))
 |0=>⟨fun x h=>by omega,fun x h=>by omega,fun x h=>by omega⟩
 |N+1=>by
  obtain⟨ih,qh,ihM⟩:=Ij N
  refine⟨fun x hn n hfo hsz=>aI.of_le fun S=> ?_,fun xs hn n q hfo hlen hsz S=> ?_,fun x hn n hfo hsz=>aI.of_le fun S=> ?_⟩
  ·have jS:=aj.oO x
   have h1:=eP x
   have h2:=zK x
   have hall:∀t∈x.ah,t.sz≤4194304:=fun t ht=>by have:=iK ht;omega
   have hr:=gT (l:=x.ah)
   have hso:=fun i=>zY i x.ah
   have hdl:∀i,(x.ah.drop i).length≤4194304:=fun i=>by rw[List.length_drop];omega
   have hda:∀i,∀t∈x.ah.drop i,t.sz≤4194304:=fun i t ht=>hall t (List.mem_of_mem_drop ht)
   have hdd:=oq x.ah x.ah.length 1 (Nat.le_refl _)
   refine kC (n) (rs:=[.cell 2 50]) Tryz.checked.mixed Tryz.func126 Tryz.ntmps126 rfl rfl rfl rfl rfl ?_
   refine W1 ?_
   refine S0 (fun hb h=>?_) fun hb h=>?_
   ·have hne:=h
    refine aZ (MU x.bf (abD hfo hne)) ?_
    cases Av:gZ x.bf with
    |some m=>
     simp -implicitDefEqProofs (disch:=omega) only[go_sem,Option.getD_some,Option.isSome_some]
     exact Wz (TJ hne Av)
    |none=>
     simp -implicitDefEqProofs (disch:=omega) only[go_sem,Option.getD_none,Option.isSome_none]
     refine S0 (fun hb h=>?_) fun hb h=>?_
     ·exact Wz (Pq hne Av h)
     have k1:=h
     refine S0 (fun hb h=>?_) fun hb h=>?_
     ·exact Wz (MS hne Av k1 h)
     have k2:=h
     exact Wz (TK hne Av k1 k2)
   have ha:=h
   have hfs:=Pw hfo ha
   refine S0 (fun hb h=>?_) fun hb h=>?_
   ·exact Wz (Pp ha fun e=>e ⟨rfl,.inl (by omega)⟩)
   have hl2:2≤x.ah.length:=by omega
   have a0:=jA (l:=x.ah) (i:=0) (by omega)
   obtain⟨m,hm⟩:∃m,m=x.ah.drop 1:=⟨_,rfl⟩
   have hml:m.length=x.ah.length-1:=by rw[hm,List.length_drop]
   have hmi:∀i (hi:i<m.length),m[i]=x.ah[i+1]'(by omega):=fun i hi=>by simp only[hm,List.getElem_drop,Nat.add_comm 1 i]
   have hrm:=gT (l:=m)
   have hmd:∀i,m.drop i=x.ah.drop (i+1):=fun i=>by rw[hm,List.drop_drop,Nat.add_comm 1 i]
   have hme:=fun i=>oq m m.length i (Nat.le_refl _)
   have b1:dM x.ah 1=(m[0]'(by omega)).bf:=by rw[hmi 0 (by omega),jA (by omega)]
   refine⟨⟨by omega,by omega,hr⟩,?_⟩
   rw[hdd,←hm]
   simp only[←a0]
   refine S0 (fun hb h=>?_) fun hb h=>?_
   ·have hg:=BJ hl2 fun e=>by rw[h] at e;exact absurd e (by decide)
    have hdec:=Pk ha hg h
    refine W3 ?_
    refine⟨⟨by omega,by omega,hrm⟩,?_⟩
    rw[hme,hmd,←b1]
    refine C1 (qh (x.ah.drop 2) (by have:=hso 2;omega) (n+1) (n+1+1) (rY hfs 2) (hdl 2) (hda 2)) ?_
    exact TM hdec
   have Y3:=h
   refine S0 (fun hb h=>?_) fun hb h=>?_
   ·have hg:=BJ hl2 fun e=>by rw[h] at e;exact absurd e (by decide)
    have hdec:=TG ha hg h
    refine W3 ?_
    refine⟨⟨by omega,by omega,hrm⟩,?_⟩
    rw[hme,hmd,←b1]
    refine C1 (qh (x.ah.drop 2) (by have:=hso 2;omega) (n+1) (n+1+1) (rY hfs 2) (hdl 2) (hda 2)) ?_
    exact TM hdec
   have nNew:=h
   refine S0 (fun hb h=>?_) fun hb h=>?_
   ·have hg:=BJ hl2 fun e=>by rw[h] at e;exact absurd e (by decide)
    have hdec:=TH ha hg h
    refine W3 ?_
    refine⟨⟨by omega,by omega,hrm⟩,?_⟩
    rw[hme,hmd,←b1]
    refine C1 (qh (x.ah.drop 2) (by have:=hso 2;omega) (n+1) (n+1+1) (rY hfs 2) (hdl 2) (hda 2)) ?_
    exact TM hdec
   have aeo:=h
   refine S0 (fun hb h=>?_) fun hb h=>?_
   ·have hg:=BJ hl2 fun e=>by rw[h] at e;exact absurd e (by decide)
    have hdec:=Pm ha hg h
    refine W3 ?_
    refine⟨⟨by omega,by omega,hrm⟩,?_⟩
    rw[hme,hmd,←b1]
    refine C1 (qh (x.ah.drop 2) (by have:=hso 2;omega) (n+1) (n+1+1) (rY hfs 2) (hdl 2) (hda 2)) ?_
    exact TM hdec
   have Y4:=h
   refine S0 (fun hb h=>?_) fun hb h=>?_
   ·have hM:=h
    refine S0 (fun hb h=>?_) fun hb h=>?_
    ·exact Wz (Pp ha fun e=>e ⟨rfl,.inr ⟨hM,by omega⟩⟩)
    have hl3:3≤x.ah.length:=by omega
    have hg:=BJ hl2 fun _=>hl3
    have hdec:=JK ha hg hM
    have b2:dM x.ah 2=(m[1]'(by omega)).bf:=by rw[hmi 1 (by omega),jA (by omega)]
    refine W3 ?_
    refine⟨⟨by omega,by omega,hrm⟩,?_⟩
    rw[hme,hmd,←b1,←b2]
    refine C1 (qh (x.ah.drop 3) (by have:=hso 3;omega) (n+1) (n+1+1) (rY hfs 3) (hdl 3) (hda 3)) ?_
    exact TM hdec
   have I6:=h
   have hg:=BJ hl2 fun e=>(I6 e).elim
   refine S0 (fun hb h=>?_) fun hb h=>?_
   ·have hdec:=Wy ha hg h
    rw[hm]
    refine C1 (qh (x.ah.drop 1) (by have:=hso 1;omega) (n+1) (n+1+1) (rY hfs 1) (hdl 1) (hda 1)) ?_
    exact TM hdec
   have nIf:=h
   refine S0 (fun hb h=>?_) fun hb h=>?_
   ·have hdec:=TI ha hg h
    have g1:x.ah.getD 1 dB=m[0]'(by omega):=by rw[hmi 0 (by omega),List.getD_eq_getElem?_getD,List.getElem?_eq_getElem (by omega)];rfl
    have gz:=uw x 1 hsz
    rw[g1] at hdec gz
    refine W3 ?_
    refine C1 (qB m[0] n gz) ?_
    refine⟨⟨by omega,by omega,hrm⟩,?_⟩
    rw[hme,hmd]
    refine C1 (qh (x.ah.drop 2) (by have:=hso 2;omega) (n+(gq (dO true m[0]).fArgs+1)) (n+(gq (dO true m[0]).fArgs+1)+1) (rY hfs 2) (hdl 2) (hda 2)) ?_
    exact ie2 hdec
   have nThe:=h
   refine S0 (fun hb h=>?_) fun hb h=>?_
   ·have hdec:=Pn ha hg h
    refine⟨⟨by omega,hrm⟩,?_⟩
    rw[←List.map_take]
    refine C1 (qh (m.take 1) (by have:=hso 1;have:=DY 1 m;rw[hm] at this ⊢;omega) (n+1) (n+1+1) (abB (by rw[hm];exact rY hfs 1) 1) (by rw[List.length_take];omega) (fun t ht=>hda 1 t (by rw[←hm];exact List.mem_of_mem_take ht))) ?_
    refine⟨⟨by omega,by omega,hrm⟩,?_⟩
    rw[hme,hmd]
    obtain⟨Pv,Y5⟩:∃Pv,Pv=(m.take 1).map (eZ true):=⟨_,rfl⟩
    obtain⟨r,hrr⟩:∃r,r=x.ah.drop 2:=⟨_,rfl⟩
    have hrl:r.length=x.ah.length-2:=by rw[hrr,List.length_drop]
    have hrs:∀t∈r,t.sz≤4194304∧SizeOf.sizeOf t<N∧jJ t=true:=fun t ht=>by
     rw[hrr] at ht
     have h5:=List.mem_of_mem_drop ht
     have:=List.sizeOf_lt_of_mem h5
     exact⟨hda 2 t ht,by omega,wu hfs h5⟩
    obtain⟨q,hq⟩:∃q,q=n+1+(kP Pv+1):=⟨_,rfl⟩
    obtain⟨L,hL⟩:∃L:Nat→Nat,L=fun k=>q+1+Y0 ((r.map (ru true)).take k):=⟨_,rfl⟩
    obtain⟨T,hT⟩:∃T:Nat→List (List D),T=fun k=>lM ((r.map (ru true)).take k) (q+1):=⟨_,rfl⟩
    have hT0:T 0=[]:=by rw[hT];rfl
    have ig:∀k,(T k).length≤k:=fun k=>by rw[hT];simp only[aby];exact List.length_take_le _ _
    have hTs:∀k (hk:k<r.length),T k++[eX (ru true r[k]).enc (L k)]=T (k+1):=fun k hk=>by
     have:=agE (l:=r.map (ru true)) (i:=k) (by rw[List.length_map];exact hk) (q+1)
     rw[List.getElem_map] at this
     rw[hT,hL];exact this
    have hTe:T r.length=lM (r.map (ru true)) (q+1):=by
     rw[hT];simp only
     rw[List.take_of_length_le (by simp)]
    clear hT hL
    rw[←hm,←Y5,←hrr] at hdec
    rw[←Y5,←hrr]
    refine W1 ?_
    refine pq q 3 8 11 _ rfl rfl ?_
    refine aT (ι:=Nat) Tryz.checked.mixed rfl [2,7,127,128,129] (fun k=>[.c (.ptr (0,2) 0),.c (.ptr (0,3) 0),.c (.d (.sl (r.map aj.enc))),.c (.d (.i .i64 r.length)),.c (.d (.i .i64 k))])
     (fun k=>[.seed n,.box [.d (.s x.bf),.d (.sl (x.ah.map aj.enc))],.box [.d (.i .i64 0),.d (.s []),.d (.s []),.d (.i .i64 0),.d (.i .i64 0),.d (.s []),.bO [],.bO [],.bO []],
       .box [.d (.i .i64 7),.d (.s []),.d (.s []),.d (.i .i64 0),.d (.i .i64 0),.d (.s []),.bO [],.d (.ol (n+1) (lE Pv (n+1+1))),.bS (0,4) (T k)],.fF q 11 (T k)]::S)
     (fun k=>k≤r.length) (fun k=>r.length-k) 0 rfl (by rw[hT0];rfl) (Nat.zero_le _) ?_
    intro k hk
    have hlk:=ig k
    refine W1 ?_
    refine S0 (fun hb h=>?_) fun hb h=>?_
    ·have hk':k<r.length:=by omega
     have hmm:=hrs _ (List.getElem_mem hk')
     have hs:=hTs k hk'
     simp only[aen,TL,List.cons_append,List.nil_append] at hs
     refine W3 ?_
     refine C1 (ihM r[k] hmm.2.1 (L k) hmm.2.2 hmm.1) ?_
     refine W3 ?_
     rw[hs]
     exact dh 5 (by decide) (k+1) (by omega) rfl rfl rfl rfl (by omega)
    ·have hk':k=r.length:=by omega
     rw[hk',hTe,hq]
     exact ie3 hdec
   have Y6:=h
   have hdec:=Po ha hg Y3 nNew aeo Y4 I6 nIf nThe Y6
   rw[hm]
   refine C1 (qh (x.ah.drop 1) (by have:=hso 1;omega) (n+1) (n+1+1) (rY hfs 1) (hdl 1) (hda 1)) ?_
   exact TM hdec
  ·have Bt:=fun(i:Nat) (hi:i<xs.length)=>agD (l:=xs.map (eZ true)) (i:=i) (by rw[List.length_map];exact hi) q
   refine kC (n) (rs:=[.tmp 2]) Tryz.checked.mixed Tryz.func210 Tryz.ntmps210 rfl rfl rfl rfl rfl ?_
   refine W1 ?_
   refine W3 ?_
   refine l6 n 3 9 [] (.inl rfl) (by simp) ?_
   refine aT (ι:=Nat) Tryz.checked.mixed rfl [3,7,8,9] (fun i=>[.c (.bS (0,1) (lE ((xs.map (eZ true)).take i) q)),.c (.d (.sl (xs.map aj.enc))),.c (.d (.i .i64 xs.length)),.c (.d (.i .i64 i))]) (fun i=>[.seed n,.fF n 9 (lE ((xs.map (eZ true)).take i) q)]::S)
    (fun i=>i≤xs.length) (fun i=>xs.length-i) 0 rfl rfl (Nat.zero_le _) ?_
   intro i hi
   refine W1 ?_
   refine S0 (fun hb h=>?_) fun hb h=>?_
   ·have hi':i<xs.length:=by omega
    have hs:=Bt i hi'
    rw[List.getElem_map] at hs
    simp only[TL] at hs
    have hl:(lE ((xs.map (eZ true)).take i) q).length≤i:=by rw[abx];exact List.length_take_le _ _
    refine W3 ?_
    refine C1 (ih xs[i] (by have:=List.sizeOf_lt_of_mem (List.getElem_mem hi');omega) (q+kP ((xs.map (eZ true)).take i)) (wu hfo (List.getElem_mem hi')) (hsz _ (List.getElem_mem hi'))) ?_
    refine W3 ?_
    rw[hs]
    exact dh 2 (by decide) (i+1) (by omega) rfl rfl rfl rfl (by omega)
   ·have hi':i=(xs.map (eZ true)).length:=by rw[List.length_map];omega
    rw[hi',List.take_length]
  ·have jS:=aj.oO x
   have h1:=eP x
   have hall:∀t∈x.ah,t.sz≤4194304:=fun t ht=>by have:=iK ht;omega
   have hr:=gT (l:=x.ah)
   refine aG (rs:=[.cell 2 156]) Tryz.checked.mixed Tryz.func211 Tryz.ntmps211 rfl rfl rfl rfl rfl ?_
   refine W1 ?_
   refine S0 (fun hb h=>?_) fun hb h=>?_
   ·exact ma0 (Wx true x (by omega))
   have hl2:2≤x.ah.length:=by omega
   have a0:=jA (l:=x.ah) (i:=0) (by omega)
   have hm:=List.getElem_mem (l:=x.ah) (n:=x.ah.length-1) (by omega)
   have hfs:=Dr hfo (fun e=>by rw[e] at hl2;simp at hl2)
   rw[Ww true x hl2,a0]
   refine⟨⟨by omega,by omega,hr⟩,?_⟩
   rw[Pt _ hl2]
   refine C1 (yU ((x.ah.drop 1).dropLast) (by rw[List.length_dropLast,List.length_drop];omega) n) ?_
   refine W3 ?_
   have el:((x.ah.length:Int)-1).toNat=x.ah.length-1:=by omega
   simp only[el]
   refine C1 (ih (x.ah[x.ah.length-1]) (by have:=List.sizeOf_lt_of_mem hm;omega) (n+1) (wu hfs hm) (hall _ hm)) ?_
   exact iF _
theorem CP(x:aj)(n:Nat)(hf:jJ x=true)(hsz:x.sz≤4194304):aI Tryz.prog 126 [x.v] ((eZ true x).vl n):=(Ij _).1 x (Nat.lt_succ_self _) n hf hsz
end Go.Proofs.YtocpgjlbagncjaaGreatDoor
namespace Go.Ab
abbrev ay.cv (x:ay):List C:=[.d (.i .i64 x.aK),.d (.s x.bL),.d (.s x.fName),.d (.i .i64 x.fN),.d (.i .i64 x.fType.aK),.d (.s x.fType.fName),.d (.sl (x.fType.fArgs.map au.enc)),.d (.sl (x.fArgs.map ay.enc)),.d (.sl (x.aP.map aR.enc))]
abbrev ay.cl (x:ay) (n:Nat):List C:=[.d (.i .i64 x.aK),.d (.s x.bL),.d (.s x.fName),.d (.i .i64 x.fN),.d (.i .i64 x.fType.aK),.d (.s x.fType.fName),.d (.ol n (lt x.fType.fArgs (n+1))),
 .d (.ol (n+(gq x.fType.fArgs+1)) (lE x.fArgs (n+(gq x.fType.fArgs+1)+1))),.d (.ol (n+(gq x.fType.fArgs+1)+(kP x.fArgs+1)) (lM x.aP (n+(gq x.fType.fArgs+1)+(kP x.fArgs+1)+1)))]
abbrev amk:List C:=[.d (.i .i64 0),.d (.s []),.d (.s []),.d (.i .i64 0),.d (.i .i64 0),.d (.s []),.bO [],.bO [],.bO []]
end Go.Ab
namespace Go.Proofs.YtocpgjlbagncjaaGreatDoor
open Go Go.Ab
end Go.Proofs.YtocpgjlbagncjaaGreatDoor
namespace Go.Ab
theorem nZ(n:Nat):Ic (.sl []) (.ol n []):=fun w σ v h=>by
 cases h with
 |nil a cap=>exact .vw n a cap
 |sl b off cap bE es vals c t fz hcap hlen hb hσ hc hv=>exact .vw n _ _
theorem Ic.trans{a b c:D}(h:Ic a b)(k:Ic b c):Ic a c:=fun w σ v x=>k w σ v (h w σ v x)
theorem nu.trans:∀{a b c:List D},nu a b→nu b c→nu a c
 |_,_,_,.nil,.nil=>.nil
 |_,_,_,.cons x h,.cons y k=>.cons (x.trans y) (h.trans k)
theorem iJ.trans:∀{a b c:List (List D)},iJ a b→iJ b c→iJ a c
 |_,_,_,.nil,.nil=>.nil
 |_,_,_,.cons x h,.cons y k=>.cons (x.trans y) (h.trans k)
theorem iJ.at{a b:List (List D)}(h:iJ a b):∀(i:Nat) (hi:i<b.length) (hi':i<a.length),nu a[i] b[i]:=by
 induction h with
 |nil=>intro i hi;simp at hi
 |cons x h ih=>intro i hi hi';cases i with
  |zero=>exact x
  |succ i=>exact ih i (by simpa using hi) (by simpa using hi')
theorem iJ.ah4{a b:List (List D)}(h:iJ a b){n:Nat}{w:World}{σ:Nat→Nat}{v:Value}(hr:d9 w σ (.ol n a) v):d9 w σ (.ol n b) v:=by
 cases hr with
 |vw _ ad cap=>
  cases h
  exact .vw n ad cap
 |ol _ b0 off cap bE es vals c t hcap hlen hb hσ hfit hc hv=>
  have hl:=h.length
  rw[hl] at hcap hfit hc ⊢
  have hlb:∀e∈b,e.length=bE:=fun e he=>by
   obtain⟨i,hi,rfl⟩:=List.getElem_of_mem he
   have h1:=h.at i hi (by omega)
   rw[←h1.length];exact hlen _ (List.getElem_mem _)
  refine .ol n b0 off cap bE b vals c t hcap hlb hb hσ hfit hc fun j d hd=> ?_
  obtain⟨x,hx,hle⟩:=h.flat.at j d hd
  exact hle w σ _ (hv j x hx)
theorem FV{n:Nat}{a b:List (List D)}(h:iJ a b):oF (.d (.ol n a)) (.d (.ol n b)):=fun w σ S β v hr=>h.ah4 hr
theorem aep{n:Nat}{a b:List (List D)}(h:iJ a b):Less (.c (.d (.ol n a))) (.c (.d (.ol n b))):=fun w σ S β v hr=>⟨h.ah4 hr.1,hr.2⟩
theorem uU{a b:List (List D)}(h:iJ a b):oF (.d (.sl a)) (.d (.sl b)):=fun w σ S β v hr=>h.rep hr
theorem oF.trans{a b c:C}(h:oF a b)(k:oF b c):oF a c:=fun w σ S β v x=>k w σ S β v (h w σ S β v x)
end Go.Ab
namespace Go.Ab
theorem jr{l:List aj}{i:Nat}(h:i<l.length):gX l i=l[i]:=by
 show l.getD i dB=_
 rw[List.getD_eq_getElem?_getD,List.getElem?_eq_getElem h];rfl
def lB(l:List aO)(n:Nat):List (List D):=eB (l.map aO.enc) n
def QG(l:List aO):Nat:=iW (l.map aO.enc)
def lPr(l:List bg)(n:Nat):List (List D):=eB (l.map bg.enc) n
def ae5(l:List bg):Nat:=iW (l.map bg.enc)
theorem WA(x:aO)(n:Nat):eX x.enc n=[.s x.bL,.i .i64 x.fType.aK,.s x.fType.fName,.ol n (lt x.fType.fArgs (n+1))]:=by
 simp only[aO.aD,au.aD,List.cons_append,List.nil_append,eX,lI,ow,Nat.add_zero,lt]
theorem TP(x:bg)(n:Nat):eX x.enc n=[.s x.fName,.i .i64 x.fType.aK,.s x.fType.fName,.ol n (lt x.fType.fArgs (n+1))]:=by
 simp only[bg.aD,au.aD,List.cons_append,List.nil_append,eX,lI,ow,Nat.add_zero,lt]
theorem zZ{α:Type}{e:α→List D}{l:List α}{i:Nat}(hi:i<l.length)(n:Nat):eB ((l.take i).map e) n++[eX (e l[i]) (n+iW ((l.take i).map e))]=eB ((l.take (i+1)).map e) n:=by
 rw[List.take_succ_eq_append_getElem hi,List.map_append,pO];rfl
theorem Bw{α:Type}{e:α→List D}{l:List α}{i:Nat}(hi:i<l.length):(l.take i).map e++[e l[i]]=(l.take (i+1)).map e:=by
 rw[List.take_succ_eq_append_getElem hi,List.map_append];rfl
theorem WB{b:Bool}{y:aj}(h:b=false∨y.ah.length=2):(nR b y).bL=dM y.ah 0∧(nR b y).fType=dO b (y.ah.getD 1 dB):=by
 unfold nR
 rw[if_neg (by rintro⟨e1,e2⟩;rcases h with e|e;(rw[e] at e1;cases e1);exact e2 e)]
 exact⟨rfl,rfl⟩
theorem aer{y:aj}(h:y.ah.length≠2):nR true y=⟨[],iV⟩:=if_pos ⟨rfl,h⟩
theorem Px{b:Bool}{y:aj}(h:b=false∨y.ah.length=2):(nS b y).fName=dM y.ah 0∧(nS b y).fType=dO b (y.ah.getD 1 dB):=by
 unfold nS
 rw[if_neg (by rintro⟨e1,e2⟩;rcases h with e|e;(rw[e] at e1;cases e1);exact e2 e)]
 exact⟨rfl,rfl⟩
theorem Y8{y:aj}(h:y.ah.length≠2):nS true y=⟨[],iV⟩:=if_pos ⟨rfl,h⟩
theorem Oa{x:aj}(h:jJ x=true){i:Nat}(hi:i<x.ah.length):jJ x.ah[i]=true:=wu (Dr h (fun e=>by rw[e] at hi;simp at hi)) (List.getElem_mem hi)
theorem wI(x:aj){i:Nat}(hi:i<x.ah.length):x.ah[i].sz≤x.sz:=by
 have:=iK (List.getElem_mem hi)
 have:=eP x
 omega
abbrev aY.cl (x:aY) (n p q r:Nat):List C:=[.d (.s x.fName),.d (.ol n (x.aA.map encS)),.d (.ol (n+1) (lB x.bn (n+1+1))),.d (.ol p (lPr x.aJ (p+1))),.d (.i .i64 x.aU.aK),.d (.s x.aU.fName),.d (.ol q (lt x.aU.fArgs (q+1))),
 .d (.i .i64 x.fBody.aK),.d (.s x.fBody.bL),.d (.s x.fBody.fName),.d (.i .i64 x.fBody.fN),.d (.i .i64 x.fBody.fType.aK),.d (.s x.fBody.fType.fName),.d (.ol r (lt x.fBody.fType.fArgs (r+1))),
 .d (.ol (r+(gq x.fBody.fType.fArgs+1)) (lE x.fBody.fArgs (r+(gq x.fBody.fType.fArgs+1)+1))),.d (.ol (r+(gq x.fBody.fType.fArgs+1)+(kP x.fBody.fArgs+1)) (lM x.fBody.aP (r+(gq x.fBody.fType.fArgs+1)+(kP x.fBody.fArgs+1)+1)))]
abbrev aY.cv (x:aY):List C:=[.d (.s x.fName),.d (.sl (x.aA.map encS)),.d (.sl (x.bn.map aO.enc)),.d (.sl (x.aJ.map bg.enc)),.d (.i .i64 x.aU.aK),.d (.s x.aU.fName),.d (.sl (x.aU.fArgs.map au.enc)),
 .d (.i .i64 x.fBody.aK),.d (.s x.fBody.bL),.d (.s x.fBody.fName),.d (.i .i64 x.fBody.fN),.d (.i .i64 x.fBody.fType.aK),.d (.s x.fBody.fType.fName),.d (.sl (x.fBody.fType.fArgs.map au.enc)),.d (.sl (x.fBody.fArgs.map ay.enc)),.d (.sl (x.fBody.aP.map aR.enc))]
def pF(x:aY)(n:Nat):Nat:=n+1+(QG x.bn+1)
def qF(x:aY)(n:Nat):Nat:=pF x n+(ae5 x.aJ+1)
def rF(x:aY)(n:Nat):Nat:=qF x n+(gq x.aU.fArgs+1)
theorem agI(x:aY)(n:Nat):(eX x.enc n).map C.d=x.cl n (pF x n) (qF x n) (rF x n):=by
 simp only[aY.aD,ay.aD,au.aD,List.cons_append,List.nil_append,eX,lI,ow,Nat.add_zero,lt,lE,lM,lB,lPr,gq,kP,QG,ae5,pF,qF,rF,uh,wo,Nat.zero_add,List.map_cons,List.map_nil]
 rfl
theorem abE{x:aj}(h:okF x=false):uI x=IY:=if_neg (by rw[h];decide)
theorem WC{x:aj}(h:okF x=true):uI x=zC true x:=if_pos h
abbrev EH:List C:=[.d (.s []),.bO [],.bO [],.bO [],.d (.i .i64 0),.d (.s []),.bO [],.d (.i .i64 0),.d (.s []),.d (.s []),.d (.i .i64 0),.d (.i .i64 0),.d (.s []),.bO [],.bO [],.bO []]
theorem alB(e:aY)(h:e=IY)(ok:Bool):Less (.dY [(true,EH),(false,[.d (.b ok)])]) (.dY [(true,e.cv),(false,[.d (.b ok)])]):=by
 rw[h]
 exact(jd.cons (.cons (.refl _) (.cons (fP _) (.cons (fP _) (.cons (fP _) (.cons (.refl _) (.cons (.refl _) (.cons (fP _) (.cons (.refl _) (.cons (.refl _) (.cons (.refl _) (.cons (.refl _) (.cons (.refl _) (.cons (.refl _) (.cons (fP _) (.cons (fP _) (.cons (fP _) .nil)))))))))))))))) (.refl _)).less
theorem ah7(e:aY)(h:e=IY)(n p q r:Nat)(ok:Bool):Less (.dY [(true,EH),(false,[.d (.b ok)])]) (.dY [(true,e.cl n p q r),(false,[.d (.b ok)])]):=by
 rw[h]
 exact(jd.cons (.cons (.refl _) (.cons (dX _) (.cons (dX _) (.cons (dX _) (.cons (.refl _) (.cons (.refl _) (.cons (dX _) (.cons (.refl _) (.cons (.refl _) (.cons (.refl _) (.cons (.refl _) (.cons (.refl _) (.cons (.refl _) (.cons (dX _) (.cons (dX _) (.cons (dX _) .nil)))))))))))))))) (.refl _)).less
end Go.Ab
namespace Go.Proofs.YtocpgjlbagncjaaGreatDoor
open Go Go.Ab
theorem Gh(x:aj)(hsz:x.sz≤4194304):aI Tryz.prog 148 [x.v] (.c (.d (.sl ((x.ah.map (nR false)).map aO.enc)))):=fun S=>by
 have h1:=eP x
 have hall:∀t∈x.ah,t.sz≤4194304:=fun t ht=>by have:=iK ht;omega
 have Bt:=fun(i:Nat) (hi:i<x.ah.length)=>Bw (e:=aO.enc) (l:=x.ah.map (nR false)) (i:=i) (by rw[List.length_map];exact hi)
 refine aG (rs:=[.tmp 2]) Tryz.checked.mixed Tryz.func148 Tryz.ntmps148 rfl rfl rfl rfl rfl ?_
 refine W1 ?_
 refine W3 ?_
 refine mR 3 4 [] rfl (by simp) ?_
 refine aT (ι:=Nat) Tryz.checked.mixed rfl [1,3,4] (fun i=>[.c (.ptr (0,0) 0),.c (.bS (0,1) (((x.ah.map (nR false)).take i).map aO.enc)),.c (.d (.i .i64 i))]) (fun i=>[.box [.d (.s x.bf),.d (.sl (x.ah.map aj.enc))],.tok 4 (((x.ah.map (nR false)).take i).map aO.enc)]::S)
  (fun i=>i≤x.ah.length) (fun i=>x.ah.length-i) 0 rfl rfl (Nat.zero_le _) ?_
 intro i hi
 have hl:(((x.ah.map (nR false)).take i).map aO.enc).length≤i:=by rw[List.length_map];exact List.length_take_le _ _
 refine W1 ?_
 refine S0 (fun hb h=>?_) fun hb h=>?_
 ·have hi':i<x.ah.length:=by omega
  have hz:=hall _ (List.getElem_mem hi')
  have hs:=Bt i hi'
  have hb:=WB (b:=false) (y:=x.ah[i]) (.inl rfl)
  rw[List.getElem_map] at hs
  simp only[aO.aD,au.aD,List.cons_append,List.nil_append,hb.1,hb.2] at hs
  refine W3 ?_
  refine C1 (fJ x.ah[i] 0 hz (by omega)) ?_
  refine W3 ?_
  refine C1 (fJ x.ah[i] 1 hz (by omega)) ?_
  refine C1 (p8 (x.ah[i].ah.getD 1 dB) (uw _ 1 hz)) ?_
  refine W3 ?_
  show _
  rw[show(x.ah[i].ah.getD 0 dB).bf=dM x.ah[i].ah 0 from rfl,hs]
  exact bP (i+1) (by omega) rfl rfl (by omega)
 ·have hi':i=(x.ah.map (nR false)).length:=by rw[List.length_map];omega
  rw[hi',List.take_length]
theorem Gi(x:aj)(n q:Nat)(hsz:x.sz≤4194304):aI Tryz.prog 167 [x.v] (.c (.d (.ol n (lB (x.ah.map (nR true)) q)))):=aI.of_le fun S=>by
 have h1:=eP x
 have hall:∀t∈x.ah,t.sz≤4194304:=fun t ht=>by have:=iK ht;omega
 obtain⟨L,hL⟩:∃L:Nat→Nat,L=fun i=>q+iW (((x.ah.map (nR true)).take i).map aO.enc):=⟨_,rfl⟩
 obtain⟨T,hT⟩:∃T:Nat→List (List D),T=fun i=>eB (((x.ah.map (nR true)).take i).map aO.enc) q:=⟨_,rfl⟩
 have hT0:T 0=[]:=by rw[hT];rfl
 have ig:∀i,(T i).length≤i:=fun i=>by rw[hT];simp only[jN,List.length_map];exact List.length_take_le _ _
 have hTr:∀i,∀r∈T i,r.length=4:=fun i=>by
  rw[hT]
  exact wB fun r hr=>by
   obtain⟨z,_,rfl⟩:=List.mem_map.1 hr
   exact z.dn
 have hTs:∀i (hi:i<x.ah.length),T i++[eX (nR true x.ah[i]).enc (L i)]=T (i+1):=fun i hi=>by
  have:=zZ (e:=aO.enc) (l:=x.ah.map (nR true)) (i:=i) (by rw[List.length_map];exact hi) q
  rw[List.getElem_map] at this
  rw[hT,hL];exact this
 have hTe:T x.ah.length=lB (x.ah.map (nR true)) q:=by
  rw[hT];simp only
  rw[List.take_of_length_le (by simp)];rfl
 clear hT hL
 refine kC (n) (rs:=[.tmp 2]) Tryz.checked.mixed Tryz.func167 Tryz.ntmps167 rfl rfl rfl rfl rfl ?_
 refine W1 ?_
 refine W3 ?_
 refine l6 n 3 4 [] (.inl rfl) (by simp) ?_
 refine aT (ι:=Nat×List (List D)) Tryz.checked.mixed rfl [3,9,10,11] (fun y=>[.c (.bS (0,2) y.2),.c (.d (.sl (x.ah.map aj.enc))),.c (.d (.i .i64 x.ah.length)),.c (.d (.i .i64 y.1))])
  (fun y=>[.seed n,.box [.d (.s x.bf),.d (.sl (x.ah.map aj.enc))],.fF n 4 y.2]::S)
  (fun y=>y.1≤x.ah.length∧iJ y.2 (T y.1)) (fun y=>x.ah.length-y.1) (0,[]) rfl rfl ⟨Nat.zero_le _,by rw[hT0];exact .nil⟩ ?_
 rintro⟨i,U⟩ ⟨p1,p2⟩
 simp only at p1 p2
 have hU1:=p2.length
 have hU2:=ig i
 have hU3:=p2.rows (hTr i)
 refine W1 ?_
 refine S0 (fun hb h=>?_) fun hb h=>?_
 ·have hi':i<x.ah.length:=by omega
  have hz:=hall _ (List.getElem_mem hi')
  have hs:=hTs i hi'
  have hz1:=eP x.ah[i]
  refine W3 ?_
  refine S0 (fun hb h=>?_) fun hb h=>?_
  ·have hl2:x.ah[i].ah.length=2:=by omega
   have hb:=WB (b:=true) (y:=x.ah[i]) (.inr hl2)
   have g1:x.ah[i].ah.getD 1 dB=x.ah[i].ah[1]:=jr (by omega)
   rw[WA,hb.1,hb.2,jA (by omega:0<x.ah[i].ah.length),g1] at hs
   have hz2:=wI x.ah[i] (i:=1) (by omega)
   refine W3 ?_
   refine C1 (qB x.ah[i].ah[1] (L i) (by omega)) ?_
   refine W3 ?_
   refine dh 3 (by decide) (i+1,_) (by simp only;omega) rfl rfl rfl rfl ⟨by simp only;omega,?_⟩
   simp only
   rw[←hs]
   exact p2.snoc (.refl _)
  ·have hl2:x.ah[i].ah.length≠2:=by omega
   rw[WA,aer hl2] at hs
   refine dh 3 (by decide) (i+1,_) (by simp only;omega) rfl rfl rfl rfl ⟨by simp only;omega,?_⟩
   simp only
   rw[←hs]
   exact p2.snoc (.cons (.refl _) (.cons (.refl _) (.cons (.refl _) (.cons (nZ _) .nil))))
 ·have hi':i=x.ah.length:=by omega
  subst hi'
  rw[hTe] at p2
  exact aep p2
theorem TQ(x:aj)(hsz:x.sz≤1048576):aI Tryz.prog 82 [x.v] (.dY [(true,(uI x).cv),(false,[.d (.b (okF x))])]):=aI.of_le fun S=>by
 have h1:=eP x
 have hds:=NR false x
 have hos:=agm (f:=zC false x) (by omega)
 have hgs:=fun i=>uw x i (m:=4194304) (by omega)
 obtain⟨l,hl⟩:∃l,l=(x.ah.getD 4 dB).ah:=⟨_,rfl⟩
 have hg4:=eP (x.ah.getD 4 dB)
 have hll:l.length≤4194304:=by have:=hgs 4;rw[hl];omega
 have hlm:∀y∈l,y.sz≤4194304:=fun y hy=>by
  have:=hgs 4
  have:=iK (hl▸hy);omega
 obtain⟨F,hF⟩:∃F,F=zC false x:=⟨_,rfl⟩
 have f1:F.fName=(x.ah.getD 1 dB).bf:=by rw[hF];rfl
 have f2:F.aA=fq (x.ah.getD 2 dB).ah:=by rw[hF];rfl
 have f3:F.bn=(x.ah.getD 3 dB).ah.map (nR false):=by rw[hF];rfl
 have f5:F.aU=dO false (x.ah.getD 5 dB):=by rw[hF];rfl
 have f6:F.fBody=eZ false (x.ah.getD 6 dB):=by rw[hF];rfl
 obtain⟨T,hT⟩:∃T:Nat→List (List D),T=fun i=>((l.map (nS false)).take i).map bg.enc:=⟨_,rfl⟩
 have hT0:T 0=[]:=by rw[hT];rfl
 have ig:∀i,(T i).length≤i:=fun i=>by rw[hT];simp only[List.length_map];exact List.length_take_le _ _
 have hTs:∀i (hi:i<l.length),T i++[(nS false l[i]).enc]=T (i+1):=fun i hi=>by
  have:=Bw (e:=bg.enc) (l:=l.map (nS false)) (i:=i) (by rw[List.length_map];exact hi)
  rw[List.getElem_map] at this
  rw[hT];exact this
 have hTe:T l.length=F.aJ.map bg.enc:=by
  rw[hT];simp only
  rw[List.take_of_length_le (by simp),hF,hl];rfl
 clear hT
 have gL:okF x=false→Less (.dY [(true,EH),(false,[.d (.b false)])]) (.dY [(true,(uI x).cv),(false,[.d (.b (okF x))])]):=fun e=>by
  rw[e];exact alB _ (abE e) false
 have c5:=p8 (x.ah.getD 5 dB) (hgs 5)
 have c6:=DZ (x.ah.getD 6 dB) (hgs 6)
 have c2:=rA _ (hgs 2)
 have c3:=Gh _ (hgs 3)
 rw[←f2] at c2
 rw[←f3] at c3
 rw[←f5] at c5
 rw[←f6] at c6
 refine aG (rs:=[.cell 2 118,.tmp 3]) Tryz.checked.mixed Tryz.func82 Tryz.ntmps82 rfl rfl rfl rfl rfl ?_
 refine W1 ?_
 refine C1 (fJ x 1 (by omega) (by omega)) ?_
 refine C1 (fJ x 2 (by omega) (by omega)) ?_
 refine aZ c2 ?_
 refine W1 ?_
 refine C1 (fJ x 3 (by omega) (by omega)) ?_
 refine aZ c3 ?_
 refine W1 ?_
 refine C1 (fJ x 5 (by omega) (by omega)) ?_
 refine aZ c5 ?_
 refine W1 ?_
 refine C1 (fJ x 6 (by omega) (by omega)) ?_
 refine aZ c6 ?_
 refine W1 ?_
 refine W3 ?_
 refine C1 (fJ x 4 (by omega) (by omega)) ?_
 rw[←hl,←f1]
 refine qV 2 3 4 _ rfl rfl ?_
 refine aT (ι:=Nat) Tryz.checked.mixed rfl [1,2,4,5,6] (fun i=>[.c (.ptr (0,0) 0),.c (.ptr (0,1) 0),.c (.ptr (0,2) 0),.c (.ptr (0,3) 0),.c (.d (.i .i64 i))])
  (fun i=>[.box [.d (.s x.bf),.d (.sl (x.ah.map aj.enc))],.box EH,.box [.d (.s F.fName),.d (.sl (F.aA.map encS)),.d (.sl (F.bn.map aO.enc)),.bS (0,4) (T i),.d (.i .i64 F.aU.aK),.d (.s F.aU.fName),.d (.sl (F.aU.fArgs.map au.enc)),
    .d (.i .i64 F.fBody.aK),.d (.s F.fBody.bL),.d (.s F.fBody.fName),.d (.i .i64 F.fBody.fN),.d (.i .i64 F.fBody.fType.aK),.d (.s F.fBody.fType.fName),.d (.sl (F.fBody.fType.fArgs.map au.enc)),.d (.sl (F.fBody.fArgs.map ay.enc)),.d (.sl (F.fBody.aP.map aR.enc))],
    .box [.d (.s (x.ah.getD 4 dB).bf),.d (.sl (l.map aj.enc))],.tok 4 (T i)]::S)
  (fun i=>i≤l.length) (fun i=>l.length-i) 0 rfl (by rw[hT0];rfl) (Nat.zero_le _) ?_
 intro i hi
 have hl':=ig i
 refine W1 ?_
 refine S0 (fun hb h=>?_) fun hb h=>?_
 ·have hi':i<l.length:=by omega
  have hz:=hlm _ (List.getElem_mem hi')
  have hs:=hTs i hi'
  have hb:=Px (b:=false) (y:=l[i]) (.inl rfl)
  simp only[bg.aD,au.aD,List.cons_append,List.nil_append,hb.1,hb.2] at hs
  refine W3 ?_
  refine C1 (fJ l[i] 0 hz (by omega)) ?_
  refine W3 ?_
  refine C1 (fJ l[i] 1 hz (by omega)) ?_
  refine C1 (p8 (l[i].ah.getD 1 dB) (uw _ 1 hz)) ?_
  refine W3 ?_
  rw[show(l[i].ah.getD 0 dB).bf=dM l[i].ah 0 from rfl,hs]
  exact dh 5 (by decide) (i+1) (by omega) rfl rfl rfl rfl (by omega)
 ·have hi':i=l.length:=by omega
  subst hi'
  rw[hTe]
  clear hTs
  refine C1 (qy x (by omega)) ?_
  refine S0 (fun hb h=>?_) fun hb h=>?_
  ·exact gL (aF fun e=>by rw[e.1] at h;cases h)
  have hv:=h
  refine S0 (fun hb h=>?_) fun hb h=>?_
  ·exact gL (aF fun e=>by omega)
  have hne:x.ah≠[]:=fun e=>by rw[e] at h;exact h rfl
  have hok:=ad1 hne
  rw[hv,Bool.true_and] at hok
  rw[←hF] at hok hos hds
  refine W3 ?_
  refine C1 (aa4 F (by omega)) ?_
  refine C1 (sN (Tm F) x (by omega)) ?_
  refine S0 (fun hb h=>?_) fun hb h=>?_
  ·exact gL (by rw[hok];exact aF h)
  ·have hy:okF x=true:=by rw[hok];exact bA h
   rw[WC hy,hy,←ad2 hy,←hF]
   exact iF _
theorem Qj(x:aj)(n:Nat)(hsz:x.sz≤1048576):aI Tryz.prog 93 [x.v] (.dY [(true,(uI x).cl n (pF (uI x) n) (qF (uI x) n) (rF (uI x) n)),(false,[.d (.b (okF x))])]):=aI.of_le fun S=>by
 have h1:=eP x
 have hds:=NR true x
 obtain⟨F,hF⟩:∃F,F=zC true x:=⟨_,rfl⟩
 obtain⟨p,hp⟩:∃p,p=pF F n:=⟨_,rfl⟩
 obtain⟨q,hq⟩:∃q,q=qF F n:=⟨_,rfl⟩
 obtain⟨r,hr0⟩:∃r,r=rF F n:=⟨_,rfl⟩
 have gL:okF x=false→Less (.dY [(true,EH),(false,[.d (.b false)])]) (.dY [(true,(uI x).cl n (pF (uI x) n) (qF (uI x) n) (rF (uI x) n)),(false,[.d (.b (okF x))])]):=fun e=>by
  rw[e];exact ah7 _ (abE e) n _ _ _ false
 refine kC (n) (rs:=[.cell 2 118,.tmp 3]) Tryz.checked.mixed Tryz.func93 Tryz.ntmps93 rfl rfl rfl rfl rfl ?_
 refine W1 ?_
 refine C1 (uq x wK 7 (by omega) (by omega) (by omega)) ?_
 refine S0 (fun hb h=>?_) fun hb h=>?_
 ·exact gL (aF fun e=>h ⟨e.1,e.2.1.1,e.2.1.2⟩)
 have hf:=h
 have hvx:=tF hf.1
 have hfo:jJ x=true:=by have:=hf.1;unfold iI at this;rw[Bool.and_eq_true] at this;exact this.1
 have hlen:7≤x.ah.length:=hf.2.1
 have f1:F.fName=x.ah[1].bf:=by rw[hF];exact jA (by omega)
 have f2:F.aA=fq x.ah[2].ah:=by rw[hF,←jr (l:=x.ah) (i:=2) (by omega)];rfl
 have f3:F.bn=x.ah[3].ah.map (nR true):=by rw[hF,←jr (l:=x.ah) (i:=3) (by omega)];rfl
 have f4:F.aJ=x.ah[4].ah.map (nS true):=by rw[hF,←jr (l:=x.ah) (i:=4) (by omega)];rfl
 have f5:F.aU=dO true x.ah[5]:=by rw[hF,←jr (l:=x.ah) (i:=5) (by omega)];rfl
 have f6:F.fBody=eZ true x.ah[6]:=by rw[hF,←jr (l:=x.ah) (i:=6) (by omega)];rfl
 have hzs:=fun i hi=>wI x (i:=i) hi
 have c2:=qA x.ah[2] (by have:=hzs 2 (by omega);omega) n
 have c3:=Gi x.ah[3] (n+1) (n+1+1) (by have:=hzs 3 (by omega);omega)
 have c5:=qB x.ah[5] q (by have:=hzs 5 (by omega);omega)
 have c6:=CP x.ah[6] r (Oa hfo (by omega)) (by have:=hzs 6 (by omega);omega)
 rw[←f2] at c2
 rw[←f3] at c3
 rw[←f5] at c5
 rw[←f6] at c6
 have hz4:=hzs 4 (by omega)
 obtain⟨l,hl⟩:∃l,l=x.ah[4].ah:=⟨_,rfl⟩
 have hg4:=eP x.ah[4]
 have hll:l.length≤4194304:=by rw[hl];omega
 have hlm:∀y∈l,y.sz≤4194304:=fun y hy=>by have:=iK (hl▸hy);omega
 obtain⟨L,hL⟩:∃L:Nat→Nat,L=fun i=>p+1+iW (((l.map (nS true)).take i).map bg.enc):=⟨_,rfl⟩
 obtain⟨T,hT⟩:∃T:Nat→List (List D),T=fun i=>eB (((l.map (nS true)).take i).map bg.enc) (p+1):=⟨_,rfl⟩
 have hT0:T 0=[]:=by rw[hT];rfl
 have ig:∀i,(T i).length≤i:=fun i=>by rw[hT];simp only[jN,List.length_map];exact List.length_take_le _ _
 have hTr:∀i,∀r∈T i,r.length=4:=fun i=>by
  rw[hT]
  exact wB fun r hr=>by
   obtain⟨z,_,rfl⟩:=List.mem_map.1 hr
   exact z.dn
 have hTs:∀i (hi:i<l.length),T i++[eX (nS true l[i]).enc (L i)]=T (i+1):=fun i hi=>by
  have:=zZ (e:=bg.enc) (l:=l.map (nS true)) (i:=i) (by rw[List.length_map];exact hi) (p+1)
  rw[List.getElem_map] at this
  rw[hT,hL];exact this
 have hTe:T l.length=lPr F.aJ (p+1):=by
  rw[hT];simp only
  rw[List.take_of_length_le (by simp),f4,hl];rfl
 clear hT hL
 refine W3 ?_
 refine aZ c2 ?_
 refine W1 ?_
 refine W3 ?_
 refine aZ c3 ?_
 refine W1 ?_
 refine W3 ?_
 refine aZ c5 ?_
 refine W1 ?_
 refine W3 ?_
 refine aZ c6 ?_
 refine W1 ?_
 refine W3 ?_
 rw[←hl,←f1]
 refine pq p 3 3 4 _ rfl rfl ?_
 refine aT (ι:=Nat×List (List D)) Tryz.checked.mixed rfl [1,2,5,39,40,41] (fun y=>[.c (.ptr (0,1) 0),.c (.ptr (0,2) 0),.c (.ptr (0,3) 0),.c (.d (.sl (l.map aj.enc))),.c (.d (.i .i64 l.length)),.c (.d (.i .i64 y.1))])
  (fun y=>[.seed n,.box [.d (.s x.bf),.d (.sl (x.ah.map aj.enc))],.box EH,.box [.d (.s F.fName),.d (.ol n (F.aA.map encS)),.d (.ol (n+1) (lB F.bn (n+1+1))),.bS (0,4) y.2,.d (.i .i64 F.aU.aK),.d (.s F.aU.fName),.d (.ol q (lt F.aU.fArgs (q+1))),
    .d (.i .i64 F.fBody.aK),.d (.s F.fBody.bL),.d (.s F.fBody.fName),.d (.i .i64 F.fBody.fN),.d (.i .i64 F.fBody.fType.aK),.d (.s F.fBody.fType.fName),.d (.ol r (lt F.fBody.fType.fArgs (r+1))),
    .d (.ol (r+(gq F.fBody.fType.fArgs+1)) (lE F.fBody.fArgs (r+(gq F.fBody.fType.fArgs+1)+1))),.d (.ol (r+(gq F.fBody.fType.fArgs+1)+(kP F.fBody.fArgs+1)) (lM F.fBody.aP (r+(gq F.fBody.fType.fArgs+1)+(kP F.fBody.fArgs+1)+1)))],
    .fF p 4 y.2]::S)
  (fun y=>y.1≤l.length∧iJ y.2 (T y.1)) (fun y=>l.length-y.1) (0,[]) rfl rfl ⟨Nat.zero_le _,by rw[hT0];exact .nil⟩ ?_
 rintro⟨i,U⟩ ⟨p1,p2⟩
 simp only at p1 p2
 have hU1:=p2.length
 have hU2:=ig i
 have hU3:=p2.rows (hTr i)
 refine W1 ?_
 refine S0 (fun hb h=>?_) fun hb h=>?_
 ·have hi':i<l.length:=by omega
  have hz:=hlm _ (List.getElem_mem hi')
  have hs:=hTs i hi'
  have hz1:=eP l[i]
  refine W3 ?_
  refine S0 (fun hb h=>?_) fun hb h=>?_
  ·have hl2:l[i].ah.length=2:=by omega
   have hb:=Px (b:=true) (y:=l[i]) (.inr hl2)
   have g1:l[i].ah.getD 1 dB=l[i].ah[1]:=jr (by omega)
   rw[TP,hb.1,hb.2,jA (by omega:0<l[i].ah.length),g1] at hs
   have hz2:=wI l[i] (i:=1) (by omega)
   refine W3 ?_
   refine C1 (qB l[i].ah[1] (L i) (by omega)) ?_
   refine W3 ?_
   refine dh 5 (by decide) (i+1,_) (by simp only;omega) rfl rfl rfl rfl ⟨by simp only;omega,?_⟩
   simp only
   rw[←hs]
   exact p2.snoc (.refl _)
  ·have hl2:l[i].ah.length≠2:=by omega
   rw[TP,Y8 hl2] at hs
   refine dh 5 (by decide) (i+1,_) (by simp only;omega) rfl rfl rfl rfl ⟨by simp only;omega,?_⟩
   simp only
   rw[←hs]
   exact p2.snoc (.cons (.refl _) (.cons (.refl _) (.cons (.refl _) (.cons (nZ _) .nil))))
 ·have hi':i=l.length:=by omega
  subst hi'
  clear hTs
  rw[hTe] at p2
  have hcl:Less (.agg [.d (.s F.fName),.d (.ol n (F.aA.map encS)),.d (.ol (n+1) (lB F.bn (n+1+1))),.d (.sl U),.d (.i .i64 F.aU.aK),.d (.s F.aU.fName),.d (.ol q (lt F.aU.fArgs (q+1))),
   .d (.i .i64 F.fBody.aK),.d (.s F.fBody.bL),.d (.s F.fBody.fName),.d (.i .i64 F.fBody.fN),.d (.i .i64 F.fBody.fType.aK),.d (.s F.fBody.fType.fName),.d (.ol r (lt F.fBody.fType.fArgs (r+1))),
   .d (.ol (r+(gq F.fBody.fType.fArgs+1)) (lE F.fBody.fArgs (r+(gq F.fBody.fType.fArgs+1)+1))),.d (.ol (r+(gq F.fBody.fType.fArgs+1)+(kP F.fBody.fArgs+1)) (lM F.fBody.aP (r+(gq F.fBody.fType.fArgs+1)+(kP F.fBody.fArgs+1)+1)))]) F.v:=by
   have lab:∀(es:List (List D)) (k j:Nat),oF (.d (.ol k (eB es j))) (.d (.sl es)):=fun es k j w σ S β v h=>(pz es j).rep (sP h)
   exact(fQ.cons (.refl _) (.cons (EF _ _) (.cons (lab _ _ _) (.cons (uU (p2.trans (pz _ _))) (.cons (.refl _) (.cons (.refl _) (.cons (lab _ _ _) (.cons (.refl _) (.cons (.refl _) (.cons (.refl _) (.cons (.refl _) (.cons (.refl _) (.cons (.refl _) (.cons (lab _ _ _) (.cons (lab _ _ _) (.cons (lab _ _ _) .nil)))))))))))))))).less
  rw[←hF] at hds
  refine nK (EC F (by omega)) (.cons hcl .nil) ?_
  refine W1 ?_
  refine S0 (fun hb h=>?_) fun hb h=>?_
  ·exact gL (aF fun e=>by rw[←hF] at e;rw[e.2.2.1] at h;cases h)
  have hv:=h
  have hz:=aa3 (xw hv).2.2.2
  refine W3 ?_
  refine nK (aI.less (Qe F 0 hv (by omega)) (IU (Gd F) 0)) (.cons hcl .nil) ?_
  refine W1 ?_
  refine C1 (sO (Gd F) x (by omega)) ?_
  refine S0 (fun hb h=>?_) fun hb h=>?_
  ·exact gL (aF fun e=>h (by rw[←hF] at e;exact e.2.2.2))
  ·have hy:okF x=true:=by
    unfold okF
    rw[←hF]
    exact bA ⟨hf.1,hf.2,hv,h⟩
   rw[WC hy,hy,←hF,←hp,←hq,←hr0]
   exact(jd.cons (.cons (.refl _) (.cons (.refl _) (.cons (.refl _) (.cons (FV p2) (.refl _))))) (.refl _)).less
end Go.Proofs.YtocpgjlbagncjaaGreatDoor
namespace Go.Ab
def q2S(x:aN)(q:Nat):Nat:=q+(gq x.aJ+1)
def q3S(x:aN)(q:Nat):Nat:=q2S x q+(gq x.aU.fArgs+1)
def Py(x:aN)(q:Nat):Nat:=q3S x q+1
theorem Ik(x:aN)(q:Nat):eX x.enc q=[.s x.fName,.ol q (lt x.aJ (q+1)),.i .i64 x.aU.aK,.s x.aU.fName,.ol (q2S x q) (lt x.aU.fArgs (q2S x q+1)),.b x.gF,.ol (q3S x q) (x.aA.map encS),
 .i .i64 x.fBody.aK,.s x.fBody.bL,.s x.fBody.fName,.i .i64 x.fBody.fN,.i .i64 x.fBody.fType.aK,.s x.fBody.fType.fName,.ol (Py x q) (lt x.fBody.fType.fArgs (Py x q+1)),
 .ol (Py x q+(gq x.fBody.fType.fArgs+1)) (lE x.fBody.fArgs (Py x q+(gq x.fBody.fType.fArgs+1)+1)),.ol (Py x q+(gq x.fBody.fType.fArgs+1)+(kP x.fBody.fArgs+1)) (lM x.fBody.aP (Py x q+(gq x.fBody.fType.fArgs+1)+(kP x.fBody.fArgs+1)+1))]:=by
 simp only[aN.aD,ay.aD,au.aD,List.cons_append,List.nil_append,eX,lI,ow,Nat.add_zero,lt,lE,lM,gq,kP,q2S,q3S,Py,uh,wo,Nat.zero_add]
def aes(l:List aN)(n:Nat):List (List D):=eB (l.map aN.enc) n
abbrev bC.cl (x:bC) (n:Nat):List C:=[.d (.s x.fName),.d (.ol n (x.bF.map encS)),.d (.b x.kY),.d (.b x.bK),.d (.ol (n+1) (aes x.aC (n+1+1)))]
abbrev bC.cv (x:bC):List C:=[.d (.s x.fName),.d (.sl (x.bF.map encS)),.d (.b x.kY),.d (.b x.bK),.d (.sl (x.aC.map aN.enc))]
theorem TR(x:bC)(n:Nat):(eX x.enc n).map C.d=x.cl n:=by
 simp only[bC.aD,eX,lI,ow,Nat.add_zero,aes,uh,wo,Nat.zero_add,List.map_cons,List.map_nil]
 rfl
theorem TS(x:bC)(n:Nat):Less (.agg (x.cl n)) x.v:=by
 have:=JX (r:=x.enc) (n:=n)
 rw[TR,bC.tY] at this
 exact this
theorem WE{x:aj}(h:wP x=false):um x=H9:=if_neg (by rw[h];decide)
theorem TT{x:aj}(h:wP x=true):um x=rC true x:=if_pos h
abbrev EI:List C:=[.d (.s []),.bO [],.d (.b false),.d (.b false),.bO []]
theorem ajX(e:bC)(h:e=H9)(ok:Bool):Less (.dY [(true,EI),(false,[.d (.b ok)])]) (.dY [(true,e.cv),(false,[.d (.b ok)])]):=by
 rw[h]
 exact(jd.cons (.cons (.refl _) (.cons (fP _) (.cons (.refl _) (.cons (.refl _) (.cons (fP _) .nil))))) (.refl _)).less
theorem agJ(e:bC)(h:e=H9)(n:Nat)(ok:Bool):Less (.dY [(true,EI),(false,[.d (.b ok)])]) (.dY [(true,e.cl n),(false,[.d (.b ok)])]):=by
 rw[h]
 exact(jd.cons (.cons (.refl _) (.cons (dX _) (.cons (.refl _) (.cons (.refl _) (.cons (dX _) .nil))))) (.refl _)).less
theorem VB{y:aj}(h:y.ah.length=5):jC true y=⟨y.ah[0].bf,y.ah[1].ah.map (dO true),dO true y.ah[2],true,fq y.ah[3].ah,eZ true y.ah[4]⟩:=by
 unfold jC
 rw[if_neg (by omega),show wY true y.ah=true from decide_eq_true h,if_pos rfl,if_pos rfl,jA (by omega),jr (by omega:1<y.ah.length),jr (by omega:2<y.ah.length),jr (by omega:4<y.ah.length)]
 unfold nY
 rw[jr (by omega:3<y.ah.length)]
theorem VD{y:aj}(h:3≤y.ah.length)(h5:y.ah.length≠5):jC true y=⟨y.ah[0].bf,y.ah[1].ah.map (dO true),dO true y.ah[2],false,[],lG⟩:=by
 unfold jC
 rw[if_neg (by omega),show wY true y.ah=false from decide_eq_false h5,if_neg (by decide),if_neg (by decide),jA (by omega),jr (by omega:1<y.ah.length),jr (by omega:2<y.ah.length)]
theorem VE{y:aj}(h:y.ah.length<3):jC true y=NU:=if_pos ⟨rfl,h⟩
theorem TU{y:aj}(h:3<y.ah.length):jC false y=⟨(y.ah.getD 0 dB).bf,(y.ah.getD 1 dB).ah.map (dO false),dO false (y.ah.getD 2 dB),true,fq (y.ah.getD 3 dB).ah,eZ false (y.ah.getD 4 dB)⟩:=by
 unfold jC
 rw[if_neg (by simp),show wY false y.ah=true from decide_eq_true h];rfl
theorem TV{y:aj}(h:¬3<y.ah.length):jC false y=⟨(y.ah.getD 0 dB).bf,(y.ah.getD 1 dB).ah.map (dO false),dO false (y.ah.getD 2 dB),false,[],lG⟩:=by
 unfold jC
 rw[if_neg (by simp),show wY false y.ah=false from decide_eq_false h];rfl
theorem Y9:lG.enc=[.i .i64 0,.s [],.s [],.i .i64 0,.i .i64 0,.s [],.sl [],.sl [],.sl []]:=by
 rw[ay.aD];rfl
theorem Dt(x:aj){m:Nat}(h:x.sz≤m):(fq x.ah).length≤m:=by
 have:=(qP x.ah).1
 have:=eP x
 omega
end Go.Ab
namespace Go.Proofs.YtocpgjlbagncjaaGreatDoor
open Go Go.Ab
theorem TW(x:aj)(hsz:x.sz≤1048576):aI Tryz.prog 79 [x.v] (.dY [(true,(um x).cv),(false,[.d (.b (wP x))])]):=aI.of_le fun S=>by
 have h1:=eP x
 have hds:=Kt false x
 have hos:=aef (x:=rC false x) (by omega)
 have hgs:=fun i=>uw x i (m:=4194304) (by omega)
 obtain⟨l,hl⟩:∃l,l=x.ah.drop 4:=⟨_,rfl⟩
 have hll:l.length≤4194304:=by rw[hl,List.length_drop];omega
 have hlm:∀y∈l,y.sz≤4194304:=fun y hy=>by have:=iK (List.mem_of_mem_drop (hl▸hy));omega
 obtain⟨F,hF⟩:∃F,F=rC false x:=⟨_,rfl⟩
 have f1:F.fName=(x.ah.getD 1 dB).bf:=by rw[hF];rfl
 have f2:F.bF=fq (x.ah.getD 2 dB).ah:=by rw[hF];rfl
 have f3:F.kY=dec (sM∈fq (x.ah.getD 3 dB).ah):=by rw[hF,←jY];rfl
 have f4:F.bK=dec (iO∈fq (x.ah.getD 3 dB).ah):=by rw[hF,←jY];rfl
 obtain⟨T,hT⟩:∃T:Nat→List (List D),T=fun i=>((l.map (jC false)).take i).map aN.enc:=⟨_,rfl⟩
 have hT0:T 0=[]:=by rw[hT];rfl
 have ig:∀i,(T i).length≤i:=fun i=>by rw[hT];simp only[List.length_map];exact List.length_take_le _ _
 have hTs:∀i (hi:i<l.length),T i++[(jC false l[i]).enc]=T (i+1):=fun i hi=>by
  have:=Bw (e:=aN.enc) (l:=l.map (jC false)) (i:=i) (by rw[List.length_map];exact hi)
  rw[List.getElem_map] at this
  rw[hT];exact this
 have hTe:T l.length=F.aC.map aN.enc:=by
  rw[hT];simp only
  rw[List.take_of_length_le (by simp),hF,hl];rfl
 clear hT
 have gL:wP x=false→Less (.dY [(true,EI),(false,[.d (.b false)])]) (.dY [(true,(um x).cv),(false,[.d (.b (wP x))])]):=fun e=>by
  rw[e];exact ajX _ (WE e) false
 have c2:=rA _ (hgs 2)
 have c3:=qZ (fq (x.ah.getD 3 dB).ah) sM (by have:=Dt _ (hgs 3);omega)
 have c4:=qZ (fq (x.ah.getD 3 dB).ah) iO (by have:=Dt _ (hgs 3);omega)
 rw[←f2] at c2
 rw[←f3] at c3
 rw[←f4] at c4
 refine aG (rs:=[.cell 2 102,.tmp 3]) Tryz.checked.mixed Tryz.func79 Tryz.ntmps79 rfl rfl rfl rfl rfl ?_
 refine W1 ?_
 refine C1 (fJ x 3 (by omega) (by omega)) ?_
 refine C1 (rA _ (hgs 3)) ?_
 refine C1 (fJ x 1 (by omega) (by omega)) ?_
 refine C1 (fJ x 2 (by omega) (by omega)) ?_
 refine aZ c2 ?_
 refine W1 ?_
 refine aZ c3 ?_
 refine W1 ?_
 refine aZ c4 ?_
 refine W1 ?_
 refine W3 ?_
 refine C1 (wZ x 4 (by omega)) ?_
 rw[←hl,←f1]
 refine qV 2 4 16 _ rfl rfl ?_
 refine aT (ι:=Nat) Tryz.checked.mixed rfl [1,2,5,6,7] (fun i=>[.c (.ptr (0,0) 0),.c (.ptr (0,1) 0),.c (.ptr (0,2) 0),.c (.d (.sl (l.map aj.enc))),.c (.d (.i .i64 i))])
  (fun i=>[.box [.d (.s x.bf),.d (.sl (x.ah.map aj.enc))],.box EI,.box [.d (.s F.fName),.d (.sl (F.bF.map encS)),.d (.b F.kY),.d (.b F.bK),.bS (0,3) (T i)],.tok 16 (T i)]::S)
  (fun i=>i≤l.length) (fun i=>l.length-i) 0 rfl (by rw[hT0];rfl) (Nat.zero_le _) ?_
 intro i hi
 have hl':=ig i
 refine W1 ?_
 refine S0 (fun hb h=>?_) fun hb h=>?_
 ·have hi':i<l.length:=by omega
  have hz:=hlm _ (List.getElem_mem hi')
  have hs:=hTs i hi'
  have hg:=fun k=>uw l[i] k hz
  have hg1:=hg 1
  have amy:=eP (l[i].ah.getD 1 dB)
  have hz1:=eP l[i]
  refine W3 ?_
  refine C1 (fJ l[i] 0 hz (by omega)) ?_
  refine W3 ?_
  refine C1 (fJ l[i] 1 hz (by omega)) ?_
  refine C1 (Gg (l[i].ah.getD 1 dB).ah (by omega) (fun t ht=>by have:=iK ht;omega)) ?_
  refine W3 ?_
  refine C1 (fJ l[i] 2 hz (by omega)) ?_
  refine C1 (p8 (l[i].ah.getD 2 dB) (hg 2)) ?_
  refine W3 ?_
  refine S0 (fun hb h=>?_) fun hb h=>?_
  ·rw[TU (by omega)] at hs
   simp only[aN.aD,ay.aD,au.aD,List.cons_append,List.nil_append] at hs
   refine W3 ?_
   refine C1 (fJ l[i] 3 hz (by omega)) ?_
   refine C1 (rA _ (hg 3)) ?_
   refine W3 ?_
   refine C1 (fJ l[i] 4 hz (by omega)) ?_
   refine C1 (DZ (l[i].ah.getD 4 dB) (hg 4)) ?_
   refine W3 ?_
   rw[hs]
   exact dh 4 (by decide) (i+1) (by omega) rfl rfl rfl rfl (by omega)
  ·rw[TV (by omega)] at hs
   simp only[aN.aD,Y9,au.aD,List.cons_append,List.nil_append,List.map_nil] at hs
   refine W3 ?_
   rw[hs]
   exact dh 4 (by decide) (i+1) (by omega) rfl rfl rfl rfl (by omega)
 ·have hi':i=l.length:=by omega
  subst hi'
  rw[hTe]
  clear hTs
  refine C1 (qy x (by omega)) ?_
  refine S0 (fun hb h=>?_) fun hb h=>?_
  ·exact gL (aF fun e=>by rw[e.1] at h;cases h)
  have hv:=h
  refine S0 (fun hb h=>?_) fun hb h=>?_
  ·exact gL (aF fun e=>by omega)
  have hne:x.ah≠[]:=fun e=>by rw[e] at h;exact h rfl
  have hok:=abh hne
  rw[hv,Bool.true_and] at hok
  rw[←hF] at hok hos hds
  refine W3 ?_
  refine C1 (abd F (by omega)) ?_
  refine C1 (sN (MG F) x (by omega)) ?_
  refine S0 (fun hb h=>?_) fun hb h=>?_
  ·exact gL (by rw[hok];exact aF h)
  ·have hy:wP x=true:=by rw[hok];exact bA h
   rw[TT hy,hy,←abj hy,←hF]
   exact iF _
theorem Ku(x:aj)(n:Nat)(hfo:jJ x=true)(hlen:4≤x.ah.length)(hsz:x.sz≤1048576):aI Tryz.prog 161 [x.v] (.agg ((rC true x).cl n)):=aI.of_le fun S=>by
 have h1:=eP x
 obtain⟨F,hF⟩:∃F,F=rC true x:=⟨_,rfl⟩
 have hr:=gT (l:=x.ah)
 have hzs:=fun i hi=>wI x (i:=i) hi
 have hz2:=hzs 2 (by omega)
 have hz3:=hzs 3 (by omega)
 have f1:F.fName=x.ah[1].bf:=by rw[hF];exact jA (by omega)
 have f2:F.bF=fq x.ah[2].ah:=by rw[hF,←jr (l:=x.ah) (i:=2) (by omega)];rfl
 have f3:F.kY=dec (sM∈fq x.ah[3].ah):=by rw[hF,←jY,←jr (l:=x.ah) (i:=3) (by omega)];rfl
 have f4:F.bK=dec (iO∈fq x.ah[3].ah):=by rw[hF,←jY,←jr (l:=x.ah) (i:=3) (by omega)];rfl
 obtain⟨l,hl⟩:∃l,l=x.ah.drop 4:=⟨_,rfl⟩
 have hll:l.length≤4194304:=by rw[hl,List.length_drop];omega
 have hlm:∀y∈l,y.sz≤1048576∧jJ y=true:=fun y hy=>by
  have h2:=List.mem_of_mem_drop (hl▸hy)
  have:=iK h2
  exact⟨by omega,wu (Dr hfo (fun e=>by rw[e] at h2;cases h2)) h2⟩
 obtain⟨L,hL⟩:∃L:Nat→Nat,L=fun i=>n+1+1+iW (((l.map (jC true)).take i).map aN.enc):=⟨_,rfl⟩
 obtain⟨T,hT⟩:∃T:Nat→List (List D),T=fun i=>eB (((l.map (jC true)).take i).map aN.enc) (n+1+1):=⟨_,rfl⟩
 have hT0:T 0=[]:=by rw[hT];rfl
 have ig:∀i,(T i).length≤i:=fun i=>by rw[hT];simp only[jN,List.length_map];exact List.length_take_le _ _
 have hTr:∀i,∀r∈T i,r.length=16:=fun i=>by
  rw[hT]
  exact wB fun r hr=>by
   obtain⟨z,_,rfl⟩:=List.mem_map.1 hr
   exact z.dn
 have hTs:∀i (hi:i<l.length),T i++[eX (jC true l[i]).enc (L i)]=T (i+1):=fun i hi=>by
  have:=zZ (e:=aN.enc) (l:=l.map (jC true)) (i:=i) (by rw[List.length_map];exact hi) (n+1+1)
  rw[List.getElem_map] at this
  rw[hT,hL];exact this
 have hTe:T l.length=aes F.aC (n+1+1):=by
  rw[hT];simp only
  rw[List.take_of_length_le (by simp),hF,hl];rfl
 clear hT hL
 have c2:=qA x.ah[2] (by omega) n
 have c3:=q8 (fq x.ah[3].ah) sM (by have:=Dt _ hz3;omega)
 have c4:=q8 (fq x.ah[3].ah) iO (by have:=Dt _ hz3;omega)
 rw[←f2] at c2
 rw[←f3] at c3
 rw[←f4] at c4
 rw[←hF]
 refine kC (n) (rs:=[.cell 2 102]) Tryz.checked.mixed Tryz.func161 Tryz.ntmps161 rfl rfl rfl rfl rfl ?_
 refine W1 ?_
 refine W3 ?_
 refine C1 (qA x.ah[3] (by omega) 0) ?_
 refine W3 ?_
 refine aZ c2 ?_
 refine W1 ?_
 refine nK c3 (.cons (I4 _ _) (.cons (iF _) .nil)) ?_
 refine W1 ?_
 refine nK c4 (.cons (I4 _ _) (.cons (iF _) .nil)) ?_
 refine W1 ?_
 refine⟨⟨by omega,by omega,hr⟩,?_⟩
 rw[oq _ _ _ (Nat.le_refl _),←hl,←f1]
 refine W1 ?_
 refine pq (n+1) 3 4 16 _ rfl rfl ?_
 refine aT (ι:=Nat×List (List D)) Tryz.checked.mixed rfl [2,4,30,31,32] (fun y=>[.c (.ptr (0,2) 0),.c (.ptr (0,3) 0),.c (.d (.sl (l.map aj.enc))),.c (.d (.i .i64 l.length)),.c (.d (.i .i64 y.1))])
  (fun y=>[.seed n,.box [.d (.s x.bf),.d (.sl (x.ah.map aj.enc))],.box EI,.box [.d (.s F.fName),.d (.ol n (F.bF.map encS)),.d (.b F.kY),.d (.b F.bK),.bS (0,4) y.2],.fF (n+1) 16 y.2]::S)
  (fun y=>y.1≤l.length∧iJ y.2 (T y.1)) (fun y=>l.length-y.1) (0,[]) rfl rfl ⟨Nat.zero_le _,by rw[hT0];exact .nil⟩ ?_
 rintro⟨i,U⟩ ⟨p1,p2⟩
 simp only at p1 p2
 have hU1:=p2.length
 have hU2:=ig i
 have hU3:=p2.rows (hTr i)
 refine W1 ?_
 refine S0 (fun hb h=>?_) fun hb h=>?_
 ·have hi':i<l.length:=by omega
  obtain⟨hz,hfy⟩:=hlm _ (List.getElem_mem hi')
  have hs:=hTs i hi'
  have hz1:=eP l[i]
  refine W3 ?_
  refine S0 (fun hb h=>?_) fun hb h=>?_
  ·have hl3:3≤l[i].ah.length:=by omega
   have hy1:=wI l[i] (i:=1) (by omega)
   have amz:=eP l[i].ah[1]
   have hy2:=wI l[i] (i:=2) (by omega)
   refine W3 ?_
   refine C1 (EG l[i].ah[1].ah (L i) (L i+1) (by omega) (fun t ht=>by have:=iK ht;omega)) ?_
   refine W3 ?_
   refine C1 (qB l[i].ah[2] (q2S (jC true l[i]) (L i)) (by omega)) ?_
   refine W3 ?_
   refine S0 (fun hb h=>?_) fun hb h=>?_
   ·have hl5:l[i].ah.length=5:=by omega
    have hy3:=wI l[i] (i:=3) (by omega)
    have hy4:=wI l[i] (i:=4) (by omega)
    have hd:=VB hl5
    refine W3 ?_
    refine C1 (qA l[i].ah[3] (by omega) (q3S (jC true l[i]) (L i))) ?_
    refine W3 ?_
    refine C1 (CP l[i].ah[4] (Py (jC true l[i]) (L i)) (Oa hfy (by omega)) (by omega)) ?_
    refine W3 ?_
    rw[Ik] at hs
    obtain⟨g,hg⟩:∃g,g=jC true l[i]:=⟨_,rfl⟩
    rw[←hg] at hs hd ⊢
    have e1:g.fName=l[i].ah[0].bf:=by rw[hd]
    have e2:g.aJ=l[i].ah[1].ah.map (dO true):=by rw[hd]
    have e3:g.aU=dO true l[i].ah[2]:=by rw[hd]
    have e4:g.gF=true:=by rw[hd]
    have e5:g.aA=fq l[i].ah[3].ah:=by rw[hd]
    have e6:g.fBody=eZ true l[i].ah[4]:=by rw[hd]
    rw[e1,e2,e3,e4,e5,e6] at hs
    refine dh 5 (by decide) (i+1,_) (by simp only;omega) rfl rfl rfl rfl ⟨by simp only;omega,?_⟩
    simp only
    rw[←hs]
    exact p2.snoc (.refl _)
   ·have hd:=VD hl3 (by omega)
    refine W3 ?_
    rw[Ik] at hs
    obtain⟨g,hg⟩:∃g,g=jC true l[i]:=⟨_,rfl⟩
    rw[←hg] at hs hd ⊢
    have e1:g.fName=l[i].ah[0].bf:=by rw[hd]
    have e2:g.aJ=l[i].ah[1].ah.map (dO true):=by rw[hd]
    have e3:g.aU=dO true l[i].ah[2]:=by rw[hd]
    have e4:g.gF=false:=by rw[hd]
    have e5:g.aA=[]:=by rw[hd]
    have e6:g.fBody=lG:=by rw[hd]
    rw[e1,e2,e3,e4,e5,e6] at hs
    refine dh 5 (by decide) (i+1,_) (by simp only;omega) rfl rfl rfl rfl ⟨by simp only;omega,?_⟩
    simp only
    rw[←hs]
    exact p2.snoc (.cons (.refl _) (.cons (.refl _) (.cons (.refl _) (.cons (.refl _) (.cons (.refl _) (.cons (.refl _) (.cons (nZ _) (.cons (.refl _) (.cons (.refl _) (.cons (.refl _) (.cons (.refl _) (.cons (.refl _) (.cons (.refl _) (.cons (nZ _) (.cons (nZ _) (.cons (nZ _) .nil))))))))))))))))
  ·have hd:=VE (y:=l[i]) (by omega)
   refine S0 (fun hb h=>?_) fun hb h=>?_
   ·omega
   ·refine W3 ?_
    rw[hd,Ik] at hs
    refine dh 5 (by decide) (i+1,_) (by simp only;omega) rfl rfl rfl rfl ⟨by simp only;omega,?_⟩
    simp only
    rw[←hs]
    exact p2.snoc (.cons (.refl _) (.cons (nZ _) (.cons (.refl _) (.cons (.refl _) (.cons (nZ _) (.cons (.refl _) (.cons (nZ _) (.cons (.refl _) (.cons (.refl _) (.cons (.refl _) (.cons (.refl _) (.cons (.refl _) (.cons (.refl _) (.cons (nZ _) (.cons (nZ _) (.cons (nZ _) .nil))))))))))))))))
 ·have hi':i=l.length:=by omega
  subst hi'
  rw[hTe] at p2
  exact(fQ.cons (.refl _) (.cons (.refl _) (.cons (.refl _) (.cons (.refl _) (.cons (FV p2) .nil))))).less
theorem Qk(x:aj)(n:Nat)(hsz:x.sz≤1048576):aI Tryz.prog 90 [x.v] (.dY [(true,(um x).cl n),(false,[.d (.b (wP x))])]):=aI.of_le fun S=>by
 have hds:=Kt true x
 have gL:wP x=false→Less (.dY [(true,EI),(false,[.d (.b false)])]) (.dY [(true,(um x).cl n),(false,[.d (.b (wP x))])]):=fun e=>by
  rw[e];exact agJ _ (WE e) n false
 refine aG (rs:=[.cell 2 102,.tmp 3]) Tryz.checked.mixed Tryz.func90 Tryz.ntmps90 rfl rfl rfl rfl rfl ?_
 refine W1 ?_
 refine C1 (uq x jV 4 (by omega) (by omega) (by omega)) ?_
 refine S0 (fun hb h=>?_) fun hb h=>?_
 ·exact gL (aF fun e=>h ⟨e.1,e.2.1.1,e.2.1.2⟩)
 have hf:=h
 have hvx:=tF hf.1
 have hfo:jJ x=true:=by have:=hf.1;unfold iI at this;rw[Bool.and_eq_true] at this;exact this.1
 refine C1 (Ku x n hfo hf.2.1 (by omega)) ?_
 refine nK (Bg (rC true x) (by omega)) (.cons (TS _ n) .nil) ?_
 refine W1 ?_
 refine S0 (fun hb h=>?_) fun hb h=>?_
 ·exact gL (aF fun e=>by rw[e.2.2.1] at h;cases h)
 have hv:=h
 have hz:=I5 hv
 refine W3 ?_
 refine nK (aI.less (Qf (rC true x) 0 hv (by omega)) (IU (qM (rC true x)) 0)) (.cons (TS _ n) .nil) ?_
 refine W1 ?_
 refine C1 (sO (qM (rC true x)) x (by omega)) ?_
 refine S0 (fun hb h=>?_) fun hb h=>?_
 ·exact gL (aF fun e=>h e.2.2.2)
 ·have hy:wP x=true:=bA ⟨hf.1,hf.2,hv,h⟩
  rw[TT hy,hy]
  exact iF _
end Go.Proofs.YtocpgjlbagncjaaGreatDoor
namespace Go.Ab
theorem TY(x:bH)(n:Nat):eX x.enc n=[.s x.fName,.ol n (x.aA.map encS),.i .i64 x.fBody.aK,.s x.fBody.bL,.s x.fBody.fName,.i .i64 x.fBody.fN,.i .i64 x.fBody.fType.aK,.s x.fBody.fType.fName,.ol (n+1) (lt x.fBody.fType.fArgs (n+1+1)),
 .ol (n+1+(gq x.fBody.fType.fArgs+1)) (lE x.fBody.fArgs (n+1+(gq x.fBody.fType.fArgs+1)+1)),.ol (n+1+(gq x.fBody.fType.fArgs+1)+(kP x.fBody.fArgs+1)) (lM x.fBody.aP (n+1+(gq x.fBody.fType.fArgs+1)+(kP x.fBody.fArgs+1)+1))]:=by
 simp only[bH.aD,ay.aD,au.aD,List.cons_append,List.nil_append,eX,lI,ow,Nat.add_zero,lt,lE,lM,gq,kP,uh,wo,Nat.zero_add]
def lMe(l:List bH)(n:Nat):List (List D):=eB (l.map bH.enc) n
def pI(x:aQ)(n:Nat):Nat:=n+1+(gq x.bM.fArgs+1)
def qI(x:aQ)(n:Nat):Nat:=pI x n+(QG x.bn+1)
def rI(x:aQ)(n:Nat):Nat:=qI x n+(gq x.bK.fArgs+1)
abbrev aQ.cl (x:aQ) (n p q r:Nat):List C:=[.d (.s x.bL),.d (.ol n (x.aA.map encS)),.d (.i .i64 x.bM.aK),.d (.s x.bM.fName),.d (.ol (n+1) (lt x.bM.fArgs (n+1+1))),.d (.ol p (lB x.bn (p+1))),.d (.b x.gy),.d (.b x.dW),
 .d (.i .i64 x.bK.aK),.d (.s x.bK.fName),.d (.ol q (lt x.bK.fArgs (q+1))),.d (.ol r (lMe x.aL (r+1)))]
abbrev aQ.cv (x:aQ):List C:=[.d (.s x.bL),.d (.sl (x.aA.map encS)),.d (.i .i64 x.bM.aK),.d (.s x.bM.fName),.d (.sl (x.bM.fArgs.map au.enc)),.d (.sl (x.bn.map aO.enc)),.d (.b x.gy),.d (.b x.dW),
 .d (.i .i64 x.bK.aK),.d (.s x.bK.fName),.d (.sl (x.bK.fArgs.map au.enc)),.d (.sl (x.aL.map bH.enc))]
theorem agK(x:aQ)(n:Nat):(eX x.enc n).map C.d=x.cl n (pI x n) (qI x n) (rI x n):=by
 simp only[aQ.aD,au.aD,List.cons_append,List.nil_append,eX,lI,ow,Nat.add_zero,lt,lB,lMe,gq,QG,pI,qI,rI,uh,wo,Nat.zero_add,List.map_cons,List.map_nil]
 rfl
theorem T9{x:aj}(h:yu x=false):qE x=IZ:=if_neg (by rw[h];decide)
theorem WG{x:aj}(h:yu x=true):qE x=zG true x:=if_pos h
abbrev wz:List C:=[.d (.s []),.bO [],.d (.i .i64 0),.d (.s []),.bO [],.bO [],.d (.b false),.d (.b false),.d (.i .i64 0),.d (.s []),.bO [],.bO []]
theorem alC(e:aQ)(h:e=IZ)(ok:Bool):Less (.dY [(true,wz),(false,[.d (.b ok)])]) (.dY [(true,e.cv),(false,[.d (.b ok)])]):=by
 rw[h]
 exact(jd.cons (.cons (.refl _) (.cons (fP _) (.cons (.refl _) (.cons (.refl _) (.cons (fP _) (.cons (fP _) (.cons (.refl _) (.cons (.refl _) (.cons (.refl _) (.cons (.refl _) (.cons (fP _) (.cons (fP _) .nil)))))))))))) (.refl _)).less
theorem abI(e:aQ)(h:e=IZ)(n p q r:Nat)(ok:Bool):Less (.dY [(true,wz),(false,[.d (.b ok)])]) (.dY [(true,e.cl n p q r),(false,[.d (.b ok)])]):=by
 rw[h]
 exact(jd.cons (.cons (.refl _) (.cons (dX _) (.cons (.refl _) (.cons (.refl _) (.cons (dX _) (.cons (dX _) (.cons (.refl _) (.cons (.refl _) (.cons (.refl _) (.cons (.refl _) (.cons (dX _) (.cons (dX _) .nil)))))))))))) (.refl _)).less
theorem Ua{b:Bool}{y:aj}(h:b=false∨y.ah.length=3):rX b y=⟨(y.ah.getD 0 dB).bf,fq (y.ah.getD 1 dB).ah,eZ b (y.ah.getD 2 dB)⟩:=by
 unfold rX
 rw[if_neg (by rintro⟨e1,e2⟩;rcases h with e|e;(rw[e] at e1;cases e1);exact e2 e)]
 rfl
theorem abJ{y:aj}(h:y.ah.length≠3):rX true y=⟨[],[],lG⟩:=if_pos ⟨rfl,h⟩
end Go.Ab
namespace Go.Proofs.YtocpgjlbagncjaaGreatDoor
open Go Go.Ab
theorem VF(x:aj)(hsz:x.sz≤1048576):aI Tryz.prog 81 [x.v] (.dY [(true,(qE x).cv),(false,[.d (.b (yu x))])]):=aI.of_le fun S=>by
 have h1:=eP x
 have hds:=NT false x
 have hos:=agr (x:=zG false x) (by omega)
 have hgs:=fun i=>uw x i (m:=4194304) (by omega)
 obtain⟨l,hl⟩:∃l,l=x.ah.drop 7:=⟨_,rfl⟩
 have hll:l.length≤4194304:=by rw[hl,List.length_drop];omega
 have hlm:∀y∈l,y.sz≤4194304:=fun y hy=>by have:=iK (List.mem_of_mem_drop (hl▸hy));omega
 obtain⟨F,hF⟩:∃F,F=zG false x:=⟨_,rfl⟩
 obtain⟨z,Pz⟩:∃z,z=x.ah.getD 6 dB:=⟨_,rfl⟩
 have hzz:=hgs 6
 rw[←Pz] at hzz
 have f1:F.bL=(x.ah.getD 1 dB).bf:=by rw[hF];rfl
 have f2:F.aA=fq (x.ah.getD 2 dB).ah:=by rw[hF];rfl
 have f3:F.bM=dO false (x.ah.getD 3 dB):=by rw[hF];rfl
 have f4:F.bn=(x.ah.getD 4 dB).ah.map (nR false):=by rw[hF];rfl
 have f5:F.gy=decide ((0:Int)<((x.ah.getD 5 dB).ah.length:Int)):=by rw[hF];show decide (0<(x.ah.getD 5 dB).ah.length)=_;exact decide_eq_decide.2 (by omega)
 have f6:F.dW=decide (0<z.ah.length):=by rw[hF,Pz];rfl
 have f7:F.bK=if 0<z.ah.length then dO false (gX z.ah 0) else iV:=by rw[hF,Pz];rfl
 obtain⟨T,hT⟩:∃T:Nat→List (List D),T=fun i=>((l.map (rX false)).take i).map bH.enc:=⟨_,rfl⟩
 have hT0:T 0=[]:=by rw[hT];rfl
 have ig:∀i,(T i).length≤i:=fun i=>by rw[hT];simp only[List.length_map];exact List.length_take_le _ _
 have hTs:∀i (hi:i<l.length),T i++[(rX false l[i]).enc]=T (i+1):=fun i hi=>by
  have:=Bw (e:=bH.enc) (l:=l.map (rX false)) (i:=i) (by rw[List.length_map];exact hi)
  rw[List.getElem_map] at this
  rw[hT];exact this
 have hTe:T l.length=F.aL.map bH.enc:=by
  rw[hT];simp only
  rw[List.take_of_length_le (by simp),hF,hl];rfl
 clear hT
 have gL:yu x=false→Less (.dY [(true,wz),(false,[.d (.b false)])]) (.dY [(true,(qE x).cv),(false,[.d (.b (yu x))])]):=fun e=>by
  rw[e];exact alC _ (T9 e) false
 have c2:=rA _ (hgs 2)
 have c3:=p8 (x.ah.getD 3 dB) (hgs 3)
 have c4:=Gh _ (hgs 4)
 rw[←f2] at c2
 rw[←f3] at c3
 rw[←f4] at c4
 refine(show Hold ?T→_ from fun tail=> ?main) ?tp
 case' main=>
  refine aG (rs:=[.cell 2 113,.tmp 3]) Tryz.checked.mixed Tryz.func81 Tryz.ntmps81 rfl rfl rfl rfl rfl ?_
  refine W1 ?_
  refine C1 (fJ x 1 (by omega) (by omega)) ?_
  refine C1 (fJ x 2 (by omega) (by omega)) ?_
  refine aZ c2 ?_
  refine W1 ?_
  refine C1 (fJ x 3 (by omega) (by omega)) ?_
  refine aZ c3 ?_
  refine W1 ?_
  refine C1 (fJ x 4 (by omega) (by omega)) ?_
  refine aZ c4 ?_
  refine W1 ?_
  refine C1 (fJ x 5 (by omega) (by omega)) ?_
  refine W3 ?_
  refine C1 (fJ x 6 (by omega) (by omega)) ?_
  rw[←Pz]
  refine S0 (fun hb h=>?_) fun hb h=>?_
  ·have hpos:0<z.ah.length:=by omega
   rw[if_pos hpos,jr hpos] at f7
   have hz0:=wI z hpos
   have c7:=p8 z.ah[0] (by omega)
   rw[←f7] at c7
   have Ub:F.dW=true:=f6.trans (decide_eq_true hpos)
   refine W3 ?_
   refine aZ c7 ?_
   refine W1 ?_
   refine W3 ?_
   refine C1 (wZ x 7 (by omega)) ?_
   rw[←hl,←f1,←f5]
   refine qV 2 11 11 _ rfl rfl ?_
   refine nN (st':=[.box [.d (.s x.bf),.d (.sl (x.ah.map aj.enc))],.box wz,.box [.d (.s F.bL),.d (.sl (F.aA.map encS)),.d (.i .i64 F.bM.aK),.d (.s F.bM.fName),.d (.sl (F.bM.fArgs.map au.enc)),.d (.sl (F.bn.map aO.enc)),.d (.b F.gy),.d (.b F.dW),.d (.i .i64 F.bK.aK),.d (.s F.bK.fName),.d (.sl (F.bK.fArgs.map au.enc)),.bS (0,4) []],
    .box [.d (.s z.bf),.d (.sl (z.ah.map aj.enc))],.tok 11 []]::S) [1,2,4,6,7] [.c (.ptr (0,0) 0),.c (.ptr (0,1) 0),.c (.ptr (0,2) 0),.c (.d (.sl (l.map aj.enc))),.c (.d (.i .i64 0))] ?_ ?_ ?_
   ·rfl
   ·rw[Ub];rfl
   ·exact tail.out
  ·have hpos:¬0<z.ah.length:=by omega
   rw[if_neg hpos] at f7
   have Ub:F.dW=false:=f6.trans (decide_eq_false hpos)
   refine C1 (wZ x 7 (by omega)) ?_
   rw[←hl,←f1,←f5]
   refine FP 2 _ _ rfl (Dn (fP []) 10 _ rfl) ?_
   refine qV 2 11 11 _ rfl rfl ?_
   refine nN (st':=[.box [.d (.s x.bf),.d (.sl (x.ah.map aj.enc))],.box wz,.box [.d (.s F.bL),.d (.sl (F.aA.map encS)),.d (.i .i64 F.bM.aK),.d (.s F.bM.fName),.d (.sl (F.bM.fArgs.map au.enc)),.d (.sl (F.bn.map aO.enc)),.d (.b F.gy),.d (.b F.dW),.d (.i .i64 F.bK.aK),.d (.s F.bK.fName),.d (.sl (F.bK.fArgs.map au.enc)),.bS (0,4) []],
    .box [.d (.s z.bf),.d (.sl (z.ah.map aj.enc))],.tok 11 []]::S) [1,2,4,6,7] [.c (.ptr (0,0) 0),.c (.ptr (0,1) 0),.c (.ptr (0,2) 0),.c (.d (.sl (l.map aj.enc))),.c (.d (.i .i64 0))] ?_ ?_ ?_
   ·rfl
   ·rw[Ub,f7];rfl
   ·exact tail.out
 refine⟨?_⟩
 refine aT (ι:=Nat) Tryz.checked.mixed rfl [1,2,4,6,7] (fun i=>[.c (.ptr (0,0) 0),.c (.ptr (0,1) 0),.c (.ptr (0,2) 0),.c (.d (.sl (l.map aj.enc))),.c (.d (.i .i64 i))])
  (fun i=>[.box [.d (.s x.bf),.d (.sl (x.ah.map aj.enc))],.box wz,.box [.d (.s F.bL),.d (.sl (F.aA.map encS)),.d (.i .i64 F.bM.aK),.d (.s F.bM.fName),.d (.sl (F.bM.fArgs.map au.enc)),.d (.sl (F.bn.map aO.enc)),.d (.b F.gy),.d (.b F.dW),.d (.i .i64 F.bK.aK),.d (.s F.bK.fName),.d (.sl (F.bK.fArgs.map au.enc)),.bS (0,4) (T i)],
    .box [.d (.s z.bf),.d (.sl (z.ah.map aj.enc))],.tok 11 (T i)]::S)
  (fun i=>i≤l.length) (fun i=>l.length-i) 0 rfl (by rw[hT0]) (Nat.zero_le _) ?_
 intro i hi
 have hl':=ig i
 refine W1 ?_
 refine S0 (fun hb h=>?_) fun hb h=>?_
 ·have hi':i<l.length:=by omega
  have hz:=hlm _ (List.getElem_mem hi')
  have hs:=hTs i hi'
  have hg:=fun k=>uw l[i] k hz
  rw[Ua (b:=false) (.inl rfl)] at hs
  simp only[bH.aD,ay.aD,au.aD,List.cons_append,List.nil_append] at hs
  refine W3 ?_
  refine C1 (fJ l[i] 0 hz (by omega)) ?_
  refine W3 ?_
  refine C1 (fJ l[i] 1 hz (by omega)) ?_
  refine C1 (rA _ (hg 1)) ?_
  refine W3 ?_
  refine C1 (fJ l[i] 2 hz (by omega)) ?_
  refine C1 (DZ (l[i].ah.getD 2 dB) (hg 2)) ?_
  refine W3 ?_
  rw[hs]
  exact dh 5 (by decide) (i+1) (by omega) rfl rfl rfl rfl (by omega)
 ·have hi':i=l.length:=by omega
  subst hi'
  rw[hTe]
  clear hTs
  refine C1 (qy x (by omega)) ?_
  refine S0 (fun hb h=>?_) fun hb h=>?_
  ·exact gL (aF fun e=>by rw[e.1] at h;cases h)
  have hv:=h
  refine S0 (fun hb h=>?_) fun hb h=>?_
  ·exact gL (aF fun e=>by omega)
  have hne:x.ah≠[]:=fun e=>by rw[e] at h;exact h rfl
  have hok:=aec hne
  rw[hv,Bool.true_and] at hok
  rw[←hF] at hok hos hds
  refine W3 ?_
  refine C1 (aea F (by omega)) ?_
  refine C1 (sN (Tv F) x (by omega)) ?_
  refine S0 (fun hb h=>?_) fun hb h=>?_
  ·exact gL (by rw[hok];exact aF h)
  ·have hy:yu x=true:=by rw[hok];exact bA h
   rw[WG hy,hy,←aed hy,←hF]
   exact iF _
set_option maxHeartbeats 4000000 in
theorem Uc(x:aj)(n:Nat)(hsz:x.sz≤1048576)(hf:iI x=true∧7≤x.ah.length∧dM x.ah 0=kL):aI Tryz.prog 92 [x.v] (.dY [(true,(qE x).cl n (pI (qE x) n) (qI (qE x) n) (rI (qE x) n)),(false,[.d (.b (yu x))])]):=aI.of_le fun S=>by
 have h1:=eP x
 have hds:=NT true x
 obtain⟨F,hF⟩:∃F,F=zG true x:=⟨_,rfl⟩
 obtain⟨p,hp⟩:∃p,p=pI F n:=⟨_,rfl⟩
 obtain⟨q,hq⟩:∃q,q=qI F n:=⟨_,rfl⟩
 obtain⟨r,hr0⟩:∃r,r=rI F n:=⟨_,rfl⟩
 have gL:yu x=false→Less (.dY [(true,wz),(false,[.d (.b false)])]) (.dY [(true,(qE x).cl n (pI (qE x) n) (qI (qE x) n) (rI (qE x) n)),(false,[.d (.b (yu x))])]):=fun e=>by
  rw[e];exact abI _ (T9 e) n _ _ _ false
 have hvx:=tF hf.1
 have hfo:jJ x=true:=by have:=hf.1;unfold iI at this;rw[Bool.and_eq_true] at this;exact this.1
 have hlen:7≤x.ah.length:=hf.2.1
 have hr:=gT (l:=x.ah)
 have f1:F.bL=x.ah[1].bf:=by rw[hF];exact jA (by omega)
 have f2:F.aA=fq x.ah[2].ah:=by rw[hF,←jr (l:=x.ah) (i:=2) (by omega)];rfl
 have f3:F.bM=dO true x.ah[3]:=by rw[hF,←jr (l:=x.ah) (i:=3) (by omega)];rfl
 have f4:F.bn=x.ah[4].ah.map (nR true):=by rw[hF,←jr (l:=x.ah) (i:=4) (by omega)];rfl
 have f5:F.gy=decide ((0:Int)<(x.ah[5].ah.length:Int)):=by rw[hF,←jr (l:=x.ah) (i:=5) (by omega)];show decide (0<(x.ah.getD 5 dB).ah.length)=_;exact decide_eq_decide.2 (by show _↔((0:Int)<((x.ah.getD 5 dB).ah.length:Int));omega)
 obtain⟨z,Pz⟩:∃z,z=x.ah[6]:=⟨_,rfl⟩
 have f6:F.dW=decide (0<z.ah.length):=by rw[hF,Pz,←jr (l:=x.ah) (i:=6) (by omega)];rfl
 have f7:F.bK=if 0<z.ah.length then dO true (gX z.ah 0) else iV:=by rw[hF,Pz,←jr (l:=x.ah) (i:=6) (by omega)];rfl
 have hzs:=fun i hi=>wI x (i:=i) hi
 have hzz:=hzs 6 (by omega)
 subst Pz
 have c2:=qA x.ah[2] (by have:=hzs 2 (by omega);omega) n
 have c3:=qB x.ah[3] (n+1) (by have:=hzs 3 (by omega);omega)
 have c4:=Gi x.ah[4] p (p+1) (by have:=hzs 4 (by omega);omega)
 rw[←f2] at c2
 rw[←f3] at c3
 rw[←f4] at c4
 obtain⟨l,hl⟩:∃l,l=x.ah.drop 7:=⟨_,rfl⟩
 have hll:l.length≤4194304:=by rw[hl,List.length_drop];omega
 have hlm:∀y∈l,y.sz≤1048576∧jJ y=true:=fun y hy=>by
  have h2:=List.mem_of_mem_drop (hl▸hy)
  have:=iK h2
  exact⟨by omega,wu (Dr hfo (fun e=>by rw[e] at h2;cases h2)) h2⟩
 obtain⟨L,hL⟩:∃L:Nat→Nat,L=fun i=>r+1+iW (((l.map (rX true)).take i).map bH.enc):=⟨_,rfl⟩
 obtain⟨T,hT⟩:∃T:Nat→List (List D),T=fun i=>eB (((l.map (rX true)).take i).map bH.enc) (r+1):=⟨_,rfl⟩
 have hT0:T 0=[]:=by rw[hT];rfl
 have ig:∀i,(T i).length≤i:=fun i=>by rw[hT];simp only[jN,List.length_map];exact List.length_take_le _ _
 have hTr:∀i,∀r∈T i,r.length=11:=fun i=>by
  rw[hT]
  exact wB fun r hr=>by
   obtain⟨z,_,rfl⟩:=List.mem_map.1 hr
   exact z.dn
 have hTs:∀i (hi:i<l.length),T i++[eX (rX true l[i]).enc (L i)]=T (i+1):=fun i hi=>by
  have:=zZ (e:=bH.enc) (l:=l.map (rX true)) (i:=i) (by rw[List.length_map];exact hi) (r+1)
  rw[List.getElem_map] at this
  rw[hT,hL];exact this
 have hTe:T l.length=lMe F.aL (r+1):=by
  rw[hT];simp only
  rw[List.take_of_length_le (by simp),hF,hl];rfl
 clear hT hL
 by_cases hpos:0<x.ah[6].ah.length
 case' pos=>
  refine kC (n) (rs:=[.cell 2 113,.tmp 3]) Tryz.checked.mixed Tryz.func92 Tryz.ntmps92 rfl rfl rfl rfl rfl ?_
  refine W1 ?_
  refine aZ (uq x kL 7 (by omega) (by omega) (by omega)) ?_
  simp -implicitDefEqProofs (disch:=omega) only[go_sem,bA hf]
  refine W3 ?_
  refine aZ c2 ?_
  refine W1 ?_
  refine W3 ?_
  refine aZ c3 ?_
  refine W1 ?_
  refine W3 ?_
  refine aZ c4 ?_
  refine W1 ?_
  refine W3 ?_
  refine dU (fun hb=> ?_) (fun hb=> ?_)<;>have h:=hb<;>(try simp only[wf_preprocess] at h)<;>(first|(exfalso;omega)|skip)
  simp -implicitDefEqProofs (disch:=omega) only[go_sem,hb]
  refine W3 ?_
  rw[if_pos hpos,jr hpos] at f7
  have hz0:=wI x.ah[6] hpos
  have c7:=qB x.ah[6].ah[0] q (by omega)
  rw[←f7] at c7
  have Ub:F.dW=true:=f6.trans (decide_eq_true hpos)
  refine W3 ?_
  refine aZ c7 ?_
  refine W1 ?_
  refine⟨⟨by omega,by omega,hr⟩,?_⟩
  rw[oq _ _ _ (Nat.le_refl _),←hl,←f1,←f5]
  refine W1 ?_
  refine pq r 3 11 11 _ rfl rfl ?_
  refine nN (st':=[.seed n,.box [.d (.s x.bf),.d (.sl (x.ah.map aj.enc))],.box wz,.box [.d (.s F.bL),.d (.ol n (F.aA.map encS)),.d (.i .i64 F.bM.aK),.d (.s F.bM.fName),.d (.ol (n+1) (lt F.bM.fArgs (n+1+1))),.d (.ol p (lB F.bn (p+1))),.d (.b F.gy),.d (.b F.dW),.d (.i .i64 F.bK.aK),.d (.s F.bK.fName),.d (.ol q (lt F.bK.fArgs (q+1))),.bS (0,4) []],.fF r 11 []]::S) [1,2,5,54,55,56] [.c (.ptr (0,1) 0),.c (.ptr (0,2) 0),.c (.ptr (0,3) 0),.c (.d (.sl (l.map aj.enc))),.c (.d (.i .i64 l.length)),.c (.d (.i .i64 0))] ?_ ?_ ?_
  ·rfl
  ·rw[Ub];rfl
 case' neg=>
  refine kC (n) (rs:=[.cell 2 113,.tmp 3]) Tryz.checked.mixed Tryz.func92 Tryz.ntmps92 rfl rfl rfl rfl rfl ?_
  refine W1 ?_
  refine aZ (uq x kL 7 (by omega) (by omega) (by omega)) ?_
  simp -implicitDefEqProofs (disch:=omega) only[go_sem,bA hf]
  refine W3 ?_
  refine aZ c2 ?_
  refine W1 ?_
  refine W3 ?_
  refine aZ c3 ?_
  refine W1 ?_
  refine W3 ?_
  refine aZ c4 ?_
  refine W1 ?_
  refine W3 ?_
  refine dU (fun hb=> ?_) (fun hb=> ?_)<;>have h:=hb<;>(try simp only[wf_preprocess] at h)<;>(first|(exfalso;omega)|skip)
  simp -implicitDefEqProofs (disch:=omega) only[go_sem,hb]
  refine W3 ?_
  rw[if_neg hpos] at f7
  have Ub:F.dW=false:=f6.trans (decide_eq_false hpos)
  refine⟨⟨by omega,by omega,hr⟩,?_⟩
  rw[oq _ _ _ (Nat.le_refl _),←hl,←f1,←f5]
  refine W1 ?_
  refine FP 3 _ _ rfl (Dn (dX q) 10 _ rfl) ?_
  refine pq r 3 11 11 _ rfl rfl ?_
  refine nN (st':=[.seed n,.box [.d (.s x.bf),.d (.sl (x.ah.map aj.enc))],.box wz,.box [.d (.s F.bL),.d (.ol n (F.aA.map encS)),.d (.i .i64 F.bM.aK),.d (.s F.bM.fName),.d (.ol (n+1) (lt F.bM.fArgs (n+1+1))),.d (.ol p (lB F.bn (p+1))),.d (.b F.gy),.d (.b F.dW),.d (.i .i64 F.bK.aK),.d (.s F.bK.fName),.d (.ol q (lt F.bK.fArgs (q+1))),.bS (0,4) []],.fF r 11 []]::S) [1,2,5,54,55,56] [.c (.ptr (0,1) 0),.c (.ptr (0,2) 0),.c (.ptr (0,3) 0),.c (.d (.sl (l.map aj.enc))),.c (.d (.i .i64 l.length)),.c (.d (.i .i64 0))] ?_ ?_ ?_
  ·rfl
  ·rw[Ub,f7];rfl
 all_goals
  refine aT (ι:=Nat×List (List D)) Tryz.checked.mixed rfl [1,2,5,54,55,56] (fun y=>[.c (.ptr (0,1) 0),.c (.ptr (0,2) 0),.c (.ptr (0,3) 0),.c (.d (.sl (l.map aj.enc))),.c (.d (.i .i64 l.length)),.c (.d (.i .i64 y.1))])
   (fun y=>[.seed n,.box [.d (.s x.bf),.d (.sl (x.ah.map aj.enc))],.box wz,.box [.d (.s F.bL),.d (.ol n (F.aA.map encS)),.d (.i .i64 F.bM.aK),.d (.s F.bM.fName),.d (.ol (n+1) (lt F.bM.fArgs (n+1+1))),.d (.ol p (lB F.bn (p+1))),.d (.b F.gy),.d (.b F.dW),.d (.i .i64 F.bK.aK),.d (.s F.bK.fName),.d (.ol q (lt F.bK.fArgs (q+1))),.bS (0,4) y.2],.fF r 11 y.2]::S)
   (fun y=>y.1≤l.length∧iJ y.2 (T y.1)) (fun y=>l.length-y.1) (0,[]) rfl rfl ⟨Nat.zero_le _,by rw[hT0];exact .nil⟩ ?_
  rintro⟨i,U⟩ ⟨p1,p2⟩
  simp only at p1 p2
  have hU1:=p2.length
  have hU2:=ig i
  have hU3:=p2.rows (hTr i)
  refine W1 ?_
  refine S0 (fun hb h=>?_) fun hb h=>?_
  ·have hi':i<l.length:=by omega
   obtain⟨hz,hfy⟩:=hlm _ (List.getElem_mem hi')
   have hs:=hTs i hi'
   have hz1:=eP l[i]
   refine W3 ?_
   refine S0 (fun hb h=>?_) fun hb h=>?_
   ·have hl3:l[i].ah.length=3:=by omega
    have hd:=Ua (b:=true) (y:=l[i]) (.inr hl3)
    have g0:l[i].ah.getD 0 dB=l[i].ah[0]:=jr (by omega)
    have g1:l[i].ah.getD 1 dB=l[i].ah[1]:=jr (by omega)
    have g2:l[i].ah.getD 2 dB=l[i].ah[2]:=jr (by omega)
    rw[g0,g1,g2] at hd
    rw[hd,TY] at hs
    have hy1:=wI l[i] (i:=1) (by omega)
    have hy2:=wI l[i] (i:=2) (by omega)
    refine W3 ?_
    refine C1 (qA l[i].ah[1] (by omega) (L i)) ?_
    refine W3 ?_
    refine C1 (CP l[i].ah[2] (L i+1) (Oa hfy (by omega)) (by omega)) ?_
    refine W3 ?_
    refine dh 5 (by decide) (i+1,_) (by simp only;omega) rfl rfl rfl rfl ⟨by simp only;omega,?_⟩
    simp only
    rw[←hs]
    exact p2.snoc (.refl _)
   ·rw[abJ (by omega),TY] at hs
    refine dh 5 (by decide) (i+1,_) (by simp only;omega) rfl rfl rfl rfl ⟨by simp only;omega,?_⟩
    simp only
    rw[←hs]
    exact p2.snoc (.cons (.refl _) (.cons (nZ _) (.cons (.refl _) (.cons (.refl _) (.cons (.refl _) (.cons (.refl _) (.cons (.refl _) (.cons (.refl _) (.cons (nZ _) (.cons (nZ _) (.cons (nZ _) .nil)))))))))))
  ·have hi':i=l.length:=by omega
   subst hi'
   clear hTs
   rw[hTe] at p2
   have hcl:Less (.agg [.d (.s F.bL),.d (.ol n (F.aA.map encS)),.d (.i .i64 F.bM.aK),.d (.s F.bM.fName),.d (.ol (n+1) (lt F.bM.fArgs (n+1+1))),.d (.ol p (lB F.bn (p+1))),.d (.b F.gy),.d (.b F.dW),.d (.i .i64 F.bK.aK),.d (.s F.bK.fName),.d (.ol q (lt F.bK.fArgs (q+1))),.d (.sl U)]) F.v:=by
    have lab:∀(es:List (List D)) (k j:Nat),oF (.d (.ol k (eB es j))) (.d (.sl es)):=fun es k j w σ S β v h=>(pz es j).rep (sP h)
    exact(fQ.cons (.refl _) (.cons (EF _ _) (.cons (.refl _) (.cons (.refl _) (.cons (lab _ _ _) (.cons (lab _ _ _) (.cons (.refl _) (.cons (.refl _) (.cons (.refl _) (.cons (.refl _) (.cons (lab _ _ _) (.cons (uU (p2.trans (pz _ _))) .nil)))))))))))).less
   rw[←hF] at hds
   refine nK (CG F (by omega)) (.cons hcl .nil) ?_
   refine W1 ?_
   refine S0 (fun hb h=>?_) fun hb h=>?_
   ·exact gL (aF fun e=>by rw[←hF] at e;rw[e.2.2.1] at h;cases h)
   have hv:=h
   have hz:=H8 hv
   refine W3 ?_
   refine nK (aI.less (Tz F 0 hv (by omega)) (IU (wL F) 0)) (.cons hcl .nil) ?_
   refine W1 ?_
   refine C1 (sO (wL F) x (by omega)) ?_
   refine S0 (fun hb h=>?_) fun hb h=>?_
   ·exact gL (aF fun e=>h (by rw[←hF] at e;exact e.2.2.2))
   ·have hy:yu x=true:=by
     unfold yu
     rw[←hF]
     exact bA ⟨hf.1,hf.2,hv,h⟩
    rw[WG hy,hy,←hF,←hp,←hq,←hr0]
    exact(jd.cons (.cons (.refl _) (.cons (.refl _) (.cons (.refl _) (.cons (.refl _) (.cons (.refl _) (.cons (.refl _) (.cons (.refl _) (.cons (.refl _) (.cons (.refl _) (.cons (.refl _) (.cons (.refl _) (.cons (FV p2) .nil)))))))))))) (.refl _)).less
theorem Ud(x:aj)(n:Nat)(hsz:x.sz≤1048576):aI Tryz.prog 92 [x.v] (.dY [(true,(qE x).cl n (pI (qE x) n) (qI (qE x) n) (rI (qE x) n)),(false,[.d (.b (yu x))])]):=by
 by_cases hf:iI x=true∧7≤x.ah.length∧dM x.ah 0=kL
 ·exact Uc x n hsz hf
 ·refine aI.of_le fun S=> ?_
  have gL:yu x=false→Less (.dY [(true,wz),(false,[.d (.b false)])]) (.dY [(true,(qE x).cl n (pI (qE x) n) (qI (qE x) n) (rI (qE x) n)),(false,[.d (.b (yu x))])]):=fun e=>by
   rw[e];exact abI _ (T9 e) n _ _ _ false
  refine aG (rs:=[.cell 2 113,.tmp 3]) Tryz.checked.mixed Tryz.func92 Tryz.ntmps92 rfl rfl rfl rfl rfl ?_
  refine W1 ?_
  refine C1 (uq x kL 7 (by omega) (by omega) (by omega)) ?_
  refine S0 (fun hb h=>?_) fun hb h=>?_
  ·exact gL (aF fun e=>hf ⟨e.1,e.2.1.1,e.2.1.2⟩)
  ·exact absurd h hf
end Go.Proofs.YtocpgjlbagncjaaGreatDoor
namespace Go.Ab
theorem ah9(p:bB):yQ [p]=gN p:=by simp[yQ]
theorem aia(p:bB):yR [p]=jc p:=by simp[yR]
theorem aib(p:bB):yS [p]=iB p.aX:=by simp[yS]
theorem aic(p:bB):yT [p]=fnNames p:=by simp[yT]
end Go.Ab
namespace Go.Proofs.YtocpgjlbagncjaaGreatDoor
open Go Go.Ab
set_option maxHeartbeats 2000000 in
theorem MV(p:bB)(hsz:p.sz≤4194304):aI Tryz.prog 33 [p.v] (.c (.d (.b (validPkg p)))):=fun S=>by
 have hs:=bB.sum p
 have hb:=bB.bounds hsz
 have hV:∀s∈p.fU,s.length≤4194304:=fun s h=>by have:=rU h;omega
 have l1:(gN p).length≤1073741824:=by simp[gN];omega
 have l2:(jc p).length≤1073741824:=by simp[jc];omega
 have l3:(iB p.aX).length≤1073741824:=by omega
 have l4:(fnNames p).length≤1073741824:=by simp[fnNames];omega
 refine aG (rs:=[.tmp 2]) Tryz.checked.mixed Tryz.func33 Tryz.ntmps33 rfl rfl rfl rfl rfl ?_
 refine W1 ?_
 refine C1 (Vq p hsz) ?_
 repeat' (first
  |refine S0 (fun hb h=>?_) fun hb h=>?_
  |((with_reducible show fE _ _ 84 _ _ _ _);refine aZ (iE p.fName (by omega)) ?_;refine W1 ?_)
  |((with_reducible show fE _ _ 85 _ _ _ _);refine aZ (mD p.fU 5 (by omega) hV) ?_;refine W1 ?_)
  |((with_reducible show fE _ _ 86 _ _ _ _);refine aZ (qZ p.fU p.fName (by omega)) ?_;refine W1 ?_)
  |((with_reducible show fE _ _ 87 _ _ _ _);refine aZ (qm (gN p) l1) ?_;refine W1 ?_)
  |((with_reducible show fE _ _ 87 _ _ _ _);refine aZ (qm (jc p) l2) ?_;refine W1 ?_)
  |((with_reducible show fE _ _ 87 _ _ _ _);refine aZ (qm (iB p.aX) l3) ?_;refine W1 ?_)
  |((with_reducible show fE _ _ 87 _ _ _ _);refine aZ (qm (fnNames p) l4) ?_;refine W1 ?_)
  |((with_reducible show fE _ _ 88 _ _ _ _);refine aZ (Vs p hsz) ?_;refine W1 ?_)
  |(refine aB ?_;unfold validPkg uT nE;rw[ah9,aia,aib,aic];grind [gH,jM,bA,aF]))
end Go.Proofs.YtocpgjlbagncjaaGreatDoor
namespace Go.Ab
noncomputable def Du(y:aj):List (List D):=if isK jV y=true then [(um y).enc] else []
noncomputable def Dv(y:aj):List (List D):=if isK nP y=true then [(qQ y).enc] else []
noncomputable def Dw(y:aj):List (List D):=if isK kL y=true then [(qE y).enc] else []
noncomputable def addFn(y:aj):List (List D):=if isK wK y=true then [(uI y).enc] else []
theorem uK{s s':List UInt8}{y:aj}(h:isK s y=true)(hs:s≠s')(r:List (List D)):(if isK s' y=true then r else [])=[]:=if_neg (by rw[mY h hs];decide)
def WH(bx br:List C)(nm dp:D)(a b c d:List (List D)):List Obj:=[.box bx,.box br,.box [.d nm,.d dp,.bS (0,3) a,.bS (0,4) b,.bS (0,5) c,.bS (0,6) d],.tok 5 a,.tok 3 b,.tok 12 c,.tok 16 d]
theorem aeu{l:List aj}{i:Nat}(hi:i<l.length):(FQ (l.take (i+1))).map bC.enc=(FQ (l.take i)).map bC.enc++Du l[i]:=by
 unfold FQ Du;rw[CO _ _ hi,List.map_append];split<;>rfl
theorem aev{l:List aj}{i:Nat}(hi:i<l.length):(FR (l.take (i+1))).map aS.enc=(FR (l.take i)).map aS.enc++Dv l[i]:=by
 unfold FR Dv;rw[CO _ _ hi,List.map_append];split<;>rfl
theorem aew{l:List aj}{i:Nat}(hi:i<l.length):(FT (l.take (i+1))).map aQ.enc=(FT (l.take i)).map aQ.enc++Dw l[i]:=by
 unfold FT Dw;rw[CO _ _ hi,List.map_append];split<;>rfl
theorem aex{l:List aj}{i:Nat}(hi:i<l.length):(FU (l.take (i+1))).map aY.enc=(FU (l.take i)).map aY.enc++addFn l[i]:=by
 unfold FU addFn;rw[CO _ _ hi,List.map_append];split<;>rfl
theorem abK(l:List aj)(i:Nat):((FQ (l.take i)).map bC.enc).length≤i∧((FR (l.take i)).map aS.enc).length≤i∧((FT (l.take i)).map aQ.enc).length≤i∧((FU (l.take i)).map aY.enc).length≤i:=by
 have h:=fun {α:Type} s (f:aj→α)=>Wt s f l i
 simp only[List.length_map,FQ,FR,FT,FU] at *
 exact⟨h _ id,h _ id,h _ id,h _ id⟩
def xg:List C:=[.d (.s []),.bO [],.bO [],.bO [],.bO [],.bO []]
def bB.cv(p:bB):List C:=[.d (.s p.fName),.d (.sl (p.fU.map encS)),.d (.sl (p.dz.map bC.enc)),.d (.sl (p.aX.map aS.enc)),.d (.sl (p.dx.map aQ.enc)),.d (.sl (p.cZ.map aY.enc))]
theorem alD(e:bB)(h:e=MP)(ok:Bool):Less (.dY [(true,xg),(false,[.d (.b ok)])]) (.dY [(true,e.cv),(false,[.d (.b ok)])]):=by
 subst h
 exact(jd.cons (.cons (.refl _) (.cons (fP _) (.cons (fP _) (.cons (fP _) (.cons (fP _) (.cons (fP _) .nil)))))) (.refl _)).less
end Go.Ab
namespace Go.Proofs.YtocpgjlbagncjaaGreatDoor
open Go Go.Ab
theorem VG(y:aj)(hsz:y.sz≤1048576)(bx br:List C)(nm dp:D)(a b c d:List (List D))(Ω:Store)(ha:a.length≤1048576)(hb:b.length≤1048576)(hc:c.length≤1048576)(hd:d.length≤1048576):
 cB Tryz.prog 32 [.c (.ptr (0,2) 0),y.v] (WH bx br nm dp a b c d::Ω) (fun r S'=>r=.c (.d (.b (jD y)))∧S'=WH bx br nm dp (a++Du y) (b++Dv y) (c++Dw y) (d++addFn y)::Ω):=by
 unfold WH
 refine aG (rs:=[.tmp 4]) Tryz.checked.mixed Tryz.func32 Tryz.ntmps32 rfl rfl rfl rfl rfl ?_
 refine W1 ?_
 refine C1 (fJ y 0 (by omega) (by omega)) ?_
 have hk:∀s,isK s y=decide ((y.ah.getD 0 dB).bf=s):=fun s=>rfl
 refine S0 (fun hb h=>?_) fun hb h=>?_
 ·have h1:isK jV y=true:=by rw[hk];exact hb
  refine C1 (TW y (by omega)) ?_
  refine W3 ?_
  have e0:jD y=wP y:=if_pos h1
  have e1:Du y=[(um y).enc]:=if_pos h1
  have e2:Dv y=[]:=uK h1 (by decide) _
  have e3:Dw y=[]:=uK h1 (by decide) _
  have e4:addFn y=[]:=uK h1 (by decide) _
  rw[e0,e1,e2,e3,e4]
  exact Z1
  (repeat(with_reducible refine And.intro ?_ ?_;focus first|omega|rfl|assumption|exact⟨_,rfl,rfl⟩|(simp;omega)|(simp;done)))
 have n1:isK jV y=false:=by rw[hk];exact hb
 refine S0 (fun hb h=>?_) fun hb h=>?_
 ·have h1:isK nP y=true:=by rw[hk];exact hb
  refine C1 (N8 y (by omega)) ?_
  refine W3 ?_
  have e0:jD y=okD y:=by unfold jD;simp only[n1,h1,if_false,if_true,Bool.false_eq_true]
  have e1:Du y=[]:=uK h1 (by decide) _
  have e2:Dv y=[(qQ y).enc]:=if_pos h1
  have e3:Dw y=[]:=uK h1 (by decide) _
  have e4:addFn y=[]:=uK h1 (by decide) _
  rw[e0,e1,e2,e3,e4]
  exact Z1
  (repeat(with_reducible refine And.intro ?_ ?_;focus first|omega|rfl|assumption|exact⟨_,rfl,rfl⟩|(simp;omega)|(simp;done)))
 have n2:isK nP y=false:=by rw[hk];exact hb
 refine S0 (fun hb h=>?_) fun hb h=>?_
 ·have h1:isK kL y=true:=by rw[hk];exact hb
  refine C1 (VF y (by omega)) ?_
  refine W3 ?_
  have e0:jD y=yu y:=by unfold jD;simp only[n1,n2,h1,if_false,if_true,Bool.false_eq_true]
  have e1:Du y=[]:=uK h1 (by decide) _
  have e2:Dv y=[]:=uK h1 (by decide) _
  have e3:Dw y=[(qE y).enc]:=if_pos h1
  have e4:addFn y=[]:=uK h1 (by decide) _
  rw[e0,e1,e2,e3,e4]
  exact Z1
  (repeat(with_reducible refine And.intro ?_ ?_;focus first|omega|rfl|assumption|exact⟨_,rfl,rfl⟩|(simp;omega)|(simp;done)))
 have n3:isK kL y=false:=by rw[hk];exact hb
 refine S0 (fun hb h=>?_) fun hb h=>?_
 ·have h1:isK wK y=true:=by rw[hk];exact hb
  refine C1 (TQ y (by omega)) ?_
  refine W3 ?_
  have e0:jD y=okF y:=by unfold jD;simp only[n1,n2,n3,h1,if_false,if_true,Bool.false_eq_true]
  have e1:Du y=[]:=uK h1 (by decide) _
  have e2:Dv y=[]:=uK h1 (by decide) _
  have e3:Dw y=[]:=uK h1 (by decide) _
  have e4:addFn y=[(uI y).enc]:=if_pos h1
  rw[e0,e1,e2,e3,e4]
  exact Z1
  (repeat(with_reducible refine And.intro ?_ ?_;focus first|omega|rfl|assumption|exact⟨_,rfl,rfl⟩|(simp;omega)|(simp;done)))
 have n4:isK wK y=false:=by rw[hk];exact hb
 unfold jD Du Dv Dw addFn
 simp only[n1,n2,n3,n4,if_false,Bool.false_eq_true,List.append_nil]
 exact⟨trivial,trivial⟩
theorem VH(x:aj)(hsz:x.sz≤1048576):aI Tryz.prog 8 [x.v] (.dY [(true,(Ig x).cv),(false,[.d (.b (Dp x))])]):=aI.of_le fun S=>by
 have h1:=eP x
 obtain⟨l,hl⟩:∃l,l=x.ah.drop 3:=⟨_,rfl⟩
 have hll:l.length≤1048576:=by rw[hl,List.length_drop];omega
 have hlen:l.length=x.ah.length-3:=by rw[hl,List.length_drop]
 have hlm:∀y∈l,y.sz≤1048576:=fun y hy=>by
  have:=iK (List.mem_of_mem_drop (hl▸hy));omega
 have gL:Dp x=false→Less (.dY [(true,xg),(false,[.d (.b false)])]) (.dY [(true,(Ig x).cv),(false,[.d (.b (Dp x))])]):=fun e=>by
  rw[e];exact alD _ (abr e) false
 have hnm:((x.ah.getD 2 dB).ah).length≤1073741824:=by
  have:=N7 x 2 (Nat.le_refl _)
  have:=eP (x.ah.getD 2 dB)
  omega
 refine aG (rs:=[.cell 2 32,.tmp 3]) Tryz.checked.mixed Tryz.func8 Tryz.ntmps8 rfl rfl rfl rfl rfl ?_
 refine W1 ?_
 refine C1 (fJ x 2 (by omega) (by omega)) ?_
 refine C1 (CK _ hnm) ?_
 refine C1 (fJ x 1 (by omega) (by omega)) ?_
 refine C1 (qy x (by omega)) ?_
 refine S0 (fun hb h=>?_) fun hb h=>?_
 ·exact gL (aF fun e=>by rw[e.1.1] at h;cases h)
 have hv:=h
 refine S0 (fun hb h=>?_) fun hb h=>?_
 ·exact gL (aF fun e=>by have:=e.1.2.1;omega)
 have h3:3≤x.ah.length:=by omega
 refine W3 ?_
 have a0:x.ah[0].bf=dM x.ah 0:=(jA (by omega)).symm
 have g2:x.ah[2]=gX x.ah 2:=(jr (by omega)).symm
 refine S0 (fun hb h=>?_) fun hb h=>?_
 ·exact gL (aF fun e=>h (a0.trans e.1.2.2.1))
 have hw:dM x.ah 0=ael:=by rw[←a0];exact h
 refine W3 ?_
 refine S0 (fun hb h=>?_) fun hb h=>?_
 ·exact gL (aF fun e=>h (by rw[g2];exact e.1.2.2.2.1))
 have hz2:(gX x.ah 2).bf=[]:=by rw[←g2];exact h
 refine S0 (fun hb h=>?_) fun hb h=>?_
 ·exact gL (aF fun e=>by have:=e.1.2.2.2.2;unfold allA at h;rw[show(x.ah.getD 2 dB)=gX x.ah 2 from rfl,this] at h;cases h)
 have hall:(gX x.ah 2).ah.all (fun y=>decide (y.bf≠[]))=true:=h
 have hhead:QE x:=⟨hv,h3,hw,hz2,hall⟩
 have hvs:=tF hv
 refine qV 2 2 5 _ rfl rfl ?_
 refine qV 2 3 3 _ rfl rfl ?_
 refine qV 2 4 12 _ rfl rfl ?_
 refine qV 2 5 16 _ rfl rfl ?_
 refine aT (ι:=Nat) Tryz.checked.mixed rfl [1,2,6,7] (fun i=>[.c (.ptr (0,0) 0),.c (.ptr (0,1) 0),.c (.ptr (0,2) 0),.c (.d (.i .i64 (i+3:Nat)))])
  (fun i=>WH [.d (.s x.bf),.d (.sl (x.ah.map aj.enc))] xg (.s (x.ah.getD 1 dB).bf) (.sl ((fq (x.ah.getD 2 dB).ah).map encS)) ((FQ (l.take i)).map bC.enc) ((FR (l.take i)).map aS.enc) ((FT (l.take i)).map aQ.enc) ((FU (l.take i)).map aY.enc)::S)
  (fun i=>i≤l.length∧∀j,∀hj:j<l.length,j<i→jD l[j]=true) (fun i=>l.length-i) 0 rfl rfl ⟨Nat.zero_le _,fun j _ h=>by omega⟩ ?_
 rintro i ⟨p1,p2⟩
 obtain⟨t1,t2,t3,t4⟩:=abK l i
 simp -implicitDefEqProofs (disch:=omega) only[go_sem,WH]
 refine S0 (fun hb h=>?_) fun hb h=>?_
 ·have hi:i<l.length:=by omega
  have hm:=List.getElem_mem hi
  have hz:=hlm _ hm
  have hg:x.ah[i+3]'(by omega)=l[i]:=by
   simp only[hl,List.getElem_drop]
   congr 1;omega
  refine W3 ?_
  simp only[hg]
  have hc:=VG l[i] hz [.d (.s x.bf),.d (.sl (x.ah.map aj.enc))] xg (.s (x.ah.getD 1 dB).bf) (.sl ((fq (x.ah.getD 2 dB).ah).map encS)) _ _ _ _ S (Nat.le_trans t1 (by omega)) (Nat.le_trans t2 (by omega)) (Nat.le_trans t3 (by omega)) (Nat.le_trans t4 (by omega))
  rw[←aeu hi,←aev hi,←aew hi,←aex hi] at hc
  refine bJ rfl hc ?_
  simp -implicitDefEqProofs (disch:=omega) only[go_sem,WH]
  refine S0 (fun hb h=>?_) fun hb h=>?_
  ·exact⟨by decide,gL (aF fun e=>by have:=e.2.1 l[i] (by rw[←hl];exact hm);rw[this] at h;cases h)⟩
  ·refine bP (i+1) (by omega) rfl rfl ⟨by omega,fun j hj hji=> ?_⟩
   by_cases e:j=i
   ·subst e;exact h
   ·exact p2 j hj (by omega)
 ·have hi:i=l.length:=by omega
  subst hi
  rw[List.take_length,hl]
  refine C1 (MV (decP x) (Wv (by omega))) ?_
  have hits:∀y∈x.ah.drop 3,jD y=true:=fun y hy=>by
   rw[←hl] at hy
   obtain⟨j,hj,rfl⟩:=List.mem_iff_getElem.1 hy
   exact p2 j hj hj
  refine S0 (fun hb h=>?_) fun hb h=>?_
  ·exact⟨by decide,gL (aF fun e=>by rw[e.2.2] at h;cases h)⟩
  ·have hy:Dp x=true:=bA ⟨hhead,hits,h⟩
   rw[Ws hy,hy]
   exact⟨by decide,iF _⟩
end Go.Proofs.YtocpgjlbagncjaaGreatDoor
namespace Go.Ab
def oG(b:Bool)(r:List D)(n:Nat):List (List D):=if b=true then [eX r n] else []
def D5(n:Nat)(bx br:List C)(nm dp:D)(n1 n2 n3 n4:Nat)(a b c d:List (List D))(mo:List Obj):List Obj:=.seed n:: .box bx:: .box br:: .box [.d nm,.d dp,.bS (0,4) a,.bS (0,5) b,.bS (0,6) c,.bS (0,7) d]:: .fF n1 5 a:: .fF n2 3 b:: .fF n3 12 c:: .fF n4 16 d::mo
def WI:C→D
 | .d x=>x
 |_=>.s []
theorem agL{r:List D}{cs:List C}(h:r.map C.d=cs):r=cs.map WI:=by
 subst h
 rw[List.map_map]
 exact(List.map_id r).symm
theorem Bz{b:Bool}{r:List D}{n:Nat}{cs:List C}(h:b=true)(hc:(eX r n).map C.d=cs):oG b r n=[cs.map WI]:=by
 unfold oG
 rw[if_pos h,agL hc]
theorem je{b:Bool}{r:List D}{n:Nat}(h:b=false):oG b r n=[]:=by
 unfold oG
 rw[if_neg (by rw[h];decide)]
theorem agM(x:aS)(n:Nat):(eX x.enc n).map C.d=[.d (.s x.fName),.d (.ol n (x.aA.map encS)),.d (.ol (n+1) (lc x.aH (n+1+1)))]:=by rw[agB];rfl
def Dx(p:bB)(n:Nat):Nat:=n+1+(iW (p.dz.map bC.enc)+1)
def Dy(p:bB)(n:Nat):Nat:=Dx p n+(iW (p.aX.map aS.enc)+1)
def EJ(p:bB)(n:Nat):Nat:=Dy p n+(iW (p.dx.map aQ.enc)+1)
theorem Ue(p:bB)(n:Nat):eX p.enc n=[.s p.fName,.ol n (p.fU.map encS),.ol (n+1) (eB (p.dz.map bC.enc) (n+1+1)),.ol (Dx p n) (eB (p.aX.map aS.enc) (Dx p n+1)),.ol (Dy p n) (eB (p.dx.map aQ.enc) (Dy p n+1)),.ol (EJ p n) (eB (p.cZ.map aY.enc) (EJ p n+1))]:=by
 simp only[bB.aD,eX,lI,ow,Nat.add_zero,uh,wo,Nat.zero_add,Dx,Dy,EJ]
theorem Dz{α:Type}(s:List UInt8)(f:aj→α)(e:α→List D){l:List aj}{i:Nat}(hi:i<l.length)(n:Nat):
 eB ((((l.take (i+1)).filter (isK s)).map f).map e) n=eB ((((l.take i).filter (isK s)).map f).map e) n++oG (isK s l[i]) (e (f l[i])) (n+iW ((((l.take i).filter (isK s)).map f).map e)):=by
 rw[CO _ _ hi,List.map_append,pO]
 congr 1
 unfold oG
 split<;>rfl
theorem FW{α:Type}(s:List UInt8)(f:aj→α)(e:α→List D)(l:List aj)(i n:Nat):(eB ((((l.take i).filter (isK s)).map f).map e) n).length≤i:=by
 rw[jN,List.length_map];exact Wt s f l i
theorem aie(e:bB)(h:e=MP)(n:Nat)(ok:Bool):Less (.dY [(true,xg),(false,[.d (.b ok)])]) (.dY [(true,(eX e.enc n).map .d),(false,[.d (.b ok)])]):=by
 subst h
 rw[Ue]
 exact(jd.cons (.cons (.refl _) (.cons (dX _) (.cons (dX _) (.cons (dX _) (.cons (dX _) (.cons (dX _) .nil)))))) (.refl _)).less
end Go.Ab
namespace Go.Proofs.YtocpgjlbagncjaaGreatDoor
open Go Go.Ab
theorem VI(y:aj)(hsz:y.sz≤1048576)(n:Nat)(bx br:List C)(nm dp:D)(n1 n2 n3 n4:Nat)(q1 q2 q3 q4:Nat)(a b c d:List (List D))(mo:List Ab.Obj)(Ω:Store)(ha:a.length≤1048576)(hb:b.length≤1048576)(hc:c.length≤1048576)(hd:d.length≤1048576):
 cB Tryz.prog 37 [.c (.ptr (0,3) 0),y.v] (D5 n bx br nm dp n1 n2 n3 n4 a b c d mo::Ω) (fun r S'=>r=.c (.d (.b (jD y)))∧S'=D5 n bx br nm dp n1 n2 n3 n4 (a++oG (isK jV y) (um y).enc q1) (b++oG (isK nP y) (qQ y).enc q2) (c++oG (isK kL y) (qE y).enc q3) (d++oG (isK wK y) (uI y).enc q4) mo::Ω):=by
 have hg:∀h0:0<y.ah.length,y.ah[0].bf=dM y.ah 0:=fun h0=>(jA h0).symm
 obtain⟨A,hA'⟩:∃A,A=oG (isK jV y) (um y).enc q1:=⟨_,rfl⟩
 obtain⟨B,hB'⟩:∃A,A=oG (isK nP y) (qQ y).enc q2:=⟨_,rfl⟩
 obtain⟨C,hC'⟩:∃A,A=oG (isK kL y) (qE y).enc q3:=⟨_,rfl⟩
 obtain⟨D,hD'⟩:∃A,A=oG (isK wK y) (uI y).enc q4:=⟨_,rfl⟩
 rw[←hA',←hB',←hC',←hD']
 have MW:∀{s},dM y.ah 0=s→isK s y=true:=fun h=>decide_eq_true h
 have Il:∀{s},¬dM y.ah 0=s→isK s y=false:=fun h=>decide_eq_false h
 unfold D5
 refine aG (rs:=[.tmp 4]) Tryz.checked.mixed Tryz.func37 Tryz.ntmps37 rfl rfl rfl rfl rfl ?_
 refine W1 ?_
 refine S0 (fun hb h=>?_) fun hb h=>?_
 ·have h0:y.ah=[]:=List.eq_nil_of_length_eq_zero (by omega)
  have hn:∀s,s≠[]→isK s y=false:=fun s hs=>Il (by rw[h0];exact fun e=>hs e.symm)
  have m1:=hn jV (by decide)
  have m2:=hn nP (by decide)
  have m3:=hn kL (by decide)
  have m4:=hn wK (by decide)
  have e0:jD y=false:=by unfold jD;simp only[m1,m2,m3,m4,if_false,Bool.false_eq_true]
  rw[e0,hA',hB',hC',hD',je m1,je m2,je m3,je m4]
  simp only[List.append_nil]
  exact⟨trivial,trivial⟩
 have h0:0<y.ah.length:=by omega
 refine W3 ?_
 simp only[hg h0]
 refine S0 (fun hb h=>?_) fun hb h=>?_
 ·have k1:isK jV y=true:=MW h
  have e0:jD y=wP y:=by unfold jD;simp only[k1,if_false,if_true,Bool.false_eq_true]
  have hA:=(hA').trans (Bz k1 (TR _ _))
  simp only[List.map_cons,List.map_nil,WI] at hA
  have hB:=(hB').trans (je (mY k1 (by decide)))
  have hC:=(hC').trans (je (mY k1 (by decide)))
  have hD:=(hD').trans (je (mY k1 (by decide)))
  rw[e0,hA,hB,hC,hD]
  refine C1 (Qk y q1 hsz) ?_
  refine W3 ?_
  omega
 have m1:isK jV y=false:=Il h
 refine S0 (fun hb h=>?_) fun hb h=>?_
 ·have k1:isK nP y=true:=MW h
  have e0:jD y=okD y:=by unfold jD;simp only[m1,k1,if_false,if_true,Bool.false_eq_true]
  have hA:=(hA').trans (je (mY k1 (by decide)))
  have hB:=(hB').trans (Bz k1 (agM _ _))
  simp only[List.map_cons,List.map_nil,WI] at hB
  have hC:=(hC').trans (je (mY k1 (by decide)))
  have hD:=(hD').trans (je (mY k1 (by decide)))
  rw[e0,hA,hB,hC,hD]
  refine C1 (MQ y q2 hsz) ?_
  refine W3 ?_
  omega
 have m2:isK nP y=false:=Il h
 refine S0 (fun hb h=>?_) fun hb h=>?_
 ·have k1:isK kL y=true:=MW h
  have e0:jD y=yu y:=by unfold jD;simp only[m1,m2,k1,if_false,if_true,Bool.false_eq_true]
  have hA:=(hA').trans (je (mY k1 (by decide)))
  have hB:=(hB').trans (je (mY k1 (by decide)))
  have hC:=(hC').trans (Bz k1 (agK _ _))
  simp only[List.map_cons,List.map_nil,WI] at hC
  have hD:=(hD').trans (je (mY k1 (by decide)))
  rw[e0,hA,hB,hC,hD]
  refine C1 (Ud y q3 hsz) ?_
  refine W3 ?_
  omega
 have m3:isK kL y=false:=Il h
 refine S0 (fun hb h=>?_) fun hb h=>?_
 ·have k1:isK wK y=true:=MW h
  have e0:jD y=okF y:=by unfold jD;simp only[m1,m2,m3,k1,if_false,if_true,Bool.false_eq_true]
  have hA:=(hA').trans (je (mY k1 (by decide)))
  have hB:=(hB').trans (je (mY k1 (by decide)))
  have hC:=(hC').trans (je (mY k1 (by decide)))
  have hD:=(hD').trans (Bz k1 (agI _ _))
  simp only[List.map_cons,List.map_nil,WI] at hD
  rw[e0,hA,hB,hC,hD]
  refine C1 (Qj y q4 hsz) ?_
  refine W3 ?_
  omega
 have m4:isK wK y=false:=Il h
 have e0:jD y=false:=by unfold jD;simp only[m1,m2,m3,m4,if_false,Bool.false_eq_true]
 rw[e0,hA',hB',hC',hD',je m1,je m2,je m3,je m4]
 simp only[List.append_nil]
 exact⟨trivial,trivial⟩
end Go.Proofs.YtocpgjlbagncjaaGreatDoor
namespace Go.Ab
theorem aey{x:aj}(h:x.sz≤11700):(decP x).sz≤1048576:=by
 have h1:=SQ x.ah 3
 have h2:=eP x
 have h3:(x.ah.drop 3).length≤x.ah.length:=by rw[List.length_drop];omega
 have h4:=qP (gX x.ah 2).ah
 have h5:(gX x.ah 2).sz≤dQ x.ah:=wm x.ah 2
 have h5':=pY (gX x.ah 2)
 have h6:(dM x.ah 1).length≤dQ x.ah:=Nat.le_trans (zK _) (wm x.ah 1)
 have t1:=yV jV um bC.enc Wu (x.ah.drop 3)
 have t2:=yV nP qQ aS.enc abt (x.ah.drop 3)
 have t3:=yV kL qE aQ.enc abu (x.ah.drop 3)
 have t4:=yV wK uI aY.enc abv (x.ah.drop 3)
 have t5:=eP (gX x.ah 2)
 simp only[bB.sz,bB.aD,cu,bN,D.sz,List.length_map,decP,FQ,FR,FT,FU,nY,dN] at *
 omega
theorem aif(x:aj):(Ig x).sz≤1048576:=by
 unfold Ig
 split
 ·rename_i h
  have h2:QE x:=(gH h).1
  exact aey (tF h2.1)
 ·simp[MP,bB.sz,bB.aD,cu,D.sz,bD]
end Go.Ab
namespace Go.Proofs.YtocpgjlbagncjaaGreatDoor
open Go Go.Ab
theorem Uf(x:aj)(n:Nat)(hsz:x.sz≤1048576):aI Tryz.prog 10 [x.v] (.dY [(true,(eX (Ig x).enc n).map .d),(false,[.d (.b (Dp x))])]):=aI.of_le fun S=>by
 have h1:=eP x
 obtain⟨l,hl⟩:∃l,l=x.ah.drop 3:=⟨_,rfl⟩
 have hll:l.length≤1048576:=by rw[hl,List.length_drop];omega
 have hlen:l.length=x.ah.length-3:=by rw[hl,List.length_drop]
 have hlm:∀y∈l,y.sz≤1048576:=fun y hy=>by
  have:=iK (List.mem_of_mem_drop (hl▸hy));omega
 have gL:Dp x=false→Less (.dY [(true,xg),(false,[.d (.b false)])]) (.dY [(true,(eX (Ig x).enc n).map .d),(false,[.d (.b (Dp x))])]):=fun e=>by
  rw[e];exact aie _ (abr e) n false
 refine kC (n) (rs:=[.cell 2 32,.tmp 3]) Tryz.checked.mixed Tryz.func10 Tryz.ntmps10 rfl rfl rfl rfl rfl ?_
 refine W1 ?_
 refine C1 (uq x ael 3 (by omega) (by omega) (by omega)) ?_
 refine S0 (fun hb h=>?_) fun hb h=>?_
 ·exact gL (aF fun e=>h ⟨e.1.1,e.1.2.1,e.1.2.2.1⟩)
 have hf:=h
 have h3:3≤x.ah.length:=hf.2.1
 refine W3 ?_
 have g2:x.ah[2]=gX x.ah 2:=(jr (by omega)).symm
 have a1:x.ah[1].bf=dM x.ah 1:=(jA (by omega)).symm
 simp only[g2]
 refine S0 (fun hb h=>?_) fun hb h=>?_
 ·exact gL (aF fun e=>h e.1.2.2.2.1)
 have hz2:=h
 refine W3 ?_
 have hvs:=tF hf.1
 obtain⟨F,hF⟩:∃F,F=decP x:=⟨_,rfl⟩
 have hnm:(gX x.ah 2).ah.length≤1073741824:=by
  have:=wm x.ah 2
  have:=eP (gX x.ah 2)
  have:(gX x.ah 2).sz≤dQ x.ah:=wm x.ah 2
  omega
 have hc:=yU (gX x.ah 2).ah hnm n
 rw[←g2] at hc
 refine aZ hc ?_
 refine W1 ?_
 refine W3 ?_
 refine⟨⟨by omega,by omega,gT⟩,?_⟩
 rw[oq _ _ _ (Nat.le_refl _),←hl]
 refine W1 ?_
 refine pq (n+1) 3 2 5 _ rfl rfl ?_
 refine pq (Dx F n) 3 3 3 _ rfl rfl ?_
 refine pq (Dy F n) 3 4 12 _ rfl rfl ?_
 refine pq (EJ F n) 3 5 16 _ rfl rfl ?_
 obtain⟨T1,hT1⟩:∃T:Nat→List (List D),T=fun i=>eB ((((l.take i).filter (isK jV)).map um).map bC.enc) (n+1+1):=⟨_,rfl⟩
 obtain⟨T2,Ro⟩:∃T:Nat→List (List D),T=fun i=>eB ((((l.take i).filter (isK nP)).map qQ).map aS.enc) (Dx F n+1):=⟨_,rfl⟩
 obtain⟨T3,hT3⟩:∃T:Nat→List (List D),T=fun i=>eB ((((l.take i).filter (isK kL)).map qE).map aQ.enc) (Dy F n+1):=⟨_,rfl⟩
 obtain⟨T4,hT4⟩:∃T:Nat→List (List D),T=fun i=>eB ((((l.take i).filter (isK wK)).map uI).map aY.enc) (EJ F n+1):=⟨_,rfl⟩
 have z1:T1 0=[]:=by rw[hT1];rfl
 have z2:T2 0=[]:=by rw[Ro];rfl
 have z3:T3 0=[]:=by rw[hT3];rfl
 have z4:T4 0=[]:=by rw[hT4];rfl
 have t1:∀i,(T1 i).length≤i:=fun i=>by rw[hT1];exact FW _ _ _ _ _ _
 have t2:∀i,(T2 i).length≤i:=fun i=>by rw[Ro];exact FW _ _ _ _ _ _
 have t3:∀i,(T3 i).length≤i:=fun i=>by rw[hT3];exact FW _ _ _ _ _ _
 have t4:∀i,(T4 i).length≤i:=fun i=>by rw[hT4];exact FW _ _ _ _ _ _
 have ajY:∀i (hi:i<l.length) (mo:List Ab.Obj),cB Tryz.prog 37 [.c (.ptr (0,3) 0),l[i].v] (D5 n [.d (.s x.bf),.d (.sl (x.ah.map aj.enc))] xg (.s x.ah[1].bf) (.ol n ((fq x.ah[2].ah).map encS)) (n+1) (Dx F n) (Dy F n) (EJ F n) (T1 i) (T2 i) (T3 i) (T4 i) mo::S) (fun r S'=>r=.c (.d (.b (jD l[i])))∧S'=D5 n [.d (.s x.bf),.d (.sl (x.ah.map aj.enc))] xg (.s x.ah[1].bf) (.ol n ((fq x.ah[2].ah).map encS)) (n+1) (Dx F n) (Dy F n) (EJ F n) (T1 (i+1)) (T2 (i+1)) (T3 (i+1)) (T4 (i+1)) mo::S):=fun i hi mo=>by
  have e1:T1 (i+1)=T1 i++oG (isK jV l[i]) (um l[i]).enc ((n+1+1)+iW ((((l.take i).filter (isK jV)).map um).map bC.enc)):=by rw[hT1];exact Dz jV um bC.enc hi (n+1+1)
  have e2:T2 (i+1)=T2 i++oG (isK nP l[i]) (qQ l[i]).enc ((Dx F n+1)+iW ((((l.take i).filter (isK nP)).map qQ).map aS.enc)):=by rw[Ro];exact Dz nP qQ aS.enc hi (Dx F n+1)
  have e3:T3 (i+1)=T3 i++oG (isK kL l[i]) (qE l[i]).enc ((Dy F n+1)+iW ((((l.take i).filter (isK kL)).map qE).map aQ.enc)):=by rw[hT3];exact Dz kL qE aQ.enc hi (Dy F n+1)
  have e4:T4 (i+1)=T4 i++oG (isK wK l[i]) (uI l[i]).enc ((EJ F n+1)+iW ((((l.take i).filter (isK wK)).map uI).map aY.enc)):=by rw[hT4];exact Dz wK uI aY.enc hi (EJ F n+1)
  rw[e1,e2,e3,e4]
  exact VI l[i] (hlm _ (List.getElem_mem hi)) n _ _ _ _ _ _ _ _ _ _ _ _ _ _ _ _ mo S (Nat.le_trans (t1 i) (by omega)) (Nat.le_trans (t2 i) (by omega)) (Nat.le_trans (t3 i) (by omega)) (Nat.le_trans (t4 i) (by omega))
 have w1:T1 l.length=eB (F.dz.map bC.enc) (n+1+1):=by rw[hT1,hF];simp only;rw[List.take_length,hl];rfl
 have w2:T2 l.length=eB (F.aX.map aS.enc) (Dx F n+1):=by rw[Ro,hF];simp only;rw[List.take_length,hl];rfl
 have w3:T3 l.length=eB (F.dx.map aQ.enc) (Dy F n+1):=by rw[hT3,hF];simp only;rw[List.take_length,hl];rfl
 have w4:T4 l.length=eB (F.cZ.map aY.enc) (EJ F n+1):=by rw[hT4,hF];simp only;rw[List.take_length,hl];rfl
 clear hT1 Ro hT3 hT4 hc
 have hall:allA x.ah[2].ah=(gX x.ah 2).ah.all (fun y=>decide (y.bf≠[])):=by rw[g2];rfl
 obtain⟨B,hB⟩:∃B,B=allA x.ah[2].ah:=⟨_,rfl⟩
 rw[←hB]
 have alE:F.fName=x.ah[1].bf:=by rw[hF];exact a1.symm
 have alF:F.fU=fq x.ah[2].ah:=by rw[hF,g2];rfl
 cases B with
 |false=>
  have hno:Dp x=false:=aF fun e=>by have:=e.1.2.2.2.2;rw[←hall,←hB] at this;cases this
  refine aT (ι:=Nat) Tryz.checked.mixed rfl [2,5,6,39,40,41] (fun i=>[.c (.ptr (0,2) 0),.c (.d (.b false)),.c (.ptr (0,3) 0),.c (.d (.sl (l.map aj.enc))),.c (.d (.i .i64 l.length)),.c (.d (.i .i64 0))])
   (fun i=>D5 n [.d (.s x.bf),.d (.sl (x.ah.map aj.enc))] xg (.s x.ah[1].bf) (.ol n ((fq x.ah[2].ah).map encS)) (n+1) (Dx F n) (Dy F n) (EJ F n) [] [] [] [] []::S)
   (fun i=>i=0) (fun i=>i) 0 rfl rfl rfl ?_
  rintro i p1
  simp -implicitDefEqProofs (disch:=omega) only[go_sem,D5]
  refine S0 (fun hb h=>?_) fun hb h=>?_
  ·refine W3 ?_
   exact⟨by decide,gL hno⟩
  ·exact⟨by decide,gL hno⟩
 |true=>
  have hhead:QE x:=⟨hf.1,h3,hf.2.2,hz2,hall.symm.trans hB.symm⟩
  refine aT (ι:=Nat) Tryz.checked.mixed rfl [2,5,6,39,40,41] (fun i=>[.c (.ptr (0,2) 0),.c (.d (.b true)),.c (.ptr (0,3) 0),.c (.d (.sl (l.map aj.enc))),.c (.d (.i .i64 l.length)),.c (.d (.i .i64 i))])
   (fun i=>D5 n [.d (.s x.bf),.d (.sl (x.ah.map aj.enc))] xg (.s x.ah[1].bf) (.ol n ((fq x.ah[2].ah).map encS)) (n+1) (Dx F n) (Dy F n) (EJ F n) (T1 i) (T2 i) (T3 i) (T4 i) []::S)
   (fun i=>i≤l.length∧∀j,∀hj:j<l.length,j<i→jD l[j]=true) (fun i=>l.length-i) 0 rfl (by rw[z1,z2,z3,z4];rfl) ⟨Nat.zero_le _,fun j _ h=>by omega⟩ ?_
  rintro i ⟨p1,p2⟩
  have t1:=t1 i
  have t2:=t2 i
  have t3:=t3 i
  have t4:=t4 i
  simp -implicitDefEqProofs (disch:=omega) only[go_sem,D5]
  refine S0 (fun hb h=>?_) fun hb h=>?_
  ·have hi:i<l.length:=by omega
   refine W3 ?_
   refine bJ rfl (ajY i hi _) ?_
   simp -implicitDefEqProofs (disch:=omega) only[go_sem,D5]
   refine S0 (fun hb h=>?_) fun hb h=>?_
   ·exact⟨by decide,gL (aF fun e=>by have:=e.2.1 l[i] (by rw[←hl];exact List.getElem_mem hi);rw[this] at h;cases h)⟩
   ·refine dh 8 (by decide) (i+1) (by omega) rfl rfl rfl rfl ⟨by omega,fun j hj hji=> ?_⟩
    by_cases e:j=i
    ·subst e;exact h
    ·exact p2 j hj (by omega)
  ·have hi:i=l.length:=by omega
   subst hi
   rw[w1,w2,w3,w4,←alE,←alF]
   have hits:∀y∈x.ah.drop 3,jD y=true:=fun y hy=>by
    rw[←hl] at hy
    obtain⟨j,hj,rfl⟩:=List.mem_iff_getElem.1 hy
    exact p2 j hj hj
   have hcl:Less (.agg [.d (.s F.fName),.d (.ol n (F.fU.map encS)),.d (.sl (eB (F.dz.map bC.enc) (n+1+1))),.d (.sl (eB (F.aX.map aS.enc) (Dx F n+1))),.d (.sl (eB (F.dx.map aQ.enc) (Dy F n+1))),.d (.sl (eB (F.cZ.map aY.enc) (EJ F n+1)))]) F.v:=
    (fQ.cons (.refl _) (.cons (EF _ _) (.cons (uU (pz _ _)) (.cons (uU (pz _ _)) (.cons (uU (pz _ _)) (.cons (uU (pz _ _)) .nil)))))).less
   refine nK (MJ F (by rw[hF];exact Wv (by omega))) (.cons hcl .nil) ?_
   refine W1 ?_
   with_reducible refine dU (fun hb=> ?_) (fun hb=> ?_)<;>have h:=hb<;>(try simp only[wf_preprocess] at h)<;>simp -implicitDefEqProofs (disch:=omega) only[go_sem,hb,false_and,if_false]<;>refine W3 ?_
   ·exact⟨by decide,gL (aF fun e=>by rw[←hF] at e;rw[e.2.2] at h;cases h)⟩
   ·have hy:Dp x=true:=bA ⟨hhead,hits,by rw[←hF];exact h⟩
    rw[Ws hy,hy,←hF]
    have hq:=Ue F n
    simp only[bB.aD] at hq
    rw[hq]
    exact⟨by decide,iF _⟩
theorem Ql(x:aj)(n:Nat)(hsz:x.sz≤1048576):aI Tryz.prog 10 [x.v] (.dY [(true,(eX (Ig x).enc n).map .d),(false,[.d (.b (Dp x))])]):=Uf x n hsz
end Go.Proofs.YtocpgjlbagncjaaGreatDoor
namespace Go.Proofs.YtocpgjlbagncjaaGreatDoor
open Go Go.Ab
end Go.Proofs.YtocpgjlbagncjaaGreatDoor
namespace Go.Proofs.YtocpgjlbagncjaaGreatDoor
open Go Go.Ab
end Go.Proofs.YtocpgjlbagncjaaGreatDoor
namespace Go.Proofs.YtocpgjlbagncjaaGreatDoor
open Go Go.Ab
end Go.Proofs.YtocpgjlbagncjaaGreatDoor
namespace Go.Proofs.YtocpgjlbagncjaaGreatDoor
open Go Go.Ab
end Go.Proofs.YtocpgjlbagncjaaGreatDoor
namespace Go.Proofs.YtocpgjlbagncjaaGreatDoor
open Go Go.Ab
end Go.Proofs.YtocpgjlbagncjaaGreatDoor
namespace Go.Proofs.YtocpgjlbagncjaaGreatDoor
open Go Go.Ab
end Go.Proofs.YtocpgjlbagncjaaGreatDoor
