/-
  SEVERAL TEXTS IN ONE (merged by program): contracts and models, each with its own heading.
-/
import Derived.Test.YtnceiannponbjaaGreatDoorPartDkbH
set_option linter.unusedSimpArgs false
set_option linter.unusedVariables false
namespace Go.Ab
section
variable {P:Program} {w w':World} {σ σ':Nat->Nat} {S:Store} {β:Hs}
end
section
variable {P:Program} {w w':World} {σ σ':Nat->Nat} {β:Hs}
theorem aeg{own:List Obj}{Ω:Store}(lab:Option Nat)(j i aN:Nat)(es:List (List D))(cs:List C)(hj:own[j]? =some (.box cs))(hi:cs[i]? =some (match lab with|some n=>.jm n es|none=>.bA es))(hes:∀e∈es,e.length=aN)(hS:dH w σ (own::Ω) β):
 ∃β',dH w σ ((own.set j (.box (cs.set i (.bG (0,own.length) es)))++[gV lab aN es])::Ω) β'/\Step (own::Ω) β σ w ((own.set j (.box (cs.set i (.bG (0,own.length) es)))++[gV lab aN es])::Ω) β' σ w/\Keep (own::Ω) β ((own.set j (.box (cs.set i (.bG (0,own.length) es)))++[gV lab aN es])::Ω) β':=by
 cases β with
 |nil=>have:=hS.shape.1;simp at this
 |cons bo bΩ=>
 have hlen:bo.length=own.length:=by
  obtain⟨gr,g1,g2⟩:=hS.shape.2 0 own rfl;simp at g1;rw[g1];exact g2
 have hjl:=(List.getElem?_eq_some_iff.1 hj).1
 have hg0:aR (own::Ω) (0,j)=some (.box cs):=by rw[aY];exact hj
 obtain⟨hb,FK,hr⟩:=hS.obj (0,j) _ hg0;obtain⟨b,cv,ty,rfl,hbc,hσ,hcs⟩:=hr;have hcs:d9 w σ (own::Ω) (bo::bΩ) cs cv.toList:=hcs;obtain⟨v,hv,hc0,hone⟩:=hcs.2 i _ hi
 have hx:∃ad:Option Addr,bU w σ (.sl es) v/\v=.slice ad es.length es.length/\∀n,lab=some n->bU w σ (.ol n es) v:=by
  cases lab with
  |none=>
   obtain⟨hd,ad,n,hval⟩:=hc0
   have hn:n=es.length:=by rw[hval] at hd;cases hd<;>rfl
   exact⟨ad,hd,by rw[hval,hn],fun n e=>by cases e⟩
  |some n=>
   obtain⟨hd,ad,m,hval⟩:=hc0
   have hn:m=es.length:=by
    have:=uz hd;rw[hval] at this;cases this<;>rfl
   exact⟨ad,uz hd,by rw[hval,hn],fun n' e=>by cases e;exact hd⟩
 obtain⟨ad,hd,hval,hol⟩:=hx;have hg:Grow w σ w σ:=Grow.refl hS.live
 obtain⟨hS',hk,hst⟩:=hS.push (o:=gV lab aN es) (h:=v) hg hlen (by
  cases lab with
  |none=>exact⟨hd,hes,ad,es.length,hval,Nat.le_refl _,.inl rfl⟩
  |some n=>exact⟨hd,hes,ad,es.length,hval,Nat.le_refl _,.inl ⟨rfl,hol n rfl⟩⟩) (fun b hb=>by
  rw[hval] at hb
  cases lab<;>cases ad<;>simp[gV,owns,blk] at hb)
 have hk1:aR ((own++[gV lab aN es])::Ω) (0,j)=some (.box cs):=iR _ _ _ _ _ hg0;have CS:aR ((bo++[v])::bΩ) (0,j)=some (.pointer (some ⟨b,0,none⟩)):=iR _ _ _ _ _ FK;have hko:kF (.box cs) (some (Value.pointer (some ⟨b,0,none⟩))) (.box (cs.set i (.bG (0,own.length) es))) (some (Value.pointer (some ⟨b,0,none⟩))):=.inr ⟨⟨_,rfl⟩,rfl⟩
 have hK:Keep ((own++[gV lab aN es])::Ω) ((bo++[v])::bΩ) (aT ((own++[gV lab aN es])::Ω) (0,j) (.box (cs.set i (.bG (0,own.length) es)))) (aT ((bo++[v])::bΩ) (0,j) (.pointer (some ⟨b,0,none⟩))):=by
  intro k1 o1 e1;by_cases e:k1=(0,j)
  ·subst e;rw[hk1] at e1;cases e1;exact⟨_,cB _ _ _ _ hk1,by rw[CS,cB _ _ _ _ CS];exact hko⟩
  ·exact⟨o1,(dO _ _ _ _ (Ne.symm e)).trans e1,by rw[dO _ _ _ _ (Ne.symm e)];exact .refl _ _⟩
 have hne:(0,own.length)≠(0,j):=fun e=>by injection e with _ e;omega
 obtain⟨hS2,hk2,uP⟩:=hS'.set (w':=w) (σ':=σ) (o':=.box (cs.set i (.bG (0,own.length) es))) (h':=.pointer (some ⟨b,0,none⟩)) hk1 CS (Nat.le_refl _) rfl rfl (dM.refl _ _) hS'.live (fun _ _ _=>⟨rfl,rfl⟩) hko
  ⟨b,cv,ty,rfl,hbc,hσ,by
    refine⟨by rw[List.length_set];exact hcs.1,fun m x hm=> ?_⟩;rw[List.getElem?_set] at hm;by_cases e:i=m
    ·subst e;rw[if_pos rfl] at hm;split at hm
     ·cases hm;refine⟨v,hv,⟨hd,gV lab aN es,?_,fun a1 b1 e1=> ?_⟩,hone⟩
      ·show aR (aT _ (0,j) _) (0,own.length)=_;rw[dO _ _ _ _ (Ne.symm hne),bq]
      ·obtain⟨_,rfl⟩:=kL e1;refine⟨Nat.le_refl _,fun _=> ?_⟩;show aR (aT _ (0,j) _) (0,own.length)=_;rw[dO _ _ _ _ (Ne.symm hne),<-hlen,bq]
     ·cases hm
    ·rw[if_neg e] at hm;obtain⟨u,hu,hc,ho⟩:=hcs.2 m x hm
     exact⟨u,hu,(hc.mono (dM.refl _ _) hk).mono (dM.refl _ _) hK,ho⟩⟩ (fun _ e=>.inl e)
 have est:aT ((own++[gV lab aN es])::Ω) (0,j) (.box (cs.set i (.bG (0,own.length) es)))=(own.set j (.box (cs.set i (.bG (0,own.length) es)))++[gV lab aN es])::Ω:=by
  rw[aT,List.set_append_left _ _ hjl]
 rw[est] at hS2 hk2 uP;exact⟨_,hS2,hst.trans uP,hk.trans hk2⟩
end
section
variable {P:Program} {w w':World} {σ σ':Nat->Nat} {β:Hs} {N:Nat}
def pz(x y:C):Prop:=∀w σ S β v,fK w σ S β x v->fK w σ S β y v
theorem pz.refl(x:C):pz x x:=fun _ _ _ _ _ h=>h
theorem Ep(n:Nat):pz (.bA []) (.jm n []):=fun w σ S β v h=>by
 obtain⟨hd,a,m,hv⟩:=h
 have hm:m=0:=by rw[hv] at hd;cases hd<;>rfl
 subst hm;exact⟨by rw[hv];exact .oh _ _ _,a,0,hv⟩
theorem gP(n:Nat):pz (.bA []) (.d (.ol n [])):=fun w σ S β v h=>(Ep n w σ S β v h).1
theorem jG(es:List (List D)):pz (.bA es) (.d (.sl es)):=fun w σ S β v h=>h.1
inductive eB:List C->List C->Prop
 |nil:eB [] []
 |cons {x y:C} {xs ys:List C}:pz x y->eB xs ys->eB (x::xs) (y::ys)
theorem eB.refl:∀xs,eB xs xs
 |[]=>.nil
 |x::xs=>.cons (.refl x) (eB.refl xs)
theorem eB.length:∀{xs ys:List C},eB xs ys->xs.length=ys.length
 |_,_,.nil=>rfl
 |_,_,.cons _ h=>by rw[List.length_cons,List.length_cons,eB.length h]
theorem eB.at:∀{xs ys:List C},eB xs ys->∀(j:Nat)(x y:C),xs[j]? =some x->ys[j]? =some y->pz x y
 |_,_,.nil,j,x,y,h,_=>by simp at h
 |_,_,.cons a h,0,x,y,h1,h2=>by simp at h1 h2;subst h1;subst h2;exact a
 |_,_,.cons a h,j+1,x,y,h1,h2=>eB.at h j x y (by simpa using h1) (by simpa using h2)
theorem eB.less{xs ys:List C}(h:eB xs ys):Less (.agg xs) (.agg ys):=by
 rintro w σ S β v ⟨a,ha,hc⟩;refine⟨a,ha,h.length.symm.trans hc.1,fun j y hy=> ?_⟩
 have hj:j<xs.length:=by rw[h.length];exact(List.getElem?_eq_some_iff.1 hy).1
 obtain⟨v,h1,h2,h3⟩:=hc.2 j _ (List.getElem?_eq_getElem hj);exact⟨v,h1,h.at j _ y (List.getElem?_eq_getElem hj) hy w σ S β v h2,h3⟩
theorem eB.afQ{xs ys:List C}(h:eB xs ys){w:World}{σ:Nat->Nat}{S:Store}{β:Hs}{vs:List Value}(hc:d9 w σ S β xs vs):d9 w σ S β ys vs:=by
 refine⟨h.length.symm.trans hc.1,fun j y hy=> ?_⟩
 have hj:j<xs.length:=by rw[h.length];exact(List.getElem?_eq_some_iff.1 hy).1
 obtain⟨v,h1,h2,h3⟩:=hc.2 j _ (List.getElem?_eq_getElem hj);exact⟨v,h1,h.at j _ y (List.getElem?_eq_getElem hj) hy w σ S β v h2,h3⟩
theorem abS{own:List Obj}{Ω:Store}(j:Nat)(cs cs':List C)(hj:own[j]? =some (.box cs))(hle:eB cs cs')(hS:dH w σ (own::Ω) β):
 ∃β',dH w σ ((own.set j (.box cs'))::Ω) β'/\Step (own::Ω) β σ w ((own.set j (.box cs'))::Ω) β' σ w/\Keep (own::Ω) β ((own.set j (.box cs'))::Ω) β'/\fD β'=fD β/\β'.length=β.length:=by
 cases β with
 |nil=>have:=hS.shape.1;simp at this
 |cons bo bΩ=>
 have hg0:aR (own::Ω) (0,j)=some (.box cs):=by rw[aY];exact hj
 obtain⟨hb,FK,hr⟩:=hS.obj (0,j) _ hg0;obtain⟨b,cv,ty,rfl,hbc,hσ,hcs⟩:=hr;have hcs:d9 w σ (own::Ω) (bo::bΩ) cs cv.toList:=hcs;have hko:kF (.box cs) (some (Value.pointer (some ⟨b,0,none⟩))) (.box cs') (some (Value.pointer (some ⟨b,0,none⟩))):=.inr ⟨⟨_,rfl⟩,rfl⟩
 have hK:Keep (own::Ω) (bo::bΩ) (aT (own::Ω) (0,j) (.box cs')) (aT (bo::bΩ) (0,j) (.pointer (some ⟨b,0,none⟩))):=by
  intro k1 o1 e1;by_cases e:k1=(0,j)
  ·subst e;rw[hg0] at e1;cases e1;exact⟨_,cB _ _ _ _ hg0,by rw[FK,cB _ _ _ _ FK];exact hko⟩
  ·exact⟨o1,(dO _ _ _ _ (Ne.symm e)).trans e1,by rw[dO _ _ _ _ (Ne.symm e)];exact .refl _ _⟩
 obtain⟨hS2,hk2,uP⟩:=hS.set (w':=w) (σ':=σ) (o':=.box cs') (h':=.pointer (some ⟨b,0,none⟩)) hg0 FK (Nat.le_refl _) rfl rfl (dM.refl _ _) hS.live (fun _ _ _=>⟨rfl,rfl⟩) hko
  ⟨b,cv,ty,rfl,hbc,hσ,by
    have h1:=hle.afQ hcs;refine⟨h1.1,fun m x hm=> ?_⟩;obtain⟨u,hu,hc,ho⟩:=h1.2 m x hm
    exact⟨u,hu,hc.mono (dM.refl _ _) hK,ho⟩⟩ (fun _ e=>.inl e)
 have est:aT (own::Ω) (0,j) (.box cs')=(own.set j (.box cs'))::Ω:=rfl;rw[est] at hS2 hk2 uP;exact⟨_,hS2,uP,hk2,rfl,by simp[aT]⟩
theorem MR{tm:List (Nat×V)}{own:List Obj}{Ω:Store}(j:Nat)(cs cs':List C)(hj:own[j]? =some (.box cs))(hle:eB cs cs'):fV N ⟨tm,own::Ω⟩ ⟨tm,(own.set j (.box cs'))::Ω⟩:=by
 intro a w σ β hR;obtain⟨β',hS,hst,hk,ht,_⟩:=abS j cs cs' hj hle hR.S;refine⟨σ,β',⟨hR.size,hR.defers,hS,fun u=>(hR.T u).mono (dM.refl _ _) hk⟩,hst,?_⟩;rw[ht];exact Keep.refl _ _
theorem Er{tm:List (Nat×V)}{own:List Obj}{Ω:Store}(lab:Option Nat)(j i aN:Nat)(es:List (List D))(cs:List C)(hj:own[j]? =some (.box cs))(hi:cs[i]? =some (match lab with|some n=>.jm n es|none=>.bA es))(hes:∀e∈es,e.length=aN):
 fV N ⟨tm,own::Ω⟩ ⟨tm,(own.set j (.box (cs.set i (.bG (0,own.length) es)))++[gV lab aN es])::Ω⟩:=by
 intro a w σ β hR;obtain⟨β',hS,hst,hk⟩:=aeg lab j i aN es cs hj hi hes hR.S;refine⟨σ,β',⟨hR.size,hR.defers,hS,fun u=>(hR.T u).mono (dM.refl _ _) hk⟩,hst,?_⟩;intro k o hko
 obtain⟨o',h1,h2⟩:=hk (k.1+1,k.2) o (by
  obtain⟨l,i⟩:=k;show aR (own::Ω) (l+1,i)=_
  rw[bF];exact hko)
 obtain⟨bo,bΩ,rfl,_⟩:=frames hR;have h3:=hS.shape.1
 cases β' with
 |nil=>simp at h3
 |cons bo' bΩ'=>
  rw[bF] at h1;rw[bF,bF] at h2;exact⟨o',h1,h2⟩
theorem VG{c:Code}{Q:Exit->St->Prop}{tm:List (Nat×V)}{own:List Obj}{Ω:Store}(j:Nat)(cs cs':List C)(hj:own[j]? =some (.box cs))(hle:eB cs cs')(h:AW P N c Q ⟨tm,(own.set j (.box cs'))::Ω⟩):AW P N c Q ⟨tm,own::Ω⟩:=jX h (MR j cs cs' hj hle)
theorem LW{x y:C}(hle:pz x y):∀(i:Nat)(cs:List C),cs[i]? =some x->eB cs (cs.set i y)
 |0,[],h=>by simp at h
 |0,z::cs,h=>by simp at h;subst h;exact .cons hle (.refl cs)
 |i+1,[],h=>by simp at h
 |i+1,z::cs,h=>.cons (.refl z) (LW hle i cs (by simpa using h))
theorem Cz{c:Code}{Q:Exit->St->Prop}{tm:List (Nat×V)}{own:List Obj}{Ω:Store}(n j i aN:Nat)(cs:List C)(hj:own[j]? =some (.box cs))(hi:cs[i]? =some (.bA []))
 (h:AW P N c Q ⟨tm,(own.set j (.box (cs.set i (.bG (0,own.length) [])))++[.eD n aN []])::Ω⟩):AW P N c Q ⟨tm,own::Ω⟩:=by
 have hjl:=(List.getElem?_eq_some_iff.1 hj).1;have hil:=(List.getElem?_eq_some_iff.1 hi).1;refine VG j cs (cs.set i (.jm n [])) hj (LW (Ep n) i cs hi) ?_;refine jX ?_ (Er (some n) j i aN [] (cs.set i (.jm n [])) (by rw[List.getElem?_set_self hjl]) (by rw[List.getElem?_set_self hil]) (by simp));rw[List.set_set,List.set_set,List.length_set];exact h
theorem zY{c:Code}{Q:Exit->St->Prop}{tm:List (Nat×V)}{own:List Obj}{Ω:Store}(j i aN:Nat)(cs:List C)(hj:own[j]? =some (.box cs))(hi:cs[i]? =some (.bA []))
 (h:AW P N c Q ⟨tm,(own.set j (.box (cs.set i (.bG (0,own.length) [])))++[.tok aN []])::Ω⟩):AW P N c Q ⟨tm,own::Ω⟩:=
 jX h (Er none j i aN [] cs hj hi (by simp))
def JL(x y:D):Prop:=∀w σ v,bU w σ x v->bU w σ y v
theorem JL.refl(x:D):JL x x:=fun _ _ _ h=>h
inductive kW:List D->List D->Prop
 |nil:kW [] []
 |cons {x y:D} {xs ys:List D}:JL x y->kW xs ys->kW (x::xs) (y::ys)
theorem kW.refl:∀r,kW r r
 |[]=>.nil
 |x::xs=>.cons (.refl x) (kW.refl xs)
theorem kW.length:∀{r r':List D},kW r r'->r.length=r'.length
 |_,_,.nil=>rfl
 |_,_,.cons _ h=>by rw[List.length_cons,List.length_cons,h.length]
theorem kW.at:∀{r r':List D},kW r r'->∀(j:Nat)(y:D),r'[j]? =some y->∃x,r[j]? =some x/\JL x y
 |_,_,.nil,j,y,h=>by simp at h
 |_,_,.cons a h,0,y,h2=>by simp at h2;subst h2;exact⟨_,rfl,a⟩
 |_,_,.cons a h,j+1,y,h2=>h.at j y (by simpa using h2)
theorem kW.append:∀{a a' b b':List D},kW a a'->kW b b'->kW (a++b) (a'++b')
 |_,_,_,_,.nil,h=>h
 |_,_,_,_,.cons x h,k=>.cons x (h.append k)
inductive iL:List (List D)->List (List D)->Prop
 |nil:iL [] []
 |cons {x y:List D} {xs ys:List (List D)}:kW x y->iL xs ys->iL (x::xs) (y::ys)
theorem iL.length:∀{r r':List (List D)},iL r r'->r.length=r'.length
 |_,_,.nil=>rfl
 |_,_,.cons _ h=>by rw[List.length_cons,List.length_cons,h.length]
theorem iL.snoc:∀{a b:List (List D)}{x y:List D},iL a b->kW x y->iL (a++[x]) (b++[y])
 |_,_,_,_,.nil,h=>.cons h .nil
 |_,_,_,_,.cons z h,k=>.cons z (h.snoc k)
theorem iL.rows{z:Nat}:∀{a b:List (List D)},iL a b->(∀r∈b,r.length=z)->∀r∈a,r.length=z
 |_,_,.nil,h,r,hr=>by cases hr
 |_,_,.cons x h,k,r,hr=>by
  rcases List.mem_cons.1 hr with rfl|hr
  ·rw[x.length];exact k _ (by simp)
  ·exact h.rows (fun r hr=>k r (by simp[hr])) r hr
theorem iL.flat:∀{a b:List (List D)},iL a b->kW a.flatten b.flatten
 |_,_,.nil=>.nil
 |_,_,.cons x h=>by rw[List.flatten_cons,List.flatten_cons];exact x.append h.flat
theorem iL.rep{a b:List (List D)}(h:iL a b){w:World}{σ:Nat->Nat}{v:Value}(hr:bU w σ (.sl a) v):bU w σ (.sl b) v:=by
 cases hr with
 |nil ad cap=>
  cases h;exact .nil ad cap
 |sl b0 off cap aN es vals c t fz hcap hlen hb hσ hc hv=>
  have hl:=h.length;rw[hl] at hcap hσ hc ⊢
  have hlb:∀e∈b,e.length=aN:=fun e he=>by
   obtain⟨i,hi,rfl⟩:=List.getElem_of_mem he
   have:∀{a b:List (List D)}(h:iL a b)(i:Nat)(hi:i<b.length)(hi':i<a.length),kW a[i] b[i]:=by
    intro a b h
    induction h with
    |nil=>intro i hi;simp at hi
    |cons x h ih=>intro i hi hi';cases i with
     |zero=>exact x
     |succ i=>exact ih i (by simpa using hi) (by simpa using hi')
   have h1:=this h i hi (by omega);rw[<-h1.length];exact hlen _ (List.getElem_mem _)
  refine .sl b0 off cap aN b vals c t fz hcap hlb hb hσ hc fun j d hd=> ?_;obtain⟨x,hx,hle⟩:=h.flat.at j d hd;exact hle w σ _ (hv j x hx)
inductive kZ:List (Bool×List C)->List (Bool×List C)->Prop
 |nil:kZ [] []
 |cons {b:Bool} {cs cs':List C} {xs ys:List (Bool×List C)}:eB cs cs'->kZ xs ys->kZ ((b,cs)::xs) ((b,cs')::ys)
theorem kZ.refl:∀xs,kZ xs xs
 |[]=>.nil
 |(b,cs)::xs=>.cons (.refl cs) (kZ.refl xs)
theorem kZ.length:∀{xs ys:List (Bool×List C)},kZ xs ys->xs.length=ys.length
 |_,_,.nil=>rfl
 |_,_,.cons _ h=>by rw[List.length_cons,List.length_cons,h.length]
theorem kZ.at:∀{xs ys:List (Bool×List C)},kZ xs ys->∀(j:Nat)(y:Bool×List C),ys[j]? =some y->∃cs,xs[j]? =some (y.1,cs)/\eB cs y.2
 |_,_,.nil,j,y,h=>by simp at h
 |_,_,.cons a h,0,y,h2=>by simp at h2;subst h2;exact⟨_,rfl,a⟩
 |_,_,.cons a h,j+1,y,h2=>h.at j y (by simpa using h2)
theorem kZ.less{xs ys:List (Bool×List C)}(h:kZ xs ys):Less (.eG xs) (.eG ys):=by
 rintro w σ S β v ⟨a,ha,hl,hc⟩;refine⟨a,ha,h.length.symm.trans hl,fun j y hy=> ?_⟩;obtain⟨cs,h1,h2⟩:=h.at j y hy;obtain⟨u,hu,hr⟩:=hc j _ h1;refine⟨u,hu,?_⟩;obtain⟨b,cs'⟩:=y
 cases b with
 |true=>
  obtain⟨a',e,hcs⟩:=hr;exact⟨a',e,h2.afQ hcs⟩
 |false=>
  obtain⟨x,e,hx,ho⟩:=hr;simp only at e h2;subst e
  cases h2 with
  |cons hxy hn=>
   cases hn;exact⟨_,rfl,hxy w σ S β u hx,ho⟩
theorem aG.of_le{f:FuncId}{args:List V}{t:V}(h:∀S,bD P f args S fun r S'=>Less r t/\S'=S):aG P f args t:=fun S=>
 ⟨(h S).1,fun w σ β vs hS hv=>((h S).2 w σ β vs hS hv).mono fun e w' ⟨v,r,S',σ',β',h1,h2,h3,h4,h5,h6,h7⟩=>⟨v,t,S',σ',β',h1,h2,h3,h4,h6 _ _ _ _ _ h5,rfl,h7⟩⟩
theorem LX{cs cs':List C}{xs:List (Bool×List C)}(h:∀w σ S β vs,d9 w σ S β cs vs->d9 w σ S β cs' vs):Less (.eG ((true,cs)::xs)) (.eG ((true,cs')::xs)):=by
 rintro w σ S β v ⟨a,ha,hl,hc⟩;obtain⟨u,hu,a',rfl,hcs⟩:=hc 0 _ rfl;refine⟨a,ha,hl,fun j y hy=> ?_⟩
 cases j with
 |zero=>
  simp at hy;subst hy;exact⟨_,hu,a',rfl,h _ _ _ _ _ hcs⟩
 |succ j=>exact hc (j+1) y (by simpa using hy)
theorem iD(v:V):Less v v:=fun _ _ _ _ _ h=>h
end
end Go.Ab