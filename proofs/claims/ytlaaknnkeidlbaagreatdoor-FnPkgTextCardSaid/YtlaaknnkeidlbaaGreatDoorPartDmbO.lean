/-
  SEVERAL TEXTS IN ONE (merged by program): contracts and models, each with its own heading.
-/
import Derived.Test.YtlaaknnkeidlbaaGreatDoorPartDmbK
set_option linter.unusedSimpArgs false
set_option linter.unusedVariables false
namespace Go.Ab
section
variable {P:Program} {w w':World} {σ σ':Nat->Nat} {S:Store} {β:Hs}
end
section
variable {P:Program} {w w':World} {σ σ':Nat->Nat} {β:Hs}
theorem alO{own:List Obj}{Ω:Store}(lab:Option Nat)(j i bg:Nat)(es:List (List D))(cs:List C)(hj:own[j]? =some (.box cs))(hi:cs[i]? =some (match lab with|some n=>.lG n es|none=>.bF es))(hes:∀e∈es,e.length=bg)(hS:fA w σ (own::Ω) β):
 ∃β',fA w σ ((own.set j (.box (cs.set i (.bI (0,own.length) es)))++[jJ lab bg es])::Ω) β'/\Step (own::Ω) β σ w ((own.set j (.box (cs.set i (.bI (0,own.length) es)))++[jJ lab bg es])::Ω) β' σ w/\Keep (own::Ω) β ((own.set j (.box (cs.set i (.bI (0,own.length) es)))++[jJ lab bg es])::Ω) β':=by
 cases β with
 |nil=>have:=hS.shape.1;simp at this
 |cons bo bΩ=>
 have hlen:bo.length=own.length:=by
  obtain⟨gr,g1,g2⟩:=hS.shape.2 0 own rfl;simp at g1;rw[g1];exact g2
 have hjl:=(List.getElem?_eq_some_iff.1 hj).1
 have hg0:bE (own::Ω) (0,j)=some (.box cs):=by rw[bK];exact hj
 obtain⟨hb,Mk,hr⟩:=hS.obj (0,j) _ hg0;obtain⟨b,cv,ty,rfl,hbc,hσ,hcs⟩:=hr;have hcs:gu w σ (own::Ω) (bo::bΩ) cs cv.toList:=hcs;obtain⟨v,hv,hc0,hone⟩:=hcs.2 i _ hi
 have hx:∃ad:Option Addr,dK w σ (.sl es) v/\v=.slice ad es.length es.length/\∀n,lab=some n->dK w σ (.ol n es) v:=by
  cases lab with
  |none=>
   obtain⟨hd,ad,n,hval⟩:=hc0
   have hn:n=es.length:=by rw[hval] at hd;cases hd<;>rfl
   exact⟨ad,hd,by rw[hval,hn],fun n e=>by cases e⟩
  |some n=>
   obtain⟨hd,ad,m,hval⟩:=hc0
   have hn:m=es.length:=by
    have:=um hd;rw[hval] at this;cases this<;>rfl
   exact⟨ad,um hd,by rw[hval,hn],fun n' e=>by cases e;exact hd⟩
 obtain⟨ad,hd,hval,hol⟩:=hx;have hg:Grow w σ w σ:=Grow.refl hS.live
 obtain⟨hS',hk,hst⟩:=hS.push (o:=jJ lab bg es) (h:=v) hg hlen (by
  cases lab with
  |none=>exact⟨hd,hes,ad,es.length,hval,Nat.le_refl _,.inl rfl⟩
  |some n=>exact⟨hd,hes,ad,es.length,hval,Nat.le_refl _,.inl ⟨rfl,hol n rfl⟩⟩) (fun b hb=>by
  rw[hval] at hb
  cases lab<;>cases ad<;>simp[jJ,owns,blk] at hb)
 have hk1:bE ((own++[jJ lab bg es])::Ω) (0,j)=some (.box cs):=kD _ _ _ _ _ hg0;have Jm:bE ((bo++[v])::bΩ) (0,j)=some (.pointer (some ⟨b,0,none⟩)):=kD _ _ _ _ _ Mk;have hko:nC (.box cs) (some (Value.pointer (some ⟨b,0,none⟩))) (.box (cs.set i (.bI (0,own.length) es))) (some (Value.pointer (some ⟨b,0,none⟩))):=.inr ⟨⟨_,rfl⟩,rfl⟩
 have hK:Keep ((own++[jJ lab bg es])::Ω) ((bo++[v])::bΩ) (bG ((own++[jJ lab bg es])::Ω) (0,j) (.box (cs.set i (.bI (0,own.length) es)))) (bG ((bo++[v])::bΩ) (0,j) (.pointer (some ⟨b,0,none⟩))):=by
  intro k1 o1 e1;by_cases e:k1=(0,j)
  ·subst e;rw[hk1] at e1;cases e1;exact⟨_,dL _ _ _ _ hk1,by rw[Jm,dL _ _ _ _ Jm];exact hko⟩
  ·exact⟨o1,(fH _ _ _ _ (Ne.symm e)).trans e1,by rw[fH _ _ _ _ (Ne.symm e)];exact .refl _ _⟩
 have hne:(0,own.length)≠(0,j):=fun e=>by injection e with _ e;omega
 obtain⟨hS2,hk2,xW⟩:=hS'.set (w':=w) (σ':=σ) (o':=.box (cs.set i (.bI (0,own.length) es))) (h':=.pointer (some ⟨b,0,none⟩)) hk1 Jm (Nat.le_refl _) rfl rfl (eu.refl _ _) hS'.live (fun _ _ _=>⟨rfl,rfl⟩) hko
  ⟨b,cv,ty,rfl,hbc,hσ,by
    refine⟨by rw[List.length_set];exact hcs.1,fun m x hm=> ?_⟩;rw[List.getElem?_set] at hm;by_cases e:i=m
    ·subst e;rw[if_pos rfl] at hm;split at hm
     ·cases hm;refine⟨v,hv,⟨hd,jJ lab bg es,?_,fun a1 b1 e1=> ?_⟩,hone⟩
      ·show bE (bG _ (0,j) _) (0,own.length)=_;rw[fH _ _ _ _ (Ne.symm hne),cu]
      ·obtain⟨_,rfl⟩:=lT e1;refine⟨Nat.le_refl _,fun _=> ?_⟩;show bE (bG _ (0,j) _) (0,own.length)=_;rw[fH _ _ _ _ (Ne.symm hne),<-hlen,cu]
     ·cases hm
    ·rw[if_neg e] at hm;obtain⟨u,hu,hc,ho⟩:=hcs.2 m x hm
     exact⟨u,hu,(hc.mono (eu.refl _ _) hk).mono (eu.refl _ _) hK,ho⟩⟩ (fun _ e=>.inl e)
 have est:bG ((own++[jJ lab bg es])::Ω) (0,j) (.box (cs.set i (.bI (0,own.length) es)))=(own.set j (.box (cs.set i (.bI (0,own.length) es)))++[jJ lab bg es])::Ω:=by
  rw[bG,List.set_append_left _ _ hjl]
 rw[est] at hS2 hk2 xW;exact⟨_,hS2,hst.trans xW,hk.trans hk2⟩
end
section
variable {P:Program} {w w':World} {σ σ':Nat->Nat} {β:Hs} {N:Nat}
def pO(x y:C):Prop:=∀w σ S β v,iG w σ S β x v->iG w σ S β y v
theorem pO.refl(x:C):pO x x:=fun _ _ _ _ _ h=>h
theorem KE(n:Nat):pO (.bF []) (.lG n []):=fun w σ S β v h=>by
 obtain⟨hd,a,m,hv⟩:=h
 have hm:m=0:=by rw[hv] at hd;cases hd<;>rfl
 subst hm;exact⟨by rw[hv];exact .yJ _ _ _,a,0,hv⟩
theorem dX(n:Nat):pO (.bF []) (.d (.ol n [])):=fun w σ S β v h=>(KE n w σ S β v h).1
theorem G8(n:Nat)(es:List (List D)):pO (.d (.ol n es)) (.d (.sl es)):=fun w σ S β v h=>um h
inductive gH:List C->List C->Prop
 |nil:gH [] []
 |cons {x y:C} {xs ys:List C}:pO x y->gH xs ys->gH (x::xs) (y::ys)
theorem gH.refl:∀xs,gH xs xs
 |[]=>.nil
 |x::xs=>.cons (.refl x) (gH.refl xs)
theorem gH.length:∀{xs ys:List C},gH xs ys->xs.length=ys.length
 |_,_,.nil=>rfl
 |_,_,.cons _ h=>by rw[List.length_cons,List.length_cons,gH.length h]
theorem gH.at:∀{xs ys:List C},gH xs ys->∀(j:Nat)(x y:C),xs[j]? =some x->ys[j]? =some y->pO x y
 |_,_,.nil,j,x,y,h,_=>by simp at h
 |_,_,.cons a h,0,x,y,h1,h2=>by simp at h1 h2;subst h1;subst h2;exact a
 |_,_,.cons a h,j+1,x,y,h1,h2=>gH.at h j x y (by simpa using h1) (by simpa using h2)
theorem gH.less{xs ys:List C}(h:gH xs ys):Less (.agg xs) (.agg ys):=by
 rintro w σ S β v ⟨a,ha,hc⟩;refine⟨a,ha,h.length.symm.trans hc.1,fun j y hy=> ?_⟩
 have hj:j<xs.length:=by rw[h.length];exact(List.getElem?_eq_some_iff.1 hy).1
 obtain⟨v,h1,h2,h3⟩:=hc.2 j _ (List.getElem?_eq_getElem hj);exact⟨v,h1,h.at j _ y (List.getElem?_eq_getElem hj) hy w σ S β v h2,h3⟩
theorem gH.an0{xs ys:List C}(h:gH xs ys){w:World}{σ:Nat->Nat}{S:Store}{β:Hs}{vs:List Value}(hc:gu w σ S β xs vs):gu w σ S β ys vs:=by
 refine⟨h.length.symm.trans hc.1,fun j y hy=> ?_⟩
 have hj:j<xs.length:=by rw[h.length];exact(List.getElem?_eq_some_iff.1 hy).1
 obtain⟨v,h1,h2,h3⟩:=hc.2 j _ (List.getElem?_eq_getElem hj);exact⟨v,h1,h.at j _ y (List.getElem?_eq_getElem hj) hy w σ S β v h2,h3⟩
theorem aiL{own:List Obj}{Ω:Store}(j:Nat)(cs cs':List C)(hj:own[j]? =some (.box cs))(hle:gH cs cs')(hS:fA w σ (own::Ω) β):
 ∃β',fA w σ ((own.set j (.box cs'))::Ω) β'/\Step (own::Ω) β σ w ((own.set j (.box cs'))::Ω) β' σ w/\Keep (own::Ω) β ((own.set j (.box cs'))::Ω) β'/\gW β'=gW β/\β'.length=β.length:=by
 cases β with
 |nil=>have:=hS.shape.1;simp at this
 |cons bo bΩ=>
 have hg0:bE (own::Ω) (0,j)=some (.box cs):=by rw[bK];exact hj
 obtain⟨hb,Mk,hr⟩:=hS.obj (0,j) _ hg0;obtain⟨b,cv,ty,rfl,hbc,hσ,hcs⟩:=hr;have hcs:gu w σ (own::Ω) (bo::bΩ) cs cv.toList:=hcs;have hko:nC (.box cs) (some (Value.pointer (some ⟨b,0,none⟩))) (.box cs') (some (Value.pointer (some ⟨b,0,none⟩))):=.inr ⟨⟨_,rfl⟩,rfl⟩
 have hK:Keep (own::Ω) (bo::bΩ) (bG (own::Ω) (0,j) (.box cs')) (bG (bo::bΩ) (0,j) (.pointer (some ⟨b,0,none⟩))):=by
  intro k1 o1 e1;by_cases e:k1=(0,j)
  ·subst e;rw[hg0] at e1;cases e1;exact⟨_,dL _ _ _ _ hg0,by rw[Mk,dL _ _ _ _ Mk];exact hko⟩
  ·exact⟨o1,(fH _ _ _ _ (Ne.symm e)).trans e1,by rw[fH _ _ _ _ (Ne.symm e)];exact .refl _ _⟩
 obtain⟨hS2,hk2,xW⟩:=hS.set (w':=w) (σ':=σ) (o':=.box cs') (h':=.pointer (some ⟨b,0,none⟩)) hg0 Mk (Nat.le_refl _) rfl rfl (eu.refl _ _) hS.live (fun _ _ _=>⟨rfl,rfl⟩) hko
  ⟨b,cv,ty,rfl,hbc,hσ,by
    have h1:=hle.an0 hcs;refine⟨h1.1,fun m x hm=> ?_⟩;obtain⟨u,hu,hc,ho⟩:=h1.2 m x hm
    exact⟨u,hu,hc.mono (eu.refl _ _) hK,ho⟩⟩ (fun _ e=>.inl e)
 have est:bG (own::Ω) (0,j) (.box cs')=(own.set j (.box cs'))::Ω:=rfl;rw[est] at hS2 hk2 xW;exact⟨_,hS2,xW,hk2,rfl,by simp[bG]⟩
theorem Ut{tm:List (Nat×V)}{own:List Obj}{Ω:Store}(j:Nat)(cs cs':List C)(hj:own[j]? =some (.box cs))(hle:gH cs cs'):ig N ⟨tm,own::Ω⟩ ⟨tm,(own.set j (.box cs'))::Ω⟩:=by
 intro a w σ β hR;obtain⟨β',hS,hst,hk,ht,_⟩:=aiL j cs cs' hj hle hR.S;refine⟨σ,β',⟨hR.size,hR.defers,hS,fun u=>(hR.T u).mono (eu.refl _ _) hk⟩,hst,?_⟩;rw[ht];exact Keep.refl _ _
theorem KF{tm:List (Nat×V)}{own:List Obj}{Ω:Store}(lab:Option Nat)(j i bg:Nat)(es:List (List D))(cs:List C)(hj:own[j]? =some (.box cs))(hi:cs[i]? =some (match lab with|some n=>.lG n es|none=>.bF es))(hes:∀e∈es,e.length=bg):
 ig N ⟨tm,own::Ω⟩ ⟨tm,(own.set j (.box (cs.set i (.bI (0,own.length) es)))++[jJ lab bg es])::Ω⟩:=by
 intro a w σ β hR;obtain⟨β',hS,hst,hk⟩:=alO lab j i bg es cs hj hi hes hR.S;refine⟨σ,β',⟨hR.size,hR.defers,hS,fun u=>(hR.T u).mono (eu.refl _ _) hk⟩,hst,?_⟩;intro k o hko
 obtain⟨o',h1,h2⟩:=hk (k.1+1,k.2) o (by
  obtain⟨l,i⟩:=k;show bE (own::Ω) (l+1,i)=_
  rw[cZ];exact hko)
 obtain⟨bo,bΩ,rfl,_⟩:=frames hR;have h3:=hS.shape.1
 cases β' with
 |nil=>simp at h3
 |cons bo' bΩ'=>
  rw[cZ] at h1;rw[cZ,cZ] at h2;exact⟨o',h1,h2⟩
theorem Qg{c:Code}{Q:Exit->St->Prop}{tm:List (Nat×V)}{own:List Obj}{Ω:Store}(j:Nat)(cs cs':List C)(hj:own[j]? =some (.box cs))(hle:gH cs cs')(h:AW P N c Q ⟨tm,(own.set j (.box cs'))::Ω⟩):AW P N c Q ⟨tm,own::Ω⟩:=lU h (Ut j cs cs' hj hle)
theorem KG{x y:C}(hle:pO x y):∀(i:Nat)(cs:List C),cs[i]? =some x->gH cs (cs.set i y)
 |0,[],h=>by simp at h
 |0,z::cs,h=>by simp at h;subst h;exact .cons hle (.refl cs)
 |i+1,[],h=>by simp at h
 |i+1,z::cs,h=>.cons (.refl z) (KG hle i cs (by simpa using h))
theorem oW{c:Code}{Q:Exit->St->Prop}{tm:List (Nat×V)}{own:List Obj}{Ω:Store}(n j i bg:Nat)(cs:List C)(hj:own[j]? =some (.box cs))(hi:cs[i]? =some (.bF []))
 (h:AW P N c Q ⟨tm,(own.set j (.box (cs.set i (.bI (0,own.length) [])))++[.eG n bg []])::Ω⟩):AW P N c Q ⟨tm,own::Ω⟩:=by
 have hjl:=(List.getElem?_eq_some_iff.1 hj).1;have hil:=(List.getElem?_eq_some_iff.1 hi).1;refine Qg j cs (cs.set i (.lG n [])) hj (KG (KE n) i cs hi) ?_;refine lU ?_ (KF (some n) j i bg [] (cs.set i (.lG n [])) (by rw[List.getElem?_set_self hjl]) (by rw[List.getElem?_set_self hil]) (by simp));rw[List.set_set,List.set_set,List.length_set];exact h
theorem FI{c:Code}{Q:Exit->St->Prop}{tm:List (Nat×V)}{own:List Obj}{Ω:Store}(j i bg:Nat)(cs:List C)(hj:own[j]? =some (.box cs))(hi:cs[i]? =some (.bF []))
 (h:AW P N c Q ⟨tm,(own.set j (.box (cs.set i (.bI (0,own.length) [])))++[.tok bg []])::Ω⟩):AW P N c Q ⟨tm,own::Ω⟩:=
 lU h (KF none j i bg [] cs hj hi (by simp))
def KH(x y:D):Prop:=∀w σ v,dK w σ x v->dK w σ y v
theorem KH.refl(x:D):KH x x:=fun _ _ _ h=>h
theorem ZX(d:D)(n:Nat):KH (vB d n) d:=fun w σ v h=>aiv d n v h
inductive nD:List D->List D->Prop
 |nil:nD [] []
 |cons {x y:D} {xs ys:List D}:KH x y->nD xs ys->nD (x::xs) (y::ys)
theorem nD.refl:∀r,nD r r
 |[]=>.nil
 |x::xs=>.cons (.refl x) (nD.refl xs)
theorem nD.length:∀{r r':List D},nD r r'->r.length=r'.length
 |_,_,.nil=>rfl
 |_,_,.cons _ h=>by rw[List.length_cons,List.length_cons,h.length]
theorem nD.at:∀{r r':List D},nD r r'->∀(j:Nat)(y:D),r'[j]? =some y->∃x,r[j]? =some x/\KH x y
 |_,_,.nil,j,y,h=>by simp at h
 |_,_,.cons a h,0,y,h2=>by simp at h2;subst h2;exact⟨_,rfl,a⟩
 |_,_,.cons a h,j+1,y,h2=>h.at j y (by simpa using h2)
theorem Tm:∀(r:List D)(n:Nat),nD (fV r n) r
 |[],n=>.nil
 |d::ds,n=>.cons (ZX d n) (Tm ds _)
theorem nD.append:∀{a a' b b':List D},nD a a'->nD b b'->nD (a++b) (a'++b')
 |_,_,_,_,.nil,h=>h
 |_,_,_,_,.cons x h,k=>.cons x (h.append k)
inductive iH:List (List D)->List (List D)->Prop
 |nil:iH [] []
 |cons {x y:List D} {xs ys:List (List D)}:nD x y->iH xs ys->iH (x::xs) (y::ys)
theorem iH.length:∀{r r':List (List D)},iH r r'->r.length=r'.length
 |_,_,.nil=>rfl
 |_,_,.cons _ h=>by rw[List.length_cons,List.length_cons,h.length]
theorem iH.snoc:∀{a b:List (List D)}{x y:List D},iH a b->nD x y->iH (a++[x]) (b++[y])
 |_,_,_,_,.nil,h=>.cons h .nil
 |_,_,_,_,.cons z h,k=>.cons z (h.snoc k)
theorem iH.rows{z:Nat}:∀{a b:List (List D)},iH a b->(∀r∈b,r.length=z)->∀r∈a,r.length=z
 |_,_,.nil,h,r,hr=>by cases hr
 |_,_,.cons x h,k,r,hr=>by
  rcases List.mem_cons.1 hr with rfl|hr
  ·rw[x.length];exact k _ (by simp)
  ·exact h.rows (fun r hr=>k r (by simp[hr])) r hr
theorem iH.flat:∀{a b:List (List D)},iH a b->nD a.flatten b.flatten
 |_,_,.nil=>.nil
 |_,_,.cons x h=>by rw[List.flatten_cons,List.flatten_cons];exact x.append h.flat
theorem iH.rep{a b:List (List D)}(h:iH a b){w:World}{σ:Nat->Nat}{v:Value}(hr:dK w σ (.sl a) v):dK w σ (.sl b) v:=by
 cases hr with
 |nil ad cap=>
  cases h;exact .nil ad cap
 |sl b0 off cap bg es vals c t fz hcap hlen hb hσ hc hv=>
  have hl:=h.length;rw[hl] at hcap hσ hc ⊢
  have hlb:∀e∈b,e.length=bg:=fun e he=>by
   obtain⟨i,hi,rfl⟩:=List.getElem_of_mem he
   have:∀{a b:List (List D)}(h:iH a b)(i:Nat)(hi:i<b.length)(hi':i<a.length),nD a[i] b[i]:=by
    intro a b h
    induction h with
    |nil=>intro i hi;simp at hi
    |cons x h ih=>intro i hi hi';cases i with
     |zero=>exact x
     |succ i=>exact ih i (by simpa using hi) (by simpa using hi')
   have h1:=this h i hi (by omega);rw[<-h1.length];exact hlen _ (List.getElem_mem _)
  refine .sl b0 off cap bg b vals c t fz hcap hlb hb hσ hc fun j d hd=> ?_;obtain⟨x,hx,hle⟩:=h.flat.at j d hd;exact hle w σ _ (hv j x hx)
theorem oZ:∀(r:List (List D))(n:Nat),iH (eZ r n) r
 |[],n=>.nil
 |d::ds,n=>.cons (Tm d n) (oZ ds _)
inductive kU:List (Bool×List C)->List (Bool×List C)->Prop
 |nil:kU [] []
 |cons {b:Bool} {cs cs':List C} {xs ys:List (Bool×List C)}:gH cs cs'->kU xs ys->kU ((b,cs)::xs) ((b,cs')::ys)
theorem kU.refl:∀xs,kU xs xs
 |[]=>.nil
 |(b,cs)::xs=>.cons (.refl cs) (kU.refl xs)
theorem kU.length:∀{xs ys:List (Bool×List C)},kU xs ys->xs.length=ys.length
 |_,_,.nil=>rfl
 |_,_,.cons _ h=>by rw[List.length_cons,List.length_cons,h.length]
theorem kU.at:∀{xs ys:List (Bool×List C)},kU xs ys->∀(j:Nat)(y:Bool×List C),ys[j]? =some y->∃cs,xs[j]? =some (y.1,cs)/\gH cs y.2
 |_,_,.nil,j,y,h=>by simp at h
 |_,_,.cons a h,0,y,h2=>by simp at h2;subst h2;exact⟨_,rfl,a⟩
 |_,_,.cons a h,j+1,y,h2=>h.at j y (by simpa using h2)
theorem kU.less{xs ys:List (Bool×List C)}(h:kU xs ys):Less (.fF xs) (.fF ys):=by
 rintro w σ S β v ⟨a,ha,hl,hc⟩;refine⟨a,ha,h.length.symm.trans hl,fun j y hy=> ?_⟩;obtain⟨cs,h1,h2⟩:=h.at j y hy;obtain⟨u,hu,hr⟩:=hc j _ h1;refine⟨u,hu,?_⟩;obtain⟨b,cs'⟩:=y
 cases b with
 |true=>
  obtain⟨a',e,hcs⟩:=hr;exact⟨a',e,h2.an0 hcs⟩
 |false=>
  obtain⟨x,e,hx,ho⟩:=hr;simp only at e h2;subst e
  cases h2 with
  |cons hxy hn=>
   cases hn;exact⟨_,rfl,hxy w σ S β u hx,ho⟩
theorem aF.of_le{f:FuncId}{args:List V}{t:V}(h:∀S,bX P f args S fun r S'=>Less r t/\S'=S):aF P f args t:=fun S=>
 ⟨(h S).1,fun w σ β vs hS hv=>((h S).2 w σ β vs hS hv).mono fun e w' ⟨v,r,S',σ',β',h1,h2,h3,h4,h5,h6,h7⟩=>⟨v,t,S',σ',β',h1,h2,h3,h4,h6 _ _ _ _ _ h5,rfl,h7⟩⟩
theorem afs{cs cs':List C}{xs:List (Bool×List C)}(h:∀w σ S β vs,gu w σ S β cs vs->gu w σ S β cs' vs):Less (.fF ((true,cs)::xs)) (.fF ((true,cs')::xs)):=by
 rintro w σ S β v ⟨a,ha,hl,hc⟩;obtain⟨u,hu,a',rfl,hcs⟩:=hc 0 _ rfl;refine⟨a,ha,hl,fun j y hy=> ?_⟩
 cases j with
 |zero=>
  simp at hy;subst hy;exact⟨_,hu,a',rfl,h _ _ _ _ _ hcs⟩
 |succ j=>exact hc (j+1) y (by simpa using hy)
theorem pQ(v:V):Less v v:=fun _ _ _ _ _ h=>h
end
theorem nW(n:Nat):KH (.sl []) (.ol n []):=fun w σ v h=>by
 cases h with
 |nil a cap=>exact .yJ n a cap
 |sl b off cap bg es vals c t fz hcap hlen hb hσ hc hv=>exact .yJ n _ _
theorem KH.trans{a b c:D}(h:KH a b)(k:KH b c):KH a c:=fun w σ v x=>k w σ v (h w σ v x)
theorem nD.trans:∀{a b c:List D},nD a b->nD b c->nD a c
 |_,_,_,.nil,.nil=>.nil
 |_,_,_,.cons x h,.cons y k=>.cons (x.trans y) (h.trans k)
theorem iH.trans:∀{a b c:List (List D)},iH a b->iH b c->iH a c
 |_,_,_,.nil,.nil=>.nil
 |_,_,_,.cons x h,.cons y k=>.cons (x.trans y) (h.trans k)
theorem iH.at{a b:List (List D)}(h:iH a b):∀(i:Nat)(hi:i<b.length)(hi':i<a.length),nD a[i] b[i]:=by
 induction h with
 |nil=>intro i hi;simp at hi
 |cons x h ih=>intro i hi hi';cases i with
  |zero=>exact x
  |succ i=>exact ih i (by simpa using hi) (by simpa using hi')
theorem iH.an1{a b:List (List D)}(h:iH a b){n:Nat}{w:World}{σ:Nat->Nat}{v:Value}(hr:dK w σ (.ol n a) v):dK w σ (.ol n b) v:=by
 cases hr with
 |yJ _ ad cap=>
  cases h;exact .yJ n ad cap
 |ol _ b0 off cap bg es vals c t hcap hlen hb hσ hfit hc hv zI=>
  have hl:=h.length;rw[hl] at hcap hfit hc ⊢
  have hlb:∀e∈b,e.length=bg:=fun e he=>by
   obtain⟨i,hi,rfl⟩:=List.getElem_of_mem he;have h1:=h.at i hi (by omega);rw[<-h1.length];exact hlen _ (List.getElem_mem _)
  refine .ol n b0 off cap bg b vals c t hcap hlb hb hσ hfit hc (fun j d hd=> ?_) zI;obtain⟨x,hx,hle⟩:=h.flat.at j d hd;exact hle w σ _ (hv j x hx)
theorem IZ{n:Nat}{a b:List (List D)}(h:iH a b):pO (.d (.ol n a)) (.d (.ol n b)):=fun w σ S β v hr=>h.an1 hr
theorem aiM{n:Nat}{a b:List (List D)}(h:iH a b):Less (.c (.d (.ol n a))) (.c (.d (.ol n b))):=fun w σ S β v hr=>⟨h.an1 hr.1,hr.2⟩
theorem vX{a b:List (List D)}(h:iH a b):pO (.d (.sl a)) (.d (.sl b)):=fun w σ S β v hr=>h.rep hr
theorem pO.trans{a b c:C}(h:pO a b)(k:pO b c):pO a c:=fun w σ S β v x=>k w σ S β v (h w σ S β v x)
end Go.Ab