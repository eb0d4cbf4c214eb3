/-
  SEVERAL TEXTS IN ONE (merged by program): contracts and models, each with its own heading.
-/
import Derived.Test.YtnceiannponbjaaGreatDoorPartDlbH
set_option linter.unusedSimpArgs false
set_option linter.unusedVariables false
namespace Go.Ab
section
variable {P:Program} {w w':World} {σ σ':Nat->Nat} {S:Store} {β:Hs}
end
section
variable {P:Program} {w w':World} {σ σ':Nat->Nat} {β:Hs}
theorem ae8{own:List Obj}{Ω:Store}(lab:Option Nat)(j i aQ:Nat)(es:List (List D))(cs:List C)(hj:own[j]? =some (.box cs))(hi:cs[i]? =some (match lab with|some n=>.jw n es|none=>.bE es))(hes:∀e∈es,e.length=aQ)(hS:dL w σ (own::Ω) β):
 ∃β',dL w σ ((own.set j (.box (cs.set i (.bK (0,own.length) es)))++[iq lab aQ es])::Ω) β'/\Step (own::Ω) β σ w ((own.set j (.box (cs.set i (.bK (0,own.length) es)))++[iq lab aQ es])::Ω) β' σ w/\Keep (own::Ω) β ((own.set j (.box (cs.set i (.bK (0,own.length) es)))++[iq lab aQ es])::Ω) β':=by
 cases β with
 |nil=>have:=hS.shape.1;simp at this
 |cons bo bΩ=>
 have hlen:bo.length=own.length:=by
  obtain⟨gr,g1,g2⟩:=hS.shape.2 0 own rfl;simp at g1;rw[g1];exact g2
 have hjl:=(List.getElem?_eq_some_iff.1 hj).1
 have hg0:aW (own::Ω) (0,j)=some (.box cs):=by rw[aZ];exact hj
 obtain⟨hb,GZ,hr⟩:=hS.obj (0,j) _ hg0;obtain⟨b,cv,ty,rfl,hbc,hσ,hcs⟩:=hr;have hcs:eX w σ (own::Ω) (bo::bΩ) cs cv.toList:=hcs;obtain⟨v,hv,hc0,hone⟩:=hcs.2 i _ hi
 have hx:∃ad:Option Addr,cu w σ (.sl es) v/\v=.slice ad es.length es.length/\∀n,lab=some n->cu w σ (.ol n es) v:=by
  cases lab with
  |none=>
   obtain⟨hd,ad,n,hval⟩:=hc0
   have hn:n=es.length:=by rw[hval] at hd;cases hd<;>rfl
   exact⟨ad,hd,by rw[hval,hn],fun n e=>by cases e⟩
  |some n=>
   obtain⟨hd,ad,m,hval⟩:=hc0
   have hn:m=es.length:=by
    have:=rX hd;rw[hval] at this;cases this<;>rfl
   exact⟨ad,rX hd,by rw[hval,hn],fun n' e=>by cases e;exact hd⟩
 obtain⟨ad,hd,hval,hol⟩:=hx;have hg:Grow w σ w σ:=Grow.refl hS.live
 obtain⟨hS',hk,hst⟩:=hS.push (o:=iq lab aQ es) (h:=v) hg hlen (by
  cases lab with
  |none=>exact⟨hd,hes,ad,es.length,hval,Nat.le_refl _,.inl rfl⟩
  |some n=>exact⟨hd,hes,ad,es.length,hval,Nat.le_refl _,.inl ⟨rfl,hol n rfl⟩⟩) (fun b hb=>by
  rw[hval] at hb
  cases lab<;>cases ad<;>simp[iq,owns,blk] at hb)
 have hk1:aW ((own++[iq lab aQ es])::Ω) (0,j)=some (.box cs):=iW _ _ _ _ _ hg0;have D8:aW ((bo++[v])::bΩ) (0,j)=some (.pointer (some ⟨b,0,none⟩)):=iW _ _ _ _ _ GZ;have hko:kQ (.box cs) (some (Value.pointer (some ⟨b,0,none⟩))) (.box (cs.set i (.bK (0,own.length) es))) (some (Value.pointer (some ⟨b,0,none⟩))):=.inr ⟨⟨_,rfl⟩,rfl⟩
 have hK:Keep ((own++[iq lab aQ es])::Ω) ((bo++[v])::bΩ) (aX ((own++[iq lab aQ es])::Ω) (0,j) (.box (cs.set i (.bK (0,own.length) es)))) (aX ((bo++[v])::bΩ) (0,j) (.pointer (some ⟨b,0,none⟩))):=by
  intro k1 o1 e1;by_cases e:k1=(0,j)
  ·subst e;rw[hk1] at e1;cases e1;exact⟨_,bW _ _ _ _ hk1,by rw[D8,bW _ _ _ _ D8];exact hko⟩
  ·exact⟨o1,(dR _ _ _ _ (Ne.symm e)).trans e1,by rw[dR _ _ _ _ (Ne.symm e)];exact .refl _ _⟩
 have hne:(0,own.length)≠(0,j):=fun e=>by injection e with _ e;omega
 obtain⟨hS2,hk2,vT⟩:=hS'.set (w':=w) (σ':=σ) (o':=.box (cs.set i (.bK (0,own.length) es))) (h':=.pointer (some ⟨b,0,none⟩)) hk1 D8 (Nat.le_refl _) rfl rfl (dQ.refl _ _) hS'.live (fun _ _ _=>⟨rfl,rfl⟩) hko
  ⟨b,cv,ty,rfl,hbc,hσ,by
    refine⟨by rw[List.length_set];exact hcs.1,fun m x hm=> ?_⟩;rw[List.getElem?_set] at hm;by_cases e:i=m
    ·subst e;rw[if_pos rfl] at hm;split at hm
     ·cases hm;refine⟨v,hv,⟨hd,iq lab aQ es,?_,fun a1 b1 e1=> ?_⟩,hone⟩
      ·show aW (aX _ (0,j) _) (0,own.length)=_;rw[dR _ _ _ _ (Ne.symm hne),bG]
      ·obtain⟨_,rfl⟩:=jD e1;refine⟨Nat.le_refl _,fun _=> ?_⟩;show aW (aX _ (0,j) _) (0,own.length)=_;rw[dR _ _ _ _ (Ne.symm hne),<-hlen,bG]
     ·cases hm
    ·rw[if_neg e] at hm;obtain⟨u,hu,hc,ho⟩:=hcs.2 m x hm
     exact⟨u,hu,(hc.mono (dQ.refl _ _) hk).mono (dQ.refl _ _) hK,ho⟩⟩ (fun _ e=>.inl e)
 have est:aX ((own++[iq lab aQ es])::Ω) (0,j) (.box (cs.set i (.bK (0,own.length) es)))=(own.set j (.box (cs.set i (.bK (0,own.length) es)))++[iq lab aQ es])::Ω:=by
  rw[aX,List.set_append_left _ _ hjl]
 rw[est] at hS2 hk2 vT;exact⟨_,hS2,hst.trans vT,hk.trans hk2⟩
end
section
variable {P:Program} {w w':World} {σ σ':Nat->Nat} {β:Hs} {N:Nat}
def nC(x y:C):Prop:=∀w σ S β v,fT w σ S β x v->fT w σ S β y v
theorem nC.refl(x:C):nC x x:=fun _ _ _ _ _ h=>h
theorem FB(n:Nat):nC (.bE []) (.jw n []):=fun w σ S β v h=>by
 obtain⟨hd,a,m,hv⟩:=h
 have hm:m=0:=by rw[hv] at hd;cases hd<;>rfl
 subst hm;exact⟨by rw[hv];exact .oU _ _ _,a,0,hv⟩
theorem fJ(n:Nat):nC (.bE []) (.d (.ol n [])):=fun w σ S β v h=>(FB n w σ S β v h).1
theorem iF(es:List (List D)):nC (.bE es) (.d (.sl es)):=fun w σ S β v h=>h.1
theorem ae9(n:Nat)(es:List (List D)):nC (.d (.ol n es)) (.d (.sl es)):=fun w σ S β v h=>rX h
inductive eY:List C->List C->Prop
 |nil:eY [] []
 |cons {x y:C} {xs ys:List C}:nC x y->eY xs ys->eY (x::xs) (y::ys)
theorem eY.refl:∀xs,eY xs xs
 |[]=>.nil
 |x::xs=>.cons (.refl x) (eY.refl xs)
theorem eY.length:∀{xs ys:List C},eY xs ys->xs.length=ys.length
 |_,_,.nil=>rfl
 |_,_,.cons _ h=>by rw[List.length_cons,List.length_cons,eY.length h]
theorem eY.at:∀{xs ys:List C},eY xs ys->∀(j:Nat)(x y:C),xs[j]? =some x->ys[j]? =some y->nC x y
 |_,_,.nil,j,x,y,h,_=>by simp at h
 |_,_,.cons a h,0,x,y,h1,h2=>by simp at h1 h2;subst h1;subst h2;exact a
 |_,_,.cons a h,j+1,x,y,h1,h2=>eY.at h j x y (by simpa using h1) (by simpa using h2)
theorem eY.less{xs ys:List C}(h:eY xs ys):Less (.agg xs) (.agg ys):=by
 rintro w σ S β v ⟨a,ha,hc⟩;refine⟨a,ha,h.length.symm.trans hc.1,fun j y hy=> ?_⟩
 have hj:j<xs.length:=by rw[h.length];exact(List.getElem?_eq_some_iff.1 hy).1
 obtain⟨v,h1,h2,h3⟩:=hc.2 j _ (List.getElem?_eq_getElem hj);exact⟨v,h1,h.at j _ y (List.getElem?_eq_getElem hj) hy w σ S β v h2,h3⟩
theorem eY.agM{xs ys:List C}(h:eY xs ys){w:World}{σ:Nat->Nat}{S:Store}{β:Hs}{vs:List Value}(hc:eX w σ S β xs vs):eX w σ S β ys vs:=by
 refine⟨h.length.symm.trans hc.1,fun j y hy=> ?_⟩
 have hj:j<xs.length:=by rw[h.length];exact(List.getElem?_eq_some_iff.1 hy).1
 obtain⟨v,h1,h2,h3⟩:=hc.2 j _ (List.getElem?_eq_getElem hj);exact⟨v,h1,h.at j _ y (List.getElem?_eq_getElem hj) hy w σ S β v h2,h3⟩
theorem acP{own:List Obj}{Ω:Store}(j:Nat)(cs cs':List C)(hj:own[j]? =some (.box cs))(hle:eY cs cs')(hS:dL w σ (own::Ω) β):
 ∃β',dL w σ ((own.set j (.box cs'))::Ω) β'/\Step (own::Ω) β σ w ((own.set j (.box cs'))::Ω) β' σ w/\Keep (own::Ω) β ((own.set j (.box cs'))::Ω) β'/\fH β'=fH β/\β'.length=β.length:=by
 cases β with
 |nil=>have:=hS.shape.1;simp at this
 |cons bo bΩ=>
 have hg0:aW (own::Ω) (0,j)=some (.box cs):=by rw[aZ];exact hj
 obtain⟨hb,GZ,hr⟩:=hS.obj (0,j) _ hg0;obtain⟨b,cv,ty,rfl,hbc,hσ,hcs⟩:=hr;have hcs:eX w σ (own::Ω) (bo::bΩ) cs cv.toList:=hcs;have hko:kQ (.box cs) (some (Value.pointer (some ⟨b,0,none⟩))) (.box cs') (some (Value.pointer (some ⟨b,0,none⟩))):=.inr ⟨⟨_,rfl⟩,rfl⟩
 have hK:Keep (own::Ω) (bo::bΩ) (aX (own::Ω) (0,j) (.box cs')) (aX (bo::bΩ) (0,j) (.pointer (some ⟨b,0,none⟩))):=by
  intro k1 o1 e1;by_cases e:k1=(0,j)
  ·subst e;rw[hg0] at e1;cases e1;exact⟨_,bW _ _ _ _ hg0,by rw[GZ,bW _ _ _ _ GZ];exact hko⟩
  ·exact⟨o1,(dR _ _ _ _ (Ne.symm e)).trans e1,by rw[dR _ _ _ _ (Ne.symm e)];exact .refl _ _⟩
 obtain⟨hS2,hk2,vT⟩:=hS.set (w':=w) (σ':=σ) (o':=.box cs') (h':=.pointer (some ⟨b,0,none⟩)) hg0 GZ (Nat.le_refl _) rfl rfl (dQ.refl _ _) hS.live (fun _ _ _=>⟨rfl,rfl⟩) hko
  ⟨b,cv,ty,rfl,hbc,hσ,by
    have h1:=hle.agM hcs;refine⟨h1.1,fun m x hm=> ?_⟩;obtain⟨u,hu,hc,ho⟩:=h1.2 m x hm
    exact⟨u,hu,hc.mono (dQ.refl _ _) hK,ho⟩⟩ (fun _ e=>.inl e)
 have est:aX (own::Ω) (0,j) (.box cs')=(own.set j (.box cs'))::Ω:=rfl;rw[est] at hS2 hk2 vT;exact⟨_,hS2,vT,hk2,rfl,by simp[aX]⟩
theorem NY{tm:List (Nat×V)}{own:List Obj}{Ω:Store}(j:Nat)(cs cs':List C)(hj:own[j]? =some (.box cs))(hle:eY cs cs'):fP N ⟨tm,own::Ω⟩ ⟨tm,(own.set j (.box cs'))::Ω⟩:=by
 intro a w σ β hR;obtain⟨β',hS,hst,hk,ht,_⟩:=acP j cs cs' hj hle hR.S;refine⟨σ,β',⟨hR.size,hR.defers,hS,fun u=>(hR.T u).mono (dQ.refl _ _) hk⟩,hst,?_⟩;rw[ht];exact Keep.refl _ _
theorem FC{tm:List (Nat×V)}{own:List Obj}{Ω:Store}(lab:Option Nat)(j i aQ:Nat)(es:List (List D))(cs:List C)(hj:own[j]? =some (.box cs))(hi:cs[i]? =some (match lab with|some n=>.jw n es|none=>.bE es))(hes:∀e∈es,e.length=aQ):
 fP N ⟨tm,own::Ω⟩ ⟨tm,(own.set j (.box (cs.set i (.bK (0,own.length) es)))++[iq lab aQ es])::Ω⟩:=by
 intro a w σ β hR;obtain⟨β',hS,hst,hk⟩:=ae8 lab j i aQ es cs hj hi hes hR.S;refine⟨σ,β',⟨hR.size,hR.defers,hS,fun u=>(hR.T u).mono (dQ.refl _ _) hk⟩,hst,?_⟩;intro k o hko
 obtain⟨o',h1,h2⟩:=hk (k.1+1,k.2) o (by
  obtain⟨l,i⟩:=k;show aW (own::Ω) (l+1,i)=_
  rw[bM];exact hko)
 obtain⟨bo,bΩ,rfl,_⟩:=frames hR;have h3:=hS.shape.1
 cases β' with
 |nil=>simp at h3
 |cons bo' bΩ'=>
  rw[bM] at h1;rw[bM,bM] at h2;exact⟨o',h1,h2⟩
theorem DR{c:Code}{Q:Exit->St->Prop}{tm:List (Nat×V)}{own:List Obj}{Ω:Store}(j:Nat)(cs cs':List C)(hj:own[j]? =some (.box cs))(hle:eY cs cs')(h:AW P N c Q ⟨tm,(own.set j (.box cs'))::Ω⟩):AW P N c Q ⟨tm,own::Ω⟩:=kD h (NY j cs cs' hj hle)
theorem Bh{x y:C}(hle:nC x y):∀(i:Nat)(cs:List C),cs[i]? =some x->eY cs (cs.set i y)
 |0,[],h=>by simp at h
 |0,z::cs,h=>by simp at h;subst h;exact .cons hle (.refl cs)
 |i+1,[],h=>by simp at h
 |i+1,z::cs,h=>.cons (.refl z) (Bh hle i cs (by simpa using h))
theorem zn{c:Code}{Q:Exit->St->Prop}{tm:List (Nat×V)}{own:List Obj}{Ω:Store}(n j i aQ:Nat)(cs:List C)(hj:own[j]? =some (.box cs))(hi:cs[i]? =some (.bE []))
 (h:AW P N c Q ⟨tm,(own.set j (.box (cs.set i (.bK (0,own.length) [])))++[.dY n aQ []])::Ω⟩):AW P N c Q ⟨tm,own::Ω⟩:=by
 have hjl:=(List.getElem?_eq_some_iff.1 hj).1;have hil:=(List.getElem?_eq_some_iff.1 hi).1;refine DR j cs (cs.set i (.jw n [])) hj (Bh (FB n) i cs hi) ?_;refine kD ?_ (FC (some n) j i aQ [] (cs.set i (.jw n [])) (by rw[List.getElem?_set_self hjl]) (by rw[List.getElem?_set_self hil]) (by simp));rw[List.set_set,List.set_set,List.length_set];exact h
theorem yD{c:Code}{Q:Exit->St->Prop}{tm:List (Nat×V)}{own:List Obj}{Ω:Store}(j i aQ:Nat)(cs:List C)(hj:own[j]? =some (.box cs))(hi:cs[i]? =some (.bE []))
 (h:AW P N c Q ⟨tm,(own.set j (.box (cs.set i (.bK (0,own.length) [])))++[.tok aQ []])::Ω⟩):AW P N c Q ⟨tm,own::Ω⟩:=
 kD h (FC none j i aQ [] cs hj hi (by simp))
def HY(x y:D):Prop:=∀w σ v,cu w σ x v->cu w σ y v
theorem HY.refl(x:D):HY x x:=fun _ _ _ h=>h
theorem afa(d:D)(n:Nat):HY (lC d n) d:=fun w σ v h=>acw d n v h
inductive kR:List D->List D->Prop
 |nil:kR [] []
 |cons {x y:D} {xs ys:List D}:HY x y->kR xs ys->kR (x::xs) (y::ys)
theorem kR.refl:∀r,kR r r
 |[]=>.nil
 |x::xs=>.cons (.refl x) (kR.refl xs)
theorem kR.length:∀{r r':List D},kR r r'->r.length=r'.length
 |_,_,.nil=>rfl
 |_,_,.cons _ h=>by rw[List.length_cons,List.length_cons,h.length]
theorem kR.at:∀{r r':List D},kR r r'->∀(j:Nat)(y:D),r'[j]? =some y->∃x,r[j]? =some x/\HY x y
 |_,_,.nil,j,y,h=>by simp at h
 |_,_,.cons a h,0,y,h2=>by simp at h2;subst h2;exact⟨_,rfl,a⟩
 |_,_,.cons a h,j+1,y,h2=>h.at j y (by simpa using h2)
theorem M9:∀(r:List D)(n:Nat),kR (dW r n) r
 |[],n=>.nil
 |d::ds,n=>.cons (afa d n) (M9 ds _)
theorem kR.append:∀{a a' b b':List D},kR a a'->kR b b'->kR (a++b) (a'++b')
 |_,_,_,_,.nil,h=>h
 |_,_,_,_,.cons x h,k=>.cons x (h.append k)
inductive gV:List (List D)->List (List D)->Prop
 |nil:gV [] []
 |cons {x y:List D} {xs ys:List (List D)}:kR x y->gV xs ys->gV (x::xs) (y::ys)
theorem gV.length:∀{r r':List (List D)},gV r r'->r.length=r'.length
 |_,_,.nil=>rfl
 |_,_,.cons _ h=>by rw[List.length_cons,List.length_cons,h.length]
theorem gV.snoc:∀{a b:List (List D)}{x y:List D},gV a b->kR x y->gV (a++[x]) (b++[y])
 |_,_,_,_,.nil,h=>.cons h .nil
 |_,_,_,_,.cons z h,k=>.cons z (h.snoc k)
theorem gV.rows{z:Nat}:∀{a b:List (List D)},gV a b->(∀r∈b,r.length=z)->∀r∈a,r.length=z
 |_,_,.nil,h,r,hr=>by cases hr
 |_,_,.cons x h,k,r,hr=>by
  rcases List.mem_cons.1 hr with rfl|hr
  ·rw[x.length];exact k _ (by simp)
  ·exact h.rows (fun r hr=>k r (by simp[hr])) r hr
theorem gV.flat:∀{a b:List (List D)},gV a b->kR a.flatten b.flatten
 |_,_,.nil=>.nil
 |_,_,.cons x h=>by rw[List.flatten_cons,List.flatten_cons];exact x.append h.flat
theorem gV.rep{a b:List (List D)}(h:gV a b){w:World}{σ:Nat->Nat}{v:Value}(hr:cu w σ (.sl a) v):cu w σ (.sl b) v:=by
 cases hr with
 |nil ad cap=>
  cases h;exact .nil ad cap
 |sl b0 off cap aQ es vals c t fz hcap hlen hb hσ hc hv=>
  have hl:=h.length;rw[hl] at hcap hσ hc ⊢
  have hlb:∀e∈b,e.length=aQ:=fun e he=>by
   obtain⟨i,hi,rfl⟩:=List.getElem_of_mem he
   have:∀{a b:List (List D)}(h:gV a b)(i:Nat)(hi:i<b.length)(hi':i<a.length),kR a[i] b[i]:=by
    intro a b h
    induction h with
    |nil=>intro i hi;simp at hi
    |cons x h ih=>intro i hi hi';cases i with
     |zero=>exact x
     |succ i=>exact ih i (by simpa using hi) (by simpa using hi')
   have h1:=this h i hi (by omega);rw[<-h1.length];exact hlen _ (List.getElem_mem _)
  refine .sl b0 off cap aQ b vals c t fz hcap hlb hb hσ hc fun j d hd=> ?_;obtain⟨x,hx,hle⟩:=h.flat.at j d hd;exact hle w σ _ (hv j x hx)
theorem BL:∀(r:List (List D))(n:Nat),gV (eP r n) r
 |[],n=>.nil
 |d::ds,n=>.cons (M9 d n) (BL ds _)
inductive kN:List (Bool×List C)->List (Bool×List C)->Prop
 |nil:kN [] []
 |cons {b:Bool} {cs cs':List C} {xs ys:List (Bool×List C)}:eY cs cs'->kN xs ys->kN ((b,cs)::xs) ((b,cs')::ys)
theorem kN.refl:∀xs,kN xs xs
 |[]=>.nil
 |(b,cs)::xs=>.cons (.refl cs) (kN.refl xs)
theorem kN.length:∀{xs ys:List (Bool×List C)},kN xs ys->xs.length=ys.length
 |_,_,.nil=>rfl
 |_,_,.cons _ h=>by rw[List.length_cons,List.length_cons,h.length]
theorem kN.at:∀{xs ys:List (Bool×List C)},kN xs ys->∀(j:Nat)(y:Bool×List C),ys[j]? =some y->∃cs,xs[j]? =some (y.1,cs)/\eY cs y.2
 |_,_,.nil,j,y,h=>by simp at h
 |_,_,.cons a h,0,y,h2=>by simp at h2;subst h2;exact⟨_,rfl,a⟩
 |_,_,.cons a h,j+1,y,h2=>h.at j y (by simpa using h2)
theorem kN.less{xs ys:List (Bool×List C)}(h:kN xs ys):Less (.eU xs) (.eU ys):=by
 rintro w σ S β v ⟨a,ha,hl,hc⟩;refine⟨a,ha,h.length.symm.trans hl,fun j y hy=> ?_⟩;obtain⟨cs,h1,h2⟩:=h.at j y hy;obtain⟨u,hu,hr⟩:=hc j _ h1;refine⟨u,hu,?_⟩;obtain⟨b,cs'⟩:=y
 cases b with
 |true=>
  obtain⟨a',e,hcs⟩:=hr;exact⟨a',e,h2.agM hcs⟩
 |false=>
  obtain⟨x,e,hx,ho⟩:=hr;simp only at e h2;subst e
  cases h2 with
  |cons hxy hn=>
   cases hn;exact⟨_,rfl,hxy w σ S β u hx,ho⟩
theorem aJ.of_le{f:FuncId}{args:List V}{t:V}(h:∀S,bJ P f args S fun r S'=>Less r t/\S'=S):aJ P f args t:=fun S=>
 ⟨(h S).1,fun w σ β vs hS hv=>((h S).2 w σ β vs hS hv).mono fun e w' ⟨v,r,S',σ',β',h1,h2,h3,h4,h5,h6,h7⟩=>⟨v,t,S',σ',β',h1,h2,h3,h4,h6 _ _ _ _ _ h5,rfl,h7⟩⟩
theorem Na{cs cs':List C}{xs:List (Bool×List C)}(h:∀w σ S β vs,eX w σ S β cs vs->eX w σ S β cs' vs):Less (.eU ((true,cs)::xs)) (.eU ((true,cs')::xs)):=by
 rintro w σ S β v ⟨a,ha,hl,hc⟩;obtain⟨u,hu,a',rfl,hcs⟩:=hc 0 _ rfl;refine⟨a,ha,hl,fun j y hy=> ?_⟩
 cases j with
 |zero=>
  simp at hy;subst hy;exact⟨_,hu,a',rfl,h _ _ _ _ _ hcs⟩
 |succ j=>exact hc (j+1) y (by simpa using hy)
theorem jL(v:V):Less v v:=fun _ _ _ _ _ h=>h
end
end Go.Ab