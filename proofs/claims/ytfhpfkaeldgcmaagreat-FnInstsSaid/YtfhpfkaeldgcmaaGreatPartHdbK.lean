/-
  SEVERAL TEXTS IN ONE (merged by program): contracts and models, each with its own heading.
-/
import Derived.Test.YtfhpfkaeldgcmaaGreatPartHdbJ
set_option linter.unusedSimpArgs false
set_option linter.unusedVariables false
namespace Go.Ab
section
variable {P:Program} {w w':World} {σ σ':Nat->Nat} {S:Store} {β:Hs}
end
section
variable {P:Program} {w w':World} {σ σ':Nat->Nat} {β:Hs}
theorem afR{own:List Obj}{Ω:Store}(lab:Option Nat)(j i aY:Nat)(es:List (List D))(cs:List C)(hj:own[j]? =some (.box cs))(hi:cs[i]? =some (match lab with|some n=>.nu n es|none=>.bI es))(hes:∀e∈es,e.length=aY)(hS:eF w σ (own::Ω) β):
 ∃β',eF w σ ((own.set j (.box (cs.set i (.bX (0,own.length) es)))++[iU lab aY es])::Ω) β'/\Step (own::Ω) β σ w ((own.set j (.box (cs.set i (.bX (0,own.length) es)))++[iU lab aY es])::Ω) β' σ w/\Keep (own::Ω) β ((own.set j (.box (cs.set i (.bX (0,own.length) es)))++[iU lab aY es])::Ω) β':=by
 cases β with
 |nil=>have:=hS.shape.1;simp at this
 |cons bo bΩ=>
 have hlen:bo.length=own.length:=by
  obtain⟨gr,g1,g2⟩:=hS.shape.2 0 own rfl;simp at g1;rw[g1];exact g2
 have hjl:=(List.getElem?_eq_some_iff.1 hj).1
 have hg0:bg (own::Ω) (0,j)=some (.box cs):=by rw[bD];exact hj
 obtain⟨hb,HV,hr⟩:=hS.obj (0,j) _ hg0;obtain⟨b,cv,ty,rfl,hbc,hσ,hcs⟩:=hr;have hcs:fD w σ (own::Ω) (bo::bΩ) cs cv.toList:=hcs;obtain⟨v,hv,hc0,hone⟩:=hcs.2 i _ hi
 have hx:∃ad:Option Addr,dM w σ (.sl es) v/\v=.slice ad es.length es.length/\∀n,lab=some n->dM w σ (.ol n es) v:=by
  cases lab with
  |none=>
   obtain⟨hd,ad,n,hval⟩:=hc0
   have hn:n=es.length:=by rw[hval] at hd;cases hd<;>rfl
   exact⟨ad,hd,by rw[hval,hn],fun n e=>by cases e⟩
  |some n=>
   obtain⟨hd,ad,m,hval⟩:=hc0
   have hn:m=es.length:=by
    have:=EY hd;rw[hval] at this;cases this<;>rfl
   exact⟨ad,EY hd,by rw[hval,hn],fun n' e=>by cases e;exact hd⟩
 obtain⟨ad,hd,hval,hol⟩:=hx;have hg:Grow w σ w σ:=Grow.refl hS.live
 obtain⟨hS',hk,hst⟩:=hS.push (o:=iU lab aY es) (h:=v) hg hlen (by
  cases lab with
  |none=>exact⟨hd,hes,ad,es.length,hval,Nat.le_refl _,.inl rfl⟩
  |some n=>exact⟨hd,hes,ad,es.length,hval,Nat.le_refl _,.inl ⟨rfl,hol n rfl⟩⟩) (fun b hb=>by
  rw[hval] at hb
  cases lab<;>cases ad<;>simp[iU,owns,blk] at hb)
 have hk1:bg ((own++[iU lab aY es])::Ω) (0,j)=some (.box cs):=jo _ _ _ _ _ hg0;have Ki:bg ((bo++[v])::bΩ) (0,j)=some (.pointer (some ⟨b,0,none⟩)):=jo _ _ _ _ _ HV;have hko:kT (.box cs) (some (Value.pointer (some ⟨b,0,none⟩))) (.box (cs.set i (.bX (0,own.length) es))) (some (Value.pointer (some ⟨b,0,none⟩))):=.inr ⟨⟨_,rfl⟩,rfl⟩
 have hK:Keep ((own++[iU lab aY es])::Ω) ((bo++[v])::bΩ) (aX ((own++[iU lab aY es])::Ω) (0,j) (.box (cs.set i (.bX (0,own.length) es)))) (aX ((bo++[v])::bΩ) (0,j) (.pointer (some ⟨b,0,none⟩))):=by
  intro k1 o1 e1;by_cases e:k1=(0,j)
  ·subst e;rw[hk1] at e1;cases e1;exact⟨_,dn _ _ _ _ hk1,by rw[Ki,dn _ _ _ _ Ki];exact hko⟩
  ·exact⟨o1,(eY _ _ _ _ (Ne.symm e)).trans e1,by rw[eY _ _ _ _ (Ne.symm e)];exact .refl _ _⟩
 have hne:(0,own.length)≠(0,j):=fun e=>by injection e with _ e;omega
 obtain⟨hS2,hk2,Ai⟩:=hS'.set (w':=w) (σ':=σ) (o':=.box (cs.set i (.bX (0,own.length) es))) (h':=.pointer (some ⟨b,0,none⟩)) hk1 Ki (Nat.le_refl _) rfl rfl (eD.refl _ _) hS'.live (fun _ _ _=>⟨rfl,rfl⟩) hko
  ⟨b,cv,ty,rfl,hbc,hσ,by
    refine⟨by rw[List.length_set];exact hcs.1,fun m x hm=> ?_⟩;rw[List.getElem?_set] at hm;by_cases e:i=m
    ·subst e;rw[if_pos rfl] at hm;split at hm
     ·cases hm;refine⟨v,hv,⟨hd,iU lab aY es,?_,fun a1 b1 e1=> ?_⟩,hone⟩
      ·show bg (aX _ (0,j) _) (0,own.length)=_;rw[eY _ _ _ _ (Ne.symm hne),dH]
      ·obtain⟨_,rfl⟩:=pX e1;refine⟨Nat.le_refl _,fun _=> ?_⟩;show bg (aX _ (0,j) _) (0,own.length)=_;rw[eY _ _ _ _ (Ne.symm hne),<-hlen,dH]
     ·cases hm
    ·rw[if_neg e] at hm;obtain⟨u,hu,hc,ho⟩:=hcs.2 m x hm
     exact⟨u,hu,(hc.mono (eD.refl _ _) hk).mono (eD.refl _ _) hK,ho⟩⟩ (fun _ e=>.inl e)
 have est:aX ((own++[iU lab aY es])::Ω) (0,j) (.box (cs.set i (.bX (0,own.length) es)))=(own.set j (.box (cs.set i (.bX (0,own.length) es)))++[iU lab aY es])::Ω:=by
  rw[aX,List.set_append_left _ _ hjl]
 rw[est] at hS2 hk2 Ai;exact⟨_,hS2,hst.trans Ai,hk.trans hk2⟩
end
section
variable {P:Program} {w w':World} {σ σ':Nat->Nat} {β:Hs} {N:Nat}
def uJ(x y:C):Prop:=∀w σ S β v,gF w σ S β x v->gF w σ S β y v
theorem uJ.refl(x:C):uJ x x:=fun _ _ _ _ _ h=>h
theorem eG(es:List (List D)):uJ (.bI es) (.d (.sl es)):=fun w σ S β v h=>h.1
inductive gy:List C->List C->Prop
 |nil:gy [] []
 |cons {x y:C} {xs ys:List C}:uJ x y->gy xs ys->gy (x::xs) (y::ys)
theorem gy.refl:∀xs,gy xs xs
 |[]=>.nil
 |x::xs=>.cons (.refl x) (gy.refl xs)
theorem gy.length:∀{xs ys:List C},gy xs ys->xs.length=ys.length
 |_,_,.nil=>rfl
 |_,_,.cons _ h=>by rw[List.length_cons,List.length_cons,gy.length h]
theorem gy.at:∀{xs ys:List C},gy xs ys->∀(j:Nat)(x y:C),xs[j]? =some x->ys[j]? =some y->uJ x y
 |_,_,.nil,j,x,y,h,_=>by simp at h
 |_,_,.cons a h,0,x,y,h1,h2=>by simp at h1 h2;subst h1;subst h2;exact a
 |_,_,.cons a h,j+1,x,y,h1,h2=>gy.at h j x y (by simpa using h1) (by simpa using h2)
theorem gy.less{xs ys:List C}(h:gy xs ys):Less (.agg xs) (.agg ys):=by
 rintro w σ S β v ⟨a,ha,hc⟩;refine⟨a,ha,h.length.symm.trans hc.1,fun j y hy=> ?_⟩
 have hj:j<xs.length:=by rw[h.length];exact(List.getElem?_eq_some_iff.1 hy).1
 obtain⟨v,h1,h2,h3⟩:=hc.2 j _ (List.getElem?_eq_getElem hj);exact⟨v,h1,h.at j _ y (List.getElem?_eq_getElem hj) hy w σ S β v h2,h3⟩
theorem gy.ahE{xs ys:List C}(h:gy xs ys){w:World}{σ:Nat->Nat}{S:Store}{β:Hs}{vs:List Value}(hc:fD w σ S β xs vs):fD w σ S β ys vs:=by
 refine⟨h.length.symm.trans hc.1,fun j y hy=> ?_⟩
 have hj:j<xs.length:=by rw[h.length];exact(List.getElem?_eq_some_iff.1 hy).1
 obtain⟨v,h1,h2,h3⟩:=hc.2 j _ (List.getElem?_eq_getElem hj);exact⟨v,h1,h.at j _ y (List.getElem?_eq_getElem hj) hy w σ S β v h2,h3⟩
theorem ada{own:List Obj}{Ω:Store}(j:Nat)(cs cs':List C)(hj:own[j]? =some (.box cs))(hle:gy cs cs')(hS:eF w σ (own::Ω) β):
 ∃β',eF w σ ((own.set j (.box cs'))::Ω) β'/\Step (own::Ω) β σ w ((own.set j (.box cs'))::Ω) β' σ w/\Keep (own::Ω) β ((own.set j (.box cs'))::Ω) β'/\gB β'=gB β/\β'.length=β.length:=by
 cases β with
 |nil=>have:=hS.shape.1;simp at this
 |cons bo bΩ=>
 have hg0:bg (own::Ω) (0,j)=some (.box cs):=by rw[bD];exact hj
 obtain⟨hb,HV,hr⟩:=hS.obj (0,j) _ hg0;obtain⟨b,cv,ty,rfl,hbc,hσ,hcs⟩:=hr;have hcs:fD w σ (own::Ω) (bo::bΩ) cs cv.toList:=hcs;have hko:kT (.box cs) (some (Value.pointer (some ⟨b,0,none⟩))) (.box cs') (some (Value.pointer (some ⟨b,0,none⟩))):=.inr ⟨⟨_,rfl⟩,rfl⟩
 have hK:Keep (own::Ω) (bo::bΩ) (aX (own::Ω) (0,j) (.box cs')) (aX (bo::bΩ) (0,j) (.pointer (some ⟨b,0,none⟩))):=by
  intro k1 o1 e1;by_cases e:k1=(0,j)
  ·subst e;rw[hg0] at e1;cases e1;exact⟨_,dn _ _ _ _ hg0,by rw[HV,dn _ _ _ _ HV];exact hko⟩
  ·exact⟨o1,(eY _ _ _ _ (Ne.symm e)).trans e1,by rw[eY _ _ _ _ (Ne.symm e)];exact .refl _ _⟩
 obtain⟨hS2,hk2,Ai⟩:=hS.set (w':=w) (σ':=σ) (o':=.box cs') (h':=.pointer (some ⟨b,0,none⟩)) hg0 HV (Nat.le_refl _) rfl rfl (eD.refl _ _) hS.live (fun _ _ _=>⟨rfl,rfl⟩) hko
  ⟨b,cv,ty,rfl,hbc,hσ,by
    have h1:=hle.ahE hcs;refine⟨h1.1,fun m x hm=> ?_⟩;obtain⟨u,hu,hc,ho⟩:=h1.2 m x hm
    exact⟨u,hu,hc.mono (eD.refl _ _) hK,ho⟩⟩ (fun _ e=>.inl e)
 have est:aX (own::Ω) (0,j) (.box cs')=(own.set j (.box cs'))::Ω:=rfl;rw[est] at hS2 hk2 Ai;exact⟨_,hS2,Ai,hk2,rfl,by simp[aX]⟩
theorem Ov{tm:List (Nat×V)}{own:List Obj}{Ω:Store}(j:Nat)(cs cs':List C)(hj:own[j]? =some (.box cs))(hle:gy cs cs'):gK N ⟨tm,own::Ω⟩ ⟨tm,(own.set j (.box cs'))::Ω⟩:=by
 intro a w σ β hR;obtain⟨β',hS,hst,hk,ht,_⟩:=ada j cs cs' hj hle hR.S;refine⟨σ,β',⟨hR.size,hR.defers,hS,fun u=>(hR.T u).mono (eD.refl _ _) hk⟩,hst,?_⟩;rw[ht];exact Keep.refl _ _
theorem QO{tm:List (Nat×V)}{own:List Obj}{Ω:Store}(lab:Option Nat)(j i aY:Nat)(es:List (List D))(cs:List C)(hj:own[j]? =some (.box cs))(hi:cs[i]? =some (match lab with|some n=>.nu n es|none=>.bI es))(hes:∀e∈es,e.length=aY):
 gK N ⟨tm,own::Ω⟩ ⟨tm,(own.set j (.box (cs.set i (.bX (0,own.length) es)))++[iU lab aY es])::Ω⟩:=by
 intro a w σ β hR;obtain⟨β',hS,hst,hk⟩:=afR lab j i aY es cs hj hi hes hR.S;refine⟨σ,β',⟨hR.size,hR.defers,hS,fun u=>(hR.T u).mono (eD.refl _ _) hk⟩,hst,?_⟩;intro k o hko
 obtain⟨o',h1,h2⟩:=hk (k.1+1,k.2) o (by
  obtain⟨l,i⟩:=k;show bg (own::Ω) (l+1,i)=_
  rw[bY];exact hko)
 obtain⟨bo,bΩ,rfl,_⟩:=frames hR;have h3:=hS.shape.1
 cases β' with
 |nil=>simp at h3
 |cons bo' bΩ'=>
  rw[bY] at h1;rw[bY,bY] at h2;exact⟨o',h1,h2⟩
theorem WI{c:Code}{Q:Exit->St->Prop}{tm:List (Nat×V)}{own:List Obj}{Ω:Store}(j:Nat)(cs cs':List C)(hj:own[j]? =some (.box cs))(hle:gy cs cs')(h:AW P N c Q ⟨tm,(own.set j (.box cs'))::Ω⟩):AW P N c Q ⟨tm,own::Ω⟩:=lU h (Ov j cs cs' hj hle)
theorem Nr{x y:C}(hle:uJ x y):∀(i:Nat)(cs:List C),cs[i]? =some x->gy cs (cs.set i y)
 |0,[],h=>by simp at h
 |0,z::cs,h=>by simp at h;subst h;exact .cons hle (.refl cs)
 |i+1,[],h=>by simp at h
 |i+1,z::cs,h=>.cons (.refl z) (Nr hle i cs (by simpa using h))
theorem jr{c:Code}{Q:Exit->St->Prop}{tm:List (Nat×V)}{own:List Obj}{Ω:Store}(j i aY:Nat)(cs:List C)(hj:own[j]? =some (.box cs))(hi:cs[i]? =some (.bI []))
 (h:AW P N c Q ⟨tm,(own.set j (.box (cs.set i (.bX (0,own.length) [])))++[.tok aY []])::Ω⟩):AW P N c Q ⟨tm,own::Ω⟩:=
 lU h (QO none j i aY [] cs hj hi (by simp))
def Ns(x y:D):Prop:=∀w σ v,dM w σ x v->dM w σ y v
theorem Ns.refl(x:D):Ns x x:=fun _ _ _ h=>h
inductive lC:List D->List D->Prop
 |nil:lC [] []
 |cons {x y:D} {xs ys:List D}:Ns x y->lC xs ys->lC (x::xs) (y::ys)
theorem lC.refl:∀r,lC r r
 |[]=>.nil
 |x::xs=>.cons (.refl x) (lC.refl xs)
theorem lC.length:∀{r r':List D},lC r r'->r.length=r'.length
 |_,_,.nil=>rfl
 |_,_,.cons _ h=>by rw[List.length_cons,List.length_cons,h.length]
theorem lC.at:∀{r r':List D},lC r r'->∀(j:Nat)(y:D),r'[j]? =some y->∃x,r[j]? =some x/\Ns x y
 |_,_,.nil,j,y,h=>by simp at h
 |_,_,.cons a h,0,y,h2=>by simp at h2;subst h2;exact⟨_,rfl,a⟩
 |_,_,.cons a h,j+1,y,h2=>h.at j y (by simpa using h2)
theorem lC.append:∀{a a' b b':List D},lC a a'->lC b b'->lC (a++b) (a'++b')
 |_,_,_,_,.nil,h=>h
 |_,_,_,_,.cons x h,k=>.cons x (h.append k)
inductive kg:List (List D)->List (List D)->Prop
 |nil:kg [] []
 |cons {x y:List D} {xs ys:List (List D)}:lC x y->kg xs ys->kg (x::xs) (y::ys)
theorem kg.length:∀{r r':List (List D)},kg r r'->r.length=r'.length
 |_,_,.nil=>rfl
 |_,_,.cons _ h=>by rw[List.length_cons,List.length_cons,h.length]
theorem kg.snoc:∀{a b:List (List D)}{x y:List D},kg a b->lC x y->kg (a++[x]) (b++[y])
 |_,_,_,_,.nil,h=>.cons h .nil
 |_,_,_,_,.cons z h,k=>.cons z (h.snoc k)
theorem kg.rows{z:Nat}:∀{a b:List (List D)},kg a b->(∀r∈b,r.length=z)->∀r∈a,r.length=z
 |_,_,.nil,h,r,hr=>by cases hr
 |_,_,.cons x h,k,r,hr=>by
  rcases List.mem_cons.1 hr with rfl|hr
  ·rw[x.length];exact k _ (by simp)
  ·exact h.rows (fun r hr=>k r (by simp[hr])) r hr
theorem kg.flat:∀{a b:List (List D)},kg a b->lC a.flatten b.flatten
 |_,_,.nil=>.nil
 |_,_,.cons x h=>by rw[List.flatten_cons,List.flatten_cons];exact x.append h.flat
theorem kg.rep{a b:List (List D)}(h:kg a b){w:World}{σ:Nat->Nat}{v:Value}(hr:dM w σ (.sl a) v):dM w σ (.sl b) v:=by
 cases hr with
 |nil ad cap=>
  cases h;exact .nil ad cap
 |sl b0 off cap aY es vals c t fz hcap hlen hb hσ hc hv=>
  have hl:=h.length;rw[hl] at hcap hσ hc ⊢
  have hlb:∀e∈b,e.length=aY:=fun e he=>by
   obtain⟨i,hi,rfl⟩:=List.getElem_of_mem he
   have:∀{a b:List (List D)}(h:kg a b)(i:Nat)(hi:i<b.length)(hi':i<a.length),lC a[i] b[i]:=by
    intro a b h
    induction h with
    |nil=>intro i hi;simp at hi
    |cons x h ih=>intro i hi hi';cases i with
     |zero=>exact x
     |succ i=>exact ih i (by simpa using hi) (by simpa using hi')
   have h1:=this h i hi (by omega);rw[<-h1.length];exact hlen _ (List.getElem_mem _)
  refine .sl b0 off cap aY b vals c t fz hcap hlb hb hσ hc fun j d hd=> ?_;obtain⟨x,hx,hle⟩:=h.flat.at j d hd;exact hle w σ _ (hv j x hx)
inductive jR:List (Bool×List C)->List (Bool×List C)->Prop
 |nil:jR [] []
 |cons {b:Bool} {cs cs':List C} {xs ys:List (Bool×List C)}:gy cs cs'->jR xs ys->jR ((b,cs)::xs) ((b,cs')::ys)
theorem jR.refl:∀xs,jR xs xs
 |[]=>.nil
 |(b,cs)::xs=>.cons (.refl cs) (jR.refl xs)
theorem jR.length:∀{xs ys:List (Bool×List C)},jR xs ys->xs.length=ys.length
 |_,_,.nil=>rfl
 |_,_,.cons _ h=>by rw[List.length_cons,List.length_cons,h.length]
theorem jR.at:∀{xs ys:List (Bool×List C)},jR xs ys->∀(j:Nat)(y:Bool×List C),ys[j]? =some y->∃cs,xs[j]? =some (y.1,cs)/\gy cs y.2
 |_,_,.nil,j,y,h=>by simp at h
 |_,_,.cons a h,0,y,h2=>by simp at h2;subst h2;exact⟨_,rfl,a⟩
 |_,_,.cons a h,j+1,y,h2=>h.at j y (by simpa using h2)
theorem jR.less{xs ys:List (Bool×List C)}(h:jR xs ys):Less (.eH xs) (.eH ys):=by
 rintro w σ S β v ⟨a,ha,hl,hc⟩;refine⟨a,ha,h.length.symm.trans hl,fun j y hy=> ?_⟩;obtain⟨cs,h1,h2⟩:=h.at j y hy;obtain⟨u,hu,hr⟩:=hc j _ h1;refine⟨u,hu,?_⟩;obtain⟨b,cs'⟩:=y
 cases b with
 |true=>
  obtain⟨a',e,hcs⟩:=hr;exact⟨a',e,h2.ahE hcs⟩
 |false=>
  obtain⟨x,e,hx,ho⟩:=hr;simp only at e h2;subst e
  cases h2 with
  |cons hxy hn=>
   cases hn;exact⟨_,rfl,hxy w σ S β u hx,ho⟩
theorem bq.of_le{f:FuncId}{args:List V}{t:V}(h:∀S,cB P f args S fun r S'=>Less r t/\S'=S):bq P f args t:=fun S=>
 ⟨(h S).1,fun w σ β vs hS hv=>((h S).2 w σ β vs hS hv).mono fun e w' ⟨v,r,S',σ',β',h1,h2,h3,h4,h5,h6,h7⟩=>⟨v,t,S',σ',β',h1,h2,h3,h4,h6 _ _ _ _ _ h5,rfl,h7⟩⟩
theorem jv(v:V):Less v v:=fun _ _ _ _ _ h=>h
end
end Go.Ab