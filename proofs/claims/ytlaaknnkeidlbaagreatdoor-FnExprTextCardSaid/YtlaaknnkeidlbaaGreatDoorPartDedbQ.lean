/-
  SEVERAL TEXTS IN ONE (merged by program): contracts and models, each with its own heading.
-/
import Derived.Test.YtlaaknnkeidlbaaGreatDoorPartDedbG
set_option linter.unusedSimpArgs false
set_option linter.unusedVariables false
namespace Go.Ab
section
variable {P:Program} {w w':World} {σ σ':Nat->Nat} {S:Store} {β:Hs}
end
section
variable {P:Program} {w w':World} {σ σ':Nat->Nat} {β:Hs}
theorem afj{own:List Obj}{Ω:Store}(lab:Option Nat)(j i aJ:Nat)(es:List (List D))(cs:List C)(hj:own[j]? =some (.box cs))(hi:cs[i]? =some (match lab with|some n=>.iT n es|none=>.bB es))(hes:∀e∈es,e.length=aJ)(hS:cZ w σ (own::Ω) β):
 ∃β',cZ w σ ((own.set j (.box (cs.set i (.bM (0,own.length) es)))++[gU lab aJ es])::Ω) β'/\Step (own::Ω) β σ w ((own.set j (.box (cs.set i (.bM (0,own.length) es)))++[gU lab aJ es])::Ω) β' σ w/\Keep (own::Ω) β ((own.set j (.box (cs.set i (.bM (0,own.length) es)))++[gU lab aJ es])::Ω) β':=by
 cases β with
 |nil=>have:=hS.shape.1;simp at this
 |cons bo bΩ=>
 have hlen:bo.length=own.length:=by
  obtain⟨gr,g1,g2⟩:=hS.shape.2 0 own rfl;simp at g1;rw[g1];exact g2
 have hjl:=(ae.1 hj).1
 have hg0:aN (own::Ω) (0,j)=some (.box cs):=by rw[aD];exact hj
 obtain⟨hb,FR,hr⟩:=hS.obj (0,j) _ hg0;obtain⟨b,cv,ty,rfl,hbc,hσ,hcs⟩:=hr;have hcs:dF w σ (own::Ω) (bo::bΩ) cs cv.toList:=hcs;obtain⟨v,hv,hc0,hone⟩:=hcs.2 i _ hi
 have hx:∃ad:Option Addr,bn w σ (.sl es) v/\v=.slice ad es.length es.length/\∀n,lab=some n->bn w σ (.ol n es) v:=by
  cases lab with
  |none=>
   obtain⟨hd,ad,n,hval⟩:=hc0
   have hn:n=es.length:=by rw[hval] at hd;cases hd<;>rfl
   exact⟨ad,hd,by rw[hval,hn],fun n e=>by cases e⟩
  |some n=>
   obtain⟨hd,ad,m,hval⟩:=hc0
   have hn:m=es.length:=by
    have:=wz hd;rw[hval] at this;cases this<;>rfl
   exact⟨ad,wz hd,by rw[hval,hn],fun n' e=>by cases e;exact hd⟩
 obtain⟨ad,hd,hval,hol⟩:=hx;have hg:Grow w σ w σ:=Grow.refl hS.live
 obtain⟨hS',hk,hst⟩:=hS.push (o:=gU lab aJ es) (h:=v) hg hlen (by
  cases lab with
  |none=>exact⟨hd,hes,ad,es.length,hval,ax _,.inl rfl⟩
  |some n=>exact⟨hd,hes,ad,es.length,hval,ax _,.inl ⟨rfl,hol n rfl⟩⟩) (fun b hb=>by
  rw[hval] at hb
  cases lab<;>cases ad<;>simp[gU,owns,blk] at hb)
 have hk1:aN ((own++[gU lab aJ es])::Ω) (0,j)=some (.box cs):=gV _ _ _ _ _ hg0;have CG:aN ((bo++[v])::bΩ) (0,j)=some (.pointer (some ⟨b,0,none⟩)):=gV _ _ _ _ _ FR;have hko:jQ (.box cs) (some (Value.pointer (some ⟨b,0,none⟩))) (.box (cs.set i (.bM (0,own.length) es))) (some (Value.pointer (some ⟨b,0,none⟩))):=.inr ⟨⟨_,rfl⟩,rfl⟩
 have hK:Keep ((own++[gU lab aJ es])::Ω) ((bo++[v])::bΩ) (aR ((own++[gU lab aJ es])::Ω) (0,j) (.box (cs.set i (.bM (0,own.length) es)))) (aR ((bo++[v])::bΩ) (0,j) (.pointer (some ⟨b,0,none⟩))):=by
  intro k1 o1 e1;by_cases e:k1=(0,j)
  ·subst e;rw[hk1] at e1;cases e1;exact⟨_,bX _ _ _ _ hk1,by rw[CG,bX _ _ _ _ CG];exact hko⟩
  ·exact⟨o1,(dx _ _ _ _ (Ne.symm e)).trans e1,by rw[dx _ _ _ _ (Ne.symm e)];exact .refl _ _⟩
 have hne:(0,own.length)≠(0,j):=fun e=>by injection e with _ e;omega
 obtain⟨hS2,hk2,rO⟩:=hS'.set (w':=w) (σ':=σ) (o':=.box (cs.set i (.bM (0,own.length) es))) (h':=.pointer (some ⟨b,0,none⟩)) hk1 CG (ax _) rfl rfl (bQ.refl _ _) hS'.live (fun _ _ _=>⟨rfl,rfl⟩) hko
  ⟨b,cv,ty,rfl,hbc,hσ,by
    refine⟨by rw[cy];exact hcs.1,fun m x hm=> ?_⟩;rw[eA] at hm;by_cases e:i=m
    ·subst e;rw[if_pos rfl] at hm;split at hm
     ·cases hm;refine⟨v,hv,⟨hd,gU lab aJ es,?_,fun a1 b1 e1=> ?_⟩,hone⟩
      ·show aN (aR _ (0,j) _) (0,own.length)=_;rw[dx _ _ _ _ (Ne.symm hne),bg]
      ·obtain⟨_,rfl⟩:=mK e1;refine⟨ax _,fun _=> ?_⟩;show aN (aR _ (0,j) _) (0,own.length)=_;rw[dx _ _ _ _ (Ne.symm hne),<-hlen,bg]
     ·cases hm
    ·rw[if_neg e] at hm;obtain⟨u,hu,hc,ho⟩:=hcs.2 m x hm
     exact⟨u,hu,(hc.mono (bQ.refl _ _) hk).mono (bQ.refl _ _) hK,ho⟩⟩ (fun _ e=>.inl e)
 have est:aR ((own++[gU lab aJ es])::Ω) (0,j) (.box (cs.set i (.bM (0,own.length) es)))=(own.set j (.box (cs.set i (.bM (0,own.length) es)))++[gU lab aJ es])::Ω:=by
  rw[aR,List.set_append_left _ _ hjl]
 rw[est] at hS2 hk2 rO;exact⟨_,hS2,hst.trans rO,hk.trans hk2⟩
end
section
variable {P:Program} {w w':World} {σ σ':Nat->Nat} {β:Hs} {N:Nat}
def qb(x y:C):Prop:=∀w σ S β v,dS w σ S β x v->dS w σ S β y v
theorem qb.refl(x:C):qb x x:=fun _ _ _ _ _ h=>h
theorem Em(n:Nat):qb (.bB []) (.iT n []):=fun w σ S β v h=>by
 obtain⟨hd,a,m,hv⟩:=h
 have hm:m=0:=by rw[hv] at hd;cases hd<;>rfl
 subst hm;exact⟨by rw[hv];exact .rM _ _ _,a,0,hv⟩
theorem gq(n:Nat):qb (.bB []) (.d (.ol n [])):=fun w σ S β v h=>(Em n w σ S β v h).1
theorem jk(es:List (List D)):qb (.bB es) (.d (.sl es)):=fun w σ S β v h=>h.1
inductive dV:List C->List C->Prop
 |nil:dV [] []
 |cons {x y:C} {xs ys:List C}:qb x y->dV xs ys->dV (x::xs) (y::ys)
theorem dV.refl:∀xs,dV xs xs
 |[]=>.nil
 |x::xs=>.cons (.refl x) (dV.refl xs)
theorem dV.length:∀{xs ys:List C},dV xs ys->xs.length=ys.length
 |_,_,.nil=>rfl
 |_,_,.cons _ h=>by rw[aa,aa,dV.length h]
theorem dV.at:∀{xs ys:List C},dV xs ys->∀(j:Nat)(x y:C),xs[j]? =some x->ys[j]? =some y->qb x y
 |_,_,.nil,j,x,y,h,_=>by simp at h
 |_,_,.cons a h,0,x,y,h1,h2=>by simp at h1 h2;subst h1;subst h2;exact a
 |_,_,.cons a h,j+1,x,y,h1,h2=>dV.at h j x y (by simpa using h1) (by simpa using h2)
theorem dV.less{xs ys:List C}(h:dV xs ys):Less (.agg xs) (.agg ys):=by
 rintro w σ S β v ⟨a,ha,hc⟩;refine⟨a,ha,h.length.symm.trans hc.1,fun j y hy=> ?_⟩
 have hj:j<xs.length:=by rw[h.length];exact(ae.1 hy).1
 obtain⟨v,h1,h2,h3⟩:=hc.2 j _ (al hj);exact⟨v,h1,h.at j _ y (al hj) hy w σ S β v h2,h3⟩
theorem dV.ag0{xs ys:List C}(h:dV xs ys){w:World}{σ:Nat->Nat}{S:Store}{β:Hs}{vs:List Value}(hc:dF w σ S β xs vs):dF w σ S β ys vs:=by
 refine⟨h.length.symm.trans hc.1,fun j y hy=> ?_⟩
 have hj:j<xs.length:=by rw[h.length];exact(ae.1 hy).1
 obtain⟨v,h1,h2,h3⟩:=hc.2 j _ (al hj);exact⟨v,h1,h.at j _ y (al hj) hy w σ S β v h2,h3⟩
theorem acN{own:List Obj}{Ω:Store}(j:Nat)(cs cs':List C)(hj:own[j]? =some (.box cs))(hle:dV cs cs')(hS:cZ w σ (own::Ω) β):
 ∃β',cZ w σ ((own.set j (.box cs'))::Ω) β'/\Step (own::Ω) β σ w ((own.set j (.box cs'))::Ω) β' σ w/\Keep (own::Ω) β ((own.set j (.box cs'))::Ω) β'/\eX β'=eX β/\β'.length=β.length:=by
 cases β with
 |nil=>have:=hS.shape.1;simp at this
 |cons bo bΩ=>
 have hg0:aN (own::Ω) (0,j)=some (.box cs):=by rw[aD];exact hj
 obtain⟨hb,FR,hr⟩:=hS.obj (0,j) _ hg0;obtain⟨b,cv,ty,rfl,hbc,hσ,hcs⟩:=hr;have hcs:dF w σ (own::Ω) (bo::bΩ) cs cv.toList:=hcs;have hko:jQ (.box cs) (some (Value.pointer (some ⟨b,0,none⟩))) (.box cs') (some (Value.pointer (some ⟨b,0,none⟩))):=.inr ⟨⟨_,rfl⟩,rfl⟩
 have hK:Keep (own::Ω) (bo::bΩ) (aR (own::Ω) (0,j) (.box cs')) (aR (bo::bΩ) (0,j) (.pointer (some ⟨b,0,none⟩))):=by
  intro k1 o1 e1;by_cases e:k1=(0,j)
  ·subst e;rw[hg0] at e1;cases e1;exact⟨_,bX _ _ _ _ hg0,by rw[FR,bX _ _ _ _ FR];exact hko⟩
  ·exact⟨o1,(dx _ _ _ _ (Ne.symm e)).trans e1,by rw[dx _ _ _ _ (Ne.symm e)];exact .refl _ _⟩
 obtain⟨hS2,hk2,rO⟩:=hS.set (w':=w) (σ':=σ) (o':=.box cs') (h':=.pointer (some ⟨b,0,none⟩)) hg0 FR (ax _) rfl rfl (bQ.refl _ _) hS.live (fun _ _ _=>⟨rfl,rfl⟩) hko
  ⟨b,cv,ty,rfl,hbc,hσ,by
    have h1:=hle.ag0 hcs;refine⟨h1.1,fun m x hm=> ?_⟩;obtain⟨u,hu,hc,ho⟩:=h1.2 m x hm
    exact⟨u,hu,hc.mono (bQ.refl _ _) hK,ho⟩⟩ (fun _ e=>.inl e)
 have est:aR (own::Ω) (0,j) (.box cs')=(own.set j (.box cs'))::Ω:=rfl;rw[est] at hS2 hk2 rO;exact⟨_,hS2,rO,hk2,rfl,by simp[aR]⟩
theorem M7{tm:List (Nat×V)}{own:List Obj}{Ω:Store}(j:Nat)(cs cs':List C)(hj:own[j]? =some (.box cs))(hle:dV cs cs'):fQ N ⟨tm,own::Ω⟩ ⟨tm,(own.set j (.box cs'))::Ω⟩:=by
 intro a w σ β hR;obtain⟨β',hS,hst,hk,ht,_⟩:=acN j cs cs' hj hle hR.S;refine⟨σ,β',⟨hR.size,hR.defers,hS,fun u=>(hR.T u).mono (bQ.refl _ _) hk⟩,hst,?_⟩;rw[ht];exact Keep.refl _ _
theorem En{tm:List (Nat×V)}{own:List Obj}{Ω:Store}(lab:Option Nat)(j i aJ:Nat)(es:List (List D))(cs:List C)(hj:own[j]? =some (.box cs))(hi:cs[i]? =some (match lab with|some n=>.iT n es|none=>.bB es))(hes:∀e∈es,e.length=aJ):
 fQ N ⟨tm,own::Ω⟩ ⟨tm,(own.set j (.box (cs.set i (.bM (0,own.length) es)))++[gU lab aJ es])::Ω⟩:=by
 intro a w σ β hR;obtain⟨β',hS,hst,hk⟩:=afj lab j i aJ es cs hj hi hes hR.S;refine⟨σ,β',⟨hR.size,hR.defers,hS,fun u=>(hR.T u).mono (bQ.refl _ _) hk⟩,hst,?_⟩;intro k o hko
 obtain⟨o',h1,h2⟩:=hk (k.1+1,k.2) o (by
  obtain⟨l,i⟩:=k;show aN (own::Ω) (l+1,i)=_
  rw[aV];exact hko)
 obtain⟨bo,bΩ,rfl,_⟩:=frames hR;have h3:=hS.shape.1
 cases β' with
 |nil=>simp at h3
 |cons bo' bΩ'=>
  rw[aV] at h1;rw[aV,aV] at h2;exact⟨o',h1,h2⟩
theorem V9{c:Code}{Q:Exit->St->Prop}{tm:List (Nat×V)}{own:List Obj}{Ω:Store}(j:Nat)(cs cs':List C)(hj:own[j]? =some (.box cs))(hle:dV cs cs')(h:AW P N c Q ⟨tm,(own.set j (.box cs'))::Ω⟩):AW P N c Q ⟨tm,own::Ω⟩:=kN h (M7 j cs cs' hj hle)
theorem Mh{x y:C}(hle:qb x y):∀(i:Nat)(cs:List C),cs[i]? =some x->dV cs (cs.set i y)
 |0,[],h=>by simp at h
 |0,z::cs,h=>by simp at h;subst h;exact .cons hle (.refl cs)
 |i+1,[],h=>by simp at h
 |i+1,z::cs,h=>.cons (.refl z) (Mh hle i cs (by simpa using h))
theorem Wd{c:Code}{Q:Exit->St->Prop}{tm:List (Nat×V)}{own:List Obj}{Ω:Store}(n j i aJ:Nat)(cs:List C)(hj:own[j]? =some (.box cs))(hi:cs[i]? =some (.bB []))
 (h:AW P N c Q ⟨tm,(own.set j (.box (cs.set i (.bM (0,own.length) [])))++[.dY n aJ []])::Ω⟩):AW P N c Q ⟨tm,own::Ω⟩:=by
 have hjl:=(ae.1 hj).1;have hil:=(ae.1 hi).1;refine V9 j cs (cs.set i (.iT n [])) hj (Mh (Em n) i cs hi) ?_;refine kN ?_ (En (some n) j i aJ [] (cs.set i (.iT n [])) (by rw[cD hjl]) (by rw[cD hil]) (by simp));rw[List.set_set,List.set_set,cy];exact h
theorem Eo{c:Code}{Q:Exit->St->Prop}{tm:List (Nat×V)}{own:List Obj}{Ω:Store}(j i aJ:Nat)(cs:List C)(hj:own[j]? =some (.box cs))(hi:cs[i]? =some (.bB []))
 (h:AW P N c Q ⟨tm,(own.set j (.box (cs.set i (.bM (0,own.length) [])))++[.tok aJ []])::Ω⟩):AW P N c Q ⟨tm,own::Ω⟩:=
 kN h (En none j i aJ [] cs hj hi (by simp))
def Mi(x y:D):Prop:=∀w σ v,bn w σ x v->bn w σ y v
theorem Mi.refl(x:D):Mi x x:=fun _ _ _ h=>h
inductive kH:List D->List D->Prop
 |nil:kH [] []
 |cons {x y:D} {xs ys:List D}:Mi x y->kH xs ys->kH (x::xs) (y::ys)
theorem kH.refl:∀r,kH r r
 |[]=>.nil
 |x::xs=>.cons (.refl x) (kH.refl xs)
theorem kH.length:∀{r r':List D},kH r r'->r.length=r'.length
 |_,_,.nil=>rfl
 |_,_,.cons _ h=>by rw[aa,aa,h.length]
theorem kH.at:∀{r r':List D},kH r r'->∀(j:Nat)(y:D),r'[j]? =some y->∃x,r[j]? =some x/\Mi x y
 |_,_,.nil,j,y,h=>by simp at h
 |_,_,.cons a h,0,y,h2=>by simp at h2;subst h2;exact⟨_,rfl,a⟩
 |_,_,.cons a h,j+1,y,h2=>h.at j y (by simpa using h2)
theorem kH.append:∀{a a' b b':List D},kH a a'->kH b b'->kH (a++b) (a'++b')
 |_,_,_,_,.nil,h=>h
 |_,_,_,_,.cons x h,k=>.cons x (h.append k)
inductive kM:List (List D)->List (List D)->Prop
 |nil:kM [] []
 |cons {x y:List D} {xs ys:List (List D)}:kH x y->kM xs ys->kM (x::xs) (y::ys)
theorem kM.length:∀{r r':List (List D)},kM r r'->r.length=r'.length
 |_,_,.nil=>rfl
 |_,_,.cons _ h=>by rw[aa,aa,h.length]
theorem kM.rows{z:Nat}:∀{a b:List (List D)},kM a b->(∀r∈b,r.length=z)->∀r∈a,r.length=z
 |_,_,.nil,h,r,hr=>by cases hr
 |_,_,.cons x h,k,r,hr=>by
  rcases cA.1 hr with rfl|hr
  ·rw[x.length];exact k _ (by simp)
  ·exact h.rows (fun r hr=>k r (by simp[hr])) r hr
theorem kM.flat:∀{a b:List (List D)},kM a b->kH a.flatten b.flatten
 |_,_,.nil=>.nil
 |_,_,.cons x h=>by rw[cn,cn];exact x.append h.flat
theorem kM.rep{a b:List (List D)}(h:kM a b){w:World}{σ:Nat->Nat}{v:Value}(hr:bn w σ (.sl a) v):bn w σ (.sl b) v:=by
 cases hr with
 |nil ad cap=>
  cases h;exact .nil ad cap
 |sl b0 off cap aJ es vals c t fz hcap hlen hb hσ hc hv=>
  have hl:=h.length;rw[hl] at hcap hσ hc ⊢
  have hlb:∀e∈b,e.length=aJ:=fun e he=>by
   obtain⟨i,hi,rfl⟩:=cJ he
   have:∀{a b:List (List D)}(h:kM a b)(i:Nat)(hi:i<b.length)(hi':i<a.length),kH a[i] b[i]:=by
    intro a b h
    induction h with
    |nil=>intro i hi;simp at hi
    |cons x h ih=>intro i hi hi';cases i with
     |zero=>exact x
     |succ i=>exact ih i (by simpa using hi) (by simpa using hi')
   have h1:=this h i hi (by omega);rw[<-h1.length];exact hlen _ (ap _)
  refine .sl b0 off cap aJ b vals c t fz hcap hlb hb hσ hc fun j d hd=> ?_;obtain⟨x,hx,hle⟩:=h.flat.at j d hd;exact hle w σ _ (hv j x hx)
inductive kE:List (Bool×List C)->List (Bool×List C)->Prop
 |nil:kE [] []
 |cons {b:Bool} {cs cs':List C} {xs ys:List (Bool×List C)}:dV cs cs'->kE xs ys->kE ((b,cs)::xs) ((b,cs')::ys)
theorem kE.refl:∀xs,kE xs xs
 |[]=>.nil
 |(b,cs)::xs=>.cons (.refl cs) (kE.refl xs)
theorem kE.length:∀{xs ys:List (Bool×List C)},kE xs ys->xs.length=ys.length
 |_,_,.nil=>rfl
 |_,_,.cons _ h=>by rw[aa,aa,h.length]
theorem kE.at:∀{xs ys:List (Bool×List C)},kE xs ys->∀(j:Nat)(y:Bool×List C),ys[j]? =some y->∃cs,xs[j]? =some (y.1,cs)/\dV cs y.2
 |_,_,.nil,j,y,h=>by simp at h
 |_,_,.cons a h,0,y,h2=>by simp at h2;subst h2;exact⟨_,rfl,a⟩
 |_,_,.cons a h,j+1,y,h2=>h.at j y (by simpa using h2)
theorem kE.less{xs ys:List (Bool×List C)}(h:kE xs ys):Less (.dI xs) (.dI ys):=by
 rintro w σ S β v ⟨a,ha,hl,hc⟩;refine⟨a,ha,h.length.symm.trans hl,fun j y hy=> ?_⟩;obtain⟨cs,h1,h2⟩:=h.at j y hy;obtain⟨u,hu,hr⟩:=hc j _ h1;refine⟨u,hu,?_⟩;obtain⟨b,cs'⟩:=y
 cases b with
 |true=>
  obtain⟨a',e,hcs⟩:=hr;exact⟨a',e,h2.ag0 hcs⟩
 |false=>
  obtain⟨x,e,hx,ho⟩:=hr;simp only at e h2;subst e
  cases h2 with
  |cons hxy hn=>
   cases hn;exact⟨_,rfl,hxy w σ S β u hx,ho⟩
theorem aF.of_le{f:FuncId}{args:List V}{t:V}(h:∀S,bL P f args S fun r S'=>Less r t/\S'=S):aF P f args t:=fun S=>
 ⟨(h S).1,fun w σ β vs hS hv=>((h S).2 w σ β vs hS hv).mono fun e w' ⟨v,r,S',σ',β',h1,h2,h3,h4,h5,h6,h7⟩=>⟨v,t,S',σ',β',h1,h2,h3,h4,h6 _ _ _ _ _ h5,rfl,h7⟩⟩
theorem Mj{cs cs':List C}{xs:List (Bool×List C)}(h:∀w σ S β vs,dF w σ S β cs vs->dF w σ S β cs' vs):Less (.dI ((true,cs)::xs)) (.dI ((true,cs')::xs)):=by
 rintro w σ S β v ⟨a,ha,hl,hc⟩;obtain⟨u,hu,a',rfl,hcs⟩:=hc 0 _ rfl;refine⟨a,ha,hl,fun j y hy=> ?_⟩
 cases j with
 |zero=>
  simp at hy;subst hy;exact⟨_,hu,a',rfl,h _ _ _ _ _ hcs⟩
 |succ j=>exact hc (j+1) y (by simpa using hy)
theorem iZ(v:V):Less v v:=fun _ _ _ _ _ h=>h
end
end Go.Ab