/-
  SEVERAL TEXTS IN ONE (merged by program): contracts and models, each with its own heading.
-/
import Derived.Test.YtfhpfkaeldgcmaaGreatPartHfbJ
set_option linter.unusedSimpArgs false
set_option linter.unusedVariables false
namespace Go.Ab
section
variable {P:Program} {w w':World} {σ σ':Nat->Nat} {S:Store} {β:Hs}
end
section
variable {P:Program} {w w':World} {σ σ':Nat->Nat} {β:Hs}
theorem agK{own:List Obj}{Ω:Store}(lab:Option Nat)(j i bB:Nat)(es:List (List D))(cs:List C)(hj:own[j]? =some (.box cs))(hi:cs[i]? =some (match lab with|some n=>.nG n es|none=>.bI es))(hes:∀e∈es,e.length=bB)(hS:eH w σ (own::Ω) β):
 ∃β',eH w σ ((own.set j (.box (cs.set i (.bS (0,own.length) es)))++[iY lab bB es])::Ω) β'/\Step (own::Ω) β σ w ((own.set j (.box (cs.set i (.bS (0,own.length) es)))++[iY lab bB es])::Ω) β' σ w/\Keep (own::Ω) β ((own.set j (.box (cs.set i (.bS (0,own.length) es)))++[iY lab bB es])::Ω) β':=by
 cases β with
 |nil=>have:=hS.shape.1;simp at this
 |cons bo bΩ=>
 have hlen:bo.length=own.length:=by
  obtain⟨gr,g1,g2⟩:=hS.shape.2 0 own rfl;simp at g1;rw[g1];exact g2
 have hjl:=(List.getElem?_eq_some_iff.1 hj).1
 have hg0:bA (own::Ω) (0,j)=some (.box cs):=by rw[bL];exact hj
 obtain⟨hb,Iz,hr⟩:=hS.obj (0,j) _ hg0;obtain⟨b,cv,ty,rfl,hbc,hσ,hcs⟩:=hr;have hcs:fD w σ (own::Ω) (bo::bΩ) cs cv.toList:=hcs;obtain⟨v,hv,hc0,hone⟩:=hcs.2 i _ hi
 have hx:∃ad:Option Addr,dN w σ (.sl es) v/\v=.slice ad es.length es.length/\∀n,lab=some n->dN w σ (.ol n es) v:=by
  cases lab with
  |none=>
   obtain⟨hd,ad,n,hval⟩:=hc0
   have hn:n=es.length:=by rw[hval] at hd;cases hd<;>rfl
   exact⟨ad,hd,by rw[hval,hn],fun n e=>by cases e⟩
  |some n=>
   obtain⟨hd,ad,m,hval⟩:=hc0
   have hn:m=es.length:=by
    have:=FD hd;rw[hval] at this;cases this<;>rfl
   exact⟨ad,FD hd,by rw[hval,hn],fun n' e=>by cases e;exact hd⟩
 obtain⟨ad,hd,hval,hol⟩:=hx;have hg:Grow w σ w σ:=Grow.refl hS.live
 obtain⟨hS',hk,hst⟩:=hS.push (o:=iY lab bB es) (h:=v) hg hlen (by
  cases lab with
  |none=>exact⟨hd,hes,ad,es.length,hval,Nat.le_refl _,.inl rfl⟩
  |some n=>exact⟨hd,hes,ad,es.length,hval,Nat.le_refl _,.inl ⟨rfl,hol n rfl⟩⟩) (fun b hb=>by
  rw[hval] at hb
  cases lab<;>cases ad<;>simp[iY,owns,blk] at hb)
 have hk1:bA ((own++[iY lab bB es])::Ω) (0,j)=some (.box cs):=jA _ _ _ _ _ hg0;have KO:bA ((bo++[v])::bΩ) (0,j)=some (.pointer (some ⟨b,0,none⟩)):=jA _ _ _ _ _ Iz;have hko:lg (.box cs) (some (Value.pointer (some ⟨b,0,none⟩))) (.box (cs.set i (.bS (0,own.length) es))) (some (Value.pointer (some ⟨b,0,none⟩))):=.inr ⟨⟨_,rfl⟩,rfl⟩
 have hK:Keep ((own++[iY lab bB es])::Ω) ((bo++[v])::bΩ) (bq ((own++[iY lab bB es])::Ω) (0,j) (.box (cs.set i (.bS (0,own.length) es)))) (bq ((bo++[v])::bΩ) (0,j) (.pointer (some ⟨b,0,none⟩))):=by
  intro k1 o1 e1;by_cases e:k1=(0,j)
  ·subst e;rw[hk1] at e1;cases e1;exact⟨_,dw _ _ _ _ hk1,by rw[KO,dw _ _ _ _ KO];exact hko⟩
  ·exact⟨o1,(eZ _ _ _ _ (Ne.symm e)).trans e1,by rw[eZ _ _ _ _ (Ne.symm e)];exact .refl _ _⟩
 have hne:(0,own.length)≠(0,j):=fun e=>by injection e with _ e;omega
 obtain⟨hS2,hk2,AQ⟩:=hS'.set (w':=w) (σ':=σ) (o':=.box (cs.set i (.bS (0,own.length) es))) (h':=.pointer (some ⟨b,0,none⟩)) hk1 KO (Nat.le_refl _) rfl rfl (eG.refl _ _) hS'.live (fun _ _ _=>⟨rfl,rfl⟩) hko
  ⟨b,cv,ty,rfl,hbc,hσ,by
    refine⟨by rw[List.length_set];exact hcs.1,fun m x hm=> ?_⟩;rw[List.getElem?_set] at hm;by_cases e:i=m
    ·subst e;rw[if_pos rfl] at hm;split at hm
     ·cases hm;refine⟨v,hv,⟨hd,iY lab bB es,?_,fun a1 b1 e1=> ?_⟩,hone⟩
      ·show bA (bq _ (0,j) _) (0,own.length)=_;rw[eZ _ _ _ _ (Ne.symm hne),dJ]
      ·obtain⟨_,rfl⟩:=qj e1;refine⟨Nat.le_refl _,fun _=> ?_⟩;show bA (bq _ (0,j) _) (0,own.length)=_;rw[eZ _ _ _ _ (Ne.symm hne),<-hlen,dJ]
     ·cases hm
    ·rw[if_neg e] at hm;obtain⟨u,hu,hc,ho⟩:=hcs.2 m x hm
     exact⟨u,hu,(hc.mono (eG.refl _ _) hk).mono (eG.refl _ _) hK,ho⟩⟩ (fun _ e=>.inl e)
 have est:bq ((own++[iY lab bB es])::Ω) (0,j) (.box (cs.set i (.bS (0,own.length) es)))=(own.set j (.box (cs.set i (.bS (0,own.length) es)))++[iY lab bB es])::Ω:=by
  rw[bq,List.set_append_left _ _ hjl]
 rw[est] at hS2 hk2 AQ;exact⟨_,hS2,hst.trans AQ,hk.trans hk2⟩
end
section
variable {P:Program} {w w':World} {σ σ':Nat->Nat} {β:Hs} {N:Nat}
def u7(x y:C):Prop:=∀w σ S β v,gJ w σ S β x v->gJ w σ S β y v
theorem u7.refl(x:C):u7 x x:=fun _ _ _ _ _ h=>h
theorem eO(es:List (List D)):u7 (.bI es) (.d (.sl es)):=fun w σ S β v h=>h.1
inductive gD:List C->List C->Prop
 |nil:gD [] []
 |cons {x y:C} {xs ys:List C}:u7 x y->gD xs ys->gD (x::xs) (y::ys)
theorem gD.refl:∀xs,gD xs xs
 |[]=>.nil
 |x::xs=>.cons (.refl x) (gD.refl xs)
theorem gD.length:∀{xs ys:List C},gD xs ys->xs.length=ys.length
 |_,_,.nil=>rfl
 |_,_,.cons _ h=>by rw[List.length_cons,List.length_cons,gD.length h]
theorem gD.at:∀{xs ys:List C},gD xs ys->∀(j:Nat)(x y:C),xs[j]? =some x->ys[j]? =some y->u7 x y
 |_,_,.nil,j,x,y,h,_=>by simp at h
 |_,_,.cons a h,0,x,y,h1,h2=>by simp at h1 h2;subst h1;subst h2;exact a
 |_,_,.cons a h,j+1,x,y,h1,h2=>gD.at h j x y (by simpa using h1) (by simpa using h2)
theorem gD.less{xs ys:List C}(h:gD xs ys):Less (.agg xs) (.agg ys):=by
 rintro w σ S β v ⟨a,ha,hc⟩;refine⟨a,ha,h.length.symm.trans hc.1,fun j y hy=> ?_⟩
 have hj:j<xs.length:=by rw[h.length];exact(List.getElem?_eq_some_iff.1 hy).1
 obtain⟨v,h1,h2,h3⟩:=hc.2 j _ (List.getElem?_eq_getElem hj);exact⟨v,h1,h.at j _ y (List.getElem?_eq_getElem hj) hy w σ S β v h2,h3⟩
theorem gD.aix{xs ys:List C}(h:gD xs ys){w:World}{σ:Nat->Nat}{S:Store}{β:Hs}{vs:List Value}(hc:fD w σ S β xs vs):fD w σ S β ys vs:=by
 refine⟨h.length.symm.trans hc.1,fun j y hy=> ?_⟩
 have hj:j<xs.length:=by rw[h.length];exact(List.getElem?_eq_some_iff.1 hy).1
 obtain⟨v,h1,h2,h3⟩:=hc.2 j _ (List.getElem?_eq_getElem hj);exact⟨v,h1,h.at j _ y (List.getElem?_eq_getElem hj) hy w σ S β v h2,h3⟩
theorem adV{own:List Obj}{Ω:Store}(j:Nat)(cs cs':List C)(hj:own[j]? =some (.box cs))(hle:gD cs cs')(hS:eH w σ (own::Ω) β):
 ∃β',eH w σ ((own.set j (.box cs'))::Ω) β'/\Step (own::Ω) β σ w ((own.set j (.box cs'))::Ω) β' σ w/\Keep (own::Ω) β ((own.set j (.box cs'))::Ω) β'/\gF β'=gF β/\β'.length=β.length:=by
 cases β with
 |nil=>have:=hS.shape.1;simp at this
 |cons bo bΩ=>
 have hg0:bA (own::Ω) (0,j)=some (.box cs):=by rw[bL];exact hj
 obtain⟨hb,Iz,hr⟩:=hS.obj (0,j) _ hg0;obtain⟨b,cv,ty,rfl,hbc,hσ,hcs⟩:=hr;have hcs:fD w σ (own::Ω) (bo::bΩ) cs cv.toList:=hcs;have hko:lg (.box cs) (some (Value.pointer (some ⟨b,0,none⟩))) (.box cs') (some (Value.pointer (some ⟨b,0,none⟩))):=.inr ⟨⟨_,rfl⟩,rfl⟩
 have hK:Keep (own::Ω) (bo::bΩ) (bq (own::Ω) (0,j) (.box cs')) (bq (bo::bΩ) (0,j) (.pointer (some ⟨b,0,none⟩))):=by
  intro k1 o1 e1;by_cases e:k1=(0,j)
  ·subst e;rw[hg0] at e1;cases e1;exact⟨_,dw _ _ _ _ hg0,by rw[Iz,dw _ _ _ _ Iz];exact hko⟩
  ·exact⟨o1,(eZ _ _ _ _ (Ne.symm e)).trans e1,by rw[eZ _ _ _ _ (Ne.symm e)];exact .refl _ _⟩
 obtain⟨hS2,hk2,AQ⟩:=hS.set (w':=w) (σ':=σ) (o':=.box cs') (h':=.pointer (some ⟨b,0,none⟩)) hg0 Iz (Nat.le_refl _) rfl rfl (eG.refl _ _) hS.live (fun _ _ _=>⟨rfl,rfl⟩) hko
  ⟨b,cv,ty,rfl,hbc,hσ,by
    have h1:=hle.aix hcs;refine⟨h1.1,fun m x hm=> ?_⟩;obtain⟨u,hu,hc,ho⟩:=h1.2 m x hm
    exact⟨u,hu,hc.mono (eG.refl _ _) hK,ho⟩⟩ (fun _ e=>.inl e)
 have est:bq (own::Ω) (0,j) (.box cs')=(own.set j (.box cs'))::Ω:=rfl;rw[est] at hS2 hk2 AQ;exact⟨_,hS2,AQ,hk2,rfl,by simp[bq]⟩
theorem Pf{tm:List (Nat×V)}{own:List Obj}{Ω:Store}(j:Nat)(cs cs':List C)(hj:own[j]? =some (.box cs))(hle:gD cs cs'):gN N ⟨tm,own::Ω⟩ ⟨tm,(own.set j (.box cs'))::Ω⟩:=by
 intro a w σ β hR;obtain⟨β',hS,hst,hk,ht,_⟩:=adV j cs cs' hj hle hR.S;refine⟨σ,β',⟨hR.size,hR.defers,hS,fun u=>(hR.T u).mono (eG.refl _ _) hk⟩,hst,?_⟩;rw[ht];exact Keep.refl _ _
theorem RB{tm:List (Nat×V)}{own:List Obj}{Ω:Store}(lab:Option Nat)(j i bB:Nat)(es:List (List D))(cs:List C)(hj:own[j]? =some (.box cs))(hi:cs[i]? =some (match lab with|some n=>.nG n es|none=>.bI es))(hes:∀e∈es,e.length=bB):
 gN N ⟨tm,own::Ω⟩ ⟨tm,(own.set j (.box (cs.set i (.bS (0,own.length) es)))++[iY lab bB es])::Ω⟩:=by
 intro a w σ β hR;obtain⟨β',hS,hst,hk⟩:=agK lab j i bB es cs hj hi hes hR.S;refine⟨σ,β',⟨hR.size,hR.defers,hS,fun u=>(hR.T u).mono (eG.refl _ _) hk⟩,hst,?_⟩;intro k o hko
 obtain⟨o',h1,h2⟩:=hk (k.1+1,k.2) o (by
  obtain⟨l,i⟩:=k;show bA (own::Ω) (l+1,i)=_
  rw[bX];exact hko)
 obtain⟨bo,bΩ,rfl,_⟩:=frames hR;have h3:=hS.shape.1
 cases β' with
 |nil=>simp at h3
 |cons bo' bΩ'=>
  rw[bX] at h1;rw[bX,bX] at h2;exact⟨o',h1,h2⟩
theorem XH{c:Code}{Q:Exit->St->Prop}{tm:List (Nat×V)}{own:List Obj}{Ω:Store}(j:Nat)(cs cs':List C)(hj:own[j]? =some (.box cs))(hle:gD cs cs')(h:AW P N c Q ⟨tm,(own.set j (.box cs'))::Ω⟩):AW P N c Q ⟨tm,own::Ω⟩:=l9 h (Pf j cs cs' hj hle)
theorem Og{x y:C}(hle:u7 x y):∀(i:Nat)(cs:List C),cs[i]? =some x->gD cs (cs.set i y)
 |0,[],h=>by simp at h
 |0,z::cs,h=>by simp at h;subst h;exact .cons hle (.refl cs)
 |i+1,[],h=>by simp at h
 |i+1,z::cs,h=>.cons (.refl z) (Og hle i cs (by simpa using h))
theorem jD{c:Code}{Q:Exit->St->Prop}{tm:List (Nat×V)}{own:List Obj}{Ω:Store}(j i bB:Nat)(cs:List C)(hj:own[j]? =some (.box cs))(hi:cs[i]? =some (.bI []))
 (h:AW P N c Q ⟨tm,(own.set j (.box (cs.set i (.bS (0,own.length) [])))++[.tok bB []])::Ω⟩):AW P N c Q ⟨tm,own::Ω⟩:=
 l9 h (RB none j i bB [] cs hj hi (by simp))
def Oh(x y:D):Prop:=∀w σ v,dN w σ x v->dN w σ y v
theorem Oh.refl(x:D):Oh x x:=fun _ _ _ h=>h
inductive lJ:List D->List D->Prop
 |nil:lJ [] []
 |cons {x y:D} {xs ys:List D}:Oh x y->lJ xs ys->lJ (x::xs) (y::ys)
theorem lJ.refl:∀r,lJ r r
 |[]=>.nil
 |x::xs=>.cons (.refl x) (lJ.refl xs)
theorem lJ.length:∀{r r':List D},lJ r r'->r.length=r'.length
 |_,_,.nil=>rfl
 |_,_,.cons _ h=>by rw[List.length_cons,List.length_cons,h.length]
theorem lJ.at:∀{r r':List D},lJ r r'->∀(j:Nat)(y:D),r'[j]? =some y->∃x,r[j]? =some x/\Oh x y
 |_,_,.nil,j,y,h=>by simp at h
 |_,_,.cons a h,0,y,h2=>by simp at h2;subst h2;exact⟨_,rfl,a⟩
 |_,_,.cons a h,j+1,y,h2=>h.at j y (by simpa using h2)
theorem lJ.append:∀{a a' b b':List D},lJ a a'->lJ b b'->lJ (a++b) (a'++b')
 |_,_,_,_,.nil,h=>h
 |_,_,_,_,.cons x h,k=>.cons x (h.append k)
inductive kH:List (List D)->List (List D)->Prop
 |nil:kH [] []
 |cons {x y:List D} {xs ys:List (List D)}:lJ x y->kH xs ys->kH (x::xs) (y::ys)
theorem kH.length:∀{r r':List (List D)},kH r r'->r.length=r'.length
 |_,_,.nil=>rfl
 |_,_,.cons _ h=>by rw[List.length_cons,List.length_cons,h.length]
theorem kH.snoc:∀{a b:List (List D)}{x y:List D},kH a b->lJ x y->kH (a++[x]) (b++[y])
 |_,_,_,_,.nil,h=>.cons h .nil
 |_,_,_,_,.cons z h,k=>.cons z (h.snoc k)
theorem kH.rows{z:Nat}:∀{a b:List (List D)},kH a b->(∀r∈b,r.length=z)->∀r∈a,r.length=z
 |_,_,.nil,h,r,hr=>by cases hr
 |_,_,.cons x h,k,r,hr=>by
  rcases List.mem_cons.1 hr with rfl|hr
  ·rw[x.length];exact k _ (by simp)
  ·exact h.rows (fun r hr=>k r (by simp[hr])) r hr
theorem kH.flat:∀{a b:List (List D)},kH a b->lJ a.flatten b.flatten
 |_,_,.nil=>.nil
 |_,_,.cons x h=>by rw[List.flatten_cons,List.flatten_cons];exact x.append h.flat
theorem kH.rep{a b:List (List D)}(h:kH a b){w:World}{σ:Nat->Nat}{v:Value}(hr:dN w σ (.sl a) v):dN w σ (.sl b) v:=by
 cases hr with
 |nil ad cap=>
  cases h;exact .nil ad cap
 |sl b0 off cap bB es vals c t fz hcap hlen hb hσ hc hv=>
  have hl:=h.length;rw[hl] at hcap hσ hc ⊢
  have hlb:∀e∈b,e.length=bB:=fun e he=>by
   obtain⟨i,hi,rfl⟩:=List.getElem_of_mem he
   have:∀{a b:List (List D)}(h:kH a b)(i:Nat)(hi:i<b.length)(hi':i<a.length),lJ a[i] b[i]:=by
    intro a b h
    induction h with
    |nil=>intro i hi;simp at hi
    |cons x h ih=>intro i hi hi';cases i with
     |zero=>exact x
     |succ i=>exact ih i (by simpa using hi) (by simpa using hi')
   have h1:=this h i hi (by omega);rw[<-h1.length];exact hlen _ (List.getElem_mem _)
  refine .sl b0 off cap bB b vals c t fz hcap hlb hb hσ hc fun j d hd=> ?_;obtain⟨x,hx,hle⟩:=h.flat.at j d hd;exact hle w σ _ (hv j x hx)
inductive jZ:List (Bool×List C)->List (Bool×List C)->Prop
 |nil:jZ [] []
 |cons {b:Bool} {cs cs':List C} {xs ys:List (Bool×List C)}:gD cs cs'->jZ xs ys->jZ ((b,cs)::xs) ((b,cs')::ys)
theorem jZ.refl:∀xs,jZ xs xs
 |[]=>.nil
 |(b,cs)::xs=>.cons (.refl cs) (jZ.refl xs)
theorem jZ.length:∀{xs ys:List (Bool×List C)},jZ xs ys->xs.length=ys.length
 |_,_,.nil=>rfl
 |_,_,.cons _ h=>by rw[List.length_cons,List.length_cons,h.length]
theorem jZ.at:∀{xs ys:List (Bool×List C)},jZ xs ys->∀(j:Nat)(y:Bool×List C),ys[j]? =some y->∃cs,xs[j]? =some (y.1,cs)/\gD cs y.2
 |_,_,.nil,j,y,h=>by simp at h
 |_,_,.cons a h,0,y,h2=>by simp at h2;subst h2;exact⟨_,rfl,a⟩
 |_,_,.cons a h,j+1,y,h2=>h.at j y (by simpa using h2)
theorem jZ.less{xs ys:List (Bool×List C)}(h:jZ xs ys):Less (.eu xs) (.eu ys):=by
 rintro w σ S β v ⟨a,ha,hl,hc⟩;refine⟨a,ha,h.length.symm.trans hl,fun j y hy=> ?_⟩;obtain⟨cs,h1,h2⟩:=h.at j y hy;obtain⟨u,hu,hr⟩:=hc j _ h1;refine⟨u,hu,?_⟩;obtain⟨b,cs'⟩:=y
 cases b with
 |true=>
  obtain⟨a',e,hcs⟩:=hr;exact⟨a',e,h2.aix hcs⟩
 |false=>
  obtain⟨x,e,hx,ho⟩:=hr;simp only at e h2;subst e
  cases h2 with
  |cons hxy hn=>
   cases hn;exact⟨_,rfl,hxy w σ S β u hx,ho⟩
theorem bg.of_le{f:FuncId}{args:List V}{t:V}(h:∀S,cB P f args S fun r S'=>Less r t/\S'=S):bg P f args t:=fun S=>
 ⟨(h S).1,fun w σ β vs hS hv=>((h S).2 w σ β vs hS hv).mono fun e w' ⟨v,r,S',σ',β',h1,h2,h3,h4,h5,h6,h7⟩=>⟨v,t,S',σ',β',h1,h2,h3,h4,h6 _ _ _ _ _ h5,rfl,h7⟩⟩
theorem jE(v:V):Less v v:=fun _ _ _ _ _ h=>h
end
end Go.Ab