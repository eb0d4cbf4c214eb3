/-
  SEVERAL TEXTS IN ONE (merged by program): contracts and models, each with its own heading.
-/
import Derived.Test.YtnceiannponbjaaGreatDoorPartDjbI
import Derived.Test.YtnceiannponbjaaGreatDoorPartDjbK
import Derived.Lib.Atoi
set_option maxHeartbeats 8000000
open Go.Proofs Go.Proofs.Tryz
set_option linter.unusedSimpArgs false
set_option linter.unusedVariables false
set_option maxRecDepth 4000
namespace Go.Ab
section
variable {P:Program} {w w':World} {σ σ':Nat->Nat} {S:Store} {β:Hs}
end
section
variable {P:Program} {w w':World} {σ σ':Nat->Nat} {β:Hs}
theorem aeE{own:List Obj}{Ω:Store}(lab:Option Nat)(j i aK:Nat)(es:List (List D))(cs:List C)(hj:own[j]? =some (.box cs))(hi:cs[i]? =some (match lab with|some n=>.iX n es|none=>.bE es))(hes:∀e∈es,e.length=aK)(hS:dB w σ (own::Ω) β):
 ∃β',dB w σ ((own.set j (.box (cs.set i (.bL (0,own.length) es)))++[gJ lab aK es])::Ω) β'/\Step (own::Ω) β σ w ((own.set j (.box (cs.set i (.bL (0,own.length) es)))++[gJ lab aK es])::Ω) β' σ w/\Keep (own::Ω) β ((own.set j (.box (cs.set i (.bL (0,own.length) es)))++[gJ lab aK es])::Ω) β':=by
 cases β with
 |nil=>have:=hS.shape.1;simp at this
 |cons bo bΩ=>
 have hlen:bo.length=own.length:=by
  obtain⟨gr,g1,g2⟩:=hS.shape.2 0 own rfl;simp at g1;rw[g1];exact g2
 have hjl:=(List.getElem?_eq_some_iff.1 hj).1
 have hg0:aN (own::Ω) (0,j)=some (.box cs):=by rw[aP];exact hj
 obtain⟨hb,FW,hr⟩:=hS.obj (0,j) _ hg0;obtain⟨b,cv,ty,rfl,hbc,hσ,hcs⟩:=hr;have hcs:dS w σ (own::Ω) (bo::bΩ) cs cv.toList:=hcs;obtain⟨v,hv,hc0,hone⟩:=hcs.2 i _ hi
 have hx:∃ad:Option Addr,bS w σ (.sl es) v/\v=.slice ad es.length es.length/\∀n,lab=some n->bS w σ (.ol n es) v:=by
  cases lab with
  |none=>
   obtain⟨hd,ad,n,hval⟩:=hc0
   have hn:n=es.length:=by rw[hval] at hd;cases hd<;>rfl
   exact⟨ad,hd,by rw[hval,hn],fun n e=>by cases e⟩
  |some n=>
   obtain⟨hd,ad,m,hval⟩:=hc0
   have hn:m=es.length:=by
    have:=rV hd;rw[hval] at this;cases this<;>rfl
   exact⟨ad,rV hd,by rw[hval,hn],fun n' e=>by cases e;exact hd⟩
 obtain⟨ad,hd,hval,hol⟩:=hx;have hg:Grow w σ w σ:=Grow.refl hS.live
 obtain⟨hS',hk,hst⟩:=hS.push (o:=gJ lab aK es) (h:=v) hg hlen (by
  cases lab with
  |none=>exact⟨hd,hes,ad,es.length,hval,Nat.le_refl _,.inl rfl⟩
  |some n=>exact⟨hd,hes,ad,es.length,hval,Nat.le_refl _,.inl ⟨rfl,hol n rfl⟩⟩) (fun b hb=>by
  rw[hval] at hb
  cases lab<;>cases ad<;>simp[gJ,owns,blk] at hb)
 have hk1:aN ((own++[gJ lab aK es])::Ω) (0,j)=some (.box cs):=iD _ _ _ _ _ hg0;have Dg:aN ((bo++[v])::bΩ) (0,j)=some (.pointer (some ⟨b,0,none⟩)):=iD _ _ _ _ _ FW;have hko:jV (.box cs) (some (Value.pointer (some ⟨b,0,none⟩))) (.box (cs.set i (.bL (0,own.length) es))) (some (Value.pointer (some ⟨b,0,none⟩))):=.inr ⟨⟨_,rfl⟩,rfl⟩
 have hK:Keep ((own++[gJ lab aK es])::Ω) ((bo++[v])::bΩ) (aR ((own++[gJ lab aK es])::Ω) (0,j) (.box (cs.set i (.bL (0,own.length) es)))) (aR ((bo++[v])::bΩ) (0,j) (.pointer (some ⟨b,0,none⟩))):=by
  intro k1 o1 e1;by_cases e:k1=(0,j)
  ·subst e;rw[hk1] at e1;cases e1;exact⟨_,bP _ _ _ _ hk1,by rw[Dg,bP _ _ _ _ Dg];exact hko⟩
  ·exact⟨o1,(dJ _ _ _ _ (Ne.symm e)).trans e1,by rw[dJ _ _ _ _ (Ne.symm e)];exact .refl _ _⟩
 have hne:(0,own.length)≠(0,j):=fun e=>by injection e with _ e;omega
 obtain⟨hS2,hk2,uQ⟩:=hS'.set (w':=w) (σ':=σ) (o':=.box (cs.set i (.bL (0,own.length) es))) (h':=.pointer (some ⟨b,0,none⟩)) hk1 Dg (Nat.le_refl _) rfl rfl (dH.refl _ _) hS'.live (fun _ _ _=>⟨rfl,rfl⟩) hko
  ⟨b,cv,ty,rfl,hbc,hσ,by
    refine⟨by rw[List.length_set];exact hcs.1,fun m x hm=> ?_⟩;rw[List.getElem?_set] at hm;by_cases e:i=m
    ·subst e;rw[if_pos rfl] at hm;split at hm
     ·cases hm;refine⟨v,hv,⟨hd,gJ lab aK es,?_,fun a1 b1 e1=> ?_⟩,hone⟩
      ·show aN (aR _ (0,j) _) (0,own.length)=_;rw[dJ _ _ _ _ (Ne.symm hne),bn]
      ·obtain⟨_,rfl⟩:=jd e1;refine⟨Nat.le_refl _,fun _=> ?_⟩;show aN (aR _ (0,j) _) (0,own.length)=_;rw[dJ _ _ _ _ (Ne.symm hne),<-hlen,bn]
     ·cases hm
    ·rw[if_neg e] at hm;obtain⟨u,hu,hc,ho⟩:=hcs.2 m x hm
     exact⟨u,hu,(hc.mono (dH.refl _ _) hk).mono (dH.refl _ _) hK,ho⟩⟩ (fun _ e=>.inl e)
 have est:aR ((own++[gJ lab aK es])::Ω) (0,j) (.box (cs.set i (.bL (0,own.length) es)))=(own.set j (.box (cs.set i (.bL (0,own.length) es)))++[gJ lab aK es])::Ω:=by
  rw[aR,List.set_append_left _ _ hjl]
 rw[est] at hS2 hk2 uQ;exact⟨_,hS2,hst.trans uQ,hk.trans hk2⟩
end
section
variable {P:Program} {w w':World} {σ σ':Nat->Nat} {β:Hs} {N:Nat}
def l8(x y:C):Prop:=∀w σ S β v,fH w σ S β x v->fH w σ S β y v
theorem l8.refl(x:C):l8 x x:=fun _ _ _ _ _ h=>h
theorem Ey(n:Nat):l8 (.bE []) (.iX n []):=fun w σ S β v h=>by
 obtain⟨hd,a,m,hv⟩:=h
 have hm:m=0:=by rw[hv] at hd;cases hd<;>rfl
 subst hm;exact⟨by rw[hv];exact .nP _ _ _,a,0,hv⟩
theorem eX(n:Nat):l8 (.bE []) (.d (.ol n [])):=fun w σ S β v h=>(Ey n w σ S β v h).1
theorem gG(es:List (List D)):l8 (.bE es) (.d (.sl es)):=fun w σ S β v h=>h.1
theorem aeF(n:Nat)(es:List (List D)):l8 (.d (.ol n es)) (.d (.sl es)):=fun w σ S β v h=>rV h
inductive dW:List C->List C->Prop
 |nil:dW [] []
 |cons {x y:C} {xs ys:List C}:l8 x y->dW xs ys->dW (x::xs) (y::ys)
theorem dW.refl:∀xs,dW xs xs
 |[]=>.nil
 |x::xs=>.cons (.refl x) (dW.refl xs)
theorem dW.length:∀{xs ys:List C},dW xs ys->xs.length=ys.length
 |_,_,.nil=>rfl
 |_,_,.cons _ h=>by rw[List.length_cons,List.length_cons,dW.length h]
theorem dW.at:∀{xs ys:List C},dW xs ys->∀(j:Nat)(x y:C),xs[j]? =some x->ys[j]? =some y->l8 x y
 |_,_,.nil,j,x,y,h,_=>by simp at h
 |_,_,.cons a h,0,x,y,h1,h2=>by simp at h1 h2;subst h1;subst h2;exact a
 |_,_,.cons a h,j+1,x,y,h1,h2=>dW.at h j x y (by simpa using h1) (by simpa using h2)
theorem dW.less{xs ys:List C}(h:dW xs ys):Less (.agg xs) (.agg ys):=by
 rintro w σ S β v ⟨a,ha,hc⟩;refine⟨a,ha,h.length.symm.trans hc.1,fun j y hy=> ?_⟩
 have hj:j<xs.length:=by rw[h.length];exact(List.getElem?_eq_some_iff.1 hy).1
 obtain⟨v,h1,h2,h3⟩:=hc.2 j _ (List.getElem?_eq_getElem hj);exact⟨v,h1,h.at j _ y (List.getElem?_eq_getElem hj) hy w σ S β v h2,h3⟩
theorem dW.agi{xs ys:List C}(h:dW xs ys){w:World}{σ:Nat->Nat}{S:Store}{β:Hs}{vs:List Value}(hc:dS w σ S β xs vs):dS w σ S β ys vs:=by
 refine⟨h.length.symm.trans hc.1,fun j y hy=> ?_⟩
 have hj:j<xs.length:=by rw[h.length];exact(List.getElem?_eq_some_iff.1 hy).1
 obtain⟨v,h1,h2,h3⟩:=hc.2 j _ (List.getElem?_eq_getElem hj);exact⟨v,h1,h.at j _ y (List.getElem?_eq_getElem hj) hy w σ S β v h2,h3⟩
theorem acn{own:List Obj}{Ω:Store}(j:Nat)(cs cs':List C)(hj:own[j]? =some (.box cs))(hle:dW cs cs')(hS:dB w σ (own::Ω) β):
 ∃β',dB w σ ((own.set j (.box cs'))::Ω) β'/\Step (own::Ω) β σ w ((own.set j (.box cs'))::Ω) β' σ w/\Keep (own::Ω) β ((own.set j (.box cs'))::Ω) β'/\fA β'=fA β/\β'.length=β.length:=by
 cases β with
 |nil=>have:=hS.shape.1;simp at this
 |cons bo bΩ=>
 have hg0:aN (own::Ω) (0,j)=some (.box cs):=by rw[aP];exact hj
 obtain⟨hb,FW,hr⟩:=hS.obj (0,j) _ hg0;obtain⟨b,cv,ty,rfl,hbc,hσ,hcs⟩:=hr;have hcs:dS w σ (own::Ω) (bo::bΩ) cs cv.toList:=hcs;have hko:jV (.box cs) (some (Value.pointer (some ⟨b,0,none⟩))) (.box cs') (some (Value.pointer (some ⟨b,0,none⟩))):=.inr ⟨⟨_,rfl⟩,rfl⟩
 have hK:Keep (own::Ω) (bo::bΩ) (aR (own::Ω) (0,j) (.box cs')) (aR (bo::bΩ) (0,j) (.pointer (some ⟨b,0,none⟩))):=by
  intro k1 o1 e1;by_cases e:k1=(0,j)
  ·subst e;rw[hg0] at e1;cases e1;exact⟨_,bP _ _ _ _ hg0,by rw[FW,bP _ _ _ _ FW];exact hko⟩
  ·exact⟨o1,(dJ _ _ _ _ (Ne.symm e)).trans e1,by rw[dJ _ _ _ _ (Ne.symm e)];exact .refl _ _⟩
 obtain⟨hS2,hk2,uQ⟩:=hS.set (w':=w) (σ':=σ) (o':=.box cs') (h':=.pointer (some ⟨b,0,none⟩)) hg0 FW (Nat.le_refl _) rfl rfl (dH.refl _ _) hS.live (fun _ _ _=>⟨rfl,rfl⟩) hko
  ⟨b,cv,ty,rfl,hbc,hσ,by
    have h1:=hle.agi hcs;refine⟨h1.1,fun m x hm=> ?_⟩;obtain⟨u,hu,hc,ho⟩:=h1.2 m x hm
    exact⟨u,hu,hc.mono (dH.refl _ _) hK,ho⟩⟩ (fun _ e=>.inl e)
 have est:aR (own::Ω) (0,j) (.box cs')=(own.set j (.box cs'))::Ω:=rfl;rw[est] at hS2 hk2 uQ;exact⟨_,hS2,uQ,hk2,rfl,by simp[aR]⟩
theorem Nj{tm:List (Nat×V)}{own:List Obj}{Ω:Store}(j:Nat)(cs cs':List C)(hj:own[j]? =some (.box cs))(hle:dW cs cs'):fG N ⟨tm,own::Ω⟩ ⟨tm,(own.set j (.box cs'))::Ω⟩:=by
 intro a w σ β hR;obtain⟨β',hS,hst,hk,ht,_⟩:=acn j cs cs' hj hle hR.S;refine⟨σ,β',⟨hR.size,hR.defers,hS,fun u=>(hR.T u).mono (dH.refl _ _) hk⟩,hst,?_⟩;rw[ht];exact Keep.refl _ _
theorem Ez{tm:List (Nat×V)}{own:List Obj}{Ω:Store}(lab:Option Nat)(j i aK:Nat)(es:List (List D))(cs:List C)(hj:own[j]? =some (.box cs))(hi:cs[i]? =some (match lab with|some n=>.iX n es|none=>.bE es))(hes:∀e∈es,e.length=aK):
 fG N ⟨tm,own::Ω⟩ ⟨tm,(own.set j (.box (cs.set i (.bL (0,own.length) es)))++[gJ lab aK es])::Ω⟩:=by
 intro a w σ β hR;obtain⟨β',hS,hst,hk⟩:=aeE lab j i aK es cs hj hi hes hR.S;refine⟨σ,β',⟨hR.size,hR.defers,hS,fun u=>(hR.T u).mono (dH.refl _ _) hk⟩,hst,?_⟩;intro k o hko
 obtain⟨o',h1,h2⟩:=hk (k.1+1,k.2) o (by
  obtain⟨l,i⟩:=k;show aN (own::Ω) (l+1,i)=_
  rw[bI];exact hko)
 obtain⟨bo,bΩ,rfl,_⟩:=frames hR;have h3:=hS.shape.1
 cases β' with
 |nil=>simp at h3
 |cons bo' bΩ'=>
  rw[bI] at h1;rw[bI,bI] at h2;exact⟨o',h1,h2⟩
theorem Wu{c:Code}{Q:Exit->St->Prop}{tm:List (Nat×V)}{own:List Obj}{Ω:Store}(j:Nat)(cs cs':List C)(hj:own[j]? =some (.box cs))(hle:dW cs cs')(h:AW P N c Q ⟨tm,(own.set j (.box cs'))::Ω⟩):AW P N c Q ⟨tm,own::Ω⟩:=j6 h (Nj j cs cs' hj hle)
theorem Mr{x y:C}(hle:l8 x y):∀(i:Nat)(cs:List C),cs[i]? =some x->dW cs (cs.set i y)
 |0,[],h=>by simp at h
 |0,z::cs,h=>by simp at h;subst h;exact .cons hle (.refl cs)
 |i+1,[],h=>by simp at h
 |i+1,z::cs,h=>.cons (.refl z) (Mr hle i cs (by simpa using h))
theorem CV{c:Code}{Q:Exit->St->Prop}{tm:List (Nat×V)}{own:List Obj}{Ω:Store}(n j i aK:Nat)(cs:List C)(hj:own[j]? =some (.box cs))(hi:cs[i]? =some (.bE []))
 (h:AW P N c Q ⟨tm,(own.set j (.box (cs.set i (.bL (0,own.length) [])))++[.dY n aK []])::Ω⟩):AW P N c Q ⟨tm,own::Ω⟩:=by
 have hjl:=(List.getElem?_eq_some_iff.1 hj).1;have hil:=(List.getElem?_eq_some_iff.1 hi).1;refine Wu j cs (cs.set i (.iX n [])) hj (Mr (Ey n) i cs hi) ?_;refine j6 ?_ (Ez (some n) j i aK [] (cs.set i (.iX n [])) (by rw[List.getElem?_set_self hjl]) (by rw[List.getElem?_set_self hil]) (by simp));rw[List.set_set,List.set_set,List.length_set];exact h
theorem Aj{c:Code}{Q:Exit->St->Prop}{tm:List (Nat×V)}{own:List Obj}{Ω:Store}(j i aK:Nat)(cs:List C)(hj:own[j]? =some (.box cs))(hi:cs[i]? =some (.bE []))
 (h:AW P N c Q ⟨tm,(own.set j (.box (cs.set i (.bL (0,own.length) [])))++[.tok aK []])::Ω⟩):AW P N c Q ⟨tm,own::Ω⟩:=
 j6 h (Ez none j i aK [] cs hj hi (by simp))
def Gp(x y:D):Prop:=∀w σ v,bS w σ x v->bS w σ y v
theorem Gp.refl(x:D):Gp x x:=fun _ _ _ h=>h
theorem aeG(d:D)(n:Nat):Gp (kC d n) d:=fun w σ v h=>abW d n v h
inductive jX:List D->List D->Prop
 |nil:jX [] []
 |cons {x y:D} {xs ys:List D}:Gp x y->jX xs ys->jX (x::xs) (y::ys)
theorem jX.refl:∀r,jX r r
 |[]=>.nil
 |x::xs=>.cons (.refl x) (jX.refl xs)
theorem jX.length:∀{r r':List D},jX r r'->r.length=r'.length
 |_,_,.nil=>rfl
 |_,_,.cons _ h=>by rw[List.length_cons,List.length_cons,h.length]
theorem jX.at:∀{r r':List D},jX r r'->∀(j:Nat)(y:D),r'[j]? =some y->∃x,r[j]? =some x/\Gp x y
 |_,_,.nil,j,y,h=>by simp at h
 |_,_,.cons a h,0,y,h2=>by simp at h2;subst h2;exact⟨_,rfl,a⟩
 |_,_,.cons a h,j+1,y,h2=>h.at j y (by simpa using h2)
theorem Ms:∀(r:List D)(n:Nat),jX (dL r n) r
 |[],n=>.nil
 |d::ds,n=>.cons (aeG d n) (Ms ds _)
theorem jX.append:∀{a a' b b':List D},jX a a'->jX b b'->jX (a++b) (a'++b')
 |_,_,_,_,.nil,h=>h
 |_,_,_,_,.cons x h,k=>.cons x (h.append k)
inductive gF:List (List D)->List (List D)->Prop
 |nil:gF [] []
 |cons {x y:List D} {xs ys:List (List D)}:jX x y->gF xs ys->gF (x::xs) (y::ys)
theorem gF.length:∀{r r':List (List D)},gF r r'->r.length=r'.length
 |_,_,.nil=>rfl
 |_,_,.cons _ h=>by rw[List.length_cons,List.length_cons,h.length]
theorem gF.snoc:∀{a b:List (List D)}{x y:List D},gF a b->jX x y->gF (a++[x]) (b++[y])
 |_,_,_,_,.nil,h=>.cons h .nil
 |_,_,_,_,.cons z h,k=>.cons z (h.snoc k)
theorem gF.rows{z:Nat}:∀{a b:List (List D)},gF a b->(∀r∈b,r.length=z)->∀r∈a,r.length=z
 |_,_,.nil,h,r,hr=>by cases hr
 |_,_,.cons x h,k,r,hr=>by
  rcases List.mem_cons.1 hr with rfl|hr
  ·rw[x.length];exact k _ (by simp)
  ·exact h.rows (fun r hr=>k r (by simp[hr])) r hr
theorem gF.flat:∀{a b:List (List D)},gF a b->jX a.flatten b.flatten
 |_,_,.nil=>.nil
 |_,_,.cons x h=>by rw[List.flatten_cons,List.flatten_cons];exact x.append h.flat
theorem gF.rep{a b:List (List D)}(h:gF a b){w:World}{σ:Nat->Nat}{v:Value}(hr:bS w σ (.sl a) v):bS w σ (.sl b) v:=by
 cases hr with
 |nil ad cap=>
  cases h;exact .nil ad cap
 |sl b0 off cap aK es vals c t fz hcap hlen hb hσ hc hv=>
  have hl:=h.length;rw[hl] at hcap hσ hc ⊢
  have hlb:∀e∈b,e.length=aK:=fun e he=>by
   obtain⟨i,hi,rfl⟩:=List.getElem_of_mem he
   have:∀{a b:List (List D)}(h:gF a b)(i:Nat)(hi:i<b.length)(hi':i<a.length),jX a[i] b[i]:=by
    intro a b h
    induction h with
    |nil=>intro i hi;simp at hi
    |cons x h ih=>intro i hi hi';cases i with
     |zero=>exact x
     |succ i=>exact ih i (by simpa using hi) (by simpa using hi')
   have h1:=this h i hi (by omega);rw[<-h1.length];exact hlen _ (List.getElem_mem _)
  refine .sl b0 off cap aK b vals c t fz hcap hlb hb hσ hc fun j d hd=> ?_;obtain⟨x,hx,hle⟩:=h.flat.at j d hd;exact hle w σ _ (hv j x hx)
theorem AV:∀(r:List (List D))(n:Nat),gF (dU r n) r
 |[],n=>.nil
 |d::ds,n=>.cons (Ms d n) (AV ds _)
inductive jU:List (Bool×List C)->List (Bool×List C)->Prop
 |nil:jU [] []
 |cons {b:Bool} {cs cs':List C} {xs ys:List (Bool×List C)}:dW cs cs'->jU xs ys->jU ((b,cs)::xs) ((b,cs')::ys)
theorem jU.refl:∀xs,jU xs xs
 |[]=>.nil
 |(b,cs)::xs=>.cons (.refl cs) (jU.refl xs)
theorem jU.length:∀{xs ys:List (Bool×List C)},jU xs ys->xs.length=ys.length
 |_,_,.nil=>rfl
 |_,_,.cons _ h=>by rw[List.length_cons,List.length_cons,h.length]
theorem jU.at:∀{xs ys:List (Bool×List C)},jU xs ys->∀(j:Nat)(y:Bool×List C),ys[j]? =some y->∃cs,xs[j]? =some (y.1,cs)/\dW cs y.2
 |_,_,.nil,j,y,h=>by simp at h
 |_,_,.cons a h,0,y,h2=>by simp at h2;subst h2;exact⟨_,rfl,a⟩
 |_,_,.cons a h,j+1,y,h2=>h.at j y (by simpa using h2)
theorem jU.less{xs ys:List (Bool×List C)}(h:jU xs ys):Less (.d9 xs) (.d9 ys):=by
 rintro w σ S β v ⟨a,ha,hl,hc⟩;refine⟨a,ha,h.length.symm.trans hl,fun j y hy=> ?_⟩;obtain⟨cs,h1,h2⟩:=h.at j y hy;obtain⟨u,hu,hr⟩:=hc j _ h1;refine⟨u,hu,?_⟩;obtain⟨b,cs'⟩:=y
 cases b with
 |true=>
  obtain⟨a',e,hcs⟩:=hr;exact⟨a',e,h2.agi hcs⟩
 |false=>
  obtain⟨x,e,hx,ho⟩:=hr;simp only at e h2;subst e
  cases h2 with
  |cons hxy hn=>
   cases hn;exact⟨_,rfl,hxy w σ S β u hx,ho⟩
theorem aG.of_le{f:FuncId}{args:List V}{t:V}(h:∀S,bF P f args S fun r S'=>Less r t/\S'=S):aG P f args t:=fun S=>
 ⟨(h S).1,fun w σ β vs hS hv=>((h S).2 w σ β vs hS hv).mono fun e w' ⟨v,r,S',σ',β',h1,h2,h3,h4,h5,h6,h7⟩=>⟨v,t,S',σ',β',h1,h2,h3,h4,h6 _ _ _ _ _ h5,rfl,h7⟩⟩
theorem Mt{cs cs':List C}{xs:List (Bool×List C)}(h:∀w σ S β vs,dS w σ S β cs vs->dS w σ S β cs' vs):Less (.d9 ((true,cs)::xs)) (.d9 ((true,cs')::xs)):=by
 rintro w σ S β v ⟨a,ha,hl,hc⟩;obtain⟨u,hu,a',rfl,hcs⟩:=hc 0 _ rfl;refine⟨a,ha,hl,fun j y hy=> ?_⟩
 cases j with
 |zero=>
  simp at hy;subst hy;exact⟨_,hu,a',rfl,h _ _ _ _ _ hcs⟩
 |succ j=>exact hc (j+1) y (by simpa using hy)
theorem jm(v:V):Less v v:=fun _ _ _ _ _ h=>h
end
def cZ(l:List ah)(i:Nat):List UInt8:=(l.getD i eu).aM
theorem kS{l:List ah}{i:Nat}(h:i<l.length):cZ l i=l[i].aM:=by simp[cZ,List.getD,h]
theorem BD{l:List ah}{i:Nat}(h:l.length<=i):cZ l i=[]:=by simp[cZ,List.getD,h];rfl
def jA(l:List ah):List (List UInt8):=if l.all (fun x=>decide (x.aM≠[]))=true then l.map ah.aM else []
theorem EA:∀{vs:List (List UInt8)},(∀v∈vs,v≠[])->jA (aU vs)=vs:=fun {vs} h=>by
 unfold jA aU;rw[if_pos (List.all_eq_true.2 fun x hx=> ?_),List.map_map]
 ·conv=>rhs;rw[<-List.map_id vs]
  rfl
 ·obtain⟨v,hv,rfl⟩:=List.mem_map.1 hx;exact decide_eq_true (h v hv)
theorem Qk:∀l:List ah,((l.map ah.aM).map List.length).sum<=dz l
 |[]=>by simp[dz]
 |x::l=>by
  have:=Qk l;rw[List.map_cons,List.map_cons,List.sum_cons,dz,gM];omega
theorem Mv(l:List ah):(jA l).length<=l.length/\((jA l).map List.length).sum<=dz l:=by
 unfold jA;split
 ·refine⟨by simp,?_⟩;exact Qk l
 ·simp
mutual
def dV(b:Bool):ah->ak
 | .mk a l=>if a=[] then
    if l.length<2 then .mk 0 [] []
    else if cZ l 0=CB/\(b=true\/l.length=2/\cZ l 1≠[]) then .mk 4 (cZ l 1) []
    else if cZ l 0=l7/\(b=true\/l.length=3/\cZ l 1≠[]) then .mk 3 (cZ l 1) ((mD b l).drop 2)
    else .mk 2 (cZ l 0) ((mD b l).drop 1)
   else if a.head? =some 39 then .mk 1 a.tail [] else .mk 2 a []
def mD(b:Bool):List ah->List ak
 |[]=>[]
 |x::xs=>dV b x::mD b xs
end
theorem EB(b:Bool):∀l,mD b l=l.map (dV b)
 |[]=>rfl
 |t::ts=>by rw[mD,List.map_cons,EB b ts]
theorem Tz(b:Bool)(x:ah):dV b x=if x.aM=[] then
 if x.aj.length<2 then .mk 0 [] []
 else if cZ x.aj 0=CB/\(b=true\/x.aj.length=2/\cZ x.aj 1≠[]) then .mk 4 (cZ x.aj 1) []
 else if cZ x.aj 0=l7/\(b=true\/x.aj.length=3/\cZ x.aj 1≠[]) then .mk 3 (cZ x.aj 1) ((x.aj.map (dV b)).drop 2)
 else .mk 2 (cZ x.aj 0) ((x.aj.map (dV b)).drop 1)
 else if x.aM.head? =some 39 then .mk 1 x.aM.tail [] else .mk 2 x.aM []:=by
 cases x;rw[dV,EB];rfl
theorem J5:∀a b,qV (a++b)=qV a+qV b
 |[],b=>by simp[qV]
 |x::a,b=>by rw[List.cons_append,qV,qV,J5 a b];omega
theorem Ql(l:List ak)(i:Nat):qV (l.drop i)<=qV l:=by
 have:=J5 (l.take i) (l.drop i);rw[List.take_append_drop] at this;omega
theorem Zi(l:List ah)(i:Nat):(cZ l i).length<=dz l:=by
 by_cases h:i<l.length
 ·rw[kS h];have h1:=jq (List.getElem_mem h);rw[gM] at h1;omega
 ·rw[BD (by omega)];simp
mutual
theorem BF(b:Bool):∀x:ah,(dV b x).sz<=x.sz
 | .mk a l=>by
   have h1:=Hw b l;have h2:=Ql (mD b l) 2;have h3:=Ql (mD b l) 1;have h4:=Zi l 0;have h5:=Zi l 1
   have h6:(mD b l).length=l.length:=by rw[EB,List.length_map]
   rw[gM,jf];simp only[ah.aM,ah.aj];rw[dV];split
   ·split
    ·rw[qW];simp[ak.fName,ak.fArgs,qV]
    ·split
     ·rw[qW];simp[ak.fName,ak.fArgs,qV];omega
     ·have g0:=EC b l 0;have g1:=EC b l 1;simp only[Nat.zero_add,Nat.reduceAdd] at g0 g1;split
      ·rw[qW];simp only[ak.fName,ak.fArgs,List.length_drop,h6];omega
      ·rw[qW];simp only[ak.fName,ak.fArgs,List.length_drop,h6];omega
   ·split
    ·rw[qW];simp[ak.fName,ak.fArgs,qV];omega
    ·rw[qW];simp[ak.fName,ak.fArgs,qV]
theorem Hw(b:Bool):∀l:List ah,qV (mD b l)<=dz l
 |[]=>by simp[mD,qV]
 |x::xs=>by
  have h1:=BF b x;have h2:=Hw b xs;rw[mD,qV,dz];omega
theorem EC(b:Bool):∀(l:List ah)(i:Nat),qV ((mD b l).drop (i+1))+(cZ l i).length<=dz l
 |[],i=>by simp[mD,qV,BD]
 |x::xs,0=>by
  have h2:=Hw b xs;rw[mD,List.drop_succ_cons,List.drop_zero,dz,show cZ (x::xs) 0=x.aM from rfl,gM];omega
 |x::xs,i+1=>by
  have h2:=EC b xs i;rw[mD,List.drop_succ_cons,dz,show cZ (x::xs) (i+1)=cZ xs i from rfl];omega
end
theorem BG{s:List UInt8}(h:validName s=true):s≠[]:=fun e=>by rw[e] at h;have:=iR h;simp at this
theorem Zj{s:List UInt8}(h:validName s=true):s.head? ≠some 39:=fun e=>by
 have h1:=iR h;have h2:=h1.2.2 0 (by omega)
 cases s with
 |nil=>cases e
 |cons c s=>
  simp only[List.head?_cons,Option.some.injEq] at e;subst e;simp[lowerB,nJ] at h2
theorem aco{s:List UInt8}(h:validName s=true):s≠CB/\s≠l7:=by
 have h1:=(iR h).2.1;refine⟨fun e=>h1 (by rw[e];simp[reserved,CB]),fun e=>h1 (by rw[e];simp[reserved,l7])⟩
mutual
theorem BH(b:Bool):∀t:ak,formed t=true->dV b (eH t)=t
 | .mk k n zs=>fun hf=>by
   rw[formed,Bool.and_eq_true] at hf;have hfi:=iR hf.1;have hzs:=Qm b zs hf.2;rw[eH];by_cases h1:k=1
   ·have hz:zs=[]:=by
     have:zs.length=0:=by omega
     exact List.eq_nil_of_length_eq_zero this
    rw[if_pos h1,bB,dV,if_neg (by simp),if_pos (by simp),hz,h1];rfl
   rw[if_neg h1];by_cases h4:k=4
   ·have hz:zs=[]:=by
     have:zs.length=0:=by omega
     exact List.eq_nil_of_length_eq_zero this
    have hn:validName n=true:=by
     rcases hfi with h|h|h
     ·exact h.2.1
     ·exact h.2.1
     ·omega
    rw[if_pos h4,fu,dV,if_pos rfl,if_neg (by simp),if_pos ⟨rfl,.inr ⟨rfl,BG hn⟩⟩,hz,h4];rfl
   rw[if_neg h4];by_cases h2:k=2/\zs.length=0
   ·have hz:zs=[]:=List.eq_nil_of_length_eq_zero h2.2
    have hn:n≠[]/\n.head? ≠some 39:=by
     rcases hfi with h|h|h
     ·omega
     ·omega
     ·rcases h.2 with g|g
      ·exact⟨BG g.1,Zj g.1⟩
      ·rcases iR g.1 with e|e<;>rw[e]<;>simp
    rw[if_pos h2,bB,dV,if_neg hn.1,if_neg hn.2,hz,h2.1]
   rw[if_neg h2];by_cases h3:k=3
   ·have hz:zs.length=1/\validName n=true:=by
     rcases hfi with h|h|h
     ·omega
     ·exact⟨h.2.2,h.2.1⟩
     ·omega
    rw[if_pos h3,fu,dV,if_pos rfl,if_neg (by simp),if_neg (fun h=>by have:=h.1;simp[cZ,bB,ah.aM,CB,l7] at this),if_pos ⟨rfl,.inr ⟨by rw[vP];simp[hz.1],BG hz.2⟩⟩];show ak.mk 3 n (mD b (zw zs))=_;rw[hzs,h3]
   ·have hn:validName n=true/\zs≠[]:=by
     rcases hfi with h|h|h
     ·omega
     ·omega
     ·rcases h.2 with g|g
      ·exact⟨g.1,fun e=>h2 ⟨h.1,by rw[e];rfl⟩⟩
      ·exact(h2 ⟨h.1,g.2⟩).elim
    have hk:k=2:=by
     rcases hfi with h|h|h
     ·omega
     ·omega
     ·exact h.1
    have hd:=aco hn.1;rw[if_neg h3,fu,dV,if_pos rfl,if_neg (by rw[vP];cases zs with|nil=>exact(hn.2 rfl).elim|cons z zs=>simp),if_neg (fun h=>hd.1 h.1),if_neg (fun h=>hd.2 h.1)];show ak.mk 2 n (mD b (zw zs))=_;rw[hzs,hk]
theorem Qm(b:Bool):∀ts:List ak,iA ts=true->mD b (zw ts)=ts
 |[],_=>rfl
 |t::ts,h=>by
  rw[iA,Bool.and_eq_true] at h;rw[zw,mD,BH b t h.1,Qm b ts h.2]
end
theorem TA{vs:List (List UInt8)}(h:kR vs=true):∀v∈vs,v≠[]:=fun v hv=>by
 unfold kR at h;rw[Bool.and_eq_true] at h;exact BG (List.all_eq_true.1 h.2 v hv)
theorem Hy:eu.sz=0:=by rw[gM];simp[eu,ah.aM,ah.aj,bA]
theorem acp{b:Bool}{s x:ah}(h:vQ b s=x)(hx:x.aj≠[]):b=true/\s=x/\ig x=true:=by
 cases b with
 |false=>rw[<-h] at hx;exact(hx rfl).elim
 |true=>
  rw[vQ] at h;unfold Gg at h;split at h
  ·rename_i hv;exact⟨rfl,h,by rw[<-h];exact hv⟩
  ·rw[<-h] at hx;exact(hx rfl).elim
theorem Gq(d:Nat)(h:d<10):Lib.digitVal (UInt8.ofNat (48+d))=some d:=by
 have:(UInt8.ofNat (48+d)).toNat=48+d:=by rw[UInt8.toNat_ofNat'];omega
 unfold Lib.digitVal;rw[this,if_pos (by omega)];congr 1;omega
theorem zF:∀(l:List UInt8)(acc:Nat)(b:UInt8),Lib.decFrom acc (l++[b])=(Lib.decFrom acc l).bind fun m=>(Lib.digitVal b).map fun d=>m*10+d
 |[],acc,b=>by
  rw[List.nil_append,Lib.decFrom,Lib.decFrom];cases Lib.digitVal b<;>rfl
 |a::l,acc,b=>by
  rw[List.cons_append,Lib.decFrom,Lib.decFrom]
  cases Lib.digitVal a with
  |none=>rfl
  |some e=>exact zF l _ b
theorem vS(n:Nat):Lib.decFrom 0 (Lib.decDigits n)=some n:=by
 induction n using Nat.strongRecOn with
 |_ n ih=>
  rw[Lib.decDigits];split
  ·rename_i h;rw[Lib.decFrom,Gq n h];simp[Lib.decFrom]
  ·rename_i h;rw[zF,ih (n/10) (by omega),Gq _ (Nat.mod_lt _ (by decide))];simp only[Option.bind_some,Option.map_some,Option.some.injEq];omega
theorem vT(n:Nat):∃b r,Lib.decDigits n=b::r/\48<=b.toNat/\b.toNat<=57:=by
 induction n using Nat.strongRecOn with
 |_ n ih=>
  rw[Lib.decDigits];split
  ·rename_i h;exact⟨_,_,rfl,by rw[UInt8.toNat_ofNat'];omega,by rw[UInt8.toNat_ofNat'];omega⟩
  ·rename_i h;obtain⟨b,r,e,h1,h2⟩:=ih (n/10) (by omega);rw[e];exact⟨b,r++_,rfl,h1,h2⟩
theorem Dn(n:Nat):Lib.decNat (Lib.decDigits n)=some n:=by
 obtain⟨b,r,e,_⟩:=vT n;unfold Lib.decNat;rw[show(Lib.decDigits n).isEmpty=false from by rw[e];rfl];exact vS n
theorem ED(b:UInt8)(r:List UInt8):Lib.atoi (b::r)=if b==45 then(Lib.decNat r).map fun(m:Nat)=> -(m:Int) else if b==43 then(Lib.decNat r).map fun(m:Nat)=>(m:Int) else(Lib.decNat (b::r)).map fun(m:Nat)=>(m:Int):=rfl
theorem Mw(n:Int):Lib.atoi (Lib.itoa n)=some n:=by
 unfold Lib.itoa;split
 ·rename_i h;show Lib.atoi (45::Lib.decDigits n.natAbs)=_;rw[ED,if_pos (by decide),Dn];simp only[Option.map_some,Option.some.injEq];omega
 ·rename_i h;obtain⟨b,r,e,h1,h2⟩:=vT n.toNat;have hd:=Dn n.toNat;rw[e] at hd ⊢;rw[ED,if_neg (by simp only[beq_iff_eq];intro h;rw[h] at h1;revert h1;decide),if_neg (by simp only[beq_iff_eq];intro h;rw[h] at h1;revert h1;decide),hd];simp only[Option.map_some,Option.some.injEq];omega
theorem aeH(n:Int):Lib.itoa n≠[]:=fun e=>by
 have:=Mw n;rw[e] at this;cases this
def fC(s:List UInt8):Option Int:=match Lib.atoi s with
 |some n=>if(-999999999999<=n/\n<=999999999999)/\Lib.itoa n=s then some n else none
 |none=>none
theorem J6{n:Int}(h: -999999999999<=n/\n<=999999999999):fC (Lib.itoa n)=some n:=by
 unfold fC;rw[Mw];exact if_pos ⟨h,rfl⟩
theorem J7{s:List UInt8}{n:Int}(h:fC s=some n):(-999999999999<=n/\n<=999999999999)/\Lib.itoa n=s:=by
 unfold fC at h;split at h
 ·split at h
  ·cases h;assumption
  ·cases h
 ·cases h
theorem zG{b:UInt8}{r:List UInt8}(h:lowerB b):fC (b::r)=none:=by
 have h1:(b==45)=false:=by simp only[beq_eq_false_iff_ne];intro e;rw[e] at h;revert h;simp[lowerB]
 have h2:(b==43)=false:=by simp only[beq_eq_false_iff_ne];intro e;rw[e] at h;revert h;simp[lowerB]
 have h3:Lib.digitVal b=none:=if_neg (fun x=>by unfold lowerB at h;omega);unfold fC;rw[ED,h1,h2];simp[Lib.decNat,Lib.decFrom,h3]
theorem Wv{s:List UInt8}(h:validName s=true):fC s=none:=by
 have h1:=iR h;have h2:=h1.2.2 0 (by omega)
 cases s with
 |nil=>simp at h1
 |cons b r=>
  rcases h2 with h2|h2
  ·exact zG h2
  ·exact(h2.1 rfl).elim
def iF:ak:=.mk 0 [] []
def qZ:au:=.mk 0 [] [] 0 iF [] []
mutual
def dI(b:Bool):ah->au
 | .mk a l=>if a=[] then
    if b=true/\(l.length<2\/cZ l 0=gu/\l.length<3) then qZ
    else if cZ l 0=lg then .mk 4 [] (cZ l 1) 0 iF ((dR b l).drop 2) []
    else if cZ l 0=nV then .mk 6 [] (cZ l 1) 0 iF ((dR b l).drop 2) []
    else if cZ l 0=nW then .mk 8 [] (cZ l 1) 0 iF ((dR b l).drop 2) []
    else if cZ l 0=lq then .mk 11 (cZ l 1) [] 0 iF ((dR b l).drop 2) []
    else if cZ l 0=gu then .mk 5 (cZ l 1) (cZ l 2) 0 iF ((dR b l).drop 3) []
    else if cZ l 0=sj then .mk 9 [] [] 0 iF ((dR b l).drop 1) []
    else if cZ l 0=oH then .mk 12 [] [] 0 (dV b (l.getD 1 eu)) ((dR b l).drop 2) []
    else if cZ l 0=iP then .mk 7 [] [] 0 iF (((dR b l).drop 1).take 1) ((kD b l).drop 2)
    else .mk 10 [] (cZ l 0) 0 iF ((dR b l).drop 1) []
   else match fC a with
    |some n=>.mk 1 [] [] n iF [] []
    |none=>if a=wG then .mk 2 [] [] 1 iF [] [] else if a=vg then .mk 2 [] [] 0 iF [] [] else .mk 3 [] a 0 iF [] []
def dR(b:Bool):List ah->List au
 |[]=>[]
 |x::xs=>dI b x::dR b xs
def mZ(b:Bool):ah->aJ
 | .mk a l=>if l.length<2 then .mk [] [] qZ else .mk (cZ l 0) (jA ((l.drop 1).dropLast)) ((dR b l).getLastD qZ)
def kD(b:Bool):List ah->List aJ
 |[]=>[]
 |x::xs=>mZ b x::kD b xs
end
theorem xC(b:Bool):∀l,dR b l=l.map (dI b)
 |[]=>rfl
 |t::ts=>by rw[dR,List.map_cons,xC b ts]
theorem Ak(b:Bool):∀l,kD b l=l.map (mZ b)
 |[]=>rfl
 |t::ts=>by rw[kD,List.map_cons,Ak b ts]
theorem jB(b:Bool)(l m:List ah):dR b (l++m)=dR b l++dR b m:=by simp only[xC,List.map_append]
theorem ng(b:Bool)(l m:List ah):kD b (l++m)=kD b l++kD b m:=by simp only[Ak,List.map_append]
theorem oJ{t:ak}(h:Ag t):t=iF:=ak.ext h.1 h.2.1 (List.eq_nil_of_length_eq_zero h.2.2)
theorem Sk{s:List UInt8}(h:s∈ops):s≠[]/\∀w∈[lg,nV,nW,lq,gu,sj,oH,iP],s≠w:=by
 have:=YQ h;refine⟨fun e=>by rw[e] at this;simp at this,fun w hw e=> ?_⟩;rw[e] at this;simp only[List.mem_cons,List.not_mem_nil,or_false] at hw;rcases hw with g|g|g|g|g|g|g|g<;>rw[g] at this<;>revert this<;>decide
mutual
theorem K8(b:Bool):∀e:au,gI e=true->dI b (eB e)=e
 | .mk k tr nm n ty zs ms=>fun hok=>by
   rw[gI,Bool.and_eq_true,Bool.and_eq_true] at hok;have hf:=iR hok.1;have h1:=Qn b zs hok.2.1;have h2:=Qo b ms hok.2.2;obtain⟨p0,p1,p2,p3,p4,p5,p6⟩:=hf;simp only[au.aH,au.aZ,au.fName,au.fN,au.fType,au.fArgs,au.aI] at p0 p1 p2 p3 p4 p5 p6;have nz:∀{l:List au},l.length=0->l=[]:=fun h=>List.eq_nil_of_length_eq_zero h
   have EF:k≠7->ms=[]:=fun h=>List.eq_nil_of_length_eq_zero (by
    have:¬0<ms.length:=fun x=>h (p6.2 x)
    omega)
   have hk:k=1\/k=2\/k=3\/k=4\/k=5\/k=6\/k=7\/k=8\/k=9\/k=10\/k=11\/k=12:=by omega
   rcases hk with rfl|rfl|rfl|rfl|rfl|rfl|rfl|rfl|rfl|rfl|rfl|rfl
   all_goals simp only[if_true,if_false,true_or,or_true,false_or,or_false,or_self,(by decide:(1:Int)=5<->False),Int.reduceEq] at p1 p2 p3 p4 p5
   ·have e1:=oJ p4;have e2:=nz p5;have e3:=EF (by decide);subst e1 e2 e3 p1 p2;rw[eB,if_pos rfl,bB,dI,if_neg (aeH n),J6 (by omega)]
   ·have e1:=oJ p4;have e2:=nz p5;have e3:=EF (by decide);subst e1 e2 e3 p1 p2;rw[eB,if_neg (by decide),if_pos rfl,bB,dI];rcases p3 with rfl|rfl
    ·rw[if_neg (by decide:¬(0:Int)=1),if_neg (by decide),show fC vg=none from zG (by simp[lowerB]),if_neg (by decide),if_pos rfl]
    ·rw[if_pos rfl,if_neg (by decide),show fC wG=none from zG (by simp[lowerB]),if_pos rfl]
   ·have e1:=oJ p4;have e2:=nz p5;have e3:=EF (by decide);subst e1 e2 e3 p1 p3;have hr:=(iR p2).2.1;rw[eB,if_neg (by decide),if_neg (by decide),if_pos rfl,bB,dI,if_neg (BG p2),Wv p2,if_neg (fun e=>hr (by rw[e];simp[reserved,wG])),if_neg (fun e=>hr (by rw[e];simp[reserved,vg]))]
   all_goals have hz:(xS zs).length=zs.length:=by rw[zC,List.length_map]
   ·have e1:=oJ p4;have e3:=EF (by decide);subst e1 e3 p1 p3;simp[eB,fZ,fu,aU,dI,dR,jB,kD,ng,cZ,bB,ah.aM,lg,gu,nV,iP,nW,sj,lq,oH,h1,hz,h2]
    all_goals (intros;omega)
   ·have e1:=oJ p4;have e3:=EF (by decide);subst e1 e3 p3;simp[eB,fZ,fu,aU,dI,dR,jB,kD,ng,cZ,bB,ah.aM,lg,gu,nV,iP,nW,sj,lq,oH,h1,hz,h2]
    all_goals (intros;omega)
   ·have e1:=oJ p4;have e3:=EF (by decide);subst e1 e3 p1 p3;simp[eB,fZ,fu,aU,dI,dR,jB,kD,ng,cZ,bB,ah.aM,lg,gu,nV,iP,nW,sj,lq,oH,h1,hz,h2]
    all_goals (intros;omega)
   ·have e1:=oJ p4;subst e1 p1 p2 p3;have hm:0<ms.length:=p6.1 rfl
    obtain⟨z,rfl⟩:∃z,zs=[z]:=by
     cases zs with
     |nil=>simp at p5
     |cons z t=>cases t with
      |nil=>exact⟨z,rfl⟩
      |cons _ _=>simp at p5
    simp only[xS,dR,List.cons.injEq,and_true] at h1;simp[eB,fZ,fu,aU,dI,dR,jB,kD,ng,xS,cZ,bB,ah.aM,lg,gu,nV,iP,nW,sj,lq,oH,h1,h2]
    all_goals (intros;omega)
   ·have e1:=oJ p4;have e3:=EF (by decide);subst e1 e3 p1 p3;simp[eB,fZ,fu,aU,dI,dR,jB,kD,ng,cZ,bB,ah.aM,lg,gu,nV,iP,nW,sj,lq,oH,h1,hz,h2]
    all_goals (intros;omega)
   ·have e1:=oJ p4;have e3:=EF (by decide);subst e1 e3 p1 p2 p3;simp[eB,fZ,fu,aU,dI,dR,jB,kD,ng,cZ,bB,ah.aM,lg,gu,nV,iP,nW,sj,lq,oH,h1,hz,h2]
    all_goals (intros;omega)
   ·have e1:=oJ p4;have e3:=EF (by decide);subst e1 e3 p1 p3;have ho:=Sk p2;simp only[List.mem_cons,List.not_mem_nil,or_false,ne_eq,forall_eq_or_imp,forall_eq] at ho;obtain⟨_,o1,o2,o3,o4,o5,o6,o7,o8⟩:=ho;simp[eB,fZ,fu,aU,dI,dR,jB,cZ,bB,ah.aM,h1,hz,o1,o2,o3,o4,o5,o6,o7,o8]
    all_goals (intros;omega)
   ·have e1:=oJ p4;have e3:=EF (by decide);subst e1 e3 p2 p3;simp[eB,fZ,fu,aU,dI,dR,jB,kD,ng,cZ,bB,ah.aM,lg,gu,nV,iP,nW,sj,lq,oH,h1,hz,h2]
    all_goals (intros;omega)
   ·have e3:=EF (by decide);subst e3 p1 p2 p3;have ht:=BH b ty (qU p4);simp[eB,fZ,fu,aU,dI,dR,jB,cZ,bB,ah.aM,lg,gu,nV,iP,nW,sj,lq,oH,h1,hz,ht]
    all_goals (intros;omega)
theorem Qn(b:Bool):∀es:List au,jo es=true->dR b (xS es)=es
 |[],_=>rfl
 |t::ts,h=>by
  rw[jo,Bool.and_eq_true] at h;rw[xS,dR,K8 b t h.1,Qn b ts h.2]
theorem aeI(b:Bool):∀m:aJ,rH m=true->mZ b (vD m)=m
 | .mk c vs e=>fun h=>by
   rw[rH,Bool.and_eq_true,Bool.and_eq_true] at h;have he:=K8 b e h.2.2;rw[vD,fu,mZ,if_neg (by simp),jB];have e1:cZ ([bB c]++aU vs++[eB e]) 0=c:=rfl
   have e2:(([bB c]++aU vs++[eB e]).drop 1).dropLast=aU vs:=by
    rw[List.append_assoc,List.singleton_append,List.drop_succ_cons,List.drop_zero,List.dropLast_concat]
   rw[e1,e2,EA (TA h.2.1)];congr 1;rw[dR,he,List.getLastD_eq_getLast?,List.getLast?_append];simp[dR]
theorem Qo(b:Bool):∀ms:List aJ,lG ms=true->kD b (CO ms)=ms
 |[],_=>rfl
 |t::ts,h=>by
  rw[lG,Bool.and_eq_true] at h;rw[CO,kD,aeI b t h.1,Qo b ts h.2]
end
theorem zH:iF.sz=0:=by rw[qW];rfl
theorem Al:qZ.sz=0:=by rw[sP];simp[qZ,au.aZ,au.fName,au.fType,au.fArgs,au.aI,zH,pW,xZ]
theorem Ww(l:List ah):((jA ((l.drop 1).dropLast)).length+((jA ((l.drop 1).dropLast)).map List.length).sum)<=(l.drop 1).dropLast.length+dz ((l.drop 1).dropLast):=by
 have:=Mv ((l.drop 1).dropLast);omega
theorem aeJ(x:ah)(m:List ah)(y:ah):dz (x::(m++[y]))=x.sz+(dz m+y.sz):=by rw[dz,kY];simp[dz]
mutual
theorem FD(b:Bool):∀x:ah,(dI b x).sz<=x.sz
 | .mk a l=>by
   have g:=Mx b l
   have hl:(dR b l).length=l.length:=by rw[xC,List.length_map]
   have hm:(kD b l).length=l.length:=by rw[Ak,List.length_map]
   rw[gM,jf];simp only[ah.aM,ah.aj];rw[dI];split
   ·have g1:pW ((dR b l).drop 1)+(cZ l 0).length<=dz l:=by
     have:=g 0;simp only[Nat.zero_add,(by decide:¬(1<=0)),if_false] at this;omega
    have g2:pW ((dR b l).drop 2)+((cZ l 0).length+(cZ l 1).length)<=dz l:=by
     have:=g 1;simp only[Nat.reduceAdd,Nat.le_refl,if_true,Nat.sub_self] at this;omega
    have g3:pW ((dR b l).drop 3)+((cZ l 1).length+(cZ l 2).length)<=dz l:=by
     have:=g 2;simp only[Nat.reduceAdd,(by decide:1<=2),if_true,Nat.reduceSub] at this;omega
    split
    ·rw[Al];omega
    ·repeat' split
     all_goals rw[sP];simp only[au.aZ,au.fName,au.fType,au.fArgs,au.aI,zH,pW,xZ,List.length_nil,List.length_drop,List.length_take,hl,hm,List.drop_zero] at g1 g2 g3 ⊢
     all_goals try omega
     ·have h1:=BF b (l.getD 1 eu)
      have h2:pW ((dR b l).drop 2)+(l.getD 1 eu).sz<=dz l:=by
       match l with
       |[]=>simp[dR,pW,dz,Hy]
       |[x]=>simp[dR,pW,dz,Hy]
       |x::y::l=>
        have:=Hz b l;simp only[dR,List.drop_succ_cons,List.drop_zero,dz];show _+y.sz<=_;omega
      omega
     ·match l with
      |[]=>simp[pW,xZ,dR,kD]
      |[x]=>simp[pW,xZ,dR,kD]
      |x::y::l=>
       have h1:=FD b y;have h2:=Qp b l;simp only[dR,kD,List.drop_succ_cons,List.drop_zero,List.take_succ_cons,List.take_zero,pW,dz,List.length_cons];omega
   ·split
    ·rw[sP];simp[au.aZ,au.fName,au.fType,au.fArgs,au.aI,zH,pW,xZ]
    ·repeat' split
     all_goals rw[sP];simp[au.aZ,au.fName,au.fType,au.fArgs,au.aI,zH,pW,xZ]
theorem Hz(b:Bool):∀l:List ah,pW (dR b l)<=dz l
 |[]=>by simp[dR,pW]
 |x::xs=>by
  have h1:=FD b x;have h2:=Hz b xs;rw[dR,pW,dz];omega
theorem Mx(b:Bool):∀(l:List ah)(i:Nat),pW ((dR b l).drop (i+1))+((if 1<=i then(cZ l (i-1)).length else 0)+(cZ l i).length)<=dz l
 |[],i=>by simp[dR,pW,BD]
 |x::xs,0=>by
  have h2:=Hz b xs;rw[dR,List.drop_succ_cons,List.drop_zero,dz,show cZ (x::xs) 0=x.aM from rfl,gM];simp;omega
 |x::xs,i+1=>by
  have h2:=Mx b xs i;rw[dR,List.drop_succ_cons,dz,show cZ (x::xs) (i+1)=cZ xs i from rfl]
  cases i with
  |zero=>rw[show cZ (x::xs) (0+1-1)=x.aM from rfl,gM];simp at h2 ⊢;omega
  |succ i=>rw[show cZ (x::xs) (i+1+1-1)=cZ xs i from rfl];simp at h2 ⊢;omega
theorem aeK(b:Bool):∀x:ah,(mZ b x).sz<=x.sz
 | .mk a l=>by
   rw[gM,jf];simp only[ah.aM,ah.aj];rw[mZ];split
   ·rw[xu];simp[aJ.bO,aJ.aW,aJ.fBody,Al]
   ·rename_i h;have hn:=Ww l;have hb:=J8 b l;rw[xu];simp only[aJ.bO,aJ.aW,aJ.fBody]
    obtain⟨x,m,y,rfl⟩:∃x m y,l=x::(m++[y]):=by
     cases l with
     |nil=>simp at h
     |cons x l=>
      have hl:l≠[]:=fun e=>by rw[e] at h;simp at h
      exact⟨x,l.dropLast,l.getLast hl,by rw[List.dropLast_concat_getLast]⟩
    rw[aeJ] at *
    rw[show cZ (x::(m++[y])) 0=x.aM from rfl,gM x];simp only[List.drop_succ_cons,List.drop_zero,List.dropLast_concat,List.length_cons,List.length_append,List.length_nil] at hn ⊢
    have hy:((x::(m++[y])).getLastD eu)=y:=by rw[<-List.cons_append,List.getLastD_eq_getLast?,List.getLast?_append];simp
    rw[hy] at hb;omega
theorem Qp(b:Bool):∀l:List ah,xZ (kD b l)<=dz l
 |[]=>by simp[kD,xZ]
 |x::xs=>by
  have h1:=aeK b x;have h2:=Qp b xs;rw[kD,xZ,dz];omega
theorem J8(b:Bool):∀l:List ah,((dR b l).getLastD qZ).sz<=(l.getLastD eu).sz
 |[]=>by simp[dR,Al]
 |[x]=>by simpa [dR] using FD b x
 |x::y::l=>by
  have:=J8 b (y::l);simpa [dR] using this
end
def vk(s:List UInt8):Prop:=s.head? =some 45
instance (s:List UInt8):Decidable (vk s):=inferInstanceAs (Decidable (_=_))
def dO(s:List UInt8):List UInt8:=if vk s then s.tail else s
theorem xD:∀(l:List UInt8)(acc v:Nat),Lib.decFrom acc l=some v->∀b∈l,48<=b.toNat/\b.toNat<=57
 |[],_,_,_,b,hb=>by cases hb
 |a::l,acc,v,h,b,hb=>by
  rw[Lib.decFrom] at h
  cases hd:Lib.digitVal a with
  |none=>rw[hd] at h;cases h
  |some d=>
   rw[hd] at h;rcases List.mem_cons.1 hb with rfl|hb
   ·unfold Lib.digitVal at hd;split at hd
    ·assumption
    ·cases hd
   ·exact xD l _ v h b hb
theorem Sl{b:UInt8}(h:48<=b.toNat/\b.toNat<=57):Lib.digitVal b=some (b.toNat-48):=if_pos h
theorem decFrom_take{t:List UInt8}{i acc:Nat}(hi:i<t.length)(h:Lib.decFrom 0 (t.take i)=some acc)(hd:48<=t[i].toNat/\t[i].toNat<=57):Lib.decFrom 0 (t.take (i+1))=some (acc*10+(t[i].toNat-48)):=by
 rw[List.take_succ_eq_append_getElem hi,zF,h,Sl hd];rfl
theorem EG{s:List UInt8}{m:Int}(h:fC s=some m):(vk s<->m<0)/\dO s=Lib.decDigits m.natAbs/\1<=(dO s).length/\(dO s).length<=12:=by
 obtain⟨hr,he⟩:=J7 h;have hl:(Lib.decDigits m.natAbs).length<=12:=Bz 11 _ (by omega);obtain⟨b,r,e,b1,b2⟩:=vT m.natAbs
 have hl1:1<=(Lib.decDigits m.natAbs).length:=by rw[e];simp
 unfold Lib.itoa at he;by_cases hn:m<0
 ·rw[if_pos hn] at he
  have hs:vk s:=by rw[<-he];rfl
  have hb:dO s=Lib.decDigits m.natAbs:=by unfold dO;rw[if_pos hs,<-he];rfl
  exact⟨⟨fun _=>hn,fun _=>hs⟩,hb,by rw[hb];exact⟨hl1,hl⟩⟩
 ·rw[if_neg hn,show m.toNat=m.natAbs by omega] at he
  have hs:¬vk s:=fun x=>by
   rw[<-he,e] at x;unfold vk at x;simp only[List.head?_cons,Option.some.injEq] at x;rw[x] at b1;revert b1;decide
  have hb:dO s=Lib.decDigits m.natAbs:=by unfold dO;rw[if_neg hs,<-he]
  exact⟨⟨fun x=>(hs x).elim,fun x=>(hn x).elim⟩,hb,by rw[hb];exact⟨hl1,hl⟩⟩
theorem su{s:List UInt8}(h:(dO s).length<1\/12<(dO s).length):fC s=none:=by
 cases hr:fC s with
 |none=>rfl
 |some m=>have:=(EG hr).2.2;omega
theorem Am{s:List UInt8}{i:Nat}(hi:i<(dO s).length)(h:¬(48<=(dO s)[i].toNat/\(dO s)[i].toNat<=57)):fC s=none:=by
 cases hr:fC s with
 |none=>rfl
 |some m=>
  have hk:=(EG hr).2.1;have hd:=vS m.natAbs;rw[<-hk] at hd;exact absurd (xD _ _ _ hd _ (List.getElem_mem hi)) h
theorem MB{s:List UInt8}{v:Nat}(hv:Lib.decFrom 0 (dO s)=some v)(hb:v<=999999999999):fC s=if Lib.itoa (if vk s then -(v:Int) else v)=s then some (if vk s then -(v:Int) else v) else none:=by
 obtain⟨z,hz⟩:∃z,z=(if vk s then -(v:Int) else v):=⟨_,rfl⟩
 have hzb: -999999999999<=z/\z<=999999999999:=by rw[hz];split<;>omega
 rw[<-hz];by_cases h:Lib.itoa z=s
 ·rw[if_pos h]
  conv=>lhs;rw[<-h]
  exact J6 hzb
 ·rw[if_neg h]
  cases hr:fC s with
  |none=>rfl
  |some m=>
   have hk:=EG hr;have hd:=vS m.natAbs;rw[<-hk.2.1,hv] at hd
   have hm:v=m.natAbs:=by simpa using hd
   have:z=m:=by
    rw[hz];by_cases hn:vk s
    ·have:=hk.1.1 hn;rw[if_pos hn];omega
    ·rw[if_neg hn];have:¬m<0:=fun x=>hn (hk.1.2 x);omega
   rw[this] at h;exact absurd (J7 hr).2 h
theorem Sm(s:List UInt8)(hs:s.length<=1073741824):aG prog 187 [.c (.d (.s s)),.c (.d (.i .i64 12))] (.d9 [(false,[.d (.i .i64 ((fC s).getD 0))]),(false,[.d (.b (fC s).isSome)])]):=fun S=>by
 have d0:fC s=none->V.d9 [(false,[.d (.i .i64 0)]),(false,[.d (.b false)])]=.d9 [(false,[.d (.i .i64 ((fC s).getD 0))]),(false,[.d (.b (fC s).isSome)])]:=fun e=>by rw[e];rfl
 refine zcx [.tmp 4,.tmp 5] func187 ntmps187 ?_;simp -implicitDefEqProofs (disch:=omega) only[go_sem]
 with_reducible refine aA (fun hb=> ?_) (fun hb=> ?_)<;>have h:=hb<;>(try simp only[wf_preprocess] at h)<;>simp -implicitDefEqProofs (disch:=omega) only[go_sem,hb]<;>(repeat(with_reducible refine And.intro ?_ ?_;focus first|omega|rfl|assumption|exact⟨_,rfl,rfl⟩|(simp;omega)|(simp;done)))
 ·have hpos:0<s.length:=by omega
  have h0:(s.getD 0 0).toNat=45<->vk s:=by
   cases s with
   |nil=>simp at hpos
   |cons b s=>
    unfold vk;simp only[List.getD_cons_zero,List.head?_cons,Option.some.injEq];constructor
    ·intro e;exact UInt8.toNat.inj e
    ·intro e;rw[e];rfl
  (repeat(with_reducible refine And.intro ?_ ?_;focus first|omega|rfl|assumption|exact⟨_,rfl,rfl⟩|(simp;omega)|(simp;done)))
  with_reducible refine aA (fun hb=> ?_) (fun hb=> ?_)<;>have h:=hb<;>(try simp only[wf_preprocess] at h)<;>simp -implicitDefEqProofs (disch:=omega) only[go_sem,hb]<;>(repeat(with_reducible refine And.intro ?_ ?_;focus first|omega|rfl|assumption|exact⟨_,rfl,rfl⟩|(simp;omega)|(simp;done)))
  ·have hn:vk s:=h0.1 (by omega)
   have hb:dO s=(s.take s.length).drop 1:=by unfold dO;rw[if_pos hn,List.take_length,List.drop_one]
   (repeat(with_reducible refine And.intro ?_ ?_;focus first|omega|rfl|assumption|exact⟨_,rfl,rfl⟩|(simp;omega)|(simp;done)))
   rw[<-hb]
   have hbl:(dO s).length<=s.length:=by rw[hb];simp
   with_reducible refine aA (fun hb=> ?_) (fun hb=> ?_)<;>have h:=hb<;>(try simp only[wf_preprocess] at h)<;>simp -implicitDefEqProofs (disch:=omega) only[go_sem,hb]<;>(repeat(with_reducible refine And.intro ?_ ?_;focus first|omega|rfl|assumption|exact⟨_,rfl,rfl⟩|(simp;omega)|(simp;done)))
   ·exact d0 (su (by omega))
   with_reducible refine aA (fun hb=> ?_) (fun hb=> ?_)<;>have h:=hb<;>(try simp only[wf_preprocess] at h)<;>simp -implicitDefEqProofs (disch:=omega) only[go_sem,hb]<;>(repeat(with_reducible refine And.intro ?_ ?_;focus first|omega|rfl|assumption|exact⟨_,rfl,rfl⟩|(simp;omega)|(simp;done)))
   ·exact d0 (su (by omega))
   have hl1:1<=(dO s).length:=by omega
   have hl12:(dO s).length<=12:=by omega
   refine bC (ι:=Nat×Nat) zmx rfl [0,6,7,8,9] (fun y=>[.c (.d (.s s)),.c (.d (.b true)),.c (.d (.s (dO s))),.c (.d (.i .i64 y.2)),.c (.d (.i .i64 y.1))]) (fun _=>[]::S)
    (fun y=>y.1<=(dO s).length/\Lib.decFrom 0 ((dO s).take y.1)=some y.2/\y.2<10^y.1) (fun y=>(dO s).length-y.1) (0,0) rfl rfl ⟨Nat.zero_le _,rfl,by decide⟩ ?_
   rintro⟨i,acc⟩ ⟨p1,p2,p3⟩;simp only at p1 p2 p3;have p4:10^i<=10^12:=Nat.pow_le_pow_right (by decide) (by omega);simp -implicitDefEqProofs (disch:=omega) only[go_sem]
   with_reducible refine aA (fun hb=> ?_) (fun hb=> ?_)<;>have h:=hb<;>(try simp only[wf_preprocess] at h)<;>simp -implicitDefEqProofs (disch:=omega) only[go_sem,hb]<;>(repeat(with_reducible refine And.intro ?_ ?_;focus first|omega|rfl|assumption|exact⟨_,rfl,rfl⟩|(simp;omega)|(simp;done)))
   ·have hi:i<(dO s).length:=by omega
    have e:(dO s).getD i 0=(dO s)[i]:=by simp[List.getD,hi]
    have hbb:=(dO s)[i].toNat_lt
    (repeat(with_reducible refine And.intro ?_ ?_;focus first|omega|rfl|assumption|exact⟨_,rfl,rfl⟩|(simp;omega)|(simp;done)))
    simp only[e]
    with_reducible refine aA (fun hb=> ?_) (fun hb=> ?_)<;>have h:=hb<;>(try simp only[wf_preprocess] at h)<;>simp -implicitDefEqProofs (disch:=omega) only[go_sem,hb]<;>(repeat(with_reducible refine And.intro ?_ ?_;focus first|omega|rfl|assumption|exact⟨_,rfl,rfl⟩|(simp;omega)|(simp;done)))
    ·exact d0 (Am hi (by omega))
    (repeat(with_reducible refine And.intro ?_ ?_;focus first|omega|rfl|assumption|exact⟨_,rfl,rfl⟩|(simp;omega)|(simp;done)))
    simp only[e]
    with_reducible refine aA (fun hb=> ?_) (fun hb=> ?_)<;>have h:=hb<;>(try simp only[wf_preprocess] at h)<;>simp -implicitDefEqProofs (disch:=omega) only[go_sem,hb]<;>(repeat(with_reducible refine And.intro ?_ ?_;focus first|omega|rfl|assumption|exact⟨_,rfl,rfl⟩|(simp;omega)|(simp;done)))
    ·exact d0 (Am hi (by omega))
    have hdg:48<=(dO s)[i].toNat/\(dO s)[i].toNat<=57:=by omega
    have ht:=decFrom_take hi p2 hdg
    have e2:(10:Int)*acc+(((dO s)[i].toNat:Int)-48)=((acc*10+((dO s)[i].toNat-48):Nat):Int):=by omega
    (repeat(with_reducible refine And.intro ?_ ?_;focus first|omega|rfl|assumption|exact⟨_,rfl,rfl⟩|(simp;omega)|(simp;done)))
    simp -implicitDefEqProofs (disch:=omega) only[go_sem,wrap_u8,e];rw[e2];exact cO (i+1,acc*10+((dO s)[i].toNat-48)) (by simp only;omega) rfl rfl ⟨by simp only;omega,ht,by simp only[Nat.pow_succ];omega⟩
   ·have hi:i=(dO s).length:=by omega
    have hv:Lib.decFrom 0 (dO s)=some acc:=by rw[hi,List.take_length] at p2;exact p2
    have Db:=MB hv (by omega);rw[if_pos hn] at Db;rw[show(0:Int)-acc= -(acc:Int) by omega];refine ay (sQ (-(acc:Int)) (by omega) (by omega)) ?_;simp -implicitDefEqProofs (disch:=omega) only[go_sem]
    with_reducible refine aA (fun hb=> ?_) (fun hb=> ?_)<;>have h:=hb<;>(try simp only[wf_preprocess] at h)<;>simp -implicitDefEqProofs (disch:=omega) only[go_sem,hb]<;>(repeat(with_reducible refine And.intro ?_ ?_;focus first|omega|rfl|assumption|exact⟨_,rfl,rfl⟩|(simp;omega)|(simp;done)))
    ·exact d0 (Db.trans (if_neg h))
    ·rw[Db.trans (if_pos h)];rfl
  ·have hn:¬vk s:=fun x=>h (by rw[h0.2 x];rfl)
   have hbs:dO s=s:=by unfold dO;rw[if_neg hn]
   have hbl:(dO s).length=s.length:=by rw[hbs]
   with_reducible refine aA (fun hb=> ?_) (fun hb=> ?_)<;>have h:=hb<;>(try simp only[wf_preprocess] at h)<;>simp -implicitDefEqProofs (disch:=omega) only[go_sem,hb]<;>(repeat(with_reducible refine And.intro ?_ ?_;focus first|omega|rfl|assumption|exact⟨_,rfl,rfl⟩|(simp;omega)|(simp;done)))
   ·exact d0 (su (by omega))
   with_reducible refine aA (fun hb=> ?_) (fun hb=> ?_)<;>have h:=hb<;>(try simp only[wf_preprocess] at h)<;>simp -implicitDefEqProofs (disch:=omega) only[go_sem,hb]<;>(repeat(with_reducible refine And.intro ?_ ?_;focus first|omega|rfl|assumption|exact⟨_,rfl,rfl⟩|(simp;omega)|(simp;done)))
   ·exact d0 (su (by omega))
   have hl1:1<=(dO s).length:=by omega
   have hl12:(dO s).length<=12:=by omega
   refine bC (ι:=Nat×Nat) zmx rfl [0,6,7,8,9] (fun y=>[.c (.d (.s s)),.c (.d (.b false)),.c (.d (.s (dO s))),.c (.d (.i .i64 y.2)),.c (.d (.i .i64 y.1))]) (fun _=>[]::S)
    (fun y=>y.1<=(dO s).length/\Lib.decFrom 0 ((dO s).take y.1)=some y.2/\y.2<10^y.1) (fun y=>(dO s).length-y.1) (0,0) (by rw[hbs];rfl) rfl ⟨Nat.zero_le _,rfl,by decide⟩ ?_
   rintro⟨i,acc⟩ ⟨p1,p2,p3⟩;simp only at p1 p2 p3;have p4:10^i<=10^12:=Nat.pow_le_pow_right (by decide) (by omega);simp -implicitDefEqProofs (disch:=omega) only[go_sem]
   with_reducible refine aA (fun hb=> ?_) (fun hb=> ?_)<;>have h:=hb<;>(try simp only[wf_preprocess] at h)<;>simp -implicitDefEqProofs (disch:=omega) only[go_sem,hb]<;>(repeat(with_reducible refine And.intro ?_ ?_;focus first|omega|rfl|assumption|exact⟨_,rfl,rfl⟩|(simp;omega)|(simp;done)))
   ·have hi:i<(dO s).length:=by omega
    have e:(dO s).getD i 0=(dO s)[i]:=by simp[List.getD,hi]
    have hbb:=(dO s)[i].toNat_lt
    (repeat(with_reducible refine And.intro ?_ ?_;focus first|omega|rfl|assumption|exact⟨_,rfl,rfl⟩|(simp;omega)|(simp;done)))
    simp only[e]
    with_reducible refine aA (fun hb=> ?_) (fun hb=> ?_)<;>have h:=hb<;>(try simp only[wf_preprocess] at h)<;>simp -implicitDefEqProofs (disch:=omega) only[go_sem,hb]<;>(repeat(with_reducible refine And.intro ?_ ?_;focus first|omega|rfl|assumption|exact⟨_,rfl,rfl⟩|(simp;omega)|(simp;done)))
    ·exact d0 (Am hi (by omega))
    (repeat(with_reducible refine And.intro ?_ ?_;focus first|omega|rfl|assumption|exact⟨_,rfl,rfl⟩|(simp;omega)|(simp;done)))
    simp only[e]
    with_reducible refine aA (fun hb=> ?_) (fun hb=> ?_)<;>have h:=hb<;>(try simp only[wf_preprocess] at h)<;>simp -implicitDefEqProofs (disch:=omega) only[go_sem,hb]<;>(repeat(with_reducible refine And.intro ?_ ?_;focus first|omega|rfl|assumption|exact⟨_,rfl,rfl⟩|(simp;omega)|(simp;done)))
    ·exact d0 (Am hi (by omega))
    have hdg:48<=(dO s)[i].toNat/\(dO s)[i].toNat<=57:=by omega
    have ht:=decFrom_take hi p2 hdg
    have e2:(10:Int)*acc+(((dO s)[i].toNat:Int)-48)=((acc*10+((dO s)[i].toNat-48):Nat):Int):=by omega
    (repeat(with_reducible refine And.intro ?_ ?_;focus first|omega|rfl|assumption|exact⟨_,rfl,rfl⟩|(simp;omega)|(simp;done)))
    simp -implicitDefEqProofs (disch:=omega) only[go_sem,wrap_u8,e];rw[e2];exact cO (i+1,acc*10+((dO s)[i].toNat-48)) (by simp only;omega) rfl rfl ⟨by simp only;omega,ht,by simp only[Nat.pow_succ];omega⟩
   ·have hi:i=(dO s).length:=by omega
    have hv:Lib.decFrom 0 (dO s)=some acc:=by rw[hi,List.take_length] at p2;exact p2
    have Db:=MB hv (by omega);rw[if_neg hn] at Db;refine ay (sQ ((acc:Int)) (by omega) (by omega)) ?_;simp -implicitDefEqProofs (disch:=omega) only[go_sem]
    with_reducible refine aA (fun hb=> ?_) (fun hb=> ?_)<;>have h:=hb<;>(try simp only[wf_preprocess] at h)<;>simp -implicitDefEqProofs (disch:=omega) only[go_sem,hb]<;>(repeat(with_reducible refine And.intro ?_ ?_;focus first|omega|rfl|assumption|exact⟨_,rfl,rfl⟩|(simp;omega)|(simp;done)))
    ·exact d0 (Db.trans (if_neg h))
    ·rw[Db.trans (if_pos h)];rfl
 ·have hs0:s=[]:=List.eq_nil_of_length_eq_zero (by omega)
  have hb0:(dO s).length=0:=by rw[hs0];rfl
  with_reducible refine aA (fun hb=> ?_) (fun hb=> ?_)<;>have h:=hb<;>(try simp only[wf_preprocess] at h)<;>simp -implicitDefEqProofs (disch:=omega) only[go_sem,hb]<;>(repeat(with_reducible refine And.intro ?_ ?_;focus first|omega|rfl|assumption|exact⟨_,rfl,rfl⟩|(simp;omega)|(simp;done)))
  ·exact d0 (su (by omega))
  ·omega
theorem J9(s:List UInt8)(hs:s.length<=1073741824):aG prog 141 [.c (.d (.s s))] (.d9 [(false,[.d (.i .i64 ((fC s).getD 0))]),(false,[.d (.b (fC s).isSome)])]):=fun S=>by
 refine zcx [.tmp 2,.tmp 3] func141 ntmps141 ?_;simp -implicitDefEqProofs (disch:=omega) only[go_sem];refine ay (Sm s hs) ?_;simp -implicitDefEqProofs (disch:=omega) only[go_sem]<;>(repeat(with_reducible refine And.intro ?_ ?_;focus first|omega|rfl|assumption|exact⟨_,rfl,rfl⟩|(simp;omega)|(simp;done)))
theorem Zk{x:ah}{i:Nat}(hi:i<x.aj.length)(h:x.sz<=4194304):x.aj[i].sz<=4194304:=by
 have:=jq (List.getElem_mem hi);rw[gM,jf] at h;omega
theorem Zl{x:ah}(h:x.sz<=4194304):x.aM.length<=4194304/\x.aj.length<=4194304:=by
 rw[gM] at h;omega
theorem xE:∀n:Nat,∀x:ah,SizeOf.sizeOf x<n->∀y:ah,x.sz<=4194304->aG prog 9 [x.v,y.v] (.c (.d (.b (dec (x=y)))))
 |0=>fun x h=>by omega
 |n+1=>by
  have ih:=xE n;intro x hn y hsz S;have ahT:=ah.ow x;have hb:=Zl hsz;refine zcx [.tmp 4] func9 ntmps9 ?_;simp -implicitDefEqProofs (disch:=omega) only[go_sem]
  with_reducible refine aA (fun hb=> ?_) (fun hb=> ?_)<;>have h:=hb<;>(try simp only[wf_preprocess] at h)<;>simp -implicitDefEqProofs (disch:=omega) only[go_sem,hb]<;>(repeat(with_reducible refine And.intro ?_ ?_;focus first|omega|rfl|assumption|exact⟨_,rfl,rfl⟩|(simp;omega)|(simp;done)))
  ·exact aQ (bJ (fun e=>h (by rw[e]))).symm
  have h1:=h
  with_reducible refine aA (fun hb=> ?_) (fun hb=> ?_)<;>have h:=hb<;>(try simp only[wf_preprocess] at h)<;>simp -implicitDefEqProofs (disch:=omega) only[go_sem,hb]<;>(repeat(with_reducible refine And.intro ?_ ?_;focus first|omega|rfl|assumption|exact⟨_,rfl,rfl⟩|(simp;omega)|(simp;done)))
  ·exact aQ (bJ (fun e=>h (by rw[e]))).symm
  have hl:x.aj.length=y.aj.length:=by omega
  refine bC (ι:=Nat) zmx rfl [2,3,5] (fun i=>[.c (.ptr (0,0) 0),.c (.ptr (0,1) 0),.c (.d (.i .i64 i))]) (fun i=>[.box [.d (.s x.aM),.d (.sl (x.aj.map ah.enc))],.box [.d (.s y.aM),.d (.sl (y.aj.map ah.enc))]]::S)
   (fun i=>i<=x.aj.length/\∀j,j<i->x.aj[j]? =y.aj[j]?) (fun i=>x.aj.length-i) 0 rfl rfl ⟨Nat.zero_le _,fun j h=>by omega⟩ ?_
  rintro i ⟨p1,p2⟩;simp -implicitDefEqProofs (disch:=omega) only[go_sem,ah.aB]
  with_reducible refine aA (fun hb=> ?_) (fun hb=> ?_)<;>have h:=hb<;>(try simp only[wf_preprocess] at h)<;>simp -implicitDefEqProofs (disch:=omega) only[go_sem,hb]<;>(repeat(with_reducible refine And.intro ?_ ?_;focus first|omega|rfl|assumption|exact⟨_,rfl,rfl⟩|(simp;omega)|(simp;done)))
  ·have hi:i<x.aj.length:=by omega
   have hi':i<y.aj.length:=by omega
   (repeat(with_reducible refine And.intro ?_ ?_;focus first|omega|rfl|assumption|exact⟨_,rfl,rfl⟩|(simp;omega)|(simp;done)))
   refine ay (ih x.aj[i] (by have:=List.sizeOf_lt_of_mem (List.getElem_mem hi);omega) y.aj[i] (Zk hi hsz)) ?_;simp -implicitDefEqProofs (disch:=omega) only[go_sem]
   with_reducible refine aA (fun hb=> ?_) (fun hb=> ?_)<;>have h:=hb<;>(try simp only[wf_preprocess] at h)<;>simp -implicitDefEqProofs (disch:=omega) only[go_sem,hb]<;>(repeat(with_reducible refine And.intro ?_ ?_;focus first|omega|rfl|assumption|exact⟨_,rfl,rfl⟩|(simp;omega)|(simp;done)))
   ·exact aQ (bJ (fun e=>h (by simp only[e]))).symm
   refine cO (i+1) (by omega) rfl rfl ⟨by omega,fun j hj=> ?_⟩;by_cases e:j=i
   ·subst e;rw[List.getElem?_eq_getElem hi,List.getElem?_eq_getElem hi',h]
   ·exact p2 j (by omega)
  ·have hi:i=x.aj.length:=by omega
   refine aQ (dx ?_).symm;refine ah.ext (by first|exact h1|(simp at h1;exact h1)) (List.ext_getElem? fun j=> ?_);by_cases hj:j<i
   ·exact p2 j hj
   ·rw[List.getElem?_eq_none (by omega),List.getElem?_eq_none (by omega)]
theorem l9(x y:ah)(h:x.sz<=4194304):aG prog 9 [x.v,y.v] (.c (.d (.b (dec (x=y))))):=xE _ x (Nat.lt_succ_self _) y h
theorem xG:∀n:Nat,(∀x:ah,SizeOf.sizeOf x<n->∀y:ah,x.sz<=4194304->aG prog 61 [x.v,y.v] (.c (.d (.b (dec (x=y))))))/\
 (∀xs:List ah,SizeOf.sizeOf xs<n->∀ys:List ah,xs.length<=4194304->(∀t∈xs,t.sz<=4194304)->aG prog 135 [.c (.d (.sl (xs.map ah.enc))),.c (.d (.sl (ys.map ah.enc))),.c (.fn 61 [])] (.c (.d (.b (dec (xs=ys))))))
 |0=>⟨fun x h=>by omega,fun x h=>by omega⟩
 |n+1=>by
  obtain⟨ih,mF⟩:=xG n;refine⟨fun x hn y hsz S=> ?_,fun xs hn ys hlen hsz S=> ?_⟩
  ·have ahT:=ah.ow x;have hb:=Zl hsz;refine zcx [.tmp 4] func61 ntmps61 ?_;simp -implicitDefEqProofs (disch:=omega) only[go_sem]
   with_reducible refine aA (fun hb=> ?_) (fun hb=> ?_)<;>have h:=hb<;>(try simp only[wf_preprocess] at h)<;>simp -implicitDefEqProofs (disch:=omega) only[go_sem,hb]<;>(repeat(with_reducible refine And.intro ?_ ?_;focus first|omega|rfl|assumption|exact⟨_,rfl,rfl⟩|(simp;omega)|(simp;done)))
   ·have h1:=h
    (repeat(with_reducible refine And.intro ?_ ?_;focus first|omega|rfl|assumption|exact⟨_,rfl,rfl⟩|(simp;omega)|(simp;done)))
    refine ay (mF x.aj (by omega) y.aj (by omega) (fun t ht=>by
     obtain⟨i,hi,e⟩:=List.getElem_of_mem ht
     rw[<-e];exact Zk hi hsz)) ?_
    simp -implicitDefEqProofs (disch:=omega) only[go_sem];refine aQ (lC ⟨fun e=>ah.ext h1 e,fun e=>by rw[e]⟩)
   ·exact aQ (bJ (fun e=>h (by rw[e]))).symm
  ·refine zcx [.tmp 6] func135 ntmps135 ?_;simp -implicitDefEqProofs (disch:=omega) only[go_sem]
   with_reducible refine aA (fun hb=> ?_) (fun hb=> ?_)<;>have h:=hb<;>(try simp only[wf_preprocess] at h)<;>simp -implicitDefEqProofs (disch:=omega) only[go_sem,hb]<;>(repeat(with_reducible refine And.intro ?_ ?_;focus first|omega|rfl|assumption|exact⟨_,rfl,rfl⟩|(simp;omega)|(simp;done)))
   ·exact aQ (bJ (fun e=>h (by rw[e]))).symm
   have hl:xs.length=ys.length:=by omega
   refine bC (ι:=Nat) zmx rfl [1,2,15,16,17] (fun y=>[.c (.d (.sl (ys.map ah.enc))),.c (.fn 61 []),.c (.d (.sl (xs.map ah.enc))),.c (.d (.i .i64 xs.length)),.c (.d (.i .i64 y))]) (fun y=>[]::S)
    (fun i=>i<=xs.length/\∀j,j<i->xs[j]? =ys[j]?) (fun y=>xs.length-y) 0 rfl rfl ⟨Nat.zero_le _,fun j h=>by omega⟩ ?_
   rintro i ⟨p1,p2⟩;simp -implicitDefEqProofs (disch:=omega) only[go_sem]
   with_reducible refine aA (fun hb=> ?_) (fun hb=> ?_)<;>have h:=hb<;>(try simp only[wf_preprocess] at h)<;>simp -implicitDefEqProofs (disch:=omega) only[go_sem,hb]<;>(repeat(with_reducible refine And.intro ?_ ?_;focus first|omega|rfl|assumption|exact⟨_,rfl,rfl⟩|(simp;omega)|(simp;done)))
   ·have hi:i<xs.length:=by omega
    have hi':i<ys.length:=by omega
    (repeat(with_reducible refine And.intro ?_ ?_;focus first|omega|rfl|assumption|exact⟨_,rfl,rfl⟩|(simp;omega)|(simp;done)))
    refine ay (ih xs[i] (by have:=List.sizeOf_lt_of_mem (List.getElem_mem hi);omega) ys[i] (hsz _ (List.getElem_mem hi))) ?_;simp -implicitDefEqProofs (disch:=omega) only[go_sem]
    with_reducible refine aA (fun hb=> ?_) (fun hb=> ?_)<;>have h:=hb<;>(try simp only[wf_preprocess] at h)<;>simp -implicitDefEqProofs (disch:=omega) only[go_sem,hb]<;>(repeat(with_reducible refine And.intro ?_ ?_;focus first|omega|rfl|assumption|exact⟨_,rfl,rfl⟩|(simp;omega)|(simp;done)))
    ·exact aQ (bJ (fun e=>h (by simp only[e]))).symm
    refine dM 0 (by decide) (i+1) (by omega) rfl rfl rfl rfl ⟨by omega,fun j hj=> ?_⟩;by_cases e:j=i
    ·subst e;rw[List.getElem?_eq_getElem hi,List.getElem?_eq_getElem hi',h]
    ·exact p2 j (by omega)
   ·have hi:i=xs.length:=by omega
    refine aQ (dx (List.ext_getElem? fun j=> ?_)).symm;by_cases hj:j<i
    ·exact p2 j hj
    ·rw[List.getElem?_eq_none (by omega),List.getElem?_eq_none (by omega)]
theorem FR(x y:ah)(h:x.sz<=4194304):aG prog 61 [x.v,y.v] (.c (.d (.b (dec (x=y))))):=(xG _).1 x (Nat.lt_succ_self _) y h
theorem wH{α:Type}[SizeOf α]:∀(i:Nat)(l:List α),SizeOf.sizeOf (l.drop i)<=SizeOf.sizeOf l
 |0,l=>by simp
 |i+1,[]=>by simp
 |i+1,x::l=>by
  have:=wH i l;rw[List.drop_succ_cons];simp only[List.cons.sizeOf_spec];omega
theorem xH(l:List ah)(n i:Nat)(h:l.length<=n):((l.map ah.enc).take n).drop i=(l.drop i).map ah.enc:=by
 rw[List.take_of_length_le (by rw[List.length_map];exact h),List.map_drop]
theorem acr(l:List ah)(i:Nat):(l.getD i eu).sz<=dz l:=by
 rw[List.getD_eq_getElem?_getD];by_cases h:i<l.length
 ·rw[List.getElem?_eq_getElem h];exact jq (List.getElem_mem h)
 ·rw[List.getElem?_eq_none (by omega)];rw[Option.getD_none,gM];simp[eu,ah.aM,ah.aj,bA]
theorem gP(x:ah):x.aj.length+dz x.aj<=x.sz:=by rw[gM,jf];omega
theorem CX(x:ah):x.aM.length<=x.sz:=by rw[gM];omega
def uo(x:ah):List D:=[.s x.aM]
def allA(l:List ah):Bool:=l.all fun x=>decide (x.aM≠[])
theorem TB{l:List ah}{i:Nat}(hi:i<l.length)(h:l[i].aM=[]):allA l=false/\jA l=[]:=by
 have:allA l=false:=by
  unfold allA;rw[List.all_eq_false];exact⟨_,List.getElem_mem hi,by simp[h]⟩
 refine⟨this,?_⟩;unfold jA;unfold allA at this;rw[this];rfl
theorem Qq{l:List ah}(h:∀j (hj:j<l.length),l[j].aM≠[]):allA l=true/\(jA l).map encS=l.map uo:=by
 have:allA l=true:=by
  unfold allA;rw[List.all_eq_true];intro x hx;obtain⟨j,hj,rfl⟩:=List.getElem_of_mem hx;exact decide_eq_true (h j hj)
 refine⟨this,?_⟩;unfold jA;unfold allA at this;rw[this,if_pos rfl,List.map_map];rfl
theorem EH{l:List ah}{i:Nat}(hi:i<l.length):(l.take i).map uo++[[.s l[i].aM]]=(l.take (i+1)).map uo:=by
 rw[List.take_succ_eq_append_getElem hi,List.map_append];rfl
theorem Gs{l:List ah}{i:Nat}:((l.take i).map uo).length<=i:=by rw[List.length_map];exact List.length_take_le _ _
def lt(l:List ak)(n:Nat):List (List D):=dU (l.map ak.enc) n
def fK(l:List ak):Nat:=lT (l.map ak.enc)
theorem aeL(x:ak)(n:Nat):dL x.enc n=[.i .i64 x.aH,.s x.fName,.ol n (lt x.fArgs (n+1))]:=by
 rw[ak.aB];simp only[dL,kC,nU,Nat.add_zero,lt]
theorem Zm(l:List ak)(n:Nat):(lt l n).length=l.length:=by unfold lt;rw[jw,List.length_map]
theorem aeM{l:List ak}{i:Nat}(hi:i<l.length)(n:Nat):lt (l.take i) n++[[.i .i64 l[i].aH,.s l[i].fName,.ol (n+fK (l.take i)) (lt l[i].fArgs (n+fK (l.take i)+1))]]=lt (l.take (i+1)) n:=by
 rw[List.take_succ_eq_append_getElem hi];unfold lt fK;rw[List.map_append,oF];simp only[List.map_cons,List.map_nil,dU,aeL,lt]
theorem Zn{l:List ak}{i:Nat}(hi:i<l.length):(l.take i).map ak.enc++[[.i .i64 l[i].aH,.s l[i].fName,.sl (l[i].fArgs.map ak.enc)]]=(l.take (i+1)).map ak.enc:=by
 rw[List.take_succ_eq_append_getElem hi,List.map_append];simp only[List.map_cons,List.map_nil,ak.aB]
theorem K9(k:Int)(s:List UInt8)(n:Nat):Less (.agg [.d (.i .i64 k),.d (.s s),.bE []]) (.agg [.d (.i .i64 k),.d (.s s),.d (.ol n [])]):=(dW.cons (.refl _) (.cons (.refl _) (.cons (eX n) .nil))).less
theorem TD(k:Int)(s:List UInt8)(es:List (List D)):Less (.agg [.d (.i .i64 k),.d (.s s),.bE es]) (.agg [.d (.i .i64 k),.d (.s s),.d (.sl es)]):=(dW.cons (.refl _) (.cons (.refl _) (.cons (gG es) .nil))).less
theorem agj{s:List UInt8}(h:s≠[]):((s.getD 0 0).toNat:Int)=39<->s.head? =some 39:=by
 cases s with
 |nil=>exact(h rfl).elim
 |cons b s=>
  simp only[List.getD_cons_zero,List.head?_cons,Option.some.injEq];constructor
  ·intro e
   have:b.toNat=39:=by omega
   exact UInt8.toNat.inj this
  ·intro e;rw[e];rfl
theorem Ka(s:List UInt8)(n:Nat)(h:s.length<=n):(s.take n).drop 1=s.tail:=by rw[List.take_of_length_le h,List.drop_one]
abbrev ak.vl(t:ak)(n:Nat):V:=.agg [.d (.i .i64 t.aH),.d (.s t.fName),.d (.ol n (lt t.fArgs (n+1)))]
theorem Qr(l:List (List UInt8)):lT (l.map encS)=0:=by
 induction l with
 |nil=>rfl
 |cons s l ih=>rw[List.map_cons,lT,ih];rfl
theorem agk{b:Bool}{x:ah}{r:V}{k:Int}{s:List UInt8}{l:List ak}(h:dV b x=.mk k s l)(hl:Less r (.agg [.d (.i .i64 k),.d (.s s),.d (.sl (l.map ak.enc))])):Less r (dV b x).v:=by rw[h];exact hl
theorem ade{b:Bool}{x:ah}{k:Int}{s:List UInt8}(h:dV b x=.mk k s []):Less (.agg [.d (.i .i64 k),.d (.s s),.bE []]) (dV b x).v:=by rw[h];exact TD k s []
theorem adf{b:Bool}{x:ah}{k:Int}{s:List UInt8}(h:dV b x=.mk k s []):Less (.agg [.d (.i .i64 k),.d (.s s),.d (.sl [])]) (dV b x).v:=by rw[h];exact jm _
theorem adg{b:Bool}{x:ah}{r:V}{n:Nat}{k:Int}{s:List UInt8}{l:List ak}(h:dV b x=.mk k s l)(hl:Less r (.agg [.d (.i .i64 k),.d (.s s),.d (.ol n (lt l (n+1)))])):Less r ((dV b x).vl n):=by rw[h];exact hl
theorem Zo{b:Bool}{x:ah}{n:Nat}{k:Int}{s:List UInt8}(h:dV b x=.mk k s []):Less (.agg [.d (.i .i64 k),.d (.s s),.bE []]) ((dV b x).vl n):=by rw[h];exact K9 k s n
theorem Zp{b:Bool}{x:ah}{n:Nat}{k:Int}{s:List UInt8}(h:dV b x=.mk k s []):Less (.agg [.d (.i .i64 k),.d (.s s),.d (.ol n [])]) ((dV b x).vl n):=by rw[h];exact jm _
theorem Sn{s:List UInt8}(h:1<=s.length):(s.take 1).drop 0=[39]<->s.head? =some 39:=by
 cases s with
 |nil=>simp at h
 |cons b s=>simp
theorem EI(xs:List ah)(hx:xs.length<=1073741824):aG prog 139 [.c (.d (.sl (xs.map ah.enc)))] (.d9 [(false,[.d (.sl ((jA xs).map encS))]),(false,[.d (.b (allA xs))])]):=aG.of_le fun S=>by
 refine zcx [.tmp 2,.tmp 3] func139 ntmps139 ?_;simp -implicitDefEqProofs (disch:=omega) only[go_sem]
 (repeat(with_reducible refine And.intro ?_ ?_;focus first|omega|rfl|assumption|exact⟨_,rfl,rfl⟩|(simp;omega)|(simp;done)))
 refine uR 4 1 [] rfl (by simp) ?_
 refine bC (ι:=Nat) zmx rfl [0,4,5] (fun i=>[.c (.d (.sl (xs.map ah.enc))),.c (.bL (0,0) ((xs.take i).map uo)),.c (.d (.i .i64 i))]) (fun i=>[.tok 1 ((xs.take i).map uo)]::S)
  (fun i=>i<=xs.length/\∀j,∀hj:j<xs.length,j<i->xs[j].aM≠[]) (fun i=>xs.length-i) 0 rfl rfl ⟨Nat.zero_le _,fun j _ h=>by omega⟩ ?_
 rintro i ⟨p1,p2⟩;have hl:=Gs (l:=xs) (i:=i);simp -implicitDefEqProofs (disch:=omega) only[go_sem,ah.aB]
 with_reducible refine aA (fun hb=> ?_) (fun hb=> ?_)<;>have h:=hb<;>(try simp only[wf_preprocess] at h)<;>simp -implicitDefEqProofs (disch:=omega) only[go_sem,hb]<;>(repeat(with_reducible refine And.intro ?_ ?_;focus first|omega|rfl|assumption|exact⟨_,rfl,rfl⟩|(simp;omega)|(simp;done)))
 ·have hi':i<xs.length:=by omega
  have hs:=EH hi'
  (repeat(with_reducible refine And.intro ?_ ?_;focus first|omega|rfl|assumption|exact⟨_,rfl,rfl⟩|(simp;omega)|(simp;done)))
  with_reducible refine aA (fun hb=> ?_) (fun hb=> ?_)<;>have h:=hb<;>(try simp only[wf_preprocess] at h)<;>simp -implicitDefEqProofs (disch:=omega) only[go_sem,hb]<;>(repeat(with_reducible refine And.intro ?_ ?_;focus first|omega|rfl|assumption|exact⟨_,rfl,rfl⟩|(simp;omega)|(simp;done)))
  ·obtain⟨e1,e2⟩:=TB hi' h;rw[e1,e2];exact(jU.cons (.cons (gG _) .nil) (.refl _)).less
  ·(repeat(with_reducible refine And.intro ?_ ?_;focus first|omega|rfl|assumption|exact⟨_,rfl,rfl⟩|(simp;omega)|(simp;done)))
   rw[hs];refine cO (i+1) (by omega) rfl rfl ⟨by omega,fun j hj hji=> ?_⟩;by_cases e':j=i
   ·subst e';exact h
   ·exact p2 j hj (by omega)
 ·have hi':i=xs.length:=by omega
  subst hi';obtain⟨e1,e2⟩:=Qq fun j hj=>p2 j hj hj;rw[e1,e2,List.take_length];exact jm _
theorem Qs(x:ah)(hx:x.sz<=4194304):aG prog 64 [x.v] (.c (.d (.sl ((jA x.aj).map encS)))):=fun S=>by
 have:=gP x;refine zcx [.tmp 2] func64 ntmps64 ?_;simp -implicitDefEqProofs (disch:=omega) only[go_sem];refine ay (EI x.aj (by omega)) ?_;simp -implicitDefEqProofs (disch:=omega) only[go_sem]
theorem mK(x:ah)(i:Nat)(hx:x.sz<=4194304)(hi:i<=100):aG prog 63 [x.v,.c (.d (.i .i64 i))] (x.aj.getD i eu).v:=aG.of_le fun S=>by
 have:=gP x;refine zcx [.cell 4 39] func63 ntmps63 ?_;simp -implicitDefEqProofs (disch:=omega) only[go_sem]
 with_reducible refine aA (fun hb=> ?_) (fun hb=> ?_)<;>have h:=hb<;>(try simp only[wf_preprocess] at h)<;>simp -implicitDefEqProofs (disch:=omega) only[go_sem,hb]<;>(repeat(with_reducible refine And.intro ?_ ?_;focus first|omega|rfl|assumption|exact⟨_,rfl,rfl⟩|(simp;omega)|(simp;done)))
 ·rw[List.getD_eq_getElem?_getD,List.getElem?_eq_none (by omega)];exact(dW.cons (.refl _) (.cons (gG _) .nil)).less
 ·have hi:i<x.aj.length:=by omega
  rw[List.getD_eq_getElem?_getD,List.getElem?_eq_getElem hi];exact jm _
theorem ru(a b:Int):aG prog 144 [.c (.d (.i .i64 a)),.c (.d (.i .i64 b))] (.c (.d (.i .i64 (min a b)))):=fun S=>by
 refine zcx [.tmp 4] func144 ntmps144 ?_;simp -implicitDefEqProofs (disch:=omega) only[go_sem]
 with_reducible refine aA (fun hb=> ?_) (fun hb=> ?_)<;>have h:=hb<;>(try simp only[wf_preprocess] at h)<;>simp -implicitDefEqProofs (disch:=omega) only[go_sem,hb]<;>(repeat(with_reducible refine And.intro ?_ ?_;focus first|omega|rfl|assumption|exact⟨_,rfl,rfl⟩|(simp;omega)|(simp;done)))
 ·exact int_eq (by omega)
 ·exact int_eq (by omega)
theorem Wx(s:List UInt8):aG prog 140 [.c (.d (.s s)),.c (.d (.sl []))] (.agg [.d (.i .i64 2),.d (.s s),.d (.sl [])]):=aG.of_le fun S=>by
 refine zcx [.cell 4 29] func140 ntmps140 ?_;simp -implicitDefEqProofs (disch:=omega) only[go_sem]
 (repeat(with_reducible refine And.intro ?_ ?_;focus first|omega|rfl|assumption|exact⟨_,rfl,rfl⟩|(simp;omega)|(simp;done)))
 exact jm _
theorem Wy(s:List UInt8):aG prog 89 [.c (.d (.s s))] (.agg [.d (.i .i64 1),.d (.s s),.d (.sl [])]):=aG.of_le fun S=>by
 refine zcx [.cell 2 29] func89 ntmps89 ?_;simp -implicitDefEqProofs (disch:=omega) only[go_sem]
 (repeat(with_reducible refine And.intro ?_ ?_;focus first|omega|rfl|assumption|exact⟨_,rfl,rfl⟩|(simp;omega)|(simp;done)))
 exact TD _ _ _
theorem Dp:∀N:Nat,(∀x:ah,SizeOf.sizeOf x<N->x.sz<=4194304->aG prog 66 [x.v] (dV false x).v)
 |0=>fun x h=>by omega
 |N+1=>by
  have ih:=Dp N;intro x hn hsz;have jl:=ah.ow x;have h1:=gP x;have h2:=CX x;have hx:=Tz false x
  have hall:∀t∈x.aj,t.sz<=4194304:=fun t ht=>by have:=jq ht;omega
  refine aG.of_le fun S=> ?_;refine zcx [.cell 2 29] func66 ntmps66 ?_;simp -implicitDefEqProofs (disch:=omega) only[go_sem]
  with_reducible refine aA (fun hb=> ?_) (fun hb=> ?_)<;>have h:=hb<;>(try simp only[wf_preprocess] at h)<;>simp -implicitDefEqProofs (disch:=omega) only[go_sem,hb]<;>(repeat(with_reducible refine And.intro ?_ ?_;focus first|omega|rfl|assumption|exact⟨_,rfl,rfl⟩|(simp;omega)|(simp;done)))
  ·have hne:=h;rw[if_neg h] at hx;have h39:=agj h;have hln:0<x.aM.length:=List.length_pos_iff.2 hne;have hsl:=Ka x.aM x.aM.length (Nat.le_refl _)
   (repeat(with_reducible refine And.intro ?_ ?_;focus first|omega|rfl|assumption|exact⟨_,rfl,rfl⟩|(simp;omega)|(simp;done)))
   with_reducible refine aA (fun hb=> ?_) (fun hb=> ?_)<;>have h:=hb<;>(try simp only[wf_preprocess] at h)<;>simp -implicitDefEqProofs (disch:=omega) only[go_sem,hb]<;>(repeat(with_reducible refine And.intro ?_ ?_;focus first|omega|rfl|assumption|exact⟨_,rfl,rfl⟩|(simp;omega)|(simp;done)))
   ·rw[if_pos (h39.1 h)] at hx
    (repeat(with_reducible refine And.intro ?_ ?_;focus first|omega|rfl|assumption|exact⟨_,rfl,rfl⟩|(simp;omega)|(simp;done)))
    rw[hsl];refine ay (Wy _) ?_;simp -implicitDefEqProofs (disch:=omega) only[go_sem];exact adf hx
   ·rw[if_neg (fun e=>h (h39.2 e))] at hx;refine ay (Wx _) ?_;simp -implicitDefEqProofs (disch:=omega) only[go_sem];exact adf hx
  rw[if_pos h] at hx
  with_reducible refine aA (fun hb=> ?_) (fun hb=> ?_)<;>have h:=hb<;>(try simp only[wf_preprocess] at h)<;>simp -implicitDefEqProofs (disch:=omega) only[go_sem,hb]<;>(repeat(with_reducible refine And.intro ?_ ?_;focus first|omega|rfl|assumption|exact⟨_,rfl,rfl⟩|(simp;omega)|(simp;done)))
  ·rw[if_pos (by omega)] at hx;exact ade hx
  rw[if_neg (by omega)] at hx
  have hl2:2<=x.aj.length:=by omega
  have a0:=kS (l:=x.aj) (i:=0) (by omega);have a1:=kS (l:=x.aj) (i:=1) (by omega);obtain⟨T,hT⟩:∃T:Nat->List (List D),T=fun i=>(((x.aj.map (dV false)).drop 1).take i).map ak.enc:=⟨_,rfl⟩
  have hT0:T 0=[]:=by rw[hT];rfl
  have nN:∀i,(T i).length<=i:=fun i=>by rw[hT];simp only[List.length_map];exact List.length_take_le _ _
  have hTr:∀i,∀r∈T i,r.length=3:=fun i=>by
   rw[hT];intro r hr;obtain⟨z,_,rfl⟩:=List.mem_map.1 hr;exact z.bK
  have hTs:∀i (hi:i+1<x.aj.length),T i++[[.i .i64 (dV false x.aj[i+1]).aH,.s (dV false x.aj[i+1]).fName,.sl ((dV false x.aj[i+1]).fArgs.map ak.enc)]]=T (i+1):=fun i hi=>by
   have:=Zn (l:=(x.aj.map (dV false)).drop 1) (i:=i) (by rw[List.length_drop,List.length_map];omega);rw[List.getElem_drop,List.getElem_map] at this;rw[hT];simp only[Nat.add_comm 1 i] at this ⊢;exact this
  have hTe:T (x.aj.length-1)=((x.aj.map (dV false)).drop 1).map ak.enc:=by
   rw[hT];simp only
   rw[List.take_of_length_le (by simp)]
  have hTn:(T (x.aj.length-1)).length=x.aj.length-1:=by rw[hTe];simp
  have hTd:(T (x.aj.length-1)).drop 1=((x.aj.map (dV false)).drop 2).map ak.enc:=by rw[hTe,<-List.map_drop,List.drop_drop]
  clear hT
  (repeat(with_reducible refine And.intro ?_ ?_;focus first|omega|rfl|assumption|exact⟨_,rfl,rfl⟩|(simp;omega)|(simp;done)))
  refine uR 4 3 [] rfl (by simp) ?_
  refine bC (ι:=Nat) zmx rfl [1,2,3,4,5] (fun i=>[.c (.ptr (0,0) 0),.c (.ptr (0,1) 0),.c (.d (.s x.aj[0].aM)),.c (.bL (0,2) (T i)),.c (.d (.i .i64 ((i+1:Nat):Int)))])
   (fun i=>[.box [.d (.s x.aM),.d (.sl (x.aj.map ah.enc))],.box [.d (.i .i64 0),.d (.s []),.bE []],.tok 3 (T i)]::S)
   (fun i=>i+1<=x.aj.length) (fun i=>x.aj.length-(i+1)) 0 (by rw[hT0];rfl) (by rw[hT0];rfl) (by omega) ?_
  intro i hi;have hl:=nN i;simp -implicitDefEqProofs (disch:=omega) only[go_sem]
  with_reducible refine aA (fun hb=> ?_) (fun hb=> ?_)<;>have h:=hb<;>(try simp only[wf_preprocess] at h)<;>simp -implicitDefEqProofs (disch:=omega) only[go_sem,hb]<;>(repeat(with_reducible refine And.intro ?_ ?_;focus first|omega|rfl|assumption|exact⟨_,rfl,rfl⟩|(simp;omega)|(simp;done)))
  ·have hi':i+1<x.aj.length:=by omega
   have hm:=List.getElem_mem hi';have hs:=hTs i hi'
   (repeat(with_reducible refine And.intro ?_ ?_;focus first|omega|rfl|assumption|exact⟨_,rfl,rfl⟩|(simp;omega)|(simp;done)))
   refine ay (ih x.aj[i+1] (by have:=List.sizeOf_lt_of_mem hm;omega) (hall _ hm)) ?_;simp -implicitDefEqProofs (disch:=omega) only[go_sem,ak.aB]
   (repeat(with_reducible refine And.intro ?_ ?_;focus first|omega|rfl|assumption|exact⟨_,rfl,rfl⟩|(simp;omega)|(simp;done)))
   rw[hs];exact cO (i+1) (by omega) rfl rfl (by omega)
  have hi':i=x.aj.length-1:=by omega
  subst hi';have hrows:=hTr (x.aj.length-1);have hta:((T (x.aj.length-1)).take (x.aj.length-1))=T (x.aj.length-1):=List.take_of_length_le (by omega);rw[a0,a1] at hx;have tD:x.aj[0].aM=[100,121,110]/\x.aj.length=2/\x.aj[1].aM≠[]->dV false x=.mk 4 x.aj[1].aM []:=fun e=>hx.trans (if_pos ⟨e.1,.inr e.2⟩)
  have tA:x.aj[0].aM=[97,115,115,111,99]/\x.aj.length=3/\x.aj[1].aM≠[]->dV false x=.mk 3 x.aj[1].aM ((x.aj.map (dV false)).drop 2):=fun e=>by
   rw[hx,if_neg (fun e'=>by have:=e'.1.symm.trans e.1;revert this;decide),if_pos ⟨e.1,.inr e.2⟩]
  have tN:¬(x.aj[0].aM=[100,121,110]/\x.aj.length=2/\x.aj[1].aM≠[])->¬(x.aj[0].aM=[97,115,115,111,99]/\x.aj.length=3/\x.aj[1].aM≠[])->dV false x=.mk 2 x.aj[0].aM ((x.aj.map (dV false)).drop 1):=fun e1 e2=>by
   rw[hx,if_neg (fun e'=>e1 ⟨e'.1,e'.2.resolve_left (by decide)⟩),if_neg (fun e'=>e2 ⟨e'.1,e'.2.resolve_left (by decide)⟩)]
  clear hx hTs ih
  repeat' (first|(with_reducible refine aA (fun hb=> ?_) (fun hb=> ?_)<;>have h:=hb<;>(try simp only[wf_preprocess] at h)<;>simp -implicitDefEqProofs (disch:=omega) only[go_sem,hb]<;>(repeat(with_reducible refine And.intro ?_ ?_;focus first|omega|rfl|assumption|exact⟨_,rfl,rfl⟩|(simp;omega)|(simp;done)))))
  all_goals first
   |(refine⟨⟨by omega,by omega,hrows⟩,?_⟩;refine agk (tA ⟨by assumption,by omega,by assumption⟩) ?_;rw[hTn,hta,hTd];exact jm _)
   |exact ade (tD ⟨by assumption,by omega,by assumption⟩)
   |(refine agk (tN (fun⟨a,b,c⟩=>by first|contradiction|omega) (fun⟨a,b,c⟩=>by first|contradiction|omega)) ?_;rw[hTe];exact jm _)
   |trace_state
theorem vo(x:ah)(hsz:x.sz<=4194304):aG prog 66 [x.v] (dV false x).v:=Dp _ x (Nat.lt_succ_self _) hsz
theorem Kc(s:List UInt8)(hs:s.length<=1073741824):aG prog 212 [.c (.d (.s s)),.c (.d (.s [39]))] (.c (.d (.b (decide (s.head? =some 39))))):=fun S=>by
 refine zcx [.tmp 4] func212 ntmps212 ?_;simp -implicitDefEqProofs (disch:=omega) only[go_sem]
 with_reducible refine aA (fun hb=> ?_) (fun hb=> ?_)<;>have h:=hb<;>(try simp only[wf_preprocess] at h)<;>simp -implicitDefEqProofs (disch:=omega) only[go_sem,hb]<;>(repeat(with_reducible refine And.intro ?_ ?_;focus first|omega|rfl|assumption|exact⟨_,rfl,rfl⟩|(simp;omega)|(simp;done)))
 ·exact aQ (decide_eq_decide.2 (Sn (by omega)))
 ·have:s=[]:=List.eq_nil_of_length_eq_zero (by omega);subst this;rfl
theorem Ke(s:List UInt8)(hs:s.length<=1073741824):aG prog 185 [.c (.d (.s s)),.c (.d (.s [39]))] (.d9 [(false,[.d (.s (if s.head? =some 39 then s.tail else s))]),(false,[.d (.b (decide (s.head? =some 39)))])]):=fun S=>by
 refine zcx [.tmp 4,.tmp 5] func185 ntmps185 ?_;simp -implicitDefEqProofs (disch:=omega) only[go_sem];refine ay (Kc s hs) ?_;simp -implicitDefEqProofs (disch:=omega) only[go_sem]
 with_reducible refine aA (fun hb=> ?_) (fun hb=> ?_)<;>have h:=hb<;>(try simp only[wf_preprocess] at h)<;>simp -implicitDefEqProofs (disch:=omega) only[go_sem,hb]<;>(repeat(with_reducible refine And.intro ?_ ?_;focus first|omega|rfl|assumption|exact⟨_,rfl,rfl⟩|(simp;omega)|(simp;done)))
 ·rw[if_neg h,decide_eq_false h]
 ·have hl:0<s.length:=by
   cases s with
   |nil=>cases h
   |cons _ _=>simp
  (repeat(with_reducible refine And.intro ?_ ?_;focus first|omega|rfl|assumption|exact⟨_,rfl,rfl⟩|(simp;omega)|(simp;done)))
  rw[if_pos h,decide_eq_true h,Ka _ _ (Nat.le_refl _)]
theorem Qt(s:List UInt8)(hs:s.length<=1073741824):aG prog 128 [.c (.d (.s s)),.c (.d (.s [39]))] (.d9 [(false,[.d (.s (if s.head? =some 39 then s.tail else s))]),(false,[.d (.b (decide (s.head? =some 39)))])]):=fun S=>by
 refine zcx [.tmp 4,.tmp 5] func128 ntmps128 ?_;simp -implicitDefEqProofs (disch:=omega) only[go_sem];refine ay (Ke s hs) ?_;simp -implicitDefEqProofs (disch:=omega) only[go_sem]
theorem Ao(xs:List ah)(hx:xs.length<=1073741824)(n:Nat):aG prog 127 [.c (.d (.sl (xs.map ah.enc)))] (.d9 [(false,[.d (.ol n ((jA xs).map encS))]),(false,[.d (.b (allA xs))])]):=aG.of_le fun S=>by
 refine lK (n) (rs:=[.tmp 2,.tmp 3]) zmx func127 ntmps127 rfl rfl rfl rfl rfl ?_;simp -implicitDefEqProofs (disch:=omega) only[go_sem]
 (repeat(with_reducible refine And.intro ?_ ?_;focus first|omega|rfl|assumption|exact⟨_,rfl,rfl⟩|(simp;omega)|(simp;done)))
 refine qd n 4 1 [] (.inl rfl) (by simp) ?_
 refine bC (ι:=Nat) zmx rfl [4,8,9,10] (fun i=>[.c (.bL (0,1) ((xs.take i).map uo)),.c (.d (.sl (xs.map ah.enc))),.c (.d (.i .i64 xs.length)),.c (.d (.i .i64 i))]) (fun i=>[.seed n,.dY n 1 ((xs.take i).map uo)]::S)
  (fun i=>i<=xs.length/\∀j,∀hj:j<xs.length,j<i->xs[j].aM≠[]) (fun i=>xs.length-i) 0 rfl rfl ⟨Nat.zero_le _,fun j _ h=>by omega⟩ ?_
 rintro i ⟨p1,p2⟩;have hl:=Gs (l:=xs) (i:=i);simp -implicitDefEqProofs (disch:=omega) only[go_sem,ah.aB]
 with_reducible refine aA (fun hb=> ?_) (fun hb=> ?_)<;>have h:=hb<;>(try simp only[wf_preprocess] at h)<;>simp -implicitDefEqProofs (disch:=omega) only[go_sem,hb]<;>(repeat(with_reducible refine And.intro ?_ ?_;focus first|omega|rfl|assumption|exact⟨_,rfl,rfl⟩|(simp;omega)|(simp;done)))
 ·have hi':i<xs.length:=by omega
  have hs:=EH hi'
  (repeat(with_reducible refine And.intro ?_ ?_;focus first|omega|rfl|assumption|exact⟨_,rfl,rfl⟩|(simp;omega)|(simp;done)))
  with_reducible refine aA (fun hb=> ?_) (fun hb=> ?_)<;>have h:=hb<;>(try simp only[wf_preprocess] at h)<;>simp -implicitDefEqProofs (disch:=omega) only[go_sem,hb]<;>(repeat(with_reducible refine And.intro ?_ ?_;focus first|omega|rfl|assumption|exact⟨_,rfl,rfl⟩|(simp;omega)|(simp;done)))
  ·obtain⟨e1,e2⟩:=TB hi' h;rw[e1,e2];exact(jU.cons (.cons (eX n) .nil) (.refl _)).less
  ·(repeat(with_reducible refine And.intro ?_ ?_;focus first|omega|rfl|assumption|exact⟨_,rfl,rfl⟩|(simp;omega)|(simp;done)))
   rw[hs];refine dM 2 (by decide) (i+1) (by omega) rfl rfl rfl rfl ⟨by omega,fun j hj hji=> ?_⟩;by_cases e':j=i
   ·subst e';exact h
   ·exact p2 j hj (by omega)
 ·have hi':i=xs.length:=by omega
  subst hi';obtain⟨e1,e2⟩:=Qq fun j hj=>p2 j hj hj;rw[e1,e2,List.take_length];exact jm _
theorem Nk(x:ah)(hx:x.sz<=4194304)(n:Nat):aG prog 57 [x.v] (.c (.d (.ol n ((jA x.aj).map encS)))):=fun S=>by
 have:=gP x;refine zcx [.tmp 2] func57 ntmps57 ?_;simp -implicitDefEqProofs (disch:=omega) only[go_sem];refine ay (Ao x.aj (by omega) n) ?_;simp -implicitDefEqProofs (disch:=omega) only[go_sem]
theorem Sq(s:List UInt8)(n:Nat):aG prog 129 [.c (.d (.s s))] (.agg [.d (.i .i64 1),.d (.s s),.d (.ol n [])]):=aG.of_le fun S=>by
 refine zcx [.cell 2 29] func129 ntmps129 ?_;simp -implicitDefEqProofs (disch:=omega) only[go_sem]
 (repeat(with_reducible refine And.intro ?_ ?_;focus first|omega|rfl|assumption|exact⟨_,rfl,rfl⟩|(simp;omega)|(simp;done)))
 exact K9 _ _ _
theorem Sr(s:List UInt8)(n:Nat):aG prog 130 [.c (.d (.s s))] (.agg [.d (.i .i64 4),.d (.s s),.d (.ol n [])]):=aG.of_le fun S=>by
 refine zcx [.cell 2 29] func130 ntmps130 ?_;simp -implicitDefEqProofs (disch:=omega) only[go_sem]
 (repeat(with_reducible refine And.intro ?_ ?_;focus first|omega|rfl|assumption|exact⟨_,rfl,rfl⟩|(simp;omega)|(simp;done)))
 exact K9 _ _ _
theorem Dq:∀N:Nat,(∀x:ah,SizeOf.sizeOf x<N->∀n:Nat,x.sz<=4194304->aG prog 59 [x.v] ((dV true x).vl n))/\
 (∀xs:List ah,SizeOf.sizeOf xs<N->∀n q:Nat,xs.length<=4194304->(∀t∈xs,t.sz<=4194304)->aG prog 131 [.c (.d (.sl (xs.map ah.enc)))] (.c (.d (.ol n (lt (xs.map (dV true)) q)))))
 |0=>⟨fun x h=>by omega,fun x h=>by omega⟩
 |N+1=>by
  obtain⟨ih,mF⟩:=Dq N;refine⟨fun x hn n hsz=>aG.of_le fun S=> ?_,fun xs hn n q hlen hsz S=> ?_⟩
  ·have jl:=ah.ow x;have h1:=gP x;have h2:=CX x;have hx:=Tz true x
   have hall:∀t∈x.aj,t.sz<=4194304:=fun t ht=>by have:=jq ht;omega
   refine zcx [.cell 2 29] func59 ntmps59 ?_;simp -implicitDefEqProofs (disch:=omega) only[go_sem]
   with_reducible refine aA (fun hb=> ?_) (fun hb=> ?_)<;>have h:=hb<;>(try simp only[wf_preprocess] at h)<;>simp -implicitDefEqProofs (disch:=omega) only[go_sem,hb]<;>(repeat(with_reducible refine And.intro ?_ ?_;focus first|omega|rfl|assumption|exact⟨_,rfl,rfl⟩|(simp;omega)|(simp;done)))
   ·rw[if_neg h] at hx;refine ay (Qt x.aM (by omega)) ?_;simp -implicitDefEqProofs (disch:=omega) only[go_sem]
    with_reducible refine aA (fun hb=> ?_) (fun hb=> ?_)<;>have h:=hb<;>(try simp only[wf_preprocess] at h)<;>simp -implicitDefEqProofs (disch:=omega) only[go_sem,hb]<;>(repeat(with_reducible refine And.intro ?_ ?_;focus first|omega|rfl|assumption|exact⟨_,rfl,rfl⟩|(simp;omega)|(simp;done)))
    ·rw[if_pos h] at hx ⊢;refine ay (Sq _ n) ?_;simp -implicitDefEqProofs (disch:=omega) only[go_sem];exact Zp hx
    ·rw[if_neg h] at hx
     (repeat(with_reducible refine And.intro ?_ ?_;focus first|omega|rfl|assumption|exact⟨_,rfl,rfl⟩|(simp;omega)|(simp;done)))
     exact Zo hx
   rw[if_pos h] at hx
   with_reducible refine aA (fun hb=> ?_) (fun hb=> ?_)<;>have h:=hb<;>(try simp only[wf_preprocess] at h)<;>simp -implicitDefEqProofs (disch:=omega) only[go_sem,hb]<;>(repeat(with_reducible refine And.intro ?_ ?_;focus first|omega|rfl|assumption|exact⟨_,rfl,rfl⟩|(simp;omega)|(simp;done)))
   ·rw[if_pos (by omega)] at hx;exact Zo hx
   rw[if_neg (by omega)] at hx
   have hl2:2<=x.aj.length:=by omega
   have a0:=kS (l:=x.aj) (i:=0) (by omega);have a1:=kS (l:=x.aj) (i:=1) (by omega);rw[a0,a1] at hx;have hr:=jN (l:=x.aj);have hd:=fun i=>xH x.aj x.aj.length i (Nat.le_refl _);have hso:=fun i=>wH i x.aj
   have hdl:∀i,(x.aj.drop i).length<=4194304:=fun i=>by rw[List.length_drop];omega
   have hda:∀i,∀t∈x.aj.drop i,t.sz<=4194304:=fun i t ht=>hall t (List.mem_of_mem_drop ht)
   (repeat(with_reducible refine And.intro ?_ ?_;focus first|omega|rfl|assumption|exact⟨_,rfl,rfl⟩|(simp;omega)|(simp;done)))
   with_reducible refine aA (fun hb=> ?_) (fun hb=> ?_)<;>have h:=hb<;>(try simp only[wf_preprocess] at h)<;>simp -implicitDefEqProofs (disch:=omega) only[go_sem,hb]<;>(repeat(with_reducible refine And.intro ?_ ?_;focus first|omega|rfl|assumption|exact⟨_,rfl,rfl⟩|(simp;omega)|(simp;done)))
   ·have hx:=hx.trans (if_pos ⟨h,.inl rfl⟩)
    (repeat(with_reducible refine And.intro ?_ ?_;focus first|omega|rfl|assumption|exact⟨_,rfl,rfl⟩|(simp;omega)|(simp;done)))
    refine ay (Sr _ n) ?_;simp -implicitDefEqProofs (disch:=omega) only[go_sem];exact Zp hx
   have hx:=hx.trans (if_neg fun e=>h e.1)
   with_reducible refine aA (fun hb=> ?_) (fun hb=> ?_)<;>have h:=hb<;>(try simp only[wf_preprocess] at h)<;>simp -implicitDefEqProofs (disch:=omega) only[go_sem,hb]<;>(repeat(with_reducible refine And.intro ?_ ?_;focus first|omega|rfl|assumption|exact⟨_,rfl,rfl⟩|(simp;omega)|(simp;done)))
   ·have hx:=hx.trans (if_pos ⟨h,.inl rfl⟩);refine⟨⟨by omega,by omega,hr⟩,?_⟩;rw[hd];refine ay (mF (x.aj.drop 2) (by have:=hso 2;omega) n (n+1) (hdl 2) (hda 2)) ?_;simp -implicitDefEqProofs (disch:=omega) only[go_sem];refine adg hx ?_;rw[List.map_drop];exact jm _
   ·have hx:=hx.trans (if_neg fun e=>h e.1);refine⟨⟨by omega,by omega,hr⟩,?_⟩;rw[hd];refine ay (mF (x.aj.drop 1) (by have:=hso 1;omega) n (n+1) (hdl 1) (hda 1)) ?_;simp -implicitDefEqProofs (disch:=omega) only[go_sem];refine adg hx ?_;rw[List.map_drop];exact jm _
  ·have yE:=fun(i:Nat) (hi:i<xs.length)=>aeM (l:=xs.map (dV true)) (i:=i) (by rw[List.length_map];exact hi) q;refine lK (n) (rs:=[.tmp 2]) zmx func131 ntmps131 rfl rfl rfl rfl rfl ?_;simp -implicitDefEqProofs (disch:=omega) only[go_sem]
   (repeat(with_reducible refine And.intro ?_ ?_;focus first|omega|rfl|assumption|exact⟨_,rfl,rfl⟩|(simp;omega)|(simp;done)))
   refine qd n 3 3 [] (.inl rfl) (by simp) ?_
   refine bC (ι:=Nat) zmx rfl [3,7,8,9] (fun i=>[.c (.bL (0,1) (lt ((xs.map (dV true)).take i) q)),.c (.d (.sl (xs.map ah.enc))),.c (.d (.i .i64 xs.length)),.c (.d (.i .i64 i))]) (fun i=>[.seed n,.dY n 3 (lt ((xs.map (dV true)).take i) q)]::S)
    (fun i=>i<=xs.length) (fun i=>xs.length-i) 0 rfl rfl (Nat.zero_le _) ?_
   intro i hi;simp -implicitDefEqProofs (disch:=omega) only[go_sem,ah.aB]
   with_reducible refine aA (fun hb=> ?_) (fun hb=> ?_)<;>have h:=hb<;>(try simp only[wf_preprocess] at h)<;>simp -implicitDefEqProofs (disch:=omega) only[go_sem,hb]<;>(repeat(with_reducible refine And.intro ?_ ?_;focus first|omega|rfl|assumption|exact⟨_,rfl,rfl⟩|(simp;omega)|(simp;done)))
   ·have hi':i<xs.length:=by omega
    have hs:=yE i hi';rw[List.getElem_map] at hs
    have hl:(lt ((xs.map (dV true)).take i) q).length<=i:=by rw[Zm];exact List.length_take_le _ _
    (repeat(with_reducible refine And.intro ?_ ?_;focus first|omega|rfl|assumption|exact⟨_,rfl,rfl⟩|(simp;omega)|(simp;done)))
    refine ay (ih xs[i] (by have:=List.sizeOf_lt_of_mem (List.getElem_mem hi');omega) (q+fK ((xs.map (dV true)).take i)) (hsz _ (List.getElem_mem hi'))) ?_;simp -implicitDefEqProofs (disch:=omega) only[go_sem]
    (repeat(with_reducible refine And.intro ?_ ?_;focus first|omega|rfl|assumption|exact⟨_,rfl,rfl⟩|(simp;omega)|(simp;done)))
    rw[hs];exact dM 2 (by decide) (i+1) (by omega) rfl rfl rfl rfl (by omega)
   ·have hi':i=(xs.map (dV true)).length:=by rw[List.length_map];omega
    rw[hi',List.take_length]
theorem sD(x:ah)(n:Nat)(hsz:x.sz<=4194304):aG prog 59 [x.v] ((dV true x).vl n):=(Dq _).1 x (Nat.lt_succ_self _) n hsz
theorem Wz(x:ah)(s:List UInt8)(k:Nat)(hk:1<=k)(hk2:k<=100)(hsz:x.sz<=4194304):aG prog 56 [x.v,.c (.d (.s s)),.c (.d (.i .i64 k))] (.c (.d (.b (dec (ig x=true/\k<=x.aj.length/\cZ x.aj 0=s))))):=fun S=>by
 have h1:=gP x;obtain⟨t,ht⟩:∃t,t=dec (ig x=true/\k<=x.aj.length/\cZ x.aj 0=s):=⟨_,rfl⟩;rw[<-ht];refine zcx [.tmp 6] func56 ntmps56 ?_;simp -implicitDefEqProofs (disch:=omega) only[go_sem];refine ay (xP x (by omega)) ?_;simp -implicitDefEqProofs (disch:=omega) only[go_sem]
 with_reducible refine aA (fun hb=> ?_) (fun hb=> ?_)<;>have h:=hb<;>(try simp only[wf_preprocess] at h)<;>simp -implicitDefEqProofs (disch:=omega) only[go_sem,hb]<;>(repeat(with_reducible refine And.intro ?_ ?_;focus first|omega|rfl|assumption|exact⟨_,rfl,rfl⟩|(simp;omega)|(simp;done)))
 ·have hv:=h
  with_reducible refine aA (fun hb=> ?_) (fun hb=> ?_)<;>have h:=hb<;>(try simp only[wf_preprocess] at h)<;>simp -implicitDefEqProofs (disch:=omega) only[go_sem,hb]<;>(repeat(with_reducible refine And.intro ?_ ?_;focus first|omega|rfl|assumption|exact⟨_,rfl,rfl⟩|(simp;omega)|(simp;done)))
  ·have hl:0<x.aj.length:=by omega
   have hl2:k<=x.aj.length:=by omega
   have a0:=kS hl
   (repeat(with_reducible refine And.intro ?_ ?_;focus first|omega|rfl|assumption|exact⟨_,rfl,rfl⟩|(simp;omega)|(simp;done)))
   refine aQ ?_;rw[kX,ht];exact lC ⟨fun e=>⟨hv,hl2,by rw[a0];exact e⟩,fun e=>by rw[<-a0];exact e.2.2⟩
  ·exact aQ (ht.trans (bJ fun e=>by omega)).symm
 ·exact aQ (ht.trans (bJ fun e=>by rw[e.1] at h;cases h)).symm
theorem lU(b:Bool)(x:ah):dI b x=if x.aM=[] then
 if b=true/\(x.aj.length<2\/cZ x.aj 0=gu/\x.aj.length<3) then qZ
 else if cZ x.aj 0=lg then .mk 4 [] (cZ x.aj 1) 0 iF ((x.aj.map (dI b)).drop 2) []
 else if cZ x.aj 0=nV then .mk 6 [] (cZ x.aj 1) 0 iF ((x.aj.map (dI b)).drop 2) []
 else if cZ x.aj 0=nW then .mk 8 [] (cZ x.aj 1) 0 iF ((x.aj.map (dI b)).drop 2) []
 else if cZ x.aj 0=lq then .mk 11 (cZ x.aj 1) [] 0 iF ((x.aj.map (dI b)).drop 2) []
 else if cZ x.aj 0=gu then .mk 5 (cZ x.aj 1) (cZ x.aj 2) 0 iF ((x.aj.map (dI b)).drop 3) []
 else if cZ x.aj 0=sj then .mk 9 [] [] 0 iF ((x.aj.map (dI b)).drop 1) []
 else if cZ x.aj 0=oH then .mk 12 [] [] 0 (dV b (x.aj.getD 1 eu)) ((x.aj.map (dI b)).drop 2) []
 else if cZ x.aj 0=iP then .mk 7 [] [] 0 iF (((x.aj.map (dI b)).drop 1).take 1) ((x.aj.map (mZ b)).drop 2)
 else .mk 10 [] (cZ x.aj 0) 0 iF ((x.aj.map (dI b)).drop 1) []
 else match fC x.aM with
  |some n=>.mk 1 [] [] n iF [] []
  |none=>if x.aM=wG then .mk 2 [] [] 1 iF [] [] else if x.aM=vg then .mk 2 [] [] 0 iF [] [] else .mk 3 [] x.aM 0 iF [] []:=by
 cases x;rw[dI,xC,Ak];rfl
theorem TF(b:Bool)(x:ah)(h:2<=x.aj.length):mZ b x=.mk (cZ x.aj 0) (jA ((x.aj.drop 1).dropLast)) (dI b (x.aj[x.aj.length-1]'(by omega))):=by
 obtain⟨a,l⟩:=x;simp only[ah.aj] at h ⊢;rw[mZ,if_neg (by omega),xC];congr 1;rw[List.getLastD_eq_getLast?,List.getLast?_eq_getElem?,List.length_map,List.getElem?_eq_getElem (by rw[List.length_map];omega)]
 simp
theorem TG(b:Bool)(x:ah)(h:x.aj.length<2):mZ b x=.mk [] [] qZ:=by
 obtain⟨a,l⟩:=x;rw[mZ];exact if_pos h
def sF(b:Bool)(l:List ah):Prop:=¬(b=true/\(l.length<2\/cZ l 0=gu/\l.length<3))
theorem MC{b:Bool}{x:ah}(ha:x.aM=[])(hg:sF b x.aj)(h:cZ x.aj 0=lg):dI b x=.mk 4 [] (cZ x.aj 1) 0 iF ((x.aj.drop 2).map (dI b)) []:=by
 rw[lU,if_pos ha,if_neg hg,if_pos h];simp only[List.map_drop,List.map_take]
theorem Qu{b:Bool}{x:ah}(ha:x.aM=[])(hg:sF b x.aj)(h:cZ x.aj 0=nV):dI b x=.mk 6 [] (cZ x.aj 1) 0 iF ((x.aj.drop 2).map (dI b)) []:=by
 rw[lU,if_pos ha,if_neg hg,if_neg (by rw[h];decide),if_pos h];simp only[List.map_drop,List.map_take]
theorem Qv{b:Bool}{x:ah}(ha:x.aM=[])(hg:sF b x.aj)(h:cZ x.aj 0=nW):dI b x=.mk 8 [] (cZ x.aj 1) 0 iF ((x.aj.drop 2).map (dI b)) []:=by
 rw[lU,if_pos ha,if_neg hg,if_neg (by rw[h];decide),if_neg (by rw[h];decide),if_pos h];simp only[List.map_drop,List.map_take]
theorem ME{b:Bool}{x:ah}(ha:x.aM=[])(hg:sF b x.aj)(h:cZ x.aj 0=lq):dI b x=.mk 11 (cZ x.aj 1) [] 0 iF ((x.aj.drop 2).map (dI b)) []:=by
 rw[lU,if_pos ha,if_neg hg,if_neg (by rw[h];decide),if_neg (by rw[h];decide),if_neg (by rw[h];decide),if_pos h];simp only[List.map_drop,List.map_take]
theorem Gt{b:Bool}{x:ah}(ha:x.aM=[])(hg:sF b x.aj)(h:cZ x.aj 0=gu):dI b x=.mk 5 (cZ x.aj 1) (cZ x.aj 2) 0 iF ((x.aj.drop 3).map (dI b)) []:=by
 rw[lU,if_pos ha,if_neg hg,if_neg (by rw[h];decide),if_neg (by rw[h];decide),if_neg (by rw[h];decide),if_neg (by rw[h];decide),if_pos h];simp only[List.map_drop,List.map_take]
theorem TH{b:Bool}{x:ah}(ha:x.aM=[])(hg:sF b x.aj)(h:cZ x.aj 0=sj):dI b x=.mk 9 [] [] 0 iF ((x.aj.drop 1).map (dI b)) []:=by
 rw[lU,if_pos ha,if_neg hg,if_neg (by rw[h];decide),if_neg (by rw[h];decide),if_neg (by rw[h];decide),if_neg (by rw[h];decide),if_neg (by rw[h];decide),if_pos h];simp only[List.map_drop,List.map_take]
theorem Qw{b:Bool}{x:ah}(ha:x.aM=[])(hg:sF b x.aj)(h:cZ x.aj 0=oH):dI b x=.mk 12 [] [] 0 (dV b (x.aj.getD 1 eu)) ((x.aj.drop 2).map (dI b)) []:=by
 rw[lU,if_pos ha,if_neg hg,if_neg (by rw[h];decide),if_neg (by rw[h];decide),if_neg (by rw[h];decide),if_neg (by rw[h];decide),if_neg (by rw[h];decide),if_neg (by rw[h];decide),if_pos h];simp only[List.map_drop,List.map_take]
theorem MF{b:Bool}{x:ah}(ha:x.aM=[])(hg:sF b x.aj)(h:cZ x.aj 0=iP):dI b x=.mk 7 [] [] 0 iF (((x.aj.drop 1).take 1).map (dI b)) ((x.aj.drop 2).map (mZ b)):=by
 rw[lU,if_pos ha,if_neg hg,if_neg (by rw[h];decide),if_neg (by rw[h];decide),if_neg (by rw[h];decide),if_neg (by rw[h];decide),if_neg (by rw[h];decide),if_neg (by rw[h];decide),if_neg (by rw[h];decide),if_pos h];simp only[List.map_drop,List.map_take]
theorem MG{b:Bool}{x:ah}(ha:x.aM=[])(hg:sF b x.aj)(h0:cZ x.aj 0≠lg)(h1:cZ x.aj 0≠nV)(h2:cZ x.aj 0≠nW)(h3:cZ x.aj 0≠lq)(h4:cZ x.aj 0≠gu)(h5:cZ x.aj 0≠sj)(h6:cZ x.aj 0≠oH)(h7:cZ x.aj 0≠iP):dI b x=.mk 10 [] (cZ x.aj 0) 0 iF ((x.aj.drop 1).map (dI b)) []:=by
 rw[lU,if_pos ha,if_neg hg,if_neg h0,if_neg h1,if_neg h2,if_neg h3,if_neg h4,if_neg h5,if_neg h6,if_neg h7];simp only[List.map_drop,List.map_take]
theorem MH{x:ah}(ha:x.aM=[])(hg:¬sF true x.aj):dI true x=qZ:=by
 rw[lU,if_pos ha,if_pos (Decidable.not_not.1 hg)]
theorem Qx{b:Bool}{x:ah}{n:Int}(ha:x.aM≠[])(h:fC x.aM=some n):dI b x=.mk 1 [] [] n iF [] []:=by
 rw[lU,if_neg ha,h]
theorem MI{b:Bool}{x:ah}(ha:x.aM≠[])(h:fC x.aM=none)(h1:x.aM=wG):dI b x=.mk 2 [] [] 1 iF [] []:=by
 rw[lU,if_neg ha,h];exact if_pos h1
theorem Kg{b:Bool}{x:ah}(ha:x.aM≠[])(h:fC x.aM=none)(h1:x.aM≠wG)(h2:x.aM=vg):dI b x=.mk 2 [] [] 0 iF [] []:=by
 rw[lU,if_neg ha,h];exact(if_neg h1).trans (if_pos h2)
theorem Qy{b:Bool}{x:ah}(ha:x.aM≠[])(h:fC x.aM=none)(h1:x.aM≠wG)(h2:x.aM≠vg):dI b x=.mk 3 [] x.aM 0 iF [] []:=by
 rw[lU,if_neg ha,h];exact(if_neg h1).trans (if_neg h2)
def lE(l:List au)(n:Nat):List (List D):=dU (l.map au.enc) n
def kK(l:List au):Nat:=lT (l.map au.enc)
def lM(l:List aJ)(n:Nat):List (List D):=dU (l.map aJ.enc) n
def WA(l:List aJ):Nat:=lT (l.map aJ.enc)
abbrev au.vl(x:au)(n:Nat):V:=.agg [.d (.i .i64 x.aH),.d (.s x.aZ),.d (.s x.fName),.d (.i .i64 x.fN),.d (.i .i64 x.fType.aH),.d (.s x.fType.fName),.d (.ol n (lt x.fType.fArgs (n+1))),
 .d (.ol (n+(fK x.fType.fArgs+1)) (lE x.fArgs (n+(fK x.fType.fArgs+1)+1))),.d (.ol (n+(fK x.fType.fArgs+1)+(kK x.fArgs+1)) (lM x.aI (n+(fK x.fType.fArgs+1)+(kK x.fArgs+1)+1)))]
theorem Qz(x:au)(n:Nat):dL x.enc n=[.i .i64 x.aH,.s x.aZ,.s x.fName,.i .i64 x.fN,.i .i64 x.fType.aH,.s x.fType.fName,.ol n (lt x.fType.fArgs (n+1)),
 .ol (n+(fK x.fType.fArgs+1)) (lE x.fArgs (n+(fK x.fType.fArgs+1)+1)),.ol (n+(fK x.fType.fArgs+1)+(kK x.fArgs+1)) (lM x.aI (n+(fK x.fType.fArgs+1)+(kK x.fArgs+1)+1))]:=by
 simp only[au.aB,ak.aB,List.cons_append,List.nil_append,dL,kC,nU,Nat.add_zero,lt,lE,lM,fK,kK]
theorem acs(x:aJ)(n:Nat):dL x.enc n=[.s x.bO,.ol n (x.aW.map encS)]++dL x.fBody.enc (n+1):=by
 rw[aJ.aB,Gh];simp only[dL,kC,pO,nU,Nat.add_zero,G9,Qr,Nat.zero_add]
abbrev aJ.vl(x:aJ)(n:Nat):V:=.agg [.d (.s x.bO),.d (.ol n (x.aW.map encS)),.d (.i .i64 x.fBody.aH),.d (.s x.fBody.aZ),.d (.s x.fBody.fName),.d (.i .i64 x.fBody.fN),.d (.i .i64 x.fBody.fType.aH),.d (.s x.fBody.fType.fName),.d (.ol (n+1) (lt x.fBody.fType.fArgs (n+1+1))),
 .d (.ol (n+1+(fK x.fBody.fType.fArgs+1)) (lE x.fBody.fArgs (n+1+(fK x.fBody.fType.fArgs+1)+1))),.d (.ol (n+1+(fK x.fBody.fType.fArgs+1)+(kK x.fBody.fArgs+1)) (lM x.fBody.aI (n+1+(fK x.fBody.fType.fArgs+1)+(kK x.fBody.fArgs+1)+1)))]
theorem Zq(l:List au)(n:Nat):(lE l n).length=l.length:=by unfold lE;rw[jw,List.length_map]
theorem Zr(l:List aJ)(n:Nat):(lM l n).length=l.length:=by unfold lM;rw[jw,List.length_map]
theorem aeN{l:List au}{i:Nat}(hi:i<l.length)(n:Nat):lE (l.take i) n++[dL l[i].enc (n+kK (l.take i))]=lE (l.take (i+1)) n:=by
 rw[List.take_succ_eq_append_getElem hi];unfold lE kK;rw[List.map_append,oF];rfl
theorem aeO{l:List aJ}{i:Nat}(hi:i<l.length)(n:Nat):lM (l.take i) n++[dL l[i].enc (n+WA (l.take i))]=lM (l.take (i+1)) n:=by
 rw[List.take_succ_eq_append_getElem hi];unfold lM WA;rw[List.map_append,oF];rfl
theorem Zt{l:List au}{i:Nat}(hi:i<l.length):(l.take i).map au.enc++[l[i].enc]=(l.take (i+1)).map au.enc:=by
 rw[List.take_succ_eq_append_getElem hi,List.map_append];rfl
theorem Zu{l:List aJ}{i:Nat}(hi:i<l.length):(l.take i).map aJ.enc++[l[i].enc]=(l.take (i+1)).map aJ.enc:=by
 rw[List.take_succ_eq_append_getElem hi,List.map_append];rfl
theorem TI{x:au}{n:Nat}{k N:Int}{tr nm:List UInt8}(h:x=.mk k tr nm N iF [] []):Less (.agg [.d (.i .i64 k),.d (.s tr),.d (.s nm),.d (.i .i64 N),.d (.i .i64 0),.d (.s []),.bE [],.bE [],.bE []]) (x.vl n):=by
 rw[h];exact(dW.cons (.refl _) (.cons (.refl _) (.cons (.refl _) (.cons (.refl _) (.cons (.refl _) (.cons (.refl _) (.cons (eX _) (.cons (eX _) (.cons (eX _) .nil))))))))).less
theorem QA{x:au}{n:Nat}{k N:Int}{tr nm:List UInt8}{args:List au}(h:x=.mk k tr nm N iF args []):Less (.agg [.d (.i .i64 k),.d (.s tr),.d (.s nm),.d (.i .i64 N),.d (.i .i64 0),.d (.s []),.bE [],.d (.ol (n+1) (lE args (n+1+1))),.bE []]) (x.vl n):=by
 rw[h];exact(dW.cons (.refl _) (.cons (.refl _) (.cons (.refl _) (.cons (.refl _) (.cons (.refl _) (.cons (.refl _) (.cons (eX _) (.cons (.refl _) (.cons (eX _) .nil))))))))).less
theorem ie2{x:au}{n:Nat}{k N:Int}{tr nm:List UInt8}{ty:ak}{args:List au}(h:x=.mk k tr nm N ty args []):Less (.agg [.d (.i .i64 k),.d (.s tr),.d (.s nm),.d (.i .i64 N),.d (.i .i64 ty.aH),.d (.s ty.fName),.d (.ol n (lt ty.fArgs (n+1))),.d (.ol (n+(fK ty.fArgs+1)) (lE args (n+(fK ty.fArgs+1)+1))),.bE []]) (x.vl n):=by
 rw[h];exact(dW.cons (.refl _) (.cons (.refl _) (.cons (.refl _) (.cons (.refl _) (.cons (.refl _) (.cons (.refl _) (.cons (.refl _) (.cons (.refl _) (.cons (eX _) .nil))))))))).less
theorem ie3{x:au}{n:Nat}{k N:Int}{tr nm:List UInt8}{args:List au}{arms:List aJ}(h:x=.mk k tr nm N iF args arms):Less (.agg [.d (.i .i64 k),.d (.s tr),.d (.s nm),.d (.i .i64 N),.d (.i .i64 0),.d (.s []),.bE [],.d (.ol (n+1) (lE args (n+1+1))),.d (.ol (n+1+(kK args+1)) (lM arms (n+1+(kK args+1)+1)))]) (x.vl n):=by
 rw[h];exact(dW.cons (.refl _) (.cons (.refl _) (.cons (.refl _) (.cons (.refl _) (.cons (.refl _) (.cons (.refl _) (.cons (eX _) (.cons (.refl _) (.cons (.refl _) .nil))))))))).less
theorem se0{x:au}{k N:Int}{tr nm:List UInt8}(h:x=.mk k tr nm N iF [] []):Less (.agg [.d (.i .i64 k),.d (.s tr),.d (.s nm),.d (.i .i64 N),.d (.i .i64 0),.d (.s []),.bE [],.bE [],.bE []]) x.v:=by
 rw[h];exact(dW.cons (.refl _) (.cons (.refl _) (.cons (.refl _) (.cons (.refl _) (.cons (.refl _) (.cons (.refl _) (.cons (gG _) (.cons (gG _) (.cons (gG _) .nil))))))))).less
theorem QB{x:au}{k N:Int}{tr nm:List UInt8}{args:List au}(h:x=.mk k tr nm N iF args []):Less (.agg [.d (.i .i64 k),.d (.s tr),.d (.s nm),.d (.i .i64 N),.d (.i .i64 0),.d (.s []),.bE [],.d (.sl (args.map au.enc)),.bE []]) x.v:=by
 rw[h];exact(dW.cons (.refl _) (.cons (.refl _) (.cons (.refl _) (.cons (.refl _) (.cons (.refl _) (.cons (.refl _) (.cons (gG _) (.cons (.refl _) (.cons (gG _) .nil))))))))).less
theorem se2{x:au}{k N:Int}{tr nm:List UInt8}{ty:ak}{args:List au}(h:x=.mk k tr nm N ty args []):Less (.agg [.d (.i .i64 k),.d (.s tr),.d (.s nm),.d (.i .i64 N),.d (.i .i64 ty.aH),.d (.s ty.fName),.d (.sl (ty.fArgs.map ak.enc)),.d (.sl (args.map au.enc)),.bE []]) x.v:=by
 rw[h];exact(dW.cons (.refl _) (.cons (.refl _) (.cons (.refl _) (.cons (.refl _) (.cons (.refl _) (.cons (.refl _) (.cons (.refl _) (.cons (.refl _) (.cons (gG _) .nil))))))))).less
theorem se3{x:au}{k N:Int}{tr nm:List UInt8}{args:List au}{arms:List aJ}(h:x=.mk k tr nm N iF args arms):Less (.agg [.d (.i .i64 k),.d (.s tr),.d (.s nm),.d (.i .i64 N),.d (.i .i64 0),.d (.s []),.bE [],.d (.sl (args.map au.enc)),.d (.sl (arms.map aJ.enc))]) x.v:=by
 rw[h];exact(dW.cons (.refl _) (.cons (.refl _) (.cons (.refl _) (.cons (.refl _) (.cons (.refl _) (.cons (.refl _) (.cons (gG _) (.cons (.refl _) (.cons (.refl _) .nil))))))))).less
theorem Sv(l:List ah)(i:Nat):((l.map ah.enc).take l.length).drop (min i l.length)=(l.drop i).map ah.enc:=by
 rw[xH _ _ _ (Nat.le_refl _)];by_cases h:i<=l.length
 ·rw[Nat.min_eq_left h]
 ·rw[Nat.min_eq_right (by omega),List.drop_length,List.drop_of_length_le (by omega)]
theorem aeP(l:List ah):((l.map ah.enc).take (min 2 l.length)).drop 1=((l.drop 1).take 1).map ah.enc:=by
 match l with
 |[]=>rfl
 |[x]=>rfl
 |x::y::l=>simp[show min 2 (l.length+1+1)=2 by omega]
theorem WB(l:List ah)(i:Nat)(h:i<l.length+3):(l.map ah.enc++([[.s [],.sl []],[.s [],.sl []],[.s [],.sl []]]:List (List D))).getD i []=[.s (cZ l i),.sl ((l.getD i eu).aj.map ah.enc)]:=by
 rw[List.getD_eq_getElem?_getD,List.getElem?_append];split
 ·rename_i hi;rw[List.length_map] at hi;rw[List.getElem?_map,List.getElem?_eq_getElem hi];simp only[Option.map_some,Option.getD_some];rw[ah.aB,kS hi,List.getD_eq_getElem?_getD,List.getElem?_eq_getElem hi];rfl
 ·rename_i hi;rw[List.length_map] at hi;rw[BD (by omega),List.getD_eq_getElem?_getD,List.getElem?_eq_none (by omega:l.length<=i),List.length_map]
  have:i-l.length=0\/i-l.length=1\/i-l.length=2:=by omega
  rcases this with e|e|e<;>rw[e]<;>rfl
theorem MJ(l:List ah)(h:2<=l.length):((l.map ah.enc).take ((l.length:Int)-1).toNat).drop 1=((l.drop 1).dropLast).map ah.enc:=by
 rw[show((l.length:Int)-1).toNat=l.length-1 by omega,<-List.map_take,<-List.map_drop,List.dropLast_eq_take,List.length_drop,List.drop_take]
theorem zI(x:ah)(i:Nat){m:Nat}(h:x.sz<=m):(x.aj.getD i eu).sz<=m:=by
 have:=acr x.aj i;have:=gP x;omega
theorem vU{l:List ah}(h:iK l=true){t:ah}(ht:t∈l):iO t=true:=yB.1 h t ht
theorem nO{l:List ah}(h:iK l=true)(i:Nat):iK (l.drop i)=true:=yB.2 fun t ht=>vU h (List.mem_of_mem_drop ht)
theorem Zv{l:List ah}(h:iK l=true)(i:Nat):iK (l.take i)=true:=yB.2 fun t ht=>vU h (List.mem_of_mem_take ht)
theorem AX{α:Type}[SizeOf α]:∀(i:Nat)(l:List α),SizeOf.sizeOf (l.take i)<=SizeOf.sizeOf l
 |0,[]=>by simp
 |0,x::l=>by rw[List.take_zero];simp only[List.cons.sizeOf_spec,List.nil.sizeOf_spec];omega
 |i+1,[]=>by simp
 |i+1,x::l=>by
  have:=AX i l;rw[List.take_succ_cons];simp only[List.cons.sizeOf_spec];omega
theorem WC(n:Int):aG prog 142 [.c (.d (.i .i64 n))] (.agg [.d (.i .i64 1),.d (.s []),.d (.s []),.d (.i .i64 n),.d (.i .i64 0),.d (.s []),.bE [],.bE [],.bE []]):=fun S=>by
 refine zcx [.cell 2 33] func142 ntmps142 ?_;simp -implicitDefEqProofs (disch:=omega) only[go_sem]
theorem Sw(s:List UInt8):aG prog 91 [.c (.d (.s s))] (.agg [.d (.i .i64 3),.d (.s []),.d (.s s),.d (.i .i64 0),.d (.i .i64 0),.d (.s []),.bE [],.bE [],.bE []]):=fun S=>by
 refine zcx [.cell 2 33] func91 ntmps91 ?_;simp -implicitDefEqProofs (disch:=omega) only[go_sem]
theorem EK:∀N:Nat,(∀x:ah,SizeOf.sizeOf x<N->x.sz<=4194304->aG prog 67 [x.v] (dI false x).v)/\
 (∀xs:List ah,SizeOf.sizeOf xs<N->xs.length<=4194304->(∀t∈xs,t.sz<=4194304)->aG prog 143 [.c (.d (.sl (xs.map ah.enc)))] (.c (.d (.sl ((xs.map (dI false)).map au.enc)))))/\
 (∀x:ah,SizeOf.sizeOf x<N->x.sz<=4194304->aG prog 145 [x.v] (mZ false x).v)
 |0=>⟨fun x h=>by omega,fun x h=>by omega,fun x h=>by omega⟩
 |N+1=>by
  obtain⟨ih,mF,ihM⟩:=EK N;refine⟨fun x hn hsz=>aG.of_le fun S=> ?_,fun xs hn hlen hsz S=> ?_,fun x hn hsz=>aG.of_le fun S=> ?_⟩
  ·have jl:=ah.ow x;have h1:=gP x;have h2:=CX x
   have hall:∀t∈x.aj,t.sz<=4194304:=fun t ht=>by have:=jq ht;omega
   have hr:=jN (l:=x.aj);have hso:=fun i=>wH i x.aj
   have hdl:∀i,(x.aj.drop i).length<=4194304:=fun i=>by rw[List.length_drop];omega
   have hda:∀i,∀t∈x.aj.drop i,t.sz<=4194304:=fun i t ht=>hall t (List.mem_of_mem_drop ht)
   have hg:sF false x.aj:=fun e=>by cases e.1
   refine zcx [.cell 2 33] func67 ntmps67 ?_;simp -implicitDefEqProofs (disch:=omega) only[go_sem]
   with_reducible refine aA (fun hb=> ?_) (fun hb=> ?_)<;>have h:=hb<;>(try simp only[wf_preprocess] at h)<;>simp -implicitDefEqProofs (disch:=omega) only[go_sem,hb]<;>(repeat(with_reducible refine And.intro ?_ ?_;focus first|omega|rfl|assumption|exact⟨_,rfl,rfl⟩|(simp;omega)|(simp;done)))
   ·have hne:=h;refine ay (J9 x.aM (by omega)) ?_
    cases xw:fC x.aM with
    |some m=>
     simp -implicitDefEqProofs (disch:=omega) only[go_sem,Option.getD_some,Option.isSome_some];refine ay (WC m) ?_;simp -implicitDefEqProofs (disch:=omega) only[go_sem];exact se0 (Qx hne xw)
    |none=>
     simp -implicitDefEqProofs (disch:=omega) only[go_sem,Option.getD_none,Option.isSome_none]
     with_reducible refine aA (fun hb=> ?_) (fun hb=> ?_)<;>have h:=hb<;>(try simp only[wf_preprocess] at h)<;>simp -implicitDefEqProofs (disch:=omega) only[go_sem,hb]<;>(repeat(with_reducible refine And.intro ?_ ?_;focus first|omega|rfl|assumption|exact⟨_,rfl,rfl⟩|(simp;omega)|(simp;done)))
     ·exact se0 (MI hne xw h)
     have k1:=h
     with_reducible refine aA (fun hb=> ?_) (fun hb=> ?_)<;>have h:=hb<;>(try simp only[wf_preprocess] at h)<;>simp -implicitDefEqProofs (disch:=omega) only[go_sem,hb]<;>(repeat(with_reducible refine And.intro ?_ ?_;focus first|omega|rfl|assumption|exact⟨_,rfl,rfl⟩|(simp;omega)|(simp;done)))
     ·exact se0 (Kg hne xw k1 h)
     have k2:=h;refine ay (Sw _) ?_;simp -implicitDefEqProofs (disch:=omega) only[go_sem];exact se0 (Qy hne xw k1 k2)
   have ha:=h;have l0:=WB x.aj 0 (by omega);have l1:=WB x.aj 1 (by omega);have l2:=WB x.aj 2 (by omega)
   have hm1:min (1:Int) (x.aj.length:Int)=((min 1 x.aj.length:Nat):Int):=by omega
   have hm2:min (2:Int) (x.aj.length:Int)=((min 2 x.aj.length:Nat):Int):=by omega
   have hm3:min (3:Int) (x.aj.length:Int)=((min 3 x.aj.length:Nat):Int):=by omega
   have hd:=fun i=>Sv x.aj i;have hdd:=xH x.aj x.aj.length 1 (Nat.le_refl _);simp -implicitDefEqProofs (disch:=omega) only[go_sem,l0,l1,l2]
   (repeat(with_reducible refine And.intro ?_ ?_;focus first|omega|rfl|assumption|exact⟨_,rfl,rfl⟩|(simp;omega)|(simp;done)))
   with_reducible refine aA (fun hb=> ?_) (fun hb=> ?_)<;>have h:=hb<;>(try simp only[wf_preprocess] at h)<;>simp -implicitDefEqProofs (disch:=omega) only[go_sem,hb,l0,l1,l2]<;>(repeat(with_reducible refine And.intro ?_ ?_;focus first|omega|rfl|assumption|exact⟨_,rfl,rfl⟩|(simp;omega)|(simp;done)))
   ·refine ay (ru _ _) ?_;rw[hm2];simp -implicitDefEqProofs (disch:=omega) only[go_sem];refine⟨⟨by omega,by omega,by omega,hr⟩,?_⟩;rw[hd];refine ay (mF (x.aj.drop 2) (by have:=hso 2;omega) (hdl 2) (hda 2)) ?_;simp -implicitDefEqProofs (disch:=omega) only[go_sem];exact QB (MC ha hg h)
   have WE:=h
   with_reducible refine aA (fun hb=> ?_) (fun hb=> ?_)<;>have h:=hb<;>(try simp only[wf_preprocess] at h)<;>simp -implicitDefEqProofs (disch:=omega) only[go_sem,hb,l0,l1,l2]<;>(repeat(with_reducible refine And.intro ?_ ?_;focus first|omega|rfl|assumption|exact⟨_,rfl,rfl⟩|(simp;omega)|(simp;done)))
   ·refine ay (ru _ _) ?_;rw[hm3];simp -implicitDefEqProofs (disch:=omega) only[go_sem];refine⟨⟨by omega,by omega,by omega,hr⟩,?_⟩;rw[hd];refine ay (mF (x.aj.drop 3) (by have:=hso 3;omega) (hdl 3) (hda 3)) ?_;simp -implicitDefEqProofs (disch:=omega) only[go_sem];exact QB (Gt ha hg h)
   have FE:=h
   with_reducible refine aA (fun hb=> ?_) (fun hb=> ?_)<;>have h:=hb<;>(try simp only[wf_preprocess] at h)<;>simp -implicitDefEqProofs (disch:=omega) only[go_sem,hb,l0,l1,l2]<;>(repeat(with_reducible refine And.intro ?_ ?_;focus first|omega|rfl|assumption|exact⟨_,rfl,rfl⟩|(simp;omega)|(simp;done)))
   ·refine ay (ru _ _) ?_;rw[hm2];simp -implicitDefEqProofs (disch:=omega) only[go_sem];refine⟨⟨by omega,by omega,by omega,hr⟩,?_⟩;rw[hd];refine ay (mF (x.aj.drop 2) (by have:=hso 2;omega) (hdl 2) (hda 2)) ?_;simp -implicitDefEqProofs (disch:=omega) only[go_sem];exact QB (Qu ha hg h)
   have nNew:=h
   with_reducible refine aA (fun hb=> ?_) (fun hb=> ?_)<;>have h:=hb<;>(try simp only[wf_preprocess] at h)<;>simp -implicitDefEqProofs (disch:=omega) only[go_sem,hb,l0,l1,l2]<;>(repeat(with_reducible refine And.intro ?_ ?_;focus first|omega|rfl|assumption|exact⟨_,rfl,rfl⟩|(simp;omega)|(simp;done)))
   ·refine ay (ru _ _) ?_;rw[hm2];simp -implicitDefEqProofs (disch:=omega) only[go_sem];refine⟨⟨by omega,by omega,by omega,hr⟩,?_⟩;rw[hd];refine ay (mF (x.aj.drop 2) (by have:=hso 2;omega) (hdl 2) (hda 2)) ?_;simp -implicitDefEqProofs (disch:=omega) only[go_sem];exact QB (Qv ha hg h)
   have acu:=h
   with_reducible refine aA (fun hb=> ?_) (fun hb=> ?_)<;>have h:=hb<;>(try simp only[wf_preprocess] at h)<;>simp -implicitDefEqProofs (disch:=omega) only[go_sem,hb,l0,l1,l2]<;>(repeat(with_reducible refine And.intro ?_ ?_;focus first|omega|rfl|assumption|exact⟨_,rfl,rfl⟩|(simp;omega)|(simp;done)))
   ·have hpos:0<x.aj.length:=by
     rcases Nat.eq_zero_or_pos x.aj.length with e|e
     ·rw[BD (by omega)] at h;cases h
     ·exact e
    refine⟨⟨by omega,by omega,hr⟩,?_⟩;rw[hdd];refine ay (mF (x.aj.drop 1) (by have:=hso 1;omega) (hdl 1) (hda 1)) ?_;simp -implicitDefEqProofs (disch:=omega) only[go_sem];exact QB (TH ha hg h)
   have nIf:=h
   with_reducible refine aA (fun hb=> ?_) (fun hb=> ?_)<;>have h:=hb<;>(try simp only[wf_preprocess] at h)<;>simp -implicitDefEqProofs (disch:=omega) only[go_sem,hb,l0,l1,l2]<;>(repeat(with_reducible refine And.intro ?_ ?_;focus first|omega|rfl|assumption|exact⟨_,rfl,rfl⟩|(simp;omega)|(simp;done)))
   ·refine ay (ru _ _) ?_;rw[hm2];simp -implicitDefEqProofs (disch:=omega) only[go_sem];refine⟨⟨by omega,by omega,by omega,hr⟩,?_⟩;rw[hd];refine ay (mF (x.aj.drop 2) (by have:=hso 2;omega) (hdl 2) (hda 2)) ?_;simp -implicitDefEqProofs (disch:=omega) only[go_sem];exact QB (ME ha hg h)
   have WG:=h
   with_reducible refine aA (fun hb=> ?_) (fun hb=> ?_)<;>have h:=hb<;>(try simp only[wf_preprocess] at h)<;>simp -implicitDefEqProofs (disch:=omega) only[go_sem,hb,l0,l1,l2]<;>(repeat(with_reducible refine And.intro ?_ ?_;focus first|omega|rfl|assumption|exact⟨_,rfl,rfl⟩|(simp;omega)|(simp;done)))
   ·refine ay (vo (x.aj.getD 1 eu) (zI x 1 hsz)) ?_;simp -implicitDefEqProofs (disch:=omega) only[go_sem];refine ay (ru _ _) ?_;rw[hm2];simp -implicitDefEqProofs (disch:=omega) only[go_sem];refine⟨⟨by omega,by omega,by omega,hr⟩,?_⟩;rw[hd];refine ay (mF (x.aj.drop 2) (by have:=hso 2;omega) (hdl 2) (hda 2)) ?_;simp -implicitDefEqProofs (disch:=omega) only[go_sem];exact se2 (Qw ha hg h)
   have nThe:=h
   with_reducible refine aA (fun hb=> ?_) (fun hb=> ?_)<;>have h:=hb<;>(try simp only[wf_preprocess] at h)<;>simp -implicitDefEqProofs (disch:=omega) only[go_sem,hb,l0,l1,l2]<;>(repeat(with_reducible refine And.intro ?_ ?_;focus first|omega|rfl|assumption|exact⟨_,rfl,rfl⟩|(simp;omega)|(simp;done)))
   ·have hpos:0<x.aj.length:=by
     rcases Nat.eq_zero_or_pos x.aj.length with e|e
     ·rw[BD (by omega)] at h;cases h
     ·exact e
    have hdec:=MF ha hg h;refine ay (ru _ _) ?_;rw[hm2];simp -implicitDefEqProofs (disch:=omega) only[go_sem];refine⟨⟨by omega,by omega,hr⟩,?_⟩;rw[aeP];refine ay (mF ((x.aj.drop 1).take 1) (by have:=hso 1;have:=AX 1 (x.aj.drop 1);omega) (by rw[List.length_take];omega) (fun t ht=>hda 1 t (List.mem_of_mem_take ht))) ?_;simp -implicitDefEqProofs (disch:=omega) only[go_sem];obtain⟨uM,WH⟩:∃uM,uM=((x.aj.drop 1).take 1).map (dI false):=⟨_,rfl⟩;obtain⟨T,hT⟩:∃T:Nat->List (List D),T=fun k=>(((x.aj.drop 2).map (mZ false)).take k).map aJ.enc:=⟨_,rfl⟩
    have hT0:T 0=[]:=by rw[hT];rfl
    have nN:∀k,(T k).length<=k:=fun k=>by rw[hT];simp only[List.length_map];exact List.length_take_le _ _
    have hTs:∀k (hk:k+2<x.aj.length),T k++[(mZ false x.aj[k+2]).enc]=T (k+1):=fun k hk=>by
     have:=Zu (l:=(x.aj.drop 2).map (mZ false)) (i:=k) (by rw[List.length_map,List.length_drop];omega);rw[List.getElem_map,List.getElem_drop] at this;rw[hT];simp only[Nat.add_comm 2 k] at this ⊢;exact this
    have hTe:T (x.aj.length-2)=((x.aj.drop 2).map (mZ false)).map aJ.enc:=by
     rw[hT];simp only
     rw[List.take_of_length_le (by simp)]
    clear hT;rw[<-WH] at hdec ⊢;refine Aj 3 8 11 _ rfl rfl ?_
    refine bC (ι:=Nat) zmx rfl [1,2,6,8,9] (fun k=>[.c (.ptr (0,0) 0),.c (.ptr (0,1) 0),.c (.d (.i .i64 x.aj.length)),.c (.ptr (0,3) 0),.c (.d (.i .i64 ((k+2:Nat):Int)))])
     (fun k=>[.box [.d (.s x.aM),.d (.sl (x.aj.map ah.enc))],.box [.d (.i .i64 0),.d (.s []),.d (.s []),.d (.i .i64 0),.d (.i .i64 0),.d (.s []),.bE [],.bE [],.bE []],.tok 2 (x.aj.map ah.enc++[[.s [],.sl []],[.s [],.sl []],[.s [],.sl []]]),
       .box [.d (.i .i64 7),.d (.s []),.d (.s []),.d (.i .i64 0),.d (.i .i64 0),.d (.s []),.bE [],.d (.sl (uM.map au.enc)),.bL (0,4) (T k)],.tok 11 (T k)]::S)
     (fun k=>k<=x.aj.length-2) (fun k=>x.aj.length-(k+2)) 0 rfl (by rw[hT0];rfl) (Nat.zero_le _) ?_
    intro k hk;have hlk:=nN k;clear l0 l1 l2;simp -implicitDefEqProofs (disch:=omega) only[go_sem]
    with_reducible refine aA (fun hb=> ?_) (fun hb=> ?_)<;>have h:=hb<;>(try simp only[wf_preprocess] at h)<;>simp -implicitDefEqProofs (disch:=omega) only[go_sem,hb]<;>(repeat(with_reducible refine And.intro ?_ ?_;focus first|omega|rfl|assumption|exact⟨_,rfl,rfl⟩|(simp;omega)|(simp;done)))
    ·have hk':k+2<x.aj.length:=by omega
     have hm:=List.getElem_mem hk';have hs:=hTs k hk';simp only[aJ.aB,au.aB,ak.aB,List.cons_append,List.nil_append] at hs
     (repeat(with_reducible refine And.intro ?_ ?_;focus first|omega|rfl|assumption|exact⟨_,rfl,rfl⟩|(simp;omega)|(simp;done)))
     refine ay (ihM x.aj[k+2] (by have:=List.sizeOf_lt_of_mem hm;omega) (hall _ hm)) ?_;simp -implicitDefEqProofs (disch:=omega) only[go_sem]
     (repeat(with_reducible refine And.intro ?_ ?_;focus first|omega|rfl|assumption|exact⟨_,rfl,rfl⟩|(simp;omega)|(simp;done)))
     rw[hs];exact cO (k+1) (by omega) rfl rfl (by omega)
    ·have hk':k=x.aj.length-2:=by omega
     subst hk';rw[hTe];exact se3 hdec
   have WI:=h;refine ay (ru _ _) ?_;rw[hm1];simp -implicitDefEqProofs (disch:=omega) only[go_sem];refine⟨⟨by omega,by omega,by omega,hr⟩,?_⟩;rw[hd];refine ay (mF (x.aj.drop 1) (by have:=hso 1;omega) (hdl 1) (hda 1)) ?_;simp -implicitDefEqProofs (disch:=omega) only[go_sem];exact QB (MG ha hg WE nNew acu WG FE nIf nThe WI)
  ·have yE:=fun(i:Nat) (hi:i<xs.length)=>Zt (l:=xs.map (dI false)) (i:=i) (by rw[List.length_map];exact hi);refine zcx [.tmp 2] func143 ntmps143 ?_;simp -implicitDefEqProofs (disch:=omega) only[go_sem]
   (repeat(with_reducible refine And.intro ?_ ?_;focus first|omega|rfl|assumption|exact⟨_,rfl,rfl⟩|(simp;omega)|(simp;done)))
   refine uR 3 9 [] rfl (by simp) ?_
   refine bC (ι:=Nat) zmx rfl [0,3,4] (fun i=>[.c (.d (.sl (xs.map ah.enc))),.c (.bL (0,0) (((xs.map (dI false)).take i).map au.enc)),.c (.d (.i .i64 i))]) (fun i=>[.tok 9 (((xs.map (dI false)).take i).map au.enc)]::S)
    (fun i=>i<=xs.length) (fun i=>xs.length-i) 0 rfl rfl (Nat.zero_le _) ?_
   intro i hi
   have hl:(((xs.map (dI false)).take i).map au.enc).length<=i:=by rw[List.length_map];exact List.length_take_le _ _
   simp -implicitDefEqProofs (disch:=omega) only[go_sem]
   with_reducible refine aA (fun hb=> ?_) (fun hb=> ?_)<;>have h:=hb<;>(try simp only[wf_preprocess] at h)<;>simp -implicitDefEqProofs (disch:=omega) only[go_sem,hb]<;>(repeat(with_reducible refine And.intro ?_ ?_;focus first|omega|rfl|assumption|exact⟨_,rfl,rfl⟩|(simp;omega)|(simp;done)))
   ·have hi':i<xs.length:=by omega
    have hs:=yE i hi';rw[List.getElem_map] at hs;simp only[au.aB,ak.aB,List.cons_append,List.nil_append] at hs
    (repeat(with_reducible refine And.intro ?_ ?_;focus first|omega|rfl|assumption|exact⟨_,rfl,rfl⟩|(simp;omega)|(simp;done)))
    refine ay (ih xs[i] (by have:=List.sizeOf_lt_of_mem (List.getElem_mem hi');omega) (hsz _ (List.getElem_mem hi'))) ?_;simp -implicitDefEqProofs (disch:=omega) only[go_sem]
    (repeat(with_reducible refine And.intro ?_ ?_;focus first|omega|rfl|assumption|exact⟨_,rfl,rfl⟩|(simp;omega)|(simp;done)))
    rw[hs];exact cO (i+1) (by omega) rfl rfl (by omega)
   ·have hi':i=(xs.map (dI false)).length:=by rw[List.length_map];omega
    rw[hi',List.take_length]
  ·have jl:=ah.ow x;have h1:=gP x
   have hall:∀t∈x.aj,t.sz<=4194304:=fun t ht=>by have:=jq ht;omega
   have hr:=jN (l:=x.aj);refine zcx [.cell 2 124] func145 ntmps145 ?_;simp -implicitDefEqProofs (disch:=omega) only[go_sem]
   with_reducible refine aA (fun hb=> ?_) (fun hb=> ?_)<;>have h:=hb<;>(try simp only[wf_preprocess] at h)<;>simp -implicitDefEqProofs (disch:=omega) only[go_sem,hb]<;>(repeat(with_reducible refine And.intro ?_ ?_;focus first|omega|rfl|assumption|exact⟨_,rfl,rfl⟩|(simp;omega)|(simp;done)))
   ·rw[TG false x (by omega)];exact(dW.cons (.refl _) (.cons (gG _) (.cons (.refl _) (.cons (.refl _) (.cons (.refl _) (.cons (.refl _) (.cons (.refl _) (.cons (.refl _) (.cons (gG _) (.cons (gG _) (.cons (gG _) .nil))))))))))).less
   have hl2:2<=x.aj.length:=by omega
   have a0:=kS (l:=x.aj) (i:=0) (by omega);have hm:=List.getElem_mem (l:=x.aj) (n:=x.aj.length-1) (by omega);rw[TF false x hl2,a0];refine⟨⟨by omega,by omega,hr⟩,?_⟩;rw[MJ _ hl2];refine ay (EI ((x.aj.drop 1).dropLast) (by rw[List.length_dropLast,List.length_drop];omega)) ?_;simp -implicitDefEqProofs (disch:=omega) only[go_sem]
   (repeat(with_reducible refine And.intro ?_ ?_;focus first|omega|rfl|assumption|exact⟨_,rfl,rfl⟩|(simp;omega)|(simp;done)))
   have el:((x.aj.length:Int)-1).toNat=x.aj.length-1:=by omega
   simp only[el];refine ay (ih (x.aj[x.aj.length-1]) (by have:=List.sizeOf_lt_of_mem hm;omega) (hall _ hm)) ?_;simp -implicitDefEqProofs (disch:=omega) only[go_sem];exact jm _
theorem Sy(x:ah)(hsz:x.sz<=4194304):aG prog 67 [x.v] (dI false x).v:=(EK _).1 x (Nat.lt_succ_self _) hsz
end Go.Ab