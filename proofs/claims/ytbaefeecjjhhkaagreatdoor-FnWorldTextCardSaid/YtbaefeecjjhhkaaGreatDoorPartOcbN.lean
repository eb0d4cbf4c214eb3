/-
  SEVERAL TEXTS IN ONE (merged by program): contracts and models, each with its own heading.
-/
import Derived.Test.YtbaefeecjjhhkaaGreatDoorPartOcbM
import Derived.Lib.Atoi
import Derived.Shelf.Strconv.Atoi
import Derived.Shelf.LaysC
import Derived.Shelf.Strconv.AtoiErr
import Derived.Shelf.Strconv.ErrVar
import Derived.Lib.AppendIntMem
import Derived.Lib.AtoiBound
set_option maxHeartbeats 8000000
open Go.Proofs Go.Proofs.Tryz
set_option linter.unusedSimpArgs false
set_option linter.unusedVariables false
set_option maxRecDepth 4000
namespace Go.Ab
section
variable {P:Program} {w w':World} {σ σ':Nat->Nat} {S:Store} {β:Hs}
end
section
variable {P:Program} {w w':World} {σ σ':Nat->Nat} {β:Hs}
theorem alI{own:List Obj}{Ω:Store}(lab:Option Nat)(j i aW:Nat)(es:List (List D))(cs:List C)(hj:own[j]? =some (.box cs))(hi:cs[i]? =some (match lab with|some n=>.lZ n es|none=>.bn es))(hes:∀e∈es,e.length=aW)(hS:fH w σ (own::Ω) β):
 ∃β',fH w σ ((own.set j (.box (cs.set i (.bB (0,own.length) es)))++[jP lab aW es])::Ω) β'/\Step (own::Ω) β σ w ((own.set j (.box (cs.set i (.bB (0,own.length) es)))++[jP lab aW es])::Ω) β' σ w/\Keep (own::Ω) β ((own.set j (.box (cs.set i (.bB (0,own.length) es)))++[jP lab aW es])::Ω) β':=by
 cases β with
 |nil=>have:=hS.shape.1;simp at this
 |cons bo bΩ=>
 have hlen:bo.length=own.length:=by
  obtain⟨gr,g1,g2⟩:=hS.shape.2 0 own rfl;simp at g1;rw[g1];exact g2
 have hjl:=(List.getElem?_eq_some_iff.1 hj).1
 have hg0:bA (own::Ω) (0,j)=some (.box cs):=by rw[bR];exact hj
 obtain⟨hb,Mi,hr⟩:=hS.obj (0,j) _ hg0;obtain⟨b,cv,ty,rfl,hbc,hσ,hcs⟩:=hr;have hcs:gL w σ (own::Ω) (bo::bΩ) cs cv.toList:=hcs;obtain⟨v,hv,hc0,hone⟩:=hcs.2 i _ hi
 have hx:∃ad:Option Addr,dJ w σ (.sl es) v/\v=.slice ad es.length es.length/\∀n,lab=some n->dJ w σ (.ol n es) v:=by
  cases lab with
  |none=>
   obtain⟨hd,ad,n,hval⟩:=hc0
   have hn:n=es.length:=by rw[hval] at hd;cases hd<;>rfl
   exact⟨ad,hd,by rw[hval,hn],fun n e=>by cases e⟩
  |some n=>
   obtain⟨hd,ad,m,hval⟩:=hc0
   have hn:m=es.length:=by
    have:=tK hd;rw[hval] at this;cases this<;>rfl
   exact⟨ad,tK hd,by rw[hval,hn],fun n' e=>by cases e;exact hd⟩
 obtain⟨ad,hd,hval,hol⟩:=hx;have hg:Grow w σ w σ:=Grow.refl hS.live
 obtain⟨hS',hk,hst⟩:=hS.push (o:=jP lab aW es) (h:=v) hg hlen (by
  cases lab with
  |none=>exact⟨hd,hes,ad,es.length,hval,Nat.le_refl _,.inl rfl⟩
  |some n=>exact⟨hd,hes,ad,es.length,hval,Nat.le_refl _,.inl ⟨rfl,hol n rfl⟩⟩) (fun b hb=>by
  rw[hval] at hb
  cases lab<;>cases ad<;>simp[jP,owns,blk] at hb)
 have hk1:bA ((own++[jP lab aW es])::Ω) (0,j)=some (.box cs):=kN _ _ _ _ _ hg0;have Jj:bA ((bo++[v])::bΩ) (0,j)=some (.pointer (some ⟨b,0,none⟩)):=kN _ _ _ _ _ Mi;have hko:nD (.box cs) (some (Value.pointer (some ⟨b,0,none⟩))) (.box (cs.set i (.bB (0,own.length) es))) (some (Value.pointer (some ⟨b,0,none⟩))):=.inr ⟨⟨_,rfl⟩,rfl⟩
 have hK:Keep ((own++[jP lab aW es])::Ω) ((bo++[v])::bΩ) (bJ ((own++[jP lab aW es])::Ω) (0,j) (.box (cs.set i (.bB (0,own.length) es)))) (bJ ((bo++[v])::bΩ) (0,j) (.pointer (some ⟨b,0,none⟩))):=by
  intro k1 o1 e1;by_cases e:k1=(0,j)
  ·subst e;rw[hk1] at e1;cases e1;exact⟨_,eO _ _ _ _ hk1,by rw[Jj,eO _ _ _ _ Jj];exact hko⟩
  ·exact⟨o1,(fI _ _ _ _ (Ne.symm e)).trans e1,by rw[fI _ _ _ _ (Ne.symm e)];exact .refl _ _⟩
 have hne:(0,own.length)≠(0,j):=fun e=>by injection e with _ e;omega
 obtain⟨hS2,hk2,xI⟩:=hS'.set (w':=w) (σ':=σ) (o':=.box (cs.set i (.bB (0,own.length) es))) (h':=.pointer (some ⟨b,0,none⟩)) hk1 Jj (Nat.le_refl _) rfl rfl (eG.refl _ _) hS'.live (fun _ _ _=>⟨rfl,rfl⟩) hko
  ⟨b,cv,ty,rfl,hbc,hσ,by
    refine⟨by rw[List.length_set];exact hcs.1,fun m x hm=> ?_⟩;rw[List.getElem?_set] at hm;by_cases e:i=m
    ·subst e;rw[if_pos rfl] at hm;split at hm
     ·cases hm;refine⟨v,hv,⟨hd,jP lab aW es,?_,fun a1 b1 e1=> ?_⟩,hone⟩
      ·show bA (bJ _ (0,j) _) (0,own.length)=_;rw[fI _ _ _ _ (Ne.symm hne),dx]
      ·obtain⟨_,rfl⟩:=oL e1;refine⟨Nat.le_refl _,fun _=> ?_⟩;show bA (bJ _ (0,j) _) (0,own.length)=_;rw[fI _ _ _ _ (Ne.symm hne),<-hlen,dx]
     ·cases hm
    ·rw[if_neg e] at hm;obtain⟨u,hu,hc,ho⟩:=hcs.2 m x hm
     exact⟨u,hu,(hc.mono (eG.refl _ _) hk).mono (eG.refl _ _) hK,ho⟩⟩ (fun _ e=>.inl e)
 have est:bJ ((own++[jP lab aW es])::Ω) (0,j) (.box (cs.set i (.bB (0,own.length) es)))=(own.set j (.box (cs.set i (.bB (0,own.length) es)))++[jP lab aW es])::Ω:=by
  rw[bJ,List.set_append_left _ _ hjl]
 rw[est] at hS2 hk2 xI;exact⟨_,hS2,hst.trans xI,hk.trans hk2⟩
end
section
variable {P:Program} {w w':World} {σ σ':Nat->Nat} {β:Hs} {N:Nat}
def oI(x y:C):Prop:=∀w σ S β v,lC w σ S β x v->lC w σ S β y v
theorem oI.refl(x:C):oI x x:=fun _ _ _ _ _ h=>h
theorem KM(n:Nat):oI (.bn []) (.lZ n []):=fun w σ S β v h=>by
 obtain⟨hd,a,m,hv⟩:=h
 have hm:m=0:=by rw[hv] at hd;cases hd<;>rfl
 subst hm;exact⟨by rw[hv];exact .x9 _ _ _,a,0,hv⟩
theorem dR(n:Nat):oI (.bn []) (.d (.ol n [])):=fun w σ S β v h=>(KM n w σ S β v h).1
theorem eT(es:List (List D)):oI (.bn es) (.d (.sl es)):=fun w σ S β v h=>h.1
theorem GZ(n:Nat)(es:List (List D)):oI (.d (.ol n es)) (.d (.sl es)):=fun w σ S β v h=>tK h
inductive fE:List C->List C->Prop
 |nil:fE [] []
 |cons {x y:C} {xs ys:List C}:oI x y->fE xs ys->fE (x::xs) (y::ys)
theorem fE.refl:∀xs,fE xs xs
 |[]=>.nil
 |x::xs=>.cons (.refl x) (fE.refl xs)
theorem fE.length:∀{xs ys:List C},fE xs ys->xs.length=ys.length
 |_,_,.nil=>rfl
 |_,_,.cons _ h=>by rw[List.length_cons,List.length_cons,fE.length h]
theorem fE.at:∀{xs ys:List C},fE xs ys->∀(j:Nat)(x y:C),xs[j]? =some x->ys[j]? =some y->oI x y
 |_,_,.nil,j,x,y,h,_=>by simp at h
 |_,_,.cons a h,0,x,y,h1,h2=>by simp at h1 h2;subst h1;subst h2;exact a
 |_,_,.cons a h,j+1,x,y,h1,h2=>fE.at h j x y (by simpa using h1) (by simpa using h2)
theorem fE.less{xs ys:List C}(h:fE xs ys):Less (.agg xs) (.agg ys):=by
 rintro w σ S β v ⟨a,ha,hc⟩;refine⟨a,ha,h.length.symm.trans hc.1,fun j y hy=> ?_⟩
 have hj:j<xs.length:=by rw[h.length];exact(List.getElem?_eq_some_iff.1 hy).1
 obtain⟨v,h1,h2,h3⟩:=hc.2 j _ (List.getElem?_eq_getElem hj);exact⟨v,h1,h.at j _ y (List.getElem?_eq_getElem hj) hy w σ S β v h2,h3⟩
theorem fE.anI{xs ys:List C}(h:fE xs ys){w:World}{σ:Nat->Nat}{S:Store}{β:Hs}{vs:List Value}(hc:gL w σ S β xs vs):gL w σ S β ys vs:=by
 refine⟨h.length.symm.trans hc.1,fun j y hy=> ?_⟩
 have hj:j<xs.length:=by rw[h.length];exact(List.getElem?_eq_some_iff.1 hy).1
 obtain⟨v,h1,h2,h3⟩:=hc.2 j _ (List.getElem?_eq_getElem hj);exact⟨v,h1,h.at j _ y (List.getElem?_eq_getElem hj) hy w σ S β v h2,h3⟩
theorem ai8{own:List Obj}{Ω:Store}(j:Nat)(cs cs':List C)(hj:own[j]? =some (.box cs))(hle:fE cs cs')(hS:fH w σ (own::Ω) β):
 ∃β',fH w σ ((own.set j (.box cs'))::Ω) β'/\Step (own::Ω) β σ w ((own.set j (.box cs'))::Ω) β' σ w/\Keep (own::Ω) β ((own.set j (.box cs'))::Ω) β'/\iq β'=iq β/\β'.length=β.length:=by
 cases β with
 |nil=>have:=hS.shape.1;simp at this
 |cons bo bΩ=>
 have hg0:bA (own::Ω) (0,j)=some (.box cs):=by rw[bR];exact hj
 obtain⟨hb,Mi,hr⟩:=hS.obj (0,j) _ hg0;obtain⟨b,cv,ty,rfl,hbc,hσ,hcs⟩:=hr;have hcs:gL w σ (own::Ω) (bo::bΩ) cs cv.toList:=hcs;have hko:nD (.box cs) (some (Value.pointer (some ⟨b,0,none⟩))) (.box cs') (some (Value.pointer (some ⟨b,0,none⟩))):=.inr ⟨⟨_,rfl⟩,rfl⟩
 have hK:Keep (own::Ω) (bo::bΩ) (bJ (own::Ω) (0,j) (.box cs')) (bJ (bo::bΩ) (0,j) (.pointer (some ⟨b,0,none⟩))):=by
  intro k1 o1 e1;by_cases e:k1=(0,j)
  ·subst e;rw[hg0] at e1;cases e1;exact⟨_,eO _ _ _ _ hg0,by rw[Mi,eO _ _ _ _ Mi];exact hko⟩
  ·exact⟨o1,(fI _ _ _ _ (Ne.symm e)).trans e1,by rw[fI _ _ _ _ (Ne.symm e)];exact .refl _ _⟩
 obtain⟨hS2,hk2,xI⟩:=hS.set (w':=w) (σ':=σ) (o':=.box cs') (h':=.pointer (some ⟨b,0,none⟩)) hg0 Mi (Nat.le_refl _) rfl rfl (eG.refl _ _) hS.live (fun _ _ _=>⟨rfl,rfl⟩) hko
  ⟨b,cv,ty,rfl,hbc,hσ,by
    have h1:=hle.anI hcs;refine⟨h1.1,fun m x hm=> ?_⟩;obtain⟨u,hu,hc,ho⟩:=h1.2 m x hm
    exact⟨u,hu,hc.mono (eG.refl _ _) hK,ho⟩⟩ (fun _ e=>.inl e)
 have est:bJ (own::Ω) (0,j) (.box cs')=(own.set j (.box cs'))::Ω:=rfl;rw[est] at hS2 hk2 xI;exact⟨_,hS2,xI,hk2,rfl,by simp[bJ]⟩
theorem Us{tm:List (Nat×V)}{own:List Obj}{Ω:Store}(j:Nat)(cs cs':List C)(hj:own[j]? =some (.box cs))(hle:fE cs cs'):gU N ⟨tm,own::Ω⟩ ⟨tm,(own.set j (.box cs'))::Ω⟩:=by
 intro a w σ β hR;obtain⟨β',hS,hst,hk,ht,_⟩:=ai8 j cs cs' hj hle hR.S;refine⟨σ,β',⟨hR.size,hR.defers,hS,fun u=>(hR.T u).mono (eG.refl _ _) hk⟩,hst,?_⟩;rw[ht];exact Keep.refl _ _
theorem KN{tm:List (Nat×V)}{own:List Obj}{Ω:Store}(lab:Option Nat)(j i aW:Nat)(es:List (List D))(cs:List C)(hj:own[j]? =some (.box cs))(hi:cs[i]? =some (match lab with|some n=>.lZ n es|none=>.bn es))(hes:∀e∈es,e.length=aW):
 gU N ⟨tm,own::Ω⟩ ⟨tm,(own.set j (.box (cs.set i (.bB (0,own.length) es)))++[jP lab aW es])::Ω⟩:=by
 intro a w σ β hR;obtain⟨β',hS,hst,hk⟩:=alI lab j i aW es cs hj hi hes hR.S;refine⟨σ,β',⟨hR.size,hR.defers,hS,fun u=>(hR.T u).mono (eG.refl _ _) hk⟩,hst,?_⟩;intro k o hko
 obtain⟨o',h1,h2⟩:=hk (k.1+1,k.2) o (by
  obtain⟨l,i⟩:=k;show bA (own::Ω) (l+1,i)=_
  rw[dA];exact hko)
 obtain⟨bo,bΩ,rfl,_⟩:=frames hR;have h3:=hS.shape.1
 cases β' with
 |nil=>simp at h3
 |cons bo' bΩ'=>
  rw[dA] at h1;rw[dA,dA] at h2;exact⟨o',h1,h2⟩
theorem I5{c:Code}{Q:Exit->St->Prop}{tm:List (Nat×V)}{own:List Obj}{Ω:Store}(j:Nat)(cs cs':List C)(hj:own[j]? =some (.box cs))(hle:fE cs cs')(h:AW P N c Q ⟨tm,(own.set j (.box cs'))::Ω⟩):AW P N c Q ⟨tm,own::Ω⟩:=ni h (Us j cs cs' hj hle)
theorem Fx{x y:C}(hle:oI x y):∀(i:Nat)(cs:List C),cs[i]? =some x->fE cs (cs.set i y)
 |0,[],h=>by simp at h
 |0,z::cs,h=>by simp at h;subst h;exact .cons hle (.refl cs)
 |i+1,[],h=>by simp at h
 |i+1,z::cs,h=>.cons (.refl z) (Fx hle i cs (by simpa using h))
theorem nS{c:Code}{Q:Exit->St->Prop}{tm:List (Nat×V)}{own:List Obj}{Ω:Store}(n j i aW:Nat)(cs:List C)(hj:own[j]? =some (.box cs))(hi:cs[i]? =some (.bn []))
 (h:AW P N c Q ⟨tm,(own.set j (.box (cs.set i (.bB (0,own.length) [])))++[.eu n aW []])::Ω⟩):AW P N c Q ⟨tm,own::Ω⟩:=by
 have hjl:=(List.getElem?_eq_some_iff.1 hj).1;have hil:=(List.getElem?_eq_some_iff.1 hi).1;refine I5 j cs (cs.set i (.lZ n [])) hj (Fx (KM n) i cs hi) ?_;refine ni ?_ (KN (some n) j i aW [] (cs.set i (.lZ n [])) (by rw[List.getElem?_set_self hjl]) (by rw[List.getElem?_set_self hil]) (by simp));rw[List.set_set,List.set_set,List.length_set];exact h
theorem ow{c:Code}{Q:Exit->St->Prop}{tm:List (Nat×V)}{own:List Obj}{Ω:Store}(j i aW:Nat)(cs:List C)(hj:own[j]? =some (.box cs))(hi:cs[i]? =some (.bn []))
 (h:AW P N c Q ⟨tm,(own.set j (.box (cs.set i (.bB (0,own.length) [])))++[.tok aW []])::Ω⟩):AW P N c Q ⟨tm,own::Ω⟩:=
 ni h (KN none j i aW [] cs hj hi (by simp))
def KO(x y:D):Prop:=∀w σ v,dJ w σ x v->dJ w σ y v
theorem KO.refl(x:D):KO x x:=fun _ _ _ h=>h
theorem aak(d:D)(n:Nat):KO (tZ d n) d:=fun w σ v h=>aiT d n v h
inductive nG:List D->List D->Prop
 |nil:nG [] []
 |cons {x y:D} {xs ys:List D}:KO x y->nG xs ys->nG (x::xs) (y::ys)
theorem nG.refl:∀r,nG r r
 |[]=>.nil
 |x::xs=>.cons (.refl x) (nG.refl xs)
theorem nG.length:∀{r r':List D},nG r r'->r.length=r'.length
 |_,_,.nil=>rfl
 |_,_,.cons _ h=>by rw[List.length_cons,List.length_cons,h.length]
theorem nG.at:∀{r r':List D},nG r r'->∀(j:Nat)(y:D),r'[j]? =some y->∃x,r[j]? =some x/\KO x y
 |_,_,.nil,j,y,h=>by simp at h
 |_,_,.cons a h,0,y,h2=>by simp at h2;subst h2;exact⟨_,rfl,a⟩
 |_,_,.cons a h,j+1,y,h2=>h.at j y (by simpa using h2)
theorem Tf:∀(r:List D)(n:Nat),nG (fQ r n) r
 |[],n=>.nil
 |d::ds,n=>.cons (aak d n) (Tf ds _)
theorem nG.append:∀{a a' b b':List D},nG a a'->nG b b'->nG (a++b) (a'++b')
 |_,_,_,_,.nil,h=>h
 |_,_,_,_,.cons x h,k=>.cons x (h.append k)
inductive iM:List (List D)->List (List D)->Prop
 |nil:iM [] []
 |cons {x y:List D} {xs ys:List (List D)}:nG x y->iM xs ys->iM (x::xs) (y::ys)
theorem iM.length:∀{r r':List (List D)},iM r r'->r.length=r'.length
 |_,_,.nil=>rfl
 |_,_,.cons _ h=>by rw[List.length_cons,List.length_cons,h.length]
theorem iM.snoc:∀{a b:List (List D)}{x y:List D},iM a b->nG x y->iM (a++[x]) (b++[y])
 |_,_,_,_,.nil,h=>.cons h .nil
 |_,_,_,_,.cons z h,k=>.cons z (h.snoc k)
theorem iM.rows{z:Nat}:∀{a b:List (List D)},iM a b->(∀r∈b,r.length=z)->∀r∈a,r.length=z
 |_,_,.nil,h,r,hr=>by cases hr
 |_,_,.cons x h,k,r,hr=>by
  rcases List.mem_cons.1 hr with rfl|hr
  ·rw[x.length];exact k _ (by simp)
  ·exact h.rows (fun r hr=>k r (by simp[hr])) r hr
theorem iM.flat:∀{a b:List (List D)},iM a b->nG a.flatten b.flatten
 |_,_,.nil=>.nil
 |_,_,.cons x h=>by rw[List.flatten_cons,List.flatten_cons];exact x.append h.flat
theorem iM.rep{a b:List (List D)}(h:iM a b){w:World}{σ:Nat->Nat}{v:Value}(hr:dJ w σ (.sl a) v):dJ w σ (.sl b) v:=by
 cases hr with
 |nil ad cap=>
  cases h;exact .nil ad cap
 |sl b0 off cap aW es vals c t fz hcap hlen hb hσ hc hv=>
  have hl:=h.length;rw[hl] at hcap hσ hc ⊢
  have hlb:∀e∈b,e.length=aW:=fun e he=>by
   obtain⟨i,hi,rfl⟩:=List.getElem_of_mem he
   have:∀{a b:List (List D)}(h:iM a b)(i:Nat)(hi:i<b.length)(hi':i<a.length),nG a[i] b[i]:=by
    intro a b h
    induction h with
    |nil=>intro i hi;simp at hi
    |cons x h ih=>intro i hi hi';cases i with
     |zero=>exact x
     |succ i=>exact ih i (by simpa using hi) (by simpa using hi')
   have h1:=this h i hi (by omega);rw[<-h1.length];exact hlen _ (List.getElem_mem _)
  refine .sl b0 off cap aW b vals c t fz hcap hlb hb hσ hc fun j d hd=> ?_;obtain⟨x,hx,hle⟩:=h.flat.at j d hd;exact hle w σ _ (hv j x hx)
theorem pO:∀(r:List (List D))(n:Nat),iM (dX r n) r
 |[],n=>.nil
 |d::ds,n=>.cons (Tf d n) (pO ds _)
inductive ig:List (Bool×List C)->List (Bool×List C)->Prop
 |nil:ig [] []
 |cons {b:Bool} {cs cs':List C} {xs ys:List (Bool×List C)}:fE cs cs'->ig xs ys->ig ((b,cs)::xs) ((b,cs')::ys)
theorem ig.refl:∀xs,ig xs xs
 |[]=>.nil
 |(b,cs)::xs=>.cons (.refl cs) (ig.refl xs)
theorem ig.length:∀{xs ys:List (Bool×List C)},ig xs ys->xs.length=ys.length
 |_,_,.nil=>rfl
 |_,_,.cons _ h=>by rw[List.length_cons,List.length_cons,h.length]
theorem ig.at:∀{xs ys:List (Bool×List C)},ig xs ys->∀(j:Nat)(y:Bool×List C),ys[j]? =some y->∃cs,xs[j]? =some (y.1,cs)/\fE cs y.2
 |_,_,.nil,j,y,h=>by simp at h
 |_,_,.cons a h,0,y,h2=>by simp at h2;subst h2;exact⟨_,rfl,a⟩
 |_,_,.cons a h,j+1,y,h2=>h.at j y (by simpa using h2)
theorem ig.less{xs ys:List (Bool×List C)}(h:ig xs ys):Less (.dN xs) (.dN ys):=by
 rintro w σ S β v ⟨a,ha,hl,hc⟩;refine⟨a,ha,h.length.symm.trans hl,fun j y hy=> ?_⟩;obtain⟨cs,h1,h2⟩:=h.at j y hy;obtain⟨u,hu,hr⟩:=hc j _ h1;refine⟨u,hu,?_⟩;obtain⟨b,cs'⟩:=y
 cases b with
 |true=>
  obtain⟨a',e,hcs⟩:=hr;exact⟨a',e,h2.anI hcs⟩
 |false=>
  obtain⟨x,e,hx,ho⟩:=hr;simp only at e h2;subst e
  cases h2 with
  |cons hxy hn=>
   cases hn;exact⟨_,rfl,hxy w σ S β u hx,ho⟩
theorem aC.of_le{f:FuncId}{args:List V}{t:V}(h:∀S,dw P f args S fun r S'=>Less r t/\S'=S):aC P f args t:=fun S=>
 ⟨(h S).1,fun w σ β vs hS hv=>((h S).2 w σ β vs hS hv).mono fun e w' ⟨v,r,S',σ',β',h1,h2,h3,h4,h5,h6,h7⟩=>⟨v,t,S',σ',β',h1,h2,h3,h4,h6 _ _ _ _ _ h5,rfl,h7⟩⟩
theorem Tg{cs cs':List C}{xs:List (Bool×List C)}(h:∀w σ S β vs,gL w σ S β cs vs->gL w σ S β cs' vs):Less (.dN ((true,cs)::xs)) (.dN ((true,cs')::xs)):=by
 rintro w σ S β v ⟨a,ha,hl,hc⟩;obtain⟨u,hu,a',rfl,hcs⟩:=hc 0 _ rfl;refine⟨a,ha,hl,fun j y hy=> ?_⟩
 cases j with
 |zero=>
  simp at hy;subst hy;exact⟨_,hu,a',rfl,h _ _ _ _ _ hcs⟩
 |succ j=>exact hc (j+1) y (by simpa using hy)
theorem gu(v:V):Less v v:=fun _ _ _ _ _ h=>h
end
theorem oh(n:Nat):KO (.sl []) (.ol n []):=fun w σ v h=>by
 cases h with
 |nil a cap=>exact .x9 n a cap
 |sl b off cap aW es vals c t fz hcap hlen hb hσ hc hv=>exact .x9 n _ _
theorem KO.trans{a b c:D}(h:KO a b)(k:KO b c):KO a c:=fun w σ v x=>k w σ v (h w σ v x)
theorem nG.trans:∀{a b c:List D},nG a b->nG b c->nG a c
 |_,_,_,.nil,.nil=>.nil
 |_,_,_,.cons x h,.cons y k=>.cons (x.trans y) (h.trans k)
theorem iM.trans:∀{a b c:List (List D)},iM a b->iM b c->iM a c
 |_,_,_,.nil,.nil=>.nil
 |_,_,_,.cons x h,.cons y k=>.cons (x.trans y) (h.trans k)
theorem iM.at{a b:List (List D)}(h:iM a b):∀(i:Nat)(hi:i<b.length)(hi':i<a.length),nG a[i] b[i]:=by
 induction h with
 |nil=>intro i hi;simp at hi
 |cons x h ih=>intro i hi hi';cases i with
  |zero=>exact x
  |succ i=>exact ih i (by simpa using hi) (by simpa using hi')
theorem iM.anJ{a b:List (List D)}(h:iM a b){n:Nat}{w:World}{σ:Nat->Nat}{v:Value}(hr:dJ w σ (.ol n a) v):dJ w σ (.ol n b) v:=by
 cases hr with
 |x9 _ ad cap=>
  cases h;exact .x9 n ad cap
 |ol _ b0 off cap aW es vals c t hcap hlen hb hσ hfit hc hv=>
  have hl:=h.length;rw[hl] at hcap hfit hc ⊢
  have hlb:∀e∈b,e.length=aW:=fun e he=>by
   obtain⟨i,hi,rfl⟩:=List.getElem_of_mem he;have h1:=h.at i hi (by omega);rw[<-h1.length];exact hlen _ (List.getElem_mem _)
  refine .ol n b0 off cap aW b vals c t hcap hlb hb hσ hfit hc fun j d hd=> ?_;obtain⟨x,hx,hle⟩:=h.flat.at j d hd;exact hle w σ _ (hv j x hx)
theorem I6{n:Nat}{a b:List (List D)}(h:iM a b):oI (.d (.ol n a)) (.d (.ol n b)):=fun w σ S β v hr=>h.anJ hr
theorem ai9{n:Nat}{a b:List (List D)}(h:iM a b):Less (.c (.d (.ol n a))) (.c (.d (.ol n b))):=fun w σ S β v hr=>⟨h.anJ hr.1,hr.2⟩
theorem vM{a b:List (List D)}(h:iM a b):oI (.d (.sl a)) (.d (.sl b)):=fun w σ S β v hr=>h.rep hr
theorem oI.trans{a b c:C}(h:oI a b)(k:oI b c):oI a c:=fun w σ S β v x=>k w σ S β v (h w σ S β v x)
def dK(l:List aj)(i:Nat):List UInt8:=(l.getD i bT).aG
theorem jM{l:List aj}{i:Nat}(h:i<l.length):dK l i=l[i].aG:=by simp[dK,List.getD,h]
theorem G5{l:List aj}{i:Nat}(h:l.length<=i):dK l i=[]:=by simp[dK,List.getD,h];rfl
def eY(l:List aj):List (List UInt8):=if l.all (fun x=>decide (x.aG≠[]))=true then l.map aj.aG else []
theorem nT:∀{vs:List (List UInt8)},(∀v∈vs,v≠[])->eY (aP vs)=vs:=fun {vs} h=>by
 unfold eY aP;rw[if_pos (List.all_eq_true.2 fun x hx=> ?_),List.map_map]
 ·conv=>rhs;rw[<-List.map_id vs]
  rfl
 ·obtain⟨v,hv,rfl⟩:=List.mem_map.1 hx;exact decide_eq_true (h v hv)
theorem Xh:∀l:List aj,((l.map aj.aG).map List.length).sum<=cZ l
 |[]=>by simp[cZ]
 |x::l=>by
  have:=Xh l;rw[List.map_cons,List.map_cons,List.sum_cons,cZ,jH];omega
theorem ru(l:List aj):(eY l).length<=l.length/\((eY l).map List.length).sum<=cZ l:=by
 unfold eY;split
 ·refine⟨by simp,?_⟩;exact Xh l
 ·simp
mutual
def dP(b:Bool):aj->ak
 | .mk a l=>if a=[] then
    if l.length<2 then .mk 0 [] []
    else if dK l 0=IE/\(b=true\/l.length=2/\dK l 1≠[]) then .mk 4 (dK l 1) []
    else if dK l 0=iW/\(b=true\/l.length=3/\dK l 1≠[]) then .mk 3 (dK l 1) ((qU b l).drop 2)
    else .mk 2 (dK l 0) ((qU b l).drop 1)
   else if a.head? =some 39 then .mk 1 a.tail [] else .mk 2 a []
def qU(b:Bool):List aj->List ak
 |[]=>[]
 |x::xs=>dP b x::qU b xs
end
theorem y5(b:Bool):∀l,qU b l=l.map (dP b)
 |[]=>rfl
 |t::ts=>by rw[qU,List.map_cons,y5 b ts]
theorem aal(b:Bool)(x:aj):dP b x=if x.aG=[] then
 if x.ah.length<2 then .mk 0 [] []
 else if dK x.ah 0=IE/\(b=true\/x.ah.length=2/\dK x.ah 1≠[]) then .mk 4 (dK x.ah 1) []
 else if dK x.ah 0=iW/\(b=true\/x.ah.length=3/\dK x.ah 1≠[]) then .mk 3 (dK x.ah 1) ((x.ah.map (dP b)).drop 2)
 else .mk 2 (dK x.ah 0) ((x.ah.map (dP b)).drop 1)
 else if x.aG.head? =some 39 then .mk 1 x.aG.tail [] else .mk 2 x.aG []:=by
 cases x;rw[dP,y5];rfl
theorem P5:∀a b,uq (a++b)=uq a+uq b
 |[],b=>by simp[uq]
 |x::a,b=>by rw[List.cons_append,uq,uq,P5 a b];omega
theorem Xi(l:List ak)(i:Nat):uq (l.drop i)<=uq l:=by
 have:=P5 (l.take i) (l.drop i);rw[List.take_append_drop] at this;omega
theorem Xj(l:List aj)(i:Nat):cZ (l.drop i)<=cZ l:=by
 have:=gM (l.take i) (l.drop i);rw[List.take_append_drop] at this;omega
theorem afM(l:List aj)(i:Nat):(dK l i).length<=cZ l:=by
 by_cases h:i<l.length
 ·rw[jM h];have h1:=gZ (List.getElem_mem h);rw[jH] at h1;omega
 ·rw[G5 (by omega)];simp
mutual
theorem y7(b:Bool):∀x:aj,(dP b x).sz<=x.sz
 | .mk a l=>by
   have h1:=I7 b l;have h2:=Xi (qU b l) 2;have h3:=Xi (qU b l) 1;have h4:=afM l 0;have h5:=afM l 1
   have h6:(qU b l).length=l.length:=by rw[y5,List.length_map]
   rw[jH,lS];simp only[aj.aG,aj.ah];rw[dP];split
   ·split
    ·rw[wM];simp[ak.fName,ak.fArgs,uq]
    ·split
     ·rw[wM];simp[ak.fName,ak.fArgs,uq];omega
     ·have g0:=Fy b l 0;have g1:=Fy b l 1;simp only[Nat.zero_add,Nat.reduceAdd] at g0 g1;split
      ·rw[wM];simp only[ak.fName,ak.fArgs,List.length_drop,h6];omega
      ·rw[wM];simp only[ak.fName,ak.fArgs,List.length_drop,h6];omega
   ·split
    ·rw[wM];simp[ak.fName,ak.fArgs,uq];omega
    ·rw[wM];simp[ak.fName,ak.fArgs,uq]
theorem I7(b:Bool):∀l:List aj,uq (qU b l)<=cZ l
 |[]=>by simp[qU,uq]
 |x::xs=>by
  have h1:=y7 b x;have h2:=I7 b xs;rw[qU,uq,cZ];omega
theorem Fy(b:Bool):∀(l:List aj)(i:Nat),uq ((qU b l).drop (i+1))+(dK l i).length<=cZ l
 |[],i=>by simp[qU,uq,G5]
 |x::xs,0=>by
  have h2:=I7 b xs;rw[qU,List.drop_succ_cons,List.drop_zero,cZ,show dK (x::xs) 0=x.aG from rfl,jH];omega
 |x::xs,i+1=>by
  have h2:=Fy b xs i;rw[qU,List.drop_succ_cons,cZ,show dK (x::xs) (i+1)=dK xs i from rfl];omega
end
theorem G6{s:List UInt8}(h:validName s=true):s≠[]:=fun e=>by rw[e] at h;have:=gq h;simp at this
theorem afN{s:List UInt8}(h:validName s=true):s.head? ≠some 39:=fun e=>by
 have h1:=gq h;have h2:=h1.2.2 0 (by omega)
 cases s with
 |nil=>cases e
 |cons c s=>
  simp only[List.head?_cons,Option.some.injEq] at e;subst e;simp[lowerB,sw] at h2
theorem aja{s:List UInt8}(h:validName s=true):s≠IE/\s≠iW:=by
 have h1:=(gq h).2.1;refine⟨fun e=>h1 (by rw[e];simp[reserved,IE]),fun e=>h1 (by rw[e];simp[reserved,iW])⟩
mutual
theorem xC(b:Bool):∀t:ak,formed t=true->dP b (bZ t)=t
 | .mk k n zs=>fun hf=>by
   rw[formed,Bool.and_eq_true] at hf;have hfi:=gq hf.1;have hzs:=Ny b zs hf.2;rw[bZ];by_cases h1:k=1
   ·have hz:zs=[]:=by
     have:zs.length=0:=by omega
     exact List.eq_nil_of_length_eq_zero this
    rw[if_pos h1,bF,dP,if_neg (by simp),if_pos (by simp),hz,h1];rfl
   rw[if_neg h1];by_cases h4:k=4
   ·have hz:zs=[]:=by
     have:zs.length=0:=by omega
     exact List.eq_nil_of_length_eq_zero this
    have hn:validName n=true:=by
     rcases hfi with h|h|h
     ·exact h.2.1
     ·exact h.2.1
     ·omega
    rw[if_pos h4,bq,dP,if_pos rfl,if_neg (by simp),if_pos ⟨rfl,.inr ⟨rfl,G6 hn⟩⟩,hz,h4];rfl
   rw[if_neg h4];by_cases h2:k=2/\zs.length=0
   ·have hz:zs=[]:=List.eq_nil_of_length_eq_zero h2.2
    have hn:n≠[]/\n.head? ≠some 39:=by
     rcases hfi with h|h|h
     ·omega
     ·omega
     ·rcases h.2 with g|g
      ·exact⟨G6 g.1,afN g.1⟩
      ·rcases gq g.1 with e|e<;>rw[e]<;>simp
    rw[if_pos h2,bF,dP,if_neg hn.1,if_neg hn.2,hz,h2.1]
   rw[if_neg h2];by_cases h3:k=3
   ·have hz:zs.length=1/\validName n=true:=by
     rcases hfi with h|h|h
     ·omega
     ·exact⟨h.2.2,h.2.1⟩
     ·omega
    rw[if_pos h3,bq,dP,if_pos rfl,if_neg (by simp),if_neg (fun h=>by have:=h.1;simp[dK,bF,aj.aG,IE,iW] at this),if_pos ⟨rfl,.inr ⟨by rw[wK];simp[hz.1],G6 hz.2⟩⟩];show ak.mk 3 n (qU b (Er zs))=_;rw[hzs,h3]
   ·have hn:validName n=true/\zs≠[]:=by
     rcases hfi with h|h|h
     ·omega
     ·omega
     ·rcases h.2 with g|g
      ·exact⟨g.1,fun e=>h2 ⟨h.1,by rw[e];rfl⟩⟩
      ·exact(h2 ⟨h.1,g.2⟩).elim
    have hk:k=2:=by
     rcases hfi with h|h|h
     ·omega
     ·omega
     ·exact h.1
    have hd:=aja hn.1;rw[if_neg h3,bq,dP,if_pos rfl,if_neg (by rw[wK];cases zs with|nil=>exact(hn.2 rfl).elim|cons z zs=>simp),if_neg (fun h=>hd.1 h.1),if_neg (fun h=>hd.2 h.1)];show ak.mk 2 n (qU b (Er zs))=_;rw[hzs,hk]
theorem Ny(b:Bool):∀ts:List ak,jg ts=true->qU b (Er ts)=ts
 |[],_=>rfl
 |t::ts,h=>by
  rw[jg,Bool.and_eq_true] at h;rw[Er,qU,xC b t h.1,Ny b ts h.2]
end
theorem F8(b:Bool){ts:List ak}(h:jg ts=true):(ts.map bZ).map (dP b)=ts:=by
 have:=Ny b ts h;rw[y5,wK] at this;exact this
def wV(b:Bool)(y:aj):bC:=⟨dK y.ah 0,(y.ah.drop 1).map (dP b)⟩
def kD(b:Bool)(x:aj):aU:=⟨dK x.ah 1,eY (x.ah.getD 2 bT).ah,(x.ah.drop 3).map (wV b)⟩
theorem y8{vs:List (List UInt8)}(h:iN vs=true):∀v∈vs,v≠[]:=fun v hv=>by
 unfold iN at h;rw[Bool.and_eq_true] at h;exact G6 (List.all_eq_true.1 h.2 v hv)
theorem alJ(b:Bool){c:bC}(h:jg c.iA=true):wV b (BZ c)=c:=by
 show bC.mk c.fName ((c.iA.map bZ).map (dP b))=c;rw[F8 b h]
theorem Rp{d:aU}(h:fD d=true):∀v∈d.aF,v≠[]:=by
 unfold fD at h;simp only[Bool.and_eq_true] at h;exact y8 (by simp_all)
theorem DI(b:Bool){d:aU}(h:fD d=true):kD b (sM d)=d:=by
 show aU.mk d.fName (eY (aP d.aF)) ((d.aD.map BZ).map (wV b))=d;rw[nT (Rp h),List.map_map,show d.aD.map (wV b∘BZ)=d.aD.map id from List.map_congr_left (fun c hc=>alJ b (GQ h c hc)),List.map_id]
theorem Xk(d:aU):3<=(sM d).ah.length/\dK (sM d).ah 0=nE:=⟨by rw[sM,bY];simp[baseD],rfl⟩
noncomputable def okD(x:aj):Bool:=dec (dI x=true/\3<=x.ah.length/\dK x.ah 0=nE/\fD (kD true x)=true/\sM (kD true x)=x)
noncomputable def qb(x:aj):aU:=if okD x=true then kD true x else⟨[],[],[]⟩
theorem I8:bT.sz=0:=by rw[jH];simp[bT,aj.aG,aj.ah,bf]
theorem Xl{b:Bool}{s x:aj}(h:qM b s=x)(hx:x.ah≠[]):b=true/\s=x/\dI x=true:=by
 cases b with
 |false=>rw[<-h] at hx;exact(hx rfl).elim
 |true=>
  rw[qM] at h;unfold sI at h;split at h
  ·rename_i hv;exact⟨rfl,h,by rw[<-h];exact hv⟩
  ·rw[<-h] at hx;exact(hx rfl).elim
theorem ajb{x:aj}(hx:x.ah≠[]):okD x=(dI x&&dec (zS (kD false x)=x)):=by
 cases hv:dI x with
 |false=>exact aK fun h=>by rw[hv] at h;cases h.1
 |true=>
  rw[Bool.true_and];refine iC ⟨fun⟨_,h1,h2,h3,h4⟩=> ?_,fun h=> ?_⟩
  ·have e:kD false x=kD true x:=by conv=>lhs;rw[<-h4]
                                   exact DI false h3
   rw[e,zS,h3,h4,qM,sI,if_pos hv]
  ·obtain⟨h1,h2,_⟩:=Xl h hx
   have e:kD true x=kD false x:=by conv=>lhs;rw[<-h2]
                                   exact DI true h1
   have:=Xk (kD false x);rw[h2] at this;rw[e];exact⟨hv,this.1,this.2,h1,h2⟩
theorem ajc{x:aj}(h:okD x=true):kD false x=kD true x:=by
 have h1:=gq h
 conv=>lhs;rw[<-h1.2.2.2.2]
 exact DI false h1.2.2.2.1
theorem alK(b:Bool)(y:aj):(wV b y).sz<=y.sz:=by
 have h:=Fy b y.ah 0;rw[y5] at h;rw[Fu,jH,lS];simp only[wV,List.length_map,List.length_drop,<-List.map_drop,Nat.zero_add] at h ⊢;omega
theorem Xm(b:Bool):∀l:List aj,MK (l.map (wV b))<=cZ l
 |[]=>by simp[MK]
 |y::l=>by
  have h1:=alK b y;have h2:=Xm b l;rw[List.map_cons,MK,cZ];omega
theorem ac1(l:List aj):(dK l 1).length+((l.getD 2 bT).ah.length+cZ (l.getD 2 bT).ah)+cZ (l.drop 3)<=cZ l:=by
 match l with
 |[]=>simp[dK,cZ,bT,aj.aG,aj.ah]
 |[x]=>simp[dK,cZ,bT,aj.aG,aj.ah]
 |[x,y]=>
  simp only[cZ,jH y];simp[dK,cZ,bT,aj.aG,aj.ah];omega
 |x::y::z::l=>
  simp only[cZ,jH y,jH z,lS];simp[dK];omega
theorem Rq(b:Bool)(x:aj):(kD b x).sz<=x.sz:=by
 have h1:=Xm b (x.ah.drop 3);have h2:=ru (x.ah.getD 2 bT).ah;have h3:=ac1 x.ah;rw[Dv,jH,lS];simp only[kD,List.length_map,List.length_drop];omega
theorem MO(d:Nat)(h:d<10):Lib.digitVal (UInt8.ofNat (48+d))=some d:=by
 have:(UInt8.ofNat (48+d)).toNat=48+d:=by rw[UInt8.toNat_ofNat'];omega
 unfold Lib.digitVal;rw[this,if_pos (by omega)];congr 1;omega
theorem EG:∀(l:List UInt8)(acc:Nat)(b:UInt8),Lib.decFrom acc (l++[b])=(Lib.decFrom acc l).bind fun m=>(Lib.digitVal b).map fun d=>m*10+d
 |[],acc,b=>by
  rw[List.nil_append,Lib.decFrom,Lib.decFrom];cases Lib.digitVal b<;>rfl
 |a::l,acc,b=>by
  rw[List.cons_append,Lib.decFrom,Lib.decFrom]
  cases Lib.digitVal a with
  |none=>rfl
  |some e=>exact EG l _ b
theorem AO(n:Nat):Lib.decFrom 0 (Lib.decDigits n)=some n:=by
 induction n using Nat.strongRecOn with
 |_ n ih=>
  rw[Lib.decDigits];split
  ·rename_i h;rw[Lib.decFrom,MO n h];simp[Lib.decFrom]
  ·rename_i h;rw[EG,ih (n/10) (by omega),MO _ (Nat.mod_lt _ (by decide))];simp only[Option.bind_some,Option.map_some,Option.some.injEq];omega
theorem AP(n:Nat):∃b r,Lib.decDigits n=b::r/\48<=b.toNat/\b.toNat<=57:=by
 induction n using Nat.strongRecOn with
 |_ n ih=>
  rw[Lib.decDigits];split
  ·rename_i h;exact⟨_,_,rfl,by rw[UInt8.toNat_ofNat'];omega,by rw[UInt8.toNat_ofNat'];omega⟩
  ·rename_i h;obtain⟨b,r,e,h1,h2⟩:=ih (n/10) (by omega);rw[e];exact⟨b,r++_,rfl,h1,h2⟩
theorem Jv(n:Nat):Lib.decNat (Lib.decDigits n)=some n:=by
 obtain⟨b,r,e,_⟩:=AP n;unfold Lib.decNat;rw[show(Lib.decDigits n).isEmpty=false from by rw[e];rfl];exact AO n
theorem KP(b:UInt8)(r:List UInt8):Lib.atoi (b::r)=if b==45 then(Lib.decNat r).map fun(m:Nat)=> -(m:Int) else if b==43 then(Lib.decNat r).map fun(m:Nat)=>(m:Int) else(Lib.decNat (b::r)).map fun(m:Nat)=>(m:Int):=rfl
theorem Ti(n:Int):Lib.atoi (Lib.itoa n)=some n:=by
 unfold Lib.itoa;split
 ·rename_i h;show Lib.atoi (45::Lib.decDigits n.natAbs)=_;rw[KP,if_pos (by decide),Jv];simp only[Option.map_some,Option.some.injEq];omega
 ·rename_i h;obtain⟨b,r,e,h1,h2⟩:=AP n.toNat;have hd:=Jv n.toNat;rw[e] at hd ⊢;rw[KP,if_neg (by simp only[beq_iff_eq];intro h;rw[h] at h1;revert h1;decide),if_neg (by simp only[beq_iff_eq];intro h;rw[h] at h1;revert h1;decide),hd];simp only[Option.map_some,Option.some.injEq];omega
theorem alL(n:Int):Lib.itoa n≠[]:=fun e=>by
 have:=Ti n;rw[e] at this;cases this
def iy(s:List UInt8):Option Int:=match Lib.atoi s with
 |some n=>if(-999999999999<=n/\n<=999999999999)/\Lib.itoa n=s then some n else none
 |none=>none
theorem P6{n:Int}(h: -999999999999<=n/\n<=999999999999):iy (Lib.itoa n)=some n:=by
 unfold iy;rw[Ti];exact if_pos ⟨h,rfl⟩
theorem P7{s:List UInt8}{n:Int}(h:iy s=some n):(-999999999999<=n/\n<=999999999999)/\Lib.itoa n=s:=by
 unfold iy at h;split at h
 ·split at h
  ·cases h;assumption
  ·cases h
 ·cases h
theorem EH{b:UInt8}{r:List UInt8}(h:lowerB b):iy (b::r)=none:=by
 have h1:(b==45)=false:=by simp only[beq_eq_false_iff_ne];intro e;rw[e] at h;revert h;simp[lowerB]
 have h2:(b==43)=false:=by simp only[beq_eq_false_iff_ne];intro e;rw[e] at h;revert h;simp[lowerB]
 have h3:Lib.digitVal b=none:=if_neg (fun x=>by unfold lowerB at h;omega);unfold iy;rw[KP,h1,h2];simp[Lib.decNat,Lib.decFrom,h3]
theorem ac2{s:List UInt8}(h:validName s=true):iy s=none:=by
 have h1:=gq h;have h2:=h1.2.2 0 (by omega)
 cases s with
 |nil=>simp at h1
 |cons b r=>
  rcases h2 with h2|h2
  ·exact EH h2
  ·exact(h2.1 rfl).elim
def jd:ak:=.mk 0 [] []
def l6:ay:=.mk 0 [] [] 0 jd [] []
mutual
def eU(b:Bool):aj->ay
 | .mk a l=>if a=[] then
    if b=true/\(l.length<2\/dK l 0=jw/\l.length<3) then l6
    else if dK l 0=pJ then .mk 4 [] (dK l 1) 0 jd ((gB b l).drop 2) []
    else if dK l 0=sU then .mk 6 [] (dK l 1) 0 jd ((gB b l).drop 2) []
    else if dK l 0=sV then .mk 8 [] (dK l 1) 0 jd ((gB b l).drop 2) []
    else if dK l 0=pK then .mk 11 (dK l 1) [] 0 jd ((gB b l).drop 2) []
    else if dK l 0=jw then .mk 5 (dK l 1) (dK l 2) 0 jd ((gB b l).drop 3) []
    else if dK l 0=xU then .mk 9 [] [] 0 jd ((gB b l).drop 1) []
    else if dK l 0=ug then .mk 12 [] [] 0 (dP b (l.getD 1 bT)) ((gB b l).drop 2) []
    else if dK l 0=lI then .mk 7 [] [] 0 jd (((gB b l).drop 1).take 1) ((nU b l).drop 2)
    else .mk 10 [] (dK l 0) 0 jd ((gB b l).drop 1) []
   else match iy a with
    |some n=>.mk 1 [] [] n jd [] []
    |none=>if a=Bt then .mk 2 [] [] 1 jd [] [] else if a=zU then .mk 2 [] [] 0 jd [] [] else .mk 3 [] a 0 jd [] []
def gB(b:Bool):List aj->List ay
 |[]=>[]
 |x::xs=>eU b x::gB b xs
def rP(b:Bool):aj->aZ
 | .mk a l=>if l.length<2 then .mk [] [] l6 else .mk (dK l 0) (eY ((l.drop 1).dropLast)) ((gB b l).getLastD l6)
def nU(b:Bool):List aj->List aZ
 |[]=>[]
 |x::xs=>rP b x::nU b xs
end
theorem Cc(b:Bool):∀l,gB b l=l.map (eU b)
 |[]=>rfl
 |t::ts=>by rw[gB,List.map_cons,Cc b ts]
theorem Fz(b:Bool):∀l,nU b l=l.map (rP b)
 |[]=>rfl
 |t::ts=>by rw[nU,List.map_cons,Fz b ts]
theorem mV(b:Bool)(l m:List aj):gB b (l++m)=gB b l++gB b m:=by simp only[Cc,List.map_append]
theorem rQ(b:Bool)(l m:List aj):nU b (l++m)=nU b l++nU b m:=by simp only[Fz,List.map_append]
theorem rX{t:ak}(h:xY t):t=jd:=ak.ext h.1 h.2.1 (List.eq_nil_of_length_eq_zero h.2.2)
theorem Zm{s:List UInt8}(h:s∈ops):s≠[]/\∀w∈[pJ,sU,sV,pK,jw,xU,ug,lI],s≠w:=by
 have:=ae3 h;refine⟨fun e=>by rw[e] at this;simp at this,fun w hw e=> ?_⟩;rw[e] at this;simp only[List.mem_cons,List.not_mem_nil,or_false] at hw;rcases hw with g|g|g|g|g|g|g|g<;>rw[g] at this<;>revert this<;>decide
mutual
theorem G7(b:Bool):∀e:ay,iV e=true->eU b (fu e)=e
 | .mk k tr nm n ty zs ms=>fun hok=>by
   rw[iV,Bool.and_eq_true,Bool.and_eq_true] at hok;have hf:=gq hok.1;have h1:=Xn b zs hok.2.1;have h2:=Xo b ms hok.2.2;obtain⟨p0,p1,p2,p3,p4,p5,p6⟩:=hf;simp only[ay.aM,ay.bG,ay.fName,ay.fN,ay.fType,ay.fArgs,ay.aS] at p0 p1 p2 p3 p4 p5 p6;have nz:∀{l:List ay},l.length=0->l=[]:=fun h=>List.eq_nil_of_length_eq_zero h
   have KQ:k≠7->ms=[]:=fun h=>List.eq_nil_of_length_eq_zero (by
    have:¬0<ms.length:=fun x=>h (p6.2 x)
    omega)
   have hk:k=1\/k=2\/k=3\/k=4\/k=5\/k=6\/k=7\/k=8\/k=9\/k=10\/k=11\/k=12:=by omega
   rcases hk with rfl|rfl|rfl|rfl|rfl|rfl|rfl|rfl|rfl|rfl|rfl|rfl
   all_goals simp only[if_true,if_false,true_or,or_true,false_or,or_false,or_self,(by decide:(1:Int)=5<->False),Int.reduceEq] at p1 p2 p3 p4 p5
   ·have e1:=rX p4;have e2:=nz p5;have e3:=KQ (by decide);subst e1 e2 e3 p1 p2;rw[fu,if_pos rfl,bF,eU,if_neg (alL n),P6 (by omega)]
   ·have e1:=rX p4;have e2:=nz p5;have e3:=KQ (by decide);subst e1 e2 e3 p1 p2;rw[fu,if_neg (by decide),if_pos rfl,bF,eU];rcases p3 with rfl|rfl
    ·rw[if_neg (by decide:¬(0:Int)=1),if_neg (by decide),show iy zU=none from EH (by simp[lowerB]),if_neg (by decide),if_pos rfl]
    ·rw[if_pos rfl,if_neg (by decide),show iy Bt=none from EH (by simp[lowerB]),if_pos rfl]
   ·have e1:=rX p4;have e2:=nz p5;have e3:=KQ (by decide);subst e1 e2 e3 p1 p3;have hr:=(gq p2).2.1;rw[fu,if_neg (by decide),if_neg (by decide),if_pos rfl,bF,eU,if_neg (G6 p2),ac2 p2,if_neg (fun e=>hr (by rw[e];simp[reserved,Bt])),if_neg (fun e=>hr (by rw[e];simp[reserved,zU]))]
   all_goals have hz:(Cz zs).length=zs.length:=by rw[EB,List.length_map]
   ·have e1:=rX p4;have e3:=KQ (by decide);subst e1 e3 p1 p3;simp[fu,jo,bq,aP,eU,gB,mV,nU,rQ,dK,bF,aj.aG,pJ,jw,sU,lI,sV,xU,pK,ug,h1,hz,h2]
    all_goals (intros;omega)
   ·have e1:=rX p4;have e3:=KQ (by decide);subst e1 e3 p3;simp[fu,jo,bq,aP,eU,gB,mV,nU,rQ,dK,bF,aj.aG,pJ,jw,sU,lI,sV,xU,pK,ug,h1,hz,h2]
    all_goals (intros;omega)
   ·have e1:=rX p4;have e3:=KQ (by decide);subst e1 e3 p1 p3;simp[fu,jo,bq,aP,eU,gB,mV,nU,rQ,dK,bF,aj.aG,pJ,jw,sU,lI,sV,xU,pK,ug,h1,hz,h2]
    all_goals (intros;omega)
   ·have e1:=rX p4;subst e1 p1 p2 p3;have hm:0<ms.length:=p6.1 rfl
    obtain⟨z,rfl⟩:∃z,zs=[z]:=by
     cases zs with
     |nil=>simp at p5
     |cons z t=>cases t with
      |nil=>exact⟨z,rfl⟩
      |cons _ _=>simp at p5
    simp only[Cz,gB,List.cons.injEq,and_true] at h1;simp[fu,jo,bq,aP,eU,gB,mV,nU,rQ,Cz,dK,bF,aj.aG,pJ,jw,sU,lI,sV,xU,pK,ug,h1,h2]
    all_goals (intros;omega)
   ·have e1:=rX p4;have e3:=KQ (by decide);subst e1 e3 p1 p3;simp[fu,jo,bq,aP,eU,gB,mV,nU,rQ,dK,bF,aj.aG,pJ,jw,sU,lI,sV,xU,pK,ug,h1,hz,h2]
    all_goals (intros;omega)
   ·have e1:=rX p4;have e3:=KQ (by decide);subst e1 e3 p1 p2 p3;simp[fu,jo,bq,aP,eU,gB,mV,nU,rQ,dK,bF,aj.aG,pJ,jw,sU,lI,sV,xU,pK,ug,h1,hz,h2]
    all_goals (intros;omega)
   ·have e1:=rX p4;have e3:=KQ (by decide);subst e1 e3 p1 p3;have ho:=Zm p2;simp only[List.mem_cons,List.not_mem_nil,or_false,ne_eq,forall_eq_or_imp,forall_eq] at ho;obtain⟨_,o1,o2,o3,o4,o5,o6,o7,o8⟩:=ho;simp[fu,jo,bq,aP,eU,gB,mV,dK,bF,aj.aG,h1,hz,o1,o2,o3,o4,o5,o6,o7,o8]
    all_goals (intros;omega)
   ·have e1:=rX p4;have e3:=KQ (by decide);subst e1 e3 p2 p3;simp[fu,jo,bq,aP,eU,gB,mV,nU,rQ,dK,bF,aj.aG,pJ,jw,sU,lI,sV,xU,pK,ug,h1,hz,h2]
    all_goals (intros;omega)
   ·have e3:=KQ (by decide);subst e3 p1 p2 p3;have ht:=xC b ty (wL p4);simp[fu,jo,bq,aP,eU,gB,mV,dK,bF,aj.aG,pJ,jw,sU,lI,sV,xU,pK,ug,h1,hz,ht]
    all_goals (intros;omega)
theorem Xn(b:Bool):∀es:List ay,mK es=true->gB b (Cz es)=es
 |[],_=>rfl
 |t::ts,h=>by
  rw[mK,Bool.and_eq_true] at h;rw[Cz,gB,G7 b t h.1,Xn b ts h.2]
theorem alM(b:Bool):∀m:aZ,xu m=true->rP b (Ag m)=m
 | .mk c vs e=>fun h=>by
   rw[xu,Bool.and_eq_true,Bool.and_eq_true] at h;have he:=G7 b e h.2.2;rw[Ag,bq,rP,if_neg (by simp),mV];have e1:dK ([bF c]++aP vs++[fu e]) 0=c:=rfl
   have e2:(([bF c]++aP vs++[fu e]).drop 1).dropLast=aP vs:=by
    rw[List.append_assoc,List.singleton_append,List.drop_succ_cons,List.drop_zero,List.dropLast_concat]
   rw[e1,e2,nT (y8 h.2.1)];congr 1;rw[gB,he,List.getLastD_eq_getLast?,List.getLast?_append];simp[gB]
theorem Xo(b:Bool):∀ms:List aZ,pU ms=true->nU b (IV ms)=ms
 |[],_=>rfl
 |t::ts,h=>by
  rw[pU,Bool.and_eq_true] at h;rw[IV,nU,alM b t h.1,Xo b ts h.2]
end
theorem Ce:jd.sz=0:=by rw[wM];rfl
theorem y9:l6.sz=0:=by rw[yF];simp[l6,ay.bG,ay.fName,ay.fType,ay.fArgs,ay.aS,Ce,vo,CU]
theorem ac3(l:List aj):((eY ((l.drop 1).dropLast)).length+((eY ((l.drop 1).dropLast)).map List.length).sum)<=(l.drop 1).dropLast.length+cZ ((l.drop 1).dropLast):=by
 have:=ru ((l.drop 1).dropLast);omega
theorem alN(x:aj)(m:List aj)(y:aj):cZ (x::(m++[y]))=x.sz+(cZ m+y.sz):=by rw[cZ,gM];simp[cZ]
mutual
theorem DJ(b:Bool):∀x:aj,(eU b x).sz<=x.sz
 | .mk a l=>by
   have g:=Tj b l
   have hl:(gB b l).length=l.length:=by rw[Cc,List.length_map]
   have hm:(nU b l).length=l.length:=by rw[Fz,List.length_map]
   rw[jH,lS];simp only[aj.aG,aj.ah];rw[eU];split
   ·have g1:vo ((gB b l).drop 1)+(dK l 0).length<=cZ l:=by
     have:=g 0;simp only[Nat.zero_add,(by decide:¬(1<=0)),if_false] at this;omega
    have g2:vo ((gB b l).drop 2)+((dK l 0).length+(dK l 1).length)<=cZ l:=by
     have:=g 1;simp only[Nat.reduceAdd,Nat.le_refl,if_true,Nat.sub_self] at this;omega
    have g3:vo ((gB b l).drop 3)+((dK l 1).length+(dK l 2).length)<=cZ l:=by
     have:=g 2;simp only[Nat.reduceAdd,(by decide:1<=2),if_true,Nat.reduceSub] at this;omega
    split
    ·rw[y9];omega
    ·repeat' split
     all_goals rw[yF];simp only[ay.bG,ay.fName,ay.fType,ay.fArgs,ay.aS,Ce,vo,CU,List.length_nil,List.length_drop,List.length_take,hl,hm,List.drop_zero] at g1 g2 g3 ⊢
     all_goals try omega
     ·have h1:=y7 b (l.getD 1 bT)
      have h2:vo ((gB b l).drop 2)+(l.getD 1 bT).sz<=cZ l:=by
       match l with
       |[]=>simp[gB,vo,cZ,I8]
       |[x]=>simp[gB,vo,cZ,I8]
       |x::y::l=>
        have:=Nz b l;simp only[gB,List.drop_succ_cons,List.drop_zero,cZ];show _+y.sz<=_;omega
      omega
     ·match l with
      |[]=>simp[vo,CU,gB,nU]
      |[x]=>simp[vo,CU,gB,nU]
      |x::y::l=>
       have h1:=DJ b y;have h2:=Xp b l;simp only[gB,nU,List.drop_succ_cons,List.drop_zero,List.take_succ_cons,List.take_zero,vo,cZ,List.length_cons];omega
   ·split
    ·rw[yF];simp[ay.bG,ay.fName,ay.fType,ay.fArgs,ay.aS,Ce,vo,CU]
    ·repeat' split
     all_goals rw[yF];simp[ay.bG,ay.fName,ay.fType,ay.fArgs,ay.aS,Ce,vo,CU]
theorem Nz(b:Bool):∀l:List aj,vo (gB b l)<=cZ l
 |[]=>by simp[gB,vo]
 |x::xs=>by
  have h1:=DJ b x;have h2:=Nz b xs;rw[gB,vo,cZ];omega
theorem Tj(b:Bool):∀(l:List aj)(i:Nat),vo ((gB b l).drop (i+1))+((if 1<=i then(dK l (i-1)).length else 0)+(dK l i).length)<=cZ l
 |[],i=>by simp[gB,vo,G5]
 |x::xs,0=>by
  have h2:=Nz b xs;rw[gB,List.drop_succ_cons,List.drop_zero,cZ,show dK (x::xs) 0=x.aG from rfl,jH];simp;omega
 |x::xs,i+1=>by
  have h2:=Tj b xs i;rw[gB,List.drop_succ_cons,cZ,show dK (x::xs) (i+1)=dK xs i from rfl]
  cases i with
  |zero=>rw[show dK (x::xs) (0+1-1)=x.aG from rfl,jH];simp at h2 ⊢;omega
  |succ i=>rw[show dK (x::xs) (i+1+1-1)=dK xs i from rfl];simp at h2 ⊢;omega
theorem alO(b:Bool):∀x:aj,(rP b x).sz<=x.sz
 | .mk a l=>by
   rw[jH,lS];simp only[aj.aG,aj.ah];rw[rP];split
   ·rw[Ca];simp[aZ.dO,aZ.aF,aZ.fBody,y9]
   ·rename_i h;have hn:=ac3 l;have hb:=P8 b l;rw[Ca];simp only[aZ.dO,aZ.aF,aZ.fBody]
    obtain⟨x,m,y,rfl⟩:∃x m y,l=x::(m++[y]):=by
     cases l with
     |nil=>simp at h
     |cons x l=>
      have hl:l≠[]:=fun e=>by rw[e] at h;simp at h
      exact⟨x,l.dropLast,l.getLast hl,by rw[List.dropLast_concat_getLast]⟩
    rw[alN] at *
    rw[show dK (x::(m++[y])) 0=x.aG from rfl,jH x];simp only[List.drop_succ_cons,List.drop_zero,List.dropLast_concat,List.length_cons,List.length_append,List.length_nil] at hn ⊢
    have hy:((x::(m++[y])).getLastD bT)=y:=by rw[<-List.cons_append,List.getLastD_eq_getLast?,List.getLast?_append];simp
    rw[hy] at hb;omega
theorem Xp(b:Bool):∀l:List aj,CU (nU b l)<=cZ l
 |[]=>by simp[nU,CU]
 |x::xs=>by
  have h1:=alO b x;have h2:=Xp b xs;rw[nU,CU,cZ];omega
theorem P8(b:Bool):∀l:List aj,((gB b l).getLastD l6).sz<=(l.getLastD bT).sz
 |[]=>by simp[gB,y9]
 |[x]=>by simpa [gB] using DJ b x
 |x::y::l=>by
  have:=P8 b (y::l);simpa [gB] using this
end
def zW(s:List UInt8):Prop:=s.head? =some 45
instance (s:List UInt8):Decidable (zW s):=inferInstanceAs (Decidable (_=_))
def fV(s:List UInt8):List UInt8:=if zW s then s.tail else s
theorem Cg:∀(l:List UInt8)(acc v:Nat),Lib.decFrom acc l=some v->∀b∈l,48<=b.toNat/\b.toNat<=57
 |[],_,_,_,b,hb=>by cases hb
 |a::l,acc,v,h,b,hb=>by
  rw[Lib.decFrom] at h
  cases hd:Lib.digitVal a with
  |none=>rw[hd] at h;cases h
  |some d=>
   rw[hd] at h;rcases List.mem_cons.1 hb with rfl|hb
   ·unfold Lib.digitVal at hd;split at hd
    ·assumption
    ·cases hd
   ·exact Cg l _ v h b hb
theorem Zn{b:UInt8}(h:48<=b.toNat/\b.toNat<=57):Lib.digitVal b=some (b.toNat-48):=if_pos h
theorem decFrom_take{t:List UInt8}{i acc:Nat}(hi:i<t.length)(h:Lib.decFrom 0 (t.take i)=some acc)(hd:48<=t[i].toNat/\t[i].toNat<=57):Lib.decFrom 0 (t.take (i+1))=some (acc*10+(t[i].toNat-48)):=by
 rw[List.take_succ_eq_append_getElem hi,EG,h,Zn hd];rfl
theorem KR{s:List UInt8}{m:Int}(h:iy s=some m):(zW s<->m<0)/\fV s=Lib.decDigits m.natAbs/\1<=(fV s).length/\(fV s).length<=12:=by
 obtain⟨hr,he⟩:=P7 h;have hl:(Lib.decDigits m.natAbs).length<=12:=GR 11 _ (by omega);obtain⟨b,r,e,b1,b2⟩:=AP m.natAbs
 have hl1:1<=(Lib.decDigits m.natAbs).length:=by rw[e];simp
 unfold Lib.itoa at he;by_cases hn:m<0
 ·rw[if_pos hn] at he
  have hs:zW s:=by rw[<-he];rfl
  have hb:fV s=Lib.decDigits m.natAbs:=by unfold fV;rw[if_pos hs,<-he];rfl
  exact⟨⟨fun _=>hn,fun _=>hs⟩,hb,by rw[hb];exact⟨hl1,hl⟩⟩
 ·rw[if_neg hn,show m.toNat=m.natAbs by omega] at he
  have hs:¬zW s:=fun x=>by
   rw[<-he,e] at x;unfold zW at x;simp only[List.head?_cons,Option.some.injEq] at x;rw[x] at b1;revert b1;decide
  have hb:fV s=Lib.decDigits m.natAbs:=by unfold fV;rw[if_neg hs,<-he]
  exact⟨⟨fun x=>(hs x).elim,fun x=>(hn x).elim⟩,hb,by rw[hb];exact⟨hl1,hl⟩⟩
theorem xV{s:List UInt8}(h:(fV s).length<1\/12<(fV s).length):iy s=none:=by
 cases hr:iy s with
 |none=>rfl
 |some m=>have:=(KR hr).2.2;omega
theorem FB{s:List UInt8}{i:Nat}(hi:i<(fV s).length)(h:¬(48<=(fV s)[i].toNat/\(fV s)[i].toNat<=57)):iy s=none:=by
 cases hr:iy s with
 |none=>rfl
 |some m=>
  have hk:=(KR hr).2.1;have hd:=AO m.natAbs;rw[<-hk] at hd;exact absurd (Cg _ _ _ hd _ (List.getElem_mem hi)) h
theorem Tk{s:List UInt8}{v:Nat}(hv:Lib.decFrom 0 (fV s)=some v)(hb:v<=999999999999):iy s=if Lib.itoa (if zW s then -(v:Int) else v)=s then some (if zW s then -(v:Int) else v) else none:=by
 obtain⟨z,hz⟩:∃z,z=(if zW s then -(v:Int) else v):=⟨_,rfl⟩
 have hzb: -999999999999<=z/\z<=999999999999:=by rw[hz];split<;>omega
 rw[<-hz];by_cases h:Lib.itoa z=s
 ·rw[if_pos h]
  conv=>lhs;rw[<-h]
  exact P6 hzb
 ·rw[if_neg h]
  cases hr:iy s with
  |none=>rfl
  |some m=>
   have hk:=KR hr;have hd:=AO m.natAbs;rw[<-hk.2.1,hv] at hd
   have hm:v=m.natAbs:=by simpa using hd
   have:z=m:=by
    rw[hz];by_cases hn:zW s
    ·have:=hk.1.1 hn;rw[if_pos hn];omega
    ·rw[if_neg hn];have:¬m<0:=fun x=>hn (hk.1.2 x);omega
   rw[this] at h;exact absurd (P7 hr).2 h
theorem Zo(s:List UInt8)(hs:s.length<=1073741824):aC prog 255 [.c (.d (.s s)),.c (.d (.i .i64 12))] (.dN [(false,[.d (.i .i64 ((iy s).getD 0))]),(false,[.d (.b (iy s).isSome)])]):=fun S=>by
 have d0:iy s=none->V.dN [(false,[.d (.i .i64 0)]),(false,[.d (.b false)])]=.dN [(false,[.d (.i .i64 ((iy s).getD 0))]),(false,[.d (.b (iy s).isSome)])]:=fun e=>by rw[e];rfl
 refine zcx [.tmp 4,.tmp 5] func255 ntmps255 ?_;refine W1 ?_;refine S0 (fun hb h=>?_) fun hb h=>?_
 ·have hpos:0<s.length:=by omega
  have h0:(s.getD 0 0).toNat=45<->zW s:=by
   cases s with
   |nil=>simp at hpos
   |cons b s=>
    unfold zW;simp only[List.getD_cons_zero,List.head?_cons,Option.some.injEq];constructor
    ·intro e;exact UInt8.toNat.inj e
    ·intro e;rw[e];rfl
  refine W3 ?_;refine S0 (fun hb h=>?_) fun hb h=>?_
  ·have hn:zW s:=h0.1 (by omega)
   have hb:fV s=(s.take s.length).drop 1:=by unfold fV;rw[if_pos hn,List.take_length,List.drop_one]
   refine W3 ?_;rw[<-hb]
   have hbl:(fV s).length<=s.length:=by rw[hb];simp
   refine S0 (fun hb h=>?_) fun hb h=>?_
   ·exact d0 (xV (by omega))
   refine S0 (fun hb h=>?_) fun hb h=>?_
   ·exact d0 (xV (by omega))
   have hl1:1<=(fV s).length:=by omega
   have hl12:(fV s).length<=12:=by omega
   refine aR (ι:=Nat×Nat) zmx rfl [0,6,7,8,9] (fun y=>[.c (.d (.s s)),.c (.d (.b true)),.c (.d (.s (fV s))),.c (.d (.i .i64 y.2)),.c (.d (.i .i64 y.1))]) (fun _=>[]::S)
    (fun y=>y.1<=(fV s).length/\Lib.decFrom 0 ((fV s).take y.1)=some y.2/\y.2<10^y.1) (fun y=>(fV s).length-y.1) (0,0) rfl rfl ⟨Nat.zero_le _,rfl,by decide⟩ ?_
   rintro⟨i,acc⟩ ⟨p1,p2,p3⟩;simp only at p1 p2 p3;have p4:10^i<=10^12:=Nat.pow_le_pow_right (by decide) (by omega);refine W1 ?_;refine S0 (fun hb h=>?_) fun hb h=>?_
   ·have hi:i<(fV s).length:=by omega
    have e:(fV s).getD i 0=(fV s)[i]:=by simp[List.getD,hi]
    have hbb:=(fV s)[i].toNat_lt;refine W3 ?_;simp only[e];refine S0 (fun hb h=>?_) fun hb h=>?_
    ·exact d0 (FB hi (by omega))
    refine W3 ?_;simp only[e];refine S0 (fun hb h=>?_) fun hb h=>?_
    ·exact d0 (FB hi (by omega))
    have hdg:48<=(fV s)[i].toNat/\(fV s)[i].toNat<=57:=by omega
    have ht:=decFrom_take hi p2 hdg
    have e2:(10:Int)*acc+(((fV s)[i].toNat:Int)-48)=((acc*10+((fV s)[i].toNat-48):Nat):Int):=by omega
    refine W3 ?_;simp -implicitDefEqProofs (disch:=omega) only[go_sem,wrap_u8,e];rw[e2];exact bV (i+1,acc*10+((fV s)[i].toNat-48)) (by simp only;omega) rfl rfl ⟨by simp only;omega,ht,by simp only[Nat.pow_succ];omega⟩
   ·have hi:i=(fV s).length:=by omega
    have hv:Lib.decFrom 0 (fV s)=some acc:=by rw[hi,List.take_length] at p2;exact p2
    have xG:=Tk hv (by omega);rw[if_pos hn] at xG;rw[show(0:Int)-acc= -(acc:Int) by omega];refine C1 (yG (-(acc:Int)) (by omega) (by omega)) ?_;refine S0 (fun hb h=>?_) fun hb h=>?_
    ·exact d0 (xG.trans (if_neg h))
    ·rw[xG.trans (if_pos h)];rfl
  ·have hn:¬zW s:=fun x=>h (by rw[h0.2 x];rfl)
   have hbs:fV s=s:=by unfold fV;rw[if_neg hn]
   have hbl:(fV s).length=s.length:=by rw[hbs]
   refine S0 (fun hb h=>?_) fun hb h=>?_
   ·exact d0 (xV (by omega))
   refine S0 (fun hb h=>?_) fun hb h=>?_
   ·exact d0 (xV (by omega))
   have hl1:1<=(fV s).length:=by omega
   have hl12:(fV s).length<=12:=by omega
   refine aR (ι:=Nat×Nat) zmx rfl [0,6,7,8,9] (fun y=>[.c (.d (.s s)),.c (.d (.b false)),.c (.d (.s (fV s))),.c (.d (.i .i64 y.2)),.c (.d (.i .i64 y.1))]) (fun _=>[]::S)
    (fun y=>y.1<=(fV s).length/\Lib.decFrom 0 ((fV s).take y.1)=some y.2/\y.2<10^y.1) (fun y=>(fV s).length-y.1) (0,0) (by rw[hbs];rfl) rfl ⟨Nat.zero_le _,rfl,by decide⟩ ?_
   rintro⟨i,acc⟩ ⟨p1,p2,p3⟩;simp only at p1 p2 p3;have p4:10^i<=10^12:=Nat.pow_le_pow_right (by decide) (by omega);refine W1 ?_;refine S0 (fun hb h=>?_) fun hb h=>?_
   ·have hi:i<(fV s).length:=by omega
    have e:(fV s).getD i 0=(fV s)[i]:=by simp[List.getD,hi]
    have hbb:=(fV s)[i].toNat_lt;refine W3 ?_;simp only[e];refine S0 (fun hb h=>?_) fun hb h=>?_
    ·exact d0 (FB hi (by omega))
    refine W3 ?_;simp only[e];refine S0 (fun hb h=>?_) fun hb h=>?_
    ·exact d0 (FB hi (by omega))
    have hdg:48<=(fV s)[i].toNat/\(fV s)[i].toNat<=57:=by omega
    have ht:=decFrom_take hi p2 hdg
    have e2:(10:Int)*acc+(((fV s)[i].toNat:Int)-48)=((acc*10+((fV s)[i].toNat-48):Nat):Int):=by omega
    refine W3 ?_;simp -implicitDefEqProofs (disch:=omega) only[go_sem,wrap_u8,e];rw[e2];exact bV (i+1,acc*10+((fV s)[i].toNat-48)) (by simp only;omega) rfl rfl ⟨by simp only;omega,ht,by simp only[Nat.pow_succ];omega⟩
   ·have hi:i=(fV s).length:=by omega
    have hv:Lib.decFrom 0 (fV s)=some acc:=by rw[hi,List.take_length] at p2;exact p2
    have xG:=Tk hv (by omega);rw[if_neg hn] at xG;refine C1 (yG ((acc:Int)) (by omega) (by omega)) ?_;refine S0 (fun hb h=>?_) fun hb h=>?_
    ·exact d0 (xG.trans (if_neg h))
    ·rw[xG.trans (if_pos h)];rfl
 ·have hs0:s=[]:=List.eq_nil_of_length_eq_zero (by omega)
  have hb0:(fV s).length=0:=by rw[hs0];rfl
  refine S0 (fun hb h=>?_) fun hb h=>?_
  ·exact d0 (xV (by omega))
  ·omega
theorem P9(s:List UInt8)(hs:s.length<=1073741824):aC prog 228 [.c (.d (.s s))] (.dN [(false,[.d (.i .i64 ((iy s).getD 0))]),(false,[.d (.b (iy s).isSome)])]):=fun S=>by
 refine zcx [.tmp 2,.tmp 3] func228 ntmps228 ?_;refine W1 ?_;exact C4 (Zo s hs)
theorem afO{x:aj}{i:Nat}(hi:i<x.ah.length)(h:x.sz<=4194304):x.ah[i].sz<=4194304:=by
 have:=gZ (List.getElem_mem hi);rw[jH,lS] at h;omega
theorem afP{x:aj}(h:x.sz<=4194304):x.aG.length<=4194304/\x.ah.length<=4194304:=by
 rw[jH] at h;omega
theorem Ch:∀n:Nat,∀x:aj,SizeOf.sizeOf x<n->∀y:aj,x.sz<=4194304->aC prog 182 [x.v,y.v] (.c (.d (.b (dec (x=y)))))
 |0=>fun x h=>by omega
 |n+1=>by
  have ih:=Ch n;intro x hn y hsz S;have apG:=aj.vI x;have hb:=afP hsz;refine zcx [.tmp 4] func182 ntmps182 ?_;refine W1 ?_;refine S0 (fun hb h=>?_) fun hb h=>?_
  ·exact aH (aK (fun e=>h (by rw[e]))).symm
  have h1:=h;refine S0 (fun hb h=>?_) fun hb h=>?_
  ·exact aH (aK (fun e=>h (by rw[e]))).symm
  have hl:x.ah.length=y.ah.length:=by omega
  refine aR (ι:=Nat) zmx rfl [2,3,5] (fun i=>[.c (.ptr (0,0) 0),.c (.ptr (0,1) 0),.c (.d (.i .i64 i))]) (fun i=>[.box [.d (.s x.aG),.d (.sl (x.ah.map aj.enc))],.box [.d (.s y.aG),.d (.sl (y.ah.map aj.enc))]]::S)
   (fun i=>i<=x.ah.length/\∀j,j<i->x.ah[j]? =y.ah[j]?) (fun i=>x.ah.length-i) 0 rfl rfl ⟨Nat.zero_le _,fun j h=>by omega⟩ ?_
  rintro i ⟨p1,p2⟩;simp -implicitDefEqProofs (disch:=omega) only[go_sem,aj.aQ];refine S0 (fun hb h=>?_) fun hb h=>?_
  ·have hi:i<x.ah.length:=by omega
   have hi':i<y.ah.length:=by omega
   refine W3 ?_;refine C1 (ih x.ah[i] (by have:=List.sizeOf_lt_of_mem (List.getElem_mem hi);omega) y.ah[i] (afO hi hsz)) ?_;refine S0 (fun hb h=>?_) fun hb h=>?_
   ·exact aH (aK (fun e=>h (by simp only[e]))).symm
   refine bV (i+1) (by omega) rfl rfl ⟨by omega,fun j hj=> ?_⟩;by_cases e:j=i
   ·subst e;rw[List.getElem?_eq_getElem hi,List.getElem?_eq_getElem hi',h]
   ·exact p2 j (by omega)
  ·have hi:i=x.ah.length:=by omega
   refine aH (bD ?_).symm;refine aj.ext (by first|exact h1|(simp at h1;exact h1)) (List.ext_getElem? fun j=> ?_);by_cases hj:j<i
   ·exact p2 j hj
   ·rw[List.getElem?_eq_none (by omega),List.getElem?_eq_none (by omega)]
theorem tF(x y:aj)(h:x.sz<=4194304):aC prog 182 [x.v,y.v] (.c (.d (.b (dec (x=y))))):=Ch _ x (Nat.lt_succ_self _) y h
theorem Ci:∀n:Nat,(∀x:aj,SizeOf.sizeOf x<n->∀y:aj,x.sz<=4194304->aC prog 41 [x.v,y.v] (.c (.d (.b (dec (x=y))))))/\
 (∀xs:List aj,SizeOf.sizeOf xs<n->∀ys:List aj,xs.length<=4194304->(∀t∈xs,t.sz<=4194304)->aC prog 73 [.c (.d (.sl (xs.map aj.enc))),.c (.d (.sl (ys.map aj.enc))),.c (.fn 41 [])] (.c (.d (.b (dec (xs=ys))))))
 |0=>⟨fun x h=>by omega,fun x h=>by omega⟩
 |n+1=>by
  obtain⟨ih,qj⟩:=Ci n;refine⟨fun x hn y hsz S=> ?_,fun xs hn ys hlen hsz S=> ?_⟩
  ·have apG:=aj.vI x;have hb:=afP hsz;refine zcx [.tmp 4] func41 ntmps41 ?_;refine W1 ?_;refine S0 (fun hb h=>?_) fun hb h=>?_
   ·have h1:=h;refine W3 ?_
    refine aX (qj x.ah (by omega) y.ah (by omega) (fun t ht=>by
     obtain⟨i,hi,e⟩:=List.getElem_of_mem ht
     rw[<-e];exact afO hi hsz)) ?_
    refine W1 ?_;refine aH (iC ⟨fun e=>aj.ext h1 e,fun e=>by rw[e]⟩)
   ·exact aH (aK (fun e=>h (by rw[e]))).symm
  ·refine zcx [.tmp 6] func73 ntmps73 ?_;refine W1 ?_;refine S0 (fun hb h=>?_) fun hb h=>?_
   ·exact aH (aK (fun e=>h (by rw[e]))).symm
   have hl:xs.length=ys.length:=by omega
   refine aR (ι:=Nat) zmx rfl [1,2,15,16,17] (fun y=>[.c (.d (.sl (ys.map aj.enc))),.c (.fn 41 []),.c (.d (.sl (xs.map aj.enc))),.c (.d (.i .i64 xs.length)),.c (.d (.i .i64 y))]) (fun y=>[]::S)
    (fun i=>i<=xs.length/\∀j,j<i->xs[j]? =ys[j]?) (fun y=>xs.length-y) 0 rfl rfl ⟨Nat.zero_le _,fun j h=>by omega⟩ ?_
   rintro i ⟨p1,p2⟩;refine W1 ?_;refine S0 (fun hb h=>?_) fun hb h=>?_
   ·have hi:i<xs.length:=by omega
    have hi':i<ys.length:=by omega
    refine W3 ?_;refine C1 (ih xs[i] (by have:=List.sizeOf_lt_of_mem (List.getElem_mem hi);omega) ys[i] (hsz _ (List.getElem_mem hi))) ?_;refine S0 (fun hb h=>?_) fun hb h=>?_
    ·exact aH (aK (fun e=>h (by simp only[e]))).symm
    refine bL 0 (by decide) (i+1) (by omega) rfl rfl rfl rfl ⟨by omega,fun j hj=> ?_⟩;by_cases e:j=i
    ·subst e;rw[List.getElem?_eq_getElem hi,List.getElem?_eq_getElem hi',h]
    ·exact p2 j (by omega)
   ·have hi:i=xs.length:=by omega
    refine aH (bD (List.ext_getElem? fun j=> ?_)).symm;by_cases hj:j<i
    ·exact p2 j hj
    ·rw[List.getElem?_eq_none (by omega),List.getElem?_eq_none (by omega)]
theorem qK(x y:aj)(h:x.sz<=4194304):aC prog 41 [x.v,y.v] (.c (.d (.b (dec (x=y))))):=(Ci _).1 x (Nat.lt_succ_self _) y h
theorem Bu{α:Type}[SizeOf α]:∀(i:Nat)(l:List α),SizeOf.sizeOf (l.drop i)<=SizeOf.sizeOf l
 |0,l=>by simp
 |i+1,[]=>by simp
 |i+1,x::l=>by
  have:=Bu i l;rw[List.drop_succ_cons];simp only[List.cons.sizeOf_spec];omega
theorem oz(l:List aj)(n i:Nat)(h:l.length<=n):((l.map aj.enc).take n).drop i=(l.drop i).map aj.enc:=by
 rw[List.take_of_length_le (by rw[List.length_map];exact h),List.map_drop]
theorem wW(l:List aj)(i:Nat):(l.getD i bT).sz<=cZ l:=by
 rw[List.getD_eq_getElem?_getD];by_cases h:i<l.length
 ·rw[List.getElem?_eq_getElem h];exact gZ (List.getElem_mem h)
 ·rw[List.getElem?_eq_none (by omega)];rw[Option.getD_none,jH];simp[bT,aj.aG,aj.ah,bf]
theorem eD(x:aj):x.ah.length+cZ x.ah<=x.sz:=by rw[jH,lS];omega
theorem AQ(x:aj):x.aG.length<=x.sz:=by rw[jH];omega
def za(x:aj):List D:=[.s x.aG]
def allA(l:List aj):Bool:=l.all fun x=>decide (x.aG≠[])
theorem aam{l:List aj}{i:Nat}(hi:i<l.length)(h:l[i].aG=[]):allA l=false/\eY l=[]:=by
 have:allA l=false:=by
  unfold allA;rw[List.all_eq_false];exact⟨_,List.getElem_mem hi,by simp[h]⟩
 refine⟨this,?_⟩;unfold eY;unfold allA at this;rw[this];rfl
theorem Xq{l:List aj}(h:∀j (hj:j<l.length),l[j].aG≠[]):allA l=true/\(eY l).map encS=l.map za:=by
 have:allA l=true:=by
  unfold allA;rw[List.all_eq_true];intro x hx;obtain⟨j,hj,rfl⟩:=List.getElem_of_mem hx;exact decide_eq_true (h j hj)
 refine⟨this,?_⟩;unfold eY;unfold allA at this;rw[this,if_pos rfl,List.map_map];rfl
theorem KT{l:List aj}{i:Nat}(hi:i<l.length):(l.take i).map za++[[.s l[i].aG]]=(l.take (i+1)).map za:=by
 rw[List.take_succ_eq_append_getElem hi,List.map_append];rfl
theorem MP{l:List aj}{i:Nat}:((l.take i).map za).length<=i:=by rw[List.length_map];exact List.length_take_le _ _
def lt(l:List ak)(n:Nat):List (List D):=dX (l.map ak.enc) n
def fZ(l:List ak):Nat:=jf (l.map ak.enc)
theorem alP(x:ak)(n:Nat):fQ x.enc n=[.i .i64 x.aM,.s x.fName,.ol n (lt x.fArgs (n+1))]:=by
 rw[ak.aQ];simp only[fQ,tZ,uP,Nat.add_zero,lt]
theorem afQ(l:List ak)(n:Nat):(lt l n).length=l.length:=by unfold lt;rw[kC,List.length_map]
theorem alQ{l:List ak}{i:Nat}(hi:i<l.length)(n:Nat):lt (l.take i) n++[[.i .i64 l[i].aM,.s l[i].fName,.ol (n+fZ (l.take i)) (lt l[i].fArgs (n+fZ (l.take i)+1))]]=lt (l.take (i+1)) n:=by
 rw[List.take_succ_eq_append_getElem hi];unfold lt fZ;rw[List.map_append,nQ];simp only[List.map_cons,List.map_nil,dX,alP,lt]
theorem Tm{l:List ak}{i:Nat}(hi:i<l.length):(l.take i).map ak.enc++[[.i .i64 l[i].aM,.s l[i].fName,.sl (l[i].fArgs.map ak.enc)]]=(l.take (i+1)).map ak.enc:=by
 rw[List.take_succ_eq_append_getElem hi,List.map_append];simp only[List.map_cons,List.map_nil,ak.aQ]
theorem Rs(k:Int)(s:List UInt8)(n:Nat):Less (.agg [.d (.i .i64 k),.d (.s s),.bn []]) (.agg [.d (.i .i64 k),.d (.s s),.d (.ol n [])]):=(fE.cons (.refl _) (.cons (.refl _) (.cons (dR n) .nil))).less
theorem aan(k:Int)(s:List UInt8)(es:List (List D)):Less (.agg [.d (.i .i64 k),.d (.s s),.bn es]) (.agg [.d (.i .i64 k),.d (.s s),.d (.sl es)]):=(fE.cons (.refl _) (.cons (.refl _) (.cons (eT es) .nil))).less
theorem anK{s:List UInt8}(h:s≠[]):((s.getD 0 0).toNat:Int)=39<->s.head? =some 39:=by
 cases s with
 |nil=>exact(h rfl).elim
 |cons b s=>
  simp only[List.getD_cons_zero,List.head?_cons,Option.some.injEq];constructor
  ·intro e
   have:b.toNat=39:=by omega
   exact UInt8.toNat.inj this
  ·intro e;rw[e];rfl
theorem Qa(s:List UInt8)(n:Nat)(h:s.length<=n):(s.take n).drop 1=s.tail:=by rw[List.take_of_length_le h,List.drop_one]
theorem Qb{a b:List (List D)}(h:iM a b):oI (.d (.sl a)) (.d (.sl b)):=fun w σ S β v hr=>h.rep hr
abbrev ak.vl(t:ak)(n:Nat):V:=.agg [.d (.i .i64 t.aM),.d (.s t.fName),.d (.ol n (lt t.fArgs (n+1)))]
theorem wX(l:List (List UInt8)):jf (l.map encS)=0:=by
 induction l with
 |nil=>rfl
 |cons s l ih=>rw[List.map_cons,jf,ih];rfl
theorem anL{b:Bool}{x:aj}{r:V}{k:Int}{s:List UInt8}{l:List ak}(h:dP b x=.mk k s l)(hl:Less r (.agg [.d (.i .i64 k),.d (.s s),.d (.sl (l.map ak.enc))])):Less r (dP b x).v:=by rw[h];exact hl
theorem akf{b:Bool}{x:aj}{k:Int}{s:List UInt8}(h:dP b x=.mk k s []):Less (.agg [.d (.i .i64 k),.d (.s s),.bn []]) (dP b x).v:=by rw[h];exact aan k s []
theorem akg{b:Bool}{x:aj}{k:Int}{s:List UInt8}(h:dP b x=.mk k s []):Less (.agg [.d (.i .i64 k),.d (.s s),.d (.sl [])]) (dP b x).v:=by rw[h];exact gu _
theorem akh{b:Bool}{x:aj}{r:V}{n:Nat}{k:Int}{s:List UInt8}{l:List ak}(h:dP b x=.mk k s l)(hl:Less r (.agg [.d (.i .i64 k),.d (.s s),.d (.ol n (lt l (n+1)))])):Less r ((dP b x).vl n):=by rw[h];exact hl
theorem afR{b:Bool}{x:aj}{n:Nat}{k:Int}{s:List UInt8}(h:dP b x=.mk k s []):Less (.agg [.d (.i .i64 k),.d (.s s),.bn []]) ((dP b x).vl n):=by rw[h];exact Rs k s n
theorem afS{b:Bool}{x:aj}{n:Nat}{k:Int}{s:List UInt8}(h:dP b x=.mk k s []):Less (.agg [.d (.i .i64 k),.d (.s s),.d (.ol n [])]) ((dP b x).vl n):=by rw[h];exact gu _
theorem Zp{s:List UInt8}(h:1<=s.length):(s.take 1).drop 0=[39]<->s.head? =some 39:=by
 cases s with
 |nil=>simp at h
 |cons b s=>simp
theorem EI(xs:List aj)(hx:xs.length<=1073741824):aC prog 61 [.c (.d (.sl (xs.map aj.enc)))] (.dN [(false,[.d (.sl ((eY xs).map encS))]),(false,[.d (.b (allA xs))])]):=aC.of_le fun S=>by
 refine zcx [.tmp 2,.tmp 3] func61 ntmps61 ?_;refine W1 ?_;refine W3 ?_;refine lQ 4 1 [] rfl (by simp) ?_
 refine aR (ι:=Nat) zmx rfl [0,4,5] (fun i=>[.c (.d (.sl (xs.map aj.enc))),.c (.bB (0,0) ((xs.take i).map za)),.c (.d (.i .i64 i))]) (fun i=>[.tok 1 ((xs.take i).map za)]::S)
  (fun i=>i<=xs.length/\∀j,∀hj:j<xs.length,j<i->xs[j].aG≠[]) (fun i=>xs.length-i) 0 rfl rfl ⟨Nat.zero_le _,fun j _ h=>by omega⟩ ?_
 rintro i ⟨p1,p2⟩;have hl:=MP (l:=xs) (i:=i);simp -implicitDefEqProofs (disch:=omega) only[go_sem,aj.aQ];refine S0 (fun hb h=>?_) fun hb h=>?_
 ·have hi':i<xs.length:=by omega
  have hs:=KT hi';refine W3 ?_;refine S0 (fun hb h=>?_) fun hb h=>?_
  ·obtain⟨e1,e2⟩:=aam hi' h;rw[e1,e2];exact(ig.cons (.cons (eT _) .nil) (.refl _)).less
  ·refine W3 ?_;rw[hs];refine bV (i+1) (by omega) rfl rfl ⟨by omega,fun j hj hji=> ?_⟩;by_cases e':j=i
   ·subst e';exact h
   ·exact p2 j hj (by omega)
 ·have hi':i=xs.length:=by omega
  subst hi';obtain⟨e1,e2⟩:=Xq fun j hj=>p2 j hj hj;rw[e1,e2,List.take_length];exact gu _
theorem rR(x:aj)(hx:x.sz<=4194304):aC prog 177 [x.v] (.c (.d (.sl ((eY x.ah).map encS)))):=fun S=>by
 have:=eD x;refine zcx [.tmp 2] func177 ntmps177 ?_;refine W1 ?_;exact C3 (EI x.ah (by omega))
theorem fG(x:aj)(i:Nat)(hx:x.sz<=4194304)(hi:i<=100):aC prog 62 [x.v,.c (.d (.i .i64 i))] (x.ah.getD i bT).v:=aC.of_le fun S=>by
 have:=eD x;refine zcx [.cell 4 64] func62 ntmps62 ?_;refine W1 ?_;refine S0 (fun hb h=>?_) fun hb h=>?_
 ·rw[List.getD_eq_getElem?_getD,List.getElem?_eq_none (by omega)];exact(fE.cons (.refl _) (.cons (eT _) .nil)).less
 ·have hi:i<x.ah.length:=by omega
  rw[List.getD_eq_getElem?_getD,List.getElem?_eq_getElem hi];exact gu _
theorem uR(a b:Int):aC prog 225 [.c (.d (.i .i64 a)),.c (.d (.i .i64 b))] (.c (.d (.i .i64 (min a b)))):=fun S=>by
 refine zcx [.tmp 4] func225 ntmps225 ?_;refine W1 ?_;refine S0 (fun hb h=>?_) fun hb h=>?_
 ·exact int_eq (by omega)
 ·exact int_eq (by omega)
theorem xW(x:aj)(i:Nat)(hx:x.sz<=4194304):aC prog 178 [x.v,.c (.d (.i .i64 i))] (.c (.d (.sl ((x.ah.drop i).map aj.enc)))):=fun S=>by
 have:=eD x;refine zcx [.tmp 4] func178 ntmps178 ?_;refine W1 ?_;refine aX (uR _ _) ?_
 have e:min (i:Int) (x.ah.length:Int)=((min i x.ah.length:Nat):Int):=by omega
 rw[e];have hr:=gJ (l:=x.ah);refine W1 ?_;refine W3 ?_;refine⟨⟨by omega,by omega,by omega,hr⟩,?_⟩;rw[oz _ _ _ (Nat.le_refl _)];by_cases h:i<=x.ah.length
 ·rw[Nat.min_eq_left h]
 ·rw[Nat.min_eq_right (by omega),List.drop_length,List.drop_of_length_le (by omega)]
theorem ac4(s:List UInt8):aC prog 227 [.c (.d (.s s)),.c (.d (.sl []))] (.agg [.d (.i .i64 2),.d (.s s),.d (.sl [])]):=aC.of_le fun S=>by
 refine zcx [.cell 4 103] func227 ntmps227 ?_;refine W1 ?_;refine W3 ?_;exact gu _
theorem ac5(s:List UInt8):aC prog 226 [.c (.d (.s s))] (.agg [.d (.i .i64 1),.d (.s s),.d (.sl [])]):=aC.of_le fun S=>by
 refine zcx [.cell 2 103] func226 ntmps226 ?_;refine W1 ?_;refine W3 ?_;exact aan _ _ _
theorem Jw:∀N:Nat,(∀x:aj,SizeOf.sizeOf x<N->x.sz<=4194304->aC prog 180 [x.v] (dP false x).v)
 |0=>fun x h=>by omega
 |N+1=>by
  have ih:=Jw N;intro x hn hsz;have kG:=aj.vI x;have h1:=eD x;have h2:=AQ x;have hx:=aal false x
  have hall:∀t∈x.ah,t.sz<=4194304:=fun t ht=>by have:=gZ ht;omega
  refine aC.of_le fun S=> ?_;refine zcx [.cell 2 103] func180 ntmps180 ?_;refine W1 ?_;refine S0 (fun hb h=>?_) fun hb h=>?_
  ·have hne:=h;rw[if_neg h] at hx;have h39:=anK h;have hln:0<x.aG.length:=List.length_pos_iff.2 hne;have hsl:=Qa x.aG x.aG.length (Nat.le_refl _);refine W3 ?_;refine S0 (fun hb h=>?_) fun hb h=>?_
   ·rw[if_pos (h39.1 h)] at hx;refine W3 ?_;rw[hsl];refine C1 (ac5 _) ?_;exact akg hx
   ·rw[if_neg (fun e=>h (h39.2 e))] at hx;refine C1 (ac4 _) ?_;exact akg hx
  rw[if_pos h] at hx;refine S0 (fun hb h=>?_) fun hb h=>?_
  ·rw[if_pos (by omega)] at hx;exact akf hx
  rw[if_neg (by omega)] at hx
  have hl2:2<=x.ah.length:=by omega
  have a0:=jM (l:=x.ah) (i:=0) (by omega);have a1:=jM (l:=x.ah) (i:=1) (by omega);obtain⟨T,hT⟩:∃T:Nat->List (List D),T=fun i=>(((x.ah.map (dP false)).drop 1).take i).map ak.enc:=⟨_,rfl⟩
  have hT0:T 0=[]:=by rw[hT];rfl
  have fP:∀i,(T i).length<=i:=fun i=>by rw[hT];simp only[List.length_map];exact List.length_take_le _ _
  have hTr:∀i,∀r∈T i,r.length=3:=fun i=>by
   rw[hT];intro r hr;obtain⟨z,_,rfl⟩:=List.mem_map.1 hr;exact z.eB
  have hTs:∀i (hi:i+1<x.ah.length),T i++[[.i .i64 (dP false x.ah[i+1]).aM,.s (dP false x.ah[i+1]).fName,.sl ((dP false x.ah[i+1]).fArgs.map ak.enc)]]=T (i+1):=fun i hi=>by
   have:=Tm (l:=(x.ah.map (dP false)).drop 1) (i:=i) (by rw[List.length_drop,List.length_map];omega);rw[List.getElem_drop,List.getElem_map] at this;rw[hT];simp only[Nat.add_comm 1 i] at this ⊢;exact this
  have hTe:T (x.ah.length-1)=((x.ah.map (dP false)).drop 1).map ak.enc:=by
   rw[hT];simp only
   rw[List.take_of_length_le (by simp)]
  have hTn:(T (x.ah.length-1)).length=x.ah.length-1:=by rw[hTe];simp
  have hTd:(T (x.ah.length-1)).drop 1=((x.ah.map (dP false)).drop 2).map ak.enc:=by rw[hTe,<-List.map_drop,List.drop_drop]
  clear hT;refine W3 ?_;refine lQ 4 3 [] rfl (by simp) ?_
  refine aR (ι:=Nat) zmx rfl [1,2,3,4,5] (fun i=>[.c (.ptr (0,0) 0),.c (.ptr (0,1) 0),.c (.d (.s x.ah[0].aG)),.c (.bB (0,2) (T i)),.c (.d (.i .i64 ((i+1:Nat):Int)))])
   (fun i=>[.box [.d (.s x.aG),.d (.sl (x.ah.map aj.enc))],.box [.d (.i .i64 0),.d (.s []),.bn []],.tok 3 (T i)]::S)
   (fun i=>i+1<=x.ah.length) (fun i=>x.ah.length-(i+1)) 0 (by rw[hT0];rfl) (by rw[hT0];rfl) (by omega) ?_
  intro i hi;have hl:=fP i;refine W1 ?_;refine S0 (fun hb h=>?_) fun hb h=>?_
  ·have hi':i+1<x.ah.length:=by omega
   have hm:=List.getElem_mem hi';have hs:=hTs i hi';refine W3 ?_;refine aX (ih x.ah[i+1] (by have:=List.sizeOf_lt_of_mem hm;omega) (hall _ hm)) ?_;simp -implicitDefEqProofs (disch:=omega) only[go_sem,ak.aQ];refine W3 ?_;rw[hs];exact bV (i+1) (by omega) rfl rfl (by omega)
  have hi':i=x.ah.length-1:=by omega
  subst hi';have hrows:=hTr (x.ah.length-1);have hta:((T (x.ah.length-1)).take (x.ah.length-1))=T (x.ah.length-1):=List.take_of_length_le (by omega);rw[a0,a1] at hx;have tD:x.ah[0].aG=[100,121,110]/\x.ah.length=2/\x.ah[1].aG≠[]->dP false x=.mk 4 x.ah[1].aG []:=fun e=>hx.trans (if_pos ⟨e.1,.inr e.2⟩)
  have tA:x.ah[0].aG=[97,115,115,111,99]/\x.ah.length=3/\x.ah[1].aG≠[]->dP false x=.mk 3 x.ah[1].aG ((x.ah.map (dP false)).drop 2):=fun e=>by
   rw[hx,if_neg (fun e'=>by have:=e'.1.symm.trans e.1;revert this;decide),if_pos ⟨e.1,.inr e.2⟩]
  have tN:¬(x.ah[0].aG=[100,121,110]/\x.ah.length=2/\x.ah[1].aG≠[])->¬(x.ah[0].aG=[97,115,115,111,99]/\x.ah.length=3/\x.ah[1].aG≠[])->dP false x=.mk 2 x.ah[0].aG ((x.ah.map (dP false)).drop 1):=fun e1 e2=>by
   rw[hx,if_neg (fun e'=>e1 ⟨e'.1,e'.2.resolve_left (by decide)⟩),if_neg (fun e'=>e2 ⟨e'.1,e'.2.resolve_left (by decide)⟩)]
  clear hx hTs ih
  repeat' (first|(refine S0 (fun hb h=>?_) fun hb h=>?_))
  all_goals first
   |(refine⟨⟨by omega,by omega,hrows⟩,?_⟩;refine anL (tA ⟨by assumption,by omega,by assumption⟩) ?_;rw[hTn,hta,hTd];exact gu _)
   |exact akf (tD ⟨by assumption,by omega,by assumption⟩)
   |(refine anL (tN (fun⟨a,b,c⟩=>by first|contradiction|omega) (fun⟨a,b,c⟩=>by first|contradiction|omega)) ?_;rw[hTe];exact gu _)
   |trace_state
theorem qd(x:aj)(hsz:x.sz<=4194304):aC prog 180 [x.v] (dP false x).v:=Jw _ x (Nat.lt_succ_self _) hsz
theorem Jy(xs:List aj)(hlen:xs.length<=4194304)(hsz:∀t∈xs,t.sz<=4194304):aC prog 179 [.c (.d (.sl (xs.map aj.enc)))] (.c (.d (.sl ((xs.map (dP false)).map ak.enc)))):=fun S=>by
 refine zcx [.tmp 2] func179 ntmps179 ?_;refine W1 ?_;refine W3 ?_;refine lQ 3 3 [] rfl (by simp) ?_
 refine aR (ι:=Nat) zmx rfl [0,3,4] (fun i=>[.c (.d (.sl (xs.map aj.enc))),.c (.bB (0,0) (((xs.map (dP false)).take i).map ak.enc)),.c (.d (.i .i64 i))]) (fun i=>[.tok 3 (((xs.map (dP false)).take i).map ak.enc)]::S)
  (fun i=>i<=xs.length) (fun i=>xs.length-i) 0 rfl rfl (Nat.zero_le _) ?_
 intro i hi
 have hl:(((xs.map (dP false)).take i).map ak.enc).length<=i:=by rw[List.length_map];exact List.length_take_le _ _
 refine W1 ?_;refine S0 (fun hb h=>?_) fun hb h=>?_
 ·have hi':i<xs.length:=by omega
  have hs:=Tm (l:=xs.map (dP false)) (i:=i) (by rw[List.length_map];exact hi');rw[List.getElem_map] at hs;refine W3 ?_;refine C1 (qd xs[i] (hsz _ (List.getElem_mem hi'))) ?_;refine W3 ?_;rw[hs];exact bV (i+1) (by omega) rfl rfl (by omega)
 ·have hi':i=(xs.map (dP false)).length:=by rw[List.length_map];omega
  rw[hi',List.take_length]
theorem Qc(s:List UInt8)(hs:s.length<=1073741824):aC prog 265 [.c (.d (.s s)),.c (.d (.s [39]))] (.c (.d (.b (decide (s.head? =some 39))))):=fun S=>by
 refine zcx [.tmp 4] func265 ntmps265 ?_;refine W1 ?_;refine S0 (fun hb h=>?_) fun hb h=>?_
 ·exact aH (decide_eq_decide.2 (Zp (by omega)))
 ·have:s=[]:=List.eq_nil_of_length_eq_zero (by omega);subst this;rfl
theorem Qd(s:List UInt8)(hs:s.length<=1073741824):aC prog 243 [.c (.d (.s s)),.c (.d (.s [39]))] (.dN [(false,[.d (.s (if s.head? =some 39 then s.tail else s))]),(false,[.d (.b (decide (s.head? =some 39)))])]):=fun S=>by
 refine zcx [.tmp 4,.tmp 5] func243 ntmps243 ?_;refine W1 ?_;refine C1 (Qc s hs) ?_;refine S0 (fun hb h=>?_) fun hb h=>?_
 ·rw[if_neg h,decide_eq_false h]
 ·have hl:0<s.length:=by
   cases s with
   |nil=>cases h
   |cons _ _=>simp
  refine W3 ?_;rw[if_pos h,decide_eq_true h,Qa _ _ (Nat.le_refl _)]
theorem Xr(s:List UInt8)(hs:s.length<=1073741824):aC prog 205 [.c (.d (.s s)),.c (.d (.s [39]))] (.dN [(false,[.d (.s (if s.head? =some 39 then s.tail else s))]),(false,[.d (.b (decide (s.head? =some 39)))])]):=fun S=>by
 refine zcx [.tmp 4,.tmp 5] func205 ntmps205 ?_;refine W1 ?_;exact C3 (Qd s hs)
theorem zX(xs:List aj)(hx:xs.length<=1073741824)(n:Nat):aC prog 55 [.c (.d (.sl (xs.map aj.enc)))] (.dN [(false,[.d (.ol n ((eY xs).map encS))]),(false,[.d (.b (allA xs))])]):=aC.of_le fun S=>by
 refine lU (n) (rs:=[.tmp 2,.tmp 3]) zmx func55 ntmps55 rfl rfl rfl rfl rfl ?_;refine W1 ?_;refine W3 ?_;refine lD n 4 1 [] (.inl rfl) (by simp) ?_
 refine aR (ι:=Nat) zmx rfl [4,8,9,10] (fun i=>[.c (.bB (0,1) ((xs.take i).map za)),.c (.d (.sl (xs.map aj.enc))),.c (.d (.i .i64 xs.length)),.c (.d (.i .i64 i))]) (fun i=>[.seed n,.eu n 1 ((xs.take i).map za)]::S)
  (fun i=>i<=xs.length/\∀j,∀hj:j<xs.length,j<i->xs[j].aG≠[]) (fun i=>xs.length-i) 0 rfl rfl ⟨Nat.zero_le _,fun j _ h=>by omega⟩ ?_
 rintro i ⟨p1,p2⟩;have hl:=MP (l:=xs) (i:=i);simp -implicitDefEqProofs (disch:=omega) only[go_sem,aj.aQ];refine S0 (fun hb h=>?_) fun hb h=>?_
 ·have hi':i<xs.length:=by omega
  have hs:=KT hi';refine W3 ?_;refine S0 (fun hb h=>?_) fun hb h=>?_
  ·obtain⟨e1,e2⟩:=aam hi' h;rw[e1,e2];exact(ig.cons (.cons (dR n) .nil) (.refl _)).less
  ·refine W3 ?_;rw[hs];refine bL 2 (by decide) (i+1) (by omega) rfl rfl rfl rfl ⟨by omega,fun j hj hji=> ?_⟩;by_cases e':j=i
   ·subst e';exact h
   ·exact p2 j hj (by omega)
 ·have hi':i=xs.length:=by omega
  subst hi';obtain⟨e1,e2⟩:=Xq fun j hj=>p2 j hj hj;rw[e1,e2,List.take_length];exact gu _
theorem qD(x:aj)(hx:x.sz<=4194304)(n:Nat):aC prog 153 [x.v] (.c (.d (.ol n ((eY x.ah).map encS)))):=fun S=>by
 have:=eD x;refine zcx [.tmp 2] func153 ntmps153 ?_;refine W1 ?_;exact C3 (zX x.ah (by omega) n)
theorem Zq(s:List UInt8)(n:Nat):aC prog 206 [.c (.d (.s s))] (.agg [.d (.i .i64 1),.d (.s s),.d (.ol n [])]):=aC.of_le fun S=>by
 refine zcx [.cell 2 103] func206 ntmps206 ?_;refine W1 ?_;refine W3 ?_;exact Rs _ _ _
theorem Zr(s:List UInt8)(n:Nat):aC prog 207 [.c (.d (.s s))] (.agg [.d (.i .i64 4),.d (.s s),.d (.ol n [])]):=aC.of_le fun S=>by
 refine zcx [.cell 2 103] func207 ntmps207 ?_;refine W1 ?_;refine W3 ?_;exact Rs _ _ _
theorem CJ:∀N:Nat,(∀x:aj,SizeOf.sizeOf x<N->∀n:Nat,x.sz<=4194304->aC prog 155 [x.v] ((dP true x).vl n))/\
 (∀xs:List aj,SizeOf.sizeOf xs<N->∀n q:Nat,xs.length<=4194304->(∀t∈xs,t.sz<=4194304)->aC prog 154 [.c (.d (.sl (xs.map aj.enc)))] (.c (.d (.ol n (lt (xs.map (dP true)) q)))))
 |0=>⟨fun x h=>by omega,fun x h=>by omega⟩
 |N+1=>by
  obtain⟨ih,qj⟩:=CJ N;refine⟨fun x hn n hsz=>aC.of_le fun S=> ?_,fun xs hn n q hlen hsz S=> ?_⟩
  ·have kG:=aj.vI x;have h1:=eD x;have h2:=AQ x;have hx:=aal true x
   have hall:∀t∈x.ah,t.sz<=4194304:=fun t ht=>by have:=gZ ht;omega
   refine zcx [.cell 2 103] func155 ntmps155 ?_;refine W1 ?_;refine S0 (fun hb h=>?_) fun hb h=>?_
   ·rw[if_neg h] at hx;refine C1 (Xr x.aG (by omega)) ?_;refine S0 (fun hb h=>?_) fun hb h=>?_
    ·rw[if_pos h] at hx ⊢;refine C1 (Zq _ n) ?_;exact afS hx
    ·rw[if_neg h] at hx;refine W3 ?_;exact afR hx
   rw[if_pos h] at hx;refine S0 (fun hb h=>?_) fun hb h=>?_
   ·rw[if_pos (by omega)] at hx;exact afR hx
   rw[if_neg (by omega)] at hx
   have hl2:2<=x.ah.length:=by omega
   have a0:=jM (l:=x.ah) (i:=0) (by omega);have a1:=jM (l:=x.ah) (i:=1) (by omega);rw[a0,a1] at hx;have hr:=gJ (l:=x.ah);have hd:=fun i=>oz x.ah x.ah.length i (Nat.le_refl _);have hso:=fun i=>Bu i x.ah
   have hdl:∀i,(x.ah.drop i).length<=4194304:=fun i=>by rw[List.length_drop];omega
   have hda:∀i,∀t∈x.ah.drop i,t.sz<=4194304:=fun i t ht=>hall t (List.mem_of_mem_drop ht);refine W3 ?_;refine S0 (fun hb h=>?_) fun hb h=>?_
   ·have hx:=hx.trans (if_pos ⟨h,.inl rfl⟩);refine W3 ?_;refine C1 (Zr _ n) ?_;exact afS hx
   have hx:=hx.trans (if_neg fun e=>h e.1);refine S0 (fun hb h=>?_) fun hb h=>?_
   ·have hx:=hx.trans (if_pos ⟨h,.inl rfl⟩);refine⟨⟨by omega,by omega,hr⟩,?_⟩;rw[hd];refine C1 (qj (x.ah.drop 2) (by have:=hso 2;omega) n (n+1) (hdl 2) (hda 2)) ?_;refine akh hx ?_;rw[List.map_drop];exact gu _
   ·have hx:=hx.trans (if_neg fun e=>h e.1);refine⟨⟨by omega,by omega,hr⟩,?_⟩;rw[hd];refine C1 (qj (x.ah.drop 1) (by have:=hso 1;omega) n (n+1) (hdl 1) (hda 1)) ?_;refine akh hx ?_;rw[List.map_drop];exact gu _
  ·have Dt:=fun(i:Nat) (hi:i<xs.length)=>alQ (l:=xs.map (dP true)) (i:=i) (by rw[List.length_map];exact hi) q;refine lU (n) (rs:=[.tmp 2]) zmx func154 ntmps154 rfl rfl rfl rfl rfl ?_;refine W1 ?_;refine W3 ?_;refine lD n 3 3 [] (.inl rfl) (by simp) ?_
   refine aR (ι:=Nat) zmx rfl [3,7,8,9] (fun i=>[.c (.bB (0,1) (lt ((xs.map (dP true)).take i) q)),.c (.d (.sl (xs.map aj.enc))),.c (.d (.i .i64 xs.length)),.c (.d (.i .i64 i))]) (fun i=>[.seed n,.eu n 3 (lt ((xs.map (dP true)).take i) q)]::S)
    (fun i=>i<=xs.length) (fun i=>xs.length-i) 0 rfl rfl (Nat.zero_le _) ?_
   intro i hi;simp -implicitDefEqProofs (disch:=omega) only[go_sem,aj.aQ];refine S0 (fun hb h=>?_) fun hb h=>?_
   ·have hi':i<xs.length:=by omega
    have hs:=Dt i hi';rw[List.getElem_map] at hs
    have hl:(lt ((xs.map (dP true)).take i) q).length<=i:=by rw[afQ];exact List.length_take_le _ _
    refine W3 ?_;refine C1 (ih xs[i] (by have:=List.sizeOf_lt_of_mem (List.getElem_mem hi');omega) (q+fZ ((xs.map (dP true)).take i)) (hsz _ (List.getElem_mem hi'))) ?_;refine W3 ?_;rw[hs];exact bL 2 (by decide) (i+1) (by omega) rfl rfl rfl rfl (by omega)
   ·have hi':i=(xs.map (dP true)).length:=by rw[List.length_map];omega
    rw[hi',List.take_length]
theorem qE(x:aj)(n:Nat)(hsz:x.sz<=4194304):aC prog 155 [x.v] ((dP true x).vl n):=(CJ _).1 x (Nat.lt_succ_self _) n hsz
theorem G8(xs:List aj)(n q:Nat)(hlen:xs.length<=4194304)(hsz:∀t∈xs,t.sz<=4194304):aC prog 154 [.c (.d (.sl (xs.map aj.enc)))] (.c (.d (.ol n (lt (xs.map (dP true)) q)))):=(CJ _).2 xs (Nat.lt_succ_self _) n q hlen hsz
theorem uS(x:aj)(s:List UInt8)(k:Nat)(hk:1<=k)(hk2:k<=100)(hsz:x.sz<=4194304):aC prog 54 [x.v,.c (.d (.s s)),.c (.d (.i .i64 k))] (.c (.d (.b (dec (dI x=true/\k<=x.ah.length/\dK x.ah 0=s))))):=fun S=>by
 have h1:=eD x;obtain⟨t,ht⟩:∃t,t=dec (dI x=true/\k<=x.ah.length/\dK x.ah 0=s):=⟨_,rfl⟩;rw[<-ht];refine zcx [.tmp 6] func54 ntmps54 ?_;refine W1 ?_;refine C1 (qB x (by omega)) ?_;refine S0 (fun hb h=>?_) fun hb h=>?_
 ·have hv:=h;refine S0 (fun hb h=>?_) fun hb h=>?_
  ·have hl:0<x.ah.length:=by omega
   have hl2:k<=x.ah.length:=by omega
   have a0:=jM hl;refine W3 ?_;refine aH ?_;rw[j5,ht];exact iC ⟨fun e=>⟨hv,hl2,by rw[a0];exact e⟩,fun e=>by rw[<-a0];exact e.2.2⟩
  ·exact aH (ht.trans (aK fun e=>by omega)).symm
 ·exact aH (ht.trans (aK fun e=>by rw[e.1] at h;cases h)).symm
theorem qz(b:Bool)(x:aj):eU b x=if x.aG=[] then
 if b=true/\(x.ah.length<2\/dK x.ah 0=jw/\x.ah.length<3) then l6
 else if dK x.ah 0=pJ then .mk 4 [] (dK x.ah 1) 0 jd ((x.ah.map (eU b)).drop 2) []
 else if dK x.ah 0=sU then .mk 6 [] (dK x.ah 1) 0 jd ((x.ah.map (eU b)).drop 2) []
 else if dK x.ah 0=sV then .mk 8 [] (dK x.ah 1) 0 jd ((x.ah.map (eU b)).drop 2) []
 else if dK x.ah 0=pK then .mk 11 (dK x.ah 1) [] 0 jd ((x.ah.map (eU b)).drop 2) []
 else if dK x.ah 0=jw then .mk 5 (dK x.ah 1) (dK x.ah 2) 0 jd ((x.ah.map (eU b)).drop 3) []
 else if dK x.ah 0=xU then .mk 9 [] [] 0 jd ((x.ah.map (eU b)).drop 1) []
 else if dK x.ah 0=ug then .mk 12 [] [] 0 (dP b (x.ah.getD 1 bT)) ((x.ah.map (eU b)).drop 2) []
 else if dK x.ah 0=lI then .mk 7 [] [] 0 jd (((x.ah.map (eU b)).drop 1).take 1) ((x.ah.map (rP b)).drop 2)
 else .mk 10 [] (dK x.ah 0) 0 jd ((x.ah.map (eU b)).drop 1) []
 else match iy x.aG with
  |some n=>.mk 1 [] [] n jd [] []
  |none=>if x.aG=Bt then .mk 2 [] [] 1 jd [] [] else if x.aG=zU then .mk 2 [] [] 0 jd [] [] else .mk 3 [] x.aG 0 jd [] []:=by
 cases x;rw[eU,Cc,Fz];rfl
theorem aao(b:Bool)(x:aj)(h:2<=x.ah.length):rP b x=.mk (dK x.ah 0) (eY ((x.ah.drop 1).dropLast)) (eU b (x.ah[x.ah.length-1]'(by omega))):=by
 obtain⟨a,l⟩:=x;simp only[aj.ah] at h ⊢;rw[rP,if_neg (by omega),Cc];congr 1;rw[List.getLastD_eq_getLast?,List.getLast?_eq_getElem?,List.length_map,List.getElem?_eq_getElem (by rw[List.length_map];omega)]
 simp
theorem aap(b:Bool)(x:aj)(h:x.ah.length<2):rP b x=.mk [] [] l6:=by
 obtain⟨a,l⟩:=x;rw[rP];exact if_pos h
def xZ(b:Bool)(l:List aj):Prop:=¬(b=true/\(l.length<2\/dK l 0=jw/\l.length<3))
theorem Tn{b:Bool}{x:aj}(ha:x.aG=[])(hg:xZ b x.ah)(h:dK x.ah 0=pJ):eU b x=.mk 4 [] (dK x.ah 1) 0 jd ((x.ah.drop 2).map (eU b)) []:=by
 rw[qz,if_pos ha,if_neg hg,if_pos h];simp only[List.map_drop,List.map_take]
theorem Xt{b:Bool}{x:aj}(ha:x.aG=[])(hg:xZ b x.ah)(h:dK x.ah 0=sU):eU b x=.mk 6 [] (dK x.ah 1) 0 jd ((x.ah.drop 2).map (eU b)) []:=by
 rw[qz,if_pos ha,if_neg hg,if_neg (by rw[h];decide),if_pos h];simp only[List.map_drop,List.map_take]
theorem Xu{b:Bool}{x:aj}(ha:x.aG=[])(hg:xZ b x.ah)(h:dK x.ah 0=sV):eU b x=.mk 8 [] (dK x.ah 1) 0 jd ((x.ah.drop 2).map (eU b)) []:=by
 rw[qz,if_pos ha,if_neg hg,if_neg (by rw[h];decide),if_neg (by rw[h];decide),if_pos h];simp only[List.map_drop,List.map_take]
theorem Tp{b:Bool}{x:aj}(ha:x.aG=[])(hg:xZ b x.ah)(h:dK x.ah 0=pK):eU b x=.mk 11 (dK x.ah 1) [] 0 jd ((x.ah.drop 2).map (eU b)) []:=by
 rw[qz,if_pos ha,if_neg hg,if_neg (by rw[h];decide),if_neg (by rw[h];decide),if_neg (by rw[h];decide),if_pos h];simp only[List.map_drop,List.map_take]
theorem MQ{b:Bool}{x:aj}(ha:x.aG=[])(hg:xZ b x.ah)(h:dK x.ah 0=jw):eU b x=.mk 5 (dK x.ah 1) (dK x.ah 2) 0 jd ((x.ah.drop 3).map (eU b)) []:=by
 rw[qz,if_pos ha,if_neg hg,if_neg (by rw[h];decide),if_neg (by rw[h];decide),if_neg (by rw[h];decide),if_neg (by rw[h];decide),if_pos h];simp only[List.map_drop,List.map_take]
theorem aaq{b:Bool}{x:aj}(ha:x.aG=[])(hg:xZ b x.ah)(h:dK x.ah 0=xU):eU b x=.mk 9 [] [] 0 jd ((x.ah.drop 1).map (eU b)) []:=by
 rw[qz,if_pos ha,if_neg hg,if_neg (by rw[h];decide),if_neg (by rw[h];decide),if_neg (by rw[h];decide),if_neg (by rw[h];decide),if_neg (by rw[h];decide),if_pos h];simp only[List.map_drop,List.map_take]
theorem Xv{b:Bool}{x:aj}(ha:x.aG=[])(hg:xZ b x.ah)(h:dK x.ah 0=ug):eU b x=.mk 12 [] [] 0 (dP b (x.ah.getD 1 bT)) ((x.ah.drop 2).map (eU b)) []:=by
 rw[qz,if_pos ha,if_neg hg,if_neg (by rw[h];decide),if_neg (by rw[h];decide),if_neg (by rw[h];decide),if_neg (by rw[h];decide),if_neg (by rw[h];decide),if_neg (by rw[h];decide),if_pos h];simp only[List.map_drop,List.map_take]
theorem Tq{b:Bool}{x:aj}(ha:x.aG=[])(hg:xZ b x.ah)(h:dK x.ah 0=lI):eU b x=.mk 7 [] [] 0 jd (((x.ah.drop 1).take 1).map (eU b)) ((x.ah.drop 2).map (rP b)):=by
 rw[qz,if_pos ha,if_neg hg,if_neg (by rw[h];decide),if_neg (by rw[h];decide),if_neg (by rw[h];decide),if_neg (by rw[h];decide),if_neg (by rw[h];decide),if_neg (by rw[h];decide),if_neg (by rw[h];decide),if_pos h];simp only[List.map_drop,List.map_take]
theorem Tt{b:Bool}{x:aj}(ha:x.aG=[])(hg:xZ b x.ah)(h0:dK x.ah 0≠pJ)(h1:dK x.ah 0≠sU)(h2:dK x.ah 0≠sV)(h3:dK x.ah 0≠pK)(h4:dK x.ah 0≠jw)(h5:dK x.ah 0≠xU)(h6:dK x.ah 0≠ug)(h7:dK x.ah 0≠lI):eU b x=.mk 10 [] (dK x.ah 0) 0 jd ((x.ah.drop 1).map (eU b)) []:=by
 rw[qz,if_pos ha,if_neg hg,if_neg h0,if_neg h1,if_neg h2,if_neg h3,if_neg h4,if_neg h5,if_neg h6,if_neg h7];simp only[List.map_drop,List.map_take]
theorem Tv{x:aj}(ha:x.aG=[])(hg:¬xZ true x.ah):eU true x=l6:=by
 rw[qz,if_pos ha,if_pos (Decidable.not_not.1 hg)]
theorem Xw{b:Bool}{x:aj}{n:Int}(ha:x.aG≠[])(h:iy x.aG=some n):eU b x=.mk 1 [] [] n jd [] []:=by
 rw[qz,if_neg ha,h]
theorem Tw{b:Bool}{x:aj}(ha:x.aG≠[])(h:iy x.aG=none)(h1:x.aG=Bt):eU b x=.mk 2 [] [] 1 jd [] []:=by
 rw[qz,if_neg ha,h];exact if_pos h1
theorem Qe{b:Bool}{x:aj}(ha:x.aG≠[])(h:iy x.aG=none)(h1:x.aG≠Bt)(h2:x.aG=zU):eU b x=.mk 2 [] [] 0 jd [] []:=by
 rw[qz,if_neg ha,h];exact(if_neg h1).trans (if_pos h2)
theorem Xx{b:Bool}{x:aj}(ha:x.aG≠[])(h:iy x.aG=none)(h1:x.aG≠Bt)(h2:x.aG≠zU):eU b x=.mk 3 [] x.aG 0 jd [] []:=by
 rw[qz,if_neg ha,h];exact(if_neg h1).trans (if_neg h2)
def lE(l:List ay)(n:Nat):List (List D):=dX (l.map ay.enc) n
def lK(l:List ay):Nat:=jf (l.map ay.enc)
def lM(l:List aZ)(n:Nat):List (List D):=dX (l.map aZ.enc) n
def ac6(l:List aZ):Nat:=jf (l.map aZ.enc)
abbrev ay.vl(x:ay)(n:Nat):V:=.agg [.d (.i .i64 x.aM),.d (.s x.bG),.d (.s x.fName),.d (.i .i64 x.fN),.d (.i .i64 x.fType.aM),.d (.s x.fType.fName),.d (.ol n (lt x.fType.fArgs (n+1))),
 .d (.ol (n+(fZ x.fType.fArgs+1)) (lE x.fArgs (n+(fZ x.fType.fArgs+1)+1))),.d (.ol (n+(fZ x.fType.fArgs+1)+(lK x.fArgs+1)) (lM x.aS (n+(fZ x.fType.fArgs+1)+(lK x.fArgs+1)+1)))]
theorem Xy(x:ay)(n:Nat):fQ x.enc n=[.i .i64 x.aM,.s x.bG,.s x.fName,.i .i64 x.fN,.i .i64 x.fType.aM,.s x.fType.fName,.ol n (lt x.fType.fArgs (n+1)),
 .ol (n+(fZ x.fType.fArgs+1)) (lE x.fArgs (n+(fZ x.fType.fArgs+1)+1)),.ol (n+(fZ x.fType.fArgs+1)+(lK x.fArgs+1)) (lM x.aS (n+(fZ x.fType.fArgs+1)+(lK x.fArgs+1)+1))]:=by
 simp only[ay.aQ,ak.aQ,List.cons_append,List.nil_append,fQ,tZ,uP,Nat.add_zero,lt,lE,lM,fZ,lK]
theorem ajd(x:aZ)(n:Nat):fQ x.enc n=[.s x.dO,.ol n (x.aF.map encS)]++fQ x.fBody.enc (n+1):=by
 rw[aZ.aQ,MH];simp only[fQ,tZ,F3,uP,Nat.add_zero,uQ,wX,Nat.zero_add]
abbrev aZ.vl(x:aZ)(n:Nat):V:=.agg [.d (.s x.dO),.d (.ol n (x.aF.map encS)),.d (.i .i64 x.fBody.aM),.d (.s x.fBody.bG),.d (.s x.fBody.fName),.d (.i .i64 x.fBody.fN),.d (.i .i64 x.fBody.fType.aM),.d (.s x.fBody.fType.fName),.d (.ol (n+1) (lt x.fBody.fType.fArgs (n+1+1))),
 .d (.ol (n+1+(fZ x.fBody.fType.fArgs+1)) (lE x.fBody.fArgs (n+1+(fZ x.fBody.fType.fArgs+1)+1))),.d (.ol (n+1+(fZ x.fBody.fType.fArgs+1)+(lK x.fBody.fArgs+1)) (lM x.fBody.aS (n+1+(fZ x.fBody.fType.fArgs+1)+(lK x.fBody.fArgs+1)+1)))]
theorem afT(l:List ay)(n:Nat):(lE l n).length=l.length:=by unfold lE;rw[kC,List.length_map]
theorem afU(l:List aZ)(n:Nat):(lM l n).length=l.length:=by unfold lM;rw[kC,List.length_map]
theorem alR{l:List ay}{i:Nat}(hi:i<l.length)(n:Nat):lE (l.take i) n++[fQ l[i].enc (n+lK (l.take i))]=lE (l.take (i+1)) n:=by
 rw[List.take_succ_eq_append_getElem hi];unfold lE lK;rw[List.map_append,nQ];rfl
theorem alS{l:List aZ}{i:Nat}(hi:i<l.length)(n:Nat):lM (l.take i) n++[fQ l[i].enc (n+ac6 (l.take i))]=lM (l.take (i+1)) n:=by
 rw[List.take_succ_eq_append_getElem hi];unfold lM ac6;rw[List.map_append,nQ];rfl
theorem afV{l:List ay}{i:Nat}(hi:i<l.length):(l.take i).map ay.enc++[l[i].enc]=(l.take (i+1)).map ay.enc:=by
 rw[List.take_succ_eq_append_getElem hi,List.map_append];rfl
theorem afW{l:List aZ}{i:Nat}(hi:i<l.length):(l.take i).map aZ.enc++[l[i].enc]=(l.take (i+1)).map aZ.enc:=by
 rw[List.take_succ_eq_append_getElem hi,List.map_append];rfl
theorem ie0{x:ay}{n:Nat}{k N:Int}{tr nm:List UInt8}(h:x=.mk k tr nm N jd [] []):Less (.agg [.d (.i .i64 k),.d (.s tr),.d (.s nm),.d (.i .i64 N),.d (.i .i64 0),.d (.s []),.bn [],.bn [],.bn []]) (x.vl n):=by
 rw[h];exact(fE.cons (.refl _) (.cons (.refl _) (.cons (.refl _) (.cons (.refl _) (.cons (.refl _) (.cons (.refl _) (.cons (dR _) (.cons (dR _) (.cons (dR _) .nil))))))))).less
theorem Xz{x:ay}{n:Nat}{k N:Int}{tr nm:List UInt8}{args:List ay}(h:x=.mk k tr nm N jd args []):Less (.agg [.d (.i .i64 k),.d (.s tr),.d (.s nm),.d (.i .i64 N),.d (.i .i64 0),.d (.s []),.bn [],.d (.ol (n+1) (lE args (n+1+1))),.bn []]) (x.vl n):=by
 rw[h];exact(fE.cons (.refl _) (.cons (.refl _) (.cons (.refl _) (.cons (.refl _) (.cons (.refl _) (.cons (.refl _) (.cons (dR _) (.cons (.refl _) (.cons (dR _) .nil))))))))).less
theorem ie2{x:ay}{n:Nat}{k N:Int}{tr nm:List UInt8}{ty:ak}{args:List ay}(h:x=.mk k tr nm N ty args []):Less (.agg [.d (.i .i64 k),.d (.s tr),.d (.s nm),.d (.i .i64 N),.d (.i .i64 ty.aM),.d (.s ty.fName),.d (.ol n (lt ty.fArgs (n+1))),.d (.ol (n+(fZ ty.fArgs+1)) (lE args (n+(fZ ty.fArgs+1)+1))),.bn []]) (x.vl n):=by
 rw[h];exact(fE.cons (.refl _) (.cons (.refl _) (.cons (.refl _) (.cons (.refl _) (.cons (.refl _) (.cons (.refl _) (.cons (.refl _) (.cons (.refl _) (.cons (dR _) .nil))))))))).less
theorem ie3{x:ay}{n:Nat}{k N:Int}{tr nm:List UInt8}{args:List ay}{arms:List aZ}(h:x=.mk k tr nm N jd args arms):Less (.agg [.d (.i .i64 k),.d (.s tr),.d (.s nm),.d (.i .i64 N),.d (.i .i64 0),.d (.s []),.bn [],.d (.ol (n+1) (lE args (n+1+1))),.d (.ol (n+1+(lK args+1)) (lM arms (n+1+(lK args+1)+1)))]) (x.vl n):=by
 rw[h];exact(fE.cons (.refl _) (.cons (.refl _) (.cons (.refl _) (.cons (.refl _) (.cons (.refl _) (.cons (.refl _) (.cons (dR _) (.cons (.refl _) (.cons (.refl _) .nil))))))))).less
theorem se0{x:ay}{k N:Int}{tr nm:List UInt8}(h:x=.mk k tr nm N jd [] []):Less (.agg [.d (.i .i64 k),.d (.s tr),.d (.s nm),.d (.i .i64 N),.d (.i .i64 0),.d (.s []),.bn [],.bn [],.bn []]) x.v:=by
 rw[h];exact(fE.cons (.refl _) (.cons (.refl _) (.cons (.refl _) (.cons (.refl _) (.cons (.refl _) (.cons (.refl _) (.cons (eT _) (.cons (eT _) (.cons (eT _) .nil))))))))).less
theorem XA{x:ay}{k N:Int}{tr nm:List UInt8}{args:List ay}(h:x=.mk k tr nm N jd args []):Less (.agg [.d (.i .i64 k),.d (.s tr),.d (.s nm),.d (.i .i64 N),.d (.i .i64 0),.d (.s []),.bn [],.d (.sl (args.map ay.enc)),.bn []]) x.v:=by
 rw[h];exact(fE.cons (.refl _) (.cons (.refl _) (.cons (.refl _) (.cons (.refl _) (.cons (.refl _) (.cons (.refl _) (.cons (eT _) (.cons (.refl _) (.cons (eT _) .nil))))))))).less
theorem se2{x:ay}{k N:Int}{tr nm:List UInt8}{ty:ak}{args:List ay}(h:x=.mk k tr nm N ty args []):Less (.agg [.d (.i .i64 k),.d (.s tr),.d (.s nm),.d (.i .i64 N),.d (.i .i64 ty.aM),.d (.s ty.fName),.d (.sl (ty.fArgs.map ak.enc)),.d (.sl (args.map ay.enc)),.bn []]) x.v:=by
 rw[h];exact(fE.cons (.refl _) (.cons (.refl _) (.cons (.refl _) (.cons (.refl _) (.cons (.refl _) (.cons (.refl _) (.cons (.refl _) (.cons (.refl _) (.cons (eT _) .nil))))))))).less
theorem se3{x:ay}{k N:Int}{tr nm:List UInt8}{args:List ay}{arms:List aZ}(h:x=.mk k tr nm N jd args arms):Less (.agg [.d (.i .i64 k),.d (.s tr),.d (.s nm),.d (.i .i64 N),.d (.i .i64 0),.d (.s []),.bn [],.d (.sl (args.map ay.enc)),.d (.sl (arms.map aZ.enc))]) x.v:=by
 rw[h];exact(fE.cons (.refl _) (.cons (.refl _) (.cons (.refl _) (.cons (.refl _) (.cons (.refl _) (.cons (.refl _) (.cons (eT _) (.cons (.refl _) (.cons (.refl _) .nil))))))))).less
theorem Zt(l:List aj)(i:Nat):((l.map aj.enc).take l.length).drop (min i l.length)=(l.drop i).map aj.enc:=by
 rw[oz _ _ _ (Nat.le_refl _)];by_cases h:i<=l.length
 ·rw[Nat.min_eq_left h]
 ·rw[Nat.min_eq_right (by omega),List.drop_length,List.drop_of_length_le (by omega)]
theorem alT(l:List aj):((l.map aj.enc).take (min 2 l.length)).drop 1=((l.drop 1).take 1).map aj.enc:=by
 match l with
 |[]=>rfl
 |[x]=>rfl
 |x::y::l=>simp[show min 2 (l.length+1+1)=2 by omega]
theorem ac7(l:List aj)(i:Nat)(h:i<l.length+3):(l.map aj.enc++([[.s [],.sl []],[.s [],.sl []],[.s [],.sl []]]:List (List D))).getD i []=[.s (dK l i),.sl ((l.getD i bT).ah.map aj.enc)]:=by
 rw[List.getD_eq_getElem?_getD,List.getElem?_append];split
 ·rename_i hi;rw[List.length_map] at hi;rw[List.getElem?_map,List.getElem?_eq_getElem hi];simp only[Option.map_some,Option.getD_some];rw[aj.aQ,jM hi,List.getD_eq_getElem?_getD,List.getElem?_eq_getElem hi];rfl
 ·rename_i hi;rw[List.length_map] at hi;rw[G5 (by omega),List.getD_eq_getElem?_getD,List.getElem?_eq_none (by omega:l.length<=i),List.length_map]
  have:i-l.length=0\/i-l.length=1\/i-l.length=2:=by omega
  rcases this with e|e|e<;>rw[e]<;>rfl
theorem Tx(l:List aj)(h:2<=l.length):((l.map aj.enc).take ((l.length:Int)-1).toNat).drop 1=((l.drop 1).dropLast).map aj.enc:=by
 rw[show((l.length:Int)-1).toNat=l.length-1 by omega,<-List.map_take,<-List.map_drop,List.dropLast_eq_take,List.length_drop,List.drop_take]
theorem uT(x:aj)(i:Nat){m:Nat}(h:x.sz<=m):(x.ah.getD i bT).sz<=m:=by
 have:=wW x.ah i;have:=eD x;omega
theorem wY{l:List aj}(h:iG l=true){t:aj}(ht:t∈l):gP t=true:=Dl.1 h t ht
theorem sN{l:List aj}(h:iG l=true)(i:Nat):iG (l.drop i)=true:=Dl.2 fun t ht=>wY h (List.mem_of_mem_drop ht)
theorem afX{l:List aj}(h:iG l=true)(i:Nat):iG (l.take i)=true:=Dl.2 fun t ht=>wY h (List.mem_of_mem_take ht)
theorem Ga{α:Type}[SizeOf α]:∀(i:Nat)(l:List α),SizeOf.sizeOf (l.take i)<=SizeOf.sizeOf l
 |0,[]=>by simp
 |0,x::l=>by rw[List.take_zero];simp only[List.cons.sizeOf_spec,List.nil.sizeOf_spec];omega
 |i+1,[]=>by simp
 |i+1,x::l=>by
  have:=Ga i l;rw[List.take_succ_cons];simp only[List.cons.sizeOf_spec];omega
theorem ac8(n:Int):aC prog 229 [.c (.d (.i .i64 n))] (.agg [.d (.i .i64 1),.d (.s []),.d (.s []),.d (.i .i64 n),.d (.i .i64 0),.d (.s []),.bn [],.bn [],.bn []]):=fun S=>by
 refine zcx [.cell 2 113] func229 ntmps229 ?_;exact Z1
theorem Zu(s:List UInt8):aC prog 230 [.c (.d (.s s))] (.agg [.d (.i .i64 3),.d (.s []),.d (.s s),.d (.i .i64 0),.d (.i .i64 0),.d (.s []),.bn [],.bn [],.bn []]):=fun S=>by
 refine zcx [.cell 2 113] func230 ntmps230 ?_;exact Z1
theorem KU:∀N:Nat,(∀x:aj,SizeOf.sizeOf x<N->x.sz<=4194304->aC prog 181 [x.v] (eU false x).v)/\
 (∀xs:List aj,SizeOf.sizeOf xs<N->xs.length<=4194304->(∀t∈xs,t.sz<=4194304)->aC prog 231 [.c (.d (.sl (xs.map aj.enc)))] (.c (.d (.sl ((xs.map (eU false)).map ay.enc)))))/\
 (∀x:aj,SizeOf.sizeOf x<N->x.sz<=4194304->aC prog 232 [x.v] (rP false x).v)
 |0=>⟨fun x h=>by omega,fun x h=>by omega,fun x h=>by omega⟩
 |N+1=>by
  obtain⟨ih,qj,ihM⟩:=KU N;refine⟨fun x hn hsz=>aC.of_le fun S=> ?_,fun xs hn hlen hsz S=> ?_,fun x hn hsz=>aC.of_le fun S=> ?_⟩
  ·have kG:=aj.vI x;have h1:=eD x;have h2:=AQ x
   have hall:∀t∈x.ah,t.sz<=4194304:=fun t ht=>by have:=gZ ht;omega
   have hr:=gJ (l:=x.ah);have hso:=fun i=>Bu i x.ah
   have hdl:∀i,(x.ah.drop i).length<=4194304:=fun i=>by rw[List.length_drop];omega
   have hda:∀i,∀t∈x.ah.drop i,t.sz<=4194304:=fun i t ht=>hall t (List.mem_of_mem_drop ht)
   have hg:xZ false x.ah:=fun e=>by cases e.1
   refine zcx [.cell 2 113] func181 ntmps181 ?_;refine W1 ?_;refine S0 (fun hb h=>?_) fun hb h=>?_
   ·have hne:=h;refine aX (P9 x.aG (by omega)) ?_
    cases Cb:iy x.aG with
    |some m=>
     simp -implicitDefEqProofs (disch:=omega) only[go_sem,Option.getD_some,Option.isSome_some];refine C1 (ac8 m) ?_;exact se0 (Xw hne Cb)
    |none=>
     simp -implicitDefEqProofs (disch:=omega) only[go_sem,Option.getD_none,Option.isSome_none];refine S0 (fun hb h=>?_) fun hb h=>?_
     ·exact se0 (Tw hne Cb h)
     have k1:=h;refine S0 (fun hb h=>?_) fun hb h=>?_
     ·exact se0 (Qe hne Cb k1 h)
     have k2:=h;refine C1 (Zu _) ?_;exact se0 (Xx hne Cb k1 k2)
   have ha:=h;have l0:=ac7 x.ah 0 (by omega);have l1:=ac7 x.ah 1 (by omega);have l2:=ac7 x.ah 2 (by omega)
   have hm1:min (1:Int) (x.ah.length:Int)=((min 1 x.ah.length:Nat):Int):=by omega
   have hm2:min (2:Int) (x.ah.length:Int)=((min 2 x.ah.length:Nat):Int):=by omega
   have hm3:min (3:Int) (x.ah.length:Int)=((min 3 x.ah.length:Nat):Int):=by omega
   have hd:=fun i=>Zt x.ah i;have hdd:=oz x.ah x.ah.length 1 (Nat.le_refl _);simp -implicitDefEqProofs (disch:=omega) only[go_sem,l0,l1,l2];refine W3 ?_
   with_reducible refine dZ (fun hb=> ?_) (fun hb=> ?_)<;>have h:=hb<;>(try simp only[wf_preprocess] at h)<;>simp -implicitDefEqProofs (disch:=omega) only[go_sem,hb,l0,l1,l2]<;>refine W3 ?_
   ·refine aX (uR _ _) ?_;rw[hm2];refine W1 ?_;refine⟨⟨by omega,by omega,by omega,hr⟩,?_⟩;rw[hd];refine C1 (qj (x.ah.drop 2) (by have:=hso 2;omega) (hdl 2) (hda 2)) ?_;exact XA (Tn ha hg h)
   have ac9:=h
   with_reducible refine dZ (fun hb=> ?_) (fun hb=> ?_)<;>have h:=hb<;>(try simp only[wf_preprocess] at h)<;>simp -implicitDefEqProofs (disch:=omega) only[go_sem,hb,l0,l1,l2]<;>refine W3 ?_
   ·refine aX (uR _ _) ?_;rw[hm3];refine W1 ?_;refine⟨⟨by omega,by omega,by omega,hr⟩,?_⟩;rw[hd];refine C1 (qj (x.ah.drop 3) (by have:=hso 3;omega) (hdl 3) (hda 3)) ?_;exact XA (MQ ha hg h)
   have LU:=h
   with_reducible refine dZ (fun hb=> ?_) (fun hb=> ?_)<;>have h:=hb<;>(try simp only[wf_preprocess] at h)<;>simp -implicitDefEqProofs (disch:=omega) only[go_sem,hb,l0,l1,l2]<;>refine W3 ?_
   ·refine aX (uR _ _) ?_;rw[hm2];refine W1 ?_;refine⟨⟨by omega,by omega,by omega,hr⟩,?_⟩;rw[hd];refine C1 (qj (x.ah.drop 2) (by have:=hso 2;omega) (hdl 2) (hda 2)) ?_;exact XA (Xt ha hg h)
   have nNew:=h
   with_reducible refine dZ (fun hb=> ?_) (fun hb=> ?_)<;>have h:=hb<;>(try simp only[wf_preprocess] at h)<;>simp -implicitDefEqProofs (disch:=omega) only[go_sem,hb,l0,l1,l2]<;>refine W3 ?_
   ·refine aX (uR _ _) ?_;rw[hm2];refine W1 ?_;refine⟨⟨by omega,by omega,by omega,hr⟩,?_⟩;rw[hd];refine C1 (qj (x.ah.drop 2) (by have:=hso 2;omega) (hdl 2) (hda 2)) ?_;exact XA (Xu ha hg h)
   have aje:=h
   with_reducible refine dZ (fun hb=> ?_) (fun hb=> ?_)<;>have h:=hb<;>(try simp only[wf_preprocess] at h)<;>simp -implicitDefEqProofs (disch:=omega) only[go_sem,hb,l0,l1,l2]<;>refine W3 ?_
   ·have hpos:0<x.ah.length:=by
     rcases Nat.eq_zero_or_pos x.ah.length with e|e
     ·rw[G5 (by omega)] at h;cases h
     ·exact e
    refine⟨⟨by omega,by omega,hr⟩,?_⟩;rw[hdd];refine C1 (qj (x.ah.drop 1) (by have:=hso 1;omega) (hdl 1) (hda 1)) ?_;exact XA (aaq ha hg h)
   have nIf:=h
   with_reducible refine dZ (fun hb=> ?_) (fun hb=> ?_)<;>have h:=hb<;>(try simp only[wf_preprocess] at h)<;>simp -implicitDefEqProofs (disch:=omega) only[go_sem,hb,l0,l1,l2]<;>refine W3 ?_
   ·refine aX (uR _ _) ?_;rw[hm2];refine W1 ?_;refine⟨⟨by omega,by omega,by omega,hr⟩,?_⟩;rw[hd];refine C1 (qj (x.ah.drop 2) (by have:=hso 2;omega) (hdl 2) (hda 2)) ?_;exact XA (Tp ha hg h)
   have ada:=h
   with_reducible refine dZ (fun hb=> ?_) (fun hb=> ?_)<;>have h:=hb<;>(try simp only[wf_preprocess] at h)<;>simp -implicitDefEqProofs (disch:=omega) only[go_sem,hb,l0,l1,l2]<;>refine W3 ?_
   ·refine C1 (qd (x.ah.getD 1 bT) (uT x 1 hsz)) ?_;refine aX (uR _ _) ?_;rw[hm2];refine W1 ?_;refine⟨⟨by omega,by omega,by omega,hr⟩,?_⟩;rw[hd];refine C1 (qj (x.ah.drop 2) (by have:=hso 2;omega) (hdl 2) (hda 2)) ?_;exact se2 (Xv ha hg h)
   have nThe:=h
   with_reducible refine dZ (fun hb=> ?_) (fun hb=> ?_)<;>have h:=hb<;>(try simp only[wf_preprocess] at h)<;>simp -implicitDefEqProofs (disch:=omega) only[go_sem,hb,l0,l1,l2]<;>refine W3 ?_
   ·have hpos:0<x.ah.length:=by
     rcases Nat.eq_zero_or_pos x.ah.length with e|e
     ·rw[G5 (by omega)] at h;cases h
     ·exact e
    have hdec:=Tq ha hg h;refine aX (uR _ _) ?_;rw[hm2];refine W1 ?_;refine⟨⟨by omega,by omega,hr⟩,?_⟩;rw[alT];refine C1 (qj ((x.ah.drop 1).take 1) (by have:=hso 1;have:=Ga 1 (x.ah.drop 1);omega) (by rw[List.length_take];omega) (fun t ht=>hda 1 t (List.mem_of_mem_take ht))) ?_;obtain⟨zy,adb⟩:∃zy,zy=((x.ah.drop 1).take 1).map (eU false):=⟨_,rfl⟩;obtain⟨T,hT⟩:∃T:Nat->List (List D),T=fun k=>(((x.ah.drop 2).map (rP false)).take k).map aZ.enc:=⟨_,rfl⟩
    have hT0:T 0=[]:=by rw[hT];rfl
    have fP:∀k,(T k).length<=k:=fun k=>by rw[hT];simp only[List.length_map];exact List.length_take_le _ _
    have hTs:∀k (hk:k+2<x.ah.length),T k++[(rP false x.ah[k+2]).enc]=T (k+1):=fun k hk=>by
     have:=afW (l:=(x.ah.drop 2).map (rP false)) (i:=k) (by rw[List.length_map,List.length_drop];omega);rw[List.getElem_map,List.getElem_drop] at this;rw[hT];simp only[Nat.add_comm 2 k] at this ⊢;exact this
    have hTe:T (x.ah.length-2)=((x.ah.drop 2).map (rP false)).map aZ.enc:=by
     rw[hT];simp only
     rw[List.take_of_length_le (by simp)]
    clear hT;rw[<-adb] at hdec ⊢;refine ow 3 8 11 _ rfl rfl ?_
    refine aR (ι:=Nat) zmx rfl [1,2,6,8,9] (fun k=>[.c (.ptr (0,0) 0),.c (.ptr (0,1) 0),.c (.d (.i .i64 x.ah.length)),.c (.ptr (0,3) 0),.c (.d (.i .i64 ((k+2:Nat):Int)))])
     (fun k=>[.box [.d (.s x.aG),.d (.sl (x.ah.map aj.enc))],.box [.d (.i .i64 0),.d (.s []),.d (.s []),.d (.i .i64 0),.d (.i .i64 0),.d (.s []),.bn [],.bn [],.bn []],.tok 2 (x.ah.map aj.enc++[[.s [],.sl []],[.s [],.sl []],[.s [],.sl []]]),
       .box [.d (.i .i64 7),.d (.s []),.d (.s []),.d (.i .i64 0),.d (.i .i64 0),.d (.s []),.bn [],.d (.sl (zy.map ay.enc)),.bB (0,4) (T k)],.tok 11 (T k)]::S)
     (fun k=>k<=x.ah.length-2) (fun k=>x.ah.length-(k+2)) 0 rfl (by rw[hT0];rfl) (Nat.zero_le _) ?_
    intro k hk;have hlk:=fP k;clear l0 l1 l2;refine W1 ?_;refine S0 (fun hb h=>?_) fun hb h=>?_
    ·have hk':k+2<x.ah.length:=by omega
     have hm:=List.getElem_mem hk';have hs:=hTs k hk';simp only[aZ.aQ,ay.aQ,ak.aQ,List.cons_append,List.nil_append] at hs;refine W3 ?_;refine C1 (ihM x.ah[k+2] (by have:=List.sizeOf_lt_of_mem hm;omega) (hall _ hm)) ?_;refine W3 ?_;rw[hs];exact bV (k+1) (by omega) rfl rfl (by omega)
    ·have hk':k=x.ah.length-2:=by omega
     subst hk';rw[hTe];exact se3 hdec
   have ade:=h;refine aX (uR _ _) ?_;rw[hm1];refine W1 ?_;refine⟨⟨by omega,by omega,by omega,hr⟩,?_⟩;rw[hd];refine C1 (qj (x.ah.drop 1) (by have:=hso 1;omega) (hdl 1) (hda 1)) ?_;exact XA (Tt ha hg ac9 nNew aje ada LU nIf nThe ade)
  ·have Dt:=fun(i:Nat) (hi:i<xs.length)=>afV (l:=xs.map (eU false)) (i:=i) (by rw[List.length_map];exact hi);refine zcx [.tmp 2] func231 ntmps231 ?_;refine W1 ?_;refine W3 ?_;refine lQ 3 9 [] rfl (by simp) ?_
   refine aR (ι:=Nat) zmx rfl [0,3,4] (fun i=>[.c (.d (.sl (xs.map aj.enc))),.c (.bB (0,0) (((xs.map (eU false)).take i).map ay.enc)),.c (.d (.i .i64 i))]) (fun i=>[.tok 9 (((xs.map (eU false)).take i).map ay.enc)]::S)
    (fun i=>i<=xs.length) (fun i=>xs.length-i) 0 rfl rfl (Nat.zero_le _) ?_
   intro i hi
   have hl:(((xs.map (eU false)).take i).map ay.enc).length<=i:=by rw[List.length_map];exact List.length_take_le _ _
   refine W1 ?_;refine S0 (fun hb h=>?_) fun hb h=>?_
   ·have hi':i<xs.length:=by omega
    have hs:=Dt i hi';rw[List.getElem_map] at hs;simp only[ay.aQ,ak.aQ,List.cons_append,List.nil_append] at hs;refine W3 ?_;refine C1 (ih xs[i] (by have:=List.sizeOf_lt_of_mem (List.getElem_mem hi');omega) (hsz _ (List.getElem_mem hi'))) ?_;refine W3 ?_;rw[hs];exact bV (i+1) (by omega) rfl rfl (by omega)
   ·have hi':i=(xs.map (eU false)).length:=by rw[List.length_map];omega
    rw[hi',List.take_length]
  ·have kG:=aj.vI x;have h1:=eD x
   have hall:∀t∈x.ah,t.sz<=4194304:=fun t ht=>by have:=gZ ht;omega
   have hr:=gJ (l:=x.ah);refine zcx [.cell 2 204] func232 ntmps232 ?_;refine W1 ?_;refine S0 (fun hb h=>?_) fun hb h=>?_
   ·rw[aap false x (by omega)];exact(fE.cons (.refl _) (.cons (eT _) (.cons (.refl _) (.cons (.refl _) (.cons (.refl _) (.cons (.refl _) (.cons (.refl _) (.cons (.refl _) (.cons (eT _) (.cons (eT _) (.cons (eT _) .nil))))))))))).less
   have hl2:2<=x.ah.length:=by omega
   have a0:=jM (l:=x.ah) (i:=0) (by omega);have hm:=List.getElem_mem (l:=x.ah) (n:=x.ah.length-1) (by omega);rw[aao false x hl2,a0];refine⟨⟨by omega,by omega,hr⟩,?_⟩;rw[Tx _ hl2];refine C1 (EI ((x.ah.drop 1).dropLast) (by rw[List.length_dropLast,List.length_drop];omega)) ?_;refine W3 ?_
   have el:((x.ah.length:Int)-1).toNat=x.ah.length-1:=by omega
   simp only[el];refine C1 (ih (x.ah[x.ah.length-1]) (by have:=List.sizeOf_lt_of_mem hm;omega) (hall _ hm)) ?_;exact gu _
theorem Gb(x:aj)(hsz:x.sz<=4194304):aC prog 181 [x.v] (eU false x).v:=(KU _).1 x (Nat.lt_succ_self _) hsz
end Go.Ab
namespace Go.Proofs
open Go.Shelf
def Tryz.lays172_ren:Go.Shelf.Ren:=⟨fun|172=>266|244=>287|245=>288|247=>300|279=>301|280=>302|281=>303|282=>304|287=>311|316=>312|171=>233|205=>313|321=>316|322=>317|243=>256|246=>281|283=>295|284=>296|285=>297|286=>298|129=>307|317=>306|318=>308|319=>309|320=>310|337=>314|338=>315|n=>n,fun|9=>9|3=>3|75=>127|76=>128|4=>4|5=>5|167=>280|37=>22|0=>0|85=>281|2=>2|168=>283|53=>274|175=>291|46=>131|210=>295|127=>171|145=>301|143=>299|21=>21|171=>273|173=>277|212=>287|51=>237|20=>20|213=>288|232=>302|233=>303|80=>124|n=>n,fun|15=>4|16=>5|17=>3|18=>6|19=>7|n=>n⟩
theorem Tryz.lays172:Go.Proofs.Lays.n172 prog Tryz.lays172_ren:={
 mixed:=by kernel_rfl
 f129:=func307.trans (congrArg some (by kernel_rfl))
 f171:=func233.trans (congrArg some (by kernel_rfl))
 f172:=func266.trans (congrArg some (by kernel_rfl))
 f205:=func313.trans (congrArg some (by kernel_rfl))
 f243:=func256.trans (congrArg some (by kernel_rfl))
 f244:=func287.trans (congrArg some (by kernel_rfl))
 f245:=func288.trans (congrArg some (by kernel_rfl))
 f246:=func281.trans (congrArg some (by kernel_rfl))
 f247:=func300.trans (congrArg some (by kernel_rfl))
 f279:=func301.trans (congrArg some (by kernel_rfl))
 f280:=func302.trans (congrArg some (by kernel_rfl))
 f281:=func303.trans (congrArg some (by kernel_rfl))
 f282:=func304.trans (congrArg some (by kernel_rfl))
 f283:=func295.trans (congrArg some (by kernel_rfl))
 f284:=func296.trans (congrArg some (by kernel_rfl))
 f285:=func297.trans (congrArg some (by kernel_rfl))
 f286:=func298.trans (congrArg some (by kernel_rfl))
 f287:=func311.trans (congrArg some (by kernel_rfl))
 f316:=func312.trans (congrArg some (by kernel_rfl))
 f317:=func306.trans (congrArg some (by kernel_rfl))
 f318:=func308.trans (congrArg some (by kernel_rfl))
 f319:=func309.trans (congrArg some (by kernel_rfl))
 f320:=func310.trans (congrArg some (by kernel_rfl))
 f321:=func316.trans (congrArg some (by kernel_rfl))
 f322:=func317.trans (congrArg some (by kernel_rfl))
 f337:=func314.trans (congrArg some (by kernel_rfl))
 f338:=func315.trans (congrArg some (by kernel_rfl))
 t0:=underlying0
 a0:=Tryz.isAgg0
 z0:=Tryz.sizeOf0
 v0:=Tryz.zeroValue0
 t2:=underlying2
 a2:=Tryz.isAgg2
 z2:=Tryz.sizeOf2
 v2:=Tryz.zeroValue2
 t3:=underlying3
 a3:=Tryz.isAgg3
 z3:=Tryz.sizeOf3
 v3:=Tryz.zeroValue3
 t4:=underlying4
 a4:=Tryz.isAgg4
 z4:=Tryz.sizeOf4
 v4:=Tryz.zeroValue4
 t5:=underlying5
 a5:=Tryz.isAgg5
 z5:=Tryz.sizeOf5
 v5:=Tryz.zeroValue5
 t9:=underlying9
 a9:=Tryz.isAgg9
 z9:=Tryz.sizeOf9
 v9:=Tryz.zeroValue9
 t20:=underlying20
 a20:=Tryz.isAgg20
 z20:=Tryz.sizeOf20
 v20:=Tryz.zeroValue20
 t21:=underlying21
 a21:=Tryz.isAgg21
 z21:=Tryz.sizeOf21
 v21:=Tryz.zeroValue21
 t37:=underlying22
 a37:=Tryz.isAgg22
 z37:=Tryz.sizeOf22
 v37:=Tryz.zeroValue22
 t46:=underlying131
 a46:=Tryz.isAgg131
 z46:=Tryz.sizeOf131
 v46:=Tryz.zeroValue131
 t51:=underlying237
 a51:=Tryz.isAgg237
 z51:=Tryz.sizeOf237
 v51:=Tryz.zeroValue237
 t53:=underlying274
 a53:=Tryz.isAgg274
 z53:=Tryz.sizeOf274
 v53:=Tryz.zeroValue274
 t75:=underlying127
 a75:=Tryz.isAgg127
 z75:=Tryz.sizeOf127
 v75:=Tryz.zeroValue127
 t76:=underlying128
 a76:=Tryz.isAgg128
 z76:=Tryz.sizeOf128
 v76:=Tryz.zeroValue128
 t85:=underlying281
 a85:=Tryz.isAgg281
 z85:=Tryz.sizeOf281
 v85:=Tryz.zeroValue281
 t127:=underlying171
 a127:=Tryz.isAgg171
 z127:=Tryz.sizeOf171
 v127:=Tryz.zeroValue171
 t143:=underlying299
 a143:=Tryz.isAgg299
 z143:=Tryz.sizeOf299
 v143:=Tryz.zeroValue299
 t145:=underlying301
 a145:=Tryz.isAgg301
 z145:=Tryz.sizeOf301
 v145:=Tryz.zeroValue301
 t167:=underlying280
 a167:=Tryz.isAgg280
 z167:=Tryz.sizeOf280
 v167:=Tryz.zeroValue280
 t168:=underlying283
 a168:=Tryz.isAgg283
 z168:=Tryz.sizeOf283
 v168:=Tryz.zeroValue283
 t171:=underlying273
 a171:=Tryz.isAgg273
 z171:=Tryz.sizeOf273
 v171:=Tryz.zeroValue273
 t173:=underlying277
 a173:=Tryz.isAgg277
 z173:=Tryz.sizeOf277
 v173:=Tryz.zeroValue277
 t175:=underlying291
 a175:=Tryz.isAgg291
 z175:=Tryz.sizeOf291
 v175:=Tryz.zeroValue291
 t210:=underlying295
 a210:=Tryz.isAgg295
 z210:=Tryz.sizeOf295
 v210:=Tryz.zeroValue295
 t212:=underlying287
 a212:=Tryz.isAgg287
 z212:=Tryz.sizeOf287
 v212:=Tryz.zeroValue287
 t213:=underlying288
 a213:=Tryz.isAgg288
 z213:=Tryz.sizeOf288
 t232:=underlying302
 a232:=Tryz.isAgg302
 z232:=Tryz.sizeOf302
 v232:=Tryz.zeroValue302
 t233:=underlying303
 a233:=Tryz.isAgg303
 z233:=Tryz.sizeOf303
 v233:=Tryz.zeroValue303
 g15:=by kernel_rfl
 g16:=by kernel_rfl
 g17:=by kernel_rfl
 g18:=by kernel_rfl
 g19:=by kernel_rfl}
open Go.RowKit in
theorem Tryz.strconv_Atoi(s:ByteArray)(n:Int)(hl:s.size<=18)(h:Lib.atoi s.data.toList=some n)(w:World):
 Calls prog 266 #[.string s] w fun e w'=>e=.returned (.tuple #[.int .i64 n,.nilIface])/\∃t,w'=Lib.bytesWorld w 5 t:=Any.strconv_Atoi Tryz.lays172 s n hl h w
def Tryz.laysC172_ren:Go.Shelf.Ren:=⟨fun|172=>266|244=>287|245=>288|247=>300|279=>301|280=>302|281=>303|282=>304|287=>311|316=>312|171=>233|205=>313|321=>316|322=>317|243=>256|246=>281|283=>295|284=>296|285=>297|286=>298|129=>307|317=>306|318=>308|319=>309|320=>310|337=>314|338=>315|n=>n,fun|9=>9|3=>3|75=>127|76=>128|4=>4|5=>5|167=>280|37=>22|0=>0|85=>281|2=>2|168=>283|53=>274|175=>291|46=>131|210=>295|127=>171|145=>301|143=>299|21=>21|171=>273|173=>277|212=>287|51=>237|20=>20|213=>288|232=>302|233=>303|80=>124|n=>n,fun|15=>4|16=>5|17=>3|18=>6|19=>7|n=>n⟩
theorem Tryz.laysC172:Go.Proofs.LaysC.n172 prog Tryz.laysC172_ren:={
 mixed:=by kernel_rfl
 f129:=func307.trans (congrArg some (by kernel_rfl))
 f171:=func233.trans (congrArg some (by kernel_rfl))
 f172:=func266.trans (congrArg some (by kernel_rfl))
 f205:=func313.trans (congrArg some (by kernel_rfl))
 f243:=func256.trans (congrArg some (by kernel_rfl))
 f244:=func287.trans (congrArg some (by kernel_rfl))
 f245:=func288.trans (congrArg some (by kernel_rfl))
 f246:=func281.trans (congrArg some (by kernel_rfl))
 f247:=func300.trans (congrArg some (by kernel_rfl))
 f279:=func301.trans (congrArg some (by kernel_rfl))
 f280:=func302.trans (congrArg some (by kernel_rfl))
 f281:=func303.trans (congrArg some (by kernel_rfl))
 f282:=func304.trans (congrArg some (by kernel_rfl))
 f283:=func295.trans (congrArg some (by kernel_rfl))
 f284:=func296.trans (congrArg some (by kernel_rfl))
 f285:=func297.trans (congrArg some (by kernel_rfl))
 f286:=func298.trans (congrArg some (by kernel_rfl))
 f287:=func311.trans (congrArg some (by kernel_rfl))
 f316:=func312.trans (congrArg some (by kernel_rfl))
 f317:=func306.trans (congrArg some (by kernel_rfl))
 f318:=func308.trans (congrArg some (by kernel_rfl))
 f319:=func309.trans (congrArg some (by kernel_rfl))
 f320:=func310.trans (congrArg some (by kernel_rfl))
 f321:=func316.trans (congrArg some (by kernel_rfl))
 f322:=func317.trans (congrArg some (by kernel_rfl))
 f337:=func314.trans (congrArg some (by kernel_rfl))
 f338:=func315.trans (congrArg some (by kernel_rfl))
 t0:=underlying0
 a0:=Tryz.isAgg0
 z0:=Tryz.sizeOf0
 v0:=Tryz.zeroValue0
 t2:=underlying2
 a2:=Tryz.isAgg2
 z2:=Tryz.sizeOf2
 v2:=Tryz.zeroValue2
 t3:=underlying3
 a3:=Tryz.isAgg3
 z3:=Tryz.sizeOf3
 v3:=Tryz.zeroValue3
 t4:=underlying4
 a4:=Tryz.isAgg4
 z4:=Tryz.sizeOf4
 v4:=Tryz.zeroValue4
 t5:=underlying5
 a5:=Tryz.isAgg5
 z5:=Tryz.sizeOf5
 v5:=Tryz.zeroValue5
 t9:=underlying9
 a9:=Tryz.isAgg9
 z9:=Tryz.sizeOf9
 v9:=Tryz.zeroValue9
 t20:=underlying20
 a20:=Tryz.isAgg20
 z20:=Tryz.sizeOf20
 v20:=Tryz.zeroValue20
 t21:=underlying21
 a21:=Tryz.isAgg21
 z21:=Tryz.sizeOf21
 v21:=Tryz.zeroValue21
 t37:=underlying22
 a37:=Tryz.isAgg22
 z37:=Tryz.sizeOf22
 v37:=Tryz.zeroValue22
 t46:=underlying131
 a46:=Tryz.isAgg131
 z46:=Tryz.sizeOf131
 v46:=Tryz.zeroValue131
 t51:=underlying237
 a51:=Tryz.isAgg237
 z51:=Tryz.sizeOf237
 v51:=Tryz.zeroValue237
 t53:=underlying274
 a53:=Tryz.isAgg274
 z53:=Tryz.sizeOf274
 v53:=Tryz.zeroValue274
 t75:=underlying127
 a75:=Tryz.isAgg127
 z75:=Tryz.sizeOf127
 v75:=Tryz.zeroValue127
 t76:=underlying128
 a76:=Tryz.isAgg128
 z76:=Tryz.sizeOf128
 v76:=Tryz.zeroValue128
 t85:=underlying281
 a85:=Tryz.isAgg281
 z85:=Tryz.sizeOf281
 v85:=Tryz.zeroValue281
 t127:=underlying171
 a127:=Tryz.isAgg171
 z127:=Tryz.sizeOf171
 v127:=Tryz.zeroValue171
 t143:=underlying299
 a143:=Tryz.isAgg299
 z143:=Tryz.sizeOf299
 v143:=Tryz.zeroValue299
 t145:=underlying301
 a145:=Tryz.isAgg301
 z145:=Tryz.sizeOf301
 v145:=Tryz.zeroValue301
 t167:=underlying280
 a167:=Tryz.isAgg280
 z167:=Tryz.sizeOf280
 v167:=Tryz.zeroValue280
 t168:=underlying283
 a168:=Tryz.isAgg283
 z168:=Tryz.sizeOf283
 v168:=Tryz.zeroValue283
 t171:=underlying273
 a171:=Tryz.isAgg273
 z171:=Tryz.sizeOf273
 v171:=Tryz.zeroValue273
 t173:=underlying277
 a173:=Tryz.isAgg277
 z173:=Tryz.sizeOf277
 v173:=Tryz.zeroValue277
 t175:=underlying291
 a175:=Tryz.isAgg291
 z175:=Tryz.sizeOf291
 v175:=Tryz.zeroValue291
 t210:=underlying295
 a210:=Tryz.isAgg295
 z210:=Tryz.sizeOf295
 v210:=Tryz.zeroValue295
 t212:=underlying287
 a212:=Tryz.isAgg287
 z212:=Tryz.sizeOf287
 v212:=Tryz.zeroValue287
 t213:=underlying288
 a213:=Tryz.isAgg288
 z213:=Tryz.sizeOf288
 t232:=underlying302
 a232:=Tryz.isAgg302
 z232:=Tryz.sizeOf302
 v232:=Tryz.zeroValue302
 t233:=underlying303
 a233:=Tryz.isAgg303
 z233:=Tryz.sizeOf303
 v233:=Tryz.zeroValue303
 g15:=by kernel_rfl
 g16:=by kernel_rfl
 g17:=by kernel_rfl
 g18:=by kernel_rfl
 g19:=by kernel_rfl
 t80:=underlying124
 a80:=Tryz.isAgg124
 z80:=Tryz.sizeOf124
 v80:=Tryz.zeroValue124
 i0:=by kernel_rfl
 i2:=by kernel_rfl
 i3:=by kernel_rfl
 i4:=by kernel_rfl
 i5:=by kernel_rfl
 i9:=by kernel_rfl
 i20:=by kernel_rfl
 i21:=by kernel_rfl
 i37:=by kernel_rfl
 i46:=by kernel_rfl
 i51:=by kernel_rfl
 i53:=by kernel_rfl
 i75:=by kernel_rfl
 i76:=by kernel_rfl
 i80:=by kernel_rfl
 i85:=by kernel_rfl
 i127:=by kernel_rfl
 i143:=by kernel_rfl
 i145:=by kernel_rfl
 i167:=by kernel_rfl
 i168:=by kernel_rfl
 i171:=by kernel_rfl
 i173:=by kernel_rfl
 i175:=by kernel_rfl
 i210:=by kernel_rfl
 i212:=by kernel_rfl
 i232:=by kernel_rfl
 i233:=by kernel_rfl
 m15:=by kernel_rfl
 m16:=by kernel_rfl
 m17:=by kernel_rfl
 m18:=by kernel_rfl
 m19:=by kernel_rfl
 c0:=by kernel_rfl
 c2:=by kernel_rfl
 c3:=by kernel_rfl
 c4:=by kernel_rfl
 c5:=by kernel_rfl
 c9:=by kernel_rfl
 c20:=by kernel_rfl
 c21:=by kernel_rfl
 c37:=by kernel_rfl
 c46:=by kernel_rfl
 c51:=by kernel_rfl
 c53:=by kernel_rfl
 c75:=by kernel_rfl
 c76:=by kernel_rfl
 c80:=by kernel_rfl
 c85:=by kernel_rfl
 c127:=by kernel_rfl
 c143:=by kernel_rfl
 c145:=by kernel_rfl
 c167:=by kernel_rfl
 c168:=by kernel_rfl
 c171:=by kernel_rfl
 c173:=by kernel_rfl
 c175:=by kernel_rfl
 c210:=by kernel_rfl
 c212:=by kernel_rfl
 c213:=by kernel_rfl
 c232:=by kernel_rfl
 c233:=by kernel_rfl}
open Go.RowKit in
theorem Tryz.strconv_Atoi_err_var(s:ByteArray)(hl:s.size<=18)(h:Lib.atoi s.data.toList=none)(tp:TypeId)(p:Value)(w:World)(hvar:w.var? prog "strconv.ErrSyntax" =some #[.iface tp p]):
 Calls prog 266 #[.string s] w fun e w'=>∃N,e=.returned (.tuple #[.int .i64 0,.iface 283 (.pointer (some ⟨N,0,none⟩))])/\w.heap.size<=N/\w'.heap[N]? =some (.cells #[.string ⟨#[65,116,111,105]⟩,.string s,.iface tp p] 295 (0,0))/\Below w.heap.size w w':=Any.strconv_Atoi_err_var Tryz.laysC172 s hl h tp p w hvar
end Go.Proofs
namespace Go.Ab
theorem Ut{w w':World}{σ:Nat->Nat}(hl:∀b,b<w.heap.size\/σ b=0)(h:Go.RowKit.Below w.heap.size w w'):Grow w σ w' σ:=
 ⟨h.size,h.os,h.output,fun b hb=>⟨h.block b hb,rfl⟩,fun b=>(hl b).elim (fun x=>.inl (Nat.lt_of_lt_of_le x h.size)) .inr⟩
theorem afY{x y z:V}{vs:List Value}{w:World}{σ:Nat->Nat}{S:Store}{β:Hs}(h:qh w σ S β [x,y,z] vs):∃u v t,vs=[u,v,t]/\dS w σ S β x u/\dS w σ S β y v/\dS w σ S β z t:=by
 obtain⟨hl,h⟩:=h;obtain⟨u,e0,h0⟩:=h 0 x rfl;obtain⟨v,e1,h1⟩:=h 1 y rfl;obtain⟨t,e2,h2⟩:=h 2 z rfl
 match vs,hl,e0,e1,e2 with
 |[a,b,c],_,e0,e1,e2=>simp at e0 e1 e2;subst e0;subst e1;subst e2;exact⟨_,_,_,rfl,h0,h1,h2⟩
theorem adf(n:Int)(h0: -9223372036854775808<=n)(h1:n<=9223372036854775807)(w:World)(htab:Lib.TabIs prog w "internal/strconv.uint64pow10" .u64 Lib.pow10Tab):
 Calls prog 233 #[.int .i64 n] w fun e w'=>e=.returned (.string ⟨(Lib.itoa n).toArray⟩)/\Go.RowKit.Below w.heap.size w w':=
 (Tryz.strconv_Itoa n h0 h1 w htab).mono fun e w' ⟨he,k,os,hw⟩=>⟨he,by
   subst hw
   exact⟨rfl,rfl,rfl,by show w.heap.size<=(w.heap++os).size;simp,fun b hb=>by show(w.heap++os)[b]? =_;rw[Array.getElem?_append_left hb]⟩⟩
theorem Zv(s:List UInt8)(hs:s.length<=18)(tp:TypeId)(p:Value)(w:World)(htab:Lib.TabIs prog w "internal/strconv.uint64pow10" .u64 Lib.pow10Tab)(hvar:w.var? prog "strconv.ErrSyntax" =some #[.iface tp p]):
 Calls prog 244 #[.string ⟨s.toArray⟩,.int .i64 (-999999999999),.int .i64 999999999999] w fun e w'=>e=.returned (.tuple #[.int .i64 ((iy s).getD 0),.bool (iy s).isSome])/\Go.RowKit.Below w.heap.size w w':=by
 have hsz:(⟨s.toArray⟩:ByteArray).size<=18:=by show s.toArray.size<=18;simpa using hs
 cases h:Lib.atoi s with
 |none=>
  have hc:=Tryz.strconv_Atoi_err_var ⟨s.toArray⟩ hsz (by simpa using h) tp p w hvar
  have Cb:iy s=none:=by unfold iy;rw[h]
  rw[Cb];clear hsz
  go_enter func244,ntmps244
  go_wp2_with (go_at_call 266;refine hc.mono ?_;rintro e W1 ⟨N,rfl,-,-,hb⟩)
  go_ret2
  exact⟨rfl,hb⟩
 |some n=>
  have hbd:=Lib.atoi_bound h hs;have hc:=Tryz.strconv_Atoi ⟨s.toArray⟩ n hsz (by simpa using h) w
  have Cb:iy s=if(-999999999999<=n/\n<=999999999999)/\Lib.itoa n=s then some n else none:=by unfold iy;rw[h]
  have hc':Calls prog 266 #[.string ⟨s.toArray⟩] w fun e w'=>e=.returned (.tuple #[.int .i64 n,.nilIface])/\Go.RowKit.Below w.heap.size w w':=hc.mono fun e w' ⟨he,t,hw⟩=>⟨he,by rw[hw];exact Lib.bytesWorld_below _ _ _⟩
  have hi:∀W1,Go.RowKit.Below w.heap.size w W1->Calls prog 233 #[.int .i64 n] W1 fun e w'=>e=.returned (.string ⟨(Lib.itoa n).toArray⟩)/\Go.RowKit.Below w.heap.size w w':=fun W1 hw=>
   (adf n (by omega) (by omega) _ ((Lib.tabBelow_of_tabIs htab).on hw).here).mono fun e w' ⟨he,hb⟩=>⟨he,hw.trans (hb.mono hw.size)⟩
  clear hsz h hc
  go_enter func244,ntmps244
  go_wp2_with (first|(go_at_call 266;refine hc'.mono ?_;rintro e W1 ⟨rfl,hb1⟩)|(go_at_call 233;refine(hi _ hb1).mono ?_;rintro e W2 ⟨rfl,hb2⟩))
  all_goals go_ret2
  all_goals first
   |(exfalso;omega)
   |exact⟨rfl,hb2⟩
   |exact⟨rfl,hb1⟩
   |(rw[Cb,if_pos ⟨⟨by omega,by omega⟩,by simp_all;done⟩];exact⟨rfl,hb2⟩)
   |(rw[Cb,if_neg (by rintro⟨hc,_⟩;omega)];exact⟨rfl,hb1⟩)
   |(rw[Cb,if_neg (by rintro⟨_,hc⟩;simp[hc] at *;omega)];exact⟨rfl,hb2⟩)
   |(rw[Cb,if_neg (by rintro⟨_,hc⟩;simp_all;done)];exact⟨rfl,hb2⟩)
   |trace_state
theorem Uu{w:World}{σ:Nat->Nat}(h:l7 w σ):∃tp p,w.var? prog "strconv.ErrSyntax" =some #[.iface tp p]:=by
 obtain⟨c,t,fz,q1,q2,q3⟩:=h 4 (fun l=>∃te pe,l=[Value.iface te pe]) (List.mem_cons_of_mem _ (List.mem_cons_of_mem _ (List.mem_cons_self ..)));obtain⟨te,pe,e⟩:=q2
 have hn:prog.globalNamed "strconv.ErrSyntax" =some 4:=by kernel_rfl
 refine⟨te,pe,?_⟩;unfold World.var?;rw[hn];simp only[Option.bind_some,q1,Option.some.injEq];exact Array.ext' e
theorem Rt(s:List UInt8)(hs:s.length<=18):aC prog 244 [.c (.d (.s s)),.c (.d (.i .i64 (-999999999999))),.c (.d (.i .i64 999999999999))] (.dN [(false,[.d (.i .i64 ((iy s).getD 0))]),(false,[.d (.b (iy s).isSome)])]):=fun S=>by
 refine⟨⟨_,func244,by kernel_rfl,by kernel_rfl⟩,fun w σ β vs hS hv=> ?_⟩;obtain⟨u,v,t,rfl,⟨hu,_⟩,⟨hv,_⟩,⟨ht,_⟩⟩:=afY hv
 have hu0:u=.string ⟨s.toArray⟩:=by cases hu;rfl
 have hv0:v=.int .i64 (-999999999999):=by cases hv;rfl
 have ht0:t=.int .i64 999999999999:=by cases ht;rfl
 subst hu0 hv0 ht0;obtain⟨tp,p,hvar⟩:=Uu hS.vO;refine(Zv s hs tp p w (SY hS.vO) hvar).mono fun e w' ⟨he,hb⟩=> ?_;have hg:Grow w σ w' σ:=Ut hS.live hb
 exact⟨_,.dN [(false,[.d (.i .i64 ((iy s).getD 0))]),(false,[.d (.b (iy s).isSome)])],S,σ,β,he,hS.grow hg,Keep.refl _ _,Step.lX hg,⟨_,rfl,rfl,fun j y hy=>by
  match j,hy with
  |0,hy=>simp at hy;subst hy;exact⟨_,rfl,_,rfl,.i _ _,rfl⟩
  |1,hy=>simp at hy;subst hy;exact⟨_,rfl,_,rfl,.b _,rfl⟩
  |j+2,hy=>simp at hy⟩,rfl,rfl⟩
theorem Qf(s:List UInt8)(hs:s.length<=18):aC prog 208 [.c (.d (.s s))] (.dN [(false,[.d (.i .i64 ((iy s).getD 0))]),(false,[.d (.b (iy s).isSome)])]):=fun S=>by
 refine zcx [.tmp 2,.tmp 3] func208 ntmps208 ?_;refine W1 ?_;exact C4 (Rt s hs)
theorem DK{l:List aj}(h2:2<=l.length)(h:dK l 0=jw->3<=l.length):xZ true l:=fun e=>by
 rcases e.2 with e|e
 ·omega
 ·have:=h e.1;omega
theorem Tz{x:aj}(h:gP x=true)(ha:x.aG=[]):iG x.ah=true:=by rw[Es,if_pos ha] at h;exact h
theorem afZ{x:aj}(h:gP x=true)(ha:x.aG≠[]):x.aG.length<=18:=by
 rw[Es,if_neg ha,Bool.and_eq_true] at h;have h1:=h.1;unfold validAtom at h1;rw[Bool.and_eq_true,decide_eq_true_eq] at h1;omega
theorem FC{x:aj}(h:gP x=true)(ha:x.ah≠[]):iG x.ah=true:=by
 by_cases e:x.aG=[]
 ·exact Tz h e
 ·rw[Es,if_neg e,Bool.and_eq_true,decide_eq_true_eq] at h;exact absurd (List.eq_nil_of_length_eq_zero h.2) ha
theorem ma0{x:aZ}{n:Nat}(h:x=.mk [] [] l6):Less (.agg [.d (.s []),.bn [],.d (.i .i64 0),.d (.s []),.d (.s []),.d (.i .i64 0),.d (.i .i64 0),.d (.s []),.bn [],.bn [],.bn []]) (x.vl n):=by
 rw[h];exact(fE.cons (.refl _) (.cons (dR _) (.cons (.refl _) (.cons (.refl _) (.cons (.refl _) (.cons (.refl _) (.cons (.refl _) (.cons (.refl _) (.cons (dR _) (.cons (dR _) (.cons (dR _) .nil))))))))))).less
theorem KV:∀N:Nat,(∀x:aj,SizeOf.sizeOf x<N->∀n:Nat,gP x=true->x.sz<=4194304->aC prog 157 [x.v] ((eU true x).vl n))/\
 (∀xs:List aj,SizeOf.sizeOf xs<N->∀n q:Nat,iG xs=true->xs.length<=4194304->(∀t∈xs,t.sz<=4194304)->aC prog 209 [.c (.d (.sl (xs.map aj.enc)))] (.c (.d (.ol n (lE (xs.map (eU true)) q)))))/\
 (∀x:aj,SizeOf.sizeOf x<N->∀n:Nat,gP x=true->x.sz<=4194304->aC prog 210 [x.v] ((rP true x).vl n))
 |0=>⟨fun x h=>by omega,fun x h=>by omega,fun x h=>by omega⟩
 |N+1=>by
  obtain⟨ih,qj,ihM⟩:=KV N;refine⟨fun x hn n hfo hsz=>aC.of_le fun S=> ?_,fun xs hn n q hfo hlen hsz S=> ?_,fun x hn n hfo hsz=>aC.of_le fun S=> ?_⟩
  ·have kG:=aj.vI x;have h1:=eD x;have h2:=AQ x
   have hall:∀t∈x.ah,t.sz<=4194304:=fun t ht=>by have:=gZ ht;omega
   have hr:=gJ (l:=x.ah);have hso:=fun i=>Bu i x.ah
   have hdl:∀i,(x.ah.drop i).length<=4194304:=fun i=>by rw[List.length_drop];omega
   have hda:∀i,∀t∈x.ah.drop i,t.sz<=4194304:=fun i t ht=>hall t (List.mem_of_mem_drop ht);have hdd:=oz x.ah x.ah.length 1 (Nat.le_refl _);refine lU (n) (rs:=[.cell 2 113]) zmx func157 ntmps157 rfl rfl rfl rfl rfl ?_;refine W1 ?_;refine S0 (fun hb h=>?_) fun hb h=>?_
   ·have hne:=h;refine aX (Qf x.aG (afZ hfo hne)) ?_
    cases Cb:iy x.aG with
    |some m=>
     simp -implicitDefEqProofs (disch:=omega) only[go_sem,Option.getD_some,Option.isSome_some];exact ie0 (Xw hne Cb)
    |none=>
     simp -implicitDefEqProofs (disch:=omega) only[go_sem,Option.getD_none,Option.isSome_none];refine S0 (fun hb h=>?_) fun hb h=>?_
     ·exact ie0 (Tw hne Cb h)
     have k1:=h;refine S0 (fun hb h=>?_) fun hb h=>?_
     ·exact ie0 (Qe hne Cb k1 h)
     have k2:=h;exact ie0 (Xx hne Cb k1 k2)
   have ha:=h;have hfs:=Tz hfo ha;refine S0 (fun hb h=>?_) fun hb h=>?_
   ·exact ie0 (Tv ha fun e=>e ⟨rfl,.inl (by omega)⟩)
   have hl2:2<=x.ah.length:=by omega
   have a0:=jM (l:=x.ah) (i:=0) (by omega);obtain⟨m,hm⟩:∃m,m=x.ah.drop 1:=⟨_,rfl⟩
   have hml:m.length=x.ah.length-1:=by rw[hm,List.length_drop]
   have hmi:∀i (hi:i<m.length),m[i]=x.ah[i+1]'(by omega):=fun i hi=>by simp only[hm,List.getElem_drop,Nat.add_comm 1 i]
   have hrm:=gJ (l:=m)
   have hmd:∀i,m.drop i=x.ah.drop (i+1):=fun i=>by rw[hm,List.drop_drop,Nat.add_comm 1 i]
   have hme:=fun i=>oz m m.length i (Nat.le_refl _)
   have b1:dK x.ah 1=(m[0]'(by omega)).aG:=by rw[hmi 0 (by omega),jM (by omega)]
   refine⟨⟨by omega,by omega,hr⟩,?_⟩;rw[hdd,<-hm];simp only[<-a0];refine S0 (fun hb h=>?_) fun hb h=>?_
   ·have hg:=DK hl2 fun e=>by rw[h] at e;exact absurd e (by decide)
    have hdec:=Tn ha hg h;refine W3 ?_;refine⟨⟨by omega,by omega,hrm⟩,?_⟩;rw[hme,hmd,<-b1];refine C1 (qj (x.ah.drop 2) (by have:=hso 2;omega) (n+1) (n+1+1) (sN hfs 2) (hdl 2) (hda 2)) ?_;exact Xz hdec
   have ac9:=h;refine S0 (fun hb h=>?_) fun hb h=>?_
   ·have hg:=DK hl2 fun e=>by rw[h] at e;exact absurd e (by decide)
    have hdec:=Xt ha hg h;refine W3 ?_;refine⟨⟨by omega,by omega,hrm⟩,?_⟩;rw[hme,hmd,<-b1];refine C1 (qj (x.ah.drop 2) (by have:=hso 2;omega) (n+1) (n+1+1) (sN hfs 2) (hdl 2) (hda 2)) ?_;exact Xz hdec
   have nNew:=h;refine S0 (fun hb h=>?_) fun hb h=>?_
   ·have hg:=DK hl2 fun e=>by rw[h] at e;exact absurd e (by decide)
    have hdec:=Xu ha hg h;refine W3 ?_;refine⟨⟨by omega,by omega,hrm⟩,?_⟩;rw[hme,hmd,<-b1];refine C1 (qj (x.ah.drop 2) (by have:=hso 2;omega) (n+1) (n+1+1) (sN hfs 2) (hdl 2) (hda 2)) ?_;exact Xz hdec
   have aje:=h;refine S0 (fun hb h=>?_) fun hb h=>?_
   ·have hg:=DK hl2 fun e=>by rw[h] at e;exact absurd e (by decide)
    have hdec:=Tp ha hg h;refine W3 ?_;refine⟨⟨by omega,by omega,hrm⟩,?_⟩;rw[hme,hmd,<-b1];refine C1 (qj (x.ah.drop 2) (by have:=hso 2;omega) (n+1) (n+1+1) (sN hfs 2) (hdl 2) (hda 2)) ?_;exact Xz hdec
   have ada:=h;refine S0 (fun hb h=>?_) fun hb h=>?_
   ·have hM:=h;refine S0 (fun hb h=>?_) fun hb h=>?_
    ·exact ie0 (Tv ha fun e=>e ⟨rfl,.inr ⟨hM,by omega⟩⟩)
    have hl3:3<=x.ah.length:=by omega
    have hg:=DK hl2 fun _=>hl3;have hdec:=MQ ha hg hM
    have b2:dK x.ah 2=(m[1]'(by omega)).aG:=by rw[hmi 1 (by omega),jM (by omega)]
    refine W3 ?_;refine⟨⟨by omega,by omega,hrm⟩,?_⟩;rw[hme,hmd,<-b1,<-b2];refine C1 (qj (x.ah.drop 3) (by have:=hso 3;omega) (n+1) (n+1+1) (sN hfs 3) (hdl 3) (hda 3)) ?_;exact Xz hdec
   have LU:=h;have hg:=DK hl2 fun e=>(LU e).elim;refine S0 (fun hb h=>?_) fun hb h=>?_
   ·have hdec:=aaq ha hg h;rw[hm];refine C1 (qj (x.ah.drop 1) (by have:=hso 1;omega) (n+1) (n+1+1) (sN hfs 1) (hdl 1) (hda 1)) ?_;exact Xz hdec
   have nIf:=h;refine S0 (fun hb h=>?_) fun hb h=>?_
   ·have hdec:=Xv ha hg h
    have g1:x.ah.getD 1 bT=m[0]'(by omega):=by rw[hmi 0 (by omega),List.getD_eq_getElem?_getD,List.getElem?_eq_getElem (by omega)];rfl
    have gz:=uT x 1 hsz;rw[g1] at hdec gz;refine W3 ?_;refine C1 (qE m[0] n gz) ?_;refine⟨⟨by omega,by omega,hrm⟩,?_⟩;rw[hme,hmd];refine C1 (qj (x.ah.drop 2) (by have:=hso 2;omega) (n+(fZ (dP true m[0]).fArgs+1)) (n+(fZ (dP true m[0]).fArgs+1)+1) (sN hfs 2) (hdl 2) (hda 2)) ?_;exact ie2 hdec
   have nThe:=h;refine S0 (fun hb h=>?_) fun hb h=>?_
   ·have hdec:=Tq ha hg h;refine⟨⟨by omega,hrm⟩,?_⟩;rw[<-List.map_take];refine C1 (qj (m.take 1) (by have:=hso 1;have:=Ga 1 m;rw[hm] at this ⊢;omega) (n+1) (n+1+1) (afX (by rw[hm];exact sN hfs 1) 1) (by rw[List.length_take];omega) (fun t ht=>hda 1 t (by rw[<-hm];exact List.mem_of_mem_take ht))) ?_;refine⟨⟨by omega,by omega,hrm⟩,?_⟩;rw[hme,hmd];obtain⟨zy,adb⟩:∃zy,zy=(m.take 1).map (eU true):=⟨_,rfl⟩;obtain⟨r,hrr⟩:∃r,r=x.ah.drop 2:=⟨_,rfl⟩
    have hrl:r.length=x.ah.length-2:=by rw[hrr,List.length_drop]
    have hrs:∀t∈r,t.sz<=4194304/\SizeOf.sizeOf t<N/\gP t=true:=fun t ht=>by
     rw[hrr] at ht;have h5:=List.mem_of_mem_drop ht;have:=List.sizeOf_lt_of_mem h5;exact⟨hda 2 t ht,by omega,wY hfs h5⟩
    obtain⟨q,hq⟩:∃q,q=n+1+(lK zy+1):=⟨_,rfl⟩;obtain⟨L,hL⟩:∃L:Nat->Nat,L=fun k=>q+1+ac6 ((r.map (rP true)).take k):=⟨_,rfl⟩;obtain⟨T,hT⟩:∃T:Nat->List (List D),T=fun k=>lM ((r.map (rP true)).take k) (q+1):=⟨_,rfl⟩
    have hT0:T 0=[]:=by rw[hT];rfl
    have fP:∀k,(T k).length<=k:=fun k=>by rw[hT];simp only[afU];exact List.length_take_le _ _
    have hTs:∀k (hk:k<r.length),T k++[fQ (rP true r[k]).enc (L k)]=T (k+1):=fun k hk=>by
     have:=alS (l:=r.map (rP true)) (i:=k) (by rw[List.length_map];exact hk) (q+1);rw[List.getElem_map] at this;rw[hT,hL];exact this
    have hTe:T r.length=lM (r.map (rP true)) (q+1):=by
     rw[hT];simp only
     rw[List.take_of_length_le (by simp)]
    clear hT hL;rw[<-hm,<-adb,<-hrr] at hdec;rw[<-adb,<-hrr];refine W1 ?_;refine nS q 3 8 11 _ rfl rfl ?_
    refine aR (ι:=Nat) zmx rfl [2,7,127,128,129] (fun k=>[.c (.ptr (0,2) 0),.c (.ptr (0,3) 0),.c (.d (.sl (r.map aj.enc))),.c (.d (.i .i64 r.length)),.c (.d (.i .i64 k))])
     (fun k=>[.seed n,.box [.d (.s x.aG),.d (.sl (x.ah.map aj.enc))],.box [.d (.i .i64 0),.d (.s []),.d (.s []),.d (.i .i64 0),.d (.i .i64 0),.d (.s []),.bn [],.bn [],.bn []],
       .box [.d (.i .i64 7),.d (.s []),.d (.s []),.d (.i .i64 0),.d (.i .i64 0),.d (.s []),.bn [],.d (.ol (n+1) (lE zy (n+1+1))),.bB (0,4) (T k)],.eu q 11 (T k)]::S)
     (fun k=>k<=r.length) (fun k=>r.length-k) 0 rfl (by rw[hT0];rfl) (Nat.zero_le _) ?_
    intro k hk;have hlk:=fP k;refine W1 ?_;refine S0 (fun hb h=>?_) fun hb h=>?_
    ·have hk':k<r.length:=by omega
     have hmm:=hrs _ (List.getElem_mem hk');have hs:=hTs k hk';simp only[ajd,Xy,List.cons_append,List.nil_append] at hs;refine W3 ?_;refine C1 (ihM r[k] hmm.2.1 (L k) hmm.2.2 hmm.1) ?_;refine W3 ?_;rw[hs];exact bL 5 (by decide) (k+1) (by omega) rfl rfl rfl rfl (by omega)
    ·have hk':k=r.length:=by omega
     rw[hk',hTe,hq];exact ie3 hdec
   have ade:=h;have hdec:=Tt ha hg ac9 nNew aje ada LU nIf nThe ade;rw[hm];refine C1 (qj (x.ah.drop 1) (by have:=hso 1;omega) (n+1) (n+1+1) (sN hfs 1) (hdl 1) (hda 1)) ?_;exact Xz hdec
  ·have Dt:=fun(i:Nat) (hi:i<xs.length)=>alR (l:=xs.map (eU true)) (i:=i) (by rw[List.length_map];exact hi) q;refine lU (n) (rs:=[.tmp 2]) zmx func209 ntmps209 rfl rfl rfl rfl rfl ?_;refine W1 ?_;refine W3 ?_;refine lD n 3 9 [] (.inl rfl) (by simp) ?_
   refine aR (ι:=Nat) zmx rfl [3,7,8,9] (fun i=>[.c (.bB (0,1) (lE ((xs.map (eU true)).take i) q)),.c (.d (.sl (xs.map aj.enc))),.c (.d (.i .i64 xs.length)),.c (.d (.i .i64 i))]) (fun i=>[.seed n,.eu n 9 (lE ((xs.map (eU true)).take i) q)]::S)
    (fun i=>i<=xs.length) (fun i=>xs.length-i) 0 rfl rfl (Nat.zero_le _) ?_
   intro i hi;refine W1 ?_;refine S0 (fun hb h=>?_) fun hb h=>?_
   ·have hi':i<xs.length:=by omega
    have hs:=Dt i hi';rw[List.getElem_map] at hs;simp only[Xy] at hs
    have hl:(lE ((xs.map (eU true)).take i) q).length<=i:=by rw[afT];exact List.length_take_le _ _
    refine W3 ?_;refine C1 (ih xs[i] (by have:=List.sizeOf_lt_of_mem (List.getElem_mem hi');omega) (q+lK ((xs.map (eU true)).take i)) (wY hfo (List.getElem_mem hi')) (hsz _ (List.getElem_mem hi'))) ?_;refine W3 ?_;rw[hs];exact bL 2 (by decide) (i+1) (by omega) rfl rfl rfl rfl (by omega)
   ·have hi':i=(xs.map (eU true)).length:=by rw[List.length_map];omega
    rw[hi',List.take_length]
  ·have kG:=aj.vI x;have h1:=eD x
   have hall:∀t∈x.ah,t.sz<=4194304:=fun t ht=>by have:=gZ ht;omega
   have hr:=gJ (l:=x.ah);refine zcx [.cell 2 204] func210 ntmps210 ?_;refine W1 ?_;refine S0 (fun hb h=>?_) fun hb h=>?_
   ·exact ma0 (aap true x (by omega))
   have hl2:2<=x.ah.length:=by omega
   have a0:=jM (l:=x.ah) (i:=0) (by omega);have hm:=List.getElem_mem (l:=x.ah) (n:=x.ah.length-1) (by omega);have hfs:=FC hfo (fun e=>by rw[e] at hl2;simp at hl2);rw[aao true x hl2,a0];refine⟨⟨by omega,by omega,hr⟩,?_⟩;rw[Tx _ hl2];refine C1 (zX ((x.ah.drop 1).dropLast) (by rw[List.length_dropLast,List.length_drop];omega) n) ?_;refine W3 ?_
   have el:((x.ah.length:Int)-1).toNat=x.ah.length-1:=by omega
   simp only[el];refine C1 (ih (x.ah[x.ah.length-1]) (by have:=List.sizeOf_lt_of_mem hm;omega) (n+1) (wY hfs hm) (hall _ hm)) ?_;exact gu _
theorem EJ(x:aj)(n:Nat)(hf:gP x=true)(hsz:x.sz<=4194304):aC prog 157 [x.v] ((eU true x).vl n):=(KV _).1 x (Nat.lt_succ_self _) n hf hsz
abbrev ay.cv(x:ay):List C:=[.d (.i .i64 x.aM),.d (.s x.bG),.d (.s x.fName),.d (.i .i64 x.fN),.d (.i .i64 x.fType.aM),.d (.s x.fType.fName),.d (.sl (x.fType.fArgs.map ak.enc)),.d (.sl (x.fArgs.map ay.enc)),.d (.sl (x.aS.map aZ.enc))]
abbrev ay.cl(x:ay)(n:Nat):List C:=[.d (.i .i64 x.aM),.d (.s x.bG),.d (.s x.fName),.d (.i .i64 x.fN),.d (.i .i64 x.fType.aM),.d (.s x.fType.fName),.d (.ol n (lt x.fType.fArgs (n+1))),
 .d (.ol (n+(fZ x.fType.fArgs+1)) (lE x.fArgs (n+(fZ x.fType.fArgs+1)+1))),.d (.ol (n+(fZ x.fType.fArgs+1)+(lK x.fArgs+1)) (lM x.aS (n+(fZ x.fType.fArgs+1)+(lK x.fArgs+1)+1)))]
abbrev as7:List C:=[.d (.i .i64 0),.d (.s []),.d (.s []),.d (.i .i64 0),.d (.i .i64 0),.d (.s []),.bn [],.bn [],.bn []]
abbrev gX(l:List aj)(i:Nat):aj:=l.getD i bT
theorem XB(l:List aj):cZ l=(gX l 0).sz+cZ (l.drop 1):=by
 cases l with
 |nil=>simp[cZ,gX,I8]
 |cons x l=>rw[cZ,List.drop_succ_cons,List.drop_zero];rfl
theorem aas(l:List aj)(k i:Nat):gX (l.drop k) i=gX l (k+i):=by
 simp[gX,List.getD_eq_getElem?_getD,List.getElem?_drop]
theorem Cj(l:List aj):cZ l=(gX l 0).sz+(gX l 1).sz+(gX l 2).sz+(gX l 3).sz+(gX l 4).sz+(gX l 5).sz+(gX l 6).sz+cZ (l.drop 7):=by
 have h:∀k,cZ (l.drop k)=(gX l k).sz+cZ (l.drop (k+1)):=fun k=>by
  rw[XB (l.drop k),aas,Nat.add_zero,List.drop_drop]
 have h0:=h 0;rw[List.drop_zero] at h0;have h1:=h 1;have h2:=h 2;have h3:=h 3;have h4:=h 4;have h5:=h 5;have h6:=h 6
 simp only[Nat.reduceAdd] at *
 omega
theorem EK(l:List aj):cZ l=(gX l 0).sz+(gX l 1).sz+(gX l 2).sz+(gX l 3).sz+cZ (l.drop 4):=by
 have h:=Cj l;have h1:=Cj (l.drop 4)
 have e:∀k,cZ (l.drop k)=(gX l k).sz+cZ (l.drop (k+1)):=fun k=>by
  rw[XB (l.drop k),aas,Nat.add_zero,List.drop_drop]
 have h4:=e 4;have h5:=e 5;have h6:=e 6
 simp only[Nat.reduceAdd] at *
 omega
theorem FD(l:List aj)(i:Nat):dK l i=(gX l i).aG:=rfl
theorem qg(x:aj):x.aG.length+(x.ah.length+cZ x.ah)=x.sz:=by rw[jH,lS]
theorem XC{α:Type}{x:aj}{dT dF:α}{valid:α->Bool}{sx:α->aj}{head:Prop}(hx:x.ah≠[])(hd:∀a,valid a=true->sx a=x->dT=a/\dF=a)(hh:∀a,sx a=x->head):
 dec (dI x=true/\head/\valid dT=true/\sx dT=x)=(dI x&&dec (qM (valid dF) (sx dF)=x)):=by
 cases hv:dI x with
 |false=>exact aK fun h=>by cases h.1
 |true=>
  rw[Bool.true_and];refine iC ⟨fun⟨_,h2,h3,h4⟩=> ?_,fun h=> ?_⟩
  ·have e:=(hd _ h3 h4).2;rw[e,h3,h4,qM,sI,if_pos hv]
  ·obtain⟨h1,h2,_⟩:=Xl h hx;have e:=(hd _ h1 h2).1;rw[e];exact⟨rfl,hh _ h2,h1,h2⟩
def nV(b:Bool)(y:aj):bS:=if b=true/\y.ah.length≠2 then⟨[],jd⟩ else⟨dK y.ah 0,dP b (gX y.ah 1)⟩
def nW(b:Bool)(y:aj):dG:=if b=true/\y.ah.length≠2 then⟨[],jd⟩ else⟨dK y.ah 0,dP b (gX y.ah 1)⟩
def nC(l:List aj)(i:Nat):List (List UInt8):=eY (gX l i).ah
def AR(b:Bool)(x:aj):aV:=
 ⟨dK x.ah 1,nC x.ah 2,(gX x.ah 3).ah.map (nV b),(gX x.ah 4).ah.map (nW b),dP b (gX x.ah 5),eU b (gX x.ah 6)⟩
theorem aat(b:Bool){c:bS}(h:formed c.fType=true):nV b (qy c)=c:=by
 unfold nV;rw[if_neg (by simp[qy,bY])];show bS.mk c.bG (dP b (bZ c.fType))=c;rw[xC b _ h]
theorem af0(b:Bool){c:dG}(h:formed c.fType=true):nW b (qR c)=c:=by
 unfold nW;rw[if_neg (by simp[qR,bY])];show dG.mk c.fName (dP b (bZ c.fType))=c;rw[xC b _ h]
theorem EL{α β:Type}{f:α->β}{g:β->α}{l:List α}(h:∀a∈l,g (f a)=a):(l.map f).map g=l:=by
 rw[List.map_map,show l.map (g∘f)=l.map id from List.map_congr_left (fun c hc=>h c hc),List.map_id]
theorem XD{f:aV}(h:jL f=true):∀v∈f.aF,v≠[]:=by
 unfold jL at h;simp only[Bool.and_eq_true] at h;exact y8 h.2.2.1
theorem DL(b:Bool){f:aV}(h:jL f=true):AR b (vv f)=f:=by
 obtain⟨h1,h2,h3,h4⟩:=vw h;show aV.mk f.fName (eY (aP f.aF)) ((f.dh.map qy).map (nV b)) ((f.aY.map qR).map (nW b)) (dP b (bZ f.bU)) (eU b (fu f.fBody))=f;rw[nT (XD h),EL fun c hc=>aat b (h1 c hc),EL fun c hc=>af0 b (h2 c hc),xC b _ h3,G7 b _ h4]
noncomputable def okF(x:aj):Bool:=dec (dI x=true/\(7<=x.ah.length/\dK x.ah 0=wT)/\jL (AR true x)=true/\vv (AR true x)=x)
theorem ajf{x:aj}(hx:x.ah≠[]):okF x=(dI x&&dec (CF (AR false x)=x)):=
 XC hx (fun a h1 h2=>by rw[<-h2];exact⟨DL true h1,DL false h1⟩) fun a h=>by rw[<-h];exact⟨Nat.le_refl _,rfl⟩
theorem ajg{x:aj}(h:okF x=true):AR false x=AR true x:=by
 have h1:=gq h
 conv=>lhs;rw[<-h1.2.2.2]
 exact DL false h1.2.2.1
def LV:aV:=⟨[],[],[],[],jd,l6⟩
noncomputable def tu(x:aj):aV:=if okF x=true then AR true x else LV
theorem alU(b:Bool)(y:aj):(nV b y).sz<=y.sz:=by
 have h:=y7 b (gX y.ah 1);have h1:=EK y.ah;have h2:=qg y;have h3:=qg (gX y.ah 0);unfold nV;split
 ·simp only[bS.sz,bS.aQ,dz,bW,D.sz,ak.iD,Ce];simp
 ·simp only[bS.sz,bS.aQ,dz,bW,D.sz,ak.iD,FD];omega
theorem af2(b:Bool)(y:aj):(nW b y).sz<=y.sz:=by
 have h:=y7 b (gX y.ah 1);have h1:=EK y.ah;have h2:=qg y;have h3:=qg (gX y.ah 0);unfold nW;split
 ·simp only[dG.sz,dG.aQ,dz,bW,D.sz,ak.iD,Ce];simp
 ·simp only[dG.sz,dG.aQ,dz,bW,D.sz,ak.iD,FD];omega
theorem NA(b:Bool):∀l:List aj,bf ((l.map (nV b)).map bS.enc)<=cZ l
 |[]=>by simp[bf]
 |y::l=>by
  have h1:=alU b y;have h2:=NA b l;rw[List.map_cons,List.map_cons,bf,cZ];simp only[bS.sz] at h1;omega
theorem Qg(b:Bool):∀l:List aj,bf ((l.map (nW b)).map dG.enc)<=cZ l
 |[]=>by simp[bf]
 |y::l=>by
  have h1:=af2 b y;have h2:=Qg b l;rw[List.map_cons,List.map_cons,bf,cZ];simp only[dG.sz] at h1;omega
theorem Ru(b:Bool)(x:aj):(AR b x).sz<=x.sz:=by
 have h1:=Cj x.ah;have h2:=qg x;have h3:=qg (gX x.ah 1);have h4:=ru (gX x.ah 2).ah;have h4':=qg (gX x.ah 2);have h5:=NA b (gX x.ah 3).ah;have h5':=qg (gX x.ah 3);have h6:=Qg b (gX x.ah 4).ah;have h6':=qg (gX x.ah 4);have h7:=y7 b (gX x.ah 5);have h8:=DJ b (gX x.ah 6);simp only[aV.sz,aV.aQ,dz,bW,D.sz,ak.iD,ay.iD,AR,List.length_map,nC,dB,FD];omega
theorem jC{l:List aj}{i:Nat}(h:i<l.length):gX l i=l[i]:=by
 show l.getD i bT=_;rw[List.getD_eq_getElem?_getD,List.getElem?_eq_getElem h];rfl
def lB(l:List bS)(n:Nat):List (List D):=dX (l.map bS.enc) n
def UR(l:List bS):Nat:=jf (l.map bS.enc)
def lPr(l:List dG)(n:Nat):List (List D):=dX (l.map dG.enc) n
def akj(l:List dG):Nat:=jf (l.map dG.enc)
theorem aau(x:bS)(n:Nat):fQ x.enc n=[.s x.bG,.i .i64 x.fType.aM,.s x.fType.fName,.ol n (lt x.fType.fArgs (n+1))]:=by
 simp only[bS.aQ,ak.aQ,List.cons_append,List.nil_append,fQ,tZ,uP,Nat.add_zero,lt]
theorem XE(x:dG)(n:Nat):fQ x.enc n=[.s x.fName,.i .i64 x.fType.aM,.s x.fType.fName,.ol n (lt x.fType.fArgs (n+1))]:=by
 simp only[dG.aQ,ak.aQ,List.cons_append,List.nil_append,fQ,tZ,uP,Nat.add_zero,lt]
theorem Bv{α:Type}{e:α->List D}{l:List α}{i:Nat}(hi:i<l.length)(n:Nat):dX ((l.take i).map e) n++[fQ (e l[i]) (n+jf ((l.take i).map e))]=dX ((l.take (i+1)).map e) n:=by
 rw[List.take_succ_eq_append_getElem hi,List.map_append,nQ];rfl
theorem Dw{α:Type}{e:α->List D}{l:List α}{i:Nat}(hi:i<l.length):(l.take i).map e++[e l[i]]=(l.take (i+1)).map e:=by
 rw[List.take_succ_eq_append_getElem hi,List.map_append];rfl
theorem aav{b:Bool}{y:aj}(h:b=false\/y.ah.length=2):(nV b y).bG=dK y.ah 0/\(nV b y).fType=dP b (y.ah.getD 1 bT):=by
 unfold nV;rw[if_neg (by rintro⟨e1,e2⟩;rcases h with e|e;(rw[e] at e1;cases e1);exact e2 e)];exact⟨rfl,rfl⟩
theorem ajh{y:aj}(h:y.ah.length≠2):nV true y=⟨[],jd⟩:=if_pos ⟨rfl,h⟩
theorem TA{b:Bool}{y:aj}(h:b=false\/y.ah.length=2):(nW b y).fName=dK y.ah 0/\(nW b y).fType=dP b (y.ah.getD 1 bT):=by
 unfold nW;rw[if_neg (by rintro⟨e1,e2⟩;rcases h with e|e;(rw[e] at e1;cases e1);exact e2 e)];exact⟨rfl,rfl⟩
theorem adg{y:aj}(h:y.ah.length≠2):nW true y=⟨[],jd⟩:=if_pos ⟨rfl,h⟩
theorem Rv{x:aj}(h:gP x=true){i:Nat}(hi:i<x.ah.length):gP x.ah[i]=true:=wY (FC h (fun e=>by rw[e] at hi;simp at hi)) (List.getElem_mem hi)
theorem xD(x:aj){i:Nat}(hi:i<x.ah.length):x.ah[i].sz<=x.sz:=by
 have:=gZ (List.getElem_mem hi);have:=eD x;omega
abbrev aV.cl(x:aV)(n p q r:Nat):List C:=[.d (.s x.fName),.d (.ol n (x.aF.map encS)),.d (.ol (n+1) (lB x.dh (n+1+1))),.d (.ol p (lPr x.aY (p+1))),.d (.i .i64 x.bU.aM),.d (.s x.bU.fName),.d (.ol q (lt x.bU.fArgs (q+1))),
 .d (.i .i64 x.fBody.aM),.d (.s x.fBody.bG),.d (.s x.fBody.fName),.d (.i .i64 x.fBody.fN),.d (.i .i64 x.fBody.fType.aM),.d (.s x.fBody.fType.fName),.d (.ol r (lt x.fBody.fType.fArgs (r+1))),
 .d (.ol (r+(fZ x.fBody.fType.fArgs+1)) (lE x.fBody.fArgs (r+(fZ x.fBody.fType.fArgs+1)+1))),.d (.ol (r+(fZ x.fBody.fType.fArgs+1)+(lK x.fBody.fArgs+1)) (lM x.fBody.aS (r+(fZ x.fBody.fType.fArgs+1)+(lK x.fBody.fArgs+1)+1)))]
abbrev aV.cv(x:aV):List C:=[.d (.s x.fName),.d (.sl (x.aF.map encS)),.d (.sl (x.dh.map bS.enc)),.d (.sl (x.aY.map dG.enc)),.d (.i .i64 x.bU.aM),.d (.s x.bU.fName),.d (.sl (x.bU.fArgs.map ak.enc)),
 .d (.i .i64 x.fBody.aM),.d (.s x.fBody.bG),.d (.s x.fBody.fName),.d (.i .i64 x.fBody.fN),.d (.i .i64 x.fBody.fType.aM),.d (.s x.fBody.fType.fName),.d (.sl (x.fBody.fType.fArgs.map ak.enc)),.d (.sl (x.fBody.fArgs.map ay.enc)),.d (.sl (x.fBody.aS.map aZ.enc))]
def pF(x:aV)(n:Nat):Nat:=n+1+(UR x.dh+1)
def qF(x:aV)(n:Nat):Nat:=pF x n+(akj x.aY+1)
def rF(x:aV)(n:Nat):Nat:=qF x n+(fZ x.bU.fArgs+1)
theorem alX(x:aV)(n:Nat):(fQ x.enc n).map C.d=x.cl n (pF x n) (qF x n) (rF x n):=by
 simp only[aV.aQ,ay.aQ,ak.aQ,List.cons_append,List.nil_append,fQ,tZ,uP,Nat.add_zero,lt,lE,lM,lB,lPr,fZ,lK,UR,akj,pF,qF,rF,uQ,wX,Nat.zero_add,List.map_cons,List.map_nil];rfl
theorem af3{x:aj}(h:okF x=false):tu x=LV:=if_neg (by rw[h];decide)
theorem aaw{x:aj}(h:okF x=true):tu x=AR true x:=if_pos h
abbrev G9:List C:=[.d (.s []),.bn [],.bn [],.bn [],.d (.i .i64 0),.d (.s []),.bn [],.d (.i .i64 0),.d (.s []),.d (.s []),.d (.i .i64 0),.d (.i .i64 0),.d (.s []),.bn [],.bn [],.bn []]
theorem arN(e:aV)(h:e=LV)(ok:Bool):Less (.dN [(true,G9),(false,[.d (.b ok)])]) (.dN [(true,e.cv),(false,[.d (.b ok)])]):=by
 rw[h];exact(ig.cons (.cons (.refl _) (.cons (eT _) (.cons (eT _) (.cons (eT _) (.cons (.refl _) (.cons (.refl _) (.cons (eT _) (.cons (.refl _) (.cons (.refl _) (.cons (.refl _) (.cons (.refl _) (.cons (.refl _) (.cons (.refl _) (.cons (eT _) (.cons (eT _) (.cons (eT _) .nil)))))))))))))))) (.refl _)).less
theorem anQ(e:aV)(h:e=LV)(n p q r:Nat)(ok:Bool):Less (.dN [(true,G9),(false,[.d (.b ok)])]) (.dN [(true,e.cl n p q r),(false,[.d (.b ok)])]):=by
 rw[h];exact(ig.cons (.cons (.refl _) (.cons (dR _) (.cons (dR _) (.cons (dR _) (.cons (.refl _) (.cons (.refl _) (.cons (dR _) (.cons (.refl _) (.cons (.refl _) (.cons (.refl _) (.cons (.refl _) (.cons (.refl _) (.cons (.refl _) (.cons (dR _) (.cons (dR _) (.cons (dR _) .nil)))))))))))))))) (.refl _)).less
theorem Jz(x:aj)(hsz:x.sz<=4194304):aC prog 183 [x.v] (.c (.d (.sl ((x.ah.map (nV false)).map bS.enc)))):=fun S=>by
 have h1:=eD x
 have hall:∀t∈x.ah,t.sz<=4194304:=fun t ht=>by have:=gZ ht;omega
 have Dt:=fun(i:Nat) (hi:i<x.ah.length)=>Dw (e:=bS.enc) (l:=x.ah.map (nV false)) (i:=i) (by rw[List.length_map];exact hi);refine zcx [.tmp 2] func183 ntmps183 ?_;refine W1 ?_;refine W3 ?_;refine lQ 3 4 [] rfl (by simp) ?_
 refine aR (ι:=Nat) zmx rfl [1,3,4] (fun i=>[.c (.ptr (0,0) 0),.c (.bB (0,1) (((x.ah.map (nV false)).take i).map bS.enc)),.c (.d (.i .i64 i))]) (fun i=>[.box [.d (.s x.aG),.d (.sl (x.ah.map aj.enc))],.tok 4 (((x.ah.map (nV false)).take i).map bS.enc)]::S)
  (fun i=>i<=x.ah.length) (fun i=>x.ah.length-i) 0 rfl rfl (Nat.zero_le _) ?_
 intro i hi
 have hl:(((x.ah.map (nV false)).take i).map bS.enc).length<=i:=by rw[List.length_map];exact List.length_take_le _ _
 refine W1 ?_;refine S0 (fun hb h=>?_) fun hb h=>?_
 ·have hi':i<x.ah.length:=by omega
  have hz:=hall _ (List.getElem_mem hi');have hs:=Dt i hi';have hb:=aav (b:=false) (y:=x.ah[i]) (.inl rfl);rw[List.getElem_map] at hs;simp only[bS.aQ,ak.aQ,List.cons_append,List.nil_append,hb.1,hb.2] at hs;refine W3 ?_;refine C1 (fG x.ah[i] 0 hz (by omega)) ?_;refine W3 ?_;refine C1 (fG x.ah[i] 1 hz (by omega)) ?_;refine C1 (qd (x.ah[i].ah.getD 1 bT) (uT _ 1 hz)) ?_;refine W3 ?_;show _;rw[show(x.ah[i].ah.getD 0 bT).aG=dK x.ah[i].ah 0 from rfl,hs];exact bV (i+1) (by omega) rfl rfl (by omega)
 ·have hi':i=(x.ah.map (nV false)).length:=by rw[List.length_map];omega
  rw[hi',List.take_length]
theorem JA(x:aj)(n q:Nat)(hsz:x.sz<=4194304):aC prog 156 [x.v] (.c (.d (.ol n (lB (x.ah.map (nV true)) q)))):=aC.of_le fun S=>by
 have h1:=eD x
 have hall:∀t∈x.ah,t.sz<=4194304:=fun t ht=>by have:=gZ ht;omega
 obtain⟨L,hL⟩:∃L:Nat->Nat,L=fun i=>q+jf (((x.ah.map (nV true)).take i).map bS.enc):=⟨_,rfl⟩;obtain⟨T,hT⟩:∃T:Nat->List (List D),T=fun i=>dX (((x.ah.map (nV true)).take i).map bS.enc) q:=⟨_,rfl⟩
 have hT0:T 0=[]:=by rw[hT];rfl
 have fP:∀i,(T i).length<=i:=fun i=>by rw[hT];simp only[kC,List.length_map];exact List.length_take_le _ _
 have hTr:∀i,∀r∈T i,r.length=4:=fun i=>by
  rw[hT]
  exact xA fun r hr=>by
   obtain⟨z,_,rfl⟩:=List.mem_map.1 hr;exact z.eB
 have hTs:∀i (hi:i<x.ah.length),T i++[fQ (nV true x.ah[i]).enc (L i)]=T (i+1):=fun i hi=>by
  have:=Bv (e:=bS.enc) (l:=x.ah.map (nV true)) (i:=i) (by rw[List.length_map];exact hi) q;rw[List.getElem_map] at this;rw[hT,hL];exact this
 have hTe:T x.ah.length=lB (x.ah.map (nV true)) q:=by
  rw[hT];simp only
  rw[List.take_of_length_le (by simp)];rfl
 clear hT hL;refine lU (n) (rs:=[.tmp 2]) zmx func156 ntmps156 rfl rfl rfl rfl rfl ?_;refine W1 ?_;refine W3 ?_;refine lD n 3 4 [] (.inl rfl) (by simp) ?_
 refine aR (ι:=Nat×List (List D)) zmx rfl [3,9,10,11] (fun y=>[.c (.bB (0,2) y.2),.c (.d (.sl (x.ah.map aj.enc))),.c (.d (.i .i64 x.ah.length)),.c (.d (.i .i64 y.1))])
  (fun y=>[.seed n,.box [.d (.s x.aG),.d (.sl (x.ah.map aj.enc))],.eu n 4 y.2]::S)
  (fun y=>y.1<=x.ah.length/\iM y.2 (T y.1)) (fun y=>x.ah.length-y.1) (0,[]) rfl rfl ⟨Nat.zero_le _,by rw[hT0];exact .nil⟩ ?_
 rintro⟨i,U⟩ ⟨p1,p2⟩;simp only at p1 p2;have hU1:=p2.length;have hU2:=fP i;have hU3:=p2.rows (hTr i);refine W1 ?_;refine S0 (fun hb h=>?_) fun hb h=>?_
 ·have hi':i<x.ah.length:=by omega
  have hz:=hall _ (List.getElem_mem hi');have hs:=hTs i hi';have hz1:=eD x.ah[i];refine W3 ?_;refine S0 (fun hb h=>?_) fun hb h=>?_
  ·have hl2:x.ah[i].ah.length=2:=by omega
   have hb:=aav (b:=true) (y:=x.ah[i]) (.inr hl2);have g1:x.ah[i].ah.getD 1 bT=x.ah[i].ah[1]:=jC (by omega);rw[aau,hb.1,hb.2,jM (by omega:0<x.ah[i].ah.length),g1] at hs;have hz2:=xD x.ah[i] (i:=1) (by omega);refine W3 ?_;refine C1 (qE x.ah[i].ah[1] (L i) (by omega)) ?_;refine W3 ?_;refine bL 3 (by decide) (i+1,_) (by simp only;omega) rfl rfl rfl rfl ⟨by simp only;omega,?_⟩
   simp only
   rw[<-hs];exact p2.snoc (.refl _)
  ·have hl2:x.ah[i].ah.length≠2:=by omega
   rw[aau,ajh hl2] at hs;refine bL 3 (by decide) (i+1,_) (by simp only;omega) rfl rfl rfl rfl ⟨by simp only;omega,?_⟩
   simp only
   rw[<-hs];exact p2.snoc (.cons (.refl _) (.cons (.refl _) (.cons (.refl _) (.cons (oh _) .nil))))
 ·have hi':i=x.ah.length:=by omega
  subst hi';rw[hTe] at p2;exact ai9 p2
theorem XF(x:aj)(hsz:x.sz<=1048576):aC prog 118 [x.v] (.dN [(true,(tu x).cv),(false,[.d (.b (okF x))])]):=aC.of_le fun S=>by
 have h1:=eD x;have hds:=Ru false x;have hos:=alH (f:=AR false x) (by omega);have hgs:=fun i=>uT x i (m:=4194304) (by omega);obtain⟨l,hl⟩:∃l,l=(x.ah.getD 4 bT).ah:=⟨_,rfl⟩;have hg4:=eD (x.ah.getD 4 bT)
 have hll:l.length<=4194304:=by have:=hgs 4;rw[hl];omega
 have hlm:∀y∈l,y.sz<=4194304:=fun y hy=>by
  have:=hgs 4;have:=gZ (hl▸hy);omega
 obtain⟨F,hF⟩:∃F,F=AR false x:=⟨_,rfl⟩
 have f1:F.fName=(x.ah.getD 1 bT).aG:=by rw[hF];rfl
 have f2:F.aF=eY (x.ah.getD 2 bT).ah:=by rw[hF];rfl
 have f3:F.dh=(x.ah.getD 3 bT).ah.map (nV false):=by rw[hF];rfl
 have f5:F.bU=dP false (x.ah.getD 5 bT):=by rw[hF];rfl
 have f6:F.fBody=eU false (x.ah.getD 6 bT):=by rw[hF];rfl
 obtain⟨T,hT⟩:∃T:Nat->List (List D),T=fun i=>((l.map (nW false)).take i).map dG.enc:=⟨_,rfl⟩
 have hT0:T 0=[]:=by rw[hT];rfl
 have fP:∀i,(T i).length<=i:=fun i=>by rw[hT];simp only[List.length_map];exact List.length_take_le _ _
 have hTs:∀i (hi:i<l.length),T i++[(nW false l[i]).enc]=T (i+1):=fun i hi=>by
  have:=Dw (e:=dG.enc) (l:=l.map (nW false)) (i:=i) (by rw[List.length_map];exact hi);rw[List.getElem_map] at this;rw[hT];exact this
 have hTe:T l.length=F.aY.map dG.enc:=by
  rw[hT];simp only
  rw[List.take_of_length_le (by simp),hF,hl];rfl
 clear hT
 have fU:okF x=false->Less (.dN [(true,G9),(false,[.d (.b false)])]) (.dN [(true,(tu x).cv),(false,[.d (.b (okF x))])]):=fun e=>by
  rw[e];exact arN _ (af3 e) false
 have c5:=qd (x.ah.getD 5 bT) (hgs 5);have c6:=Gb (x.ah.getD 6 bT) (hgs 6);have c2:=rR _ (hgs 2);have c3:=Jz _ (hgs 3);rw[<-f2] at c2;rw[<-f3] at c3;rw[<-f5] at c5;rw[<-f6] at c6;refine zcx [.cell 2 115,.tmp 3] func118 ntmps118 ?_;refine W1 ?_;refine C1 (fG x 1 (by omega) (by omega)) ?_;refine C1 (fG x 2 (by omega) (by omega)) ?_;refine aX c2 ?_;refine W1 ?_;refine C1 (fG x 3 (by omega) (by omega)) ?_;refine aX c3 ?_;refine W1 ?_;refine C1 (fG x 5 (by omega) (by omega)) ?_;refine aX c5 ?_;refine W1 ?_;refine C1 (fG x 6 (by omega) (by omega)) ?_;refine aX c6 ?_;refine W1 ?_;refine W3 ?_;refine C1 (fG x 4 (by omega) (by omega)) ?_;rw[<-hl,<-f1];refine ow 2 3 4 _ rfl rfl ?_
 refine aR (ι:=Nat) zmx rfl [1,2,4,5,6] (fun i=>[.c (.ptr (0,0) 0),.c (.ptr (0,1) 0),.c (.ptr (0,2) 0),.c (.ptr (0,3) 0),.c (.d (.i .i64 i))])
  (fun i=>[.box [.d (.s x.aG),.d (.sl (x.ah.map aj.enc))],.box G9,.box [.d (.s F.fName),.d (.sl (F.aF.map encS)),.d (.sl (F.dh.map bS.enc)),.bB (0,4) (T i),.d (.i .i64 F.bU.aM),.d (.s F.bU.fName),.d (.sl (F.bU.fArgs.map ak.enc)),
    .d (.i .i64 F.fBody.aM),.d (.s F.fBody.bG),.d (.s F.fBody.fName),.d (.i .i64 F.fBody.fN),.d (.i .i64 F.fBody.fType.aM),.d (.s F.fBody.fType.fName),.d (.sl (F.fBody.fType.fArgs.map ak.enc)),.d (.sl (F.fBody.fArgs.map ay.enc)),.d (.sl (F.fBody.aS.map aZ.enc))],
    .box [.d (.s (x.ah.getD 4 bT).aG),.d (.sl (l.map aj.enc))],.tok 4 (T i)]::S)
  (fun i=>i<=l.length) (fun i=>l.length-i) 0 rfl (by rw[hT0];rfl) (Nat.zero_le _) ?_
 intro i hi;have hl':=fP i;refine W1 ?_;refine S0 (fun hb h=>?_) fun hb h=>?_
 ·have hi':i<l.length:=by omega
  have hz:=hlm _ (List.getElem_mem hi');have hs:=hTs i hi';have hb:=TA (b:=false) (y:=l[i]) (.inl rfl);simp only[dG.aQ,ak.aQ,List.cons_append,List.nil_append,hb.1,hb.2] at hs;refine W3 ?_;refine C1 (fG l[i] 0 hz (by omega)) ?_;refine W3 ?_;refine C1 (fG l[i] 1 hz (by omega)) ?_;refine C1 (qd (l[i].ah.getD 1 bT) (uT _ 1 hz)) ?_;refine W3 ?_;rw[show(l[i].ah.getD 0 bT).aG=dK l[i].ah 0 from rfl,hs];exact bL 5 (by decide) (i+1) (by omega) rfl rfl rfl rfl (by omega)
 ·have hi':i=l.length:=by omega
  subst hi';rw[hTe];clear hTs;refine C1 (ng x (by omega)) ?_;refine S0 (fun hb h=>?_) fun hb h=>?_
  ·exact fU (aK fun e=>by rw[e.1] at h;cases h)
  have hv:=h;refine S0 (fun hb h=>?_) fun hb h=>?_
  ·exact fU (aK fun e=>by omega)
  have hne:x.ah≠[]:=fun e=>by rw[e] at h;exact h rfl
  have hok:=ajf hne;rw[hv,Bool.true_and] at hok;rw[<-hF] at hok hos hds;refine W3 ?_;refine C1 (KL F (by omega)) ?_;refine C1 (tF (CF F) x (by omega)) ?_;refine S0 (fun hb h=>?_) fun hb h=>?_
  ·exact fU (by rw[hok];exact aK h)
  ·have hy:okF x=true:=by rw[hok];exact bD h
   rw[aaw hy,hy,<-ajg hy,<-hF];exact gu _
theorem Uv(x:aj)(n:Nat)(hsz:x.sz<=1048576):aC prog 102 [x.v] (.dN [(true,(tu x).cl n (pF (tu x) n) (qF (tu x) n) (rF (tu x) n)),(false,[.d (.b (okF x))])]):=aC.of_le fun S=>by
 have h1:=eD x;have hds:=Ru true x;obtain⟨F,hF⟩:∃F,F=AR true x:=⟨_,rfl⟩;obtain⟨p,hp⟩:∃p,p=pF F n:=⟨_,rfl⟩;obtain⟨q,hq⟩:∃q,q=qF F n:=⟨_,rfl⟩;obtain⟨r,hr0⟩:∃r,r=rF F n:=⟨_,rfl⟩
 have fU:okF x=false->Less (.dN [(true,G9),(false,[.d (.b false)])]) (.dN [(true,(tu x).cl n (pF (tu x) n) (qF (tu x) n) (rF (tu x) n)),(false,[.d (.b (okF x))])]):=fun e=>by
  rw[e];exact anQ _ (af3 e) n _ _ _ false
 refine lU (n) (rs:=[.cell 2 115,.tmp 3]) zmx func102 ntmps102 rfl rfl rfl rfl rfl ?_;refine W1 ?_;refine C1 (uS x wT 7 (by omega) (by omega) (by omega)) ?_;refine S0 (fun hb h=>?_) fun hb h=>?_
 ·exact fU (aK fun e=>h ⟨e.1,e.2.1.1,e.2.1.2⟩)
 have hf:=h;have tY:=qZ hf.1
 have hfo:gP x=true:=by have:=hf.1;unfold dI at this;rw[Bool.and_eq_true] at this;exact this.1
 have hlen:7<=x.ah.length:=hf.2.1
 have f1:F.fName=x.ah[1].aG:=by rw[hF];exact jM (by omega)
 have f2:F.aF=eY x.ah[2].ah:=by rw[hF,<-jC (l:=x.ah) (i:=2) (by omega)];rfl
 have f3:F.dh=x.ah[3].ah.map (nV true):=by rw[hF,<-jC (l:=x.ah) (i:=3) (by omega)];rfl
 have f4:F.aY=x.ah[4].ah.map (nW true):=by rw[hF,<-jC (l:=x.ah) (i:=4) (by omega)];rfl
 have f5:F.bU=dP true x.ah[5]:=by rw[hF,<-jC (l:=x.ah) (i:=5) (by omega)];rfl
 have f6:F.fBody=eU true x.ah[6]:=by rw[hF,<-jC (l:=x.ah) (i:=6) (by omega)];rfl
 have hzs:=fun i hi=>xD x (i:=i) hi;have c2:=qD x.ah[2] (by have:=hzs 2 (by omega);omega) n;have c3:=JA x.ah[3] (n+1) (n+1+1) (by have:=hzs 3 (by omega);omega);have c5:=qE x.ah[5] q (by have:=hzs 5 (by omega);omega);have c6:=EJ x.ah[6] r (Rv hfo (by omega)) (by have:=hzs 6 (by omega);omega);rw[<-f2] at c2;rw[<-f3] at c3;rw[<-f5] at c5;rw[<-f6] at c6;have hz4:=hzs 4 (by omega);obtain⟨l,hl⟩:∃l,l=x.ah[4].ah:=⟨_,rfl⟩;have hg4:=eD x.ah[4]
 have hll:l.length<=4194304:=by rw[hl];omega
 have hlm:∀y∈l,y.sz<=4194304:=fun y hy=>by have:=gZ (hl▸hy);omega
 obtain⟨L,hL⟩:∃L:Nat->Nat,L=fun i=>p+1+jf (((l.map (nW true)).take i).map dG.enc):=⟨_,rfl⟩;obtain⟨T,hT⟩:∃T:Nat->List (List D),T=fun i=>dX (((l.map (nW true)).take i).map dG.enc) (p+1):=⟨_,rfl⟩
 have hT0:T 0=[]:=by rw[hT];rfl
 have fP:∀i,(T i).length<=i:=fun i=>by rw[hT];simp only[kC,List.length_map];exact List.length_take_le _ _
 have hTr:∀i,∀r∈T i,r.length=4:=fun i=>by
  rw[hT]
  exact xA fun r hr=>by
   obtain⟨z,_,rfl⟩:=List.mem_map.1 hr;exact z.eB
 have hTs:∀i (hi:i<l.length),T i++[fQ (nW true l[i]).enc (L i)]=T (i+1):=fun i hi=>by
  have:=Bv (e:=dG.enc) (l:=l.map (nW true)) (i:=i) (by rw[List.length_map];exact hi) (p+1);rw[List.getElem_map] at this;rw[hT,hL];exact this
 have hTe:T l.length=lPr F.aY (p+1):=by
  rw[hT];simp only
  rw[List.take_of_length_le (by simp),f4,hl];rfl
 clear hT hL;refine W3 ?_;refine aX c2 ?_;refine W1 ?_;refine W3 ?_;refine aX c3 ?_;refine W1 ?_;refine W3 ?_;refine aX c5 ?_;refine W1 ?_;refine W3 ?_;refine aX c6 ?_;refine W1 ?_;refine W3 ?_;rw[<-hl,<-f1];refine nS p 3 3 4 _ rfl rfl ?_
 refine aR (ι:=Nat×List (List D)) zmx rfl [1,2,5,39,40,41] (fun y=>[.c (.ptr (0,1) 0),.c (.ptr (0,2) 0),.c (.ptr (0,3) 0),.c (.d (.sl (l.map aj.enc))),.c (.d (.i .i64 l.length)),.c (.d (.i .i64 y.1))])
  (fun y=>[.seed n,.box [.d (.s x.aG),.d (.sl (x.ah.map aj.enc))],.box G9,.box [.d (.s F.fName),.d (.ol n (F.aF.map encS)),.d (.ol (n+1) (lB F.dh (n+1+1))),.bB (0,4) y.2,.d (.i .i64 F.bU.aM),.d (.s F.bU.fName),.d (.ol q (lt F.bU.fArgs (q+1))),
    .d (.i .i64 F.fBody.aM),.d (.s F.fBody.bG),.d (.s F.fBody.fName),.d (.i .i64 F.fBody.fN),.d (.i .i64 F.fBody.fType.aM),.d (.s F.fBody.fType.fName),.d (.ol r (lt F.fBody.fType.fArgs (r+1))),
    .d (.ol (r+(fZ F.fBody.fType.fArgs+1)) (lE F.fBody.fArgs (r+(fZ F.fBody.fType.fArgs+1)+1))),.d (.ol (r+(fZ F.fBody.fType.fArgs+1)+(lK F.fBody.fArgs+1)) (lM F.fBody.aS (r+(fZ F.fBody.fType.fArgs+1)+(lK F.fBody.fArgs+1)+1)))],
    .eu p 4 y.2]::S)
  (fun y=>y.1<=l.length/\iM y.2 (T y.1)) (fun y=>l.length-y.1) (0,[]) rfl rfl ⟨Nat.zero_le _,by rw[hT0];exact .nil⟩ ?_
 rintro⟨i,U⟩ ⟨p1,p2⟩;simp only at p1 p2;have hU1:=p2.length;have hU2:=fP i;have hU3:=p2.rows (hTr i);refine W1 ?_;refine S0 (fun hb h=>?_) fun hb h=>?_
 ·have hi':i<l.length:=by omega
  have hz:=hlm _ (List.getElem_mem hi');have hs:=hTs i hi';have hz1:=eD l[i];refine W3 ?_;refine S0 (fun hb h=>?_) fun hb h=>?_
  ·have hl2:l[i].ah.length=2:=by omega
   have hb:=TA (b:=true) (y:=l[i]) (.inr hl2);have g1:l[i].ah.getD 1 bT=l[i].ah[1]:=jC (by omega);rw[XE,hb.1,hb.2,jM (by omega:0<l[i].ah.length),g1] at hs;have hz2:=xD l[i] (i:=1) (by omega);refine W3 ?_;refine C1 (qE l[i].ah[1] (L i) (by omega)) ?_;refine W3 ?_;refine bL 5 (by decide) (i+1,_) (by simp only;omega) rfl rfl rfl rfl ⟨by simp only;omega,?_⟩
   simp only
   rw[<-hs];exact p2.snoc (.refl _)
  ·have hl2:l[i].ah.length≠2:=by omega
   rw[XE,adg hl2] at hs;refine bL 5 (by decide) (i+1,_) (by simp only;omega) rfl rfl rfl rfl ⟨by simp only;omega,?_⟩
   simp only
   rw[<-hs];exact p2.snoc (.cons (.refl _) (.cons (.refl _) (.cons (.refl _) (.cons (oh _) .nil))))
 ·have hi':i=l.length:=by omega
  subst hi';clear hTs;rw[hTe] at p2
  have hcl:Less (.agg [.d (.s F.fName),.d (.ol n (F.aF.map encS)),.d (.ol (n+1) (lB F.dh (n+1+1))),.d (.sl U),.d (.i .i64 F.bU.aM),.d (.s F.bU.fName),.d (.ol q (lt F.bU.fArgs (q+1))),
   .d (.i .i64 F.fBody.aM),.d (.s F.fBody.bG),.d (.s F.fBody.fName),.d (.i .i64 F.fBody.fN),.d (.i .i64 F.fBody.fType.aM),.d (.s F.fBody.fType.fName),.d (.ol r (lt F.fBody.fType.fArgs (r+1))),
   .d (.ol (r+(fZ F.fBody.fType.fArgs+1)) (lE F.fBody.fArgs (r+(fZ F.fBody.fType.fArgs+1)+1))),.d (.ol (r+(fZ F.fBody.fType.fArgs+1)+(lK F.fBody.fArgs+1)) (lM F.fBody.aS (r+(fZ F.fBody.fType.fArgs+1)+(lK F.fBody.fArgs+1)+1)))]) F.v:=by
   have lab:∀(es:List (List D))(k j:Nat),oI (.d (.ol k (dX es j))) (.d (.sl es)):=fun es k j w σ S β v h=>(pO es j).rep (tK h);exact(fE.cons (.refl _) (.cons (GZ _ _) (.cons (lab _ _ _) (.cons (vM (p2.trans (pO _ _))) (.cons (.refl _) (.cons (.refl _) (.cons (lab _ _ _) (.cons (.refl _) (.cons (.refl _) (.cons (.refl _) (.cons (.refl _) (.cons (.refl _) (.cons (.refl _) (.cons (lab _ _ _) (.cons (lab _ _ _) (.cons (lab _ _ _) .nil)))))))))))))))).less
  rw[<-hF] at hds;refine jY (GX F (by omega)) (.cons hcl .nil) ?_;refine W1 ?_;refine S0 (fun hb h=>?_) fun hb h=>?_
  ·exact fU (aK fun e=>by rw[<-hF] at e;rw[e.2.2.1] at h;cases h)
  have hv:=h;have hz:=Xg (vw hv).2.2.2;refine W3 ?_;refine jY (aC.less (CG F 0 hv (by omega)) (yX (vv F) 0)) (.cons hcl .nil) ?_;refine W1 ?_;refine C1 (qK (vv F) x (by omega)) ?_;refine S0 (fun hb h=>?_) fun hb h=>?_
  ·exact fU (aK fun e=>h (by rw[<-hF] at e;exact e.2.2.2))
  ·have hy:okF x=true:=by
    unfold okF;rw[<-hF];exact bD ⟨hf.1,hf.2,hv,h⟩
   rw[aaw hy,hy,<-hF,<-hp,<-hq,<-hr0];exact(ig.cons (.cons (.refl _) (.cons (.refl _) (.cons (.refl _) (.cons (I6 p2) (.refl _))))) (.refl _)).less
end Go.Ab