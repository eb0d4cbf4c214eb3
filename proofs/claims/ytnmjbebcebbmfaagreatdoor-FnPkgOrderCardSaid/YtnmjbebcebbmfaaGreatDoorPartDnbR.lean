/-
  SEVERAL TEXTS IN ONE (merged by program): contracts and models, each with its own heading.
-/
import Derived.Test.YtnmjbebcebbmfaaGreatDoorPartDnbN
set_option linter.unusedSimpArgs false
set_option linter.unusedVariables false
namespace Go.Ab
section
variable {P:Program} {w w':World} {σ σ':Nat->Nat} {S:Store} {β:Hs}
end
section
variable {P:Program} {w w':World} {σ σ':Nat->Nat} {β:Hs}
theorem apc{own:List Obj}{Ω:Store}(lab:Option Nat)(j i bB:Nat)(es:List (List D))(cs:List C)(hj:own[j]? =some (.box cs))(hi:cs[i]? =some (match lab with|some n=>.mE n es|none=>.bH es))(hes:∀e∈es,e.length=bB)(hS:fC w σ (own::Ω) β):
 ∃β',fC w σ ((own.set j (.box (cs.set i (.bJ (0,own.length) es)))++[ku lab bB es])::Ω) β'/\Step (own::Ω) β σ w ((own.set j (.box (cs.set i (.bJ (0,own.length) es)))++[ku lab bB es])::Ω) β' σ w/\Keep (own::Ω) β ((own.set j (.box (cs.set i (.bJ (0,own.length) es)))++[ku lab bB es])::Ω) β':=by
 cases β with
 |nil=>have:=hS.shape.1;simp at this
 |cons bo bΩ=>
 have hlen:bo.length=own.length:=by
  obtain⟨gr,g1,g2⟩:=hS.shape.2 0 own rfl;simp at g1;rw[g1];exact g2
 have hjl:=(ap.1 hj).1
 have hg0:bC (own::Ω) (0,j)=some (.box cs):=by rw[bM];exact hj
 obtain⟨hb,OQ,hr⟩:=hS.obj (0,j) _ hg0;obtain⟨b,cv,ty,rfl,hbc,hσ,hcs⟩:=hr;have hcs:gN w σ (own::Ω) (bo::bΩ) cs cv.toList:=hcs;obtain⟨v,hv,hc0,hone⟩:=hcs.2 i _ hi
 have hx:∃ad:Option Addr,dO w σ (.sl es) v/\v=.slice ad es.length es.length/\∀n,lab=some n->dO w σ (.ol n es) v:=by
  cases lab with
  |none=>
   obtain⟨hd,ad,n,hval⟩:=hc0
   have hn:n=es.length:=by rw[hval] at hd;cases hd<;>rfl
   exact⟨ad,hd,by rw[hval,hn],fun n e=>by cases e⟩
  |some n=>
   obtain⟨hd,ad,m,hval⟩:=hc0
   have hn:m=es.length:=by
    have:=vI hd;rw[hval] at this;cases this<;>rfl
   exact⟨ad,vI hd,by rw[hval,hn],fun n' e=>by cases e;exact hd⟩
 obtain⟨ad,hd,hval,hol⟩:=hx;have hg:Grow w σ w σ:=Grow.refl hS.live
 obtain⟨hS',hk,hst⟩:=hS.push (o:=ku lab bB es) (h:=v) hg hlen (by
  cases lab with
  |none=>exact⟨hd,hes,ad,es.length,hval,ax _,.inl rfl⟩
  |some n=>exact⟨hd,hes,ad,es.length,hval,ax _,.inl ⟨rfl,hol n rfl⟩⟩) (fun b hb=>by
  rw[hval] at hb
  cases lab<;>cases ad<;>simp[ku,owns,blk] at hb)
 have hk1:bC ((own++[ku lab bB es])::Ω) (0,j)=some (.box cs):=lD _ _ _ _ _ hg0;have Lh:bC ((bo++[v])::bΩ) (0,j)=some (.pointer (some ⟨b,0,none⟩)):=lD _ _ _ _ _ OQ;have hko:nZ (.box cs) (some (Value.pointer (some ⟨b,0,none⟩))) (.box (cs.set i (.bJ (0,own.length) es))) (some (Value.pointer (some ⟨b,0,none⟩))):=.inr ⟨⟨_,rfl⟩,rfl⟩
 have hK:Keep ((own++[ku lab bB es])::Ω) ((bo++[v])::bΩ) (bA ((own++[ku lab bB es])::Ω) (0,j) (.box (cs.set i (.bJ (0,own.length) es)))) (bA ((bo++[v])::bΩ) (0,j) (.pointer (some ⟨b,0,none⟩))):=by
  intro k1 o1 e1;by_cases e:k1=(0,j)
  ·subst e;rw[hk1] at e1;cases e1;exact⟨_,dA _ _ _ _ hk1,by rw[Lh,dA _ _ _ _ Lh];exact hko⟩
  ·exact⟨o1,(fV _ _ _ _ (Ne.symm e)).trans e1,by rw[fV _ _ _ _ (Ne.symm e)];exact .refl _ _⟩
 have hne:(0,own.length)≠(0,j):=fun e=>by injection e with _ e;omega
 obtain⟨hS2,hk2,wG⟩:=hS'.set (w':=w) (σ':=σ) (o':=.box (cs.set i (.bJ (0,own.length) es))) (h':=.pointer (some ⟨b,0,none⟩)) hk1 Lh (ax _) rfl rfl (eH.refl _ _) hS'.live (fun _ _ _=>⟨rfl,rfl⟩) hko
  ⟨b,cv,ty,rfl,hbc,hσ,by
    refine⟨by rw[cW];exact hcs.1,fun m x hm=> ?_⟩;rw[eJ] at hm;by_cases e:i=m
    ·subst e;rw[if_pos rfl] at hm;split at hm
     ·cases hm;refine⟨v,hv,⟨hd,ku lab bB es,?_,fun a1 b1 e1=> ?_⟩,hone⟩
      ·show bC (bA _ (0,j) _) (0,own.length)=_;rw[fV _ _ _ _ (Ne.symm hne),dw]
      ·obtain⟨_,rfl⟩:=mM e1;refine⟨ax _,fun _=> ?_⟩;show bC (bA _ (0,j) _) (0,own.length)=_;rw[fV _ _ _ _ (Ne.symm hne),<-hlen,dw]
     ·cases hm
    ·rw[if_neg e] at hm;obtain⟨u,hu,hc,ho⟩:=hcs.2 m x hm
     exact⟨u,hu,(hc.mono (eH.refl _ _) hk).mono (eH.refl _ _) hK,ho⟩⟩ (fun _ e=>.inl e)
 have est:bA ((own++[ku lab bB es])::Ω) (0,j) (.box (cs.set i (.bJ (0,own.length) es)))=(own.set j (.box (cs.set i (.bJ (0,own.length) es)))++[ku lab bB es])::Ω:=by
  rw[bA,List.set_append_left _ _ hjl]
 rw[est] at hS2 hk2 wG;exact⟨_,hS2,hst.trans wG,hk.trans hk2⟩
end
section
variable {P:Program} {w w':World} {σ σ':Nat->Nat} {β:Hs} {N:Nat}
def pW(x y:C):Prop:=∀w σ S β v,jc w σ S β x v->jc w σ S β y v
theorem pW.refl(x:C):pW x x:=fun _ _ _ _ _ h=>h
theorem M7(n:Nat):pW (.bH []) (.mE n []):=fun w σ S β v h=>by
 obtain⟨hd,a,m,hv⟩:=h
 have hm:m=0:=by rw[hv] at hd;cases hd<;>rfl
 subst hm;exact⟨by rw[hv];exact .xO _ _ _,a,0,hv⟩
theorem eD(n:Nat):pW (.bH []) (.d (.ol n [])):=fun w σ S β v h=>(M7 n w σ S β v h).1
theorem fJ(es:List (List D)):pW (.bH es) (.d (.sl es)):=fun w σ S β v h=>h.1
theorem JW(n:Nat)(es:List (List D)):pW (.d (.ol n es)) (.d (.sl es)):=fun w σ S β v h=>vI h
inductive fP:List C->List C->Prop
 |nil:fP [] []
 |cons {x y:C} {xs ys:List C}:pW x y->fP xs ys->fP (x::xs) (y::ys)
theorem fP.refl:∀xs,fP xs xs
 |[]=>.nil
 |x::xs=>.cons (.refl x) (fP.refl xs)
theorem fP.length:∀{xs ys:List C},fP xs ys->xs.length=ys.length
 |_,_,.nil=>rfl
 |_,_,.cons _ h=>by rw[aa,aa,fP.length h]
theorem fP.at:∀{xs ys:List C},fP xs ys->∀(j:Nat)(x y:C),xs[j]? =some x->ys[j]? =some y->pW x y
 |_,_,.nil,j,x,y,h,_=>by simp at h
 |_,_,.cons a h,0,x,y,h1,h2=>by simp at h1 h2;subst h1;subst h2;exact a
 |_,_,.cons a h,j+1,x,y,h1,h2=>fP.at h j x y (by simpa using h1) (by simpa using h2)
theorem fP.less{xs ys:List C}(h:fP xs ys):Less (.agg xs) (.agg ys):=by
 rintro w σ S β v ⟨a,ha,hc⟩;refine⟨a,ha,h.length.symm.trans hc.1,fun j y hy=> ?_⟩
 have hj:j<xs.length:=by rw[h.length];exact(ap.1 hy).1
 obtain⟨v,h1,h2,h3⟩:=hc.2 j _ (am hj);exact⟨v,h1,h.at j _ y (am hj) hy w σ S β v h2,h3⟩
theorem fP.arj{xs ys:List C}(h:fP xs ys){w:World}{σ:Nat->Nat}{S:Store}{β:Hs}{vs:List Value}(hc:gN w σ S β xs vs):gN w σ S β ys vs:=by
 refine⟨h.length.symm.trans hc.1,fun j y hy=> ?_⟩
 have hj:j<xs.length:=by rw[h.length];exact(ap.1 hy).1
 obtain⟨v,h1,h2,h3⟩:=hc.2 j _ (am hj);exact⟨v,h1,h.at j _ y (am hj) hy w σ S β v h2,h3⟩
theorem alW{own:List Obj}{Ω:Store}(j:Nat)(cs cs':List C)(hj:own[j]? =some (.box cs))(hle:fP cs cs')(hS:fC w σ (own::Ω) β):
 ∃β',fC w σ ((own.set j (.box cs'))::Ω) β'/\Step (own::Ω) β σ w ((own.set j (.box cs'))::Ω) β' σ w/\Keep (own::Ω) β ((own.set j (.box cs'))::Ω) β'/\iD β'=iD β/\β'.length=β.length:=by
 cases β with
 |nil=>have:=hS.shape.1;simp at this
 |cons bo bΩ=>
 have hg0:bC (own::Ω) (0,j)=some (.box cs):=by rw[bM];exact hj
 obtain⟨hb,OQ,hr⟩:=hS.obj (0,j) _ hg0;obtain⟨b,cv,ty,rfl,hbc,hσ,hcs⟩:=hr;have hcs:gN w σ (own::Ω) (bo::bΩ) cs cv.toList:=hcs;have hko:nZ (.box cs) (some (Value.pointer (some ⟨b,0,none⟩))) (.box cs') (some (Value.pointer (some ⟨b,0,none⟩))):=.inr ⟨⟨_,rfl⟩,rfl⟩
 have hK:Keep (own::Ω) (bo::bΩ) (bA (own::Ω) (0,j) (.box cs')) (bA (bo::bΩ) (0,j) (.pointer (some ⟨b,0,none⟩))):=by
  intro k1 o1 e1;by_cases e:k1=(0,j)
  ·subst e;rw[hg0] at e1;cases e1;exact⟨_,dA _ _ _ _ hg0,by rw[OQ,dA _ _ _ _ OQ];exact hko⟩
  ·exact⟨o1,(fV _ _ _ _ (Ne.symm e)).trans e1,by rw[fV _ _ _ _ (Ne.symm e)];exact .refl _ _⟩
 obtain⟨hS2,hk2,wG⟩:=hS.set (w':=w) (σ':=σ) (o':=.box cs') (h':=.pointer (some ⟨b,0,none⟩)) hg0 OQ (ax _) rfl rfl (eH.refl _ _) hS.live (fun _ _ _=>⟨rfl,rfl⟩) hko
  ⟨b,cv,ty,rfl,hbc,hσ,by
    have h1:=hle.arj hcs;refine⟨h1.1,fun m x hm=> ?_⟩;obtain⟨u,hu,hc,ho⟩:=h1.2 m x hm
    exact⟨u,hu,hc.mono (eH.refl _ _) hK,ho⟩⟩ (fun _ e=>.inl e)
 have est:bA (own::Ω) (0,j) (.box cs')=(own.set j (.box cs'))::Ω:=rfl;rw[est] at hS2 hk2 wG;exact⟨_,hS2,wG,hk2,rfl,by simp[bA]⟩
theorem Xe{tm:List (Nat×V)}{own:List Obj}{Ω:Store}(j:Nat)(cs cs':List C)(hj:own[j]? =some (.box cs))(hle:fP cs cs'):iK N ⟨tm,own::Ω⟩ ⟨tm,(own.set j (.box cs'))::Ω⟩:=by
 intro a w σ β hR;obtain⟨β',hS,hst,hk,ht,_⟩:=alW j cs cs' hj hle hR.S;refine⟨σ,β',⟨hR.size,hR.defers,hS,fun u=>(hR.T u).mono (eH.refl _ _) hk⟩,hst,?_⟩;rw[ht];exact Keep.refl _ _
theorem M8{tm:List (Nat×V)}{own:List Obj}{Ω:Store}(lab:Option Nat)(j i bB:Nat)(es:List (List D))(cs:List C)(hj:own[j]? =some (.box cs))(hi:cs[i]? =some (match lab with|some n=>.mE n es|none=>.bH es))(hes:∀e∈es,e.length=bB):
 iK N ⟨tm,own::Ω⟩ ⟨tm,(own.set j (.box (cs.set i (.bJ (0,own.length) es)))++[ku lab bB es])::Ω⟩:=by
 intro a w σ β hR;obtain⟨β',hS,hst,hk⟩:=apc lab j i bB es cs hj hi hes hR.S;refine⟨σ,β',⟨hR.size,hR.defers,hS,fun u=>(hR.T u).mono (eH.refl _ _) hk⟩,hst,?_⟩;intro k o hko
 obtain⟨o',h1,h2⟩:=hk (k.1+1,k.2) o (by
  obtain⟨l,i⟩:=k;show bC (own::Ω) (l+1,i)=_
  rw[dG];exact hko)
 obtain⟨bo,bΩ,rfl,_⟩:=frames hR;have h3:=hS.shape.1
 cases β' with
 |nil=>simp at h3
 |cons bo' bΩ'=>
  rw[dG] at h1;rw[dG,dG] at h2;exact⟨o',h1,h2⟩
theorem KU{c:Code}{Q:Exit->St->Prop}{tm:List (Nat×V)}{own:List Obj}{Ω:Store}(j:Nat)(cs cs':List C)(hj:own[j]? =some (.box cs))(hle:fP cs cs')(h:AW P N c Q ⟨tm,(own.set j (.box cs'))::Ω⟩):AW P N c Q ⟨tm,own::Ω⟩:=mO h (Xe j cs cs' hj hle)
theorem Iu{x y:C}(hle:pW x y):∀(i:Nat)(cs:List C),cs[i]? =some x->fP cs (cs.set i y)
 |0,[],h=>by simp at h
 |0,z::cs,h=>by simp at h;subst h;exact .cons hle (.refl cs)
 |i+1,[],h=>by simp at h
 |i+1,z::cs,h=>.cons (.refl z) (Iu hle i cs (by simpa using h))
theorem oG{c:Code}{Q:Exit->St->Prop}{tm:List (Nat×V)}{own:List Obj}{Ω:Store}(n j i bB:Nat)(cs:List C)(hj:own[j]? =some (.box cs))(hi:cs[i]? =some (.bH []))
 (h:AW P N c Q ⟨tm,(own.set j (.box (cs.set i (.bJ (0,own.length) [])))++[.eP n bB []])::Ω⟩):AW P N c Q ⟨tm,own::Ω⟩:=by
 have hjl:=(ap.1 hj).1;have hil:=(ap.1 hi).1;refine KU j cs (cs.set i (.mE n [])) hj (Iu (M7 n) i cs hi) ?_;refine mO ?_ (M8 (some n) j i bB [] (cs.set i (.mE n [])) (by rw[dS hjl]) (by rw[dS hil]) gL);rw[List.set_set,List.set_set,cW];exact h
theorem kJ{c:Code}{Q:Exit->St->Prop}{tm:List (Nat×V)}{own:List Obj}{Ω:Store}(j i bB:Nat)(cs:List C)(hj:own[j]? =some (.box cs))(hi:cs[i]? =some (.bH []))
 (h:AW P N c Q ⟨tm,(own.set j (.box (cs.set i (.bJ (0,own.length) [])))++[.tok bB []])::Ω⟩):AW P N c Q ⟨tm,own::Ω⟩:=
 mO h (M8 none j i bB [] cs hj hi gL)
def M9(x y:D):Prop:=∀w σ v,dO w σ x v->dO w σ y v
theorem M9.refl(x:D):M9 x x:=fun _ _ _ h=>h
theorem acY(d:D)(n:Nat):M9 (rM d n) d:=fun w σ v h=>alH d n v h
inductive oh:List D->List D->Prop
 |nil:oh [] []
 |cons {x y:D} {xs ys:List D}:M9 x y->oh xs ys->oh (x::xs) (y::ys)
theorem oh.refl:∀r,oh r r
 |[]=>.nil
 |x::xs=>.cons (.refl x) (oh.refl xs)
theorem oh.length:∀{r r':List D},oh r r'->r.length=r'.length
 |_,_,.nil=>rfl
 |_,_,.cons _ h=>by rw[aa,aa,h.length]
theorem oh.at:∀{r r':List D},oh r r'->∀(j:Nat)(y:D),r'[j]? =some y->∃x,r[j]? =some x/\M9 x y
 |_,_,.nil,j,y,h=>by simp at h
 |_,_,.cons a h,0,y,h2=>by simp at h2;subst h2;exact⟨_,rfl,a⟩
 |_,_,.cons a h,j+1,y,h2=>h.at j y (by simpa using h2)
theorem VP:∀(r:List D)(n:Nat),oh (fE r n) r
 |[],n=>.nil
 |d::ds,n=>.cons (acY d n) (VP ds _)
theorem oh.append:∀{a a' b b':List D},oh a a'->oh b b'->oh (a++b) (a'++b')
 |_,_,_,_,.nil,h=>h
 |_,_,_,_,.cons x h,k=>.cons x (h.append k)
inductive jd:List (List D)->List (List D)->Prop
 |nil:jd [] []
 |cons {x y:List D} {xs ys:List (List D)}:oh x y->jd xs ys->jd (x::xs) (y::ys)
theorem jd.length:∀{r r':List (List D)},jd r r'->r.length=r'.length
 |_,_,.nil=>rfl
 |_,_,.cons _ h=>by rw[aa,aa,h.length]
theorem jd.snoc:∀{a b:List (List D)}{x y:List D},jd a b->oh x y->jd (a++[x]) (b++[y])
 |_,_,_,_,.nil,h=>.cons h .nil
 |_,_,_,_,.cons z h,k=>.cons z (h.snoc k)
theorem jd.rows{z:Nat}:∀{a b:List (List D)},jd a b->(∀r∈b,r.length=z)->∀r∈a,r.length=z
 |_,_,.nil,h,r,hr=>by cases hr
 |_,_,.cons x h,k,r,hr=>by
  rcases cT.1 hr with rfl|hr
  ·rw[x.length];exact k _ gL
  ·exact h.rows (fun r hr=>k r (by simp[hr])) r hr
theorem jd.flat:∀{a b:List (List D)},jd a b->oh a.flatten b.flatten
 |_,_,.nil=>.nil
 |_,_,.cons x h=>by rw[cF,cF];exact x.append h.flat
theorem jd.rep{a b:List (List D)}(h:jd a b){w:World}{σ:Nat->Nat}{v:Value}(hr:dO w σ (.sl a) v):dO w σ (.sl b) v:=by
 cases hr with
 |nil ad cap=>
  cases h;exact .nil ad cap
 |sl b0 off cap bB es vals c t fz hcap hlen hb hσ hc hv=>
  have hl:=h.length;rw[hl] at hcap hσ hc ⊢
  have hlb:∀e∈b,e.length=bB:=fun e he=>by
   obtain⟨i,hi,rfl⟩:=ci he
   have:∀{a b:List (List D)}(h:jd a b)(i:Nat)(hi:i<b.length)(hi':i<a.length),oh a[i] b[i]:=by
    intro a b h
    induction h with
    |nil=>intro i hi;simp at hi
    |cons x h ih=>intro i hi hi';cases i with
     |zero=>exact x
     |succ i=>exact ih i (by simpa using hi) (by simpa using hi')
   have h1:=this h i hi gA;rw[<-h1.length];exact hlen _ (ac _)
  refine .sl b0 off cap bB b vals c t fz hcap hlb hb hσ hc fun j d hd=> ?_;obtain⟨x,hx,hle⟩:=h.flat.at j d hd;exact hle w σ _ (hv j x hx)
theorem qE:∀(r:List (List D))(n:Nat),jd (eO r n) r
 |[],n=>.nil
 |d::ds,n=>.cons (VP d n) (qE ds _)
inductive jr:List (Bool×List C)->List (Bool×List C)->Prop
 |nil:jr [] []
 |cons {b:Bool} {cs cs':List C} {xs ys:List (Bool×List C)}:fP cs cs'->jr xs ys->jr ((b,cs)::xs) ((b,cs')::ys)
theorem jr.refl:∀xs,jr xs xs
 |[]=>.nil
 |(b,cs)::xs=>.cons (.refl cs) (jr.refl xs)
theorem jr.length:∀{xs ys:List (Bool×List C)},jr xs ys->xs.length=ys.length
 |_,_,.nil=>rfl
 |_,_,.cons _ h=>by rw[aa,aa,h.length]
theorem jr.at:∀{xs ys:List (Bool×List C)},jr xs ys->∀(j:Nat)(y:Bool×List C),ys[j]? =some y->∃cs,xs[j]? =some (y.1,cs)/\fP cs y.2
 |_,_,.nil,j,y,h=>by simp at h
 |_,_,.cons a h,0,y,h2=>by simp at h2;subst h2;exact⟨_,rfl,a⟩
 |_,_,.cons a h,j+1,y,h2=>h.at j y (by simpa using h2)
theorem jr.less{xs ys:List (Bool×List C)}(h:jr xs ys):Less (.eu xs) (.eu ys):=by
 rintro w σ S β v ⟨a,ha,hl,hc⟩;refine⟨a,ha,h.length.symm.trans hl,fun j y hy=> ?_⟩;obtain⟨cs,h1,h2⟩:=h.at j y hy;obtain⟨u,hu,hr⟩:=hc j _ h1;refine⟨u,hu,?_⟩;obtain⟨b,cs'⟩:=y
 cases b with
 |true=>
  obtain⟨a',e,hcs⟩:=hr;exact⟨a',e,h2.arj hcs⟩
 |false=>
  obtain⟨x,e,hx,ho⟩:=hr;simp only at e h2;subst e
  cases h2 with
  |cons hxy hn=>
   cases hn;exact⟨_,rfl,hxy w σ S β u hx,ho⟩
theorem aD.of_le{f:FuncId}{args:List V}{t:V}(h:∀S,bS P f args S fun r S'=>Less r t/\S'=S):aD P f args t:=fun S=>
 ⟨(h S).1,fun w σ β vs hS hv=>((h S).2 w σ β vs hS hv).mono fun e w' ⟨v,r,S',σ',β',h1,h2,h3,h4,h5,h6,h7⟩=>⟨v,t,S',σ',β',h1,h2,h3,h4,h6 _ _ _ _ _ h5,rfl,h7⟩⟩
theorem VQ{cs cs':List C}{xs:List (Bool×List C)}(h:∀w σ S β vs,gN w σ S β cs vs->gN w σ S β cs' vs):Less (.eu ((true,cs)::xs)) (.eu ((true,cs')::xs)):=by
 rintro w σ S β v ⟨a,ha,hl,hc⟩;obtain⟨u,hu,a',rfl,hcs⟩:=hc 0 _ rfl;refine⟨a,ha,hl,fun j y hy=> ?_⟩
 cases j with
 |zero=>
  simp at hy;subst hy;exact⟨_,hu,a',rfl,h _ _ _ _ _ hcs⟩
 |succ j=>exact hc (j+1) y (by simpa using hy)
theorem gV(v:V):Less v v:=fun _ _ _ _ _ h=>h
end
theorem oV(n:Nat):M9 (.sl []) (.ol n []):=fun w σ v h=>by
 cases h with
 |nil a cap=>exact .xO n a cap
 |sl b off cap bB es vals c t fz hcap hlen hb hσ hc hv=>exact .xO n _ _
theorem M9.trans{a b c:D}(h:M9 a b)(k:M9 b c):M9 a c:=fun w σ v x=>k w σ v (h w σ v x)
theorem oh.trans:∀{a b c:List D},oh a b->oh b c->oh a c
 |_,_,_,.nil,.nil=>.nil
 |_,_,_,.cons x h,.cons y k=>.cons (x.trans y) (h.trans k)
theorem jd.trans:∀{a b c:List (List D)},jd a b->jd b c->jd a c
 |_,_,_,.nil,.nil=>.nil
 |_,_,_,.cons x h,.cons y k=>.cons (x.trans y) (h.trans k)
theorem jd.at{a b:List (List D)}(h:jd a b):∀(i:Nat)(hi:i<b.length)(hi':i<a.length),oh a[i] b[i]:=by
 induction h with
 |nil=>intro i hi;simp at hi
 |cons x h ih=>intro i hi hi';cases i with
  |zero=>exact x
  |succ i=>exact ih i (by simpa using hi) (by simpa using hi')
theorem jd.ark{a b:List (List D)}(h:jd a b){n:Nat}{w:World}{σ:Nat->Nat}{v:Value}(hr:dO w σ (.ol n a) v):dO w σ (.ol n b) v:=by
 cases hr with
 |xO _ ad cap=>
  cases h;exact .xO n ad cap
 |ol _ b0 off cap bB es vals c t hcap hlen hb hσ hfit hc hv Bh=>
  have hl:=h.length;rw[hl] at hcap hfit hc ⊢
  have hlb:∀e∈b,e.length=bB:=fun e he=>by
   obtain⟨i,hi,rfl⟩:=ci he;have h1:=h.at i hi gA;rw[<-h1.length];exact hlen _ (ac _)
  refine .ol n b0 off cap bB b vals c t hcap hlb hb hσ hfit hc (fun j d hd=> ?_) Bh;obtain⟨x,hx,hle⟩:=h.flat.at j d hd;exact hle w σ _ (hv j x hx)
theorem KV{n:Nat}{a b:List (List D)}(h:jd a b):pW (.d (.ol n a)) (.d (.ol n b)):=fun w σ S β v hr=>h.ark hr
theorem alX{n:Nat}{a b:List (List D)}(h:jd a b):Less (.c (.d (.ol n a))) (.c (.d (.ol n b))):=fun w σ S β v hr=>⟨h.ark hr.1,hr.2⟩
theorem xK{a b:List (List D)}(h:jd a b):pW (.d (.sl a)) (.d (.sl b)):=fun w σ S β v hr=>h.rep hr
theorem pW.trans{a b c:C}(h:pW a b)(k:pW b c):pW a c:=fun w σ S β v x=>k w σ S β v (h w σ S β v x)
end Go.Ab