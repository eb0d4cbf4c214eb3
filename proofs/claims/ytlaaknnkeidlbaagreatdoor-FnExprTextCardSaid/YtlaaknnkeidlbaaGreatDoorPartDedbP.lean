/-
  SEVERAL TEXTS IN ONE (merged by program): contracts and models, each with its own heading.
-/
import Derived.Test.YtlaaknnkeidlbaaGreatDoorPartDedbM
import Derived.Test.YtlaaknnkeidlbaaGreatDoorPartDedbO
open Go.Proofs Go.Proofs.Tryz
set_option linter.unusedSimpArgs false
set_option linter.unusedVariables false
set_option maxRecDepth 8000
namespace Go.Ab
section
variable {P:Program} {N:Nat} {w w':World} {σ σ':Nat->Nat} {S S':Store} {β β':Hs} {s:St} {a:Act}
def JF:C->Bool
 | .d (.b _)=>true
 | .d (.i _ _)=>true
 | .d (.s _)=>true
 | .any=>true
 |_=>false
def adO:V->Bool
 | .c x=>JF x
 | .agg cs=>cs.all JF
 | .dI xs=>xs.all fun y=>y.2.all JF
 | .any=>true
theorem Qa{c:C}{v:Value}(h:JF c=true)(hr:dS w σ S β c v):dS w' σ' S' β' c v:=by
 cases c with
 |d x=>cases x<;>first|(cases h;done)|(cases hr;constructor)
 |any=>trivial
 |_=>cases h
theorem TA{cs:List C}{vs:List Value}(h:cs.all JF=true)(hr:dF w σ S β cs vs):dF w' σ' S' β' cs vs:=
 ⟨hr.1,fun j x hx=>let⟨v,h1,h2,h3⟩:=hr.2 j x hx;⟨v,h1,Qa (aS.1 h x (cM hx)) h2,h3⟩⟩
theorem agW{x:V}{v:Value}(h:adO x=true)(hr:bJ w σ S β x v):bJ w' σ' S' β' x v:=by
 cases x with
 |c x=>exact⟨Qa h hr.1,hr.2⟩
 |agg cs=>obtain⟨ar,ha,hc⟩:=hr;exact⟨ar,ha,TA h hc⟩
 |any=>trivial
 |dI xs=>
  obtain⟨ar,ha,hl,h2⟩:=hr;refine⟨ar,ha,hl,fun j y hy=> ?_⟩;obtain⟨u,hu,h3⟩:=h2 j y hy;have hy':=aS.1 h y (cM hy);refine⟨u,hu,?_⟩;obtain⟨b,cs⟩:=y
  cases b with
  |true=>obtain⟨a',e,hcs⟩:=h3;exact⟨a',e,TA hy' hcs⟩
  |false=>
   obtain⟨x,e,hx,ho⟩:=h3;subst e;simp at hy';exact⟨x,rfl,Qa hy' hx,ho⟩
def Nu(k:Key)(es:List (List D)):C->C
 | .fD k'=>if k'=k then .d (.sl es) else .any
 | .d x=>.d x
 | .bM _ es'=>.d (.sl es')
 | .bB es'=>.d (.sl es')
 |_=>.any
def Zv(k:Key)(es:List (List D)):V->V
 | .c x=>.c (Nu k es x)
 | .agg cs=>.agg (cs.map (Nu k es))
 |_=>.any
theorem acJ(hl:∀b,b<w.heap.size\/σ b=0)(hg:iU w σ):cZ w σ [] [] where
 lX:=hg
 obj:=fun k o h=>by rw[jV] at h;cases h
 apart:=fun k k' o o' h h' b h1=>by rw[jV] at h1;cases h1
 shape:=⟨rfl,fun l fr h=>by simp at h⟩
 live:=hl
theorem bL.afh{f:FuncId}{args:List V}{k:Key}{z:Nat}{es:List (List D)}{r:V}(hk:aN S k=some (.bU z es))(hr:adO r=true)(h:aF P f (args.map (Zv k es)) r):bL P f args S (fun r' S'=>r'=r/\S'=S):=by
 refine⟨(h S).1,fun w σ β vs hS hargs=> ?_⟩;obtain⟨hh,hb,uq⟩:=hS.obj k _ hk
 obtain⟨σ1,hn1,hch,hlive,hdata⟩:∃σ1,bQ w σ w σ1/\(∀x,¬owns (.bU z es) hh x->σ1 x=σ x)/\(∀x,x<w.heap.size\/σ1 x=0)/\bn w σ1 (.sl es) hh:=by
  obtain⟨hle,ad,cap,rfl,hcap,h4⟩:=uq;by_cases h0:cap=0
  ·obtain rfl:es=[]:=bh (by omega);exact⟨σ,bQ.refl _ _,fun _ _=>rfl,hS.live,.nil _ _⟩
  rcases h4 with h4|⟨b,cc,ty,rfl,hbc,hσ,hcz,hcells⟩
  ·exact absurd h4 h0
  have hsz:es.length*z<=cc.size:=cp (bx _ hcap) hcz
  let σ1:Nat->Nat:=fun x=>if x=b then es.length*z else σ x
  have hn:bQ w σ w σ1:=by
   intro b1 c1 t1 yN e1;by_cases e:b1=b
   ·subst e;rw[hbc] at e1;cases e1;exact⟨by simp only[σ1,if_true];omega,fun h=>by omega,cc,hbc,rfl,fun _ _=>rfl⟩
   ·exact⟨by simp only[σ1,if_neg e];exact ax _,fun _=>if_neg e,c1,e1,rfl,fun _ _=>rfl⟩
  refine⟨σ1,hn,fun x hx=>if_neg fun e=>hx (by subst e;simp[owns,blk,h0]),fun x=> ?_,?_⟩
  ·by_cases e:x=b
   ·left;subst e;exact lt_of_some hbc
   ·simp only[σ1,if_neg e];exact hS.live x
  ·have hfl:=gy es z hle;refine .sl b 0 cap z es (fun i=>(cc[i]?).getD undef) cc ty (0,0) hcap hle hbc (by simp[σ1]) (fun i hi=> ?_) (fun i d hd=> ?_)
   ·obtain⟨v,hv,_⟩:=hcells i _ (al (by omega));simp[hv]
   ·obtain⟨v,hv,hr⟩:=hcells i d hd;simp only[hv,cN];exact hr.mono hn
 have hlc:∀c v,dS w σ S β c v->dS w σ1 [] [] (Nu k es c) v:=by
  intro c v hc
  cases c with
  |fD k'=>
   simp only[Nu];split
   ·rename_i e;subst e;obtain⟨o,ho,h2⟩:=hc;rw[hk] at ho;cases ho;have e2:=h2 _ _ rfl;rw[hb] at e2;cases e2;exact hdata
   ·trivial
  |d x=>exact bn.mono hn1 hc
  |bM k' es'=>exact bn.mono hn1 hc.1
  |bB es'=>exact bn.mono hn1 hc.1
  |_=>trivial
 have PL:jX w σ1 [] [] (args.map (Zv k es)) vs:=by
  refine⟨by rw[ai];exact hargs.1,fun j x hx=> ?_⟩;rw[be] at hx
  cases ha:args[j]? with
  |none=>rw[ha] at hx;cases hx
  |some y=>
   rw[ha] at hx;cases hx;obtain⟨v,h1,h2⟩:=hargs.2 j y ha;refine⟨v,h1,?_⟩
   cases y with
   |c x=>exact⟨hlc x v h2.1,h2.2⟩
   |agg cs=>
    obtain⟨a,e,hl,hc⟩:=h2;refine⟨a,e,by rw[ai];exact hl,fun i x hx=> ?_⟩;rw[be] at hx
    cases hi:cs[i]? with
    |none=>rw[hi] at hx;cases hx
    |some y=>
     rw[hi] at hx;cases hx;obtain⟨u,q1,q2,q3⟩:=hc i y hi;exact⟨u,q1,hlc y u q2,q3⟩
   |_=>trivial
 refine((h []).2 w σ1 [] vs (acJ hlive (hS.lX.near hn1)) PL).mono fun e w' ⟨v,r',S',σ',β',he,hS',hk',hst,hv,hr',hS2⟩=> ?_;subst hr';subst hS2
 have hno:∀b,¬Own ([]:Store) [] b:=fun b ⟨k,o,h,h1,_⟩=>by rw[jV] at h1;cases h1
 let σ2:Nat->Nat:=fun b=>if b<w.heap.size then σ b else σ' b
 have hg:Grow w σ w' σ2:=⟨hst.size,hst.os,hst.output,fun b hlt=>⟨(hst.far b hlt (hno b)).1,if_pos hlt⟩,fun b=>by
  by_cases hlt:b<w.heap.size
  ·exact .inl (cP hlt hst.size)
  ·simp only[σ2,if_neg hlt];exact hS'.live b⟩
 exact⟨v,r',S,σ2,β,he,hS.grow hg,Keep.refl _ _,Step.jm hg,agW hr hv,rfl,rfl⟩
def C.mv(n j m:Nat):C->C
 | .fD (0,i)=>if i=m then .fD (0,j) else if i<n/\i≠j then .fD (0,i) else .any
 | .bM (0,i) es=>if i<n/\i≠j then .bM (0,i) es else .any
 | .ptr (0,i) off=>if i<n/\i≠j then .ptr (0,i) off else .any
 | .jv (0,i) x off=>if i<n/\i≠j then .jv (0,i) x off else .any
 | .mp (0,i)=>if i<n/\i≠j then .mp (0,i) else .any
 | .fn _ _=>.any
 | .xp (0,i) r p=>if i<n/\i≠j then .xp (0,i) r p else .any
 | .xq (0,i) r p z x off=>if i<n/\i≠j then .xq (0,i) r p z x off else .any
 |c=>c
theorem KW{α:Type}{own:List α}{Ω:List (List α)}{n j i:Nat}{o:α}(h:i<n/\i≠j):aN ((own.take n).set j o::Ω) (0,i)=aN (own::Ω) (0,i):=by
 rw[aD,aD,cT (Ne.symm h.2),bu h.1]
theorem ajZ{own own':List Obj}{Ω:Store}{bo:List Value}{bΩ:Hs}{n j m z:Nat}{es:List (List D)}{hm:Value}(ho:own[m]? =some (.bU z es))(hb:bo[m]? =some hm)(hjn:j<n)(hnl:n<=own.length)(hlen:bo.length=own.length)
 (hown:∀i,i<n->i≠j->∃o o',own[i]? =some o/\own'[i]? =some o'/\(∀z es,nI o' z es->nI o z es)/\(∀z es,o'=.bU z es->o=.bU z es)/\(∀m,o'=.mp m->o=.mp m)/\(∀cs,o'=.box cs->∃cs',o=.box cs')/\(∀rs,o'=.xf rs->o=.xf rs))
 (hj:own'[j]? =some (.bU z es)){c:C}{v:Value}(hc:dS w σ (own::Ω) (bo::bΩ) c v):dS w σ (own'::Ω) ((bo.take n).set j hm::bΩ) (c.mv n j m) v:=by
 have hgo:∀i,i<n/\i≠j->aN ((bo.take n).set j hm::bΩ) (0,i)=aN (bo::bΩ) (0,i):=fun i h=>KW h
 cases c with
 |d x=>exact hc
 |any=>trivial
 |bB es=>exact hc
 |jI cs=>exact hc
 |iT q es=>exact hc
 |fn f caps=>trivial
 |fD k=>
  obtain⟨l,i⟩:=k
  cases l with
  |succ l=>exact hc
  |zero=>
   simp only[C.mv];obtain⟨o,h1,h2⟩:=hc;rw[aD] at h1;split
   ·rename_i e;subst e;rw[ho] at h1;cases h1;refine⟨_,by rw[aD];exact hj,fun aJ es' e=> ?_⟩;have:=h2 _ _ rfl;rw[aD,hb] at this;rw[aD,cD (by rw[bm];omega)];exact this
   ·split
    ·rename_i h;obtain⟨o1,o',q1,q2,_,q4,_⟩:=hown i h.1 h.2;rw[q1] at h1;cases h1;exact⟨o',by rw[aD];exact q2,fun aJ es' e=>by rw[hgo i h];exact h2 _ _ (q4 _ _ e)⟩
    ·trivial
 |bM k es0=>
  obtain⟨l,i⟩:=k
  cases l with
  |succ l=>exact hc
  |zero=>
   simp only[C.mv];split
   ·rename_i h;obtain⟨h0,o,h1,h2⟩:=hc;rw[aD] at h1;obtain⟨o1,o',q1,q2,q3,_⟩:=hown i h.1 h.2;rw[q1] at h1;cases h1;exact⟨h0,o',by rw[aD];exact q2,fun aJ es' e=>by rw[hgo i h];exact h2 _ _ (q3 _ _ e)⟩
   ·trivial
 |ptr k off=>
  obtain⟨l,i⟩:=k
  cases l with
  |succ l=>exact hc
  |zero=>
   simp only[C.mv];split
   ·rename_i h;obtain⟨o,h1,h2⟩:=hc;rw[aD] at h1;obtain⟨o1,o',q1,q2,_,_,_,q6,_⟩:=hown i h.1 h.2;rw[q1] at h1;cases h1;refine⟨o',by rw[aD];exact q2,fun cs e=> ?_⟩;obtain⟨cs',e'⟩:=q6 cs e;rw[hgo i h];exact h2 _ e'
   ·trivial
 |jv k x off=>
  obtain⟨l,i⟩:=k
  cases l with
  |succ l=>exact hc
  |zero=>
   simp only[C.mv];split
   ·rename_i h;obtain⟨o,h1,h2⟩:=hc;rw[aD] at h1;obtain⟨o1,o',q1,q2,_,q4,_⟩:=hown i h.1 h.2;rw[q1] at h1;cases h1;exact⟨o',by rw[aD];exact q2,fun aJ es' e=>by rw[hgo i h];exact h2 _ _ (q4 _ _ e)⟩
   ·trivial
 |mp k=>
  obtain⟨l,i⟩:=k
  cases l with
  |succ l=>exact hc
  |zero=>
   simp only[C.mv];split
   ·rename_i h;obtain⟨o,h1,h2⟩:=hc;rw[aD] at h1;obtain⟨o1,o',q1,q2,_,_,q5,_⟩:=hown i h.1 h.2;rw[q1] at h1;cases h1;exact⟨o',by rw[aD];exact q2,fun m e=>by rw[hgo i h];exact h2 _ (q5 _ e)⟩
   ·trivial
 |xp k r p=>
  obtain⟨l,i⟩:=k
  cases l with
  |succ l=>exact hc
  |zero=>
   simp only[C.mv];split
   ·rename_i h;obtain⟨o,h1,h2⟩:=hc;rw[aD] at h1;obtain⟨o1,o',q1,q2,_,_,_,_,q7⟩:=hown i h.1 h.2;rw[q1] at h1;cases h1;exact⟨o',by rw[aD];exact q2,fun rs e=>by rw[hgo i h];exact h2 _ (q7 _ e)⟩
   ·trivial
 |xq k r p z x off=>
  obtain⟨l,i⟩:=k
  cases l with
  |succ l=>exact hc
  |zero=>
   simp only[C.mv];split
   ·rename_i h;obtain⟨o,h1,h2⟩:=hc;rw[aD] at h1;obtain⟨o1,o',q1,q2,_,_,_,_,q7⟩:=hown i h.1 h.2;rw[q1] at h1;cases h1;exact⟨o',by rw[aD];exact q2,fun rs e=>by rw[hgo i h];exact h2 _ (q7 _ e)⟩
   ·trivial
theorem acK{tm:List (Nat×V)}{own:List Obj}{Ω:Store}(n j m z:Nat)(es:List (List D))(ho:own[m]? =some (.bU z es))(hjn:j<n)(hnm:n<=m):
 fQ N ⟨tm,own::Ω⟩ ⟨tm.map fun x=>(x.1,x.2.gI (C.mv n j m)),((own.take n).map (Obj.gI (C.mv n j m))).set j (.bU z es)::Ω⟩:=by
 intro a w σ β hR;obtain⟨bo,bΩ,rfl,hlen⟩:=frames hR;have hml:=(ae.1 ho).1;obtain⟨hh,hb,uq⟩:=hR.S.obj (0,m) _ (by rw[aD];exact ho);rw[aD] at hb;obtain⟨own',hown'⟩:∃own',own'=((own.take n).map (Obj.gI (C.mv n j m))).set j (.bU z es):=⟨_,rfl⟩
 have hj:own'[j]? =some (.bU z es):=by
  rw[hown',cD (by rw[ai,bm];omega)]
 have hat:∀i,i<n->i≠j->∀o,own[i]? =some o->own'[i]? =some (o.gI (C.mv n j m)):=fun i h1 h2 o h3=>by
  rw[hown',cT (Ne.symm h2),be,bu h1,h3];rfl
 have hold:∀i o',own'[i]? =some o'->(i=j/\o'=.bU z es)\/(i<n/\i≠j/\∃o,own[i]? =some o/\o'=o.gI (C.mv n j m)):=fun i o' h=>by
  by_cases e:i=j
  ·subst e;rw[hj] at h;cases h;exact .inl ⟨rfl,rfl⟩
  ·have hi:i<n:=by
    have:=(ae.1 h).1;rw[hown',cy,ai,bm] at this;omega
   have ho':own[i]? =some (own[i]'(by omega)):=al (by omega);have:=hat i hi e _ ho';rw[h] at this;exact .inr ⟨hi,e,_,ho',cx this⟩
 rw[<-hown']
 have hC:∀(c:C)(v:Value),dS w σ (own::Ω) (bo::bΩ) c v->dS w σ (own'::Ω) ((bo.take n).set j hh::bΩ) (c.mv n j m) v:=fun c v hc=>
  ajZ ho hb hjn (by omega) hlen (fun i h1 h2=>⟨_,_,al (by omega),hat i h1 h2 _ (al (by omega)),nO (.inr rfl)⟩) hj hc
 have hCs:∀(cs:List C)(vs:List Value),dF w σ (own::Ω) (bo::bΩ) cs vs->dF w σ (own'::Ω) ((bo.take n).set j hh::bΩ) (cs.map (C.mv n j m)) vs:=by
  intro cs vs hc;refine⟨by simpa using hc.1,fun i x hx=> ?_⟩;rw[be] at hx
  cases hci:cs[i]? with
  |none=>rw[hci] at hx;cases hx
  |some y=>
   rw[hci] at hx;cases hx;obtain⟨v,hv,hr,ho⟩:=hc.2 i y hci;exact⟨v,hv,hC y v hr,ho⟩
 have from_:∀k o',aN (own'::Ω) k=some o'->∃k0 o0,aN (own::Ω) k0=some o0/\aN ((bo.take n).set j hh::bΩ) k=aN (bo::bΩ) k0/\(∀h b,owns o' h b<->owns o0 h b)/\(k0=(if k=(0,j) then(0,m) else k))/\(k.1=0->k=(0,j)\/k.2<n):=by
  rintro⟨l,i⟩ o' h
  cases l with
  |succ l=>exact⟨(l+1,i),o',by rw[aV] at h ⊢;exact h,by rw[aV,aV],fun _ _=>eK,by simp,fun e=>by cases e⟩
  |zero=>
   rw[aD] at h;rcases hold i o' h with⟨rfl,rfl⟩|⟨hi,hne,o,h1,rfl⟩
   ·exact⟨(0,m),_,by rw[aD];exact ho,by rw[aD,aD,cD (by rw[bm];omega),hb],fun _ _=>eK,by simp,fun _=>.inl rfl⟩
   ·clear h;refine⟨(0,i),o,by rw[aD];exact h1,KW ⟨hi,hne⟩,fun h b=> ?_,by simp[hne],fun _=>.inr hi⟩;clear h1
    cases o with
    |box cs=>cases h<;>first|exact eK|(rename_i x;cases x<;>exact eK)
    |_=>exact eK
 refine⟨σ,(bo.take n).set j hh::bΩ,⟨hR.size,hR.defers,⟨fun k o hk=> ?_,fun k k' o o' h1 h2 b e1 e2 e3 e4 e5 e6=> ?_,⟨by have:=hR.S.shape.1;simpa using this,fun l fr hl=> ?_⟩,hR.S.live,hR.S.lX⟩,fun t=> ?_⟩,⟨ax _,rfl,rfl,fun _ _ _=>⟨rfl,rfl⟩,bQ.refl _ _,fun b hb'=>.inl ?_⟩,Keep.refl _ _⟩
 ·obtain⟨l,i⟩:=k
  cases l with
  |succ l=>
   rw[aV] at hk;obtain⟨h,e1,e2⟩:=hR.S.obj (l+1,i) o (by rw[aV];exact hk);exact⟨h,by rw[aV] at e1 ⊢;exact e1,e2⟩
  |zero=>
   rw[aD] at hk;rcases hold i o hk with⟨rfl,rfl⟩|⟨hi,hne,o0,h1,rfl⟩
   ·exact⟨hh,by rw[aD,cD (by rw[bm];omega)],uq⟩
   ·obtain⟨h,e1,e2⟩:=hR.S.obj (0,i) o0 (by rw[aD];exact h1);refine⟨h,(KW ⟨hi,hne⟩).trans e1,?_⟩;clear hk h1 e1
    cases o0 with
    |box cs=>
     obtain⟨b,c,t,q1,q2,q3,q4⟩:=e2;exact⟨b,c,t,q1,q2,q3,hCs _ _ q4⟩
    |_=>exact e2
 ·obtain⟨k0,o0,f1,f2,f3,f4,f5⟩:=from_ k o e1;obtain⟨k1,o1,g1,g2,g3,g4,g5⟩:=from_ k' o' e4;rw[f2] at e2;rw[g2] at e5;have:=hR.S.apart k0 k1 o0 o1 h1 h2 b f1 e2 ((f3 _ _).1 e3) g1 e5 ((g3 _ _).1 e6);rw[f4,g4] at this;split at this
  ·rename_i q1;split at this
   ·rename_i q2;rw[q1,q2]
   ·rename_i q2;exfalso
    have hk1:k'.1=0:=by rw[<-this]
    rcases g5 hk1 with q3|q3
    ·exact q2 q3
    ·rw[<-this] at q3;simp only at q3;omega
  ·rename_i q1;split at this
   ·exfalso
    have hk1:k.1=0:=by rw[this]
    rcases f5 hk1 with q3|q3
    ·exact q1 q3
    ·rw[this] at q3;simp only at q3;omega
   ·exact this
 ·cases l with
  |zero=>
   simp at hl;subst hl;exact⟨_,rfl,by rw[hown'];simp[hlen]⟩
  |succ l=>exact hR.S.shape.2 (l+1) fr hl
 ·show bJ w σ (own'::Ω) ((bo.take n).set j hh::bΩ) (look (tm.map fun x=>(x.1,x.2.gI (C.mv n j m))) t) _;rw[vw (f:=V.gI (C.mv n j m)) rfl];have ht:=hR.T t
  cases hx:look tm t with
  |c x=>rw[hx] at ht;exact⟨hC x _ ht.1,ht.2⟩
  |agg cs=>rw[hx] at ht;obtain⟨ar,e,hc⟩:=ht;exact⟨ar,e,hCs _ _ hc⟩
  |dI xs=>
   rw[hx] at ht;obtain⟨ar,e,hl,h2⟩:=ht;refine⟨ar,e,by simpa using hl,fun i y hy=> ?_⟩;rw[be] at hy
   cases hxi:xs[i]? with
   |none=>rw[hxi] at hy;cases hy
   |some z=>
    rw[hxi] at hy;cases hy;obtain⟨u,hu,h3⟩:=h2 i z hxi;refine⟨u,hu,?_⟩;obtain⟨bb,cs⟩:=z
    cases bb with
    |true=>obtain⟨a',e',hcs⟩:=h3;exact⟨a',e',hCs _ _ hcs⟩
    |false=>
     obtain⟨x,e',SY,ho⟩:=h3;subst e';exact⟨_,rfl,hC x _ SY,ho⟩
  |any=>trivial
 ·obtain⟨k,o,h1,e1,e2,e3⟩:=hb';obtain⟨k0,o0,f1,f2,f3,_⟩:=from_ k o e1;rw[f2] at e2;exact⟨k0,o0,h1,f1,e2,(f3 _ _).1 e3⟩
theorem Zw{ι:Type}{ts:List Nat}{f:ι->List V}{g:ι->Store}{p:ι->Prop}{μ:ι->Nat}{i:ι}{tm:List (Nat×V)}{own:List Obj}{Ω:Store}(n j m z:Nat)(es:List (List D))(hnd:ts.Nodup)(i':ι)(ho:own[m]? =some (.bU z es))(hjn:j<n)(hnm:n<=m)(h1:μ i'<μ i)
 (h2:(ts.map (look tm)).map (V.gI (C.mv n j m))=f i')(h3:((own.take n).map (Obj.gI (C.mv n j m))).set j (.bU z es)::Ω=g i')(h4:p i'):Inv N ts f g p μ i ⟨tm,own::Ω⟩:=by
 refine⟨i',_,h1,acK n j m z es ho hjn hnm,?_,h3,h4⟩;rw[<-h2,fh];refine de fun t _=> ?_;show look (tm.map fun x=>(x.1,x.2.gI (C.mv n j m))) t=_;rw[vw (f:=V.gI (C.mv n j m)) rfl];rfl
end
section
variable {P:Program} {N:Nat} {S:Store}
end
section
variable {P:Program} {S S':Store} {f:FuncId} {args:List V}
def JG(pre:List C)(z:Nat)(es:List (List D))(S':Store)(r:V)(own:List Obj)(S1:Store):Prop:=S1=S'/\∃m,r=.agg (pre++[.fD (0,m)])/\own[m]? =some (.bU z es)
theorem je.oK{pre:List C}{z:Nat}{es:List (List D)}(h1:wT pre=true)(ht:wS S'=true)(h:je P f args S (JG pre z es S')):
 bL P f args S fun r S1=>r=.agg (pre++[.fD (0,uO S')])/\S1=FB S' [.bU z es]:=by
 refine⟨h.1,fun w σ β vs hS hv=>(h.2 w σ β vs hS hv).mono fun e w' ⟨v,r,own,S1,bo,β1,σ',q1,q2,q3,q4,q5,q6,m,q7,q8⟩=> ?_⟩;subst q6 q7;obtain⟨a,rfl,hc⟩:=q5;obtain⟨u,e1,e2,e3⟩:=hc.2 pre.length (.fD (0,m)) (by rw[ac (ax _),cq];rfl);obtain⟨o,g1,g2⟩:=e2;rw[aD,q8] at g1;cases g1;have g3:=g2 _ _ rfl;obtain⟨u',f1,f2⟩:=q2.obj (0,m) _ (by rw[aD];exact q8);rw[g3] at f1;cases f1
 cases S1 with
 |nil=>cases ht
 |cons fr Ω=>
 have hd:=q2.E5
 obtain⟨bf,bΩ,rfl,hlen⟩:∃bf bΩ,β1=bf::bΩ/\bf.length=fr.length:=by
  cases β1 with
  |nil=>have:=hd.shape.1;simp at this
  |cons bf bΩ=>
   refine⟨bf,bΩ,rfl,?_⟩;obtain⟨gr,q1,q2⟩:=hd.shape.2 0 fr rfl;simp at q1;rw[q1];exact q2
 obtain⟨l1,l2,l3⟩:=hd.lay (o:=.bU z es) (h:=u) hlen (aas _ _ f2) fun b hb ⟨k,o,hh,n1,n2,n3⟩=>by
  have:=q2.apart (0,m) (k.1+1,k.2) _ o u hh b (by rw[aD];exact q8) g3 hb (by rw[aV];exact n1) (by rw[aV];exact n2) n3;cases this
 refine⟨_,.agg (pre++[.fD (0,uO (fr::Ω))]),_,σ',_,q1,l1,q3.trans l2,⟨q4.size,q4.os,q4.output,q4.far,q4.near,fun b hb=> ?_⟩,⟨a,rfl,Au h1 (post:=[]) rfl hc fun v f1 f2=> ?_⟩,rfl,rfl⟩
 ·rcases l3 b hb with q|q
  ·exact q4.own b (sZ q)
  ·exact q4.own b ⟨(0,m),_,u,by rw[aD];exact q8,g3,q⟩
 ·rw[e1] at f1;cases f1;refine⟨_,by rw[fJ];exact bg _ _ _,fun aJ es' e=> ?_⟩;rw[fJ,<-hlen,bg]
end
section
variable {w:World} {σ:Nat->Nat}
mutual
theorem aj0{σ2:Nat->Nat}{lo:Nat}(hs:∀b c t fz m,w.heap[b]? =some (.cells c t fz)->σ b=c.size+1+m->lo<=m->σ2 b=σ b):∀(d:D)(n:Nat)(v:Value),lo<=n->nk d=true->bn w σ (lS d n) v->bn w σ2 (lS d n) v
 | .sl es,n,v,hn,hp,h=>by
   rw[lS] at h ⊢;have hrec:=adP hs es (n+1);generalize fC es (n+1)=q at h hrec ⊢
   cases h with
   |rM n a cap=>exact .rM n a cap
   |ol n b off cap z q vals c t hcap hlen hb hσ hfit hc hv hx=>exact .ol n b off cap z q vals c t hcap hlen hb ((hs b c t _ _ hb hσ hn).trans hσ) hfit hc (hrec vals (by omega) (by simpa [nk] using hp) hv) hx
 | .ol m es,n,v,hn,hp,h=>by simp[nk] at hp
 | .b x,n,v,hn,hp,h=>by rw[lS] at h ⊢;cases h;constructor
 | .i k x,n,v,hn,hp,h=>by rw[lS] at h ⊢;cases h;constructor
 | .s l,n,v,hn,hp,h=>by rw[lS] at h ⊢;cases h;constructor
 | .o u,n,v,hn,hp,h=>by simp[nk] at hp
theorem agX{σ2:Nat->Nat}{lo:Nat}(hs:∀b c t fz m,w.heap[b]? =some (.cells c t fz)->σ b=c.size+1+m->lo<=m->σ2 b=σ b):∀(r:List D)(n:Nat)(vals:Nat->Value),lo<=n->iC r=true->(∀(j:Nat)(d:D),(eu r n)[j]? =some d->bn w σ d (vals j))->
 ∀(j:Nat)(d:D),(eu r n)[j]? =some d->bn w σ2 d (vals j)
 |[],n,vals,hn,hp,h,j,d,hd=>by simp[eu] at hd
 |a::r,n,vals,hn,hp,h,j,d,hd=>by
  rw[iC,af] at hp;rw[eu] at h hd
  cases j with
  |zero=>
   simp at hd;subst hd;exact aj0 hs a n _ hn hp.1 (h 0 _ rfl)
  |succ j=>exact agX hs r (n+qz a) (fun i=>vals (i+1)) (by omega) hp.2 (fun i d hi=>h (i+1) d hi) j d hd
theorem adP{σ2:Nat->Nat}{lo:Nat}(hs:∀b c t fz m,w.heap[b]? =some (.cells c t fz)->σ b=c.size+1+m->lo<=m->σ2 b=σ b):∀(rs:List (List D))(n:Nat)(vals:Nat->Value),lo<=n->iN rs=true->(∀(j:Nat)(d:D),(fC rs n).flatten[j]? =some d->bn w σ d (vals j))->
 ∀(j:Nat)(d:D),(fC rs n).flatten[j]? =some d->bn w σ2 d (vals j)
 |[],n,vals,hn,hp,h,j,d,hd=>by simp[fC] at hd
 |r::rs,n,vals,hn,hp,h,j,d,hd=>by
  rw[iN,af] at hp;rw[fC,cn] at h hd;by_cases hj:j<(eu r n).length
  ·rw[an hj] at hd;exact agX hs r n vals hn hp.1 (fun j d hd=>h j d (by rw[an (ae.1 hd).1];exact hd)) j d hd
  ·rw[ac (by omega)] at hd;have:=adP hs rs (n+pE r) (fun i=>vals ((eu r n).length+i)) (by omega) hp.2 (fun j d hd=>h _ d (by rw[ac (by omega),cz];exact hd)) (j-(eu r n).length) d hd
   rwa [show(eu r n).length+(j-(eu r n).length)=j by omega] at this
end
end
section
variable {P:Program}
end
section
variable {P:Program} {N:Nat} {S:Store} {s:St}
theorem KX(T:List TypeId){x y:Code}{Q:Exit->St->Prop}(dZ:P.follows .mixedOrders=true)(hok:lJ T N x=true)(h:kL P N T x (kU (AW P N y Q) Q) s):AW P N (.seq x y) Q s:=Il (lu dZ x _ s hok h)
theorem agY(T:List TypeId){x:Code}{Q:Exit->St->Prop}(dZ:P.follows .mixedOrders=true)(hok:lJ T N x=true)(h:kL P N T x Q s):AW P N x Q s:=lu dZ x _ s hok h
end
section
variable {P:Program} {N:Nat} {S:Store}
theorem acL{c:Code}{Q:Exit->St->Prop}{tm:List (Nat×V)}{Ω:Store}(h:AW P N c Q ⟨tm,[.xf [[]]]::Ω⟩):AW P N c Q ⟨tm,[]::Ω⟩:=by
 refine kN h fun a w σ β hR=> ?_;obtain⟨bo,bΩ,rfl,hlen⟩:=frames hR
 have hroot:∀r T,qH (.tuple #[pX]) r=some T->r=0/\T=pX:=fun r T e=>by
  cases r with
  |zero=>exact⟨rfl,(cx e).symm⟩
  |succ r=>simp[qH] at e
 have hown:∀b,¬kS (.tuple #[pX]) b:=fun b ⟨r,T,e,ho⟩=>by
  obtain⟨_,rfl⟩:=hroot r T e;exact uM ho
 obtain⟨hS',hk,hst⟩:=hR.S.push (o:=.xf [[]]) (h:=.tuple #[pX]) (Grow.refl hR.S.live) hlen
  ⟨fun r es e=>by
    cases r with
    |zero=>cases e;exact⟨pX,rfl,.nil none 0 _ rfl D7⟩
    |succ r=>simp at e,fun r T e=>by rw[(hroot r T e).1];exact Nat.zero_lt_one,fun b hb=>(hown b hb).elim,fun r r' T T' x hne e e' ho=>by
    obtain⟨_,rfl⟩:=hroot r T e
    exact(uM ho).elim⟩
  (fun b hb=>(hown b hb).elim)
 exact⟨σ,_,⟨hR.size,hR.defers,hS',fun u=>(hR.T u).mono (bQ.refl _ _) hk⟩,hst,Keep.refl _ _⟩
end
section
variable {P:Program} {S S1:Store}
theorem bL.of_le{f:FuncId}{args:List V}{t:V}(h:bL P f args S fun r S'=>Less r t/\S'=S1):bL P f args S fun r S'=>r=t/\S'=S1:=
 ⟨h.1,fun w σ β vs hS hv=>(h.2 w σ β vs hS hv).mono fun e w' ⟨v,r,S',σ',β',h1,h2,h3,h4,h5,h6,h7⟩=>⟨v,t,S',σ',β',h1,h2,h3,h4,h6 _ _ _ _ _ h5,rfl,h7⟩⟩
theorem wV{r t:V}(h:Jo r=t):Less r t:=fun w σ S β v hr=>by
 rw[<-h];exact PI hr _ _
end
attribute [go_sem] Bool.or_false Bool.false_or Bool.true_or Bool.or_true
section
variable {P:Program} {N:Nat} {S:Store}
theorem acM(T:List TypeId){f:FuncId}{fn:Func}{c:Code}{args:List V}{raw:V->List Obj->Store->Prop}{rs:List ResultVar}(dZ:P.follows .mixedOrders=true)(hf:P.funcs[f]? =some fn)(hN:fn.ntmps=N)
 (hb:fn.body=some c) (hn:(fn.name== "runtime.NumGoroutine")=false) (hr:fn.results.toList=rs) (hl:Nat.ble args.length N=true) (hok:lJ T N c=true)
 (h:kL P N T c (GU P rs raw) ⟨jR (args.map (V.up 1)) 0,[.xf [[]]]::S⟩):je P f args S raw:=by
 subst hN;subst hr;exact zV hf hb hn (cX hl) (acL (lu dZ c _ _ hok h))
theorem agZ{f:FuncId}{fn:Func}{c:Code}{args:List V}{raw:V->List Obj->Store->Prop}{rs:List ResultVar}(_:P.follows .mixedOrders=true)(hf:P.funcs[f]? =some fn)(hN:fn.ntmps=N)
 (hb:fn.body=some c) (hn:(fn.name== "runtime.NumGoroutine")=false) (hr:fn.results.toList=rs) (hl:Nat.ble args.length N=true) (_:(0:Nat)=0)
 (h:AW P N c (GU P rs raw) ⟨jR (args.map (V.up 1)) 0,[]::S⟩):je P f args S raw:=by
 subst hN;subst hr;exact zV hf hb hn (cX hl) h
theorem afi{s:St}{x y:Code}{Q:Exit->St->Prop}(dZ:P.follows .mixedOrders=true)(hok:codeOk N x=true)(h:CW P N x (kU (AW P N y Q) Q) s):AW P N (.seq x y) Q s:=Il (iV dZ x _ s hok h)
end
theorem ku(hd:List ah)(xs:List aj)(S:Store)(hne:xs≠[])(hA:∀t∈xs,aF prog 45 [t.v] (bT t).v)(hl:xs.length<=4194304)(hh:hd.length<=4):
 je prog 115 [.c (.bB (hd.map ah.enc)),.c (.d (.sl (xs.map aj.enc)))] S (JG [.d (.s [])] 2 ((hd++xs.map bT).map ah.enc) S):=by
 have hpos:0<xs.length:=en.2 hne;obtain⟨T,hT⟩:∃T:Nat->List (List D),T=fun i=>(hd++(xs.map bT).take i).map ah.enc:=⟨_,rfl⟩
 have hT0:T 0=hd.map ah.enc:=by rw[hT];simp only[df,bw]
 have Bg:∀i,(T i).length<=i+hd.length:=fun i=>by
  rw[hT];simp only[ai,ab];have:=ci i (xs.map bT);omega
 have hTr:∀i,∀r∈T i,r.length=2:=fun i=>by rw[hT];exact ji
 have hTs:∀i (hi:i<xs.length),T i++[[.s (bT xs[i]).aI,.sl ((bT xs[i]).ak.map ah.enc)]]=T (i+1):=fun i hi=>by
  have:=nX (base:=hd) (l:=xs.map bT) (i:=i) (by rw[ai];exact hi);rw[cj] at this;rw[hT];exact this
 have hTe:T xs.length=(hd++xs.map bT).map ah.enc:=by rw[hT];simp only;rw[cm (by simp)]
 clear hT;rw[<-hT0,<-hTe];refine acM [35] (rs:=[.cell 4 37]) zmx func115 ntmps115 rfl rfl rfl rfl rfl ?_;simp -implicitDefEqProofs (disch:=omega) only[go_sem]
 refine zn [35] zmx rfl [1,4,5,6] (ι:=Nat) (fun i=>[.c (.d (.sl (xs.map aj.enc))),.c (.ptr (0,1) 0),.c (.ptr (0,2) 0),.c (.d (.i .i64 i))])
  (fun i=>(if i=0 then [.xf [[]],.box [.d (.s []),.bB []],.box [.d (.s []),.bB (T 0)]] else [.xf [[]],.box [.d (.s []),.bB []],.box [.d (.s []),.fD (0,3)],.bU 2 (T i)])::S)
  (fun i=>i<=xs.length) (fun i=>xs.length-i) 0 rfl rfl (ba _) ?_
 intro i hi;have hl:=Bg i;have hr:=hTr i
 cases i with
 |zero=>
  simp only[if_pos];simp -implicitDefEqProofs (disch:=omega) only[go_sem]
  with_reducible refine ay (fun hb=> ?_) (fun hb=> ?_)<;>have h:=hb<;>(try simp only[wf_preprocess] at h)<;>simp -implicitDefEqProofs (disch:=omega) only[go_sem,hb]<;>(repeat(with_reducible refine And.intro ?_ ?_;focus first|omega|rfl|assumption|exact⟨_,rfl,rfl⟩|(simp;omega)|(simp;done)))
  ·have hs:=hTs 0 hpos;refine aA (hA xs[0] (ap hpos)) ?_;simp -implicitDefEqProofs (disch:=omega) only[go_sem]
   (repeat(with_reducible refine And.intro ?_ ?_;focus first|omega|rfl|assumption|exact⟨_,rfl,rfl⟩|(simp;omega)|(simp;done)))
   refine⟨by rfl,?_⟩;simp -implicitDefEqProofs (disch:=omega) only[go_sem];rw[hs];exact bZ 1 (by omega) rfl rfl (by omega)
  ·omega
 |succ i=>
  simp only[Nat.succ_ne_zero,if_false];simp -implicitDefEqProofs (disch:=omega) only[go_sem]
  with_reducible refine ay (fun hb=> ?_) (fun hb=> ?_)<;>have h:=hb<;>(try simp only[wf_preprocess] at h)<;>simp -implicitDefEqProofs (disch:=omega) only[go_sem,hb]<;>(repeat(with_reducible refine And.intro ?_ ?_;focus first|omega|rfl|assumption|exact⟨_,rfl,rfl⟩|(simp;omega)|(simp;done)))
  ·have hi':i+1<xs.length:=by omega
   have hs:=hTs (i+1) hi'
   (repeat(with_reducible refine And.intro ?_ ?_;focus first|omega|rfl|assumption|exact⟨_,rfl,rfl⟩|(simp;omega)|(simp;done)))
   refine aA (hA xs[i+1] (ap hi')) ?_;simp -implicitDefEqProofs (disch:=omega) only[go_sem];refine⟨by rfl,?_⟩
   (repeat(with_reducible refine And.intro ?_ ?_;focus first|omega|rfl|assumption|exact⟨_,rfl,rfl⟩|(simp;omega)|(simp;done)))
   refine⟨by rfl,?_⟩;simp -implicitDefEqProofs (disch:=omega) only[go_sem];rw[hs];exact Zw 4 3 4 2 (T (i+1+1)) (by decide) (i+1+1) rfl (by omega) (by omega) (by omega) rfl rfl (by omega)
  ·have hi':i+1=xs.length:=by omega
   rw[<-hi'];exact⟨rfl,3,rfl,rfl⟩
theorem V8(x:aj)(S:Store)(hok:gT x=true)(hsz:x.sz<=4194304)(k1:x.aH≠1)(k2:x.aH≠2)(k3:x.aH≠3)(hne:x.fArgs≠[]):
 je prog 45 [x.v] S (JG [.d (.s [])] 2 ((bT x).ak.map ah.enc) S):=by
 have j4:=aj.jo x;have BU:=aj.tu x;have hzz:=qZ x;rw[qR,af,af] at hok;obtain⟨hfi,hoa,Ee⟩:=hok;have hfi:=iJ hfi;have hoa:=vT.1 hoa;have Ee:=yj.1 Ee;have hA:∀t∈x.fArgs,aF prog 45 [t.v] (bT t).v:=fun t ht=>wR t (hoa t ht) (by have:=Ed ht;omega);refine agZ (rs:=[.cell 2 37]) zmx func45 ntmps45 rfl rfl rfl rfl rfl ?_;refine KX [35] zmx rfl ?_;simp -implicitDefEqProofs (disch:=omega) only[go_sem];refine KX [35] zmx rfl ?_;simp -implicitDefEqProofs (disch:=omega) only[go_sem]
 with_reducible refine ay (fun hb=> ?_) (fun hb=> ?_)<;>have h:=hb<;>(try simp only[wf_preprocess] at h)<;>simp -implicitDefEqProofs (disch:=omega) only[go_sem,hb]<;>(repeat(with_reducible refine And.intro ?_ ?_;focus first|omega|rfl|assumption|exact⟨_,rfl,rfl⟩|(simp;omega)|(simp;done)))
 ·exact absurd h k1
 with_reducible refine ay (fun hb=> ?_) (fun hb=> ?_)<;>have h:=hb<;>(try simp only[wf_preprocess] at h)<;>simp -implicitDefEqProofs (disch:=omega) only[go_sem,hb]<;>(repeat(with_reducible refine And.intro ?_ ?_;focus first|omega|rfl|assumption|exact⟨_,rfl,rfl⟩|(simp;omega)|(simp;done)))
 ·exact absurd h k2
 with_reducible refine ay (fun hb=> ?_) (fun hb=> ?_)<;>have h:=hb<;>(try simp only[wf_preprocess] at h)<;>simp -implicitDefEqProofs (disch:=omega) only[go_sem,hb]<;>(repeat(with_reducible refine And.intro ?_ ?_;focus first|omega|rfl|assumption|exact⟨_,rfl,rfl⟩|(simp;omega)|(simp;done)))
 ·exact absurd h k3
 with_reducible refine ay (fun hb=> ?_) (fun hb=> ?_)<;>have h:=hb<;>(try simp only[wf_preprocess] at h)<;>simp -implicitDefEqProofs (disch:=omega) only[go_sem,hb]<;>(repeat(with_reducible refine And.intro ?_ ?_;focus first|omega|rfl|assumption|exact⟨_,rfl,rfl⟩|(simp;omega)|(simp;done)))
 ·have hx:=fF k1 k2 k3 (by omega)
  have hh:eD x.aH x.aW x.fName x.fType=[aM kg,aM x.fName]:=by rw[eP h];rfl
  rw[hh] at hx;refine aA (aZ _) ?_;simp -implicitDefEqProofs (disch:=omega) only[go_sem];refine aA (aZ _) ?_;simp -implicitDefEqProofs (disch:=omega) only[go_sem];have hE:=fun fr:List Ab.Obj=>je.oK (pre:=[.d (.s [])]) rfl (S':=fr::S) rfl (ku [aM kg,aM x.fName] x.fArgs (fr::S) hne hA (by omega) (by simp));simp only[ag,az,eO,iM,fJ,am,aw] at hE;refine aQ rfl (hE _) ?_;simp -implicitDefEqProofs (disch:=omega) only[go_sem];refine⟨fun e=>(by cases (show(2:Nat)=3 from e)),?_⟩;refine⟨by rfl,?_⟩;simp -implicitDefEqProofs (disch:=omega) only[go_sem];rw[hx];exact⟨rfl,_,rfl,rfl⟩
 have k4:=h
 with_reducible refine ay (fun hb=> ?_) (fun hb=> ?_)<;>have h:=hb<;>(try simp only[wf_preprocess] at h)<;>simp -implicitDefEqProofs (disch:=omega) only[go_sem,hb]<;>(repeat(with_reducible refine And.intro ?_ ?_;focus first|omega|rfl|assumption|exact⟨_,rfl,rfl⟩|(simp;omega)|(simp;done)))
 ·have hx:=fF k1 k2 k3 (by omega)
  have hh:eD x.aH x.aW x.fName x.fType=[aM fM,aM x.aW,aM x.fName]:=by rw[eP h];rfl
  rw[hh] at hx;refine aA (aZ _) ?_;simp -implicitDefEqProofs (disch:=omega) only[go_sem];refine aA (aZ _) ?_;simp -implicitDefEqProofs (disch:=omega) only[go_sem];refine aA (aZ _) ?_;simp -implicitDefEqProofs (disch:=omega) only[go_sem];have hE:=fun fr:List Ab.Obj=>je.oK (pre:=[.d (.s [])]) rfl (S':=fr::S) rfl (ku [aM fM,aM x.aW,aM x.fName] x.fArgs (fr::S) hne hA (by omega) (by simp));simp only[ag,az,eO,iM,fJ,am,aw] at hE;refine aQ rfl (hE _) ?_;simp -implicitDefEqProofs (disch:=omega) only[go_sem];refine⟨fun e=>(by cases (show(2:Nat)=3 from e)),?_⟩;refine⟨by rfl,?_⟩;simp -implicitDefEqProofs (disch:=omega) only[go_sem];rw[hx];exact⟨rfl,_,rfl,rfl⟩
 have k5:=h
 with_reducible refine ay (fun hb=> ?_) (fun hb=> ?_)<;>have h:=hb<;>(try simp only[wf_preprocess] at h)<;>simp -implicitDefEqProofs (disch:=omega) only[go_sem,hb]<;>(repeat(with_reducible refine And.intro ?_ ?_;focus first|omega|rfl|assumption|exact⟨_,rfl,rfl⟩|(simp;omega)|(simp;done)))
 ·have hx:=fF k1 k2 k3 (by omega)
  have hh:eD x.aH x.aW x.fName x.fType=[aM mV,aM x.fName]:=by rw[eP h];rfl
  rw[hh] at hx;refine aA (aZ _) ?_;simp -implicitDefEqProofs (disch:=omega) only[go_sem];refine aA (aZ _) ?_;simp -implicitDefEqProofs (disch:=omega) only[go_sem];have hE:=fun fr:List Ab.Obj=>je.oK (pre:=[.d (.s [])]) rfl (S':=fr::S) rfl (ku [aM mV,aM x.fName] x.fArgs (fr::S) hne hA (by omega) (by simp));simp only[ag,az,eO,iM,fJ,am,aw] at hE;refine aQ rfl (hE _) ?_;simp -implicitDefEqProofs (disch:=omega) only[go_sem];refine⟨fun e=>(by cases (show(2:Nat)=3 from e)),?_⟩;refine⟨by rfl,?_⟩;simp -implicitDefEqProofs (disch:=omega) only[go_sem];rw[hx];exact⟨rfl,_,rfl,rfl⟩
 have k6:=h
 with_reducible refine ay (fun hb=> ?_) (fun hb=> ?_)<;>have h:=hb<;>(try simp only[wf_preprocess] at h)<;>simp -implicitDefEqProofs (disch:=omega) only[go_sem,hb]<;>(repeat(with_reducible refine And.intro ?_ ?_;focus first|omega|rfl|assumption|exact⟨_,rfl,rfl⟩|(simp;omega)|(simp;done)))
 ·have hx:=fF k1 k2 k3 (by omega)
  have hh:eD x.aH x.aW x.fName x.fType=[aM mW,aM x.fName]:=by rw[eP h];rfl
  rw[hh] at hx;refine aA (aZ _) ?_;simp -implicitDefEqProofs (disch:=omega) only[go_sem];refine aA (aZ _) ?_;simp -implicitDefEqProofs (disch:=omega) only[go_sem];have hE:=fun fr:List Ab.Obj=>je.oK (pre:=[.d (.s [])]) rfl (S':=fr::S) rfl (ku [aM mW,aM x.fName] x.fArgs (fr::S) hne hA (by omega) (by simp));simp only[ag,az,eO,iM,fJ,am,aw] at hE;refine aQ rfl (hE _) ?_;simp -implicitDefEqProofs (disch:=omega) only[go_sem];refine⟨fun e=>(by cases (show(2:Nat)=3 from e)),?_⟩;refine⟨by rfl,?_⟩;simp -implicitDefEqProofs (disch:=omega) only[go_sem];rw[hx];exact⟨rfl,_,rfl,rfl⟩
 have k8:=h
 with_reducible refine ay (fun hb=> ?_) (fun hb=> ?_)<;>have h:=hb<;>(try simp only[wf_preprocess] at h)<;>simp -implicitDefEqProofs (disch:=omega) only[go_sem,hb]<;>(repeat(with_reducible refine And.intro ?_ ?_;focus first|omega|rfl|assumption|exact⟨_,rfl,rfl⟩|(simp;omega)|(simp;done)))
 ·have hx:=fF k1 k2 k3 (by omega)
  have hh:eD x.aH x.aW x.fName x.fType=[aM qY]:=by rw[eP h];rfl
  rw[hh] at hx;refine aA (aZ _) ?_;simp -implicitDefEqProofs (disch:=omega) only[go_sem];have hE:=fun fr:List Ab.Obj=>je.oK (pre:=[.d (.s [])]) rfl (S':=fr::S) rfl (ku [aM qY] x.fArgs (fr::S) hne hA (by omega) (by simp));simp only[ag,az,eO,iM,fJ,am,aw] at hE;refine aQ rfl (hE _) ?_;simp -implicitDefEqProofs (disch:=omega) only[go_sem];refine⟨fun e=>(by cases (show(2:Nat)=3 from e)),?_⟩;refine⟨by rfl,?_⟩;simp -implicitDefEqProofs (disch:=omega) only[go_sem];rw[hx];exact⟨rfl,_,rfl,rfl⟩
 have k9:=h
 with_reducible refine ay (fun hb=> ?_) (fun hb=> ?_)<;>have h:=hb<;>(try simp only[wf_preprocess] at h)<;>simp -implicitDefEqProofs (disch:=omega) only[go_sem,hb]<;>(repeat(with_reducible refine And.intro ?_ ?_;focus first|omega|rfl|assumption|exact⟨_,rfl,rfl⟩|(simp;omega)|(simp;done)))
 ·have hx:=fF k1 k2 k3 (by omega)
  have hh:eD x.aH x.aW x.fName x.fType=[aM x.fName]:=by rw[eP h];rfl
  rw[hh] at hx;refine aA (aZ _) ?_;simp -implicitDefEqProofs (disch:=omega) only[go_sem];have hE:=fun fr:List Ab.Obj=>je.oK (pre:=[.d (.s [])]) rfl (S':=fr::S) rfl (ku [aM x.fName] x.fArgs (fr::S) hne hA (by omega) (by simp));simp only[ag,az,eO,iM,fJ,am,aw] at hE;refine aQ rfl (hE _) ?_;simp -implicitDefEqProofs (disch:=omega) only[go_sem];refine⟨fun e=>(by cases (show(2:Nat)=3 from e)),?_⟩;refine⟨by rfl,?_⟩;simp -implicitDefEqProofs (disch:=omega) only[go_sem];rw[hx];exact⟨rfl,_,rfl,rfl⟩
 have k10:=h
 with_reducible refine ay (fun hb=> ?_) (fun hb=> ?_)<;>have h:=hb<;>(try simp only[wf_preprocess] at h)<;>simp -implicitDefEqProofs (disch:=omega) only[go_sem,hb]<;>(repeat(with_reducible refine And.intro ?_ ?_;focus first|omega|rfl|assumption|exact⟨_,rfl,rfl⟩|(simp;omega)|(simp;done)))
 ·have hx:=fF k1 k2 k3 (by omega)
  have hh:eD x.aH x.aW x.fName x.fType=[aM kr,aM x.aW]:=by rw[eP h];rfl
  rw[hh] at hx;refine aA (aZ _) ?_;simp -implicitDefEqProofs (disch:=omega) only[go_sem];refine aA (aZ _) ?_;simp -implicitDefEqProofs (disch:=omega) only[go_sem];have hE:=fun fr:List Ab.Obj=>je.oK (pre:=[.d (.s [])]) rfl (S':=fr::S) rfl (ku [aM kr,aM x.aW] x.fArgs (fr::S) hne hA (by omega) (by simp));simp only[ag,az,eO,iM,fJ,am,aw] at hE;refine aQ rfl (hE _) ?_;simp -implicitDefEqProofs (disch:=omega) only[go_sem];refine⟨fun e=>(by cases (show(2:Nat)=3 from e)),?_⟩;refine⟨by rfl,?_⟩;simp -implicitDefEqProofs (disch:=omega) only[go_sem];rw[hx];exact⟨rfl,_,rfl,rfl⟩
 have k11:=h
 with_reducible refine ay (fun hb=> ?_) (fun hb=> ?_)<;>have h:=hb<;>(try simp only[wf_preprocess] at h)<;>simp -implicitDefEqProofs (disch:=omega) only[go_sem,hb]<;>(repeat(with_reducible refine And.intro ?_ ?_;focus first|omega|rfl|assumption|exact⟨_,rfl,rfl⟩|(simp;omega)|(simp;done)))
 ·have hx:=fF k1 k2 k3 (by omega)
  have hh:eD x.aH x.aW x.fName x.fType=[aM nA,fP x.fType]:=by rw[eP h];rfl
  rw[hh] at hx;refine aA (aZ _) ?_;simp -implicitDefEqProofs (disch:=omega) only[go_sem];refine aA (L8 x.fType (by omega)) ?_;simp -implicitDefEqProofs (disch:=omega) only[go_sem];have hE:=fun fr:List Ab.Obj=>je.oK (pre:=[.d (.s [])]) rfl (S':=fr::S) rfl (ku [aM nA,fP x.fType] x.fArgs (fr::S) hne hA (by omega) (by simp));simp only[ag,az,eO,ah.aB (fP x.fType),iM,fJ,am,aw] at hE;refine aQ rfl (hE _) ?_;simp -implicitDefEqProofs (disch:=omega) only[go_sem];refine⟨fun e=>(by cases (show(2:Nat)=3 from e)),?_⟩;refine⟨by rfl,?_⟩;simp -implicitDefEqProofs (disch:=omega) only[go_sem];rw[hx];refine⟨rfl,_,rfl,?_⟩;simp only[eY,am,aw,ag,eO,ah.aB (fP x.fType)];rfl
 have k12:=h
 have hk7:x.aH=7:=by have:=hfi.1;omega
 have hx:=wP x;rw[if_neg k1,if_neg k2,if_neg k3,if_neg (by omega)] at hx
 have hh:eD x.aH x.aW x.fName x.fType=[aM gJ]:=by rw[eP hk7];rfl
 rw[hh] at hx;refine afi zmx rfl ?_;simp -implicitDefEqProofs (disch:=omega) only[go_sem];refine aA (aZ _) ?_;simp -implicitDefEqProofs (disch:=omega) only[go_sem];have hE:=fun fr:List Ab.Obj=>je.oK (pre:=[.d (.s [])]) rfl (S':=fr::S) rfl (ku [aM gJ] x.fArgs (fr::S) hne hA (by omega) (by simp));obtain⟨B,hB⟩:∃B:Nat->List (List D),B=fun i=>(([aM gJ]++x.fArgs.map bT)++(x.aG.map rJ).take i).map ah.enc:=⟨_,rfl⟩
 have hB0:([aM gJ]++x.fArgs.map bT).map ah.enc=B 0:=by rw[hB];simp only[df,bw]
 have hBl:∀i,(B i).length<=i+x.fArgs.length+1:=fun i=>by
  rw[hB];simp only[ab,ai,aa,aq];have:=ci i (x.aG.map rJ);omega
 have hBr:∀i,∀r∈B i,r.length=2:=fun i=>by rw[hB];exact ji
 have Mc:∀i (hi:i<x.aG.length),B i++[[.s [],.sl (([aM x.aG[i].bK]++aP x.aG[i].bH++[bT x.aG[i].fBody]).map ah.enc)]]=B (i+1):=fun i hi=>by
  have:=nX (base:=[aM gJ]++x.fArgs.map bT) (l:=x.aG.map rJ) (i:=i) (by rw[ai];exact hi);rw[cj,PU,fB,eY] at this;rw[hB];exact this
 have Zg:B x.aG.length=([aM gJ]++x.fArgs.map bT++x.aG.map rJ).map ah.enc:=by rw[hB];simp only;rw[cm (by simp)]
 clear hB;simp only[hB0] at hE;simp only[ag,az,eO,iM,fJ,am,aw] at hE;refine aQ rfl (hE _) ?_;simp -implicitDefEqProofs (disch:=omega) only[go_sem];refine KX [35] zmx rfl ?_;simp -implicitDefEqProofs (disch:=omega) only[go_sem]
 refine zn [35] (ι:=Nat) zmx rfl [1,2,3,4] (fun i=>[.c (.ptr (0,0) 0),.c (.ptr (0,1) 0),.c (.ptr (0,3) 0),.c (.d (.i .i64 i))])
  (fun i=>[.box [.d (.i .i64 x.aH),.d (.s x.aW),.d (.s x.fName),.d (.i .i64 x.fN),.d (.i .i64 x.fType.aH),.d (.s x.fType.fName),.d (.sl (x.fType.fArgs.map au.enc)),.d (.sl (x.fArgs.map aj.enc)),.d (.sl (x.aG.map aK.enc))],.box [.d (.s []),.bB []],.bU 2 (B i),.box [.d (.s []),.fD (0,2)]]::S)
  (fun i=>i<=x.aG.length) (fun i=>x.aG.length-i) 0 rfl rfl (ba _) ?_
 intro i hi;have hl:=hBl i;have hr:=hBr i;simp -implicitDefEqProofs (disch:=omega) only[go_sem]
 with_reducible refine ay (fun hb=> ?_) (fun hb=> ?_)<;>have h:=hb<;>(try simp only[wf_preprocess] at h)<;>simp -implicitDefEqProofs (disch:=omega) only[go_sem,hb]<;>(repeat(with_reducible refine And.intro ?_ ?_;focus first|omega|rfl|assumption|exact⟨_,rfl,rfl⟩|(simp;omega)|(simp;done)))
 ·have hi':i<x.aG.length:=by omega
  have hm:=ap hi';have Xx:=Ci hm;have Zh:=tV x.aG[i];have hs:=Mc i hi';have hak:=Ee _ hm;rw[mQ,af,af] at hak;have hls:=bc hm;have hlb:=aK.rD x.aG[i]
  (repeat(with_reducible refine And.intro ?_ ?_;focus first|omega|rfl|assumption|exact⟨_,rfl,rfl⟩|(simp;omega)|(simp;done)))
  refine aA (aZ _) ?_;simp -implicitDefEqProofs (disch:=omega) only[go_sem]
  (repeat(with_reducible refine And.intro ?_ ?_;focus first|omega|rfl|assumption|exact⟨_,rfl,rfl⟩|(simp;omega)|(simp;done)))
  refine aA (Eb x.aG[i].bH (by omega)) ?_;have hwr:=ji (l:=aP x.aG[i].bH)
  have hwl:(aP x.aG[i].bH).length=x.aG[i].bH.length:=by rw[lq]
  simp -implicitDefEqProofs (disch:=omega) only[go_sem]
  (repeat(with_reducible refine And.intro ?_ ?_;focus first|omega|rfl|assumption|exact⟨_,rfl,rfl⟩|(simp;omega)|(simp;done)))
  refine⟨by rfl,?_⟩;simp -implicitDefEqProofs (disch:=omega) only[go_sem];refine aA (wR x.aG[i].fBody hak.2.2 (by omega)) ?_;simp -implicitDefEqProofs (disch:=omega) only[go_sem]
  (repeat(with_reducible refine And.intro ?_ ?_;focus first|omega|rfl|assumption|exact⟨_,rfl,rfl⟩|(simp;omega)|(simp;done)))
  refine⟨by rfl,?_⟩
  (repeat(with_reducible refine And.intro ?_ ?_;focus first|omega|rfl|assumption|exact⟨_,rfl,rfl⟩|(simp;omega)|(simp;done)))
  refine⟨by rfl,?_⟩;simp -implicitDefEqProofs (disch:=omega) only[go_sem];simp only[am,aw,ag,az,bi,eO,ah.aB (bT x.aG[i].fBody)] at hs;rw[hs];exact Zw 4 2 6 2 (B (i+1)) (by decide) (i+1) rfl (by omega) (by omega) (by omega) rfl rfl (by omega)
 ·have hi':i=x.aG.length:=by omega
  subst hi';refine agY [35] zmx rfl ?_;simp -implicitDefEqProofs (disch:=omega) only[go_sem];rw[hx,Zg];exact⟨rfl,2,rfl,rfl⟩
end Go.Ab