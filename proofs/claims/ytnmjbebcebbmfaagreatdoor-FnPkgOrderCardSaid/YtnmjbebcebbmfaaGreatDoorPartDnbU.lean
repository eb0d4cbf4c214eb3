/-
  SEVERAL TEXTS IN ONE (merged by program): contracts and models, each with its own heading.
-/
import Derived.Test.YtnmjbebcebbmfaaGreatDoorPartDnbH
import Derived.Test.YtnmjbebcebbmfaaGreatDoorPartDnbJ
import Derived.Test.YtnmjbebcebbmfaaGreatDoorPartDnbR
import Derived.Test.YtnmjbebcebbmfaaGreatDoorPartDnbS
import Derived.Test.YtnmjbebcebbmfaaGreatDoorPartDnbT
open Go.Proofs Go.Proofs.Tryz
set_option linter.unusedSimpArgs false
set_option linter.unusedVariables false
set_option maxRecDepth 4000
set_option maxRecDepth 8000
namespace Go.Ab
theorem wB:∀a b:List (List D),aS (a++b)=aS a+aS b
 |[],b=>by simp[aS]
 |r::a,b=>by rw[ba,aS,aS,wB a b];omega
def SE:List (List UInt8):=[[97],[105,110,116],[39,98],[48],[45,53],[120,46,121]]
theorem ZF:fO SE:=by unfold fO;decide
def zU{bs:List Int}(f:Cu bs->ah×Cu bs):Nat->List ah->Cu bs->List ah×Cu bs
 |0,out,c=>(out,c)
 |n+1,out,c=>zU f n (out++[(f c).1]) (f c).2
def yR{bs:List Int}:Nat->Cu bs->ah×Cu bs
 |0,c=>(bN (cK SE c).1,(cK SE c).2)
 |n+1,c=>if(bZ 2 c).1=true then(bN (cK SE (bZ 2 c).2).1,(cK SE (bZ 2 c).2).2)
  else(bL (zU (yR n) (aY 4 (bZ 2 c).2).1.toNat [] (aY 4 (bZ 2 c).2).2).1,(zU (yR n) (aY 4 (bZ 2 c).2).1.toNat [] (aY 4 (bZ 2 c).2).2).2)
theorem ZG{bs:List Int}{f:Cu bs->ah×Cu bs}{B:Nat}(hf:∀c,(f c).1.sz<=B):∀(n:Nat)(out:List ah)(c:Cu bs),
 (zU f n out c).1.length=out.length+n/\dx (zU f n out c).1<=dx out+n*B
 |0,out,c=>⟨rfl,by show dx out<=_;omega⟩
 |n+1,out,c=>by
  obtain⟨h1,h2⟩:=ZG hf n (out++[(f c).1]) (f c).2;have:=hf c;rw[zU];rw[gQ] at h2;simp only[dx] at h2;rw[ae] at h1;refine⟨by rw[h1];simp only[aa,al];omega,?_⟩;rw[cS];omega
theorem ac1(s:List UInt8):(bN s).sz=s.length:=by rw[iM,kM,kN];simp[aS]
theorem ac2(l:List ah):(bL l).sz=l.length+dx l:=by rw[iM,eF,dD,jU];simp
theorem aiA{bs:List Int}:∀(n:Nat)(c:Cu bs),(yR n c).1.sz+3<=11*4^n
 |0,c=>by
  have:=iA c ZF;rw[yR,ac1];omega
 |n+1,c=>by
  have hp:1<=4^n:=Nat.pow_pos gA;rw[yR,gv];split
  ·have:=iA (bZ 2 c).2 ZF;rw[ac1];omega
  ·have hr:=iF (n:=4) (bZ 2 c).2 gA;obtain⟨h1,h2⟩:=ZG (f:=yR n) (B:=11*4^n-3) (fun c=>by have:=aiA n c;omega) (aY 4 (bZ 2 c).2).1.toNat [] (aY 4 (bZ 2 c).2).2;rw[ac2]
   have h3:(aY 4 (bZ 2 c).2).1.toNat<=3:=gA
   have h4:=cx (11*4^n-3) h3;simp only[dx,al] at h1 h2;omega
def BO{bs:List Int}(x:ah)(m:Int)(k:Nat)(c:Cu bs):ah×Cu bs:=
 if m=0 then(.mk x.aI (x.aj.set k (yR 1 c).1),(yR 1 c).2) else
 if m=1 then(.mk x.aI (x.aj.eraseIdx k),c) else(.mk x.aI (x.aj++[x.aj.getD k cZ]),c)
def Iw{bs:List Int}(x:ah)(c:Cu bs):ah×Cu bs:=
 if x.aj.length=0 then(x,c) else
 if(bZ 3 c).1=true then BO x (aY 3 (mJ x.aj.length (bZ 3 c).2).2).1 (mJ x.aj.length (bZ 3 c).2).1.toNat (aY 3 (mJ x.aj.length (bZ 3 c).2).2).2
 else(x,(bZ 3 c).2)
theorem ac3(y:ah):∀(l:List ah)(k:Nat),dx (l.set k y)<=dx l+y.sz
 |[],k=>by simp[dx]
 |x::l,0=>by simp only[List.set_cons_zero,dx];omega
 |x::l,k+1=>by have:=ac3 y l k;simp only[List.set_cons_succ,dx];omega
theorem VT:∀(l:List ah)(k:Nat),dx (l.eraseIdx k)<=dx l
 |[],k=>by simp[dx]
 |x::l,0=>by simp[dx]
 |x::l,k+1=>by have:=VT l k;simp only[List.eraseIdx_cons_succ,dx];omega
theorem aiB:∀(l:List ah)(k:Nat),(l.getD k cZ).sz<=dx l
 |[],k=>by rw[List.getD_nil,show cZ=bL [] from rfl,ac2];simp[dx]
 |x::l,0=>by simp[dx]
 |x::l,k+1=>by have:=aiB l k;simp only[List.getD_cons_succ,dx];omega
theorem al7{bs:List Int}(x:ah)(c:Cu bs):(Iw x c).1.sz<=2*x.sz+50:=by
 have hx:∀(a:List UInt8)(l:List ah),(ah.mk a l).sz=a.length+(l.length+dx l):=fun a l=>by rw[iM,jU];rfl
 have h0:=hx x.aI x.aj;rw[ah.eta] at h0;unfold Iw;split
 ·show x.sz<=_;omega
 rename_i hn;split
 ·generalize (aY 3 (mJ x.aj.length (bZ 3 c).2).2).1=m;generalize (mJ x.aj.length (bZ 3 c).2).1.toNat=k;generalize (aY 3 (mJ x.aj.length (bZ 3 c).2).2).2=c1;unfold BO;split
  ·have:=ac3 (yR 1 c1).1 x.aj k;have:=aiA 1 c1;simp only[hx,cW];omega
  split
  ·have:=VT x.aj k;have:=List.length_eraseIdx_le x.aj k;simp only[hx];omega
  ·have:=aiB x.aj k;simp only[hx,gQ,dx,ae,aa,al];omega
 ·show x.sz<=_;omega
section
variable {P:Program} {N:Nat} {w w':World} {σ σ':Nat->Nat} {S S':Store} {β β':Hs} {s:St} {a:Act}
def C.mv(n j m:Nat):C->C
 | .jO (0,i)=>if i=m then .jO (0,j) else if i<n/\i≠j then .jO (0,i) else .any
 | .bJ (0,i) es=>if i<n/\i≠j then .bJ (0,i) es else .any
 | .ptr (0,i) off=>if i<n/\i≠j then .ptr (0,i) off else .any
 | .nM (0,i) x off=>if i<n/\i≠j then .nM (0,i) x off else .any
 | .mp (0,i)=>if i<n/\i≠j then .mp (0,i) else .any
 | .fn _ _=>.any
 | .xp (0,i) r p=>if i<n/\i≠j then .xp (0,i) r p else .any
 | .xq (0,i) r p z x off=>if i<n/\i≠j then .xq (0,i) r p z x off else .any
 |c=>c
end
section
variable {P:Program} {N:Nat} {S:Store}
theorem Ow(r:Nat)(T:Value)(h:zG undef r=some T):False:=by cases h
theorem apd{c:Code}{Q:Exit->St->Prop}{tm:List (Nat×V)}{Ω:Store}(h:AW P N c Q ⟨tm,[.xf []]::Ω⟩):AW P N c Q ⟨tm,[]::Ω⟩:=by
 refine mO h fun a w σ β hR=> ?_;obtain⟨bo,bΩ,rfl,hlen⟩:=frames hR
 obtain⟨hS',hk,hst⟩:=hR.S.push (o:=.xf []) (h:=undef) (Grow.refl hR.S.live) hlen
  ⟨fun r es e=>by simp at e,fun r T e=>(Ow r T e).elim,fun b hb=>by obtain⟨r,T,e,_⟩:=hb;exact(Ow r T e).elim,fun r r' T T' x _ e _ _ _=>Ow r T e⟩
  (fun b hb=>by obtain⟨r,T,e,_⟩:=hb;exact(Ow r T e).elim)
 exact⟨σ,_,⟨hR.size,hR.defers,hS',fun u=>(hR.T u).mono (eH.refl _ _) hk⟩,hst,Keep.refl _ _⟩
end
section
variable {P:Program} {S S':Store} {f:FuncId} {args:List V}
end
section
variable {w:World} {σ:Nat->Nat}
mutual
theorem avN{σ2:Nat->Nat}{lo:Nat}(hs:∀b c t fz m,w.heap[b]? =some (.cells c t fz)->σ b=c.size+1+m->lo<=m->σ2 b=σ b):∀(d:D)(n:Nat)(v:Value),lo<=n->xW d=true->dO w σ (rM d n) v->dO w σ2 (rM d n) v
 | .sl es,n,v,hn,hp,h=>by
   rw[rM] at h ⊢;have hrec:=afD hs es (n+1);generalize eO es (n+1)=q at h hrec ⊢
   cases h with
   |xO n a cap=>exact .xO n a cap
   |ol n b off cap z q vals c t hcap hlen hb hσ hfit hc hv hx=>exact .ol n b off cap z q vals c t hcap hlen hb ((hs b c t _ _ hb hσ hn).trans hσ) hfit hc (hrec vals gA (by simpa [xW] using hp) hv) hx
 | .ol m es,n,v,hn,hp,h=>by simp[xW] at hp
 | .b x,n,v,hn,hp,h=>by rw[rM] at h ⊢;cases h;constructor
 | .i k x,n,v,hn,hp,h=>by rw[rM] at h ⊢;cases h;constructor
 | .s l,n,v,hn,hp,h=>by rw[rM] at h ⊢;cases h;constructor
 | .o u,n,v,hn,hp,h=>by simp[xW] at hp
theorem arn{σ2:Nat->Nat}{lo:Nat}(hs:∀b c t fz m,w.heap[b]? =some (.cells c t fz)->σ b=c.size+1+m->lo<=m->σ2 b=σ b):∀(r:List D)(n:Nat)(vals:Nat->Value),lo<=n->l8 r=true->(∀(j:Nat)(d:D),(fE r n)[j]? =some d->dO w σ d (vals j))->
 ∀(j:Nat)(d:D),(fE r n)[j]? =some d->dO w σ2 d (vals j)
 |[],n,vals,hn,hp,h,j,d,hd=>by simp[fE] at hd
 |a::r,n,vals,hn,hp,h,j,d,hd=>by
  rw[l8,ai] at hp;rw[fE] at h hd
  cases j with
  |zero=>
   simp at hd;subst hd;exact avN hs a n _ hn hp.1 (h 0 _ rfl)
  |succ j=>exact arn hs r (n+vR a) (fun i=>vals (i+1)) gA hp.2 (fun i d hi=>h (i+1) d hi) j d hd
theorem afD{σ2:Nat->Nat}{lo:Nat}(hs:∀b c t fz m,w.heap[b]? =some (.cells c t fz)->σ b=c.size+1+m->lo<=m->σ2 b=σ b):∀(rs:List (List D))(n:Nat)(vals:Nat->Value),lo<=n->qg rs=true->(∀(j:Nat)(d:D),(eO rs n).flatten[j]? =some d->dO w σ d (vals j))->
 ∀(j:Nat)(d:D),(eO rs n).flatten[j]? =some d->dO w σ2 d (vals j)
 |[],n,vals,hn,hp,h,j,d,hd=>by simp[eO] at hd
 |r::rs,n,vals,hn,hp,h,j,d,hd=>by
  rw[qg,ai] at hp;rw[eO,cF] at h hd;by_cases hj:j<(fE r n).length
  ·rw[aq hj] at hd;exact arn hs r n vals hn hp.1 (fun j d hd=>h j d (by rw[aq (ap.1 hd).1];exact hd)) j d hd
  ·rw[ag gA] at hd;have:=afD hs rs (n+Ez r) (fun i=>vals ((fE r n).length+i)) gA hp.2 (fun j d hd=>h _ d (by rw[ag gA,cY];exact hd)) (j-(fE r n).length) d hd
   rwa [show(fE r n).length+(j-(fE r n).length)=j by omega] at this
end
end
section
variable {P:Program}
theorem bS.ownRow{f:FuncId}{args:List V}{bY:List Obj}{Ω:Store}{a:List UInt8}{es:List (List D)}{z:Nat}(hne:es≠[])(hz:∀e∈es,e.length=z)(hp:qg es=true)
 (h:∀n,aD P f (args.map Sd) (.agg ((fE [.s a,.sl es] n).map .d))):
 bS P f args (bY::Ω) (fun r' S'=>r'=.agg [.d (.s a),.jO (0,bY.length)]/\S'=(bY++[.fM z es])::Ω):=by
 refine⟨(h 0 []).1,fun w σ β vs hS hargs=> ?_⟩;obtain⟨n,hn⟩:=Zp σ w.heap.size
 have aiC:pO w σ [] [] (args.map Sd) vs:=by
  refine⟨by rw[ab];exact hargs.1,fun j x hx=> ?_⟩;rw[bE] at hx
  cases ha:args[j]? with
  |none=>rw[ha] at hx;cases hx
  |some y=>
   rw[ha] at hx;cases hx;obtain⟨v,h1,h2⟩:=hargs.2 j y ha;exact⟨v,h1,Zo h2 _ _⟩
 refine((h n []).2 w σ [] vs (afd hS.live hS.vH) aiC).mono fun e w' ⟨v,r',S',σ',β',he,hS',hk,hst,hv,hr',hS2⟩=> ?_;subst hr';subst hS2;obtain⟨av,rfl,hcs⟩:=hv;obtain⟨v0,e0,e1,e2⟩:=hcs.2 0 _ rfl;obtain⟨v1,g0,g1,g2⟩:=hcs.2 1 _ rfl;have hsl:av.toList.length=2:=hcs.1.symm;have hql:=kT es (n+1);have hrows:=fun zz=>Zn (z:=zz) (rs:=es) (n:=n+1);have her:=fun(σ2:Nat->Nat) (vals:Nat->Value)=>afa (w:=w') (σ:=σ2) es (n+1) vals;have hsg:=fun(σ2:Nat->Nat) (hs:∀b c t fz m,w'.heap[b]? =some (.cells c t fz)->σ' b=c.size+1+m->n+1<=m->σ2 b=σ' b) (vals:Nat->Value)=>afD (w:=w') (σ:=σ') hs es (n+1) vals (ax _) hp;have g1':dO w' σ' (.ol n (eO es (n+1))) v1:=g1;generalize eO es (n+1)=q at g1' hql hrows her hsg
 cases g1' with
 |xO _ ad cap=>exact absurd (bz (by simpa using hql.symm)) hne
 |ol _ b off cap bB _ vals c t hcap hlen hb hσ hfit hc hvv hx=>
 obtain⟨rfl,atF⟩:=hx
 have hzz:bB=z:=by
  have h1:=hrows bB hlen
  cases es with
  |nil=>exact absurd rfl hne
  |cons y ys=>rw[<-h1 y gL,hz y gL]
 subst hzz
 have hfresh:w.heap.size<=b:=Nat.le_of_not_lt fun hlt=>by
  have h1:=(hst.far b hlt acT).2;have h2:=hn b hlt;omega
 have hblt:=lt_of_some hb
 let σ2:Nat->Nat:=fun x=>if x=b then 0 else σ' x
 have hg:Grow w σ w' σ2:=⟨hst.size,hst.os,hst.output,fun x hx=>by
  obtain⟨h1,h2⟩:=hst.far x hx acT
  exact⟨h1,(if_neg gA).trans h2⟩,fun x=>by
  rcases hS'.live x with hb|hb
  ·exact .inl hb
  ·right;show(if x=b then 0 else σ' x)=0;rw[hb];split<;>rfl⟩
 have hch:=(her σ2 vals (hsg σ2 (fun b1 c1 t1 DJ m h1 h2 h3=>by
  have:b1≠b:=by
   rintro rfl;rw[hb] at h1;cases h1;omega
  exact if_neg this) vals hvv)).2
 cases β with
 |nil=>have:=hS.shape.1;simp at this
 |cons bo bΩ=>
 have hlen':bo.length=bY.length:=by
  obtain⟨gr,g1,g2⟩:=hS.shape.2 0 bY rfl;simp at g1;rw[g1];exact g2
 rw[hql] at hcap hfit hc g0
 obtain⟨hS3,hk3,avO⟩:=hS.push (o:=.fM bB es) (h:=.slice (some ⟨b,0,none⟩) es.length cap) hg hlen'
  ⟨hz,_,cap,rfl,hcap,.inr ⟨b,c,t,rfl,hb,if_pos rfl,atF,fun j d hd=>⟨vals j,by
    have:=hc j (by have:=(ap.1 hd).1;rwa [iT es bB hz] at this)
    rwa [cG] at this,hch j d hd⟩⟩⟩ (fun x hx=>by
    simp only[owns,blk] at hx;split at hx
    ·cases hx
    ·cases hx;exact hfresh)
 refine⟨_,.agg [.d (.s a),.jO (0,bY.length)],_,σ2,(bo++[_])::bΩ,he,hS3,hk3,avO,⟨av,rfl,hsl.symm,fun j x hx=> ?_⟩,rfl,rfl⟩
 match j,hx with
 |0,hx=>
  cases hx;exact⟨v0,e0,by cases e1;constructor,e2⟩
 |1,hx=>
  cases hx;exact⟨_,g0,⟨_,dw _ _ _,fun _ _ _=>by rw[<-hlen',dw]⟩,rfl⟩
 |j+2,hx=>simp at hx
end
section
variable {P:Program} {N:Nat} {S:Store} {s:St}
theorem al8{f:FuncId}{fn:Func}{c:Code}{args:List V}{post:V->Store->Prop}{rs:List ResultVar}(_:P.follows .mixedOrders=true)(hf:P.funcs[f]? =some fn)(hN:fn.ntmps=N)
 (hb:fn.body=some c) (hn:(fn.name== "runtime.NumGoroutine")=false) (hr:fn.results.toList=rs) (hl:Nat.ble args.length N=true) (_:(0:Nat)=0)
 (h:AW P N c (PS P rs post) ⟨mV (args.map (V.up 1)) 0,[]::S⟩):bS P f args S post:=by
 subst hN;subst hr;exact sP hf hb hn (dd hl) (yA yx h)
theorem CP(T:List TypeId){x y:Code}{Q:Exit->St->Prop}(gP:P.follows .mixedOrders=true)(hok:qd T N x=true)(h:oZ P N T x (mG (AW P N y Q) Q) s):AW P N (.seq x y) Q s:=L6 (o9 gP x _ s hok h)
theorem arp(T:List TypeId){x:Code}{Q:Exit->St->Prop}(gP:P.follows .mixedOrders=true)(hok:qd T N x=true)(h:oZ P N T x Q s):AW P N x Q s:=o9 gP x _ s hok h
theorem aiD{c:Operand}{x y:Code}{Q:Exit->St->Prop}(hc:ev s.tm c=.c (.d (.b true)))(h:AW P N x Q s):AW P N (.cond c x y) Q s:=NU hc (fun _=>h) (fun h=>by cases h)
theorem arq{c:Operand}{x y:Code}{Q:Exit->St->Prop}(hc:ev s.tm c=.c (.d (.b false)))(h:AW P N y Q s):AW P N (.cond c x y) Q s:=NU hc (fun h=>by cases h) (fun _=>h)
end
section
variable {P:Program} {N:Nat} {S:Store}
theorem FE(T:List TypeId){f:FuncId}{fn:Func}{c:Code}{args:List V}{post:V->Store->Prop}{rs:List ResultVar}(gP:P.follows .mixedOrders=true)(hf:P.funcs[f]? =some fn)(hN:fn.ntmps=N)
 (hb:fn.body=some c) (hn:(fn.name== "runtime.NumGoroutine")=false) (hr:fn.results.toList=rs) (hl:Nat.ble args.length N=true) (hok:qd T N c=true)
 (h:oZ P N T c (PS P rs post) ⟨mV (args.map (V.up 1)) 0,[.xf []]::S⟩):bS P f args S post:=by
 subst hN;subst hr;exact sP hf hb hn (dd hl) (apd (yA yx (o9 gP c _ _ hok h)))
theorem al9{c:Code}{Q:Exit->St->Prop}{tm:List (Nat×V)}{Ω:Store}(h:AW P N c Q ⟨tm,[.xf [[]]]::Ω⟩):AW P N c Q ⟨tm,[]::Ω⟩:=by
 refine mO h fun a w σ β hR=> ?_;obtain⟨bo,bΩ,rfl,hlen⟩:=frames hR
 have hroot:∀r T,zG (.tuple #[Eb]) r=some T->r=0/\T=Eb:=fun r T e=>by
  cases r with
  |zero=>exact⟨rfl,(cL e).symm⟩
  |succ r=>simp[zG] at e
 have hown:∀b,¬NM (.tuple #[Eb]) b:=fun b ⟨r,T,e,ho⟩=>by
  obtain⟨_,rfl⟩:=hroot r T e;exact Sg ho
 obtain⟨hS',hk,hst⟩:=hR.S.push (o:=.xf [[]]) (h:=.tuple #[Eb]) (Grow.refl hR.S.live) hlen
  ⟨fun r es e=>by
    cases r with
    |zero=>cases e;exact⟨Eb,rfl,.nil none 0 _ rfl VF⟩
    |succ r=>simp at e,fun r T e=>by rw[(hroot r T e).1];exact Nat.zero_lt_one,fun b hb=>(hown b hb).elim,fun r r' T T' x hne e e' ho=>by
    obtain⟨_,rfl⟩:=hroot r T e
    exact(Sg ho).elim⟩
  (fun b hb=>(hown b hb).elim)
 exact⟨σ,_,⟨hR.size,hR.defers,hS',fun u=>(hR.T u).mono (eH.refl _ _) hk⟩,hst,Keep.refl _ _⟩
theorem afE(T:List TypeId){f:FuncId}{fn:Func}{c:Code}{args:List V}{post:V->Store->Prop}{rs:List ResultVar}(gP:P.follows .mixedOrders=true)(hf:P.funcs[f]? =some fn)(hN:fn.ntmps=N)
 (hb:fn.body=some c) (hn:(fn.name== "runtime.NumGoroutine")=false) (hr:fn.results.toList=rs) (hl:Nat.ble args.length N=true) (hok:qd T N c=true)
 (h:oZ P N T c (PS P rs post) ⟨mV (args.map (V.up 1)) 0,[.xf [[]]]::S⟩):bS P f args S post:=by
 subst hN;subst hr;exact sP hf hb hn (dd hl) (al9 (yA yx (o9 gP c _ _ hok h)))
end
section
variable {P:Program} {S S1:Store}
theorem bS.of_le{f:FuncId}{args:List V}{t:V}(h:bS P f args S fun r S'=>Less r t/\S'=S1):bS P f args S fun r S'=>r=t/\S'=S1:=
 ⟨h.1,fun w σ β vs hS hv=>(h.2 w σ β vs hS hv).mono fun e w' ⟨v,r,S',σ',β',h1,h2,h3,h4,h5,h6,h7⟩=>⟨v,t,S',σ',β',h1,h2,h3,h4,h6 _ _ _ _ _ h5,rfl,h7⟩⟩
theorem Ef{r t:V}(h:Sd r=t):Less r t:=fun w σ S β v hr=>by
 rw[<-h];exact Zo hr _ _
end
attribute [go_sem] Bool.or_false Bool.false_or Bool.true_or Bool.or_true
def Qn:bF:=⟨[110,105,108],[]⟩
def FH:bF:=⟨[99,111,110,115],[su [97],wJ [108,105,115,116] [su [97]]]⟩
def XB:List (List UInt8):=[[99,111,110,115],[],[111,110,101]]
theorem afF:fO XB:=by unfold fO;decide
def zq{bs:List Int}(k:Int)(c:Cu bs):aU×Cu bs:=
 if k=0 then(⟨[108,105,115,116],[[97],(cK Lj c).1],[Qn,FH]⟩,(cK Lj c).2) else
 if k=1 then(⟨[108,105,115,116],[[97]],[Qn,FH].take (aY 2 c).1.toNat⟩,(aY 2 c).2) else
 if k=2 then(⟨[108,105,115,116],[[97]],[⟨[110,105,108],[(uL 2 c).1]⟩,FH]⟩,(uL 2 c).2) else
 if k=3 then(⟨[108,105,115,116],[[97]],[⟨(cK XB c).1,[]⟩,FH]⟩,(cK XB c).2) else
 (⟨[108,105,115,116],[[97]],[Qn,FH]⟩,c)
def FI{bs:List Int}(c:Cu bs):aU×Cu bs:=zq (aY 10 c).1 (aY 10 c).2
theorem VU(s:List UInt8)(l:List ak):(bF.mk s l).sz=s.length+(l.length+tT l):=yM _
theorem KW:FH.sz=13:=by
 rw[yM];simp only[FH,tT,rX,Ol,aa,al]
theorem JY:Qn.sz=3:=by rw[yM];simp[Qn,tT]
theorem ama{bs:List Int}(c:Cu bs):(FI c).1.sz<=300:=by
 unfold FI;generalize (aY 10 c).1=k;generalize (aY 10 c).2=c1;have h1:=iA c1 PZ;have h2:=iA c1 afF;have h3:=GD 2 c1
 have h4:ET ([Qn,FH].take (aY 2 c1).1.toNat)<=16:=by
  have:=iF (n:=2) c1 gA
  have:(aY 2 c1).1.toNat=0\/(aY 2 c1).1.toNat=1:=gA
  rcases this with e|e<;>rw[e]<;>simp[ET,JY]
 have h5:([Qn,FH].take (aY 2 c1).1.toNat).length<=2:=List.length_take_le' _ _;unfold zq;split
 ·simp only[sH,ET,KW,JY,af,aw,ez,List.sum_nil,aa,al];omega
 split
 ·simp only[sH,af,aw,ez,List.sum_nil,aa,al];omega
 split
 ·simp only[sH,ET,VU,tT,KW,JY,af,aw,ez,List.sum_nil,aa,al];omega
 split
 ·simp only[sH,ET,VU,tT,KW,JY,af,aw,ez,List.sum_nil,aa,al];omega
 ·simp only[sH,ET,KW,JY,af,aw,ez,List.sum_nil,aa,al];omega
theorem lend{r t:V}{S:Store}(h:Sd r=t:=by first|rfl|(simp only[bI.v,aQ.v,aV.v,aU.v,af,aw,bw,bQ.aC,bF.aC,bg.aC,cO.aC,ak.aC,au.aC,ba,bc];rfl)):Less r t/\S=S:=⟨Ef h,rfl⟩
theorem SF:∀N:Nat,∀x:ah,SizeOf.sizeOf x<N->∀n:Nat,x.sz<=1048576->aD prog 54 [x.v] (.agg ((fE x.enc n).map .d))
 |0=>fun x h=>by omega
 |N+1=>by
  have ih:=SF N;intro x hx n hsz S;have hxl:=ah.vO x;rw[iM,jU] at hsz;obtain⟨L,hL⟩:∃L:Nat->Nat,L=fun i=>n+1+iY (x.aj.take i):=⟨_,rfl⟩;obtain⟨T,hT⟩:∃T:Nat->List (List D),T=fun i=>lx (x.aj.take i) (n+1):=⟨_,rfl⟩
  have hT0:T 0=[]:=by rw[hT];rfl
  have fZ:∀i,(T i).length<=i:=fun i=>by rw[hT];simp only[gM];exact bi _ _
  have hTs:∀i (hi:i<x.aj.length),T i++[fE x.aj[i].enc (L i)]=T (i+1):=fun i hi=>by rw[hT,hL];exact Om hi (n+1)
  have hTe:T x.aj.length=lx x.aj (n+1):=by rw[hT];simp only[ch]
  clear hT hL;rw[jM,<-hTe];refine lF (n) (rs:=[.cell 2 26]) zmx func54 ntmps54 rfl rfl rfl rfl rfl ?_;refine W1 ?_;refine oG n 3 1 2 _ rfl rfl ?_
  refine aZ (ι:=Nat) zmx rfl [1,2,3,4] (fun i=>[.c (.ptr (0,1) 0),.c (.ptr (0,2) 0),.c (.ptr (0,3) 0),.c (.d (.i .i64 i))])
   (fun i=>[.seed n,.box [.d (.s x.aI),.d (.sl (x.aj.map ah.enc))],.box [.d (.s []),.bH []],.box [.d (.s x.aI),.bJ (0,4) (T i)],.eP n 2 (T i)]::S)
   (fun i=>i<=x.aj.length) (fun i=>x.aj.length-i) 0 rfl (by rw[hT0];rfl) (an _) ?_
  intro i hi;have hl:=fZ i;refine W1 ?_;refine S0 (fun hb h=>?_) fun hb h=>?_
  ·have hi':i<x.aj.length:=gA
   have hm:=ac hi';have hs:=hTs i hi';have hz:=gY hm;refine W3 ?_;refine bn (ih x.aj[i] (by have:=bh hm;omega) (L i) gA) ?_;obtain⟨row,hrow⟩:∃row,row=fE x.aj[i].enc (L i):=⟨_,rfl⟩
   have hrl:row.length=2:=by rw[hrow,sV,ah.dK]
   rw[<-hrow] at hs ⊢;simp -implicitDefEqProofs (disch:=omega) only[go_sem,hrl,Zt];refine W3 ?_;rw[hs];exact bR 5 gE (i+1) gA rfl rfl rfl rfl gA
  ·have hi':i=x.aj.length:=gA
   subst hi'
   first|done|rfl
theorem KX(x:ah)(n:Nat)(hsz:x.sz<=1048576):aD prog 54 [x.v] (.agg ((fE x.enc n).map .d)):=SF _ x (cg _) n hsz
theorem aiE(x:ah)(hsz:x.sz<=1048576):aD prog 54 [x.v] x.v:=by
 have:=aD.less (KX x 0 hsz) GK;rw[ah.Ml] at this;exact this
theorem afG(x:ah)(hsz:x.sz<=1048576)(S:Store):uK prog 54 [x.v] S (fun r own S1=>S1=S/\∃y,r=.agg ([.d (.s x.aI)]++y::[])/\Mt own y 2 (x.aj.map ah.enc)):=by
 rw[iM,jU] at hsz;obtain⟨T,hT⟩:∃T:Nat->List (List D),T=fun i=>(x.aj.take i).map ah.enc:=⟨_,rfl⟩
 have hT0:T 0=[]:=by rw[hT];rfl
 have fZ:∀i,(T i).length<=i:=fun i=>by rw[hT];simp only[ab];exact bi _ _
 have hTs:∀i (hi:i<x.aj.length),T i++[[.s x.aj[i].aI,.sl (x.aj[i].aj.map ah.enc)]]=T (i+1):=fun i hi=>by
  rw[hT];simp only[bu hi,bw,af,aw,ah.aC]
 have hTe:T x.aj.length=x.aj.map ah.enc:=by rw[hT];simp only[ch]
 clear hT;refine Gz (rs:=[.cell 2 26]) zmx func54 ntmps54 rfl rfl rfl rfl rfl ?_;refine W1 ?_;refine kJ 2 1 2 _ rfl rfl ?_
 refine aZ (ι:=Nat) zmx rfl [1,2,3,4] (fun i=>[.c (.ptr (0,0) 0),.c (.ptr (0,1) 0),.c (.ptr (0,2) 0),.c (.d (.i .i64 i))])
  (fun i=>[.box [.d (.s x.aI),.d (.sl (x.aj.map ah.enc))],.box [.d (.s []),.bH []],.box [.d (.s x.aI),.bJ (0,3) (T i)],.tok 2 (T i)]::S)
  (fun i=>i<=x.aj.length) (fun i=>x.aj.length-i) 0 rfl (by rw[hT0];rfl) (an _) ?_
 intro i hi;have hl:=fZ i;refine W1 ?_;refine S0 (fun hb h=>?_) fun hb h=>?_
 ·have hi':i<x.aj.length:=gA
  have hm:=ac hi';have hs:=hTs i hi';have hz:=gY hm;refine W3 ?_;refine C1 (aiE x.aj[i] gA) ?_;refine W3 ?_;rw[hs];exact bR 4 gE (i+1) gA rfl rfl rfl rfl gA
 ·have hi':i=x.aj.length:=gA
  subst hi';rw[<-hTe];exact⟨_,rfl,.inl ⟨3,rfl,rfl⟩⟩
theorem ape{bs:List Int}(hB:Bytes bs):∀(n:Nat)(c:Cu bs)(l j:Nat)(S:Store),bC S (l,j)=some (.box (cur c))->n<=16->
 bS prog 55 [.c (.ptr (l,j) 0),.c (.d (.i .i64 n))] S (fun r S1=>r=(yR n c).1.v/\S1=bA S (l,j) (.box (cur (yR n c).2))):=by
 intro n
 induction n with
 |zero=>
  intro c l j S hk hn;have g:∀x:Ab.Obj,bC (bA S (l,j) x) (l,j)=some x:=fun x=>dA _ _ _ _ hk;rw[yR];have d0:decide (((0:Nat):Int)<=0)=true:=rfl;refine nT [40] (rs:=[.cell 4 26]) zmx func55 ntmps55 rfl rfl rfl rfl rfl ?_;refine Mj ?_;refine dX [true] rfl (gB hB c (1+l) j _ SE (by rw[aW];exact hk) gE gE) ?_;refine W1 ?_;refine C1 (bW _) ?_
  first|done|exact⟨rfl,rfl⟩|rfl
 |succ n ih=>
  intro c l j S hk hn;have g:∀x:Ab.Obj,bC (bA S (l,j) x) (l,j)=some x:=fun x=>dA _ _ _ _ hk;rw[yR];have d0:decide (((n+1:Nat):Int)<=0)=false:=decide_eq_false gA
  have d1:((n+1:Nat):Int)-1=(n:Int):=gA
  obtain⟨c1,hc1⟩:∃c1,c1=(bZ 2 c).2:=⟨_,rfl⟩;obtain⟨o,ho⟩:∃o,o=(bZ 2 c).1:=⟨_,rfl⟩;have hx:=iF (n:=4) c1 gA;obtain⟨k,hkd⟩:∃k:Nat,(aY 4 c1).1=(k:Int):=⟨(aY 4 c1).1.toNat,gA⟩;obtain⟨c2,hc2⟩:∃c2,c2=(aY 4 c1).2:=⟨_,rfl⟩;rw[<-ho,<-hc1,hkd,<-hc2,fk];rw[hkd] at hx;have q1:=iW hB c (1+l) j ([.box [.d (.s []),.bH []]]::S) 2 (by rw[aW];exact hk) gA gA;rw[<-ho,<-hc1,dn] at q1;obtain⟨Q,hQ⟩:∃Q,Q=(if o=true then(bN (cK SE c1).1,(cK SE c1).2) else(bL (zU (yR n) k [] c2).1,(zU (yR n) k [] c2).2)):=⟨_,rfl⟩;rw[<-hQ];refine nT [40] (rs:=[.cell 4 26]) zmx func55 ntmps55 rfl rfl rfl rfl rfl ?_;refine Mj ?_;refine bD rfl q1 ?_;refine W1 ?_
  cases o with
  |true=>
   rw[if_pos rfl] at hQ;subst hQ;refine W1 ?_;refine dX [true] rfl (gB hB c1 (1+l) j _ SE gO gE gE) ?_;refine W1 ?_;refine C1 (bW _) ?_
   first|done|exact⟨rfl,rfl⟩|rfl
  |false=>
   rw[if_neg gE] at hQ;refine W1 ?_;refine bD rfl (eB hB c1 (1+l) j _ 4 gO gA gA) ?_;rw[hkd,<-hc2];refine W1 ?_;refine kJ 1 1 2 _ rfl rfl ?_
   refine KC [40] zmx rfl [0,1,4,5,6,7] (ι:=Nat×List ah×Cu bs) (fun x=>[.c (.ptr (1+l,j) 0),.c (.d (.i .i64 (n+1:Nat))),.c (.ptr (0,0) 0),.c (.ptr (0,1) 0),.c (.d (.i .i64 k)),.c (.d (.i .i64 x.1))])
    (fun x=>[.box [.d (.s []),.bH []],.box [.d (.s []),.bJ (0,2) (x.2.1.map ah.enc)],.tok 2 (x.2.1.map ah.enc)]::bA S (l,j) (.box (cur x.2.2)))
    (fun x=>x.1<=k/\zU (yR n) (k-x.1) x.2.1 x.2.2=zU (yR n) k [] c2/\x.2.1.length<=x.1) (fun x=>k-x.1) (0,[],c2) rfl rfl ⟨an _,rfl,ax _⟩ ?_
   rintro⟨i,out,d⟩ ⟨p1,p2,p3⟩;simp only at p1 p2 p3;refine nL ?_;refine EO (fun hb h=>?_) fun hb h=>?_
   ·have ek:k-i=(k-(i+1))+1:=gA
    rw[ek,zU] at p2;refine bD rfl (ih d (1+l) j _ gO gA) ?_;refine nL ?_;refine W3 ?_;refine⟨by cases l<;>rfl,?_⟩;refine nL ?_;refine bR 3 gE (i+1,out++[(yR n d).1],(yR n d).2) gC rfl ?_ (by cases l<;>rfl) rfl ⟨gC,p2,by rw[ae];simp only[aa,al];omega⟩;simp only[bw,af,aw,ah.aC]
    first|done|rfl|(cases l<;>rfl)
   ·have ei:k-i=0:=gA
    rw[ei,zU] at p2;rw[<-p2] at hQ;subst hQ
    first|done|exact⟨rfl,rfl⟩|exact⟨gV _,rfl⟩
def CQ(c:Array Value)(k n:Nat):Array Value:=(c.toList.take (k*2)++(c.toList.drop ((k+1)*2)).take ((n-(k+1))*2)++c.toList.drop (k*2+(n-(k+1))*2)).toArray
def XC(b k n cap:Nat):Value:=.slice (if cap=k+1 then some ⟨b,0,none⟩ else some ⟨b,(k+1)*2,none⟩) (n-(k+1)) (cap-(k+1))
section
variable {P:Program} {w:World} {σ:Nat->Nat}
theorem aiF{c:Array Value}{k n:Nat}(hk:k<n)(hn:n*2<=c.size):(CQ c k n).size=c.size:=by
 unfold CQ;simp only[ea,ae,cj,bk,cp];omega
theorem amb{c:Array Value}{k n j:Nat}(hk:k<n)(hn:n*2<=c.size)(hj:j<k*2):(CQ c k n)[j]? =c[j]? :=by
 unfold CQ;rw[dc,cf,aq gR,ck hj,cm]
theorem aiG{c:Array Value}{k n j:Nat}(hk:k<n)(hn:n*2<=c.size)(hj:k*2<=j)(hj2:j<(n-1)*2):(CQ c k n)[j]? =c[j+2]? :=by
 unfold CQ;rw[dc,cf,ag gR,aq gR,ck gR,cI,cm];congr 1
 simp
 omega
theorem apf{t e ty:TypeId}{b k n cap:Nat}{c:Array Value}{et:TypeId}{i:TypeInfo}(ht:P.underlying t=some (.slice e))(hi:P.info? e=some i)(h2:i.size=2)
 (hb:w.heap[b]? =some (.cells c et (0,0)))(hk:k<n)(hn:n<=cap)(hfit:cap*2<=c.size)(hone:∀j,j<n*2->∃v:Value,c[j]? =some v/\v.oneCell'=true):
 (Builtin.append_ #[t,t] ty #[.slice (some ⟨b,0,none⟩) k cap,XC b k n cap]).run P w=.ok (.slice (some ⟨b,0,none⟩) (n-1) cap) (w.setRow b (CQ c k n)):=by
 have hsz:((c.toList.drop ((k+1)*2)).take ((n-(k+1))*2)).length=(n-(k+1))*2:=by
  simp only[cj,bk,cp];omega
 have hr:=Gc (P:=P) (w:=w) (t:=t) (u:=t) (ty:=ty) (b:=b) (off:=0) (sLen:=k) (sCap:=cap) (m:=n-(k+1)) (yv:=XC b k n cap) (i:=i) (ya:=((c.toList.drop ((k+1)*2)).take ((n-(k+1))*2)).toArray) (c:=c) (et:=et) ht (.inl ⟨_,ht⟩) hi rfl (by
  rw[h2];unfold XC;by_cases he:cap=k+1
  ·have hm:n-(k+1)=0:=gA
   rw[if_pos he,hm];simp[Builtin.firstCells,loadCells,loadCellsFrom]
  ·rw[if_neg he]
   exact yg (a:=⟨b,(k+1)*2,none⟩) rfl hb _ fun j hj=>⟨_,cq gC⟩) gA hb (by rw[h2];simp only[ea,hsz];omega) (fun v hv=>by
  obtain⟨j,hj⟩:=em hv;simp only at hj;have hjl:=(ap.1 hj).1;rw[hsz] at hjl;rw[ck hjl,cI,cm] at hj;obtain⟨u,h1,h3⟩:=hone ((k+1)*2+j) gA
  rw[h1] at hj;cases hj;exact h3)
 rw[h2,show k+(n-(k+1))=n-1 by omega,cG] at hr;rw[hr];simp only[ea,hsz];rfl
theorem afH{es:List (List D)}(hz:∀e∈es,e.length=2){k:Nat}(hk:k<es.length)(j:Nat):(es.eraseIdx k).flatten[j]? =if j<k*2 then es.flatten[j]? else es.flatten[j+2]? :=by
 have h1:(es.take k).flatten.length=k*2:=by rw[iT _ 2 (fun e he=>hz e (eA he)),cj,gj gA]
 rw[List.eraseIdx_eq_take_drop_succ,cV];split
 ·rename_i h;rw[aq gA]
  have:es.flatten=(es.take k).flatten++(es.drop k).flatten:=by rw[<-cV,da]
  rw[this,aq gA]
 ·rename_i h;rw[ag gA,h1,U8 es 2 hz (k+1) gA];congr 1;omega
theorem apg{a:List UInt8}{es:List (List D)}{k:Nat}{o1:Obj}{Ω:Store}{β:Hs}(hk:k<es.length)(hS:fC w σ ([.box [.d (.s a),.jO (0,2)],o1,.fM 2 es]::Ω) β):
 ∃(b0 b cap:Nat) (Pk cc:Array Value) (t0 ty:TypeId),bC β (0,0)=some (.pointer (some ⟨b0,0,none⟩))/\bC β (0,2)=some (.slice (some ⟨b,0,none⟩) es.length cap)/\w.heap[b0]? =some (.cells Pk t0 (0,0))/\w.heap[b]? =some (.cells cc ty (0,0))/\b≠b0/\
  Pk.size=2/\Pk[1]? =some (.slice (some ⟨b,0,none⟩) es.length cap)/\es.length<=cap/\cap*2<=cc.size/\(∀j,j<es.length*2->∃v:Value,cc[j]? =some v/\v.oneCell'=true)/\
  ∀wf:World,wf.heap.size=w.heap.size->wf.os=w.os->wf.output=w.output->(∀x,x≠b->x≠b0->wf.heap[x]? =w.heap[x]?)->wf.heap[b]? =some (.cells (CQ cc k es.length) ty (0,0))->
   wf.heap[b0]? =some (.cells (Pk.setIfInBounds 1 (.slice (some ⟨b,0,none⟩) (es.length-1) cap)) t0 (0,0))->
   ∃σ',fC wf σ' ([.box [.d (.s a),.d (.sl (es.eraseIdx k))],o1,.dead]::Ω) β/\Keep ([.box [.d (.s a),.jO (0,2)],o1,.fM 2 es]::Ω) β ([.box [.d (.s a),.d (.sl (es.eraseIdx k))],o1,.dead]::Ω) β/\
    Step ([.box [.d (.s a),.jO (0,2)],o1,.fM 2 es]::Ω) β σ w ([.box [.d (.s a),.d (.sl (es.eraseIdx k))],o1,.dead]::Ω) β σ' wf:=by
 obtain⟨hh0,g0,b0,Pk,t0,rfl,hb0,Yd,amc⟩:=hS.obj (0,0) _ rfl;obtain⟨zx,g2,hz,ad,cap,rfl,hcap,hcase⟩:=hS.obj (0,2) _ rfl
 have hcap0:cap≠0:=gA
 obtain⟨b,cc,ty,rfl,hb,hσ,hfit,hcells⟩:=hcase.resolve_left hcap0;obtain⟨v0,f0,r0,o0⟩:=amc.2 0 _ rfl;obtain⟨v1,f1,r1,_⟩:=amc.2 1 _ rfl
 have hv1:v1=.slice (some ⟨b,0,none⟩) es.length cap:=by
  obtain⟨o,ho,hl⟩:=r1;cases ho;have:=hl _ _ rfl;exact(cL (this.symm.trans g2))
 subst hv1
 have hs0:Pk.size=2:=by have:=amc.1;simpa using this.symm
 have hbb:b≠b0:=by
  rintro rfl;have:=hS.apart (0,0) (0,2) _ _ _ _ b rfl g0 rfl rfl g2 (by simp[owns,blk,hcap0]);cases this
 have hfl:=iT es 2 hz
 have hn2:es.length*2<=cc.size:=gA
 have hlt:=lt_of_some hb;refine⟨b0,b,cap,Pk,cc,t0,ty,g0,g2,hb0,hb,hbb,hs0,by simpa using f1,hcap,hfit,fun j hj=> ?_,fun wf q1 q2 q3 q4 q5 q6=> ?_⟩
 ·obtain⟨v,h1,h2⟩:=hcells j _ (am gA);exact⟨v,h1,h2.one⟩
 have hel:(es.eraseIdx k).length=es.length-1:=List.length_eraseIdx_of_lt hk
 let w1:World:=w.setRow b (CQ cc k es.length)
 let σ':Nat->Nat:=fun x=>if x=b then(es.length-1)*2 else σ x
 have hcs:=aiF hk hn2;have h1b:w1.heap[b]? =some (.cells (CQ cc k es.length) ty (0,0)):=setRow_heap w b cc _ ty (0,0) hb;have h1o:∀x,x≠b->w1.heap[x]? =w.heap[x]? :=fun x hx=>gW _ _ _ _ hx
 have hn1:eH w σ w1 σ':=by
  intro b1 c1 t1 DJ e1;by_cases hb1:b1=b
  ·subst hb1;rw[hb] at e1;cases e1;exact⟨by simp only[σ',if_true];omega,fun h=>gA,_,h1b,hcs,fun i hi=>gA⟩
  ·exact⟨by simp only[σ',if_neg hb1];exact ax _,fun _=>if_neg hb1,c1,(h1o b1 hb1).trans e1,rfl,fun _ _=>rfl⟩
 have hl1:∀x,x<w1.heap.size\/σ' x=0:=fun x=>by
  by_cases hx:x=b
  ·left;subst hx;show _<(w.setRow _ _).heap.size;rw[setRow_size];exact hlt
  ·rcases hS.live x with h|h
   ·left;show _<(w.setRow _ _).heap.size;rw[setRow_size];exact h
   ·right;simp only[σ',if_neg hx];exact h
 obtain⟨hS1,hk1,Ev⟩:=hS.set (k:=(0,2)) (o':=.dead) (h':=.slice (some ⟨b,0,none⟩) es.length cap) rfl g2 (w':=w1) (σ':=σ') (by show _<=(w.setRow _ _).heap.size;rw[setRow_size];exact ax _) rfl rfl hn1 hl1
  (fun x hx hno=>⟨h1o x fun e=>hno (by subst e;simp[owns,blk,hcap0]),if_neg fun e=>hno (by subst e;simp[owns,blk,hcap0])⟩) (.inl rfl) trivial (fun x hx=>by cases hx)
 rw[Ao undef β (0,2) _ g2] at hS1 hk1 Ev
 have hrest:dO w1 σ' (.sl (es.eraseIdx k)) (.slice (some ⟨b,0,none⟩) (es.length-1) cap):=by
  rw[<-hel];refine .sl b 0 cap 2 _ (fun j=>((CQ cc k es.length)[j]?).getD undef) (CQ cc k es.length) ty (0,0) gA (fun e he=>hz e (List.mem_of_mem_eraseIdx he)) h1b (by simp only[σ',if_true,hel];omega) (fun j hj=> ?_) (fun j d hd=> ?_)
  ·rw[hel] at hj;rw[cG,cq (by rw[hcs];omega)];rfl
  ·have hjl:j<(es.length-1)*2:=by
    have:=(ap.1 hd).1;rw[iT (es.eraseIdx k) 2 (fun e he=>hz e (List.mem_of_mem_eraseIdx he)),hel] at this;exact this
   rw[afH hz hk] at hd;split at hd
   ·rename_i hj;obtain⟨v,h1,h2⟩:=hcells j d hd;rw[amb hk hn2 hj,h1];exact h2.mono hn1
   ·rename_i hj;obtain⟨v,h1,h2⟩:=hcells (j+2) d hd;rw[aiG hk hn2 gA hjl,h1];exact h2.mono hn1
 have Ux:w1.heap[b0]? =some (.cells Pk t0 (0,0)):=(h1o b0 (Ne.symm hbb)).trans hb0;have axu:=lt_of_some hb0
 have hfx:∀x,x≠b0->wf.heap[x]? =w1.heap[x]? :=fun x hx=>by
  by_cases e:x=b
  ·subst e;rw[q5,h1b]
  ·rw[q4 x e hx,h1o x e]
 have hsz1:w1.heap.size=w.heap.size:=setRow_size ..
 have ars:eH w1 σ' wf σ':=by
  intro x c1 t1 DJ e1;by_cases e:x=b0
  ·subst e;rw[Ux] at e1;cases e1;have:σ' x=0:=(if_neg (Ne.symm hbb)).trans Yd;exact⟨ax _,fun _=>rfl,_,q6,gL,fun i hi=>gA⟩
  ·exact⟨ax _,fun _=>rfl,c1,(hfx x e).trans e1,rfl,fun _ _=>rfl⟩
 obtain⟨hS2,hk2,wG⟩:=hS1.set (k:=(0,0)) (o:=.box [.d (.s a),.jO (0,2)]) (o':=.box [.d (.s a),.d (.sl (es.eraseIdx k))]) (h':=.pointer (some ⟨b0,0,none⟩)) rfl g0 (w':=wf) (σ':=σ') (by rw[q1,hsz1];exact ax _) q2 q3 ars (fun x=>by rw[q1];rw[<-hsz1];exact hl1 x)
  (fun x hx hno=>⟨hfx x fun e=>hno (by subst e;rfl),rfl⟩) (.inr ⟨⟨_,rfl⟩,rfl⟩)
  ⟨b0,_,t0,rfl,q6,(if_neg (Ne.symm hbb)).trans Yd,by simp[hs0],fun j x hx=>by
    match j,hx with
    |0,hx=>
     cases hx;refine⟨v0,?_,by cases r0;constructor,o0⟩;rw[cm,eV gA];rw[cm] at f0;exact f0
    |1,hx=>
     cases hx;refine⟨_,?_,hrest.mono ars,rfl⟩;rw[cm,Array.getElem?_setIfInBounds_self_of_lt gA]
    |j+2,hx=>simp at hx⟩ (fun x hx=>.inl hx)
 rw[Ao undef β (0,0) _ g0] at hS2 hk2 wG;exact⟨σ',hS2,hk1.trans hk2,Ev.trans wG⟩
end
theorem ac4{bs:List Int}(hB:Bytes bs)(c:Cu bs)(l j:Nat)(S:Store)(x:ah)(hk:bC S (l,j)=some (.box (cur c)))(hx:x.sz<=1048576)(hno:x.aj.length=0\/(bZ 3 c).1=false):
 bS prog 17 [.c (.ptr (l,j) 0),x.v] S (fun r S1=>r=x.v/\S1=bA S (l,j) (.box (cur (if x.aj.length=0 then c else(bZ 3 c).2)))):=by
 by_cases h0:x.aj.length=0
 ·have d0:decide (0<(x.aj.length:Int))=false:=decide_eq_false gA;rw[if_pos h0,Ao .dead S (l,j) _ hk];refine nT [40] (rs:=[.cell 4 26]) zmx func17 ntmps17 rfl rfl rfl rfl rfl ?_;exact Z1o
  first|done|exact⟨rfl,rfl⟩
 ·have h1:=hno.resolve_left h0;have d0:decide (0<(x.aj.length:Int))=true:=decide_eq_true gA;have q1:=fun fr:List Ab.Obj=>iW hB c (1+l) j (fr::S) 3 (by rw[aW];exact hk) gA gA;simp only[h1,dn] at q1;rw[if_neg h0];refine nT [40] (rs:=[.cell 4 26]) zmx func17 ntmps17 rfl rfl rfl rfl rfl ?_;refine Mj ?_;refine bD rfl (q1 _) ?_;exact Z1o
  first|done|exact⟨rfl,rfl⟩
theorem turn_0{bs:List Int}(hB:Bytes bs)(c c1 c2 c3:Cu bs)(k:Nat)(l j:Nat)(S:Store)(x:ah)(hk:bC S (l,j)=some (.box (cur c)))(hx:x.sz<=1048576)(h0:x.aj.length≠0)
 (h1:bZ 3 c=(true,c1))(h2:mJ x.aj.length c1=((k:Int),c2))(h3:aY 3 c2=(0,c3)):
 bS prog 17 [.c (.ptr (l,j) 0),x.v] S (fun r S1=>r=(BO x 0 k c3).1.v/\S1=bA S (l,j) (.box (cur (BO x 0 k c3).2))):=by
 have g:∀x:Ab.Obj,bC (bA S (l,j) x) (l,j)=some x:=fun x=>dA _ _ _ _ hk
 have hxl:x.aj.length<=1048576:=by rw[iM] at hx;omega
 have d0:decide (0<(x.aj.length:Int))=true:=decide_eq_true gA;have rk:=Fw (n:=x.aj.length) c1 gA;rw[h2] at rk;simp only at rk
 have hkl:k<x.aj.length:=gA
 have q1:=fun fr:List Ab.Obj=>iW hB c (1+l) j (fr::S) 3 (by rw[aW];exact hk) gA gA;simp only[h1,dn] at q1;have q2:=fun fr:List Ab.Obj=>I8 hB c1 (1+l) j (fr::bA S (l,j) (.box (cur c1))) x.aj.length gO gA gA;simp only[h2,dn,cu] at q2;have q3:=fun fr:List Ab.Obj=>eB hB c2 (1+l) j (fr::bA S (l,j) (.box (cur c2))) 3 gO gA gA;simp only[h3,dn,cu] at q3;have q4:=fun fr:List Ab.Obj=>ape hB 1 c3 (1+l) j (fr::bA S (l,j) (.box (cur c3))) gO gA;simp only[dn,cu] at q4;have hne:x.aj.map ah.enc≠[]:=fun e=>h0 (by rw[<-ab (f:=ah.enc),e];rfl);have ZH:=x.iP.1;rw[ah.aC] at ZH
 have qc:=fun(own:List Ab.Obj) (Ω:Store)=>bS.ownRow (f:=54) (args:=[x.v]) (bY:=own) (Ω:=Ω) (a:=x.aI) (z:=2) hne gK (by simpa [l8,xW] using ZH) (P:=prog) (fun n=>by
  have:=KX x n hx;rw[ah.aC] at this
  exact this)
 have hT:BO x 0 k c3=(.mk x.aI (x.aj.set k (yR 1 c3).1),(yR 1 c3).2):=if_pos rfl;rw[hT];obtain⟨y,hy⟩:∃y,y=(yR 1 c3).1:=⟨_,rfl⟩;obtain⟨c4,hc4⟩:∃c4,c4=(yR 1 c3).2:=⟨_,rfl⟩;simp only[<-hy,<-hc4] at q4 ⊢;refine nT [40] (rs:=[.cell 4 26]) zmx func17 ntmps17 rfl rfl rfl rfl rfl ?_;refine Mj ?_;refine bD rfl (q1 _) ?_;refine Mj ?_;refine bD rfl (qc _ _) ?_;refine W1 ?_;refine bD rfl (q2 _) ?_;refine W1 ?_;refine bD rfl (q3 _) ?_;refine W1 ?_;refine bD rfl (q4 _) ?_;refine W1 ?_;refine W3 ?_;refine⟨by cases l<;>rfl,?_⟩;refine W1 ?_
 first
 |done
 |(simp only[List.map_set,ah.aC,ah.aI,ah.aj,ah.v];done)
 |(simp only[List.map_set,ah.aC,ah.aI,ah.aj,ah.v];rfl)
theorem turn_2{bs:List Int}(hB:Bytes bs)(c c1 c2 c3:Cu bs)(k:Nat)(l j:Nat)(S:Store)(x:ah)(hk:bC S (l,j)=some (.box (cur c)))(hx:x.sz<=1048576)(h0:x.aj.length≠0)
 (h1:bZ 3 c=(true,c1))(h2:mJ x.aj.length c1=((k:Int),c2))(h3:aY 3 c2=(2,c3)):
 bS prog 17 [.c (.ptr (l,j) 0),x.v] S (fun r S1=>r=(BO x 2 k c3).1.v/\S1=bA S (l,j) (.box (cur (BO x 2 k c3).2))):=by
 have g:∀x:Ab.Obj,bC (bA S (l,j) x) (l,j)=some x:=fun x=>dA _ _ _ _ hk
 have hxl:x.aj.length<=1048576:=by rw[iM] at hx;omega
 have d0:decide (0<(x.aj.length:Int))=true:=decide_eq_true gA;have rk:=Fw (n:=x.aj.length) c1 gA;rw[h2] at rk;simp only at rk
 have hkl:k<x.aj.length:=gA
 have q1:=fun fr:List Ab.Obj=>iW hB c (1+l) j (fr::S) 3 (by rw[aW];exact hk) gA gA;simp only[h1,dn] at q1;have q2:=fun fr:List Ab.Obj=>I8 hB c1 (1+l) j (fr::bA S (l,j) (.box (cur c1))) x.aj.length gO gA gA;simp only[h2,dn,cu] at q2;have q3:=fun fr:List Ab.Obj=>eB hB c2 (1+l) j (fr::bA S (l,j) (.box (cur c2))) 3 gO gA gA;simp only[h3,dn,cu] at q3;have qc:=fun(own:List Ab.Obj)=>uK.push (pre:=[.d (.s x.aI)]) (post:=[]) rfl rfl (S':=own::bA S (l,j) (.box (cur c1))) rfl (afG x hx (own::bA S (l,j) (.box (cur c1))));have hT:BO x 2 k c3=(.mk x.aI (x.aj++[x.aj.getD k cZ]),c3):=rfl;rw[hT];simp only[KD,wu,ba,bc] at qc;refine nT [40] (rs:=[.cell 4 26]) zmx func17 ntmps17 rfl rfl rfl rfl rfl ?_;refine Mj ?_;refine bD rfl (q1 _) ?_;refine Mj ?_;refine bD rfl (qc _) ?_;refine W1 ?_;refine bD rfl (q2 _) ?_;refine W1 ?_;refine bD rfl (q3 _) ?_;refine W1 ?_;refine W3 ?_;refine⟨by cases l<;>rfl,?_⟩;refine W1 ?_
 have hg:x.aj.getD k cZ=x.aj[k]:=by rw[cz,am hkl];rfl
 rw[hg]
 first
 |done
 |(simp only[bw,af,aw,ah.aC,ah.aI,ah.aj,ah.v];done)
theorem xS2:(prog.info? 26).map (fun i=>i.size)=some 2:=by kernel_rfl
theorem lq{a:Act}{d:Nat}{v:Value}(h:d<a.tmps.size):(a.put (some d) v).eval (.tmp d)=v:=Ql h
theorem Pm{a:Act}{v:Value}{x:Operand}:(a.put none v).eval x=a.eval x:=rfl
theorem ZI{w:World}{g j b:Nat}{v:Value}(h:b≠g):(w.setCell ⟨g,j,none⟩ v).heap[b]? =w.heap[b]? :=by
 simp[World.setCell,db,Ne.symm h]
theorem aiH{w:World}{g j:Nat}{v:Value}{cur:Array Value}{t:TypeId}{fz:Nat×Nat}(h:w.heap[g]? =some (.cells cur t fz)):(w.setCell ⟨g,j,none⟩ v).heap[g]? =some (.cells (cur.setIfInBounds j v) t fz):=by
 simp[World.setCell,db,h]
theorem ame{w:World}{b:Nat}{cs:Array Value}{T:TypeId}(hb:w.heap[b]? =some (.cells cs T (0,0)))(j:Nat):w.frozen? ⟨b,j,none⟩=false:=by
 simp[World.frozen?,hb]
theorem jA{a:Act}{d t:Nat}{v:Value}(h:d≠t):(a.put (some d) v).eval (.tmp t)=a.eval (.tmp t):=vZ (by simpa using h)
theorem turn_1{bs:List Int}(hB:Bytes bs)(c c1 c2 c3:Cu bs)(k:Nat)(l j:Nat)(S:Store)(x:ah)(hk:bC S (l,j)=some (.box (cur c)))(hx:x.sz<=1048576)(h0:x.aj.length≠0)
 (h1:bZ 3 c=(true,c1))(h2:mJ x.aj.length c1=((k:Int),c2))(h3:aY 3 c2=(1,c3)):
 bS prog 17 [.c (.ptr (l,j) 0),x.v] S (fun r S1=>r=(BO x 1 k c3).1.v/\S1=bA S (l,j) (.box (cur (BO x 1 k c3).2))):=by
 have g:∀x:Ab.Obj,bC (bA S (l,j) x) (l,j)=some x:=fun x=>dA _ _ _ _ hk
 have hxl:x.aj.length<=1048576:=by rw[iM] at hx;omega
 have d0:decide (0<(x.aj.length:Int))=true:=decide_eq_true gA;have rk:=Fw (n:=x.aj.length) c1 gA;rw[h2] at rk;simp only at rk
 have hkl:k<x.aj.length:=gA
 have q1:=fun fr:List Ab.Obj=>iW hB c (1+l) j (fr::S) 3 (by rw[aW];exact hk) gA gA;simp only[h1,dn] at q1;have q2:=fun fr:List Ab.Obj=>I8 hB c1 (1+l) j (fr::bA S (l,j) (.box (cur c1))) x.aj.length gO gA gA;simp only[h2,dn,cu] at q2;have q3:=fun fr:List Ab.Obj=>eB hB c2 (1+l) j (fr::bA S (l,j) (.box (cur c2))) 3 gO gA gA;simp only[h3,dn,cu] at q3;have hne:x.aj.map ah.enc≠[]:=fun e=>h0 (by rw[<-ab (f:=ah.enc),e];rfl);have ZH:=x.iP.1;rw[ah.aC] at ZH
 have qc:=fun(own:List Ab.Obj) (Ω:Store)=>bS.ownRow (f:=54) (args:=[x.v]) (bY:=own) (Ω:=Ω) (a:=x.aI) (z:=2) hne gK (by simpa [l8,xW] using ZH) (P:=prog) (fun n=>by
  have:=KX x n hx;rw[ah.aC] at this
  exact this)
 have hT:BO x 1 k c3=(.mk x.aI (x.aj.eraseIdx k),c3):=rfl;rw[hT];refine al8 (rs:=[.cell 4 26]) zmx func17 ntmps17 rfl rfl rfl rfl rfl ?_;refine CP [40] zmx rfl ?_;refine W1 ?_;refine L6 ?_;refine CP [40] zmx rfl ?_;refine Mj ?_;refine bD rfl (q1 _) ?_;refine Mj ?_;refine aiD rfl ?_;refine CP [40] zmx rfl ?_;refine W1 ?_;refine bD rfl (qc _ _) ?_;refine W1 ?_;refine CP [40] zmx rfl ?_;refine W1 ?_;refine bD rfl (q2 _) ?_;refine W1 ?_;refine CP [40] zmx rfl ?_;refine W1 ?_;refine bD rfl (q3 _) ?_;refine W1 ?_;refine PD ?_;refine CP [40] zmx rfl ?_;refine W1 ?_;refine arq rfl ?_;refine CP [40] zmx rfl ?_;refine W1 ?_;refine aiD rfl ?_;refine ad8 (tm':=[(3,.c (.ptr (0,0) 0)),(4,.c (.ptr (0,1) 0)),(5,.c (.d (.i .i64 k)))]) ?_ (fun t=> ?_)
 rotate_left
 ·by_cases e3:t=3
  ·subst e3;exact .inl rfl
  by_cases e4:t=4
  ·subst e4;exact .inl rfl
  by_cases e5:t=5
  ·subst e5;exact .inl rfl
  exact .inr (show(if 3=t then _ else if 4=t then _ else if 5=t then _ else V.any)=V.any by rw[if_neg (Ne.symm e3),if_neg (Ne.symm e4),if_neg (Ne.symm e5)])
 intro a w σ β hR;obtain⟨b0,b,cap,Pk,cc,t0,ty,g0,g2,hb0,hb,hbb,hs0,hc1,hcap,hfit,hone,hfin⟩:=apg (k:=k) (by rw[ab];exact hkl) hR.S;rw[ab] at g2 hc1 hcap hone hfin
 have e3:a.eval (.tmp 3)=.pointer (some ⟨b0,0,none⟩):=by
  obtain⟨⟨o,ho,hl⟩,_⟩:=hR.T 3;cases ho;obtain⟨bb,h1,h2⟩:=hl _ rfl;rw[g0] at h1;cases h1;exact h2
 have e5:a.eval (.tmp 5)=.int .i64 k:=by
  obtain⟨h,_⟩:=hR.T 5;generalize hv:a.tmps.getD 5 undef=v at h;cases h;exact hv
 have hN:=hR.size;have hD:=hR.defers;have hTT:=hR.T;obtain⟨n,hn⟩:∃n,n=x.aj.length:=⟨_,rfl⟩;rw[<-hn] at g2 hc1 hcap hone hfin hkl hxl
 obtain⟨i,hi,hi2⟩:∃i,prog.info? 26=some i/\i.size=2:=by
  have h:=xS2
  cases hh:prog.info? 26 with
  |none=>rw[hh] at h;cases h
  |some i=>rw[hh] at h;exact⟨i,rfl,cL h⟩
 have hrun:=apf (P:=prog) (w:=w.drew) (t:=24) (ty:=24) underlying24 hi hi2 hb hkl hcap hfit hone;obtain⟨w1,hw1⟩:∃w1,w1=w.drew.setRow b (CQ cc k n):=⟨_,rfl⟩;obtain⟨wf,hwf⟩:∃wf,wf=w1.setCell ⟨b0,1,none⟩ (.slice (some ⟨b,0,none⟩) (n-1) cap):=⟨_,rfl⟩;rw[<-hw1] at hrun;obtain⟨W,AU,w1e,w3e⟩:∃W:Nat->World,W 0=w.drew/\W 1=w1/\W 3=wf:=⟨fun m=>if m=0 then w.drew else if m=1 then w1 else wf,rfl,rfl,rfl⟩;refine FD 55 [9,11] [[0],[0],[0],[0],[0],[0],[0],[0],[0],[0],[1],[1]] W zmx (by kernel_rfl) hN AU ?_
 have m1:(k:Int)<=(cap:Int):=gA
 have m2:¬cap<k:=gA
 have m3:(k:Int)+1<=(n:Int):=gA
 have m4:(0:Int)<=(k:Int)+1:=gA
 have m5:¬n<k+1:=gA
 have m6:IntKind.i64.wrap ((k:Int)+1)=(k:Int)+1:=IntWalk.i64_in _ gA
 have Ux:w1.heap[b0]? =some (.cells Pk t0 (0,0)):=by rw[hw1,gW _ _ _ _ (Ne.symm hbb)];exact hb0
 have r2:w1.cell? ⟨b0,1,none⟩=some (.slice (some ⟨b,0,none⟩) n cap):=by rw[cell_of Ux];exact hc1
 have r3:=ame Ux 1
 obtain⟨σ',z1,z2,z3⟩:=hfin wf (by rw[hwf,hw1];simp[World.setCell,World.setRow]) (by rw[hwf,hw1];rfl) (by rw[hwf,hw1];rfl)
  (fun y h1 h2=>by rw[hwf,ZI h2,hw1,gW _ _ _ _ h1];rfl)
  (by rw[hwf,ZI hbb,hw1];exact setRow_heap w.drew b cc _ ty (0,0) hb)
  (by rw[hwf];exact aiH Ux)
 rw[hn] at hkl;clear hfin hn hw1 Ux;have hwf':wf=w1.setCell ⟨b0,1,none⟩ (.slice (some ⟨b,0,none⟩) (n-1) cap):=hwf;clear hwf
 have r1:w.drew.cell? ⟨b0,1,none⟩=some (.slice (some ⟨b,0,none⟩) n cap):=by rw[cell_of (w:=w.drew) (off:=1) hb0];exact hc1
 refine dB.BN (.pointer (some ⟨b0,1,none⟩)) AU AU (nQ (by simp only[execOp,jA,lq,mQ,hN,ne_eq,Nat.reduceEqDiff,not_false_eq_true,Nat.reduceLT,e3,e5];go_simp)) ?_;refine dB.BN (.slice (some ⟨b,0,none⟩) n cap) AU AU (nQ (by simp only[execOp,jA,lq,mQ,hN,ne_eq,Nat.reduceEqDiff,not_false_eq_true,Nat.reduceLT,e3,e5];go_simp)) ?_;refine dB.BN (.int .i64 k) AU AU (nQ (by simp only[execOp,jA,lq,mQ,hN,ne_eq,Nat.reduceEqDiff,not_false_eq_true,Nat.reduceLT,e3,e5];go_simp)) ?_;refine dB.BN (.slice (some ⟨b,0,none⟩) k cap) AU AU (nQ (by simp only[execOp,jA,lq,mQ,hN,ne_eq,Nat.reduceEqDiff,not_false_eq_true,Nat.reduceLT,e3,e5];go_simp;try(intro h;omega))) ?_;refine dB.BN (.pointer (some ⟨b0,1,none⟩)) AU AU (nQ (by simp only[execOp,jA,lq,mQ,hN,ne_eq,Nat.reduceEqDiff,not_false_eq_true,Nat.reduceLT,e3,e5];go_simp)) ?_;refine dB.BN (.slice (some ⟨b,0,none⟩) n cap) AU AU (nQ (by simp only[execOp,jA,lq,mQ,hN,ne_eq,Nat.reduceEqDiff,not_false_eq_true,Nat.reduceLT,e3,e5];go_simp)) ?_;refine dB.BN (.int .i64 k) AU AU (nQ (by simp only[execOp,jA,lq,mQ,hN,ne_eq,Nat.reduceEqDiff,not_false_eq_true,Nat.reduceLT,e3,e5];go_simp)) ?_;refine dB.BN (.int .i64 (k+1)) AU AU (nQ (by simp only[execOp,jA,lq,mQ,hN,ne_eq,Nat.reduceEqDiff,not_false_eq_true,Nat.reduceLT,e3,e5];go_simp)) ?_;refine dB.BN (XC b k n cap) AU AU (nQ (by simp only[execOp,jA,lq,mQ,hN,ne_eq,Nat.reduceEqDiff,not_false_eq_true,Nat.reduceLT,e3,e5];go_simp;first|done|rfl|(rw[if_pos m3];rfl))) ?_;refine dB.BN (.slice (some ⟨b,0,none⟩) (n-1) cap) AU w1e (Dt rfl (by simp only[jA,lq,mQ,hN,ne_eq,Nat.reduceEqDiff,not_false_eq_true,Nat.reduceLT,e3,e5]) (by simp only[jA,lq,mQ,hN,ne_eq,Nat.reduceEqDiff,not_false_eq_true,Nat.reduceLT,e3,e5]) hrun) ?_;refine dB.BN (.pointer (some ⟨b0,1,none⟩)) w1e w1e (nQ (by simp only[execOp,jA,lq,mQ,hN,ne_eq,Nat.reduceEqDiff,not_false_eq_true,Nat.reduceLT,e3,e5];go_simp)) ?_;refine dB.BN undef w1e w3e (yQ (by simp only[execOp,jA,lq,mQ,hN,ne_eq,Nat.reduceEqDiff,not_false_eq_true,Nat.reduceLT,e3,e5];rw[hwf'];clear hwf';go_simp)) ?_;refine dB.done ?_;rw[show W (2^ [9,11].length-1)=wf from w3e];refine⟨⟨[(3,.c (.ptr (0,0) 0)),(4,.c (.ptr (0,1) 0))],_⟩,σ',β,⟨by simp only[mQ];exact hN,by simp only[put_defers];exact hD,z1,fun t=> ?_⟩,z3,Keep.refl _ _,?_⟩
 ·have ht:=(hTT.mono z3.near z2) t;by_cases e3':t=3
  ·subst e3';have he:∀(y:Act),y.tmps.getD 3 undef=y.eval (.tmp 3):=fun _=>rfl;rw[he];simp only[jA,ne_eq,Nat.reduceEqDiff,not_false_eq_true,Pm];exact ht
  by_cases e4':t=4
  ·subst e4';have he:∀(y:Act),y.tmps.getD 4 undef=y.eval (.tmp 4):=fun _=>rfl;rw[he];simp only[jA,ne_eq,Nat.reduceEqDiff,not_false_eq_true,Pm];exact ht
  show dR _ _ _ _ (if 3=t then _ else if 4=t then _ else V.any) _;rw[if_neg (Ne.symm e3'),if_neg (Ne.symm e4')];trivial
 refine W1 ?_;refine arp [40] zmx rfl ?_;refine W1 ?_;simp only[List.eraseIdx_eq_take_drop_succ,ah.v,ah.aI,ah.aj,bw,ee,dt]
theorem Nb{bs:List Int}(hB:Bytes bs)(c:Cu bs)(l j:Nat)(S:Store)(x:ah)(hk:bC S (l,j)=some (.box (cur c)))(hx:x.sz<=1048576):
 bS prog 17 [.c (.ptr (l,j) 0),x.v] S (fun r S1=>r=(Iw x c).1.v/\S1=bA S (l,j) (.box (cur (Iw x c).2))):=by
 have hxl:x.aj.length<=1048576:=by rw[iM] at hx;omega
 by_cases h0:x.aj.length=0
 ·have:=ac4 hB c l j S x hk hx (.inl h0);rw[if_pos h0] at this;rw[Iw,if_pos h0];exact this
 by_cases ho:(bZ 3 c).1=true
 ·rw[Iw,if_neg h0,if_pos ho];have r1:=Fw (n:=x.aj.length) (bZ 3 c).2 gA;have r2:=iF (n:=3) (mJ x.aj.length (bZ 3 c).2).2 gA;have hk1:mJ x.aj.length (bZ 3 c).2=(((mJ x.aj.length (bZ 3 c).2).1.toNat:Int),(mJ x.aj.length (bZ 3 c).2).2):=eR (by show _=_;simp only;omega) rfl;have ho1:bZ 3 c=(true,(bZ 3 c).2):=eR ho rfl
  have hm:(aY 3 (mJ x.aj.length (bZ 3 c).2).2).1=0\/(aY 3 (mJ x.aj.length (bZ 3 c).2).2).1=1\/(aY 3 (mJ x.aj.length (bZ 3 c).2).2).1=2:=gA
  rcases hm with hm|hm|hm
  ·rw[hm];exact turn_0 hB c _ _ _ _ l j S x hk hx h0 ho1 hk1 (eR hm rfl)
  ·rw[hm];exact turn_1 hB c _ _ _ _ l j S x hk hx h0 ho1 hk1 (eR hm rfl)
  ·rw[hm];exact turn_2 hB c _ _ _ _ l j S x hk hx h0 ho1 hk1 (eR hm rfl)
 ·have ho':(bZ 3 c).1=false:=by cases h:(bZ 3 c).1<;>simp_all
  have:=ac4 hB c l j S x hk hx (.inr ho');rw[if_neg h0] at this;rw[Iw,if_neg h0,if_neg ho];exact this
def Iy:List (List UInt8):=[[120],[121]]
theorem Qo:fO Iy:=by unfold fO;decide
def ifL:List (List UInt8):=[[],[105,102]]
theorem amf:fO ifL:=by unfold fO;decide
def uR(t:List UInt8):au:=.mk 5 t [109] 0 zT [zC [120]] []
def zO:bQ:=⟨[115,104,111,119],su [97]⟩
def EH:dz:=⟨[120],su [97]⟩
def Iz{bs:List Int}(s:List UInt8)(k:Int)(c:Cu bs):aV×Cu bs:=
 if k=0 then(⟨s,[[97]],[zO],[EH],(uL 2 c).1,uR [115,104,111,119]⟩,(uL 2 c).2) else
 if k=1 then(⟨s,[[97]],[zO],[EH,⟨(cK Iy c).1,wK⟩],wK,uR [115,104,111,119]⟩,(cK Iy c).2) else
 if k=2 then(⟨s,[[97]],[zO],[EH],wK,(iX 3 Iy c).1⟩,(iX 3 Iy c).2) else
 if k=3 then(⟨s,[[97]],[⟨[115,104,111,119],(uL 1 c).1⟩],[EH],wK,uR [115,104,111,119]⟩,(uL 1 c).2) else
 if k=4 then(⟨(cK ifL c).1,[[97]],[zO],[EH],wK,uR [115,104,111,119]⟩,(cK ifL c).2) else
 (⟨s,[[97]],[zO],[EH],wK,uR [115,104,111,119]⟩,c)
def SG{bs:List Int}(c:Cu bs):aV×Cu bs:=Iz (cK Ay c).1 (aY 10 (cK Ay c).2).1 (aY 10 (cK Ay c).2).2
def oI:List (List UInt8):=[[115,104,111,119],[101,113],[97,100,100]]
theorem ZJ:fO oI:=by unfold fO;decide
def afI:List (List UInt8):=[[],[105,110,116],[65]]
theorem aiI:fO afI:=by unfold fO;decide
def sbL:List (List UInt8):=[[115,101,108,102],[98]]
theorem amg:fO sbL:=by unfold fO;decide
def zE:au:=.mk 0 [] [] 0 zT [] []
def Jf(t:ak)(b:Bool):bg:=⟨[109],[],t,b,[],zE⟩
def Uy(s:List UInt8):bg:=⟨[116,119,105,99,101],[su [115,101,108,102]],wK,true,Iy,sS 10 [43] [uR s,nP 1]⟩
def nW{bs:List Int}(s:List UInt8)(b:Bool)(m:List bg)(p:List (List UInt8))(k:Int)(c:Cu bs):bI×Cu bs:=
 if k=0 then(⟨s,p,true,b,Jf wK false::m⟩,c) else
 if k=1 then(⟨(cK afI c).1,p,false,b,Jf wK false::m⟩,(cK afI c).2) else
 if k=2 then(⟨s,p,false,b,Jf (su (cK sbL c).1) false::m⟩,(cK sbL c).2) else
 if k=3 then(⟨s,p,false,b,Jf wK true::m⟩,c) else
 if k=4 then(⟨s,p++[[111,114,100]],false,b,Jf wK false::m⟩,c) else
 if k=5 then(⟨s,p,false,b,Jf wK false::m++[Jf wK false]⟩,c) else
 (⟨s,p,false,b,Jf wK false::m⟩,c)
theorem rR(s:List UInt8):bX (encS s)=s.length:=by simp[encS,bX,D.sz]
theorem uS(t:List UInt8)(y:ak):bX (bQ.mk t y).enc=t.length+y.sz:=by
 simp only[bQ.aC,bX,bT,D.sz,ak.dY];omega
theorem AV(t:List UInt8)(y:ak):bX (dz.mk t y).enc=t.length+y.sz:=by
 simp only[dz.aC,bX,bT,D.sz,ak.dY];omega
theorem CR(s:List UInt8)(v:List (List UInt8))(w:List bQ)(p:List dz)(r:ak)(b:au):
 (aV.mk s v w p r b).sz=s.length+(v.length+aS (v.map encS))+(w.length+aS (w.map bQ.enc))+(p.length+aS (p.map dz.enc))+r.sz+b.sz:=by
 simp only[aV.sz,aV.aC,bX,bT,D.sz,ab,ak.dY,au.dY];omega
theorem aph(s:List UInt8):(zC s).sz=s.length:=by rw[zC,pV,sw];simp[aS]
theorem Uz(n:Int):(nP n).sz=0:=by rw[nP,pV,sw];simp[aS]
theorem CS(t:List UInt8):(uR t).sz=t.length+3:=by
 rw[uR,pV,sw];simp only[af,aw,aS,au.dY,aph,aa,al]
theorem xL:wK.sz=3:=by rw[wK,Uq];rfl
theorem aru{bs:List Int}(c:Cu bs):(SG c).1.sz<=2000:=by
 unfold SG;have h0:=iA c Y5;generalize (cK Ay c).1=s at h0;generalize (aY 10 (cK Ay c).2).1=k;generalize (aY 10 (cK Ay c).2).2=c1;have h1:=iA c1 Qo;have h2:=iA c1 amf;have h3:=GD 2 c1;have h4:=GD 1 c1;have h5:=P5 3 Iy c1 Qo;unfold Iz;split
 ·simp only[CR,af,aw,aS,rR,zO,EH,uS,AV,rX,CS,aa,al];omega
 split
 ·simp only[CR,af,aw,aS,rR,zO,EH,uS,AV,rX,xL,CS,aa,al];omega
 split
 ·simp only[CR,af,aw,aS,rR,zO,EH,uS,AV,rX,xL,aa,al];omega
 split
 ·simp only[CR,af,aw,aS,rR,EH,uS,AV,rX,xL,CS,aa,al];omega
 split
 ·simp only[CR,af,aw,aS,rR,zO,EH,uS,AV,rX,xL,CS,aa,al];omega
 ·simp only[CR,af,aw,aS,rR,zO,EH,uS,AV,rX,xL,CS,aa,al];omega
theorem l13Fn_3{bs:List Int}(hB:Bytes bs)(c c1 c2:Cu bs)(s:List UInt8)(l j:Nat)(S:Store)(hk:bC S (l,j)=some (.box (cur c)))(h1:cK Ay c=(s,c1))(h2:aY 10 c1=(3,c2)):
 bS prog 50 [.c (.ptr (l,j) 0)] S (fun r S1=>r=(Iz s 3 c2).1.v/\S1=bA S (l,j) (.box (cur (Iz s 3 c2).2))):=by
 have g:∀x:Ab.Obj,bC (bA S (l,j) x) (l,j)=some x:=fun x=>dA _ _ _ _ hk;have q1:=fun fr:List Ab.Obj=>gB hB c (1+l) j (fr::S) Ay (by rw[aW];exact hk) gE gE;simp only[h1,dn] at q1;have q2:=fun fr:List Ab.Obj=>eB hB c1 (1+l) j (fr::bA S (l,j) (.box (cur c1))) 10 gO gA gA;simp only[h2,dn,cu] at q2;have q3:=fun fr:List Ab.Obj=>D5 hB 1 c2 (1+l) j (fr::bA S (l,j) (.box (cur c2))) gO gA;simp only[dn,cu] at q3;obtain⟨q,hq⟩:∃q,q=Iz s 3 c2:=⟨_,rfl⟩;rw[<-hq];simp only[Iz,reduceIte,Int.reduceEq] at hq;refine bS.of_le ?_;refine FE [40] (rs:=[.cell 2 85]) zmx func50 ntmps50 rfl rfl rfl rfl rfl ?_;refine W1 ?_;refine dX [true] rfl (q1 _) ?_;refine W1 ?_;refine C1 (iB _) ?_;refine C1 (iB _) ?_;refine bn tK ?_;refine W1 ?_;refine C1 (yD _) ?_;refine W3 ?_;refine bD rfl (q2 _) ?_;refine W1 ?_;refine bD rfl (q3 _) ?_;refine W1 ?_;refine W3 ?_;refine⟨by cases l<;>rfl,?_⟩;refine W1 ?_;rw[hq];exact lend
theorem apj{bs:List Int}(hB:Bytes bs)(c c1 c2:Cu bs)(s:List UInt8)(k:Int)(l j:Nat)(S:Store)(hk:bC S (l,j)=some (.box (cur c)))(h1:cK Ay c=(s,c1))(h2:aY 10 c1=(k,c2))(hk3:k≠3):
 bS prog 50 [.c (.ptr (l,j) 0)] S (fun r S1=>r=(Iz s k c2).1.v/\S1=bA S (l,j) (.box (cur (Iz s k c2).2))):=by
 have g:∀x:Ab.Obj,bC (bA S (l,j) x) (l,j)=some x:=fun x=>dA _ _ _ _ hk;have q1:=fun fr:List Ab.Obj=>gB hB c (1+l) j (fr::S) Ay (by rw[aW];exact hk) gE gE;simp only[h1,dn] at q1;have q2:=fun fr:List Ab.Obj=>eB hB c1 (1+l) j (fr::bA S (l,j) (.box (cur c1))) 10 gO gA gA;simp only[h2,dn,cu] at q2;obtain⟨q,hq⟩:∃q,q=Iz s k c2:=⟨_,rfl⟩;rw[<-hq];refine bS.of_le ?_;refine nT [40] (rs:=[.cell 2 85]) zmx func50 ntmps50 rfl rfl rfl rfl rfl ?_;refine W1 ?_;refine dX [true] rfl (q1 _) ?_;refine W1 ?_;refine C1 (iB _) ?_;refine C1 (iB _) ?_;refine bn tK ?_;refine W1 ?_;refine C1 (yD _) ?_;refine W3 ?_;refine bD rfl (q2 _) ?_;refine W1 ?_;refine S0 (fun hb h=>?_) fun hb h=>?_
 ·subst h;simp only[Iz,reduceIte,Int.reduceEq] at hq;refine bD rfl (D5 hB 2 c2 (1+l) j _ gO gA) ?_;refine W1 ?_;rw[hq];exact lend
 have e0:=h;refine S0 (fun hb h=>?_) fun hb h=>?_
 ·subst h;simp only[Iz,reduceIte,Int.reduceEq] at hq;refine dX [true] rfl (gB hB c2 (1+l) j _ Iy gO gE gE) ?_;refine W1 ?_;refine bn tK ?_;refine W1 ?_;refine W3 ?_;refine⟨by cases l<;>rfl,?_⟩;refine W1 ?_;rw[hq];exact lend
 have e1:=h;refine S0 (fun hb h=>?_) fun hb h=>?_
 ·subst h;simp only[Iz,reduceIte,Int.reduceEq] at hq;refine dX [true] rfl (xI (O0 hB 3 Iy c2 (1+l) j _ gE gO)) ?_;refine W1 ?_;rw[hq];exact lend
 have e2:=h;refine S0 (fun hb h=>?_) fun hb h=>?_
 ·exact absurd h hk3
 refine S0 (fun hb h=>?_) fun hb h=>?_
 ·subst h;simp only[Iz,reduceIte,Int.reduceEq] at hq;refine dX [true] rfl (gB hB c2 (1+l) j _ ifL gO gE gE) ?_;refine W1 ?_;rw[hq];exact lend
 have e4:=h;simp only[Iz,if_neg e0,if_neg e1,if_neg e2,if_neg hk3,if_neg e4] at hq;rw[hq];exact lend
theorem amh{bs:List Int}(hB:Bytes bs)(c:Cu bs)(l j:Nat)(S:Store)(hk:bC S (l,j)=some (.box (cur c))):
 bS prog 50 [.c (.ptr (l,j) 0)] S (fun r S1=>r=(SG c).1.v/\S1=bA S (l,j) (.box (cur (SG c).2))):=by
 unfold SG;by_cases h3:(aY 10 (cK Ay c).2).1=3
 ·rw[h3];exact l13Fn_3 hB c _ _ _ l j S hk rfl (eR h3 rfl)
 ·exact apj hB c _ _ _ _ l j S hk rfl rfl h3
theorem VW(s:List UInt8)(p:List ak)(r:ak)(d:Bool)(v:List (List UInt8))(b:au):bX (bg.mk s p r d v b).enc=s.length+(p.length+aS (p.map ak.enc))+r.sz+(v.length+aS (v.map encS))+b.sz:=by
 simp only[bg.aC,bX,bT,D.sz,ab,ak.dY,au.dY];omega
theorem Pn(s:List UInt8)(p:List (List UInt8))(a b:Bool)(m:List bg):(bI.mk s p a b m).sz=s.length+(p.length+aS (p.map encS))+(m.length+aS (m.map bg.enc)):=by
 simp only[bI.sz,bI.aC,bX,bT,D.sz,ab];omega
def qQ(b:Bool)(s:List UInt8):List bg:=match b with
 |true=>[Uy s]
 |false=>[]
def rT(b:Bool):List (List UInt8):=match b with
 |true=>[[111,114,100]]
 |false=>[]
def BP{bs:List Int}(c:Cu bs):bI×Cu bs:=
 nW (cK oI c).1 (bZ 3 (cK oI c).2).1 (qQ (bZ 2 (bZ 3 (cK oI c).2).2).1 (cK oI c).1) (rT (bZ 3 (bZ 2 (bZ 3 (cK oI c).2).2).2).1)
  (aY 12 (bZ 3 (bZ 2 (bZ 3 (cK oI c).2).2).2).2).1 (aY 12 (bZ 3 (bZ 2 (bZ 3 (cK oI c).2).2).2).2).2
theorem ac5(t:ak)(b:Bool):bX (Jf t b).enc=t.sz+1:=by
 have hz:zE.sz=0:=by rw[zE,pV,sw];simp[aS]
 rw[Jf,VW,hz];simp only[aw,aS,al,aa];omega
theorem apk(s:List UInt8):bX (Uy s).enc<=s.length+24:=by
 rw[Uy,VW,sS,pV,sw];simp only[Iy,af,aw,aS,rR,ak.dY,au.dY,rX,xL,CS,Uz,al,aa];omega
theorem apl(b:Bool)(s:List UInt8):(qQ b s).length<=1/\aS ((qQ b s).map bg.enc)<=s.length+24:=by
 cases b with
 |false=>exact⟨an _,an _⟩
 |true=>exact⟨ax _,by have:=apk s;simp only[qQ,af,aw,aS];omega⟩
theorem apm(b:Bool):(rT b).length<=1/\aS ((rT b).map encS)<=3:=by
 cases b with
 |false=>exact⟨an _,an _⟩
 |true=>exact⟨ax _,ax _⟩
theorem aiK{bs:List Int}(c:Cu bs):(BP c).1.sz<=300:=by
 unfold BP;have h0:=iA c ZJ;generalize (cK oI c).1=s at h0;have h1:=apl (bZ 2 (bZ 3 (cK oI c).2).2).1 s;have h2:=apm (bZ 3 (bZ 2 (bZ 3 (cK oI c).2).2).2).1;generalize qQ (bZ 2 (bZ 3 (cK oI c).2).2).1 s=m at h1;generalize rT (bZ 3 (bZ 2 (bZ 3 (cK oI c).2).2).2).1=p at h2;generalize (bZ 3 (cK oI c).2).1=b;generalize (aY 12 (bZ 3 (bZ 2 (bZ 3 (cK oI c).2).2).2).2).1=k;generalize (aY 12 (bZ 3 (bZ 2 (bZ 3 (cK oI c).2).2).2).2).2=c1;have h3:=iA c1 aiI;have h4:=iA c1 amg;unfold nW
 iterate 6
  split
  ·simp only[Pn,af,aw,bw,aS,wB,rR,ac5,rX,xL,aa,al,ae];omega
 simp only[Pn,af,aw,aS,ac5,xL,aa,al];omega
theorem afJ{bs:List Int}(hB:Bytes bs)(c c1 c2 c3 c4 c5:Cu bs)(s:List UInt8)(b o p:Bool)(k:Int)(l j:Nat)(S:Store)(hk:bC S (l,j)=some (.box (cur c)))(h1:cK oI c=(s,c1))(h2:bZ 3 c1=(b,c2))(h3:bZ 2 c2=(o,c3))(h4:bZ 3 c3=(p,c4))(h5:aY 12 c4=(k,c5))(ho1:o=true)(ami:k=2\/k=3):
 bS prog 47 [.c (.ptr (l,j) 0)] S (fun r S1=>r=(nW s b (qQ o s) (rT p) k c5).1.v/\S1=bA S (l,j) (.box (cur (nW s b (qQ o s) (rT p) k c5).2))):=by
 have g:∀x:Ab.Obj,bC (bA S (l,j) x) (l,j)=some x:=fun x=>dA _ _ _ _ hk;have q1:=fun fr:List Ab.Obj=>gB hB c (1+l) j (fr::S) oI (by rw[aW];exact hk) gE gE;simp only[h1,dn] at q1;have q2:=fun fr:List Ab.Obj=>iW hB c1 (1+l) j (fr::bA S (l,j) (.box (cur c1))) 3 gO gA gA;simp only[h2,dn,cu] at q2;have q3:=fun fr:List Ab.Obj=>iW hB c2 (1+l) j (fr::bA S (l,j) (.box (cur c2))) 2 gO gA gA;simp only[h3,dn,cu] at q3;have q4:=fun fr:List Ab.Obj=>iW hB c3 (1+l) j (fr::bA S (l,j) (.box (cur c3))) 3 gO gA gA;simp only[h4,dn,cu] at q4;have q5:=fun fr:List Ab.Obj=>eB hB c4 (1+l) j (fr::bA S (l,j) (.box (cur c4))) 12 gO gA gA;simp only[h5,dn,cu] at q5;have qo:∀es:List (List D),es=[uR s,nP 1].map au.enc->aD prog 117 [.c (.d (.i .i64 10)),.c (.d (.s [43])),.c (.d (.sl es))] (sS 10 [43] [uR s,nP 1]).v:=fun es he S=>xI (Im 10 [43] [uR s,nP 1] he gL (.inl rfl) S)
 have ho:(qQ o s)=(if o=true then [Uy s] else []):=by cases o<;>rfl
 have hp:(rT p)=(if p=true then [[111,114,100]] else []):=by cases p<;>rfl
 obtain⟨q,hq⟩:∃q,q=nW s b (qQ o s) (rT p) k c5:=⟨_,rfl⟩;rw[<-hq];refine bS.of_le ?_;refine afE [40] (rs:=[.cell 2 65]) zmx func47 ntmps47 rfl rfl rfl rfl rfl ?_;refine W1 ?_;refine C1 (iB _) ?_;refine dX [true] rfl (q1 _) ?_;refine W1 ?_;refine bD rfl (q2 _) ?_;refine W1 ?_;refine bn tK ?_;refine W1 ?_;refine W3 ?_;refine bD rfl (q3 _) ?_;subst ho1;refine W1 ?_;refine bn tK ?_;refine W1 ?_;refine C1 (yD _) ?_;refine C1 (uM _) ?_;refine C1 (qo _ rfl) ?_;refine W3 ?_;refine⟨by cases l<;>rfl,?_⟩;refine W1 ?_;refine bD rfl (q4 _) ?_;rcases p with _|_
 all_goals
  refine W1 ?_;refine bD rfl (q5 _) ?_;rcases ami with rfl|rfl
  ·simp only[nW,qQ,rT,reduceIte,Int.reduceEq] at hq;refine W1 ?_;refine dX [true] rfl (gB hB c5 (1+l) j _ sbL gO gE gE) ?_;refine W1 ?_;refine C1 (iB _) ?_;refine W3 ?_;refine⟨by cases l<;>rfl,?_⟩;refine W1 ?_;rw[hq];exact lend
  ·simp only[nW,qQ,rT,reduceIte,Int.reduceEq] at hq;refine W1 ?_;refine W3 ?_;rw[hq];exact lend
theorem afK{bs:List Int}(hB:Bytes bs)(c c1 c2 c3 c4 c5:Cu bs)(s:List UInt8)(b o p:Bool)(k:Int)(l j:Nat)(S:Store)(hk:bC S (l,j)=some (.box (cur c)))(h1:cK oI c=(s,c1))(h2:bZ 3 c1=(b,c2))(h3:bZ 2 c2=(o,c3))(h4:bZ 3 c3=(p,c4))(h5:aY 12 c4=(k,c5))(ho1:o=false)(ami:k=2\/k=3):
 bS prog 47 [.c (.ptr (l,j) 0)] S (fun r S1=>r=(nW s b (qQ o s) (rT p) k c5).1.v/\S1=bA S (l,j) (.box (cur (nW s b (qQ o s) (rT p) k c5).2))):=by
 have g:∀x:Ab.Obj,bC (bA S (l,j) x) (l,j)=some x:=fun x=>dA _ _ _ _ hk;have q1:=fun fr:List Ab.Obj=>gB hB c (1+l) j (fr::S) oI (by rw[aW];exact hk) gE gE;simp only[h1,dn] at q1;have q2:=fun fr:List Ab.Obj=>iW hB c1 (1+l) j (fr::bA S (l,j) (.box (cur c1))) 3 gO gA gA;simp only[h2,dn,cu] at q2;have q3:=fun fr:List Ab.Obj=>iW hB c2 (1+l) j (fr::bA S (l,j) (.box (cur c2))) 2 gO gA gA;simp only[h3,dn,cu] at q3;have q4:=fun fr:List Ab.Obj=>iW hB c3 (1+l) j (fr::bA S (l,j) (.box (cur c3))) 3 gO gA gA;simp only[h4,dn,cu] at q4;have q5:=fun fr:List Ab.Obj=>eB hB c4 (1+l) j (fr::bA S (l,j) (.box (cur c4))) 12 gO gA gA;simp only[h5,dn,cu] at q5;have qo:∀es:List (List D),es=[uR s,nP 1].map au.enc->aD prog 117 [.c (.d (.i .i64 10)),.c (.d (.s [43])),.c (.d (.sl es))] (sS 10 [43] [uR s,nP 1]).v:=fun es he S=>xI (Im 10 [43] [uR s,nP 1] he gL (.inl rfl) S)
 have ho:(qQ o s)=(if o=true then [Uy s] else []):=by cases o<;>rfl
 have hp:(rT p)=(if p=true then [[111,114,100]] else []):=by cases p<;>rfl
 obtain⟨q,hq⟩:∃q,q=nW s b (qQ o s) (rT p) k c5:=⟨_,rfl⟩;rw[<-hq];refine bS.of_le ?_;refine FE [40] (rs:=[.cell 2 65]) zmx func47 ntmps47 rfl rfl rfl rfl rfl ?_;refine W1 ?_;refine C1 (iB _) ?_;refine dX [true] rfl (q1 _) ?_;refine W1 ?_;refine bD rfl (q2 _) ?_;refine W1 ?_;refine bn tK ?_;refine W1 ?_;refine W3 ?_;refine bD rfl (q3 _) ?_;subst ho1;refine W1 ?_;refine bD rfl (q4 _) ?_;rcases p with _|_
 all_goals
  refine W1 ?_;refine bD rfl (q5 _) ?_;rcases ami with rfl|rfl
  ·simp only[nW,qQ,rT,reduceIte,Int.reduceEq] at hq;refine W1 ?_;refine dX [true] rfl (gB hB c5 (1+l) j _ sbL gO gE gE) ?_;refine W1 ?_;refine C1 (iB _) ?_;refine W3 ?_;refine⟨by cases l<;>rfl,?_⟩;refine W1 ?_;rw[hq];exact lend
  ·simp only[nW,qQ,rT,reduceIte,Int.reduceEq] at hq;refine W1 ?_;refine W3 ?_;rw[hq];exact lend
theorem afL{bs:List Int}(hB:Bytes bs)(c c1 c2 c3 c4 c5:Cu bs)(s:List UInt8)(b o p:Bool)(k:Int)(l j:Nat)(S:Store)(hk:bC S (l,j)=some (.box (cur c)))(h1:cK oI c=(s,c1))(h2:bZ 3 c1=(b,c2))(h3:bZ 2 c2=(o,c3))(h4:bZ 3 c3=(p,c4))(h5:aY 12 c4=(k,c5))(hk2:k≠2)(hk3:k≠3):
 bS prog 47 [.c (.ptr (l,j) 0)] S (fun r S1=>r=(nW s b (qQ o s) (rT p) k c5).1.v/\S1=bA S (l,j) (.box (cur (nW s b (qQ o s) (rT p) k c5).2))):=by
 have g:∀x:Ab.Obj,bC (bA S (l,j) x) (l,j)=some x:=fun x=>dA _ _ _ _ hk;have q1:=fun fr:List Ab.Obj=>gB hB c (1+l) j (fr::S) oI (by rw[aW];exact hk) gE gE;simp only[h1,dn] at q1;have q2:=fun fr:List Ab.Obj=>iW hB c1 (1+l) j (fr::bA S (l,j) (.box (cur c1))) 3 gO gA gA;simp only[h2,dn,cu] at q2;have q3:=fun fr:List Ab.Obj=>iW hB c2 (1+l) j (fr::bA S (l,j) (.box (cur c2))) 2 gO gA gA;simp only[h3,dn,cu] at q3;have q4:=fun fr:List Ab.Obj=>iW hB c3 (1+l) j (fr::bA S (l,j) (.box (cur c3))) 3 gO gA gA;simp only[h4,dn,cu] at q4;have q5:=fun fr:List Ab.Obj=>eB hB c4 (1+l) j (fr::bA S (l,j) (.box (cur c4))) 12 gO gA gA;simp only[h5,dn,cu] at q5;have qo:∀es:List (List D),es=[uR s,nP 1].map au.enc->aD prog 117 [.c (.d (.i .i64 10)),.c (.d (.s [43])),.c (.d (.sl es))] (sS 10 [43] [uR s,nP 1]).v:=fun es he S=>xI (Im 10 [43] [uR s,nP 1] he gL (.inl rfl) S)
 have ho:(qQ o s)=(if o=true then [Uy s] else []):=by cases o<;>rfl
 have hp:(rT p)=(if p=true then [[111,114,100]] else []):=by cases p<;>rfl
 obtain⟨q,hq⟩:∃q,q=nW s b (qQ o s) (rT p) k c5:=⟨_,rfl⟩;rw[<-hq];refine bS.of_le ?_;refine nT [40] (rs:=[.cell 2 65]) zmx func47 ntmps47 rfl rfl rfl rfl rfl ?_;refine W1 ?_;refine C1 (iB _) ?_;refine dX [true] rfl (q1 _) ?_;refine W1 ?_;refine bD rfl (q2 _) ?_;refine W1 ?_;refine bn tK ?_;refine W1 ?_;refine W3 ?_;refine bD rfl (q3 _) ?_;rcases o with _|_
 all_goals
  refine W1 ?_
  first
  |(refine bn tK ?_
    refine W1 ?_;refine C1 (yD _) ?_;refine C1 (uM _) ?_;refine C1 (qo _ rfl) ?_;refine W3 ?_;refine⟨by cases l<;>rfl,?_⟩
    refine W1 ?_)
  |skip
 all_goals refine bD rfl (q4 _) ?_
 all_goals
  rcases p with _|_
  all_goals
   refine W1 ?_;refine bD rfl (q5 _) ?_;refine W1 ?_;refine S0 (fun hb h=>?_) fun hb h=>?_
   ·subst h;simp only[nW,qQ,rT,reduceIte,Int.reduceEq] at hq
    try(simp -implicitDefEqProofs (disch:=omega) only[go_sem])
    rw[hq];exact lend
   have e0:=h;refine S0 (fun hb h=>?_) fun hb h=>?_
   ·subst h;simp only[nW,qQ,rT,reduceIte,Int.reduceEq] at hq;refine dX [true] rfl (gB hB c5 (1+l) j _ afI gO gE gE) ?_;refine W1 ?_;rw[hq];exact lend
   have e1:=h;refine S0 (fun hb h=>?_) fun hb h=>?_
   ·exact absurd h hk2
   refine S0 (fun hb h=>?_) fun hb h=>?_
   ·exact absurd h hk3
   refine S0 (fun hb h=>?_) fun hb h=>?_
   ·subst h;simp only[nW,qQ,rT,reduceIte,Int.reduceEq] at hq;refine W3 ?_
    try(simp -implicitDefEqProofs (disch:=omega) only[go_sem])
    rw[hq];exact lend
   have e4:=h
   with_reducible refine qJ (fun hb=> ?_) (fun hb=> ?_)<;>have h:=hb<;>(try simp only[wf_preprocess] at h)<;>simp -implicitDefEqProofs (disch:=omega) only[go_sem,hb,fb,eL,cE,List.take_nil]<;>refine W3 ?_
   ·subst h;simp only[nW,qQ,rT,reduceIte,Int.reduceEq] at hq;refine W3 ?_
    try(refine⟨fun y hy=>(by rw[ej] at hy;subst hy;rfl),?_⟩;(repeat(with_reducible refine And.intro ?_ ?_;focus first|omega|rfl|assumption|exact⟨_,rfl,rfl⟩|(simp;omega)|(simp;done))))
    refine W3 ?_;refine⟨by cases l<;>rfl,?_⟩;refine W1 ?_;rw[hq];exact lend
   have e5:=h;simp only[nW,qQ,rT,if_neg e0,if_neg e1,if_neg hk2,if_neg hk3,if_neg e4,if_neg e5] at hq;rw[hq];exact lend
theorem abW{bs:List Int}(hB:Bytes bs)(c:Cu bs)(l j:Nat)(S:Store)(hk:bC S (l,j)=some (.box (cur c))):
 bS prog 47 [.c (.ptr (l,j) 0)] S (fun r S1=>r=(BP c).1.v/\S1=bA S (l,j) (.box (cur (BP c).2))):=by
 unfold BP;generalize hk0:(aY 12 (bZ 3 (bZ 2 (bZ 3 (cK oI c).2).2).2).2).1=k;generalize ho0:(bZ 2 (bZ 3 (cK oI c).2).2).1=o;by_cases h23:k=2\/k=3
 ·cases o with
  |true=>exact afJ hB c _ _ _ _ _ _ _ _ _ _ l j S hk rfl rfl (eR ho0 rfl) rfl (eR hk0 rfl) rfl h23
  |false=>exact afK hB c _ _ _ _ _ _ _ _ _ _ l j S hk rfl rfl (eR ho0 rfl) rfl (eR hk0 rfl) rfl h23
 ·exact afL hB c _ _ _ _ _ _ _ _ _ _ l j S hk rfl rfl (eR ho0 rfl) rfl (eR hk0 rfl) (fun e=>h23 (.inl e)) (fun e=>h23 (.inr e))
end Go.Ab