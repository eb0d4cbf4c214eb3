/-
  SEVERAL TEXTS IN ONE (merged by program): contracts and models, each with its own heading.
-/
import Derived.Test.YtnceiannponbjaaGreatDoorPartDlbF
import Derived.Test.YtnceiannponbjaaGreatDoorPartDlbP
import Derived.Test.YtnceiannponbjaaGreatDoorPartDlbR
open Go.Proofs Go.Proofs.Tryz
set_option linter.unusedSimpArgs false
set_option linter.unusedVariables false
set_option maxRecDepth 4000
set_option maxRecDepth 100000
set_option maxRecDepth 8000
namespace Go.Ab
def aip(h b:Int):Int:=Bt .i64 (IntKind.i64.wrap (IntKind.i64.wrap (IntKind.i64.wrap (h*131)+b)+7)) 1073741823
def Gw:List Int->Int->Int
 |[],h=>h
 |b::r,h=>Gw r (aip h b)
def sP(bs:List Int):Cu bs:=⟨0,Gw (bs.take 4000) (28803+bs.length),Int.le_refl _,by omega⟩
theorem W9{es:List (List D)}(h:∀y∈es,∃x,y=[.i .u8 x]/\(Lit.int .u8 x).wf=true):∃xs:List Int,es=xs.map yN/\∀x∈xs,0<=x/\x<=255:=by
 induction es with
 |nil=>exact⟨[],rfl,fun x h=>by cases h⟩
 |cons y es ih=>
  obtain⟨x,rfl,hx⟩:=h y List.mem_cons_self;obtain⟨xs,rfl,hxs⟩:=ih fun z hz=>h z (List.mem_cons_of_mem _ hz);refine⟨x::xs,rfl,fun z hz=> ?_⟩;rcases List.mem_cons.1 hz with rfl|hz
  ·have h1:IntKind.u8.min=0:=by decide
   have h2:IntKind.u8.max=255:=by decide
   simp only[Lit.wf,Bool.and_eq_true,decide_eq_true_eq,h1,h2] at hx;exact hx
  ·exact hxs z hz
theorem QO{bs:List Int}(hB:Bytes bs)(bD:List Ab.Obj)(Ω:Store):bJ prog 33 [.c (.d (.sl (bs.map yN)))] (bD::Ω) (fun r S'=>r=.c (.ptr (0,bD.length) 0)/\S'=(bD++[.box (cur (sP bs))])::Ω):=by
 have hl:=hB.len;refine EO (rs:=[.tmp 2]) zmx func33 ntmps33 rfl rfl rfl rfl rfl ?_;simp -implicitDefEqProofs (disch:=omega) only[go_sem]
 refine bF (ι:=Nat×Int) zmx rfl [0,3,4] (fun y=>[.c (.d (.sl (bs.map yN))),.c (.d (.i .i64 y.2)),.c (.d (.i .i64 y.1))]) (fun _=>[]::bD::Ω)
  (fun y=>y.1<=bs.length/\y.1<=4000/\Gw ((bs.take 4000).drop y.1) y.2=Gw (bs.take 4000) (28803+bs.length)) (fun y=>bs.length-y.1) (0,28803+bs.length) rfl rfl ⟨Nat.zero_le _,Nat.zero_le _,by rw[List.drop_zero]⟩ ?_
 rintro⟨i,q⟩ ⟨p1,p2,p3⟩;simp only at p1 p2 p3;simp -implicitDefEqProofs (disch:=omega) only[go_sem]
 have fin:(¬i<bs.length\/¬i<4000)->(bD++[Ab.Obj.box [.d (.sl (bs.map yN)),.d (.i .i64 0),.d (.i .i64 q)]])::Ω=(bD++[.box (cur (sP bs))])::Ω:=fun hq=>by
  rw[List.drop_eq_nil_of_le (by rw[List.length_take];omega)] at p3;rw[show q=Gw (bs.take 4000) (28803+bs.length) from p3];rfl
 with_reducible refine aD (fun hb=> ?_) (fun hb=> ?_)<;>have h:=hb<;>(try simp only[wf_preprocess] at h)<;>simp -implicitDefEqProofs (disch:=omega) only[go_sem,hb]<;>(repeat(with_reducible refine And.intro ?_ ?_;focus first|omega|rfl|assumption|exact⟨_,rfl,rfl⟩|(simp;omega)|(simp;done)))
 ·with_reducible refine aD (fun hb=> ?_) (fun hb=> ?_)<;>have h:=hb<;>(try simp only[wf_preprocess] at h)<;>simp -implicitDefEqProofs (disch:=omega) only[go_sem,hb]<;>(repeat(with_reducible refine And.intro ?_ ?_;focus first|omega|rfl|assumption|exact⟨_,rfl,rfl⟩|(simp;omega)|(simp;done)))
  ·have hi:i<bs.length:=by omega
   have hb:=hB.rng bs[i] (List.getElem_mem hi)
   have ht:(bs.take 4000).drop i=bs[i]::(bs.take 4000).drop (i+1):=by
    rw[List.drop_eq_getElem_cons (by rw[List.length_take];omega),List.getElem_take]
   rw[ht,Gw] at p3;simp -implicitDefEqProofs (disch:=omega) only[go_sem,yN]
   (repeat(with_reducible refine And.intro ?_ ?_;focus first|omega|rfl|assumption|exact⟨_,rfl,rfl⟩|(simp;omega)|(simp;done)))
   all_goals try omega
   exact dG (i+1,_) (by simp only;omega) rfl rfl ⟨by simp only;omega,by simp only;omega,p3⟩
  ·exact fin (.inr (by omega))
 ·exact fin (.inl (by omega))
theorem agO(bs:List Int):aJ prog 6 [.c (.d (.sl (bs.map yN)))] (.c (.d (.b (decide (1048576<(bs.length:Int)))))):=fun S=>by
 refine zcx [.tmp 2] func6 ntmps6 ?_;simp -implicitDefEqProofs (disch:=omega) only[go_sem]
theorem Nb:∀a b:List (List D),bB (a++b)=bB a+bB b
 |[],b=>by simp[bB]
 |r::a,b=>by rw[List.cons_append,bB,bB,Nb a b];omega
def adN{bs:List Int}(n:Int)(c:Cu bs):Int×Cu bs:=
 (((fI c).1*16777216+(fI (fI c).2).1*65536+(fI (fI (fI c).2).2).1*256+(fI (fI (fI (fI c).2).2).2).1).tmod n,(fI (fI (fI (fI c).2).2).2).2)
def jC{bs:List Int}(n:Int)(c:Cu bs):Int×Cu bs:=if n<=256 then bn n c else adN n c
theorem zo{bs:List Int}{n:Int}(c:Cu bs)(h:1<=n):0<=(jC n c).1/\(jC n c).1<n:=by
 unfold jC;split
 ·exact iA c h
 ·have h1:=nK c;have h2:=nK (fI c).2;have h3:=nK (fI (fI c).2).2;have h4:=nK (fI (fI (fI c).2).2).2;exact⟨Int.tmod_nonneg _ (by omega),Int.tmod_lt_of_pos _ (by omega)⟩
theorem BM{bs:List Int}(hB:Bytes bs)(c:Cu bs)(l j:Nat)(S:Store)(n:Int)(hk:aW S (l,j)=some (.box (cur c)))(h1:1<=n)(h2:n<=1048577):
 bJ prog 92 [.c (.ptr (l,j) 0),.c (.d (.i .i64 n))] S (fun r S'=>r=.c (.d (.i .i64 (jC n c).1))/\S'=aX S (l,j) (.box (cur (jC n c).2))):=by
 unfold jC;by_cases hn:n<=256
 ·rw[if_pos hn];exact dZ hB c l j S n hk h1 hn
 rw[if_neg hn];unfold adN;have g:∀x:Ab.Obj,aW (aX S (l,j) x) (l,j)=some x:=fun x=>bW _ _ _ _ hk;have r1:=nK c;have r2:=nK (fI c).2;have r3:=nK (fI (fI c).2).2;have r4:=nK (fI (fI (fI c).2).2).2
 generalize hx1:(fI c).1=x1 at *
 generalize hc1:(fI c).2=c1 at *
 generalize hx2:(fI c1).1=x2 at *
 generalize hc2:(fI c1).2=c2 at *
 generalize hx3:(fI c2).1=x3 at *
 generalize hc3:(fI c2).2=c3 at *
 generalize hx4:(fI c3).1=x4 at *
 generalize hc4:(fI c3).2=c4 at *
 have d1:decide (n<=0)=false:=decide_eq_false (by omega);have d2:decide (n<=256)=false:=decide_eq_false hn;have q1:=yt hB c (1+l) j ([]::S) (by rw[aV];exact hk);rw[hx1,hc1,ay] at q1;have q2:=yt hB c1 (1+l) j ([]::aX S (l,j) (.box (cur c1))) (by rw[aV];exact g _);rw[hx2,hc2,ay,ak] at q2;have q3:=yt hB c2 (1+l) j ([]::aX S (l,j) (.box (cur c2))) (by rw[aV];exact g _);rw[hx3,hc3,ay,ak] at q3;have q4:=yt hB c3 (1+l) j ([]::aX S (l,j) (.box (cur c3))) (by rw[aV];exact g _);rw[hx4,hc4,ay,ak] at q4;refine zcx [.tmp 4] func92 ntmps92 ?_;simp -implicitDefEqProofs (disch:=omega) only[go_sem,d1,d2];refine aT rfl q1 ?_;simp -implicitDefEqProofs (disch:=omega) only[go_sem];refine aT rfl q2 ?_;simp -implicitDefEqProofs (disch:=omega) only[go_sem];refine aT rfl q3 ?_;simp -implicitDefEqProofs (disch:=omega) only[go_sem];refine aT rfl q4 ?_;simp -implicitDefEqProofs (disch:=omega) only[go_sem]
 (repeat(with_reducible refine And.intro ?_ ?_;focus first|omega|rfl|assumption|exact⟨_,rfl,rfl⟩|(simp;omega)|(simp;done)))
 first|omega|exact⟨rfl,rfl⟩|rfl
def KN:List (List UInt8):=[[97],[105,110,116],[39,98],[48],[45,53],[120,46,121]]
theorem QS:fD KN:=by unfold fD;decide
def uy{bs:List Int}(f:Cu bs->ah×Cu bs):Nat->List ah->Cu bs->List ah×Cu bs
 |0,out,c=>(out,c)
 |n+1,out,c=>uy f n (out++[(f c).1]) (f c).2
def sQ{bs:List Int}:Nat->Cu bs->ah×Cu bs
 |0,c=>(bH (cO KN c).1,(cO KN c).2)
 |n+1,c=>if(dI 2 c).1=true then(bH (cO KN (dI 2 c).2).1,(cO KN (dI 2 c).2).2)
  else(bS (uy (sQ n) (bn 4 (dI 2 c).2).1.toNat [] (bn 4 (dI 2 c).2).2).1,(uy (sQ n) (bn 4 (dI 2 c).2).1.toNat [] (bn 4 (dI 2 c).2).2).2)
theorem QT{bs:List Int}{f:Cu bs->ah×Cu bs}{B:Nat}(hf:∀c,(f c).1.sz<=B):∀(n:Nat)(out:List ah)(c:Cu bs),
 (uy f n out c).1.length=out.length+n/\dJ (uy f n out c).1<=dJ out+n*B
 |0,out,c=>⟨rfl,by show dJ out<=_;omega⟩
 |n+1,out,c=>by
  obtain⟨h1,h2⟩:=QT hf n (out++[(f c).1]) (f c).2;have:=hf c;rw[uy];rw[lq] at h2;simp only[dJ] at h2;rw[List.length_append] at h1;refine⟨by rw[h1];simp only[List.length_cons,List.length_nil];omega,?_⟩;rw[Nat.add_mul];omega
theorem Uh(s:List UInt8):(bH s).sz=s.length:=by rw[iB,tF,tH];simp[bB]
theorem Ui(l:List ah):(bS l).sz=l.length+dJ l:=by rw[iB,d9,dP,jE];simp
theorem ZI{bs:List Int}:∀(n:Nat)(c:Cu bs),(sQ n c).1.sz+3<=11*4^n
 |0,c=>by
  have:=jK c QS;rw[sQ,Uh];omega
 |n+1,c=>by
  have hp:1<=4^n:=Nat.pow_pos (by omega);rw[sQ,Nat.pow_succ];split
  ·have:=jK (dI 2 c).2 QS;rw[Uh];omega
  ·have hr:=iA (n:=4) (dI 2 c).2 (by omega);obtain⟨h1,h2⟩:=QT (f:=sQ n) (B:=11*4^n-3) (fun c=>by have:=ZI n c;omega) (bn 4 (dI 2 c).2).1.toNat [] (bn 4 (dI 2 c).2).2;rw[Ui]
   have h3:(bn 4 (dI 2 c).2).1.toNat<=3:=by omega
   have h4:=Nat.mul_le_mul_right (11*4^n-3) h3;simp only[dJ,List.length_nil] at h1 h2;omega
def wE{bs:List Int}(x:ah)(m:Int)(k:Nat)(c:Cu bs):ah×Cu bs:=
 if m=0 then(.mk x.aU (x.aj.set k (sQ 1 c).1),(sQ 1 c).2) else
 if m=1 then(.mk x.aU (x.aj.eraseIdx k),c) else(.mk x.aU (x.aj++[x.aj.getD k eH]),c)
def Bj{bs:List Int}(x:ah)(c:Cu bs):ah×Cu bs:=
 if x.aj.length=0 then(x,c) else
 if(dI 3 c).1=true then wE x (bn 3 (jC x.aj.length (dI 3 c).2).2).1 (jC x.aj.length (dI 3 c).2).1.toNat (bn 3 (jC x.aj.length (dI 3 c).2).2).2
 else(x,(dI 3 c).2)
theorem Uj(y:ah):∀(l:List ah)(k:Nat),dJ (l.set k y)<=dJ l+y.sz
 |[],k=>by simp[dJ]
 |x::l,0=>by simp only[List.set_cons_zero,dJ];omega
 |x::l,k+1=>by have:=Uj y l k;simp only[List.set_cons_succ,dJ];omega
theorem Nc:∀(l:List ah)(k:Nat),dJ (l.eraseIdx k)<=dJ l
 |[],k=>by simp[dJ]
 |x::l,0=>by simp[dJ]
 |x::l,k+1=>by have:=Nc l k;simp only[List.eraseIdx_cons_succ,dJ];omega
theorem ZJ:∀(l:List ah)(k:Nat),(l.getD k eH).sz<=dJ l
 |[],k=>by rw[List.getD_nil,show eH=bS [] from rfl,Ui];simp[dJ]
 |x::l,0=>by simp[dJ]
 |x::l,k+1=>by have:=ZJ l k;simp only[List.getD_cons_succ,dJ];omega
theorem acR{bs:List Int}(x:ah)(c:Cu bs):(Bj x c).1.sz<=2*x.sz+50:=by
 have hx:∀(a:List UInt8)(l:List ah),(ah.mk a l).sz=a.length+(l.length+dJ l):=fun a l=>by rw[iB,jE];rfl
 have h0:=hx x.aU x.aj;rw[ah.eta] at h0;unfold Bj;split
 ·show x.sz<=_;omega
 rename_i hn;split
 ·generalize (bn 3 (jC x.aj.length (dI 3 c).2).2).1=m;generalize (jC x.aj.length (dI 3 c).2).1.toNat=k;generalize (bn 3 (jC x.aj.length (dI 3 c).2).2).2=c1;unfold wE;split
  ·have:=Uj (sQ 1 c1).1 x.aj k;have:=ZI 1 c1;simp only[hx,List.length_set];omega
  split
  ·have:=Nc x.aj k;have:=List.length_eraseIdx_le x.aj k;simp only[hx];omega
  ·have:=ZJ x.aj k;simp only[hx,lq,dJ,List.length_append,List.length_cons,List.length_nil];omega
 ·show x.sz<=_;omega
section
variable {P:Program} {N:Nat} {w w':World} {σ σ':Nat->Nat} {S S':Store} {β β':Hs} {s:St} {a:Act}
def C.mv(n j m:Nat):C->C
 | .gQ (0,i)=>if i=m then .gQ (0,j) else if i<n/\i≠j then .gQ (0,i) else .any
 | .bK (0,i) es=>if i<n/\i≠j then .bK (0,i) es else .any
 | .ptr (0,i) off=>if i<n/\i≠j then .ptr (0,i) off else .any
 | .ku (0,i) x off=>if i<n/\i≠j then .ku (0,i) x off else .any
 | .mp (0,i)=>if i<n/\i≠j then .mp (0,i) else .any
 | .fn _ _=>.any
 | .xp (0,i) r p=>if i<n/\i≠j then .xp (0,i) r p else .any
 | .xq (0,i) r p z x off=>if i<n/\i≠j then .xq (0,i) r p z x off else .any
 |c=>c
end
section
variable {P:Program} {N:Nat} {S:Store}
theorem Gx(r:Nat)(T:Value)(h:tX undef r=some T):False:=by cases h
theorem afb{c:Code}{Q:Exit->St->Prop}{tm:List (Nat×V)}{Ω:Store}(h:AW P N c Q ⟨tm,[.xf []]::Ω⟩):AW P N c Q ⟨tm,[]::Ω⟩:=by
 refine kD h fun a w σ β hR=> ?_;obtain⟨bo,bΩ,rfl,hlen⟩:=frames hR
 obtain⟨hS',hk,hst⟩:=hR.S.push (o:=.xf []) (h:=undef) (Grow.refl hR.S.live) hlen
  ⟨fun r es e=>by simp at e,fun r T e=>(Gx r T e).elim,fun b hb=>by obtain⟨r,T,e,_⟩:=hb;exact(Gx r T e).elim,fun r r' T T' x _ e _ _ _=>Gx r T e⟩
  (fun b hb=>by obtain⟨r,T,e,_⟩:=hb;exact(Gx r T e).elim)
 exact⟨σ,_,⟨hR.size,hR.defers,hS',fun u=>(hR.T u).mono (dQ.refl _ _) hk⟩,hst,Keep.refl _ _⟩
end
section
variable {P:Program} {S S':Store} {f:FuncId} {args:List V}
end
section
variable {w:World} {σ:Nat->Nat}
mutual
theorem ajL{σ2:Nat->Nat}{lo:Nat}(hs:∀b c t fz m,w.heap[b]? =some (.cells c t fz)->σ b=c.size+1+m->lo<=m->σ2 b=σ b):∀(d:D)(n:Nat)(v:Value),lo<=n->nM d=true->cu w σ (lC d n) v->cu w σ2 (lC d n) v
 | .sl es,n,v,hn,hp,h=>by
   rw[lC] at h ⊢;have hrec:=Xa hs es (n+1);generalize eP es (n+1)=q at h hrec ⊢
   cases h with
   |oU n a cap=>exact .oU n a cap
   |ol n b off cap z q vals c t hcap hlen hb hσ hfit hc hv hx=>exact .ol n b off cap z q vals c t hcap hlen hb ((hs b c t _ _ hb hσ hn).trans hσ) hfit hc (hrec vals (by omega) (by simpa [nM] using hp) hv) hx
 | .ol m es,n,v,hn,hp,h=>by simp[nM] at hp
 | .b x,n,v,hn,hp,h=>by rw[lC] at h ⊢;cases h;constructor
 | .i k x,n,v,hn,hp,h=>by rw[lC] at h ⊢;cases h;constructor
 | .s l,n,v,hn,hp,h=>by rw[lC] at h ⊢;cases h;constructor
 | .o u,n,v,hn,hp,h=>by simp[nM] at hp
theorem agP{σ2:Nat->Nat}{lo:Nat}(hs:∀b c t fz m,w.heap[b]? =some (.cells c t fz)->σ b=c.size+1+m->lo<=m->σ2 b=σ b):∀(r:List D)(n:Nat)(vals:Nat->Value),lo<=n->iM r=true->(∀(j:Nat)(d:D),(dW r n)[j]? =some d->cu w σ d (vals j))->
 ∀(j:Nat)(d:D),(dW r n)[j]? =some d->cu w σ2 d (vals j)
 |[],n,vals,hn,hp,h,j,d,hd=>by simp[dW] at hd
 |a::r,n,vals,hn,hp,h,j,d,hd=>by
  rw[iM,Bool.and_eq_true] at hp;rw[dW] at h hd
  cases j with
  |zero=>
   simp at hd;subst hd;exact ajL hs a n _ hn hp.1 (h 0 _ rfl)
  |succ j=>exact agP hs r (n+pz a) (fun i=>vals (i+1)) (by omega) hp.2 (fun i d hi=>h (i+1) d hi) j d hd
theorem Xa{σ2:Nat->Nat}{lo:Nat}(hs:∀b c t fz m,w.heap[b]? =some (.cells c t fz)->σ b=c.size+1+m->lo<=m->σ2 b=σ b):∀(rs:List (List D))(n:Nat)(vals:Nat->Value),lo<=n->iZ rs=true->(∀(j:Nat)(d:D),(eP rs n).flatten[j]? =some d->cu w σ d (vals j))->
 ∀(j:Nat)(d:D),(eP rs n).flatten[j]? =some d->cu w σ2 d (vals j)
 |[],n,vals,hn,hp,h,j,d,hd=>by simp[eP] at hd
 |r::rs,n,vals,hn,hp,h,j,d,hd=>by
  rw[iZ,Bool.and_eq_true] at hp;rw[eP,List.flatten_cons] at h hd;by_cases hj:j<(dW r n).length
  ·rw[List.getElem?_append_left hj] at hd;exact agP hs r n vals hn hp.1 (fun j d hd=>h j d (by rw[List.getElem?_append_left (List.getElem?_eq_some_iff.1 hd).1];exact hd)) j d hd
  ·rw[List.getElem?_append_right (by omega)] at hd;have:=Xa hs rs (n+qL r) (fun i=>vals ((dW r n).length+i)) (by omega) hp.2 (fun j d hd=>h _ d (by rw[List.getElem?_append_right (by omega),Nat.add_sub_cancel_left];exact hd)) (j-(dW r n).length) d hd
   rwa [show(dW r n).length+(j-(dW r n).length)=j by omega] at this
end
end
section
variable {P:Program}
theorem bJ.ownRow{f:FuncId}{args:List V}{bD:List Obj}{Ω:Store}{a:List UInt8}{es:List (List D)}{z:Nat}(hne:es≠[])(hz:∀e∈es,e.length=z)(hp:iZ es=true)
 (h:∀n,aJ P f (args.map Gs) (.agg ((dW [.s a,.sl es] n).map .d))):
 bJ P f args (bD::Ω) (fun r' S'=>r'=.agg [.d (.s a),.gQ (0,bD.length)]/\S'=(bD++[.dN z es])::Ω):=by
 refine⟨(h 0 []).1,fun w σ β vs hS hargs=> ?_⟩;obtain⟨n,hn⟩:=IC σ w.heap.size
 have Ko:nZ w σ [] [] (args.map Gs) vs:=by
  refine⟨by rw[List.length_map];exact hargs.1,fun j x hx=> ?_⟩;rw[List.getElem?_map] at hx
  cases ha:args[j]? with
  |none=>rw[ha] at hx;cases hx
  |some y=>
   rw[ha] at hx;cases hx;obtain⟨v,h1,h2⟩:=hargs.2 j y ha;exact⟨v,h1,IB h2 _ _⟩
 refine((h n []).2 w σ [] vs (Kn hS.live hS.rH) Ko).mono fun e w' ⟨v,r',S',σ',β',he,hS',hk,hst,hv,hr',hS2⟩=> ?_;subst hr';subst hS2;obtain⟨av,rfl,hcs⟩:=hv;obtain⟨v0,e0,e1,e2⟩:=hcs.2 0 _ rfl;obtain⟨v1,g0,g1,g2⟩:=hcs.2 1 _ rfl;have hsl:av.toList.length=2:=hcs.1.symm;have hql:=jU es (n+1);have hrows:=fun zz=>Iy (z:=zz) (rs:=es) (n:=n+1);have her:=fun(σ2:Nat->Nat) (vals:Nat->Value)=>Wu (w:=w') (σ:=σ2) es (n+1) vals;have hsg:=fun(σ2:Nat->Nat) (hs:∀b c t fz m,w'.heap[b]? =some (.cells c t fz)->σ' b=c.size+1+m->n+1<=m->σ2 b=σ' b) (vals:Nat->Value)=>Xa (w:=w') (σ:=σ') hs es (n+1) vals (Nat.le_refl _) hp;have g1':cu w' σ' (.ol n (eP es (n+1))) v1:=g1;generalize eP es (n+1)=q at g1' hql hrows her hsg
 cases g1' with
 |oU _ ad cap=>exact absurd (List.eq_nil_of_length_eq_zero (by simpa using hql.symm)) hne
 |ol _ b off cap aQ _ vals c t hcap hlen hb hσ hfit hc hvv hx=>
 obtain⟨rfl,aiq⟩:=hx
 have hzz:aQ=z:=by
  have h1:=hrows aQ hlen
  cases es with
  |nil=>exact absurd rfl hne
  |cons y ys=>rw[<-h1 y (by simp),hz y (by simp)]
 subst hzz
 have hfresh:w.heap.size<=b:=Nat.le_of_not_lt fun hlt=>by
  have h1:=(hst.far b hlt Gt).2;have h2:=hn b hlt;omega
 have hblt:=lt_of_some hb
 let σ2:Nat->Nat:=fun x=>if x=b then 0 else σ' x
 have hg:Grow w σ w' σ2:=⟨hst.size,hst.os,hst.output,fun x hx=>by
  obtain⟨h1,h2⟩:=hst.far x hx Gt
  exact⟨h1,(if_neg (by omega)).trans h2⟩,fun x=>by
  rcases hS'.live x with hb|hb
  ·exact .inl hb
  ·right;show(if x=b then 0 else σ' x)=0;rw[hb];split<;>rfl⟩
 have hch:=(her σ2 vals (hsg σ2 (fun b1 c1 t1 yV m h1 h2 h3=>by
  have:b1≠b:=by
   rintro rfl;rw[hb] at h1;cases h1;omega
  exact if_neg this) vals hvv)).2
 cases β with
 |nil=>have:=hS.shape.1;simp at this
 |cons bo bΩ=>
 have hlen':bo.length=bD.length:=by
  obtain⟨gr,g1,g2⟩:=hS.shape.2 0 bD rfl;simp at g1;rw[g1];exact g2
 rw[hql] at hcap hfit hc g0
 obtain⟨hS3,hk3,acG⟩:=hS.push (o:=.dN aQ es) (h:=.slice (some ⟨b,0,none⟩) es.length cap) hg hlen'
  ⟨hz,_,cap,rfl,hcap,.inr ⟨b,c,t,rfl,hb,if_pos rfl,aiq,fun j d hd=>⟨vals j,by
    have:=hc j (by have:=(List.getElem?_eq_some_iff.1 hd).1;rwa [gN es aQ hz] at this)
    rwa [Nat.zero_add] at this,hch j d hd⟩⟩⟩ (fun x hx=>by
    simp only[owns,blk] at hx;split at hx
    ·cases hx
    ·cases hx;exact hfresh)
 refine⟨_,.agg [.d (.s a),.gQ (0,bD.length)],_,σ2,(bo++[_])::bΩ,he,hS3,hk3,acG,⟨av,rfl,hsl.symm,fun j x hx=> ?_⟩,rfl,rfl⟩
 match j,hx with
 |0,hx=>
  cases hx;exact⟨v0,e0,by cases e1;constructor,e2⟩
 |1,hx=>
  cases hx;exact⟨_,g0,⟨_,bG _ _ _,fun _ _ _=>by rw[<-hlen',bG]⟩,rfl⟩
 |j+2,hx=>simp at hx
end
section
variable {P:Program} {N:Nat} {S:Store} {s:St}
theorem acS{f:FuncId}{fn:Func}{c:Code}{args:List V}{post:V->Store->Prop}{rs:List ResultVar}(_:P.follows .mixedOrders=true)(hf:P.funcs[f]? =some fn)(hN:fn.ntmps=N)
 (hb:fn.body=some c) (hn:(fn.name== "runtime.NumGoroutine")=false) (hr:fn.results.toList=rs) (hl:Nat.ble args.length N=true) (_:(0:Nat)=0)
 (h:AW P N c (Lx P rs post) ⟨jZ (args.map (V.up 1)) 0,[]::S⟩):bJ P f args S post:=by
 subst hN;subst hr;exact oW hf hb hn (Nat.le_of_ble_eq_true hl) (zQ vV h)
theorem wY(T:List TypeId){x y:Code}{Q:Exit->St->Prop}(fA:P.follows .mixedOrders=true)(hok:mU T N x=true)(h:lX P N T x (jy (AW P N y Q) Q) s):AW P N (.seq x y) Q s:=EA (mI fA x _ s hok h)
theorem agR(T:List TypeId){x:Code}{Q:Exit->St->Prop}(fA:P.follows .mixedOrders=true)(hok:mU T N x=true)(h:lX P N T x Q s):AW P N x Q s:=mI fA x _ s hok h
theorem ZK{c:Operand}{x y:Code}{Q:Exit->St->Prop}(hc:ev s.tm c=.c (.d (.b true)))(h:AW P N x Q s):AW P N (.cond c x y) Q s:=F9 hc (fun _=>h) (fun h=>by cases h)
theorem agS{c:Operand}{x y:Code}{Q:Exit->St->Prop}(hc:ev s.tm c=.c (.d (.b false)))(h:AW P N y Q s):AW P N (.cond c x y) Q s:=F9 hc (fun h=>by cases h) (fun _=>h)
end
section
variable {P:Program} {N:Nat} {S:Store}
theorem Xb(T:List TypeId){f:FuncId}{fn:Func}{c:Code}{args:List V}{post:V->Store->Prop}{rs:List ResultVar}(fA:P.follows .mixedOrders=true)(hf:P.funcs[f]? =some fn)(hN:fn.ntmps=N)
 (hb:fn.body=some c) (hn:(fn.name== "runtime.NumGoroutine")=false) (hr:fn.results.toList=rs) (hl:Nat.ble args.length N=true) (hok:mU T N c=true)
 (h:lX P N T c (Lx P rs post) ⟨jZ (args.map (V.up 1)) 0,[.xf []]::S⟩):bJ P f args S post:=by
 subst hN;subst hr;exact oW hf hb hn (Nat.le_of_ble_eq_true hl) (afb (zQ vV (mI fA c _ _ hok h)))
end
section
variable {P:Program} {S S1:Store}
theorem bJ.of_le{f:FuncId}{args:List V}{t:V}(h:bJ P f args S fun r S'=>Less r t/\S'=S1):bJ P f args S fun r S'=>r=t/\S'=S1:=
 ⟨h.1,fun w σ β vs hS hv=>(h.2 w σ β vs hS hv).mono fun e w' ⟨v,r,S',σ',β',h1,h2,h3,h4,h5,h6,h7⟩=>⟨v,t,S',σ',β',h1,h2,h3,h4,h6 _ _ _ _ _ h5,rfl,h7⟩⟩
theorem aS{r t:V}(h:Gs r=t):Less r t:=fun w σ S β v hr=>by
 rw[<-h];exact IB hr _ _
end
attribute [go_sem] Bool.or_false Bool.false_or Bool.true_or Bool.or_true
def Ef:List (List UInt8):=[[120],[121]]
theorem acT:fD Ef:=by unfold fD;decide
def yZ:List (List UInt8):=[[115,104,111,119],[101,113],[97,100,100]]
theorem acU:fD yZ:=by unfold fD;decide
theorem KO:∀N:Nat,∀x:ah,SizeOf.sizeOf x<N->∀n:Nat,x.sz<=1048576->aJ prog 137 [x.v] (.agg ((dW x.enc n).map .d))
 |0=>fun x h=>by omega
 |N+1=>by
  have ih:=KO N;intro x hx n hsz S;have hxl:=ah.pW x;rw[iB,jE] at hsz;obtain⟨L,hL⟩:∃L:Nat->Nat,L=fun i=>n+1+iJ (x.aj.take i):=⟨_,rfl⟩;obtain⟨T,hT⟩:∃T:Nat->List (List D),T=fun i=>lx (x.aj.take i) (n+1):=⟨_,rfl⟩
  have hT0:T 0=[]:=by rw[hT];rfl
  have lF:∀i,(T i).length<=i:=fun i=>by rw[hT];simp only[iy];exact List.length_take_le _ _
  have hTs:∀i (hi:i<x.aj.length),T i++[dW x.aj[i].enc (L i)]=T (i+1):=fun i hi=>by rw[hT,hL];exact Gu hi (n+1)
  have hTe:T x.aj.length=lx x.aj (n+1):=by rw[hT];simp only[List.take_length]
  clear hT hL;rw[l9,<-hTe];refine lN (n) (rs:=[.cell 2 39]) zmx func137 ntmps137 rfl rfl rfl rfl rfl ?_;simp -implicitDefEqProofs (disch:=omega) only[go_sem];refine zn n 3 1 2 _ rfl rfl ?_
  refine bF (ι:=Nat) zmx rfl [1,2,3,4] (fun i=>[.c (.ptr (0,1) 0),.c (.ptr (0,2) 0),.c (.ptr (0,3) 0),.c (.d (.i .i64 i))])
   (fun i=>[.seed n,.box [.d (.s x.aU),.d (.sl (x.aj.map ah.enc))],.box [.d (.s []),.bE []],.box [.d (.s x.aU),.bK (0,4) (T i)],.dY n 2 (T i)]::S)
   (fun i=>i<=x.aj.length) (fun i=>x.aj.length-i) 0 rfl (by rw[hT0];rfl) (Nat.zero_le _) ?_
  intro i hi;have hl:=lF i;simp -implicitDefEqProofs (disch:=omega) only[go_sem]
  with_reducible refine aD (fun hb=> ?_) (fun hb=> ?_)<;>have h:=hb<;>(try simp only[wf_preprocess] at h)<;>simp -implicitDefEqProofs (disch:=omega) only[go_sem,hb]<;>(repeat(with_reducible refine And.intro ?_ ?_;focus first|omega|rfl|assumption|exact⟨_,rfl,rfl⟩|(simp;omega)|(simp;done)))
  ·have hi':i<x.aj.length:=by omega
   have hm:=List.getElem_mem hi';have hs:=hTs i hi';have hz:=jP hm
   (repeat(with_reducible refine And.intro ?_ ?_;focus first|omega|rfl|assumption|exact⟨_,rfl,rfl⟩|(simp;omega)|(simp;done)))
   refine aA (ih x.aj[i] (by have:=List.sizeOf_lt_of_mem hm;omega) (L i) (by omega)) ?_;obtain⟨row,hrow⟩:∃row,row=dW x.aj[i].enc (L i):=⟨_,rfl⟩
   have hrl:row.length=2:=by rw[hrow,iU,ah.bN]
   rw[<-hrow] at hs ⊢;simp -implicitDefEqProofs (disch:=omega) only[go_sem,hrl,QB]
   (repeat(with_reducible refine And.intro ?_ ?_;focus first|omega|rfl|assumption|exact⟨_,rfl,rfl⟩|(simp;omega)|(simp;done)))
   rw[hs];exact dO 5 (by decide) (i+1) (by omega) rfl rfl rfl rfl (by omega)
  ·have hi':i=x.aj.length:=by omega
   subst hi'
   first|done|rfl
theorem DT(x:ah)(n:Nat)(hsz:x.sz<=1048576):aJ prog 137 [x.v] (.agg ((dW x.enc n).map .d)):=KO _ x (Nat.lt_succ_self _) n hsz
theorem ZL(x:ah)(hsz:x.sz<=1048576):aJ prog 137 [x.v] x.v:=by
 have:=aJ.less (DT x 0 hsz) Ak;rw[ah.pV] at this;exact this
theorem Xc(x:ah)(hsz:x.sz<=1048576)(S:Store):oJ prog 137 [x.v] S (fun r own S1=>S1=S/\∃y,r=.agg ([.d (.s x.aU)]++y::[])/\ER own y 2 (x.aj.map ah.enc)):=by
 rw[iB,jE] at hsz;obtain⟨T,hT⟩:∃T:Nat->List (List D),T=fun i=>(x.aj.take i).map ah.enc:=⟨_,rfl⟩
 have hT0:T 0=[]:=by rw[hT];rfl
 have lF:∀i,(T i).length<=i:=fun i=>by rw[hT];simp only[List.length_map];exact List.length_take_le _ _
 have hTs:∀i (hi:i<x.aj.length),T i++[[.s x.aj[i].aU,.sl (x.aj[i].aj.map ah.enc)]]=T (i+1):=fun i hi=>by
  rw[hT];simp only[List.take_succ_eq_append_getElem hi,List.map_append,List.map_cons,List.map_nil,ah.aB]
 have hTe:T x.aj.length=x.aj.map ah.enc:=by rw[hT];simp only[List.take_length]
 clear hT;refine Ac (rs:=[.cell 2 39]) zmx func137 ntmps137 rfl rfl rfl rfl rfl ?_;simp -implicitDefEqProofs (disch:=omega) only[go_sem];refine yD 2 1 2 _ rfl rfl ?_
 refine bF (ι:=Nat) zmx rfl [1,2,3,4] (fun i=>[.c (.ptr (0,0) 0),.c (.ptr (0,1) 0),.c (.ptr (0,2) 0),.c (.d (.i .i64 i))])
  (fun i=>[.box [.d (.s x.aU),.d (.sl (x.aj.map ah.enc))],.box [.d (.s []),.bE []],.box [.d (.s x.aU),.bK (0,3) (T i)],.tok 2 (T i)]::S)
  (fun i=>i<=x.aj.length) (fun i=>x.aj.length-i) 0 rfl (by rw[hT0];rfl) (Nat.zero_le _) ?_
 intro i hi;have hl:=lF i;simp -implicitDefEqProofs (disch:=omega) only[go_sem]
 with_reducible refine aD (fun hb=> ?_) (fun hb=> ?_)<;>have h:=hb<;>(try simp only[wf_preprocess] at h)<;>simp -implicitDefEqProofs (disch:=omega) only[go_sem,hb]<;>(repeat(with_reducible refine And.intro ?_ ?_;focus first|omega|rfl|assumption|exact⟨_,rfl,rfl⟩|(simp;omega)|(simp;done)))
 ·have hi':i<x.aj.length:=by omega
  have hm:=List.getElem_mem hi';have hs:=hTs i hi';have hz:=jP hm
  (repeat(with_reducible refine And.intro ?_ ?_;focus first|omega|rfl|assumption|exact⟨_,rfl,rfl⟩|(simp;omega)|(simp;done)))
  refine aA (ZL x.aj[i] (by omega)) ?_;simp -implicitDefEqProofs (disch:=omega) only[go_sem]
  (repeat(with_reducible refine And.intro ?_ ?_;focus first|omega|rfl|assumption|exact⟨_,rfl,rfl⟩|(simp;omega)|(simp;done)))
  rw[hs];exact dO 4 (by decide) (i+1) (by omega) rfl rfl rfl rfl (by omega)
 ·have hi':i=x.aj.length:=by omega
  subst hi';rw[<-hTe];exact⟨_,rfl,.inl ⟨3,rfl,rfl⟩⟩
theorem afc{bs:List Int}(hB:Bytes bs):∀(n:Nat)(c:Cu bs)(l j:Nat)(S:Store),aW S (l,j)=some (.box (cur c))->n<=16->
 bJ prog 138 [.c (.ptr (l,j) 0),.c (.d (.i .i64 n))] S (fun r S1=>r=(sQ n c).1.v/\S1=aX S (l,j) (.box (cur (sQ n c).2))):=by
 intro n
 induction n with
 |zero=>
  intro c l j S hk hn;have g:∀x:Ab.Obj,aW (aX S (l,j) x) (l,j)=some x:=fun x=>bW _ _ _ _ hk;rw[sQ];have d0:decide (((0:Nat):Int)<=0)=true:=rfl;refine sw [63] (rs:=[.cell 4 39]) zmx func138 ntmps138 rfl rfl rfl rfl rfl ?_;simp -implicitDefEqProofs (disch:=omega) only[go_sem,d0];refine cZ [true] rfl (fU hB c (1+l) j _ KN (by rw[aV];exact hk) (by decide) (by decide)) ?_;simp -implicitDefEqProofs (disch:=omega) only[go_sem,ay];refine aA (bO _) ?_;simp -implicitDefEqProofs (disch:=omega) only[go_sem,ay]
  first|done|exact⟨rfl,rfl⟩|rfl
 |succ n ih=>
  intro c l j S hk hn;have g:∀x:Ab.Obj,aW (aX S (l,j) x) (l,j)=some x:=fun x=>bW _ _ _ _ hk;rw[sQ];have d0:decide (((n+1:Nat):Int)<=0)=false:=decide_eq_false (by omega)
  have d1:((n+1:Nat):Int)-1=(n:Int):=by omega
  obtain⟨c1,hc1⟩:∃c1,c1=(dI 2 c).2:=⟨_,rfl⟩;obtain⟨o,ho⟩:∃o,o=(dI 2 c).1:=⟨_,rfl⟩;have hx:=iA (n:=4) c1 (by omega);obtain⟨k,hkd⟩:∃k:Nat,(bn 4 c1).1=(k:Int):=⟨(bn 4 c1).1.toNat,by omega⟩;obtain⟨c2,hc2⟩:∃c2,c2=(bn 4 c1).2:=⟨_,rfl⟩;rw[<-ho,<-hc1,hkd,<-hc2,Int.toNat_natCast];rw[hkd] at hx;have q1:=oI hB c (1+l) j ([.box [.d (.s []),.bE []]]::S) 2 (by rw[aV];exact hk) (by omega) (by omega);rw[<-ho,<-hc1,ay] at q1;obtain⟨Q,hQ⟩:∃Q,Q=(if o=true then(bH (cO KN c1).1,(cO KN c1).2) else(bS (uy (sQ n) k [] c2).1,(uy (sQ n) k [] c2).2)):=⟨_,rfl⟩;rw[<-hQ];refine sw [63] (rs:=[.cell 4 39]) zmx func138 ntmps138 rfl rfl rfl rfl rfl ?_;simp -implicitDefEqProofs (disch:=omega) only[go_sem,d0];refine aT rfl q1 ?_;simp -implicitDefEqProofs (disch:=omega) only[go_sem,ay]
  cases o with
  |true=>
   rw[if_pos rfl] at hQ;subst hQ;simp -implicitDefEqProofs (disch:=omega) only[go_sem,ay];refine cZ [true] rfl (fU hB c1 (1+l) j _ KN (by rw[aV];exact g _) (by decide) (by decide)) ?_;simp -implicitDefEqProofs (disch:=omega) only[go_sem,ay,ak];refine aA (bO _) ?_;simp -implicitDefEqProofs (disch:=omega) only[go_sem,ay,ak]
   first|done|exact⟨rfl,rfl⟩|rfl
  |false=>
   rw[if_neg (by decide)] at hQ;simp -implicitDefEqProofs (disch:=omega) only[go_sem,ay];refine aT rfl (dZ hB c1 (1+l) j _ 4 (by rw[aV];exact g _) (by omega) (by omega)) ?_;rw[hkd,<-hc2];simp -implicitDefEqProofs (disch:=omega) only[go_sem,ay,ak];refine yD 1 1 2 _ rfl rfl ?_
   refine ach [63] zmx rfl [0,1,4,5,6,7] (ι:=Nat×List ah×Cu bs) (fun x=>[.c (.ptr (1+l,j) 0),.c (.d (.i .i64 (n+1:Nat))),.c (.ptr (0,0) 0),.c (.ptr (0,1) 0),.c (.d (.i .i64 k)),.c (.d (.i .i64 x.1))])
    (fun x=>[.box [.d (.s []),.bE []],.box [.d (.s []),.bK (0,2) (x.2.1.map ah.enc)],.tok 2 (x.2.1.map ah.enc)]::aX S (l,j) (.box (cur x.2.2)))
    (fun x=>x.1<=k/\uy (sQ n) (k-x.1) x.2.1 x.2.2=uy (sQ n) k [] c2/\x.2.1.length<=x.1) (fun x=>k-x.1) (0,[],c2) rfl rfl ⟨Nat.zero_le _,rfl,Nat.le_refl _⟩ ?_
   rintro⟨i,out,d⟩ ⟨p1,p2,p3⟩;simp only at p1 p2 p3;simp -implicitDefEqProofs (disch:=omega) only[go_sem,ay,ak,d1]
   with_reducible refine aD (fun hb=> ?_) (fun hb=> ?_)<;>have h:=hb<;>(try simp only[wf_preprocess] at h)<;>simp -implicitDefEqProofs (disch:=omega) only[go_sem,hb,ay,ak,d1]<;>(repeat(with_reducible refine And.intro ?_ ?_;focus first|omega|rfl|assumption|exact⟨_,rfl,rfl⟩|(simp;omega)|(simp;done)))
   ·have ek:k-i=(k-(i+1))+1:=by omega
    rw[ek,uy] at p2;refine aT rfl (ih d (1+l) j _ (by rw[aV];exact g _) (by omega)) ?_;simp -implicitDefEqProofs (disch:=omega) only[go_sem,ay,ak,d1]
    (repeat(with_reducible refine And.intro ?_ ?_;focus first|omega|rfl|assumption|exact⟨_,rfl,rfl⟩|(simp;omega)|(simp;done)))
    refine⟨by cases l<;>rfl,?_⟩;simp -implicitDefEqProofs (disch:=omega) only[go_sem,ay,ak,d1];refine dO 3 (by decide) (i+1,out++[(sQ n d).1],(sQ n d).2) (by simp only;omega) rfl ?_ (by cases l<;>rfl) rfl ⟨by simp only;omega,p2,by rw[List.length_append];simp only[List.length_cons,List.length_nil];omega⟩;simp only[List.map_append,List.map_cons,List.map_nil,ah.aB]
    first|done|rfl|(cases l<;>rfl)
   ·have ei:k-i=0:=by omega
    rw[ei,uy] at p2;rw[<-p2] at hQ;subst hQ
    first|done|exact⟨rfl,rfl⟩|exact⟨jL _,rfl⟩
def rV(P:Program)(o:Oper)(ρ:Operand->Value)(w:World)(v:Value)(w':World):Prop:=(execOp ρ o).run P w=.ok (.value v) w'\/((execOp ρ o).run P w=.ok .skip w'/\v=undef)
theorem rV.wp{P:Program}{o:Oper}{a:Act}{w w':World}{v:Value}{K:Act->World->Prop}{Q:Exit->Act->World->Prop}(h:rV P o a.eval w v w')(hK:K (a.put o.dst v) w'):o.wp P a w K Q:=by
 unfold Oper.wp;rcases h with h|⟨h,rfl⟩
 ·rw[h];exact hK
 ·rw[h];exact hK
def xO(eF:List Nat)(i m:Nat):Nat:=if eF.contains i then m ||| 2^eF.idxOf i else m
def iG(P:Program)(eF:List Nat)(W:Nat->World)(K:Act->Prop):List Oper->List (List Nat)->Nat->Act->Prop
 |[],_,_,a=>K a
 |o::l,rs,i,a=>∃v,(∀m∈rs.headD [],rV P o a.eval (W m) v (W (xO eF i m)))/\iG P eF W K l rs.tail (i+1) (a.put o.dst v)
theorem Uk{P:Program}{eF:List Nat}{W:Nat->World}{K:Act->Prop}:∀(l:List Oper)(rs:List (List Nat))(i:Nat)(a:Act),iG P eF W K l rs i a->
 ∃(vs:Nat->Value) (A:Nat->Act),A 0=a/\(∀j o,l[j]? =some o->A (j+1)=(A j).put o.dst (vs j)/\∀m∈rs.getD j [],rV P o (A j).eval (W m) (vs j) (W (xO eF (i+j) m)))/\K (A l.length)
 |[],rs,i,a,h=>⟨fun _=>undef,fun _=>a,rfl,fun j o hj=>by simp at hj,h⟩
 |o::l,rs,i,a,h=>by
  obtain⟨v,h1,h2⟩:=h;obtain⟨vs,A,k0,k1,k2⟩:=Uk l rs.tail (i+1) _ h2;refine⟨fun j=>match j with|0=>v|j+1=>vs j,fun j=>match j with|0=>a|j+1=>A j,rfl,fun j o' hj=> ?_,k2⟩
  cases j with
  |zero=>
   simp only[List.getElem?_cons_zero,Option.some.injEq] at hj;subst hj;refine⟨k0,fun m hm=>h1 m ?_⟩
   cases rs with
   |nil=>simp at hm
   |cons r rs=>simpa using hm
  |succ j=>
   simp only[List.getElem?_cons_succ] at hj;obtain⟨q1,q2⟩:=k1 j o' hj;refine⟨q1,fun m hm=> ?_⟩
   have:=q2 m (by cases rs with
    |nil=>simp at hm
    |cons r rs=>simpa using hm)
   rw[show i+(j+1)=i+1+j by omega];exact this
def Xd(R:Array Oper)(eF:List Nat)(i m:Nat):Bool:=
 (List.range eF.length).all fun k=>if m.testBit k then !((masks R.toList []).getD (eF.getD k 0) 0).testBit i&&eF.getD k 0 !=i&&(List.range eF.length).all (fun k'=> !((masks R.toList []).getD (eF.getD k 0) 0).testBit (eF.getD k' 0)||m.testBit k')
   else !((masks R.toList []).getD i 0).testBit (eF.getD k 0)
def acV(R:Array Oper)(N:Nat)(eF:List Nat)(rng:List (List Nat)):Bool:=
 ((List.range R.size).all fun j=>
   (match R[j]? with
    |some o=>o.guard.isNone&&(match o.op with| .select .. =>false|_=>true)&&o.after.toList.all (fun e=> !Region.binds .any e||decide (e.on<j))&&(match o.dst with|some d=>decide (d<N)|none=>true)
    |none=>true)&&
   ((List.range j).all fun i=>
     match R[i]?,R[j]? with
     |some x,some y=>(((masks R.toList []).getD j 0).testBit i||x.apart R y)&&(x.dst.isNone||x.dst !=y.dst)
     |_,_=>true)&&
   ((List.range (2^eF.length)).all fun m=> !(Xd R eF j m)||(rng.getD j []).contains m))&&
 (List.range eF.length).all fun k'=>decide (eF.getD k' 0<R.size)&&(List.range k').all fun k=>eF.getD k 0 !=eF.getD k' 0
section
variable {P:Program} {R:Array Oper} {N:Nat} {eF:List Nat} {rng:List (List Nat)} {W:Nat->World} {vs:Nat->Value} {A:Nat->Act}
structure Ot(R:Array Oper)(N:Nat)(eF:List Nat)(rng:List (List Nat)):Prop where
 guard:∀(j:Nat)(o:Oper),R[j]? =some o->o.guard=none
 air:∀(j:Nat)(o:Oper),R[j]? =some o->∀cs b,o.op≠ .select cs b
 edge:∀(i:Nat)(o:Oper)(e:Edge),R[i]? =some o->e∈o.after->Region.binds .any e=true->e.on<i
 dst:∀(i:Nat)(o:Oper),R[i]? =some o->∀d,o.dst=some d->d<N
 pair:∀(i j:Nat)(x y:Oper),i<j->R[i]? =some x->R[j]? =some y->((masks R.toList []).getD j 0).testBit i=true\/x.apart R y=true
 one:∀(i j:Nat)(x y:Oper)(d:Nat),R[i]? =some x->R[j]? =some y->x.dst=some d->y.dst=some d->i=j
 rng:∀(j m:Nat),j<R.size->m<2^eF.length->Xd R eF j m=true->m∈rng.getD j []
 acW:∀k,k<eF.length->eF.getD k 0<R.size
 apart:∀k k',k<k'->k'<eF.length->eF.getD k 0≠eF.getD k' 0
theorem acX(h:acV R N eF rng=true):Ot R N eF rng:=by
 unfold acV at h;rw[Bool.and_eq_true] at h;obtain⟨h1,h2⟩:=h;have H:∀(j:Nat)(o:Oper),R[j]? =some o->_:=fun j o ho=>List.all_eq_true.1 h1 j (List.mem_range.2 (Array.getElem?_eq_some_iff.1 ho).1)
 have H0:∀(j:Nat)(o:Oper),R[j]? =some o->o.guard.isNone=true/\(match o.op with| .select .. =>false|_=>true)=true/\o.after.toList.all (fun e=> !Region.binds .any e||decide (e.on<j))=true/\(match o.dst with|some d=>decide (d<N)|none=>true)=true:=by
  intro j o ho;have:=H j o ho;simp only[ho,Bool.and_eq_true] at this;exact⟨this.1.1.1.1.1,this.1.1.1.1.2,this.1.1.1.2,this.1.1.2⟩
 have H1:∀(i j:Nat)(x y:Oper),i<j->R[i]? =some x->R[j]? =some y->((((masks R.toList []).getD j 0).testBit i||x.apart R y)&&(x.dst.isNone||x.dst !=y.dst))=true:=by
  intro i j x y hij hx hy;have:=H j y hy;simp only[Bool.and_eq_true] at this;have:=List.all_eq_true.1 this.1.2 i (List.mem_range.2 hij);simp only[hx,hy] at this;exact this
 have H2:∀(i j:Nat)(x y:Oper)(d:Nat),i<j->R[i]? =some x->R[j]? =some y->x.dst=some d->y.dst=some d->False:=by
  intro i j x y d hij hx hy h1 h2;have:=H1 i j x y hij hx hy;simp[h1,h2] at this
 refine⟨fun j o ho=>by simpa using (H0 j o ho).1,fun j o ho cs b e=> ?_,fun i o e ho he hb=> ?_,fun i o ho d hd=> ?_,fun i j x y hij hx hy=> ?_,fun i j x y d hx hy h1 h2=> ?_,fun j m hj hm hp=> ?_,fun k hk=> ?_,fun k k' hkk hk=> ?_⟩
 ·have:=(H0 j o ho).2.1;rw[e] at this;cases this
 ·have:=List.all_eq_true.1 (H0 i o ho).2.2.1 e (by simpa using he);simpa [hb] using this
 ·have:=(H0 i o ho).2.2.2;rw[hd] at this;simpa using this
 ·have:=H1 i j x y hij hx hy;rw[Bool.and_eq_true,Bool.or_eq_true] at this;exact this.1
 ·rcases Nat.lt_trichotomy i j with h|h|h
  ·exact(H2 i j x y d h hx hy h1 h2).elim
  ·exact h
  ·exact(H2 j i y x d h hy hx h2 h1).elim
 ·have:=List.all_eq_true.1 h1 j (List.mem_range.2 hj);rw[Bool.and_eq_true] at this;have:=List.all_eq_true.1 this.2 m (List.mem_range.2 hm);simpa [hp] using this
 ·have:=List.all_eq_true.1 h2 k (List.mem_range.2 hk);rw[Bool.and_eq_true] at this;simpa using this.1
 ·have:=List.all_eq_true.1 h2 k' (List.mem_range.2 hk);rw[Bool.and_eq_true] at this;have:=List.all_eq_true.1 this.2 k (List.mem_range.2 hkk);simpa using this
structure Xe(R:Array Oper)(eF:List Nat)(W:Nat->World)(vs:Nat->Value)(a0:Act)(listed:Array Bool)(a:Act)(w:World):Prop where
 size:listed.size=R.size
 closed:∀i o e,R[i]? =some o->listed.getD i false=true->e∈o.after->Region.binds .any e=true->listed.getD e.on false=true
 wld:∃m,m<2^eF.length/\(∀k,k<eF.length->(listed.getD (eF.getD k 0) false=true<->m.testBit k=true))/\w=W m
 defs:a.defers=a0.defers
 Xf:a.tmps.size=a0.tmps.size
 got:∀j o t,R[j]? =some o->o.dst=some t->listed.getD j false=true->a.tmps.getD t undef=vs j
 old:∀t,(∀j o,R[j]? =some o->o.dst=some t->listed.getD j false=false)->a.tmps.getD t undef=a0.tmps.getD t undef
theorem jH(a:Act)(d:Option Nat)(v:Value):(a.put d v).tmps.size=a.tmps.size:=by cases d<;>simp[Act.put]
theorem put_defers(a:Act)(d:Option Nat)(v:Value):(a.put d v).defers=a.defers:=by cases d<;>rfl
theorem IV{a:Act}{d:Nat}{v:Value}(h:d<a.tmps.size):(a.put (some d) v).tmps.getD d undef=v:=by simp[Act.put,h]
theorem QU(hok:Ot R N eF rng){a0:Act}(hN:a0.tmps.size=N)(Nf:A 0=a0)(hA:∀j o,R[j]? =some o->A (j+1)=(A j).put o.dst (vs j)):
 ∀n,n<=R.size->(A n).tmps.size=N/\(A n).defers=a0.defers/\(∀t,(∀j o,j<n->R[j]? =some o->o.dst≠some t)->(A n).tmps.getD t undef=a0.tmps.getD t undef)/\(∀j o t,j<n->R[j]? =some o->o.dst=some t->(A n).tmps.getD t undef=vs j):=by
 intro n
 induction n with
 |zero=>intro _;rw[Nf];exact⟨hN,rfl,fun _ _=>rfl,fun j o t hj=>by omega⟩
 |succ n ih=>
  intro hn;obtain⟨i1,i2,i3,i4⟩:=ih (by omega);have ho:R[n]? =some R[n]:=Array.getElem?_eq_getElem (by omega);have hAn:=hA n _ ho;refine⟨by rw[hAn,jH];exact i1,by rw[hAn,put_defers];exact i2,fun t ht=> ?_,fun j o t hj hjo hd=> ?_⟩
  ·rw[hAn,qm (ht n _ (by omega) ho)];exact i3 t fun j o hj hjo=>ht j o (by omega) hjo
  ·by_cases e:j=n
   ·subst e;rw[ho] at hjo;cases hjo;rw[hAn,hd,IV (by rw[i1];exact hok.dst _ _ ho _ hd)]
   ·rw[hAn,qm fun q=>e (hok.one j n _ _ t hjo ho hd q)];exact i4 j o t (by omega) hjo hd
theorem ZM{Q:Exit->Act->World->Prop}(hok:Ot R N eF rng){a0:Act}(hN:a0.tmps.size=N)(Nf:A 0=a0)
 (hA:∀j o,R[j]? =some o->A (j+1)=(A j).put o.dst (vs j)/\∀m∈rng.getD j [],rV P o (A j).eval (W m) (vs j) (W (xO eF j m)))
 {listed:Array Bool}{a:Act}{w:World}(hM:Xe R eF W vs a0 listed a w){i:Nat}(hi:i∈Region.ready .any R listed):
 wpOp P R Q i (fun a' w'=>Xe R eF W vs a0 (listed.setIfInBounds i true) a' w') a w:=by
 obtain⟨hun,o,ho,EH⟩:=mem_ready.1 hi;have hlt:i<R.size:=(Array.getElem?_eq_some_iff.1 ho).1
 have hls:i<listed.size:=by rw[hM.size];exact hlt
 have vS:listed.getD i false=false:=by simp[hls] at hun ⊢;exact hun
 have hset:(listed.setIfInBounds i true).getD i false=true:=by simp[hls]
 have Da:∀j x k,R[j]? =some x->listed.getD j false=true->((masks R.toList []).getD j 0).testBit k=true->listed.getD k false=true:=fun j x k hx hE hb=>
  AO (fun k=>listed.getD k false=true) hM.closed hok.edge j x hx (fun e he hb=>hM.closed j x e hx hE he hb) k hb
 have yc:∀k,((masks R.toList []).getD i 0).testBit k=true->listed.getD k false=true:=fun k hb=>
  AO (fun k=>listed.getD k false=true) hM.closed hok.edge i o ho (fun e he hb=>EH e he hb) k hb
 obtain⟨m,hm,hmk,rfl⟩:=hM.wld;obtain⟨c1,c2,c3,c4⟩:=QU hok hN Nf (fun j o h=>(hA j o h).1) i (by omega)
 have hev:∀x∈o.op.operands,a.eval x=(A i).eval x:=by
  intro x hx
  cases x with
  |tmp t=>
   have Ju:t∈o.looksAt R:=D7 hx rfl;show a.tmps.getD t undef=(A i).tmps.getD t undef;by_cases hw:∃(j:Nat) (y:Oper),j<i/\R[j]? =some y/\y.dst=some t
   ·obtain⟨j,y,hj,hy,hd⟩:=hw;rw[c4 j y t hj hy hd];refine hM.got j y t hy hd (yc j ?_);rcases hok.pair j i y o hj hy ho with h|h
    ·exact h
    ·exact absurd Ju ((Oper.apart_spec h).1 t hd)
   ·rw[c3 t fun j y hj hy hd=>hw ⟨j,y,hj,hy,hd⟩];refine hM.old t fun j y hy hd=> ?_
    cases hl:listed.getD j false with
    |false=>rfl
    |true=>
     exfalso;rcases Nat.lt_trichotomy j i with h|h|h
     ·exact hw ⟨j,y,h,hy,hd⟩
     ·subst h;rw[vS] at hl;cases hl
     ·rcases hok.pair i j o y h ho hy with k|k
      ·rw[Da j y i hy hl k] at vS;cases vS
      ·exact(Oper.apart_spec k).2.2 t hd Ju
  |_=>rfl
 have ajM:m∈rng.getD i []:=by
  refine hok.rng i m hlt hm ?_;unfold Xd;refine List.all_eq_true.2 fun k hk=> ?_;have hk:=List.mem_range.1 hk
  cases q:m.testBit k with
  |false=>
   rw[if_neg (by decide)]
   cases hb:((masks R.toList []).getD i 0).testBit (eF.getD k 0) with
   |false=>rfl
   |true=>
    have:=(hmk k hk).1 (yc _ hb);rw[q] at this;cases this
  |true=>
   rw[if_pos rfl];have hl:=(hmk k hk).2 q;have he:R[eF.getD k 0]? =some (R[eF.getD k 0]'(hok.acW k hk)):=Array.getElem?_eq_getElem (hok.acW k hk);rw[Bool.and_eq_true,Bool.and_eq_true];refine⟨⟨?_,?_⟩,List.all_eq_true.2 fun k' hk'=> ?_⟩
   ·cases hb:((masks R.toList []).getD (eF.getD k 0) 0).testBit i with
    |false=>rfl
    |true=>rw[Da _ _ i he hl hb] at vS;cases vS
   ·rw[bne_iff_ne];intro e;rw[e,vS] at hl;cases hl
   ·cases hb:((masks R.toList []).getD (eF.getD k 0) 0).testBit (eF.getD k' 0) with
    |false=>rfl
    |true=>exact(hmk k' (List.mem_range.1 hk')).1 (Da _ _ _ he hl hb)
 have hdo:=(hA i o ho).2 m ajM;unfold rV at hdo;rw[<-execOp_congr o (hok.air i o ho) hev] at hdo;unfold wpOp;simp only[ho];rw[if_pos (by simp[Region.wanted,hok.guard i o ho])];refine .inl (rV.wp hdo ?_);refine⟨by simpa using hM.size,fun j x e hx hE he hb=> ?_,?_,by rw[put_defers];exact hM.defs,by rw[jH];exact hM.Xf,fun j y t hy hd hl=> ?_,fun t ht=> ?_⟩
 ·by_cases hji:j=i
  ·subst hji;rw[ho] at hx;cases hx;exact getD_set_true (EH e he hb)
  ·rw[getD_set_ne false (Ne.symm hji)] at hE;exact getD_set_true (hM.closed j x e hx hE he hb)
 ·by_cases hie:i∈eF
  ·obtain⟨k,hk,rfl⟩:∃k,k<eF.length/\eF.getD k 0=i:=by
    obtain⟨k,hk,e⟩:=List.getElem_of_mem hie;exact⟨k,hk,by simp[hk,e]⟩
   have hix:eF.idxOf (eF.getD k 0)=k:=by
    have h1:eF.idxOf (eF.getD k 0)<eF.length:=List.idxOf_lt_length_iff.2 hie
    have h2:eF.getD (eF.idxOf (eF.getD k 0)) 0=eF.getD k 0:=by
     rw[List.getD_eq_getElem?_getD,List.getElem?_eq_getElem h1,Option.getD_some];exact List.getElem_idxOf h1
    rcases Nat.lt_trichotomy (eF.idxOf (eF.getD k 0)) k with h|h|h
    ·exact absurd h2 (hok.apart _ k h hk)
    ·exact h
    ·exact absurd h2.symm (hok.apart k _ h h1)
   refine⟨m ||| 2^k,Nat.or_lt_two_pow hm (Nat.pow_lt_pow_right (by decide) hk),fun k' hk'=> ?_,?_⟩
   ·rw[Nat.testBit_or,Nat.testBit_two_pow];by_cases e:k'=k
    ·subst e;rw[hset,decide_eq_true rfl,Bool.or_true]
    ·have hne:eF.getD k 0≠eF.getD k' 0:=by
      rcases Nat.lt_trichotomy k k' with h|h|h
      ·exact hok.apart k k' h hk'
      ·exact absurd h.symm e
      ·exact(hok.apart k' k h hk).symm
     rw[getD_set_ne false hne,hmk k' hk'];simp[Ne.symm e]
   ·unfold xO;rw[if_pos (by simpa using hie),hix]
  ·refine⟨m,hm,fun k hk=> ?_,by unfold xO;rw[if_neg (by simpa using hie)]⟩;have hne:i≠eF.getD k 0:=fun e=>hie (by rw[e];simp[hk]);rw[getD_set_ne false hne];exact hmk k hk
 ·by_cases hji:j=i
  ·subst hji;rw[ho] at hy;cases hy;rw[hd,IV (by rw[hM.Xf,hN];exact hok.dst _ _ ho _ hd)]
  ·rw[getD_set_ne false (Ne.symm hji)] at hl;rw[qm fun q=>hji (hok.one j i _ _ t hy ho hd q)];exact hM.got j y t hy hd hl
 ·have hne:o.dst≠some t:=fun q=>by
   have:=ht i o ho q;rw[hset] at this;cases this
  rw[qm hne];refine hM.old t fun j y hy hd=> ?_;have:=ht j y hy hd;by_cases hji:j=i
  ·subst hji;exact vS
  ·rw[getD_set_ne false (Ne.symm hji)] at this;exact this
theorem acY{Q:Exit->Act->World->Prop}(hok:Ot R N eF rng){a0:Act}(hN:a0.tmps.size=N)(Nf:A 0=a0)
 (hA:∀j o,R[j]? =some o->A (j+1)=(A j).put o.dst (vs j)/\∀m∈rng.getD j [],rV P o (A j).eval (W m) (vs j) (W (xO eF j m)))
 (hQ:Q .normal (A R.size) (W (2^eF.length-1))):
 ∀(fuel:Nat)(listed:Array Bool)(a:Act)(w:World),(List.range R.size).countP (fun i=> !listed.getD i false)<=fuel->Xe R eF W vs a0 listed a w->wpAny P .any R Q fuel listed a w:=by
 have hend:∀listed a w,Xe R eF W vs a0 listed a w->Region.ready .any R listed=[]->Q .normal a w:=by
  intro listed a w hM hr
  have hall:∀i,i<R.size->listed.getD i false=true:=by
   intro i
   induction i using Nat.strongRecOn with
   |_ i ih=>
    intro hi
    cases hE:listed.getD i false with
    |true=>rfl
    |false=>
     exfalso;have ho:R[i]? =some R[i]:=Array.getElem?_eq_getElem hi
     have:i∈Region.ready .any R listed:=by
      rw[mem_ready]
      have hs:i<listed.size:=by rw[hM.size];exact hi
      refine⟨by simp[hs] at hE ⊢;exact hE,_,ho,fun e he hb=> ?_⟩;have hon:=hok.edge i _ e ho he hb;exact ih e.on hon (by omega)
     rw[hr] at this;simp at this
  obtain⟨m,hm,hmk,rfl⟩:=hM.wld;obtain⟨c1,c2,c3,c4⟩:=QU hok hN Nf (fun j o h=>(hA j o h).1) R.size (Nat.le_refl _)
  have hme:m=2^eF.length-1:=by
   refine Nat.eq_of_testBit_eq fun k=> ?_;rw[Nat.testBit_two_pow_sub_one];by_cases q:k<eF.length
   ·rw[(hmk k q).1 (hall _ (hok.acW k q)),decide_eq_true q]
   ·rw[decide_eq_false q];exact Nat.testBit_lt_two_pow (Nat.lt_of_lt_of_le hm (Nat.pow_le_pow_right (by decide) (by omega)))
  subst hme
  have hae:a=A R.size:=by
   have hg:∀t,a.tmps.getD t undef=(A R.size).tmps.getD t undef:=by
    intro t;by_cases hw:∃(j:Nat) (y:Oper),R[j]? =some y/\y.dst=some t
    ·obtain⟨j,y,hy,hd⟩:=hw;have hj:=(Array.getElem?_eq_some_iff.1 hy).1;rw[c4 j y t hj hy hd];exact hM.got j y t hy hd (hall j hj)
    ·rw[c3 t fun j y _ hy hd=>hw ⟨j,y,hy,hd⟩];exact hM.old t fun j y hy hd=>absurd ⟨j,y,hy,hd⟩ hw
   have hs:a.tmps.size=(A R.size).tmps.size:=by rw[hM.Xf,hN,c1]
   have ht:a.tmps=(A R.size).tmps:=by
    refine Array.ext hs fun t h1 h2=> ?_;have:=hg t;simpa [h1,h2] using this
   have hd:a.defers=(A R.size).defers:=hM.defs.trans c2.symm;obtain⟨CB,ad1⟩:=a
   generalize A R.size=b at *
   obtain⟨bt,bd⟩:=b;simp only at ht hd;rw[ht,hd]
  rw[hae];exact hQ
 intro fuel
 induction fuel with
 |zero=>
  intro listed a w hc hM
  have hnone:Region.ready .any R listed=[]:=by
   cases hr:Region.ready .any R listed with
   |nil=>rfl
   |cons i l=>
    exfalso
    have hi:i∈Region.ready .any R listed:=by rw[hr];simp
    obtain⟨hun,o,ho,_⟩:=mem_ready.1 hi;have hlt:=(Array.getElem?_eq_some_iff.1 ho).1
    have hs:i<listed.size:=by rw[hM.size];exact hlt
    have hz:(List.range R.size).countP (fun i=> !listed.getD i false)=0:=by omega
    rw[List.countP_eq_zero] at hz;have:=hz i (List.mem_range.2 hlt);simp[hs] at hun this;rw[hun] at this;cases this
  exact⟨hnone,hend listed a w hM hnone⟩
 |succ fuel ih=>
  intro listed a w hc hM;refine⟨hend listed a w hM,fun i hi=> ?_⟩;refine wpOp_mono (fun a' w' hM'=>ih _ a' w' ?_ hM') (ZM hok hN Nf hA hM hi);obtain⟨hun,o,ho,_⟩:=mem_ready.1 hi;have hlt:=(Array.getElem?_eq_some_iff.1 ho).1
  have hs:i<listed.size:=by rw[hM.size];exact hlt
  have:=cnt_lt (fun j=> !listed.getD j false) (fun j=> !(listed.setIfInBounds i true).getD j false) (List.range R.size) i (fun x hx=>by
   by_cases e:x=i
   ·subst e;simp[hs] at hx
   ·rw[getD_set_ne false (Ne.symm e)] at hx;exact hx) (List.mem_range.2 hlt) (by simp[hs] at hun ⊢;exact hun) (by simp[hs])
  omega
end
theorem Xg{P:Program}{id:Nat}{Q:Exit->Act->World->Prop}{a:Act}{w:World}{l:List Oper}(N:Nat)(eF:List Nat)(rng:List (List Nat))(W:Nat->World)(hm:P.follows .mixedOrders=true)(hB:acV l.toArray N eF rng=true)
 (hN:a.tmps.size=N)(h0:W 0=w.drew)(h:iG P eF W (fun a'=>Q .normal a' (W (2^eF.length-1))) l rng 0 a):(Code.region id l.toArray true).wp P Q a w:=by
 refine wp_region_any hm ?_;have hok:=acX hB;obtain⟨vs,A,k0,k1,k2⟩:=Uk l rng 0 a h;refine acY (W:=W) (vs:=vs) (A:=A) hok hN k0 (fun j o hj=> ?_) (by simpa using k2) _ _ _ _ ?_ ⟨by simp,fun i o e _ hl=> ?_,⟨0,Nat.two_pow_pos _,fun k hk=> ?_,h0.symm⟩,rfl,rfl,fun j o t _ _ hl=> ?_,fun t _=>rfl⟩
 ·have:=k1 j o (by simpa using hj);rw[Nat.zero_add] at this;exact this
 ·exact Nat.le_trans List.countP_le_length (by simp)
 ·rw[getD_replicate_false] at hl;cases hl
 ·rw[getD_replicate_false];simp
 ·rw[getD_replicate_false] at hl;cases hl
section
variable {P:Program} {eF:List Nat} {W:Nat->World} {K:Act->Prop} {o:Oper} {l:List Oper} {rs:List (List Nat)} {i:Nat} {a:Act}
theorem iG.step(v:Value){r:List Nat}(h:∀m∈r,rV P o a.eval (W m) v (W (xO eF i m)))(hk:iG P eF W K l rs (i+1) (a.put o.dst v)):iG P eF W K (o::l) (r::rs) i a:=⟨v,h,hk⟩
theorem acZ{m:Nat}(he:eF.contains i=false):xO eF i m=m:=by unfold xO;rw[he];rfl
theorem iG.done(h:K a):iG P eF W K [] rs i a:=h
theorem iG.any(v:Value){r:List Nat}(he:eF.contains i=false)(h:∀w,rV P o a.eval w v w)(hk:iG P eF W K l rs (i+1) (a.put o.dst v)):iG P eF W K (o::l) (r::rs) i a:=
 ⟨v,fun m _=>by rw[acZ he];exact h _,hk⟩
theorem iG.CB(v:Value){m:Nat}{w w':World}(hw:W m=w)(hw':W (xO eF i m)=w')(h:rV P o a.eval w v w')(hk:iG P eF W K l rs (i+1) (a.put o.dst v)):iG P eF W K (o::l) ([m]::rs) i a:=
 ⟨v,fun k hk=>by
   have:k=m:=by simpa using hk
   subst this;rw[hw,hw'];exact h,hk⟩
theorem pG{ρ:Operand->Value}{w w':World}{v:Value}(h:(execOp ρ o).run P w=.ok (.value v) w'):rV P o ρ w v w':=.inl h
theorem ZN{ρ:Operand->Value}{w w':World}(h:(execOp ρ o).run P w=.ok .skip w'):rV P o ρ w undef w':=.inr ⟨h,rfl⟩
theorem Tf{ρ:Operand->Value}{w w':World}{s x:Operand}{t:TypeId}{v u r:Value}(ho:o.op=.call {callee:=.builtin .append,args:= #[s,x],argTypes:= #[t,t]})(hs:ρ s=v)(hx:ρ x=u)
 (hr:(Builtin.append_ #[t,t] o.type #[v,u]).run P w=.ok r w'):rV P o ρ w r w':=by
 left;unfold execOp;simp only[ho,resolve,invoke,builtin,Sem.run_bind,Sem.run_pure,Result.andThen_ok,List.map_toArray,List.map_cons,List.map_nil,hs,hx,hr]
end
def wZ(c:Array Value)(k n:Nat):Array Value:=(c.toList.take (k*2)++(c.toList.drop ((k+1)*2)).take ((n-(k+1))*2)++c.toList.drop (k*2+(n-(k+1))*2)).toArray
def Ou(b k n cap:Nat):Value:=.slice (if cap=k+1 then some ⟨b,0,none⟩ else some ⟨b,(k+1)*2,none⟩) (n-(k+1)) (cap-(k+1))
section
variable {P:Program} {w:World} {σ:Nat->Nat}
theorem ZO{c:Array Value}{k n:Nat}(hk:k<n)(hn:n*2<=c.size):(wZ c k n).size=c.size:=by
 unfold wZ;simp only[List.size_toArray,List.length_append,List.length_take,List.length_drop,Array.length_toList];omega
theorem ac0{c:Array Value}{k n j:Nat}(hk:k<n)(hn:n*2<=c.size)(hj:j<k*2):(wZ c k n)[j]? =c[j]? :=by
 unfold wZ;rw[List.getElem?_toArray,List.append_assoc,List.getElem?_append_left (by simp;omega),List.getElem?_take_of_lt hj,Array.getElem?_toList]
theorem ZP{c:Array Value}{k n j:Nat}(hk:k<n)(hn:n*2<=c.size)(hj:k*2<=j)(hj2:j<(n-1)*2):(wZ c k n)[j]? =c[j+2]? :=by
 unfold wZ;rw[List.getElem?_toArray,List.append_assoc,List.getElem?_append_right (by simp;omega),List.getElem?_append_left (by simp;omega),List.getElem?_take_of_lt (by simp;omega),List.getElem?_drop,Array.getElem?_toList];congr 1
 simp
 omega
theorem afd{t e ty:TypeId}{b k n cap:Nat}{c:Array Value}{et:TypeId}{i:TypeInfo}(ht:P.underlying t=some (.slice e))(hi:P.info? e=some i)(h2:i.size=2)
 (hb:w.heap[b]? =some (.cells c et (0,0)))(hk:k<n)(hn:n<=cap)(hfit:cap*2<=c.size)(hone:∀j,j<n*2->∃v:Value,c[j]? =some v/\v.oneCell'=true):
 (Builtin.append_ #[t,t] ty #[.slice (some ⟨b,0,none⟩) k cap,Ou b k n cap]).run P w=.ok (.slice (some ⟨b,0,none⟩) (n-1) cap) (w.setRow b (wZ c k n)):=by
 have hsz:((c.toList.drop ((k+1)*2)).take ((n-(k+1))*2)).length=(n-(k+1))*2:=by
  simp only[List.length_take,List.length_drop,Array.length_toList];omega
 have hr:=zI (P:=P) (w:=w) (t:=t) (u:=t) (ty:=ty) (b:=b) (off:=0) (sLen:=k) (sCap:=cap) (m:=n-(k+1)) (yv:=Ou b k n cap) (i:=i) (ya:=((c.toList.drop ((k+1)*2)).take ((n-(k+1))*2)).toArray) (c:=c) (et:=et) ht (.inl ⟨_,ht⟩) hi rfl (by
  rw[h2];unfold Ou;by_cases he:cap=k+1
  ·have hm:n-(k+1)=0:=by omega
   rw[if_pos he,hm];simp[Builtin.firstCells,loadCells,loadCellsFrom]
  ·rw[if_neg he]
   exact rW (a:=⟨b,(k+1)*2,none⟩) rfl hb _ fun j hj=>⟨_,Array.getElem?_eq_getElem (by simp only;omega)⟩) (by omega) hb (by rw[h2];simp only[List.size_toArray,hsz];omega) (fun v hv=>by
  obtain⟨j,hj⟩:=List.getElem?_of_mem hv;simp only at hj;have hjl:=(List.getElem?_eq_some_iff.1 hj).1;rw[hsz] at hjl;rw[List.getElem?_take_of_lt hjl,List.getElem?_drop,Array.getElem?_toList] at hj;obtain⟨u,h1,h3⟩:=hone ((k+1)*2+j) (by omega)
  rw[h1] at hj;cases hj;exact h3)
 rw[h2,show k+(n-(k+1))=n-1 by omega,Nat.zero_add] at hr;rw[hr];simp only[List.size_toArray,hsz];rfl
theorem Xh{es:List (List D)}(hz:∀e∈es,e.length=2){k:Nat}(hk:k<es.length)(j:Nat):(es.eraseIdx k).flatten[j]? =if j<k*2 then es.flatten[j]? else es.flatten[j+2]? :=by
 have h1:(es.take k).flatten.length=k*2:=by rw[gN _ 2 (fun e he=>hz e (List.mem_of_mem_take he)),List.length_take,Nat.min_eq_left (by omega)]
 rw[List.eraseIdx_eq_take_drop_succ,List.flatten_append];split
 ·rename_i h;rw[List.getElem?_append_left (by omega)]
  have:es.flatten=(es.take k).flatten++(es.drop k).flatten:=by rw[<-List.flatten_append,List.take_append_drop]
  rw[this,List.getElem?_append_left (by omega)]
 ·rename_i h;rw[List.getElem?_append_right (by omega),h1,Mi es 2 hz (k+1) (by omega)];congr 1;omega
theorem afe{a:List UInt8}{es:List (List D)}{k:Nat}{o1:Obj}{Ω:Store}{β:Hs}(hk:k<es.length)(hS:dL w σ ([.box [.d (.s a),.gQ (0,2)],o1,.dN 2 es]::Ω) β):
 ∃(b0 b cap:Nat) (HZ cc:Array Value) (t0 ty:TypeId),aW β (0,0)=some (.pointer (some ⟨b0,0,none⟩))/\aW β (0,2)=some (.slice (some ⟨b,0,none⟩) es.length cap)/\w.heap[b0]? =some (.cells HZ t0 (0,0))/\w.heap[b]? =some (.cells cc ty (0,0))/\b≠b0/\
  HZ.size=2/\HZ[1]? =some (.slice (some ⟨b,0,none⟩) es.length cap)/\es.length<=cap/\cap*2<=cc.size/\(∀j,j<es.length*2->∃v:Value,cc[j]? =some v/\v.oneCell'=true)/\
  ∀wf:World,wf.heap.size=w.heap.size->wf.os=w.os->wf.output=w.output->(∀x,x≠b->x≠b0->wf.heap[x]? =w.heap[x]?)->wf.heap[b]? =some (.cells (wZ cc k es.length) ty (0,0))->
   wf.heap[b0]? =some (.cells (HZ.setIfInBounds 1 (.slice (some ⟨b,0,none⟩) (es.length-1) cap)) t0 (0,0))->
   ∃σ',dL wf σ' ([.box [.d (.s a),.d (.sl (es.eraseIdx k))],o1,.dead]::Ω) β/\Keep ([.box [.d (.s a),.gQ (0,2)],o1,.dN 2 es]::Ω) β ([.box [.d (.s a),.d (.sl (es.eraseIdx k))],o1,.dead]::Ω) β/\
    Step ([.box [.d (.s a),.gQ (0,2)],o1,.dN 2 es]::Ω) β σ w ([.box [.d (.s a),.d (.sl (es.eraseIdx k))],o1,.dead]::Ω) β σ' wf:=by
 obtain⟨hh0,g0,b0,HZ,t0,rfl,hb0,O3,ac1⟩:=hS.obj (0,0) _ rfl;obtain⟨tQ,g2,hz,ad,cap,rfl,hcap,hcase⟩:=hS.obj (0,2) _ rfl
 have hcap0:cap≠0:=by omega
 obtain⟨b,cc,ty,rfl,hb,hσ,hfit,hcells⟩:=hcase.resolve_left hcap0;obtain⟨v0,f0,r0,o0⟩:=ac1.2 0 _ rfl;obtain⟨v1,f1,r1,_⟩:=ac1.2 1 _ rfl
 have hv1:v1=.slice (some ⟨b,0,none⟩) es.length cap:=by
  obtain⟨o,ho,hl⟩:=r1;cases ho;have:=hl _ _ rfl;exact(Option.some.inj (this.symm.trans g2))
 subst hv1
 have hs0:HZ.size=2:=by have:=ac1.1;simpa using this.symm
 have hbb:b≠b0:=by
  rintro rfl;have:=hS.apart (0,0) (0,2) _ _ _ _ b rfl g0 rfl rfl g2 (by simp[owns,blk,hcap0]);cases this
 have hfl:=gN es 2 hz
 have hn2:es.length*2<=cc.size:=by omega
 have hlt:=lt_of_some hb;refine⟨b0,b,cap,HZ,cc,t0,ty,g0,g2,hb0,hb,hbb,hs0,by simpa using f1,hcap,hfit,fun j hj=> ?_,fun wf q1 q2 q3 q4 q5 q6=> ?_⟩
 ·obtain⟨v,h1,h2⟩:=hcells j _ (List.getElem?_eq_getElem (by omega));exact⟨v,h1,h2.one⟩
 have hel:(es.eraseIdx k).length=es.length-1:=List.length_eraseIdx_of_lt hk
 let w1:World:=w.setRow b (wZ cc k es.length)
 let σ':Nat->Nat:=fun x=>if x=b then(es.length-1)*2 else σ x
 have hcs:=ZO hk hn2;have h1b:w1.heap[b]? =some (.cells (wZ cc k es.length) ty (0,0)):=setRow_heap w b cc _ ty (0,0) hb;have h1o:∀x,x≠b->w1.heap[x]? =w.heap[x]? :=fun x hx=>fE _ _ _ _ hx
 have hn1:dQ w σ w1 σ':=by
  intro b1 c1 t1 yV e1;by_cases hb1:b1=b
  ·subst hb1;rw[hb] at e1;cases e1;exact⟨by simp only[σ',if_true];omega,fun h=>by omega,_,h1b,hcs,fun i hi=>by omega⟩
  ·exact⟨by simp only[σ',if_neg hb1];exact Nat.le_refl _,fun _=>if_neg hb1,c1,(h1o b1 hb1).trans e1,rfl,fun _ _=>rfl⟩
 have hl1:∀x,x<w1.heap.size\/σ' x=0:=fun x=>by
  by_cases hx:x=b
  ·left;subst hx;show _<(w.setRow _ _).heap.size;rw[setRow_size];exact hlt
  ·rcases hS.live x with h|h
   ·left;show _<(w.setRow _ _).heap.size;rw[setRow_size];exact h
   ·right;simp only[σ',if_neg hx];exact h
 obtain⟨hS1,hk1,yM⟩:=hS.set (k:=(0,2)) (o':=.dead) (h':=.slice (some ⟨b,0,none⟩) es.length cap) rfl g2 (w':=w1) (σ':=σ') (by show _<=(w.setRow _ _).heap.size;rw[setRow_size];exact Nat.le_refl _) rfl rfl hn1 hl1
  (fun x hx hno=>⟨h1o x fun e=>hno (by subst e;simp[owns,blk,hcap0]),if_neg fun e=>hno (by subst e;simp[owns,blk,hcap0])⟩) (.inl rfl) trivial (fun x hx=>by cases hx)
 rw[uQ undef β (0,2) _ g2] at hS1 hk1 yM
 have hrest:cu w1 σ' (.sl (es.eraseIdx k)) (.slice (some ⟨b,0,none⟩) (es.length-1) cap):=by
  rw[<-hel];refine .sl b 0 cap 2 _ (fun j=>((wZ cc k es.length)[j]?).getD undef) (wZ cc k es.length) ty (0,0) (by omega) (fun e he=>hz e (List.mem_of_mem_eraseIdx he)) h1b (by simp only[σ',if_true,hel];omega) (fun j hj=> ?_) (fun j d hd=> ?_)
  ·rw[hel] at hj;rw[Nat.zero_add,Array.getElem?_eq_getElem (by rw[hcs];omega)];rfl
  ·have hjl:j<(es.length-1)*2:=by
    have:=(List.getElem?_eq_some_iff.1 hd).1;rw[gN (es.eraseIdx k) 2 (fun e he=>hz e (List.mem_of_mem_eraseIdx he)),hel] at this;exact this
   rw[Xh hz hk] at hd;split at hd
   ·rename_i hj;obtain⟨v,h1,h2⟩:=hcells j d hd;rw[ac0 hk hn2 hj,h1];exact h2.mono hn1
   ·rename_i hj;obtain⟨v,h1,h2⟩:=hcells (j+2) d hd;rw[ZP hk hn2 (by omega) hjl,h1];exact h2.mono hn1
 have LZ:w1.heap[b0]? =some (.cells HZ t0 (0,0)):=(h1o b0 (Ne.symm hbb)).trans hb0;have akN:=lt_of_some hb0
 have hfx:∀x,x≠b0->wf.heap[x]? =w1.heap[x]? :=fun x hx=>by
  by_cases e:x=b
  ·subst e;rw[q5,h1b]
  ·rw[q4 x e hx,h1o x e]
 have hsz1:w1.heap.size=w.heap.size:=setRow_size ..
 have agT:dQ w1 σ' wf σ':=by
  intro x c1 t1 yV e1;by_cases e:x=b0
  ·subst e;rw[LZ] at e1;cases e1;have:σ' x=0:=(if_neg (Ne.symm hbb)).trans O3;exact⟨Nat.le_refl _,fun _=>rfl,_,q6,by simp,fun i hi=>by omega⟩
  ·exact⟨Nat.le_refl _,fun _=>rfl,c1,(hfx x e).trans e1,rfl,fun _ _=>rfl⟩
 obtain⟨hS2,hk2,vT⟩:=hS1.set (k:=(0,0)) (o:=.box [.d (.s a),.gQ (0,2)]) (o':=.box [.d (.s a),.d (.sl (es.eraseIdx k))]) (h':=.pointer (some ⟨b0,0,none⟩)) rfl g0 (w':=wf) (σ':=σ') (by rw[q1,hsz1];exact Nat.le_refl _) q2 q3 agT (fun x=>by rw[q1];rw[<-hsz1];exact hl1 x)
  (fun x hx hno=>⟨hfx x fun e=>hno (by subst e;rfl),rfl⟩) (.inr ⟨⟨_,rfl⟩,rfl⟩)
  ⟨b0,_,t0,rfl,q6,(if_neg (Ne.symm hbb)).trans O3,by simp[hs0],fun j x hx=>by
    match j,hx with
    |0,hx=>
     cases hx;refine⟨v0,?_,by cases r0;constructor,o0⟩;rw[Array.getElem?_toList,Array.getElem?_setIfInBounds_ne (by omega)];rw[Array.getElem?_toList] at f0;exact f0
    |1,hx=>
     cases hx;refine⟨_,?_,hrest.mono agT,rfl⟩;rw[Array.getElem?_toList,Array.getElem?_setIfInBounds_self_of_lt (by omega)]
    |j+2,hx=>simp at hx⟩ (fun x hx=>.inl hx)
 rw[uQ undef β (0,0) _ g0] at hS2 hk2 vT;exact⟨σ',hS2,hk1.trans hk2,yM.trans vT⟩
end
theorem Ul{bs:List Int}(hB:Bytes bs)(c:Cu bs)(l j:Nat)(S:Store)(x:ah)(hk:aW S (l,j)=some (.box (cur c)))(hx:x.sz<=1048576)(hno:x.aj.length=0\/(dI 3 c).1=false):
 bJ prog 62 [.c (.ptr (l,j) 0),x.v] S (fun r S1=>r=x.v/\S1=aX S (l,j) (.box (cur (if x.aj.length=0 then c else(dI 3 c).2)))):=by
 by_cases h0:x.aj.length=0
 ·have d0:decide (0<(x.aj.length:Int))=false:=decide_eq_false (by omega);rw[if_pos h0,uQ .dead S (l,j) _ hk];refine sw [63] (rs:=[.cell 4 39]) zmx func62 ntmps62 rfl rfl rfl rfl rfl ?_;simp -implicitDefEqProofs (disch:=omega) only[go_sem,d0]
  first|done|exact⟨rfl,rfl⟩
 ·have h1:=hno.resolve_left h0;have d0:decide (0<(x.aj.length:Int))=true:=decide_eq_true (by omega);have q1:=fun fr:List Ab.Obj=>oI hB c (1+l) j (fr::S) 3 (by rw[aV];exact hk) (by omega) (by omega);simp only[h1,ay] at q1;rw[if_neg h0];refine sw [63] (rs:=[.cell 4 39]) zmx func62 ntmps62 rfl rfl rfl rfl rfl ?_;simp -implicitDefEqProofs (disch:=omega) only[go_sem,d0];refine aT rfl (q1 _) ?_;simp -implicitDefEqProofs (disch:=omega) only[go_sem,d0,ay]
  first|done|exact⟨rfl,rfl⟩
theorem turn_0{bs:List Int}(hB:Bytes bs)(c c1 c2 c3:Cu bs)(k:Nat)(l j:Nat)(S:Store)(x:ah)(hk:aW S (l,j)=some (.box (cur c)))(hx:x.sz<=1048576)(h0:x.aj.length≠0)
 (h1:dI 3 c=(true,c1))(h2:jC x.aj.length c1=((k:Int),c2))(h3:bn 3 c2=(0,c3)):
 bJ prog 62 [.c (.ptr (l,j) 0),x.v] S (fun r S1=>r=(wE x 0 k c3).1.v/\S1=aX S (l,j) (.box (cur (wE x 0 k c3).2))):=by
 have g:∀x:Ab.Obj,aW (aX S (l,j) x) (l,j)=some x:=fun x=>bW _ _ _ _ hk
 have hxl:x.aj.length<=1048576:=by rw[iB] at hx;omega
 have d0:decide (0<(x.aj.length:Int))=true:=decide_eq_true (by omega);have rk:=zo (n:=x.aj.length) c1 (by omega);rw[h2] at rk;simp only at rk
 have hkl:k<x.aj.length:=by omega
 have q1:=fun fr:List Ab.Obj=>oI hB c (1+l) j (fr::S) 3 (by rw[aV];exact hk) (by omega) (by omega);simp only[h1,ay] at q1;have q2:=fun fr:List Ab.Obj=>BM hB c1 (1+l) j (fr::aX S (l,j) (.box (cur c1))) x.aj.length (by rw[aV];exact g _) (by omega) (by omega);simp only[h2,ay,ak] at q2;have q3:=fun fr:List Ab.Obj=>dZ hB c2 (1+l) j (fr::aX S (l,j) (.box (cur c2))) 3 (by rw[aV];exact g _) (by omega) (by omega);simp only[h3,ay,ak] at q3;have q4:=fun fr:List Ab.Obj=>afc hB 1 c3 (1+l) j (fr::aX S (l,j) (.box (cur c3))) (by rw[aV];exact g _) (by omega);simp only[ay,ak] at q4;have hne:x.aj.map ah.enc≠[]:=fun e=>h0 (by rw[<-List.length_map (f:=ah.enc),e];rfl);have QV:=x.fF.1;rw[ah.aB] at QV
 have qc:=fun(own:List Ab.Obj) (Ω:Store)=>bJ.ownRow (f:=137) (args:=[x.v]) (bD:=own) (Ω:=Ω) (a:=x.aU) (z:=2) hne gW (by simpa [iM,nM] using QV) (P:=prog) (fun n=>by
  have:=DT x n hx;rw[ah.aB] at this
  exact this)
 have hT:wE x 0 k c3=(.mk x.aU (x.aj.set k (sQ 1 c3).1),(sQ 1 c3).2):=if_pos rfl;rw[hT];obtain⟨y,hy⟩:∃y,y=(sQ 1 c3).1:=⟨_,rfl⟩;obtain⟨c4,hc4⟩:∃c4,c4=(sQ 1 c3).2:=⟨_,rfl⟩;simp only[<-hy,<-hc4] at q4 ⊢;refine sw [63] (rs:=[.cell 4 39]) zmx func62 ntmps62 rfl rfl rfl rfl rfl ?_;simp -implicitDefEqProofs (disch:=omega) only[go_sem,d0];refine aT rfl (q1 _) ?_;simp -implicitDefEqProofs (disch:=omega) only[go_sem,d0,ay];refine aT rfl (qc _ _) ?_;simp -implicitDefEqProofs (disch:=omega) only[go_sem,ay];refine aT rfl (q2 _) ?_;simp -implicitDefEqProofs (disch:=omega) only[go_sem,ay,ak];refine aT rfl (q3 _) ?_;simp -implicitDefEqProofs (disch:=omega) only[go_sem,ay,ak];refine aT rfl (q4 _) ?_;simp -implicitDefEqProofs (disch:=omega) only[go_sem,ay,ak]
 (repeat(with_reducible refine And.intro ?_ ?_;focus first|omega|rfl|assumption|exact⟨_,rfl,rfl⟩|(simp;omega)|(simp;done)))
 refine⟨by cases l<;>rfl,?_⟩;simp -implicitDefEqProofs (disch:=omega) only[go_sem,ay,ak]
 first
 |done
 |(simp only[List.map_set,ah.aB,ah.aU,ah.aj,ah.v];done)
 |(simp only[List.map_set,ah.aB,ah.aU,ah.aj,ah.v];rfl)
theorem turn_2{bs:List Int}(hB:Bytes bs)(c c1 c2 c3:Cu bs)(k:Nat)(l j:Nat)(S:Store)(x:ah)(hk:aW S (l,j)=some (.box (cur c)))(hx:x.sz<=1048576)(h0:x.aj.length≠0)
 (h1:dI 3 c=(true,c1))(h2:jC x.aj.length c1=((k:Int),c2))(h3:bn 3 c2=(2,c3)):
 bJ prog 62 [.c (.ptr (l,j) 0),x.v] S (fun r S1=>r=(wE x 2 k c3).1.v/\S1=aX S (l,j) (.box (cur (wE x 2 k c3).2))):=by
 have g:∀x:Ab.Obj,aW (aX S (l,j) x) (l,j)=some x:=fun x=>bW _ _ _ _ hk
 have hxl:x.aj.length<=1048576:=by rw[iB] at hx;omega
 have d0:decide (0<(x.aj.length:Int))=true:=decide_eq_true (by omega);have rk:=zo (n:=x.aj.length) c1 (by omega);rw[h2] at rk;simp only at rk
 have hkl:k<x.aj.length:=by omega
 have q1:=fun fr:List Ab.Obj=>oI hB c (1+l) j (fr::S) 3 (by rw[aV];exact hk) (by omega) (by omega);simp only[h1,ay] at q1;have q2:=fun fr:List Ab.Obj=>BM hB c1 (1+l) j (fr::aX S (l,j) (.box (cur c1))) x.aj.length (by rw[aV];exact g _) (by omega) (by omega);simp only[h2,ay,ak] at q2;have q3:=fun fr:List Ab.Obj=>dZ hB c2 (1+l) j (fr::aX S (l,j) (.box (cur c2))) 3 (by rw[aV];exact g _) (by omega) (by omega);simp only[h3,ay,ak] at q3;have qc:=fun(own:List Ab.Obj)=>oJ.push (pre:=[.d (.s x.aU)]) (post:=[]) rfl rfl (S':=own::aX S (l,j) (.box (cur c1))) rfl (Xc x hx (own::aX S (l,j) (.box (cur c1))));have hT:wE x 2 k c3=(.mk x.aU (x.aj++[x.aj.getD k eH]),c3):=rfl;rw[hT];simp only[Dp,qw,List.cons_append,List.nil_append] at qc;refine sw [63] (rs:=[.cell 4 39]) zmx func62 ntmps62 rfl rfl rfl rfl rfl ?_;simp -implicitDefEqProofs (disch:=omega) only[go_sem,d0];refine aT rfl (q1 _) ?_;simp -implicitDefEqProofs (disch:=omega) only[go_sem,d0,ay];refine aT rfl (qc _) ?_;simp -implicitDefEqProofs (disch:=omega) only[go_sem,ay];refine aT rfl (q2 _) ?_;simp -implicitDefEqProofs (disch:=omega) only[go_sem,ay,ak];refine aT rfl (q3 _) ?_;simp -implicitDefEqProofs (disch:=omega) only[go_sem,ay,ak]
 (repeat(with_reducible refine And.intro ?_ ?_;focus first|omega|rfl|assumption|exact⟨_,rfl,rfl⟩|(simp;omega)|(simp;done)))
 refine⟨by cases l<;>rfl,?_⟩;simp -implicitDefEqProofs (disch:=omega) only[go_sem,ay,ak]
 have hg:x.aj.getD k eH=x.aj[k]:=by rw[List.getD_eq_getElem?_getD,List.getElem?_eq_getElem hkl];rfl
 rw[hg]
 first
 |done
 |(simp only[List.map_append,List.map_cons,List.map_nil,ah.aB,ah.aU,ah.aj,ah.v];done)
theorem xS2:(prog.info? 39).map (fun i=>i.size)=some 2:=by kernel_rfl
theorem iV{a:Act}{d:Nat}{v:Value}(h:d<a.tmps.size):(a.put (some d) v).eval (.tmp d)=v:=IV h
theorem H6{a:Act}{v:Value}{x:Operand}:(a.put none v).eval x=a.eval x:=rfl
theorem QW{w:World}{g j b:Nat}{v:Value}(h:b≠g):(w.setCell ⟨g,j,none⟩ v).heap[b]? =w.heap[b]? :=by
 simp[World.setCell,Array.getElem?_modify,Ne.symm h]
theorem ZQ{w:World}{g j:Nat}{v:Value}{cur:Array Value}{t:TypeId}{fz:Nat×Nat}(h:w.heap[g]? =some (.cells cur t fz)):(w.setCell ⟨g,j,none⟩ v).heap[g]? =some (.cells (cur.setIfInBounds j v) t fz):=by
 simp[World.setCell,Array.getElem?_modify,h]
theorem ac2{w:World}{b:Nat}{cs:Array Value}{T:TypeId}(hb:w.heap[b]? =some (.cells cs T (0,0)))(j:Nat):w.frozen? ⟨b,j,none⟩=false:=by
 simp[World.frozen?,hb]
theorem gG{a:Act}{d t:Nat}{v:Value}(h:d≠t):(a.put (some d) v).eval (.tmp t)=a.eval (.tmp t):=qm (by simpa using h)
theorem turn_1{bs:List Int}(hB:Bytes bs)(c c1 c2 c3:Cu bs)(k:Nat)(l j:Nat)(S:Store)(x:ah)(hk:aW S (l,j)=some (.box (cur c)))(hx:x.sz<=1048576)(h0:x.aj.length≠0)
 (h1:dI 3 c=(true,c1))(h2:jC x.aj.length c1=((k:Int),c2))(h3:bn 3 c2=(1,c3)):
 bJ prog 62 [.c (.ptr (l,j) 0),x.v] S (fun r S1=>r=(wE x 1 k c3).1.v/\S1=aX S (l,j) (.box (cur (wE x 1 k c3).2))):=by
 have g:∀x:Ab.Obj,aW (aX S (l,j) x) (l,j)=some x:=fun x=>bW _ _ _ _ hk
 have hxl:x.aj.length<=1048576:=by rw[iB] at hx;omega
 have d0:decide (0<(x.aj.length:Int))=true:=decide_eq_true (by omega);have rk:=zo (n:=x.aj.length) c1 (by omega);rw[h2] at rk;simp only at rk
 have hkl:k<x.aj.length:=by omega
 have q1:=fun fr:List Ab.Obj=>oI hB c (1+l) j (fr::S) 3 (by rw[aV];exact hk) (by omega) (by omega);simp only[h1,ay] at q1;have q2:=fun fr:List Ab.Obj=>BM hB c1 (1+l) j (fr::aX S (l,j) (.box (cur c1))) x.aj.length (by rw[aV];exact g _) (by omega) (by omega);simp only[h2,ay,ak] at q2;have q3:=fun fr:List Ab.Obj=>dZ hB c2 (1+l) j (fr::aX S (l,j) (.box (cur c2))) 3 (by rw[aV];exact g _) (by omega) (by omega);simp only[h3,ay,ak] at q3;have hne:x.aj.map ah.enc≠[]:=fun e=>h0 (by rw[<-List.length_map (f:=ah.enc),e];rfl);have QV:=x.fF.1;rw[ah.aB] at QV
 have qc:=fun(own:List Ab.Obj) (Ω:Store)=>bJ.ownRow (f:=137) (args:=[x.v]) (bD:=own) (Ω:=Ω) (a:=x.aU) (z:=2) hne gW (by simpa [iM,nM] using QV) (P:=prog) (fun n=>by
  have:=DT x n hx;rw[ah.aB] at this
  exact this)
 have hT:wE x 1 k c3=(.mk x.aU (x.aj.eraseIdx k),c3):=rfl;rw[hT];refine acS (rs:=[.cell 4 39]) zmx func62 ntmps62 rfl rfl rfl rfl rfl ?_;refine wY [63] zmx rfl ?_;simp -implicitDefEqProofs (disch:=omega) only[go_sem];refine EA ?_;refine wY [63] zmx rfl ?_;simp -implicitDefEqProofs (disch:=omega) only[go_sem,d0];refine aT rfl (q1 _) ?_;simp -implicitDefEqProofs (disch:=omega) only[go_sem,d0,ay];refine ZK rfl ?_;refine wY [63] zmx rfl ?_;simp -implicitDefEqProofs (disch:=omega) only[go_sem,ay];refine aT rfl (qc _ _) ?_;simp -implicitDefEqProofs (disch:=omega) only[go_sem,ay];refine wY [63] zmx rfl ?_;simp -implicitDefEqProofs (disch:=omega) only[go_sem,ay];refine aT rfl (q2 _) ?_;simp -implicitDefEqProofs (disch:=omega) only[go_sem,ay,ak];refine wY [63] zmx rfl ?_;simp -implicitDefEqProofs (disch:=omega) only[go_sem,ay];refine aT rfl (q3 _) ?_;simp -implicitDefEqProofs (disch:=omega) only[go_sem,ay,ak];refine Ih ?_;refine wY [63] zmx rfl ?_;simp -implicitDefEqProofs (disch:=omega) only[go_sem,ay];refine agS rfl ?_;refine wY [63] zmx rfl ?_;simp -implicitDefEqProofs (disch:=omega) only[go_sem,ay];refine ZK rfl ?_;refine Vg (tm':=[(3,.c (.ptr (0,0) 0)),(4,.c (.ptr (0,1) 0)),(5,.c (.d (.i .i64 k)))]) ?_ (fun t=> ?_)
 rotate_left
 ·by_cases e3:t=3
  ·subst e3;exact .inl rfl
  by_cases e4:t=4
  ·subst e4;exact .inl rfl
  by_cases e5:t=5
  ·subst e5;exact .inl rfl
  exact .inr (show(if 3=t then _ else if 4=t then _ else if 5=t then _ else V.any)=V.any by rw[if_neg (Ne.symm e3),if_neg (Ne.symm e4),if_neg (Ne.symm e5)])
 intro a w σ β hR;obtain⟨b0,b,cap,HZ,cc,t0,ty,g0,g2,hb0,hb,hbb,hs0,hc1,hcap,hfit,hone,hfin⟩:=afe (k:=k) (by rw[List.length_map];exact hkl) hR.S;rw[List.length_map] at g2 hc1 hcap hone hfin
 have e3:a.eval (.tmp 3)=.pointer (some ⟨b0,0,none⟩):=by
  obtain⟨⟨o,ho,hl⟩,_⟩:=hR.T 3;cases ho;obtain⟨bb,h1,h2⟩:=hl _ rfl;rw[g0] at h1;cases h1;exact h2
 have e5:a.eval (.tmp 5)=.int .i64 k:=by
  obtain⟨h,_⟩:=hR.T 5;generalize hv:a.tmps.getD 5 undef=v at h;cases h;exact hv
 have hN:=hR.size;have hD:=hR.defers;have hTT:=hR.T;obtain⟨n,hn⟩:∃n,n=x.aj.length:=⟨_,rfl⟩;rw[<-hn] at g2 hc1 hcap hone hfin hkl hxl
 obtain⟨i,hi,hi2⟩:∃i,prog.info? 39=some i/\i.size=2:=by
  have h:=xS2
  cases hh:prog.info? 39 with
  |none=>rw[hh] at h;cases h
  |some i=>rw[hh] at h;exact⟨i,rfl,Option.some.inj h⟩
 have hrun:=afd (P:=prog) (w:=w.drew) (t:=37) (ty:=37) underlying37 hi hi2 hb hkl hcap hfit hone;obtain⟨w1,hw1⟩:∃w1,w1=w.drew.setRow b (wZ cc k n):=⟨_,rfl⟩;obtain⟨wf,hwf⟩:∃wf,wf=w1.setCell ⟨b0,1,none⟩ (.slice (some ⟨b,0,none⟩) (n-1) cap):=⟨_,rfl⟩;rw[<-hw1] at hrun;obtain⟨W,vD,w1e,w3e⟩:∃W:Nat->World,W 0=w.drew/\W 1=w1/\W 3=wf:=⟨fun m=>if m=0 then w.drew else if m=1 then w1 else wf,rfl,rfl,rfl⟩;refine Xg 55 [9,11] [[0],[0],[0],[0],[0],[0],[0],[0],[0],[0],[1],[1]] W zmx (by kernel_rfl) hN vD ?_
 have m1:(k:Int)<=(cap:Int):=by omega
 have m2:¬cap<k:=by omega
 have m3:(k:Int)+1<=(n:Int):=by omega
 have m4:(0:Int)<=(k:Int)+1:=by omega
 have m5:¬n<k+1:=by omega
 have m6:IntKind.i64.wrap ((k:Int)+1)=(k:Int)+1:=IntWalk.i64_in _ (by omega)
 have LZ:w1.heap[b0]? =some (.cells HZ t0 (0,0)):=by rw[hw1,fE _ _ _ _ (Ne.symm hbb)];exact hb0
 have r2:w1.cell? ⟨b0,1,none⟩=some (.slice (some ⟨b,0,none⟩) n cap):=by rw[cell_of LZ];exact hc1
 have r3:=ac2 LZ 1
 obtain⟨σ',z1,z2,z3⟩:=hfin wf (by rw[hwf,hw1];simp[World.setCell,World.setRow]) (by rw[hwf,hw1];rfl) (by rw[hwf,hw1];rfl)
  (fun y h1 h2=>by rw[hwf,QW h2,hw1,fE _ _ _ _ h1];rfl)
  (by rw[hwf,QW hbb,hw1];exact setRow_heap w.drew b cc _ ty (0,0) hb)
  (by rw[hwf];exact ZQ LZ)
 rw[hn] at hkl;clear hfin hn hw1 LZ;have hwf':wf=w1.setCell ⟨b0,1,none⟩ (.slice (some ⟨b,0,none⟩) (n-1) cap):=hwf;clear hwf
 have r1:w.drew.cell? ⟨b0,1,none⟩=some (.slice (some ⟨b,0,none⟩) n cap):=by rw[cell_of (w:=w.drew) (off:=1) hb0];exact hc1
 refine iG.CB (.pointer (some ⟨b0,1,none⟩)) vD vD (pG (by simp only[execOp,gG,iV,jH,hN,ne_eq,Nat.reduceEqDiff,not_false_eq_true,Nat.reduceLT,e3,e5];go_simp)) ?_;refine iG.CB (.slice (some ⟨b,0,none⟩) n cap) vD vD (pG (by simp only[execOp,gG,iV,jH,hN,ne_eq,Nat.reduceEqDiff,not_false_eq_true,Nat.reduceLT,e3,e5];go_simp)) ?_;refine iG.CB (.int .i64 k) vD vD (pG (by simp only[execOp,gG,iV,jH,hN,ne_eq,Nat.reduceEqDiff,not_false_eq_true,Nat.reduceLT,e3,e5];go_simp)) ?_;refine iG.CB (.slice (some ⟨b,0,none⟩) k cap) vD vD (pG (by simp only[execOp,gG,iV,jH,hN,ne_eq,Nat.reduceEqDiff,not_false_eq_true,Nat.reduceLT,e3,e5];go_simp;try(intro h;omega))) ?_;refine iG.CB (.pointer (some ⟨b0,1,none⟩)) vD vD (pG (by simp only[execOp,gG,iV,jH,hN,ne_eq,Nat.reduceEqDiff,not_false_eq_true,Nat.reduceLT,e3,e5];go_simp)) ?_;refine iG.CB (.slice (some ⟨b,0,none⟩) n cap) vD vD (pG (by simp only[execOp,gG,iV,jH,hN,ne_eq,Nat.reduceEqDiff,not_false_eq_true,Nat.reduceLT,e3,e5];go_simp)) ?_;refine iG.CB (.int .i64 k) vD vD (pG (by simp only[execOp,gG,iV,jH,hN,ne_eq,Nat.reduceEqDiff,not_false_eq_true,Nat.reduceLT,e3,e5];go_simp)) ?_;refine iG.CB (.int .i64 (k+1)) vD vD (pG (by simp only[execOp,gG,iV,jH,hN,ne_eq,Nat.reduceEqDiff,not_false_eq_true,Nat.reduceLT,e3,e5];go_simp)) ?_;refine iG.CB (Ou b k n cap) vD vD (pG (by simp only[execOp,gG,iV,jH,hN,ne_eq,Nat.reduceEqDiff,not_false_eq_true,Nat.reduceLT,e3,e5];go_simp;first|done|rfl|(rw[if_pos m3];rfl))) ?_;refine iG.CB (.slice (some ⟨b,0,none⟩) (n-1) cap) vD w1e (Tf rfl (by simp only[gG,iV,jH,hN,ne_eq,Nat.reduceEqDiff,not_false_eq_true,Nat.reduceLT,e3,e5]) (by simp only[gG,iV,jH,hN,ne_eq,Nat.reduceEqDiff,not_false_eq_true,Nat.reduceLT,e3,e5]) hrun) ?_;refine iG.CB (.pointer (some ⟨b0,1,none⟩)) w1e w1e (pG (by simp only[execOp,gG,iV,jH,hN,ne_eq,Nat.reduceEqDiff,not_false_eq_true,Nat.reduceLT,e3,e5];go_simp)) ?_;refine iG.CB undef w1e w3e (ZN (by simp only[execOp,gG,iV,jH,hN,ne_eq,Nat.reduceEqDiff,not_false_eq_true,Nat.reduceLT,e3,e5];rw[hwf'];clear hwf';go_simp)) ?_;refine iG.done ?_;rw[show W (2^ [9,11].length-1)=wf from w3e];refine⟨⟨[(3,.c (.ptr (0,0) 0)),(4,.c (.ptr (0,1) 0))],_⟩,σ',β,⟨by simp only[jH];exact hN,by simp only[put_defers];exact hD,z1,fun t=> ?_⟩,z3,Keep.refl _ _,?_⟩
 ·have ht:=(hTT.mono z3.near z2) t;by_cases e3':t=3
  ·subst e3';have he:∀(y:Act),y.tmps.getD 3 undef=y.eval (.tmp 3):=fun _=>rfl;rw[he];simp only[gG,ne_eq,Nat.reduceEqDiff,not_false_eq_true,H6];exact ht
  by_cases e4':t=4
  ·subst e4';have he:∀(y:Act),y.tmps.getD 4 undef=y.eval (.tmp 4):=fun _=>rfl;rw[he];simp only[gG,ne_eq,Nat.reduceEqDiff,not_false_eq_true,H6];exact ht
  show cB _ _ _ _ (if 3=t then _ else if 4=t then _ else V.any) _;rw[if_neg (Ne.symm e3'),if_neg (Ne.symm e4')];trivial
 simp -implicitDefEqProofs (disch:=omega) only[go_sem];refine agR [63] zmx rfl ?_;simp -implicitDefEqProofs (disch:=omega) only[go_sem];simp only[List.eraseIdx_eq_take_drop_succ,ah.v,ah.aU,ah.aj,List.map_append,List.map_take,List.map_drop]
theorem QX{bs:List Int}(hB:Bytes bs)(c:Cu bs)(l j:Nat)(S:Store)(x:ah)(hk:aW S (l,j)=some (.box (cur c)))(hx:x.sz<=1048576):
 bJ prog 62 [.c (.ptr (l,j) 0),x.v] S (fun r S1=>r=(Bj x c).1.v/\S1=aX S (l,j) (.box (cur (Bj x c).2))):=by
 have hxl:x.aj.length<=1048576:=by rw[iB] at hx;omega
 by_cases h0:x.aj.length=0
 ·have:=Ul hB c l j S x hk hx (.inl h0);rw[if_pos h0] at this;rw[Bj,if_pos h0];exact this
 by_cases ho:(dI 3 c).1=true
 ·rw[Bj,if_neg h0,if_pos ho];have r1:=zo (n:=x.aj.length) (dI 3 c).2 (by omega);have r2:=iA (n:=3) (jC x.aj.length (dI 3 c).2).2 (by omega);have hk1:jC x.aj.length (dI 3 c).2=(((jC x.aj.length (dI 3 c).2).1.toNat:Int),(jC x.aj.length (dI 3 c).2).2):=Prod.ext (by show _=_;simp only;omega) rfl;have ho1:dI 3 c=(true,(dI 3 c).2):=Prod.ext ho rfl
  have hm:(bn 3 (jC x.aj.length (dI 3 c).2).2).1=0\/(bn 3 (jC x.aj.length (dI 3 c).2).2).1=1\/(bn 3 (jC x.aj.length (dI 3 c).2).2).1=2:=by omega
  rcases hm with hm|hm|hm
  ·rw[hm];exact turn_0 hB c _ _ _ _ l j S x hk hx h0 ho1 hk1 (Prod.ext hm rfl)
  ·rw[hm];exact turn_1 hB c _ _ _ _ l j S x hk hx h0 ho1 hk1 (Prod.ext hm rfl)
  ·rw[hm];exact turn_2 hB c _ _ _ _ l j S x hk hx h0 ho1 hk1 (Prod.ext hm rfl)
 ·have ho':(dI 3 c).1=false:=by cases h:(dI 3 c).1<;>simp_all
  have:=Ul hB c l j S x hk hx (.inr ho');rw[if_neg h0] at this;rw[Bj,if_neg h0,if_neg ho];exact this
theorem QY(s:List UInt8):bL (encS s)=s.length:=by simp[encS,bL,D.sz]
theorem FD(t:List UInt8)(y:au):bL (aM.mk t y).enc=t.length+y.sz:=by
 simp only[aM.aB,bL,bZ,D.sz,au.dz];omega
theorem Um(n:Int):(o9 n).sz=0:=by rw[o9,oK,qH];simp[bB]
theorem Un:Qf.sz=3:=by rw[Qf,LK];rfl
end Go.Ab