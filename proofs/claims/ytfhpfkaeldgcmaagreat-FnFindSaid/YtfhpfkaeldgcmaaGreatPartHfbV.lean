/-
  SEVERAL TEXTS IN ONE (merged by program): contracts and models, each with its own heading.
-/
import Derived.Test.YtfhpfkaeldgcmaaGreatPartHfbG
import Derived.Test.YtfhpfkaeldgcmaaGreatPartHfbL
import Derived.Test.YtfhpfkaeldgcmaaGreatPartHfbT
import Derived.Test.YtfhpfkaeldgcmaaGreatPartHfbU
open Go.Proofs Go.Proofs.Tryz
set_option linter.unusedSimpArgs false
set_option linter.unusedVariables false
set_option maxRecDepth 4000
set_option maxRecDepth 8000
namespace Go.Ab
def LB(P:Program)(o:Oper)(ρ:Operand->Value)(w:World)(v:Value)(w':World):Prop:=(execOp ρ o).run P w=.ok (.value v) w'\/((execOp ρ o).run P w=.ok .skip w'/\v=undef)
theorem LB.wp{P:Program}{o:Oper}{a:Act}{w w':World}{v:Value}{K:Act->World->Prop}{Q:Exit->Act->World->Prop}(h:LB P o a.eval w v w')(hK:K (a.put o.dst v) w'):o.wp P a w K Q:=by
 unfold Oper.wp;rcases h with h|⟨h,rfl⟩
 ·rw[h];exact hK
 ·rw[h];exact hK
def PN(mJ:List Nat)(i m:Nat):Nat:=if mJ.contains i then m ||| 2^mJ.idxOf i else m
def xB(P:Program)(mJ:List Nat)(W:Nat->World)(K:Act->Prop):List Oper->List (List Nat)->Nat->Act->Prop
 |[],_,_,a=>K a
 |o::l,rs,i,a=>∃v,(∀m∈rs.headD [],LB P o a.eval (W m) v (W (PN mJ i m)))/\xB P mJ W K l rs.tail (i+1) (a.put o.dst v)
def akP(R:Array Oper)(mJ:List Nat)(i m:Nat):Bool:=
 (List.range mJ.length).all fun k=>if m.testBit k then !((masks R.toList []).getD (mJ.getD k 0) 0).testBit i&&mJ.getD k 0 !=i&&(List.range mJ.length).all (fun k'=> !((masks R.toList []).getD (mJ.getD k 0) 0).testBit (mJ.getD k' 0)||m.testBit k')
   else !((masks R.toList []).getD i 0).testBit (mJ.getD k 0)
section
variable {P:Program} {R:Array Oper} {N:Nat} {mJ:List Nat} {rng:List (List Nat)} {W:Nat->World} {vs:Nat->Value} {A:Nat->Act}
structure an1(R:Array Oper)(N:Nat)(mJ:List Nat)(rng:List (List Nat)):Prop where
 guard:∀(j:Nat)(o:Oper),R[j]? =some o->o.guard=none
 an2:∀(j:Nat)(o:Oper),R[j]? =some o->∀cs b,o.op≠ .select cs b
 edge:∀(i:Nat)(o:Oper)(e:Edge),R[i]? =some o->e∈o.after->Region.binds .any e=true->e.on<i
 dst:∀(i:Nat)(o:Oper),R[i]? =some o->∀d,o.dst=some d->d<N
 pair:∀(i j:Nat)(x y:Oper),i<j->R[i]? =some x->R[j]? =some y->((masks R.toList []).getD j 0).testBit i=true\/x.apart R y=true
 one:∀(i j:Nat)(x y:Oper)(d:Nat),R[i]? =some x->R[j]? =some y->x.dst=some d->y.dst=some d->i=j
 rng:∀(j m:Nat),j<R.size->m<2^mJ.length->akP R mJ j m=true->m∈rng.getD j []
 aoc:∀k,k<mJ.length->mJ.getD k 0<R.size
 apart:∀k k',k<k'->k'<mJ.length->mJ.getD k 0≠mJ.getD k' 0
structure aod(R:Array Oper)(mJ:List Nat)(W:Nat->World)(vs:Nat->Value)(a0:Act)(listed:Array Bool)(a:Act)(w:World):Prop where
 size:listed.size=R.size
 closed:∀i o e,R[i]? =some o->listed.getD i false=true->e∈o.after->Region.binds .any e=true->listed.getD e.on false=true
 wld:∃m,m<2^mJ.length/\(∀k,k<mJ.length->(listed.getD (mJ.getD k 0) false=true<->m.testBit k=true))/\w=W m
 defs:a.defers=a0.defers
 an3:a.tmps.size=a0.tmps.size
 got:∀j o t,R[j]? =some o->o.dst=some t->listed.getD j false=true->a.tmps.getD t undef=vs j
 old:∀t,(∀j o,R[j]? =some o->o.dst=some t->listed.getD j false=false)->a.tmps.getD t undef=a0.tmps.getD t undef
end
section
variable {P:Program} {mJ:List Nat} {W:Nat->World} {K:Act->Prop} {o:Oper} {l:List Oper} {rs:List (List Nat)} {i:Nat} {a:Act}
theorem xB.step(v:Value){r:List Nat}(h:∀m∈r,LB P o a.eval (W m) v (W (PN mJ i m)))(hk:xB P mJ W K l rs (i+1) (a.put o.dst v)):xB P mJ W K (o::l) (r::rs) i a:=⟨v,h,hk⟩
theorem aef{m:Nat}(he:mJ.contains i=false):PN mJ i m=m:=by unfold PN;rw[he];rfl
theorem xB.done(h:K a):xB P mJ W K [] rs i a:=h
theorem xB.any(v:Value){r:List Nat}(he:mJ.contains i=false)(h:∀w,LB P o a.eval w v w)(hk:xB P mJ W K l rs (i+1) (a.put o.dst v)):xB P mJ W K (o::l) (r::rs) i a:=
 ⟨v,fun m _=>by rw[aef he];exact h _,hk⟩
end
theorem pY:∀a b:List (List D),aN (a++b)=aN a+aN b
 |[],b=>by simp[aN]
 |r::a,b=>by rw[List.cons_append,aN,aN,pY a b];omega
section
variable {P:Program} {N:Nat} {w w':World} {σ σ':Nat->Nat} {S S':Store} {β β':Hs} {s:St} {a:Act}
def C.mv(n j m:Nat):C->C
 | .iJ (0,i)=>if i=m then .iJ (0,j) else if i<n/\i≠j then .iJ (0,i) else .any
 | .bS (0,i) es=>if i<n/\i≠j then .bS (0,i) es else .any
 | .ptr (0,i) off=>if i<n/\i≠j then .ptr (0,i) off else .any
 | .kR (0,i) x off=>if i<n/\i≠j then .kR (0,i) x off else .any
 | .mp (0,i)=>if i<n/\i≠j then .mp (0,i) else .any
 | .fn _ _=>.any
 | .xp (0,i) r p=>if i<n/\i≠j then .xp (0,i) r p else .any
 | .xq (0,i) r p z x off=>if i<n/\i≠j then .xq (0,i) r p z x off else .any
 |c=>c
end
section
variable {P:Program} {N:Nat} {S:Store}
theorem Io(r:Nat)(T:Value)(h:r9 undef r=some T):False:=by cases h
theorem agR{c:Code}{Q:Exit->St->Prop}{tm:List (Nat×V)}{Ω:Store}(h:AW P N c Q ⟨tm,[.xf []]::Ω⟩):AW P N c Q ⟨tm,[]::Ω⟩:=by
 refine l9 h fun a w σ β hR=> ?_;obtain⟨bo,bΩ,rfl,hlen⟩:=frames hR
 obtain⟨hS',hk,hst⟩:=hR.S.push (o:=.xf []) (h:=undef) (Grow.refl hR.S.live) hlen
  ⟨fun r es e=>by simp at e,fun r T e=>(Io r T e).elim,fun b hb=>by obtain⟨r,T,e,_⟩:=hb;exact(Io r T e).elim,fun r r' T T' x _ e _ _ _=>Io r T e⟩
  (fun b hb=>by obtain⟨r,T,e,_⟩:=hb;exact(Io r T e).elim)
 exact⟨σ,_,⟨hR.size,hR.defers,hS',fun u=>(hR.T u).mono (eG.refl _ _) hk⟩,hst,Keep.refl _ _⟩
end
section
variable {P:Program} {S S':Store} {f:FuncId} {args:List V}
end
section
variable {w:World} {σ:Nat->Nat}
mutual
theorem amI{σ2:Nat->Nat}{lo:Nat}(hs:∀b c t fz m,w.heap[b]? =some (.cells c t fz)->σ b=c.size+1+m->lo<=m->σ2 b=σ b):∀(d:D)(n:Nat)(v:Value),lo<=n->oO d=true->dN w σ (jo d n) v->dN w σ2 (jo d n) v
 | .sl es,n,v,hn,hp,h=>by
   rw[jo] at h ⊢;have hrec:=afs hs es (n+1);generalize eU es (n+1)=q at h hrec ⊢
   cases h with
   |xO n a cap=>exact .xO n a cap
   |ol n b off cap z q vals c t hcap hlen hb hσ hfit hc hv hx=>exact .ol n b off cap z q vals c t hcap hlen hb ((hs b c t _ _ hb hσ hn).trans hσ) hfit hc (hrec vals (by omega) (by simpa [oO] using hp) hv) hx
 | .ol m es,n,v,hn,hp,h=>by simp[oO] at hp
 | .b x,n,v,hn,hp,h=>by rw[jo] at h ⊢;cases h;constructor
 | .i k x,n,v,hn,hp,h=>by rw[jo] at h ⊢;cases h;constructor
 | .s l,n,v,hn,hp,h=>by rw[jo] at h ⊢;cases h;constructor
 | .o u,n,v,hn,hp,h=>by simp[oO] at hp
theorem aiS{σ2:Nat->Nat}{lo:Nat}(hs:∀b c t fz m,w.heap[b]? =some (.cells c t fz)->σ b=c.size+1+m->lo<=m->σ2 b=σ b):∀(r:List D)(n:Nat)(vals:Nat->Value),lo<=n->jC r=true->(∀(j:Nat)(d:D),(fF r n)[j]? =some d->dN w σ d (vals j))->
 ∀(j:Nat)(d:D),(fF r n)[j]? =some d->dN w σ2 d (vals j)
 |[],n,vals,hn,hp,h,j,d,hd=>by simp[fF] at hd
 |a::r,n,vals,hn,hp,h,j,d,hd=>by
  rw[jC,Bool.and_eq_true] at hp;rw[fF] at h hd
  cases j with
  |zero=>
   simp at hd;subst hd;exact amI hs a n _ hn hp.1 (h 0 _ rfl)
  |succ j=>exact aiS hs r (n+oD a) (fun i=>vals (i+1)) (by omega) hp.2 (fun i d hi=>h (i+1) d hi) j d hd
theorem afs{σ2:Nat->Nat}{lo:Nat}(hs:∀b c t fz m,w.heap[b]? =some (.cells c t fz)->σ b=c.size+1+m->lo<=m->σ2 b=σ b):∀(rs:List (List D))(n:Nat)(vals:Nat->Value),lo<=n->jM rs=true->(∀(j:Nat)(d:D),(eU rs n).flatten[j]? =some d->dN w σ d (vals j))->
 ∀(j:Nat)(d:D),(eU rs n).flatten[j]? =some d->dN w σ2 d (vals j)
 |[],n,vals,hn,hp,h,j,d,hd=>by simp[eU] at hd
 |r::rs,n,vals,hn,hp,h,j,d,hd=>by
  rw[jM,Bool.and_eq_true] at hp;rw[eU,List.flatten_cons] at h hd;by_cases hj:j<(fF r n).length
  ·rw[List.getElem?_append_left hj] at hd;exact aiS hs r n vals hn hp.1 (fun j d hd=>h j d (by rw[List.getElem?_append_left (List.getElem?_eq_some_iff.1 hd).1];exact hd)) j d hd
  ·rw[List.getElem?_append_right (by omega)] at hd;have:=afs hs rs (n+uy r) (fun i=>vals ((fF r n).length+i)) (by omega) hp.2 (fun j d hd=>h _ d (by rw[List.getElem?_append_right (by omega),Nat.add_sub_cancel_left];exact hd)) (j-(fF r n).length) d hd
   rwa [show(fF r n).length+(j-(fF r n).length)=j by omega] at this
end
end
section
variable {P:Program}
end
section
variable {P:Program} {N:Nat} {S:Store} {s:St}
end
section
variable {P:Program} {N:Nat} {S:Store}
theorem Ad(T:List TypeId){f:FuncId}{fn:Func}{c:Code}{args:List V}{post:V->Store->Prop}{rs:List ResultVar}(fu:P.follows .mixedOrders=true)(hf:P.funcs[f]? =some fn)(hN:fn.ntmps=N)
 (hb:fn.body=some c) (hn:(fn.name== "runtime.NumGoroutine")=false) (hr:fn.results.toList=rs) (hl:Nat.ble args.length N=true) (hok:nZ T N c=true)
 (h:mI P N T c (Ju P rs post) ⟨kM (args.map (V.up 1)) 0,[.xf []]::S⟩):cB P f args S post:=by
 subst hN;subst hr;exact qm hf hb hn (Nat.le_of_ble_eq_true hl) (agR (AU uh (nT fu c _ _ hok h)))
theorem aeg{c:Code}{Q:Exit->St->Prop}{tm:List (Nat×V)}{Ω:Store}(h:AW P N c Q ⟨tm,[.xf [[]]]::Ω⟩):AW P N c Q ⟨tm,[]::Ω⟩:=by
 refine l9 h fun a w σ β hR=> ?_;obtain⟨bo,bΩ,rfl,hlen⟩:=frames hR
 have hroot:∀r T,r9 (.tuple #[sF]) r=some T->r=0/\T=sF:=fun r T e=>by
  cases r with
  |zero=>exact⟨rfl,(Option.some.inj e).symm⟩
  |succ r=>simp[r9] at e
 have hown:∀b,¬zQ (.tuple #[sF]) b:=fun b ⟨r,T,e,ho⟩=>by
  obtain⟨_,rfl⟩:=hroot r T e;exact wV ho
 obtain⟨hS',hk,hst⟩:=hR.S.push (o:=.xf [[]]) (h:=.tuple #[sF]) (Grow.refl hR.S.live) hlen
  ⟨fun r es e=>by
    cases r with
    |zero=>cases e;exact⟨sF,rfl,.nil none 0 _ rfl Gj⟩
    |succ r=>simp at e,fun r T e=>by rw[(hroot r T e).1];exact Nat.zero_lt_one,fun b hb=>(hown b hb).elim,fun r r' T T' x hne e e' ho=>by
    obtain⟨_,rfl⟩:=hroot r T e
    exact(wV ho).elim⟩
  (fun b hb=>(hown b hb).elim)
 exact⟨σ,_,⟨hR.size,hR.defers,hS',fun u=>(hR.T u).mono (eG.refl _ _) hk⟩,hst,Keep.refl _ _⟩
theorem Yf(T:List TypeId){f:FuncId}{fn:Func}{c:Code}{args:List V}{post:V->Store->Prop}{rs:List ResultVar}(fu:P.follows .mixedOrders=true)(hf:P.funcs[f]? =some fn)(hN:fn.ntmps=N)
 (hb:fn.body=some c) (hn:(fn.name== "runtime.NumGoroutine")=false) (hr:fn.results.toList=rs) (hl:Nat.ble args.length N=true) (hok:nZ T N c=true)
 (h:mI P N T c (Ju P rs post) ⟨kM (args.map (V.up 1)) 0,[.xf [[]]]::S⟩):cB P f args S post:=by
 subst hN;subst hr;exact qm hf hb hn (Nat.le_of_ble_eq_true hl) (aeg (AU uh (nT fu c _ _ hok h)))
end
section
variable {P:Program} {S S1:Store}
theorem cB.of_le{f:FuncId}{args:List V}{t:V}(h:cB P f args S fun r S'=>Less r t/\S'=S1):cB P f args S fun r S'=>r=t/\S'=S1:=
 ⟨h.1,fun w σ β vs hS hv=>(h.2 w σ β vs hS hv).mono fun e w' ⟨v,r,S',σ',β',h1,h2,h3,h4,h5,h6,h7⟩=>⟨v,t,S',σ',β',h1,h2,h3,h4,h6 _ _ _ _ _ h5,rfl,h7⟩⟩
theorem aG{r t:V}(h:PG r=t):Less r t:=fun w σ S β v hr=>by
 rw[<-h];exact Rz hr _ _
end
attribute [go_sem] Bool.or_false Bool.false_or Bool.true_or Bool.or_true
def JO:aH:=⟨[110,105,108],[]⟩
def Ae:aH:=⟨[99,111,110,115],[nO [97],rU [108,105,115,116] [nO [97]]]⟩
def PO:List (List UInt8):=[[99,111,110,115],[],[111,110,101]]
theorem Yg:fq PO:=by unfold fq;decide
def uR{bs:List Int}(k:Int)(c:Cu bs):aR×Cu bs:=
 if k=0 then(⟨[108,105,115,116],[[97],(bQ Fq c).1],[JO,Ae]⟩,(bQ Fq c).2) else
 if k=1 then(⟨[108,105,115,116],[[97]],[JO,Ae].take (aX 2 c).1.toNat⟩,(aX 2 c).2) else
 if k=2 then(⟨[108,105,115,116],[[97]],[⟨[110,105,108],[(pW 2 c).1]⟩,Ae]⟩,(pW 2 c).2) else
 if k=3 then(⟨[108,105,115,116],[[97]],[⟨(bQ PO c).1,[]⟩,Ae]⟩,(bQ PO c).2) else
 (⟨[108,105,115,116],[[97]],[JO,Ae]⟩,c)
def Af{bs:List Int}(c:Cu bs):aR×Cu bs:=uR (aX 10 c).1 (aX 10 c).2
theorem Ox(s:List UInt8)(l:List ay):(aH.mk s l).sz=s.length+(l.length+oz l):=wo _
theorem EJ:Ae.sz=13:=by
 rw[wo];simp only[Ae,oz,nJ,Im,List.length_cons,List.length_nil]
theorem DL:JO.sz=3:=by rw[wo];simp[JO,oz]
theorem aeh{bs:List Int}(c:Cu bs):(Af c).1.sz<=300:=by
 unfold Af;generalize (aX 10 c).1=k;generalize (aX 10 c).2=c1;have h1:=gW c1 JM;have h2:=gW c1 Yg;have h3:=Br 2 c1
 have h4:zJ ([JO,Ae].take (aX 2 c1).1.toNat)<=16:=by
  have:=iE (n:=2) c1 (by omega)
  have:(aX 2 c1).1.toNat=0\/(aX 2 c1).1.toNat=1:=by omega
  rcases this with e|e<;>rw[e]<;>simp[zJ,DL]
 have h5:([JO,Ae].take (aX 2 c1).1.toNat).length<=2:=List.length_take_le' _ _;unfold uR;split
 ·simp only[pR,zJ,EJ,DL,List.map_cons,List.map_nil,List.sum_cons,List.sum_nil,List.length_cons,List.length_nil];omega
 split
 ·simp only[pR,List.map_cons,List.map_nil,List.sum_cons,List.sum_nil,List.length_cons,List.length_nil];omega
 split
 ·simp only[pR,zJ,Ox,oz,EJ,DL,List.map_cons,List.map_nil,List.sum_cons,List.sum_nil,List.length_cons,List.length_nil];omega
 split
 ·simp only[pR,zJ,Ox,oz,EJ,DL,List.map_cons,List.map_nil,List.sum_cons,List.sum_nil,List.length_cons,List.length_nil];omega
 ·simp only[pR,zJ,EJ,DL,List.map_cons,List.map_nil,List.sum_cons,List.sum_nil,List.length_cons,List.length_nil];omega
section
variable {P:Program} {w:World} {σ:Nat->Nat}
end
def vo:List (List UInt8):=[[120],[121]]
theorem JQ:fq vo:=by unfold fq;decide
def ifL:List (List UInt8):=[[],[105,102]]
theorem aei:fq ifL:=by unfold fq;decide
def p9(t:List UInt8):aC:=.mk 5 t [109] 0 zT [uV [120]] []
def vv:aU:=⟨[115,104,111,119],nO [97]⟩
def zD:dG:=⟨[120],nO [97]⟩
def Ch{bs:List Int}(s:List UInt8)(k:Int)(c:Cu bs):bJ×Cu bs:=
 if k=0 then(⟨s,[[97]],[vv],[zD],(pW 2 c).1,p9 [115,104,111,119]⟩,(pW 2 c).2) else
 if k=1 then(⟨s,[[97]],[vv],[zD,⟨(bQ vo c).1,rV⟩],rV,p9 [115,104,111,119]⟩,(bQ vo c).2) else
 if k=2 then(⟨s,[[97]],[vv],[zD],rV,(gY 3 vo c).1⟩,(gY 3 vo c).2) else
 if k=3 then(⟨s,[[97]],[⟨[115,104,111,119],(pW 1 c).1⟩],[zD],rV,p9 [115,104,111,119]⟩,(pW 1 c).2) else
 if k=4 then(⟨(bQ ifL c).1,[[97]],[vv],[zD],rV,p9 [115,104,111,119]⟩,(bQ ifL c).2) else
 (⟨s,[[97]],[vv],[zD],rV,p9 [115,104,111,119]⟩,c)
def LC{bs:List Int}(c:Cu bs):bJ×Cu bs:=Ch (bQ wu c).1 (aX 10 (bQ wu c).2).1 (aX 10 (bQ wu c).2).2
def lK:List (List UInt8):=[[115,104,111,119],[101,113],[97,100,100]]
theorem R3:fq lK:=by unfold fq;decide
def JR:List (List UInt8):=[[],[105,110,116],[65]]
theorem aaT:fq JR:=by unfold fq;decide
def R4:List (List UInt8):=[[115,101,108,102],[98]]
theorem aej:fq R4:=by unfold fq;decide
def zE:aC:=.mk 0 [] [] 0 zT [] []
def CV(t:ay)(b:Bool):aI:=⟨[109],[],t,b,[],zE⟩
def Ng(s:List UInt8):aI:=⟨[116,119,105,99,101],[nO [115,101,108,102]],rV,true,vo,nV 10 [43] [p9 s,kU 1]⟩
def fV{bs:List Int}(s:List UInt8)(b:Bool)(m:List aI)(p:List (List UInt8))(k:Int)(c:Cu bs):bF×Cu bs:=
 if k=0 then(⟨s,p,true,b,CV rV false::m⟩,c) else
 if k=1 then(⟨(bQ JR c).1,p,false,b,CV rV false::m⟩,(bQ JR c).2) else
 if k=2 then(⟨s,p,false,b,CV (nO (bQ R4 c).1) false::m⟩,(bQ R4 c).2) else
 if k=3 then(⟨s,p,false,b,CV rV true::m⟩,c) else
 if k=4 then(⟨s,p++[[111,114,100]],false,b,CV rV false::m⟩,c) else
 if k=5 then(⟨s,p,false,b,CV rV false::m++[CV rV false]⟩,c) else
 (⟨s,p,false,b,CV rV false::m⟩,c)
theorem nE(s:List UInt8):bD (encS s)=s.length:=by simp[encS,bD,D.sz]
theorem qb(t:List UInt8)(y:ay):bD (aU.mk t y).enc=t.length+y.sz:=by
 simp only[aU.aj,bD,aY,D.sz,ay.bY];omega
theorem wz(t:List UInt8)(y:ay):bD (dG.mk t y).enc=t.length+y.sz:=by
 simp only[dG.aj,bD,aY,D.sz,ay.bY];omega
theorem yw(s:List UInt8)(v:List (List UInt8))(w:List aU)(p:List dG)(r:ay)(b:aC):
 (bJ.mk s v w p r b).sz=s.length+(v.length+aN (v.map encS))+(w.length+aN (w.map aU.enc))+(p.length+aN (p.map dG.enc))+r.sz+b.sz:=by
 simp only[bJ.sz,bJ.aj,bD,aY,D.sz,List.length_map,ay.bY,aC.bY];omega
theorem agS(s:List UInt8):(uV s).sz=s.length:=by rw[uV,l7,nP];simp[aN]
theorem Nh(n:Int):(kU n).sz=0:=by rw[kU,l7,nP];simp[aN]
theorem yx(t:List UInt8):(p9 t).sz=t.length+3:=by
 rw[p9,l7,nP];simp only[List.map_cons,List.map_nil,aN,aC.bY,agS,List.length_cons,List.length_nil]
theorem sU:rV.sz=3:=by rw[rV,Nf];rfl
theorem aiT{bs:List Int}(c:Cu bs):(LC c).1.sz<=2000:=by
 unfold LC;have h0:=gW c RY;generalize (bQ wu c).1=s at h0;generalize (aX 10 (bQ wu c).2).1=k;generalize (aX 10 (bQ wu c).2).2=c1;have h1:=gW c1 JQ;have h2:=gW c1 aei;have h3:=Br 2 c1;have h4:=Br 1 c1;have h5:=JN 3 vo c1 JQ;unfold Ch;split
 ·simp only[yw,List.map_cons,List.map_nil,aN,nE,vv,zD,qb,wz,nJ,yx,List.length_cons,List.length_nil];omega
 split
 ·simp only[yw,List.map_cons,List.map_nil,aN,nE,vv,zD,qb,wz,nJ,sU,yx,List.length_cons,List.length_nil];omega
 split
 ·simp only[yw,List.map_cons,List.map_nil,aN,nE,vv,zD,qb,wz,nJ,sU,List.length_cons,List.length_nil];omega
 split
 ·simp only[yw,List.map_cons,List.map_nil,aN,nE,zD,qb,wz,nJ,sU,yx,List.length_cons,List.length_nil];omega
 split
 ·simp only[yw,List.map_cons,List.map_nil,aN,nE,vv,zD,qb,wz,nJ,sU,yx,List.length_cons,List.length_nil];omega
 ·simp only[yw,List.map_cons,List.map_nil,aN,nE,vv,zD,qb,wz,nJ,sU,yx,List.length_cons,List.length_nil];omega
theorem l13Fn_3{bs:List Int}(hB:Bytes bs)(c c1 c2:Cu bs)(s:List UInt8)(l j:Nat)(S:Store)(hk:bA S (l,j)=some (.box (cur c)))(h1:bQ wu c=(s,c1))(h2:aX 10 c1=(3,c2)):
 cB prog 104 [.c (.ptr (l,j) 0)] S (fun r S1=>r=(Ch s 3 c2).1.v/\S1=bq S (l,j) (.box (cur (Ch s 3 c2).2))):=by
 have g:∀x:Ab.Obj,bA (bq S (l,j) x) (l,j)=some x:=fun x=>dw _ _ _ _ hk;have q1:=fun fr:List Ab.Obj=>dQ hB c (1+l) j (fr::S) wu (by rw[aJ];exact hk) (by decide) (by decide);simp only[h1,ak] at q1;have q2:=fun fr:List Ab.Obj=>d9 hB c1 (1+l) j (fr::bq S (l,j) (.box (cur c1))) 10 (by rw[aJ];exact g _) (by omega) (by omega);simp only[h2,ak,ah] at q2;have q3:=fun fr:List Ab.Obj=>iH hB 1 c2 (1+l) j (fr::bq S (l,j) (.box (cur c2))) (by rw[aJ];exact g _) (by omega);simp only[ak,ah] at q3;obtain⟨q,hq⟩:∃q,q=Ch s 3 c2:=⟨_,rfl⟩;rw[<-hq];simp only[Ch,reduceIte,Int.reduceEq] at hq;refine cB.of_le ?_;refine Ad [67] (rs:=[.cell 2 117]) zmx func104 ntmps104 rfl rfl rfl rfl rfl ?_;simp -implicitDefEqProofs (disch:=omega) only[go_sem];refine bZ [true] rfl (q1 _) ?_;simp -implicitDefEqProofs (disch:=omega) only[go_sem,ak,ah];refine aB (fU _) ?_;simp -implicitDefEqProofs (disch:=omega) only[go_sem];refine aB (fU _) ?_;simp -implicitDefEqProofs (disch:=omega) only[go_sem];refine aB jH ?_;simp -implicitDefEqProofs (disch:=omega) only[go_sem];refine aB (uI _) ?_;simp -implicitDefEqProofs (disch:=omega) only[go_sem]
 (repeat(with_reducible refine And.intro ?_ ?_;focus first|omega|rfl|assumption|exact⟨_,rfl,rfl⟩|(simp;omega)|(simp;done)))
 refine bE rfl (q2 _) ?_;simp -implicitDefEqProofs (disch:=omega) only[go_sem,ak,ah];refine bE rfl (q3 _) ?_;simp -implicitDefEqProofs (disch:=omega) only[go_sem,ak,ah]
 (repeat(with_reducible refine And.intro ?_ ?_;focus first|omega|rfl|assumption|exact⟨_,rfl,rfl⟩|(simp;omega)|(simp;done)))
 refine⟨by cases l<;>rfl,?_⟩;simp -implicitDefEqProofs (disch:=omega) only[go_sem,ak,ah];rw[hq]
 first|exact⟨aG rfl,rfl⟩|(refine⟨aG ?_,rfl⟩;simp only[bJ.v,List.map_cons,List.map_nil,List.map_append,aU.aj,aH.aj,aI.aj,aT.aj,ay.aj,aC.aj,List.cons_append,List.nil_append];rfl)
theorem agT{bs:List Int}(hB:Bytes bs)(c c1 c2:Cu bs)(s:List UInt8)(k:Int)(l j:Nat)(S:Store)(hk:bA S (l,j)=some (.box (cur c)))(h1:bQ wu c=(s,c1))(h2:aX 10 c1=(k,c2))(hk3:k≠3):
 cB prog 104 [.c (.ptr (l,j) 0)] S (fun r S1=>r=(Ch s k c2).1.v/\S1=bq S (l,j) (.box (cur (Ch s k c2).2))):=by
 have g:∀x:Ab.Obj,bA (bq S (l,j) x) (l,j)=some x:=fun x=>dw _ _ _ _ hk;have q1:=fun fr:List Ab.Obj=>dQ hB c (1+l) j (fr::S) wu (by rw[aJ];exact hk) (by decide) (by decide);simp only[h1,ak] at q1;have q2:=fun fr:List Ab.Obj=>d9 hB c1 (1+l) j (fr::bq S (l,j) (.box (cur c1))) 10 (by rw[aJ];exact g _) (by omega) (by omega);simp only[h2,ak,ah] at q2;obtain⟨q,hq⟩:∃q,q=Ch s k c2:=⟨_,rfl⟩;rw[<-hq];refine cB.of_le ?_;refine pI [67] (rs:=[.cell 2 117]) zmx func104 ntmps104 rfl rfl rfl rfl rfl ?_;simp -implicitDefEqProofs (disch:=omega) only[go_sem];refine bZ [true] rfl (q1 _) ?_;simp -implicitDefEqProofs (disch:=omega) only[go_sem,ak,ah];refine aB (fU _) ?_;simp -implicitDefEqProofs (disch:=omega) only[go_sem];refine aB (fU _) ?_;simp -implicitDefEqProofs (disch:=omega) only[go_sem];refine aB jH ?_;simp -implicitDefEqProofs (disch:=omega) only[go_sem];refine aB (uI _) ?_;simp -implicitDefEqProofs (disch:=omega) only[go_sem]
 (repeat(with_reducible refine And.intro ?_ ?_;focus first|omega|rfl|assumption|exact⟨_,rfl,rfl⟩|(simp;omega)|(simp;done)))
 refine bE rfl (q2 _) ?_;simp -implicitDefEqProofs (disch:=omega) only[go_sem,ak,ah]
 with_reducible refine aD (fun hb=> ?_) (fun hb=> ?_)<;>have h:=hb<;>(try simp only[wf_preprocess] at h)<;>simp -implicitDefEqProofs (disch:=omega) only[go_sem,hb,ak,ah]<;>(repeat(with_reducible refine And.intro ?_ ?_;focus first|omega|rfl|assumption|exact⟨_,rfl,rfl⟩|(simp;omega)|(simp;done)))
 ·subst h;simp only[Ch,reduceIte,Int.reduceEq] at hq;refine bE rfl (iH hB 2 c2 (1+l) j _ (by rw[aJ];exact g _) (by omega)) ?_;simp -implicitDefEqProofs (disch:=omega) only[go_sem,ak,ah];rw[hq]
  first|exact⟨aG rfl,rfl⟩|(refine⟨aG ?_,rfl⟩;simp only[bJ.v,List.map_cons,List.map_nil,List.map_append,aU.aj,aH.aj,aI.aj,aT.aj,ay.aj,aC.aj,List.cons_append,List.nil_append];rfl)
 have e0:=h
 with_reducible refine aD (fun hb=> ?_) (fun hb=> ?_)<;>have h:=hb<;>(try simp only[wf_preprocess] at h)<;>simp -implicitDefEqProofs (disch:=omega) only[go_sem,hb,ak,ah]<;>(repeat(with_reducible refine And.intro ?_ ?_;focus first|omega|rfl|assumption|exact⟨_,rfl,rfl⟩|(simp;omega)|(simp;done)))
 ·subst h;simp only[Ch,reduceIte,Int.reduceEq] at hq;refine bZ [true] rfl (dQ hB c2 (1+l) j _ vo (by rw[aJ];exact g _) (by decide) (by decide)) ?_;simp -implicitDefEqProofs (disch:=omega) only[go_sem,ak,ah];refine aB jH ?_;simp -implicitDefEqProofs (disch:=omega) only[go_sem,ak,ah]
  (repeat(with_reducible refine And.intro ?_ ?_;focus first|omega|rfl|assumption|exact⟨_,rfl,rfl⟩|(simp;omega)|(simp;done)))
  refine⟨by cases l<;>rfl,?_⟩;simp -implicitDefEqProofs (disch:=omega) only[go_sem,ak,ah];rw[hq]
  first|exact⟨aG rfl,rfl⟩|(refine⟨aG ?_,rfl⟩;simp only[bJ.v,List.map_cons,List.map_nil,List.map_append,aU.aj,aH.aj,aI.aj,aT.aj,ay.aj,aC.aj,List.cons_append,List.nil_append];rfl)
 have e1:=h
 with_reducible refine aD (fun hb=> ?_) (fun hb=> ?_)<;>have h:=hb<;>(try simp only[wf_preprocess] at h)<;>simp -implicitDefEqProofs (disch:=omega) only[go_sem,hb,ak,ah]<;>(repeat(with_reducible refine And.intro ?_ ?_;focus first|omega|rfl|assumption|exact⟨_,rfl,rfl⟩|(simp;omega)|(simp;done)))
 ·subst h;simp only[Ch,reduceIte,Int.reduceEq] at hq;refine bZ [true] rfl (jy (mO hB 3 vo c2 (1+l) j _ (by decide) (by rw[aJ];exact g _))) ?_;simp -implicitDefEqProofs (disch:=omega) only[go_sem,ak,ah];rw[hq]
  first|exact⟨aG rfl,rfl⟩|(refine⟨aG ?_,rfl⟩;simp only[bJ.v,List.map_cons,List.map_nil,List.map_append,aU.aj,aH.aj,aI.aj,aT.aj,ay.aj,aC.aj,List.cons_append,List.nil_append];rfl)
 have e2:=h
 with_reducible refine aD (fun hb=> ?_) (fun hb=> ?_)<;>have h:=hb<;>(try simp only[wf_preprocess] at h)<;>simp -implicitDefEqProofs (disch:=omega) only[go_sem,hb,ak,ah]<;>(repeat(with_reducible refine And.intro ?_ ?_;focus first|omega|rfl|assumption|exact⟨_,rfl,rfl⟩|(simp;omega)|(simp;done)))
 ·exact absurd h hk3
 with_reducible refine aD (fun hb=> ?_) (fun hb=> ?_)<;>have h:=hb<;>(try simp only[wf_preprocess] at h)<;>simp -implicitDefEqProofs (disch:=omega) only[go_sem,hb,ak,ah]<;>(repeat(with_reducible refine And.intro ?_ ?_;focus first|omega|rfl|assumption|exact⟨_,rfl,rfl⟩|(simp;omega)|(simp;done)))
 ·subst h;simp only[Ch,reduceIte,Int.reduceEq] at hq;refine bZ [true] rfl (dQ hB c2 (1+l) j _ ifL (by rw[aJ];exact g _) (by decide) (by decide)) ?_;simp -implicitDefEqProofs (disch:=omega) only[go_sem,ak,ah];rw[hq]
  first|exact⟨aG rfl,rfl⟩|(refine⟨aG ?_,rfl⟩;simp only[bJ.v,List.map_cons,List.map_nil,List.map_append,aU.aj,aH.aj,aI.aj,aT.aj,ay.aj,aC.aj,List.cons_append,List.nil_append];rfl)
 have e4:=h;simp only[Ch,if_neg e0,if_neg e1,if_neg e2,if_neg hk3,if_neg e4] at hq;rw[hq]
 first|exact⟨aG rfl,rfl⟩|(refine⟨aG ?_,rfl⟩;simp only[bJ.v,List.map_cons,List.map_nil,List.map_append,aU.aj,aH.aj,aI.aj,aT.aj,ay.aj,aC.aj,List.cons_append,List.nil_append];rfl)
theorem aek{bs:List Int}(hB:Bytes bs)(c:Cu bs)(l j:Nat)(S:Store)(hk:bA S (l,j)=some (.box (cur c))):
 cB prog 104 [.c (.ptr (l,j) 0)] S (fun r S1=>r=(LC c).1.v/\S1=bq S (l,j) (.box (cur (LC c).2))):=by
 unfold LC;by_cases h3:(aX 10 (bQ wu c).2).1=3
 ·rw[h3];exact l13Fn_3 hB c _ _ _ l j S hk rfl (Prod.ext h3 rfl)
 ·exact agT hB c _ _ _ _ l j S hk rfl rfl h3
theorem Oy(s:List UInt8)(p:List ay)(r:ay)(d:Bool)(v:List (List UInt8))(b:aC):bD (aI.mk s p r d v b).enc=s.length+(p.length+aN (p.map ay.enc))+r.sz+(v.length+aN (v.map encS))+b.sz:=by
 simp only[aI.aj,bD,aY,D.sz,List.length_map,ay.bY,aC.bY];omega
theorem I7(s:List UInt8)(p:List (List UInt8))(a b:Bool)(m:List aI):(bF.mk s p a b m).sz=s.length+(p.length+aN (p.map encS))+(m.length+aN (m.map aI.enc)):=by
 simp only[bF.sz,bF.aj,bD,aY,D.sz,List.length_map];omega
def iC(b:Bool)(s:List UInt8):List aI:=match b with
 |true=>[Ng s]
 |false=>[]
def iI(b:Bool):List (List UInt8):=match b with
 |true=>[[111,114,100]]
 |false=>[]
def xC{bs:List Int}(c:Cu bs):bF×Cu bs:=
 fV (bQ lK c).1 (bV 3 (bQ lK c).2).1 (iC (bV 2 (bV 3 (bQ lK c).2).2).1 (bQ lK c).1) (iI (bV 3 (bV 2 (bV 3 (bQ lK c).2).2).2).1)
  (aX 12 (bV 3 (bV 2 (bV 3 (bQ lK c).2).2).2).2).1 (aX 12 (bV 3 (bV 2 (bV 3 (bQ lK c).2).2).2).2).2
theorem Vn(t:ay)(b:Bool):bD (CV t b).enc=t.sz+1:=by
 have hz:zE.sz=0:=by rw[zE,l7,nP];simp[aN]
 rw[CV,Oy,hz];simp only[List.map_nil,aN,List.length_nil,List.length_cons];omega
theorem agU(s:List UInt8):bD (Ng s).enc<=s.length+24:=by
 rw[Ng,Oy,nV,l7,nP];simp only[vo,List.map_cons,List.map_nil,aN,nE,ay.bY,aC.bY,nJ,sU,yx,Nh,List.length_nil,List.length_cons];omega
theorem agV(b:Bool)(s:List UInt8):(iC b s).length<=1/\aN ((iC b s).map aI.enc)<=s.length+24:=by
 cases b with
 |false=>exact⟨Nat.zero_le _,Nat.zero_le _⟩
 |true=>exact⟨Nat.le_refl _,by have:=agU s;simp only[iC,List.map_cons,List.map_nil,aN];omega⟩
theorem agW(b:Bool):(iI b).length<=1/\aN ((iI b).map encS)<=3:=by
 cases b with
 |false=>exact⟨Nat.zero_le _,Nat.zero_le _⟩
 |true=>exact⟨Nat.le_refl _,Nat.le_refl _⟩
theorem aaU{bs:List Int}(c:Cu bs):(xC c).1.sz<=300:=by
 unfold xC;have h0:=gW c R3;generalize (bQ lK c).1=s at h0;have h1:=agV (bV 2 (bV 3 (bQ lK c).2).2).1 s;have h2:=agW (bV 3 (bV 2 (bV 3 (bQ lK c).2).2).2).1;generalize iC (bV 2 (bV 3 (bQ lK c).2).2).1 s=m at h1;generalize iI (bV 3 (bV 2 (bV 3 (bQ lK c).2).2).2).1=p at h2;generalize (bV 3 (bQ lK c).2).1=b;generalize (aX 12 (bV 3 (bV 2 (bV 3 (bQ lK c).2).2).2).2).1=k;generalize (aX 12 (bV 3 (bV 2 (bV 3 (bQ lK c).2).2).2).2).2=c1;have h3:=gW c1 aaT;have h4:=gW c1 aej;unfold fV
 iterate 6
  split
  ·simp only[I7,List.map_cons,List.map_nil,List.map_append,aN,pY,nE,Vn,nJ,sU,List.length_cons,List.length_nil,List.length_append];omega
 simp only[I7,List.map_cons,List.map_nil,aN,Vn,sU,List.length_cons,List.length_nil];omega
theorem Yh{bs:List Int}(hB:Bytes bs)(c c1 c2 c3 c4 c5:Cu bs)(s:List UInt8)(b o p:Bool)(k:Int)(l j:Nat)(S:Store)(hk:bA S (l,j)=some (.box (cur c)))(h1:bQ lK c=(s,c1))(h2:bV 3 c1=(b,c2))(h3:bV 2 c2=(o,c3))(h4:bV 3 c3=(p,c4))(h5:aX 12 c4=(k,c5))(ho1:o=true)(R5:k=2\/k=3):
 cB prog 101 [.c (.ptr (l,j) 0)] S (fun r S1=>r=(fV s b (iC o s) (iI p) k c5).1.v/\S1=bq S (l,j) (.box (cur (fV s b (iC o s) (iI p) k c5).2))):=by
 have g:∀x:Ab.Obj,bA (bq S (l,j) x) (l,j)=some x:=fun x=>dw _ _ _ _ hk;have q1:=fun fr:List Ab.Obj=>dQ hB c (1+l) j (fr::S) lK (by rw[aJ];exact hk) (by decide) (by decide);simp only[h1,ak] at q1;have q2:=fun fr:List Ab.Obj=>iF hB c1 (1+l) j (fr::bq S (l,j) (.box (cur c1))) 3 (by rw[aJ];exact g _) (by omega) (by omega);simp only[h2,ak,ah] at q2;have q3:=fun fr:List Ab.Obj=>iF hB c2 (1+l) j (fr::bq S (l,j) (.box (cur c2))) 2 (by rw[aJ];exact g _) (by omega) (by omega);simp only[h3,ak,ah] at q3;have q4:=fun fr:List Ab.Obj=>iF hB c3 (1+l) j (fr::bq S (l,j) (.box (cur c3))) 3 (by rw[aJ];exact g _) (by omega) (by omega);simp only[h4,ak,ah] at q4;have q5:=fun fr:List Ab.Obj=>d9 hB c4 (1+l) j (fr::bq S (l,j) (.box (cur c4))) 12 (by rw[aJ];exact g _) (by omega) (by omega);simp only[h5,ak,ah] at q5;have qo:∀es:List (List D),es=[p9 s,kU 1].map aC.enc->bg prog 142 [.c (.d (.i .i64 10)),.c (.d (.s [43])),.c (.d (.sl es))] (nV 10 [43] [p9 s,kU 1]).v:=fun es he S=>jy (Cg 10 [43] [p9 s,kU 1] he (by simp) (.inl rfl) S)
 have ho:(iC o s)=(if o=true then [Ng s] else []):=by cases o<;>rfl
 have hp:(iI p)=(if p=true then [[111,114,100]] else []):=by cases p<;>rfl
 obtain⟨q,hq⟩:∃q,q=fV s b (iC o s) (iI p) k c5:=⟨_,rfl⟩;rw[<-hq];refine cB.of_le ?_;refine Yf [67] (rs:=[.cell 2 54]) zmx func101 ntmps101 rfl rfl rfl rfl rfl ?_;simp -implicitDefEqProofs (disch:=omega) only[go_sem];refine aB (fU _) ?_;simp -implicitDefEqProofs (disch:=omega) only[go_sem];refine bZ [true] rfl (q1 _) ?_;simp -implicitDefEqProofs (disch:=omega) only[go_sem,ak,ah];refine bE rfl (q2 _) ?_;simp -implicitDefEqProofs (disch:=omega) only[go_sem,ak,ah];refine aB jH ?_;simp -implicitDefEqProofs (disch:=omega) only[go_sem]
 (repeat(with_reducible refine And.intro ?_ ?_;focus first|omega|rfl|assumption|exact⟨_,rfl,rfl⟩|(simp;omega)|(simp;done)))
 refine bE rfl (q3 _) ?_;subst ho1;simp -implicitDefEqProofs (disch:=omega) only[go_sem,ak,ah];refine aB jH ?_;simp -implicitDefEqProofs (disch:=omega) only[go_sem];refine aB (uI _) ?_;simp -implicitDefEqProofs (disch:=omega) only[go_sem];refine aB (pX _) ?_;simp -implicitDefEqProofs (disch:=omega) only[go_sem];refine aB (qo _ rfl) ?_;simp -implicitDefEqProofs (disch:=omega) only[go_sem]
 (repeat(with_reducible refine And.intro ?_ ?_;focus first|omega|rfl|assumption|exact⟨_,rfl,rfl⟩|(simp;omega)|(simp;done)))
 refine⟨by cases l<;>rfl,?_⟩;simp -implicitDefEqProofs (disch:=omega) only[go_sem,ak,ah];refine bE rfl (q4 _) ?_
 cases p with
 |true=>
  simp -implicitDefEqProofs (disch:=omega) only[go_sem,ak,ah];refine bE rfl (q5 _) ?_;rcases R5 with rfl|rfl
  ·simp only[fV,iC,iI,reduceIte,Int.reduceEq] at hq;simp -implicitDefEqProofs (disch:=omega) only[go_sem,ak,ah];refine bZ [true] rfl (dQ hB c5 (1+l) j _ R4 (by rw[aJ];exact g _) (by decide) (by decide)) ?_;simp -implicitDefEqProofs (disch:=omega) only[go_sem,ak,ah];refine aB (fU _) ?_;simp -implicitDefEqProofs (disch:=omega) only[go_sem,ak,ah]
   (repeat(with_reducible refine And.intro ?_ ?_;focus first|omega|rfl|assumption|exact⟨_,rfl,rfl⟩|(simp;omega)|(simp;done)))
   refine⟨by cases l<;>rfl,?_⟩;simp -implicitDefEqProofs (disch:=omega) only[go_sem,ak,ah];rw[hq]
   first|exact⟨aG rfl,rfl⟩|(refine⟨aG ?_,rfl⟩;simp only[bF.v,List.map_cons,List.map_nil,List.map_append,aU.aj,aH.aj,aI.aj,aT.aj,ay.aj,aC.aj,List.cons_append,List.nil_append];rfl)
  ·simp only[fV,iC,iI,reduceIte,Int.reduceEq] at hq;simp -implicitDefEqProofs (disch:=omega) only[go_sem,ak,ah]
   (repeat(with_reducible refine And.intro ?_ ?_;focus first|omega|rfl|assumption|exact⟨_,rfl,rfl⟩|(simp;omega)|(simp;done)))
   rw[hq]
   first|exact⟨aG rfl,rfl⟩|(refine⟨aG ?_,rfl⟩;simp only[bF.v,List.map_cons,List.map_nil,List.map_append,aU.aj,aH.aj,aI.aj,aT.aj,ay.aj,aC.aj,List.cons_append,List.nil_append];rfl)
 |false=>
  simp -implicitDefEqProofs (disch:=omega) only[go_sem,ak,ah];refine bE rfl (q5 _) ?_;rcases R5 with rfl|rfl
  ·simp only[fV,iC,iI,reduceIte,Int.reduceEq] at hq;simp -implicitDefEqProofs (disch:=omega) only[go_sem,ak,ah];refine bZ [true] rfl (dQ hB c5 (1+l) j _ R4 (by rw[aJ];exact g _) (by decide) (by decide)) ?_;simp -implicitDefEqProofs (disch:=omega) only[go_sem,ak,ah];refine aB (fU _) ?_;simp -implicitDefEqProofs (disch:=omega) only[go_sem,ak,ah]
   (repeat(with_reducible refine And.intro ?_ ?_;focus first|omega|rfl|assumption|exact⟨_,rfl,rfl⟩|(simp;omega)|(simp;done)))
   refine⟨by cases l<;>rfl,?_⟩;simp -implicitDefEqProofs (disch:=omega) only[go_sem,ak,ah];rw[hq]
   first|exact⟨aG rfl,rfl⟩|(refine⟨aG ?_,rfl⟩;simp only[bF.v,List.map_cons,List.map_nil,List.map_append,aU.aj,aH.aj,aI.aj,aT.aj,ay.aj,aC.aj,List.cons_append,List.nil_append];rfl)
  ·simp only[fV,iC,iI,reduceIte,Int.reduceEq] at hq;simp -implicitDefEqProofs (disch:=omega) only[go_sem,ak,ah]
   (repeat(with_reducible refine And.intro ?_ ?_;focus first|omega|rfl|assumption|exact⟨_,rfl,rfl⟩|(simp;omega)|(simp;done)))
   rw[hq]
   first|exact⟨aG rfl,rfl⟩|(refine⟨aG ?_,rfl⟩;simp only[bF.v,List.map_cons,List.map_nil,List.map_append,aU.aj,aH.aj,aI.aj,aT.aj,ay.aj,aC.aj,List.cons_append,List.nil_append];rfl)
theorem Yi{bs:List Int}(hB:Bytes bs)(c c1 c2 c3 c4 c5:Cu bs)(s:List UInt8)(b o p:Bool)(k:Int)(l j:Nat)(S:Store)(hk:bA S (l,j)=some (.box (cur c)))(h1:bQ lK c=(s,c1))(h2:bV 3 c1=(b,c2))(h3:bV 2 c2=(o,c3))(h4:bV 3 c3=(p,c4))(h5:aX 12 c4=(k,c5))(ho1:o=false)(R5:k=2\/k=3):
 cB prog 101 [.c (.ptr (l,j) 0)] S (fun r S1=>r=(fV s b (iC o s) (iI p) k c5).1.v/\S1=bq S (l,j) (.box (cur (fV s b (iC o s) (iI p) k c5).2))):=by
 have g:∀x:Ab.Obj,bA (bq S (l,j) x) (l,j)=some x:=fun x=>dw _ _ _ _ hk;have q1:=fun fr:List Ab.Obj=>dQ hB c (1+l) j (fr::S) lK (by rw[aJ];exact hk) (by decide) (by decide);simp only[h1,ak] at q1;have q2:=fun fr:List Ab.Obj=>iF hB c1 (1+l) j (fr::bq S (l,j) (.box (cur c1))) 3 (by rw[aJ];exact g _) (by omega) (by omega);simp only[h2,ak,ah] at q2;have q3:=fun fr:List Ab.Obj=>iF hB c2 (1+l) j (fr::bq S (l,j) (.box (cur c2))) 2 (by rw[aJ];exact g _) (by omega) (by omega);simp only[h3,ak,ah] at q3;have q4:=fun fr:List Ab.Obj=>iF hB c3 (1+l) j (fr::bq S (l,j) (.box (cur c3))) 3 (by rw[aJ];exact g _) (by omega) (by omega);simp only[h4,ak,ah] at q4;have q5:=fun fr:List Ab.Obj=>d9 hB c4 (1+l) j (fr::bq S (l,j) (.box (cur c4))) 12 (by rw[aJ];exact g _) (by omega) (by omega);simp only[h5,ak,ah] at q5;have qo:∀es:List (List D),es=[p9 s,kU 1].map aC.enc->bg prog 142 [.c (.d (.i .i64 10)),.c (.d (.s [43])),.c (.d (.sl es))] (nV 10 [43] [p9 s,kU 1]).v:=fun es he S=>jy (Cg 10 [43] [p9 s,kU 1] he (by simp) (.inl rfl) S)
 have ho:(iC o s)=(if o=true then [Ng s] else []):=by cases o<;>rfl
 have hp:(iI p)=(if p=true then [[111,114,100]] else []):=by cases p<;>rfl
 obtain⟨q,hq⟩:∃q,q=fV s b (iC o s) (iI p) k c5:=⟨_,rfl⟩;rw[<-hq];refine cB.of_le ?_;refine Ad [67] (rs:=[.cell 2 54]) zmx func101 ntmps101 rfl rfl rfl rfl rfl ?_;simp -implicitDefEqProofs (disch:=omega) only[go_sem];refine aB (fU _) ?_;simp -implicitDefEqProofs (disch:=omega) only[go_sem];refine bZ [true] rfl (q1 _) ?_;simp -implicitDefEqProofs (disch:=omega) only[go_sem,ak,ah];refine bE rfl (q2 _) ?_;simp -implicitDefEqProofs (disch:=omega) only[go_sem,ak,ah];refine aB jH ?_;simp -implicitDefEqProofs (disch:=omega) only[go_sem]
 (repeat(with_reducible refine And.intro ?_ ?_;focus first|omega|rfl|assumption|exact⟨_,rfl,rfl⟩|(simp;omega)|(simp;done)))
 refine bE rfl (q3 _) ?_;subst ho1;simp -implicitDefEqProofs (disch:=omega) only[go_sem,ak,ah];refine bE rfl (q4 _) ?_
 cases p with
 |true=>
  simp -implicitDefEqProofs (disch:=omega) only[go_sem,ak,ah];refine bE rfl (q5 _) ?_;rcases R5 with rfl|rfl
  ·simp only[fV,iC,iI,reduceIte,Int.reduceEq] at hq;simp -implicitDefEqProofs (disch:=omega) only[go_sem,ak,ah];refine bZ [true] rfl (dQ hB c5 (1+l) j _ R4 (by rw[aJ];exact g _) (by decide) (by decide)) ?_;simp -implicitDefEqProofs (disch:=omega) only[go_sem,ak,ah];refine aB (fU _) ?_;simp -implicitDefEqProofs (disch:=omega) only[go_sem,ak,ah]
   (repeat(with_reducible refine And.intro ?_ ?_;focus first|omega|rfl|assumption|exact⟨_,rfl,rfl⟩|(simp;omega)|(simp;done)))
   refine⟨by cases l<;>rfl,?_⟩;simp -implicitDefEqProofs (disch:=omega) only[go_sem,ak,ah];rw[hq]
   first|exact⟨aG rfl,rfl⟩|(refine⟨aG ?_,rfl⟩;simp only[bF.v,List.map_cons,List.map_nil,List.map_append,aU.aj,aH.aj,aI.aj,aT.aj,ay.aj,aC.aj,List.cons_append,List.nil_append];rfl)
  ·simp only[fV,iC,iI,reduceIte,Int.reduceEq] at hq;simp -implicitDefEqProofs (disch:=omega) only[go_sem,ak,ah]
   (repeat(with_reducible refine And.intro ?_ ?_;focus first|omega|rfl|assumption|exact⟨_,rfl,rfl⟩|(simp;omega)|(simp;done)))
   rw[hq]
   first|exact⟨aG rfl,rfl⟩|(refine⟨aG ?_,rfl⟩;simp only[bF.v,List.map_cons,List.map_nil,List.map_append,aU.aj,aH.aj,aI.aj,aT.aj,ay.aj,aC.aj,List.cons_append,List.nil_append];rfl)
 |false=>
  simp -implicitDefEqProofs (disch:=omega) only[go_sem,ak,ah];refine bE rfl (q5 _) ?_;rcases R5 with rfl|rfl
  ·simp only[fV,iC,iI,reduceIte,Int.reduceEq] at hq;simp -implicitDefEqProofs (disch:=omega) only[go_sem,ak,ah];refine bZ [true] rfl (dQ hB c5 (1+l) j _ R4 (by rw[aJ];exact g _) (by decide) (by decide)) ?_;simp -implicitDefEqProofs (disch:=omega) only[go_sem,ak,ah];refine aB (fU _) ?_;simp -implicitDefEqProofs (disch:=omega) only[go_sem,ak,ah]
   (repeat(with_reducible refine And.intro ?_ ?_;focus first|omega|rfl|assumption|exact⟨_,rfl,rfl⟩|(simp;omega)|(simp;done)))
   refine⟨by cases l<;>rfl,?_⟩;simp -implicitDefEqProofs (disch:=omega) only[go_sem,ak,ah];rw[hq]
   first|exact⟨aG rfl,rfl⟩|(refine⟨aG ?_,rfl⟩;simp only[bF.v,List.map_cons,List.map_nil,List.map_append,aU.aj,aH.aj,aI.aj,aT.aj,ay.aj,aC.aj,List.cons_append,List.nil_append];rfl)
  ·simp only[fV,iC,iI,reduceIte,Int.reduceEq] at hq;simp -implicitDefEqProofs (disch:=omega) only[go_sem,ak,ah]
   (repeat(with_reducible refine And.intro ?_ ?_;focus first|omega|rfl|assumption|exact⟨_,rfl,rfl⟩|(simp;omega)|(simp;done)))
   rw[hq]
   first|exact⟨aG rfl,rfl⟩|(refine⟨aG ?_,rfl⟩;simp only[bF.v,List.map_cons,List.map_nil,List.map_append,aU.aj,aH.aj,aI.aj,aT.aj,ay.aj,aC.aj,List.cons_append,List.nil_append];rfl)
theorem Yj{bs:List Int}(hB:Bytes bs)(c c1 c2 c3 c4 c5:Cu bs)(s:List UInt8)(b o p:Bool)(k:Int)(l j:Nat)(S:Store)(hk:bA S (l,j)=some (.box (cur c)))(h1:bQ lK c=(s,c1))(h2:bV 3 c1=(b,c2))(h3:bV 2 c2=(o,c3))(h4:bV 3 c3=(p,c4))(h5:aX 12 c4=(k,c5))(hk2:k≠2)(hk3:k≠3):
 cB prog 101 [.c (.ptr (l,j) 0)] S (fun r S1=>r=(fV s b (iC o s) (iI p) k c5).1.v/\S1=bq S (l,j) (.box (cur (fV s b (iC o s) (iI p) k c5).2))):=by
 have g:∀x:Ab.Obj,bA (bq S (l,j) x) (l,j)=some x:=fun x=>dw _ _ _ _ hk;have q1:=fun fr:List Ab.Obj=>dQ hB c (1+l) j (fr::S) lK (by rw[aJ];exact hk) (by decide) (by decide);simp only[h1,ak] at q1;have q2:=fun fr:List Ab.Obj=>iF hB c1 (1+l) j (fr::bq S (l,j) (.box (cur c1))) 3 (by rw[aJ];exact g _) (by omega) (by omega);simp only[h2,ak,ah] at q2;have q3:=fun fr:List Ab.Obj=>iF hB c2 (1+l) j (fr::bq S (l,j) (.box (cur c2))) 2 (by rw[aJ];exact g _) (by omega) (by omega);simp only[h3,ak,ah] at q3;have q4:=fun fr:List Ab.Obj=>iF hB c3 (1+l) j (fr::bq S (l,j) (.box (cur c3))) 3 (by rw[aJ];exact g _) (by omega) (by omega);simp only[h4,ak,ah] at q4;have q5:=fun fr:List Ab.Obj=>d9 hB c4 (1+l) j (fr::bq S (l,j) (.box (cur c4))) 12 (by rw[aJ];exact g _) (by omega) (by omega);simp only[h5,ak,ah] at q5;have qo:∀es:List (List D),es=[p9 s,kU 1].map aC.enc->bg prog 142 [.c (.d (.i .i64 10)),.c (.d (.s [43])),.c (.d (.sl es))] (nV 10 [43] [p9 s,kU 1]).v:=fun es he S=>jy (Cg 10 [43] [p9 s,kU 1] he (by simp) (.inl rfl) S)
 have ho:(iC o s)=(if o=true then [Ng s] else []):=by cases o<;>rfl
 have hp:(iI p)=(if p=true then [[111,114,100]] else []):=by cases p<;>rfl
 obtain⟨q,hq⟩:∃q,q=fV s b (iC o s) (iI p) k c5:=⟨_,rfl⟩;rw[<-hq];refine cB.of_le ?_;refine pI [67] (rs:=[.cell 2 54]) zmx func101 ntmps101 rfl rfl rfl rfl rfl ?_;simp -implicitDefEqProofs (disch:=omega) only[go_sem];refine aB (fU _) ?_;simp -implicitDefEqProofs (disch:=omega) only[go_sem];refine bZ [true] rfl (q1 _) ?_;simp -implicitDefEqProofs (disch:=omega) only[go_sem,ak,ah];refine bE rfl (q2 _) ?_;simp -implicitDefEqProofs (disch:=omega) only[go_sem,ak,ah];refine aB jH ?_;simp -implicitDefEqProofs (disch:=omega) only[go_sem]
 (repeat(with_reducible refine And.intro ?_ ?_;focus first|omega|rfl|assumption|exact⟨_,rfl,rfl⟩|(simp;omega)|(simp;done)))
 refine bE rfl (q3 _) ?_
 cases o with
 |true=>
  simp -implicitDefEqProofs (disch:=omega) only[go_sem,ak,ah];refine aB jH ?_;simp -implicitDefEqProofs (disch:=omega) only[go_sem];refine aB (uI _) ?_;simp -implicitDefEqProofs (disch:=omega) only[go_sem];refine aB (pX _) ?_;simp -implicitDefEqProofs (disch:=omega) only[go_sem];refine aB (qo _ rfl) ?_;simp -implicitDefEqProofs (disch:=omega) only[go_sem]
  (repeat(with_reducible refine And.intro ?_ ?_;focus first|omega|rfl|assumption|exact⟨_,rfl,rfl⟩|(simp;omega)|(simp;done)))
  refine⟨by cases l<;>rfl,?_⟩;simp -implicitDefEqProofs (disch:=omega) only[go_sem,ak,ah];refine bE rfl (q4 _) ?_
  cases p with
  |true=>
   simp -implicitDefEqProofs (disch:=omega) only[go_sem,ak,ah];refine bE rfl (q5 _) ?_;simp -implicitDefEqProofs (disch:=omega) only[go_sem,ak,ah]
   with_reducible refine aD (fun hb=> ?_) (fun hb=> ?_)<;>have h:=hb<;>(try simp only[wf_preprocess] at h)<;>simp -implicitDefEqProofs (disch:=omega) only[go_sem,hb,ak,ah]<;>(repeat(with_reducible refine And.intro ?_ ?_;focus first|omega|rfl|assumption|exact⟨_,rfl,rfl⟩|(simp;omega)|(simp;done)))
   ·subst h;simp only[fV,iC,iI,reduceIte,Int.reduceEq] at hq
    try(simp -implicitDefEqProofs (disch:=omega) only[go_sem,ak,ah])
    rw[hq]
    first|exact⟨aG rfl,rfl⟩|(refine⟨aG ?_,rfl⟩;simp only[bF.v,List.map_cons,List.map_nil,List.map_append,aU.aj,aH.aj,aI.aj,aT.aj,ay.aj,aC.aj,List.cons_append,List.nil_append];rfl)
   have e0:=h
   with_reducible refine aD (fun hb=> ?_) (fun hb=> ?_)<;>have h:=hb<;>(try simp only[wf_preprocess] at h)<;>simp -implicitDefEqProofs (disch:=omega) only[go_sem,hb,ak,ah]<;>(repeat(with_reducible refine And.intro ?_ ?_;focus first|omega|rfl|assumption|exact⟨_,rfl,rfl⟩|(simp;omega)|(simp;done)))
   ·subst h;simp only[fV,iC,iI,reduceIte,Int.reduceEq] at hq;refine bZ [true] rfl (dQ hB c5 (1+l) j _ JR (by rw[aJ];exact g _) (by decide) (by decide)) ?_;simp -implicitDefEqProofs (disch:=omega) only[go_sem,ak,ah];rw[hq]
    first|exact⟨aG rfl,rfl⟩|(refine⟨aG ?_,rfl⟩;simp only[bF.v,List.map_cons,List.map_nil,List.map_append,aU.aj,aH.aj,aI.aj,aT.aj,ay.aj,aC.aj,List.cons_append,List.nil_append];rfl)
   have e1:=h
   with_reducible refine aD (fun hb=> ?_) (fun hb=> ?_)<;>have h:=hb<;>(try simp only[wf_preprocess] at h)<;>simp -implicitDefEqProofs (disch:=omega) only[go_sem,hb,ak,ah]<;>(repeat(with_reducible refine And.intro ?_ ?_;focus first|omega|rfl|assumption|exact⟨_,rfl,rfl⟩|(simp;omega)|(simp;done)))
   ·exact absurd h hk2
   with_reducible refine aD (fun hb=> ?_) (fun hb=> ?_)<;>have h:=hb<;>(try simp only[wf_preprocess] at h)<;>simp -implicitDefEqProofs (disch:=omega) only[go_sem,hb,ak,ah]<;>(repeat(with_reducible refine And.intro ?_ ?_;focus first|omega|rfl|assumption|exact⟨_,rfl,rfl⟩|(simp;omega)|(simp;done)))
   ·exact absurd h hk3
   with_reducible refine aD (fun hb=> ?_) (fun hb=> ?_)<;>have h:=hb<;>(try simp only[wf_preprocess] at h)<;>simp -implicitDefEqProofs (disch:=omega) only[go_sem,hb,ak,ah]<;>(repeat(with_reducible refine And.intro ?_ ?_;focus first|omega|rfl|assumption|exact⟨_,rfl,rfl⟩|(simp;omega)|(simp;done)))
   ·subst h;simp only[fV,iC,iI,reduceIte,Int.reduceEq] at hq
    (repeat(with_reducible refine And.intro ?_ ?_;focus first|omega|rfl|assumption|exact⟨_,rfl,rfl⟩|(simp;omega)|(simp;done)))
    try(simp -implicitDefEqProofs (disch:=omega) only[go_sem,ak,ah])
    rw[hq]
    first|exact⟨aG rfl,rfl⟩|(refine⟨aG ?_,rfl⟩;simp only[bF.v,List.map_cons,List.map_nil,List.map_append,aU.aj,aH.aj,aI.aj,aT.aj,ay.aj,aC.aj,List.cons_append,List.nil_append];rfl)
   have e4:=h
   with_reducible refine aD (fun hb=> ?_) (fun hb=> ?_)<;>have h:=hb<;>(try simp only[wf_preprocess] at h)<;>simp -implicitDefEqProofs (disch:=omega) only[go_sem,hb,ak,ah,List.getD_cons_zero,List.take_succ_cons,List.take_zero,List.take_nil]<;>(repeat(with_reducible refine And.intro ?_ ?_;focus first|omega|rfl|assumption|exact⟨_,rfl,rfl⟩|(simp;omega)|(simp;done)))
   ·subst h;simp only[fV,iC,iI,reduceIte,Int.reduceEq] at hq
    (repeat(with_reducible refine And.intro ?_ ?_;focus first|omega|rfl|assumption|exact⟨_,rfl,rfl⟩|(simp;omega)|(simp;done)))
    try(refine⟨fun y hy=>(by rw[List.mem_singleton] at hy;subst hy;rfl),?_⟩;(repeat(with_reducible refine And.intro ?_ ?_;focus first|omega|rfl|assumption|exact⟨_,rfl,rfl⟩|(simp;omega)|(simp;done))))
    (repeat(with_reducible refine And.intro ?_ ?_;focus first|omega|rfl|assumption|exact⟨_,rfl,rfl⟩|(simp;omega)|(simp;done)))
    refine⟨by cases l<;>rfl,?_⟩;simp -implicitDefEqProofs (disch:=omega) only[go_sem,ak,ah];rw[hq]
    first|exact⟨aG rfl,rfl⟩|(refine⟨aG ?_,rfl⟩;simp only[bF.v,List.map_cons,List.map_nil,List.map_append,aU.aj,aH.aj,aI.aj,aT.aj,ay.aj,aC.aj,List.cons_append,List.nil_append];rfl)
   have e5:=h;simp only[fV,iC,iI,if_neg e0,if_neg e1,if_neg hk2,if_neg hk3,if_neg e4,if_neg e5] at hq;rw[hq]
   first|exact⟨aG rfl,rfl⟩|(refine⟨aG ?_,rfl⟩;simp only[bF.v,List.map_cons,List.map_nil,List.map_append,aU.aj,aH.aj,aI.aj,aT.aj,ay.aj,aC.aj,List.cons_append,List.nil_append];rfl)
  |false=>
   simp -implicitDefEqProofs (disch:=omega) only[go_sem,ak,ah];refine bE rfl (q5 _) ?_;simp -implicitDefEqProofs (disch:=omega) only[go_sem,ak,ah]
   with_reducible refine aD (fun hb=> ?_) (fun hb=> ?_)<;>have h:=hb<;>(try simp only[wf_preprocess] at h)<;>simp -implicitDefEqProofs (disch:=omega) only[go_sem,hb,ak,ah]<;>(repeat(with_reducible refine And.intro ?_ ?_;focus first|omega|rfl|assumption|exact⟨_,rfl,rfl⟩|(simp;omega)|(simp;done)))
   ·subst h;simp only[fV,iC,iI,reduceIte,Int.reduceEq] at hq
    try(simp -implicitDefEqProofs (disch:=omega) only[go_sem,ak,ah])
    rw[hq]
    first|exact⟨aG rfl,rfl⟩|(refine⟨aG ?_,rfl⟩;simp only[bF.v,List.map_cons,List.map_nil,List.map_append,aU.aj,aH.aj,aI.aj,aT.aj,ay.aj,aC.aj,List.cons_append,List.nil_append];rfl)
   have e0:=h
   with_reducible refine aD (fun hb=> ?_) (fun hb=> ?_)<;>have h:=hb<;>(try simp only[wf_preprocess] at h)<;>simp -implicitDefEqProofs (disch:=omega) only[go_sem,hb,ak,ah]<;>(repeat(with_reducible refine And.intro ?_ ?_;focus first|omega|rfl|assumption|exact⟨_,rfl,rfl⟩|(simp;omega)|(simp;done)))
   ·subst h;simp only[fV,iC,iI,reduceIte,Int.reduceEq] at hq;refine bZ [true] rfl (dQ hB c5 (1+l) j _ JR (by rw[aJ];exact g _) (by decide) (by decide)) ?_;simp -implicitDefEqProofs (disch:=omega) only[go_sem,ak,ah];rw[hq]
    first|exact⟨aG rfl,rfl⟩|(refine⟨aG ?_,rfl⟩;simp only[bF.v,List.map_cons,List.map_nil,List.map_append,aU.aj,aH.aj,aI.aj,aT.aj,ay.aj,aC.aj,List.cons_append,List.nil_append];rfl)
   have e1:=h
   with_reducible refine aD (fun hb=> ?_) (fun hb=> ?_)<;>have h:=hb<;>(try simp only[wf_preprocess] at h)<;>simp -implicitDefEqProofs (disch:=omega) only[go_sem,hb,ak,ah]<;>(repeat(with_reducible refine And.intro ?_ ?_;focus first|omega|rfl|assumption|exact⟨_,rfl,rfl⟩|(simp;omega)|(simp;done)))
   ·exact absurd h hk2
   with_reducible refine aD (fun hb=> ?_) (fun hb=> ?_)<;>have h:=hb<;>(try simp only[wf_preprocess] at h)<;>simp -implicitDefEqProofs (disch:=omega) only[go_sem,hb,ak,ah]<;>(repeat(with_reducible refine And.intro ?_ ?_;focus first|omega|rfl|assumption|exact⟨_,rfl,rfl⟩|(simp;omega)|(simp;done)))
   ·exact absurd h hk3
   with_reducible refine aD (fun hb=> ?_) (fun hb=> ?_)<;>have h:=hb<;>(try simp only[wf_preprocess] at h)<;>simp -implicitDefEqProofs (disch:=omega) only[go_sem,hb,ak,ah]<;>(repeat(with_reducible refine And.intro ?_ ?_;focus first|omega|rfl|assumption|exact⟨_,rfl,rfl⟩|(simp;omega)|(simp;done)))
   ·subst h;simp only[fV,iC,iI,reduceIte,Int.reduceEq] at hq
    (repeat(with_reducible refine And.intro ?_ ?_;focus first|omega|rfl|assumption|exact⟨_,rfl,rfl⟩|(simp;omega)|(simp;done)))
    try(simp -implicitDefEqProofs (disch:=omega) only[go_sem,ak,ah])
    rw[hq]
    first|exact⟨aG rfl,rfl⟩|(refine⟨aG ?_,rfl⟩;simp only[bF.v,List.map_cons,List.map_nil,List.map_append,aU.aj,aH.aj,aI.aj,aT.aj,ay.aj,aC.aj,List.cons_append,List.nil_append];rfl)
   have e4:=h
   with_reducible refine aD (fun hb=> ?_) (fun hb=> ?_)<;>have h:=hb<;>(try simp only[wf_preprocess] at h)<;>simp -implicitDefEqProofs (disch:=omega) only[go_sem,hb,ak,ah,List.getD_cons_zero,List.take_succ_cons,List.take_zero,List.take_nil]<;>(repeat(with_reducible refine And.intro ?_ ?_;focus first|omega|rfl|assumption|exact⟨_,rfl,rfl⟩|(simp;omega)|(simp;done)))
   ·subst h;simp only[fV,iC,iI,reduceIte,Int.reduceEq] at hq
    (repeat(with_reducible refine And.intro ?_ ?_;focus first|omega|rfl|assumption|exact⟨_,rfl,rfl⟩|(simp;omega)|(simp;done)))
    try(refine⟨fun y hy=>(by rw[List.mem_singleton] at hy;subst hy;rfl),?_⟩;(repeat(with_reducible refine And.intro ?_ ?_;focus first|omega|rfl|assumption|exact⟨_,rfl,rfl⟩|(simp;omega)|(simp;done))))
    (repeat(with_reducible refine And.intro ?_ ?_;focus first|omega|rfl|assumption|exact⟨_,rfl,rfl⟩|(simp;omega)|(simp;done)))
    refine⟨by cases l<;>rfl,?_⟩;simp -implicitDefEqProofs (disch:=omega) only[go_sem,ak,ah];rw[hq]
    first|exact⟨aG rfl,rfl⟩|(refine⟨aG ?_,rfl⟩;simp only[bF.v,List.map_cons,List.map_nil,List.map_append,aU.aj,aH.aj,aI.aj,aT.aj,ay.aj,aC.aj,List.cons_append,List.nil_append];rfl)
   have e5:=h;simp only[fV,iC,iI,if_neg e0,if_neg e1,if_neg hk2,if_neg hk3,if_neg e4,if_neg e5] at hq;rw[hq]
   first|exact⟨aG rfl,rfl⟩|(refine⟨aG ?_,rfl⟩;simp only[bF.v,List.map_cons,List.map_nil,List.map_append,aU.aj,aH.aj,aI.aj,aT.aj,ay.aj,aC.aj,List.cons_append,List.nil_append];rfl)
 |false=>
  simp -implicitDefEqProofs (disch:=omega) only[go_sem,ak,ah];refine bE rfl (q4 _) ?_
  cases p with
  |true=>
   simp -implicitDefEqProofs (disch:=omega) only[go_sem,ak,ah];refine bE rfl (q5 _) ?_;simp -implicitDefEqProofs (disch:=omega) only[go_sem,ak,ah]
   with_reducible refine aD (fun hb=> ?_) (fun hb=> ?_)<;>have h:=hb<;>(try simp only[wf_preprocess] at h)<;>simp -implicitDefEqProofs (disch:=omega) only[go_sem,hb,ak,ah]<;>(repeat(with_reducible refine And.intro ?_ ?_;focus first|omega|rfl|assumption|exact⟨_,rfl,rfl⟩|(simp;omega)|(simp;done)))
   ·subst h;simp only[fV,iC,iI,reduceIte,Int.reduceEq] at hq
    try(simp -implicitDefEqProofs (disch:=omega) only[go_sem,ak,ah])
    rw[hq]
    first|exact⟨aG rfl,rfl⟩|(refine⟨aG ?_,rfl⟩;simp only[bF.v,List.map_cons,List.map_nil,List.map_append,aU.aj,aH.aj,aI.aj,aT.aj,ay.aj,aC.aj,List.cons_append,List.nil_append];rfl)
   have e0:=h
   with_reducible refine aD (fun hb=> ?_) (fun hb=> ?_)<;>have h:=hb<;>(try simp only[wf_preprocess] at h)<;>simp -implicitDefEqProofs (disch:=omega) only[go_sem,hb,ak,ah]<;>(repeat(with_reducible refine And.intro ?_ ?_;focus first|omega|rfl|assumption|exact⟨_,rfl,rfl⟩|(simp;omega)|(simp;done)))
   ·subst h;simp only[fV,iC,iI,reduceIte,Int.reduceEq] at hq;refine bZ [true] rfl (dQ hB c5 (1+l) j _ JR (by rw[aJ];exact g _) (by decide) (by decide)) ?_;simp -implicitDefEqProofs (disch:=omega) only[go_sem,ak,ah];rw[hq]
    first|exact⟨aG rfl,rfl⟩|(refine⟨aG ?_,rfl⟩;simp only[bF.v,List.map_cons,List.map_nil,List.map_append,aU.aj,aH.aj,aI.aj,aT.aj,ay.aj,aC.aj,List.cons_append,List.nil_append];rfl)
   have e1:=h
   with_reducible refine aD (fun hb=> ?_) (fun hb=> ?_)<;>have h:=hb<;>(try simp only[wf_preprocess] at h)<;>simp -implicitDefEqProofs (disch:=omega) only[go_sem,hb,ak,ah]<;>(repeat(with_reducible refine And.intro ?_ ?_;focus first|omega|rfl|assumption|exact⟨_,rfl,rfl⟩|(simp;omega)|(simp;done)))
   ·exact absurd h hk2
   with_reducible refine aD (fun hb=> ?_) (fun hb=> ?_)<;>have h:=hb<;>(try simp only[wf_preprocess] at h)<;>simp -implicitDefEqProofs (disch:=omega) only[go_sem,hb,ak,ah]<;>(repeat(with_reducible refine And.intro ?_ ?_;focus first|omega|rfl|assumption|exact⟨_,rfl,rfl⟩|(simp;omega)|(simp;done)))
   ·exact absurd h hk3
   with_reducible refine aD (fun hb=> ?_) (fun hb=> ?_)<;>have h:=hb<;>(try simp only[wf_preprocess] at h)<;>simp -implicitDefEqProofs (disch:=omega) only[go_sem,hb,ak,ah]<;>(repeat(with_reducible refine And.intro ?_ ?_;focus first|omega|rfl|assumption|exact⟨_,rfl,rfl⟩|(simp;omega)|(simp;done)))
   ·subst h;simp only[fV,iC,iI,reduceIte,Int.reduceEq] at hq
    (repeat(with_reducible refine And.intro ?_ ?_;focus first|omega|rfl|assumption|exact⟨_,rfl,rfl⟩|(simp;omega)|(simp;done)))
    try(simp -implicitDefEqProofs (disch:=omega) only[go_sem,ak,ah])
    rw[hq]
    first|exact⟨aG rfl,rfl⟩|(refine⟨aG ?_,rfl⟩;simp only[bF.v,List.map_cons,List.map_nil,List.map_append,aU.aj,aH.aj,aI.aj,aT.aj,ay.aj,aC.aj,List.cons_append,List.nil_append];rfl)
   have e4:=h
   with_reducible refine aD (fun hb=> ?_) (fun hb=> ?_)<;>have h:=hb<;>(try simp only[wf_preprocess] at h)<;>simp -implicitDefEqProofs (disch:=omega) only[go_sem,hb,ak,ah,List.getD_cons_zero,List.take_succ_cons,List.take_zero,List.take_nil]<;>(repeat(with_reducible refine And.intro ?_ ?_;focus first|omega|rfl|assumption|exact⟨_,rfl,rfl⟩|(simp;omega)|(simp;done)))
   ·subst h;simp only[fV,iC,iI,reduceIte,Int.reduceEq] at hq
    (repeat(with_reducible refine And.intro ?_ ?_;focus first|omega|rfl|assumption|exact⟨_,rfl,rfl⟩|(simp;omega)|(simp;done)))
    try(refine⟨fun y hy=>(by rw[List.mem_singleton] at hy;subst hy;rfl),?_⟩;(repeat(with_reducible refine And.intro ?_ ?_;focus first|omega|rfl|assumption|exact⟨_,rfl,rfl⟩|(simp;omega)|(simp;done))))
    (repeat(with_reducible refine And.intro ?_ ?_;focus first|omega|rfl|assumption|exact⟨_,rfl,rfl⟩|(simp;omega)|(simp;done)))
    refine⟨by cases l<;>rfl,?_⟩;simp -implicitDefEqProofs (disch:=omega) only[go_sem,ak,ah];rw[hq]
    first|exact⟨aG rfl,rfl⟩|(refine⟨aG ?_,rfl⟩;simp only[bF.v,List.map_cons,List.map_nil,List.map_append,aU.aj,aH.aj,aI.aj,aT.aj,ay.aj,aC.aj,List.cons_append,List.nil_append];rfl)
   have e5:=h;simp only[fV,iC,iI,if_neg e0,if_neg e1,if_neg hk2,if_neg hk3,if_neg e4,if_neg e5] at hq;rw[hq]
   first|exact⟨aG rfl,rfl⟩|(refine⟨aG ?_,rfl⟩;simp only[bF.v,List.map_cons,List.map_nil,List.map_append,aU.aj,aH.aj,aI.aj,aT.aj,ay.aj,aC.aj,List.cons_append,List.nil_append];rfl)
  |false=>
   simp -implicitDefEqProofs (disch:=omega) only[go_sem,ak,ah];refine bE rfl (q5 _) ?_;simp -implicitDefEqProofs (disch:=omega) only[go_sem,ak,ah]
   with_reducible refine aD (fun hb=> ?_) (fun hb=> ?_)<;>have h:=hb<;>(try simp only[wf_preprocess] at h)<;>simp -implicitDefEqProofs (disch:=omega) only[go_sem,hb,ak,ah]<;>(repeat(with_reducible refine And.intro ?_ ?_;focus first|omega|rfl|assumption|exact⟨_,rfl,rfl⟩|(simp;omega)|(simp;done)))
   ·subst h;simp only[fV,iC,iI,reduceIte,Int.reduceEq] at hq
    try(simp -implicitDefEqProofs (disch:=omega) only[go_sem,ak,ah])
    rw[hq]
    first|exact⟨aG rfl,rfl⟩|(refine⟨aG ?_,rfl⟩;simp only[bF.v,List.map_cons,List.map_nil,List.map_append,aU.aj,aH.aj,aI.aj,aT.aj,ay.aj,aC.aj,List.cons_append,List.nil_append];rfl)
   have e0:=h
   with_reducible refine aD (fun hb=> ?_) (fun hb=> ?_)<;>have h:=hb<;>(try simp only[wf_preprocess] at h)<;>simp -implicitDefEqProofs (disch:=omega) only[go_sem,hb,ak,ah]<;>(repeat(with_reducible refine And.intro ?_ ?_;focus first|omega|rfl|assumption|exact⟨_,rfl,rfl⟩|(simp;omega)|(simp;done)))
   ·subst h;simp only[fV,iC,iI,reduceIte,Int.reduceEq] at hq;refine bZ [true] rfl (dQ hB c5 (1+l) j _ JR (by rw[aJ];exact g _) (by decide) (by decide)) ?_;simp -implicitDefEqProofs (disch:=omega) only[go_sem,ak,ah];rw[hq]
    first|exact⟨aG rfl,rfl⟩|(refine⟨aG ?_,rfl⟩;simp only[bF.v,List.map_cons,List.map_nil,List.map_append,aU.aj,aH.aj,aI.aj,aT.aj,ay.aj,aC.aj,List.cons_append,List.nil_append];rfl)
   have e1:=h
   with_reducible refine aD (fun hb=> ?_) (fun hb=> ?_)<;>have h:=hb<;>(try simp only[wf_preprocess] at h)<;>simp -implicitDefEqProofs (disch:=omega) only[go_sem,hb,ak,ah]<;>(repeat(with_reducible refine And.intro ?_ ?_;focus first|omega|rfl|assumption|exact⟨_,rfl,rfl⟩|(simp;omega)|(simp;done)))
   ·exact absurd h hk2
   with_reducible refine aD (fun hb=> ?_) (fun hb=> ?_)<;>have h:=hb<;>(try simp only[wf_preprocess] at h)<;>simp -implicitDefEqProofs (disch:=omega) only[go_sem,hb,ak,ah]<;>(repeat(with_reducible refine And.intro ?_ ?_;focus first|omega|rfl|assumption|exact⟨_,rfl,rfl⟩|(simp;omega)|(simp;done)))
   ·exact absurd h hk3
   with_reducible refine aD (fun hb=> ?_) (fun hb=> ?_)<;>have h:=hb<;>(try simp only[wf_preprocess] at h)<;>simp -implicitDefEqProofs (disch:=omega) only[go_sem,hb,ak,ah]<;>(repeat(with_reducible refine And.intro ?_ ?_;focus first|omega|rfl|assumption|exact⟨_,rfl,rfl⟩|(simp;omega)|(simp;done)))
   ·subst h;simp only[fV,iC,iI,reduceIte,Int.reduceEq] at hq
    (repeat(with_reducible refine And.intro ?_ ?_;focus first|omega|rfl|assumption|exact⟨_,rfl,rfl⟩|(simp;omega)|(simp;done)))
    try(simp -implicitDefEqProofs (disch:=omega) only[go_sem,ak,ah])
    rw[hq]
    first|exact⟨aG rfl,rfl⟩|(refine⟨aG ?_,rfl⟩;simp only[bF.v,List.map_cons,List.map_nil,List.map_append,aU.aj,aH.aj,aI.aj,aT.aj,ay.aj,aC.aj,List.cons_append,List.nil_append];rfl)
   have e4:=h
   with_reducible refine aD (fun hb=> ?_) (fun hb=> ?_)<;>have h:=hb<;>(try simp only[wf_preprocess] at h)<;>simp -implicitDefEqProofs (disch:=omega) only[go_sem,hb,ak,ah,List.getD_cons_zero,List.take_succ_cons,List.take_zero,List.take_nil]<;>(repeat(with_reducible refine And.intro ?_ ?_;focus first|omega|rfl|assumption|exact⟨_,rfl,rfl⟩|(simp;omega)|(simp;done)))
   ·subst h;simp only[fV,iC,iI,reduceIte,Int.reduceEq] at hq
    (repeat(with_reducible refine And.intro ?_ ?_;focus first|omega|rfl|assumption|exact⟨_,rfl,rfl⟩|(simp;omega)|(simp;done)))
    try(refine⟨fun y hy=>(by rw[List.mem_singleton] at hy;subst hy;rfl),?_⟩;(repeat(with_reducible refine And.intro ?_ ?_;focus first|omega|rfl|assumption|exact⟨_,rfl,rfl⟩|(simp;omega)|(simp;done))))
    (repeat(with_reducible refine And.intro ?_ ?_;focus first|omega|rfl|assumption|exact⟨_,rfl,rfl⟩|(simp;omega)|(simp;done)))
    refine⟨by cases l<;>rfl,?_⟩;simp -implicitDefEqProofs (disch:=omega) only[go_sem,ak,ah];rw[hq]
    first|exact⟨aG rfl,rfl⟩|(refine⟨aG ?_,rfl⟩;simp only[bF.v,List.map_cons,List.map_nil,List.map_append,aU.aj,aH.aj,aI.aj,aT.aj,ay.aj,aC.aj,List.cons_append,List.nil_append];rfl)
   have e5:=h;simp only[fV,iC,iI,if_neg e0,if_neg e1,if_neg hk2,if_neg hk3,if_neg e4,if_neg e5] at hq;rw[hq]
   first|exact⟨aG rfl,rfl⟩|(refine⟨aG ?_,rfl⟩;simp only[bF.v,List.map_cons,List.map_nil,List.map_append,aU.aj,aH.aj,aI.aj,aT.aj,ay.aj,aC.aj,List.cons_append,List.nil_append];rfl)
theorem Ur{bs:List Int}(hB:Bytes bs)(c:Cu bs)(l j:Nat)(S:Store)(hk:bA S (l,j)=some (.box (cur c))):
 cB prog 101 [.c (.ptr (l,j) 0)] S (fun r S1=>r=(xC c).1.v/\S1=bq S (l,j) (.box (cur (xC c).2))):=by
 unfold xC;generalize hk0:(aX 12 (bV 3 (bV 2 (bV 3 (bQ lK c).2).2).2).2).1=k;generalize ho0:(bV 2 (bV 3 (bQ lK c).2).2).1=o;by_cases h23:k=2\/k=3
 ·cases o with
  |true=>exact Yh hB c _ _ _ _ _ _ _ _ _ _ l j S hk rfl rfl (Prod.ext ho0 rfl) rfl (Prod.ext hk0 rfl) rfl h23
  |false=>exact Yi hB c _ _ _ _ _ _ _ _ _ _ l j S hk rfl rfl (Prod.ext ho0 rfl) rfl (Prod.ext hk0 rfl) rfl h23
 ·exact Yj hB c _ _ _ _ _ _ _ _ _ _ l j S hk rfl rfl (Prod.ext ho0 rfl) rfl (Prod.ext hk0 rfl) (fun e=>h23 (.inl e)) (fun e=>h23 (.inr e))
end Go.Ab