/-
  SEVERAL TEXTS IN ONE (merged by program): contracts and models, each with its own heading.
-/
import Derived.Test.YtfhpfkaeldgcmaaGreatPartHdbG
import Derived.Test.YtfhpfkaeldgcmaaGreatPartHdbL
import Derived.Test.YtfhpfkaeldgcmaaGreatPartHdbT
import Derived.Test.YtfhpfkaeldgcmaaGreatPartHdbU
open Go.Proofs Go.Proofs.Tryz
set_option linter.unusedSimpArgs false
set_option linter.unusedVariables false
set_option maxRecDepth 4000
set_option maxRecDepth 8000
namespace Go.Ab
def K3(P:Program)(o:Oper)(ρ:Operand->Value)(w:World)(v:Value)(w':World):Prop:=(execOp ρ o).run P w=.ok (.value v) w'\/((execOp ρ o).run P w=.ok .skip w'/\v=undef)
theorem K3.wp{P:Program}{o:Oper}{a:Act}{w w':World}{v:Value}{K:Act->World->Prop}{Q:Exit->Act->World->Prop}(h:K3 P o a.eval w v w')(hK:K (a.put o.dst v) w'):o.wp P a w K Q:=by
 unfold Oper.wp;rcases h with h|⟨h,rfl⟩
 ·rw[h];exact hK
 ·rw[h];exact hK
def OT(mo:List Nat)(i m:Nat):Nat:=if mo.contains i then m ||| 2^mo.idxOf i else m
def wO(P:Program)(mo:List Nat)(W:Nat->World)(K:Act->Prop):List Oper->List (List Nat)->Nat->Act->Prop
 |[],_,_,a=>K a
 |o::l,rs,i,a=>∃v,(∀m∈rs.headD [],K3 P o a.eval (W m) v (W (OT mo i m)))/\wO P mo W K l rs.tail (i+1) (a.put o.dst v)
def ajW(R:Array Oper)(mo:List Nat)(i m:Nat):Bool:=
 (List.range mo.length).all fun k=>if m.testBit k then !((masks R.toList []).getD (mo.getD k 0) 0).testBit i&&mo.getD k 0 !=i&&(List.range mo.length).all (fun k'=> !((masks R.toList []).getD (mo.getD k 0) 0).testBit (mo.getD k' 0)||m.testBit k')
   else !((masks R.toList []).getD i 0).testBit (mo.getD k 0)
section
variable {P:Program} {R:Array Oper} {N:Nat} {mo:List Nat} {rng:List (List Nat)} {W:Nat->World} {vs:Nat->Value} {A:Nat->Act}
structure amZ(R:Array Oper)(N:Nat)(mo:List Nat)(rng:List (List Nat)):Prop where
 guard:∀(j:Nat)(o:Oper),R[j]? =some o->o.guard=none
 am0:∀(j:Nat)(o:Oper),R[j]? =some o->∀cs b,o.op≠ .select cs b
 edge:∀(i:Nat)(o:Oper)(e:Edge),R[i]? =some o->e∈o.after->Region.binds .any e=true->e.on<i
 dst:∀(i:Nat)(o:Oper),R[i]? =some o->∀d,o.dst=some d->d<N
 pair:∀(i j:Nat)(x y:Oper),i<j->R[i]? =some x->R[j]? =some y->((masks R.toList []).getD j 0).testBit i=true\/x.apart R y=true
 one:∀(i j:Nat)(x y:Oper)(d:Nat),R[i]? =some x->R[j]? =some y->x.dst=some d->y.dst=some d->i=j
 rng:∀(j m:Nat),j<R.size->m<2^mo.length->ajW R mo j m=true->m∈rng.getD j []
 ana:∀k,k<mo.length->mo.getD k 0<R.size
 apart:∀k k',k<k'->k'<mo.length->mo.getD k 0≠mo.getD k' 0
structure anb(R:Array Oper)(mo:List Nat)(W:Nat->World)(vs:Nat->Value)(a0:Act)(listed:Array Bool)(a:Act)(w:World):Prop where
 size:listed.size=R.size
 closed:∀i o e,R[i]? =some o->listed.getD i false=true->e∈o.after->Region.binds .any e=true->listed.getD e.on false=true
 wld:∃m,m<2^mo.length/\(∀k,k<mo.length->(listed.getD (mo.getD k 0) false=true<->m.testBit k=true))/\w=W m
 defs:a.defers=a0.defers
 am1:a.tmps.size=a0.tmps.size
 got:∀j o t,R[j]? =some o->o.dst=some t->listed.getD j false=true->a.tmps.getD t undef=vs j
 old:∀t,(∀j o,R[j]? =some o->o.dst=some t->listed.getD j false=false)->a.tmps.getD t undef=a0.tmps.getD t undef
end
section
variable {P:Program} {mo:List Nat} {W:Nat->World} {K:Act->Prop} {o:Oper} {l:List Oper} {rs:List (List Nat)} {i:Nat} {a:Act}
theorem wO.step(v:Value){r:List Nat}(h:∀m∈r,K3 P o a.eval (W m) v (W (OT mo i m)))(hk:wO P mo W K l rs (i+1) (a.put o.dst v)):wO P mo W K (o::l) (r::rs) i a:=⟨v,h,hk⟩
theorem adw{m:Nat}(he:mo.contains i=false):OT mo i m=m:=by unfold OT;rw[he];rfl
theorem wO.done(h:K a):wO P mo W K [] rs i a:=h
theorem wO.any(v:Value){r:List Nat}(he:mo.contains i=false)(h:∀w,K3 P o a.eval w v w)(hk:wO P mo W K l rs (i+1) (a.put o.dst v)):wO P mo W K (o::l) (r::rs) i a:=
 ⟨v,fun m _=>by rw[adw he];exact h _,hk⟩
end
theorem pO:∀a b:List (List D),aI (a++b)=aI a+aI b
 |[],b=>by simp[aI]
 |r::a,b=>by rw[List.cons_append,aI,aI,pO a b];omega
section
variable {P:Program} {N:Nat} {w w':World} {σ σ':Nat->Nat} {S S':Store} {β β':Hs} {s:St} {a:Act}
def C.mv(n j m:Nat):C->C
 | .iH (0,i)=>if i=m then .iH (0,j) else if i<n/\i≠j then .iH (0,i) else .any
 | .bX (0,i) es=>if i<n/\i≠j then .bX (0,i) es else .any
 | .ptr (0,i) off=>if i<n/\i≠j then .ptr (0,i) off else .any
 | .kI (0,i) x off=>if i<n/\i≠j then .kI (0,i) x off else .any
 | .mp (0,i)=>if i<n/\i≠j then .mp (0,i) else .any
 | .fn _ _=>.any
 | .xp (0,i) r p=>if i<n/\i≠j then .xp (0,i) r p else .any
 | .xq (0,i) r p z x off=>if i<n/\i≠j then .xq (0,i) r p z x off else .any
 |c=>c
end
section
variable {P:Program} {N:Nat} {S:Store}
theorem Ho(r:Nat)(T:Value)(h:rJ undef r=some T):False:=by cases h
theorem afY{c:Code}{Q:Exit->St->Prop}{tm:List (Nat×V)}{Ω:Store}(h:AW P N c Q ⟨tm,[.xf []]::Ω⟩):AW P N c Q ⟨tm,[]::Ω⟩:=by
 refine lU h fun a w σ β hR=> ?_;obtain⟨bo,bΩ,rfl,hlen⟩:=frames hR
 obtain⟨hS',hk,hst⟩:=hR.S.push (o:=.xf []) (h:=undef) (Grow.refl hR.S.live) hlen
  ⟨fun r es e=>by simp at e,fun r T e=>(Ho r T e).elim,fun b hb=>by obtain⟨r,T,e,_⟩:=hb;exact(Ho r T e).elim,fun r r' T T' x _ e _ _ _=>Ho r T e⟩
  (fun b hb=>by obtain⟨r,T,e,_⟩:=hb;exact(Ho r T e).elim)
 exact⟨σ,_,⟨hR.size,hR.defers,hS',fun u=>(hR.T u).mono (eD.refl _ _) hk⟩,hst,Keep.refl _ _⟩
end
section
variable {P:Program} {S S':Store} {f:FuncId} {args:List V}
end
section
variable {w:World} {σ:Nat->Nat}
mutual
theorem alL{σ2:Nat->Nat}{lo:Nat}(hs:∀b c t fz m,w.heap[b]? =some (.cells c t fz)->σ b=c.size+1+m->lo<=m->σ2 b=σ b):∀(d:D)(n:Nat)(v:Value),lo<=n->oG d=true->dM w σ (jQ d n) v->dM w σ2 (jQ d n) v
 | .sl es,n,v,hn,hp,h=>by
   rw[jQ] at h ⊢;have hrec:=aeH hs es (n+1);generalize eu es (n+1)=q at h hrec ⊢
   cases h with
   |wZ n a cap=>exact .wZ n a cap
   |ol n b off cap z q vals c t hcap hlen hb hσ hfit hc hv hx=>exact .ol n b off cap z q vals c t hcap hlen hb ((hs b c t _ _ hb hσ hn).trans hσ) hfit hc (hrec vals (by omega) (by simpa [oG] using hp) hv) hx
 | .ol m es,n,v,hn,hp,h=>by simp[oG] at hp
 | .b x,n,v,hn,hp,h=>by rw[jQ] at h ⊢;cases h;constructor
 | .i k x,n,v,hn,hp,h=>by rw[jQ] at h ⊢;cases h;constructor
 | .s l,n,v,hn,hp,h=>by rw[jQ] at h ⊢;cases h;constructor
 | .o u,n,v,hn,hp,h=>by simp[oG] at hp
theorem ahY{σ2:Nat->Nat}{lo:Nat}(hs:∀b c t fz m,w.heap[b]? =some (.cells c t fz)->σ b=c.size+1+m->lo<=m->σ2 b=σ b):∀(r:List D)(n:Nat)(vals:Nat->Value),lo<=n->jq r=true->(∀(j:Nat)(d:D),(fV r n)[j]? =some d->dM w σ d (vals j))->
 ∀(j:Nat)(d:D),(fV r n)[j]? =some d->dM w σ2 d (vals j)
 |[],n,vals,hn,hp,h,j,d,hd=>by simp[fV] at hd
 |a::r,n,vals,hn,hp,h,j,d,hd=>by
  rw[jq,Bool.and_eq_true] at hp;rw[fV] at h hd
  cases j with
  |zero=>
   simp at hd;subst hd;exact alL hs a n _ hn hp.1 (h 0 _ rfl)
  |succ j=>exact ahY hs r (n+qz a) (fun i=>vals (i+1)) (by omega) hp.2 (fun i d hi=>h (i+1) d hi) j d hd
theorem aeH{σ2:Nat->Nat}{lo:Nat}(hs:∀b c t fz m,w.heap[b]? =some (.cells c t fz)->σ b=c.size+1+m->lo<=m->σ2 b=σ b):∀(rs:List (List D))(n:Nat)(vals:Nat->Value),lo<=n->jG rs=true->(∀(j:Nat)(d:D),(eu rs n).flatten[j]? =some d->dM w σ d (vals j))->
 ∀(j:Nat)(d:D),(eu rs n).flatten[j]? =some d->dM w σ2 d (vals j)
 |[],n,vals,hn,hp,h,j,d,hd=>by simp[eu] at hd
 |r::rs,n,vals,hn,hp,h,j,d,hd=>by
  rw[jG,Bool.and_eq_true] at hp;rw[eu,List.flatten_cons] at h hd;by_cases hj:j<(fV r n).length
  ·rw[List.getElem?_append_left hj] at hd;exact ahY hs r n vals hn hp.1 (fun j d hd=>h j d (by rw[List.getElem?_append_left (List.getElem?_eq_some_iff.1 hd).1];exact hd)) j d hd
  ·rw[List.getElem?_append_right (by omega)] at hd;have:=aeH hs rs (n+uZ r) (fun i=>vals ((fV r n).length+i)) (by omega) hp.2 (fun j d hd=>h _ d (by rw[List.getElem?_append_right (by omega),Nat.add_sub_cancel_left];exact hd)) (j-(fV r n).length) d hd
   rwa [show(fV r n).length+(j-(fV r n).length)=j by omega] at this
end
end
section
variable {P:Program}
end
section
variable {P:Program} {N:Nat} {S:Store} {s:St}
end
section
variable {P:Program} {N:Nat} {S:Store}
theorem zG(T:List TypeId){f:FuncId}{fn:Func}{c:Code}{args:List V}{post:V->Store->Prop}{rs:List ResultVar}(fq:P.follows .mixedOrders=true)(hf:P.funcs[f]? =some fn)(hN:fn.ntmps=N)
 (hb:fn.body=some c) (hn:(fn.name== "runtime.NumGoroutine")=false) (hr:fn.results.toList=rs) (hl:Nat.ble args.length N=true) (hok:nU T N c=true)
 (h:mh P N T c (IW P rs post) ⟨kE (args.map (V.up 1)) 0,[.xf []]::S⟩):cB P f args S post:=by
 subst hN;subst hr;exact pY hf hb hn (Nat.le_of_ble_eq_true hl) (afY (Ak tq (nO fq c _ _ hok h)))
theorem adx{c:Code}{Q:Exit->St->Prop}{tm:List (Nat×V)}{Ω:Store}(h:AW P N c Q ⟨tm,[.xf [[]]]::Ω⟩):AW P N c Q ⟨tm,[]::Ω⟩:=by
 refine lU h fun a w σ β hR=> ?_;obtain⟨bo,bΩ,rfl,hlen⟩:=frames hR
 have hroot:∀r T,rJ (.tuple #[rR]) r=some T->r=0/\T=rR:=fun r T e=>by
  cases r with
  |zero=>exact⟨rfl,(Option.some.inj e).symm⟩
  |succ r=>simp[rJ] at e
 have hown:∀b,¬zn (.tuple #[rR]) b:=fun b ⟨r,T,e,ho⟩=>by
  obtain⟨_,rfl⟩:=hroot r T e;exact wD ho
 obtain⟨hS',hk,hst⟩:=hR.S.push (o:=.xf [[]]) (h:=.tuple #[rR]) (Grow.refl hR.S.live) hlen
  ⟨fun r es e=>by
    cases r with
    |zero=>cases e;exact⟨rR,rfl,.nil none 0 _ rfl FU⟩
    |succ r=>simp at e,fun r T e=>by rw[(hroot r T e).1];exact Nat.zero_lt_one,fun b hb=>(hown b hb).elim,fun r r' T T' x hne e e' ho=>by
    obtain⟨_,rfl⟩:=hroot r T e
    exact(wD ho).elim⟩
  (fun b hb=>(hown b hb).elim)
 exact⟨σ,_,⟨hR.size,hR.defers,hS',fun u=>(hR.T u).mono (eD.refl _ _) hk⟩,hst,Keep.refl _ _⟩
theorem Xn(T:List TypeId){f:FuncId}{fn:Func}{c:Code}{args:List V}{post:V->Store->Prop}{rs:List ResultVar}(fq:P.follows .mixedOrders=true)(hf:P.funcs[f]? =some fn)(hN:fn.ntmps=N)
 (hb:fn.body=some c) (hn:(fn.name== "runtime.NumGoroutine")=false) (hr:fn.results.toList=rs) (hl:Nat.ble args.length N=true) (hok:nU T N c=true)
 (h:mh P N T c (IW P rs post) ⟨kE (args.map (V.up 1)) 0,[.xf [[]]]::S⟩):cB P f args S post:=by
 subst hN;subst hr;exact pY hf hb hn (Nat.le_of_ble_eq_true hl) (adx (Ak tq (nO fq c _ _ hok h)))
end
section
variable {P:Program} {S S1:Store}
theorem cB.of_le{f:FuncId}{args:List V}{t:V}(h:cB P f args S fun r S'=>Less r t/\S'=S1):cB P f args S fun r S'=>r=t/\S'=S1:=
 ⟨h.1,fun w σ β vs hS hv=>(h.2 w σ β vs hS hv).mono fun e w' ⟨v,r,S',σ',β',h1,h2,h3,h4,h5,h6,h7⟩=>⟨v,t,S',σ',β',h1,h2,h3,h4,h6 _ _ _ _ _ h5,rfl,h7⟩⟩
theorem aF{r t:V}(h:OM r=t):Less r t:=fun w σ S β v hr=>by
 rw[<-h];exact QM hr _ _
end
attribute [go_sem] Bool.or_false Bool.false_or Bool.true_or Bool.or_true
def Jj:aJ:=⟨[110,105,108],[]⟩
def zH:aJ:=⟨[99,111,110,115],[nJ [97],rD [108,105,115,116] [nJ [97]]]⟩
def OU:List (List UInt8):=[[99,111,110,115],[],[111,110,101]]
theorem Xo:eZ OU:=by unfold eZ;decide
def uq{bs:List Int}(k:Int)(c:Cu bs):bB×Cu bs:=
 if k=0 then(⟨[108,105,115,116],[[97],(bP EN c).1],[Jj,zH]⟩,(bP EN c).2) else
 if k=1 then(⟨[108,105,115,116],[[97]],[Jj,zH].take (aT 2 c).1.toNat⟩,(aT 2 c).2) else
 if k=2 then(⟨[108,105,115,116],[[97]],[⟨[110,105,108],[(pJ 2 c).1]⟩,zH]⟩,(pJ 2 c).2) else
 if k=3 then(⟨[108,105,115,116],[[97]],[⟨(bP OU c).1,[]⟩,zH]⟩,(bP OU c).2) else
 (⟨[108,105,115,116],[[97]],[Jj,zH]⟩,c)
def zJ{bs:List Int}(c:Cu bs):bB×Cu bs:=uq (aT 10 c).1 (aT 10 c).2
theorem NI(s:List UInt8)(l:List ay):(aJ.mk s l).sz=s.length+(l.length+oh l):=vK _
theorem El:zH.sz=13:=by
 rw[vK];simp only[zH,oh,nD,Hl,List.length_cons,List.length_nil]
theorem Dh:Jj.sz=3:=by rw[vK];simp[Jj,oh]
theorem ady{bs:List Int}(c:Cu bs):(zJ c).1.sz<=300:=by
 unfold zJ;generalize (aT 10 c).1=k;generalize (aT 10 c).2=c1;have h1:=gP c1 Jh;have h2:=gP c1 Xo;have h3:=AU 2 c1
 have h4:zf ([Jj,zH].take (aT 2 c1).1.toNat)<=16:=by
  have:=iC (n:=2) c1 (by omega)
  have:(aT 2 c1).1.toNat=0\/(aT 2 c1).1.toNat=1:=by omega
  rcases this with e|e<;>rw[e]<;>simp[zf,Dh]
 have h5:([Jj,zH].take (aT 2 c1).1.toNat).length<=2:=List.length_take_le' _ _;unfold uq;split
 ·simp only[pF,zf,El,Dh,List.map_cons,List.map_nil,List.sum_cons,List.sum_nil,List.length_cons,List.length_nil];omega
 split
 ·simp only[pF,List.map_cons,List.map_nil,List.sum_cons,List.sum_nil,List.length_cons,List.length_nil];omega
 split
 ·simp only[pF,zf,NI,oh,El,Dh,List.map_cons,List.map_nil,List.sum_cons,List.sum_nil,List.length_cons,List.length_nil];omega
 split
 ·simp only[pF,zf,NI,oh,El,Dh,List.map_cons,List.map_nil,List.sum_cons,List.sum_nil,List.length_cons,List.length_nil];omega
 ·simp only[pF,zf,El,Dh,List.map_cons,List.map_nil,List.sum_cons,List.sum_nil,List.length_cons,List.length_nil];omega
section
variable {P:Program} {w:World} {σ:Nat->Nat}
end
def uM:List (List UInt8):=[[120],[121]]
theorem Jk:eZ uM:=by unfold eZ;decide
def ifL:List (List UInt8):=[[],[105,102]]
theorem adz:eZ ifL:=by unfold eZ;decide
def pQ(t:List UInt8):aC:=.mk 5 t [109] 0 zT [uD [120]] []
def uN:aM:=⟨[115,104,111,119],nJ [97]⟩
def y8:dD:=⟨[120],nJ [97]⟩
def BJ{bs:List Int}(s:List UInt8)(k:Int)(c:Cu bs):bA×Cu bs:=
 if k=0 then(⟨s,[[97]],[uN],[y8],(pJ 2 c).1,pQ [115,104,111,119]⟩,(pJ 2 c).2) else
 if k=1 then(⟨s,[[97]],[uN],[y8,⟨(bP uM c).1,rE⟩],rE,pQ [115,104,111,119]⟩,(bP uM c).2) else
 if k=2 then(⟨s,[[97]],[uN],[y8],rE,(gT 3 uM c).1⟩,(gT 3 uM c).2) else
 if k=3 then(⟨s,[[97]],[⟨[115,104,111,119],(pJ 1 c).1⟩],[y8],rE,pQ [115,104,111,119]⟩,(pJ 1 c).2) else
 if k=4 then(⟨(bP ifL c).1,[[97]],[uN],[y8],rE,pQ [115,104,111,119]⟩,(bP ifL c).2) else
 (⟨s,[[97]],[uN],[y8],rE,pQ [115,104,111,119]⟩,c)
def K4{bs:List Int}(c:Cu bs):bA×Cu bs:=BJ (bP vL c).1 (aT 10 (bP vL c).2).1 (aT 10 (bP vL c).2).2
def lD:List (List UInt8):=[[115,104,111,119],[101,113],[97,100,100]]
theorem Rc:eZ lD:=by unfold eZ;decide
def Jl:List (List UInt8):=[[],[105,110,116],[65]]
theorem aae:eZ Jl:=by unfold eZ;decide
def Rf:List (List UInt8):=[[115,101,108,102],[98]]
theorem adA:eZ Rf:=by unfold eZ;decide
def zE:aC:=.mk 0 [] [] 0 zT [] []
def Cn(t:ay)(b:Bool):aK:=⟨[109],[],t,b,[],zE⟩
def Mw(s:List UInt8):aK:=⟨[116,119,105,99,101],[nJ [115,101,108,102]],rE,true,uM,nR 10 [43] [pQ s,kL 1]⟩
def fT{bs:List Int}(s:List UInt8)(b:Bool)(m:List aK)(p:List (List UInt8))(k:Int)(c:Cu bs):bG×Cu bs:=
 if k=0 then(⟨s,p,true,b,Cn rE false::m⟩,c) else
 if k=1 then(⟨(bP Jl c).1,p,false,b,Cn rE false::m⟩,(bP Jl c).2) else
 if k=2 then(⟨s,p,false,b,Cn (nJ (bP Rf c).1) false::m⟩,(bP Rf c).2) else
 if k=3 then(⟨s,p,false,b,Cn rE true::m⟩,c) else
 if k=4 then(⟨s,p++[[111,114,100]],false,b,Cn rE false::m⟩,c) else
 if k=5 then(⟨s,p,false,b,Cn rE false::m++[Cn rE false]⟩,c) else
 (⟨s,p,false,b,Cn rE false::m⟩,c)
theorem nk(s:List UInt8):bF (encS s)=s.length:=by simp[encS,bF,D.sz]
theorem pR(t:List UInt8)(y:ay):bF (aM.mk t y).enc=t.length+y.sz:=by
 simp only[aM.aj,bF,bL,D.sz,ay.cK];omega
theorem vM(t:List UInt8)(y:ay):bF (dD.mk t y).enc=t.length+y.sz:=by
 simp only[dD.aj,bF,bL,D.sz,ay.cK];omega
theorem xK(s:List UInt8)(v:List (List UInt8))(w:List aM)(p:List dD)(r:ay)(b:aC):
 (bA.mk s v w p r b).sz=s.length+(v.length+aI (v.map encS))+(w.length+aI (w.map aM.enc))+(p.length+aI (p.map dD.enc))+r.sz+b.sz:=by
 simp only[bA.sz,bA.aj,bF,bL,D.sz,List.length_map,ay.cK,aC.cK];omega
theorem afZ(s:List UInt8):(uD s).sz=s.length:=by rw[uD,lT,nK];simp[aI]
theorem Mx(n:Int):(kL n).sz=0:=by rw[kL,lT,nK];simp[aI]
theorem xL(t:List UInt8):(pQ t).sz=t.length+3:=by
 rw[pQ,lT,nK];simp only[List.map_cons,List.map_nil,aI,aC.cK,afZ,List.length_cons,List.length_nil]
theorem sD:rE.sz=3:=by rw[rE,Mv];rfl
theorem ahZ{bs:List Int}(c:Cu bs):(K4 c).1.sz<=2000:=by
 unfold K4;have h0:=gP c Ra;generalize (bP vL c).1=s at h0;generalize (aT 10 (bP vL c).2).1=k;generalize (aT 10 (bP vL c).2).2=c1;have h1:=gP c1 Jk;have h2:=gP c1 adz;have h3:=AU 2 c1;have h4:=AU 1 c1;have h5:=Ji 3 uM c1 Jk;unfold BJ;split
 ·simp only[xK,List.map_cons,List.map_nil,aI,nk,uN,y8,pR,vM,nD,xL,List.length_cons,List.length_nil];omega
 split
 ·simp only[xK,List.map_cons,List.map_nil,aI,nk,uN,y8,pR,vM,nD,sD,xL,List.length_cons,List.length_nil];omega
 split
 ·simp only[xK,List.map_cons,List.map_nil,aI,nk,uN,y8,pR,vM,nD,sD,List.length_cons,List.length_nil];omega
 split
 ·simp only[xK,List.map_cons,List.map_nil,aI,nk,y8,pR,vM,nD,sD,xL,List.length_cons,List.length_nil];omega
 split
 ·simp only[xK,List.map_cons,List.map_nil,aI,nk,uN,y8,pR,vM,nD,sD,xL,List.length_cons,List.length_nil];omega
 ·simp only[xK,List.map_cons,List.map_nil,aI,nk,uN,y8,pR,vM,nD,sD,xL,List.length_cons,List.length_nil];omega
theorem l13Fn_3{bs:List Int}(hB:Bytes bs)(c c1 c2:Cu bs)(s:List UInt8)(l j:Nat)(S:Store)(hk:bg S (l,j)=some (.box (cur c)))(h1:bP vL c=(s,c1))(h2:aT 10 c1=(3,c2)):
 cB prog 104 [.c (.ptr (l,j) 0)] S (fun r S1=>r=(BJ s 3 c2).1.v/\S1=aX S (l,j) (.box (cur (BJ s 3 c2).2))):=by
 have g:∀x:Ab.Obj,bg (aX S (l,j) x) (l,j)=some x:=fun x=>dn _ _ _ _ hk;have q1:=fun fr:List Ab.Obj=>dS hB c (1+l) j (fr::S) vL (by rw[aG];exact hk) (by decide) (by decide);simp only[h1,ak] at q1;have q2:=fun fr:List Ab.Obj=>dY hB c1 (1+l) j (fr::aX S (l,j) (.box (cur c1))) 10 (by rw[aG];exact g _) (by omega) (by omega);simp only[h2,ak,ah] at q2;have q3:=fun fr:List Ab.Obj=>iF hB 1 c2 (1+l) j (fr::aX S (l,j) (.box (cur c2))) (by rw[aG];exact g _) (by omega);simp only[ak,ah] at q3;obtain⟨q,hq⟩:∃q,q=BJ s 3 c2:=⟨_,rfl⟩;rw[<-hq];simp only[BJ,reduceIte,Int.reduceEq] at hq;refine cB.of_le ?_;refine zG [67] (rs:=[.cell 2 117]) zmx func104 ntmps104 rfl rfl rfl rfl rfl ?_;simp -implicitDefEqProofs (disch:=omega) only[go_sem];refine cu [true] rfl (q1 _) ?_;simp -implicitDefEqProofs (disch:=omega) only[go_sem,ak,ah];refine aB (fQ _) ?_;simp -implicitDefEqProofs (disch:=omega) only[go_sem];refine aB (fQ _) ?_;simp -implicitDefEqProofs (disch:=omega) only[go_sem];refine aB jA ?_;simp -implicitDefEqProofs (disch:=omega) only[go_sem];refine aB (tX _) ?_;simp -implicitDefEqProofs (disch:=omega) only[go_sem]
 (repeat(with_reducible refine And.intro ?_ ?_;focus first|omega|rfl|assumption|exact⟨_,rfl,rfl⟩|(simp;omega)|(simp;done)))
 refine bn rfl (q2 _) ?_;simp -implicitDefEqProofs (disch:=omega) only[go_sem,ak,ah];refine bn rfl (q3 _) ?_;simp -implicitDefEqProofs (disch:=omega) only[go_sem,ak,ah]
 (repeat(with_reducible refine And.intro ?_ ?_;focus first|omega|rfl|assumption|exact⟨_,rfl,rfl⟩|(simp;omega)|(simp;done)))
 refine⟨by cases l<;>rfl,?_⟩;simp -implicitDefEqProofs (disch:=omega) only[go_sem,ak,ah];rw[hq]
 first|exact⟨aF rfl,rfl⟩|(refine⟨aF ?_,rfl⟩;simp only[bA.v,List.map_cons,List.map_nil,List.map_append,aM.aj,aJ.aj,aK.aj,aN.aj,ay.aj,aC.aj,List.cons_append,List.nil_append];rfl)
theorem af0{bs:List Int}(hB:Bytes bs)(c c1 c2:Cu bs)(s:List UInt8)(k:Int)(l j:Nat)(S:Store)(hk:bg S (l,j)=some (.box (cur c)))(h1:bP vL c=(s,c1))(h2:aT 10 c1=(k,c2))(hk3:k≠3):
 cB prog 104 [.c (.ptr (l,j) 0)] S (fun r S1=>r=(BJ s k c2).1.v/\S1=aX S (l,j) (.box (cur (BJ s k c2).2))):=by
 have g:∀x:Ab.Obj,bg (aX S (l,j) x) (l,j)=some x:=fun x=>dn _ _ _ _ hk;have q1:=fun fr:List Ab.Obj=>dS hB c (1+l) j (fr::S) vL (by rw[aG];exact hk) (by decide) (by decide);simp only[h1,ak] at q1;have q2:=fun fr:List Ab.Obj=>dY hB c1 (1+l) j (fr::aX S (l,j) (.box (cur c1))) 10 (by rw[aG];exact g _) (by omega) (by omega);simp only[h2,ak,ah] at q2;obtain⟨q,hq⟩:∃q,q=BJ s k c2:=⟨_,rfl⟩;rw[<-hq];refine cB.of_le ?_;refine oZ [67] (rs:=[.cell 2 117]) zmx func104 ntmps104 rfl rfl rfl rfl rfl ?_;simp -implicitDefEqProofs (disch:=omega) only[go_sem];refine cu [true] rfl (q1 _) ?_;simp -implicitDefEqProofs (disch:=omega) only[go_sem,ak,ah];refine aB (fQ _) ?_;simp -implicitDefEqProofs (disch:=omega) only[go_sem];refine aB (fQ _) ?_;simp -implicitDefEqProofs (disch:=omega) only[go_sem];refine aB jA ?_;simp -implicitDefEqProofs (disch:=omega) only[go_sem];refine aB (tX _) ?_;simp -implicitDefEqProofs (disch:=omega) only[go_sem]
 (repeat(with_reducible refine And.intro ?_ ?_;focus first|omega|rfl|assumption|exact⟨_,rfl,rfl⟩|(simp;omega)|(simp;done)))
 refine bn rfl (q2 _) ?_;simp -implicitDefEqProofs (disch:=omega) only[go_sem,ak,ah]
 with_reducible refine aD (fun hb=> ?_) (fun hb=> ?_)<;>have h:=hb<;>(try simp only[wf_preprocess] at h)<;>simp -implicitDefEqProofs (disch:=omega) only[go_sem,hb,ak,ah]<;>(repeat(with_reducible refine And.intro ?_ ?_;focus first|omega|rfl|assumption|exact⟨_,rfl,rfl⟩|(simp;omega)|(simp;done)))
 ·subst h;simp only[BJ,reduceIte,Int.reduceEq] at hq;refine bn rfl (iF hB 2 c2 (1+l) j _ (by rw[aG];exact g _) (by omega)) ?_;simp -implicitDefEqProofs (disch:=omega) only[go_sem,ak,ah];rw[hq]
  first|exact⟨aF rfl,rfl⟩|(refine⟨aF ?_,rfl⟩;simp only[bA.v,List.map_cons,List.map_nil,List.map_append,aM.aj,aJ.aj,aK.aj,aN.aj,ay.aj,aC.aj,List.cons_append,List.nil_append];rfl)
 have e0:=h
 with_reducible refine aD (fun hb=> ?_) (fun hb=> ?_)<;>have h:=hb<;>(try simp only[wf_preprocess] at h)<;>simp -implicitDefEqProofs (disch:=omega) only[go_sem,hb,ak,ah]<;>(repeat(with_reducible refine And.intro ?_ ?_;focus first|omega|rfl|assumption|exact⟨_,rfl,rfl⟩|(simp;omega)|(simp;done)))
 ·subst h;simp only[BJ,reduceIte,Int.reduceEq] at hq;refine cu [true] rfl (dS hB c2 (1+l) j _ uM (by rw[aG];exact g _) (by decide) (by decide)) ?_;simp -implicitDefEqProofs (disch:=omega) only[go_sem,ak,ah];refine aB jA ?_;simp -implicitDefEqProofs (disch:=omega) only[go_sem,ak,ah]
  (repeat(with_reducible refine And.intro ?_ ?_;focus first|omega|rfl|assumption|exact⟨_,rfl,rfl⟩|(simp;omega)|(simp;done)))
  refine⟨by cases l<;>rfl,?_⟩;simp -implicitDefEqProofs (disch:=omega) only[go_sem,ak,ah];rw[hq]
  first|exact⟨aF rfl,rfl⟩|(refine⟨aF ?_,rfl⟩;simp only[bA.v,List.map_cons,List.map_nil,List.map_append,aM.aj,aJ.aj,aK.aj,aN.aj,ay.aj,aC.aj,List.cons_append,List.nil_append];rfl)
 have e1:=h
 with_reducible refine aD (fun hb=> ?_) (fun hb=> ?_)<;>have h:=hb<;>(try simp only[wf_preprocess] at h)<;>simp -implicitDefEqProofs (disch:=omega) only[go_sem,hb,ak,ah]<;>(repeat(with_reducible refine And.intro ?_ ?_;focus first|omega|rfl|assumption|exact⟨_,rfl,rfl⟩|(simp;omega)|(simp;done)))
 ·subst h;simp only[BJ,reduceIte,Int.reduceEq] at hq;refine cu [true] rfl (jm (mE hB 3 uM c2 (1+l) j _ (by decide) (by rw[aG];exact g _))) ?_;simp -implicitDefEqProofs (disch:=omega) only[go_sem,ak,ah];rw[hq]
  first|exact⟨aF rfl,rfl⟩|(refine⟨aF ?_,rfl⟩;simp only[bA.v,List.map_cons,List.map_nil,List.map_append,aM.aj,aJ.aj,aK.aj,aN.aj,ay.aj,aC.aj,List.cons_append,List.nil_append];rfl)
 have e2:=h
 with_reducible refine aD (fun hb=> ?_) (fun hb=> ?_)<;>have h:=hb<;>(try simp only[wf_preprocess] at h)<;>simp -implicitDefEqProofs (disch:=omega) only[go_sem,hb,ak,ah]<;>(repeat(with_reducible refine And.intro ?_ ?_;focus first|omega|rfl|assumption|exact⟨_,rfl,rfl⟩|(simp;omega)|(simp;done)))
 ·exact absurd h hk3
 with_reducible refine aD (fun hb=> ?_) (fun hb=> ?_)<;>have h:=hb<;>(try simp only[wf_preprocess] at h)<;>simp -implicitDefEqProofs (disch:=omega) only[go_sem,hb,ak,ah]<;>(repeat(with_reducible refine And.intro ?_ ?_;focus first|omega|rfl|assumption|exact⟨_,rfl,rfl⟩|(simp;omega)|(simp;done)))
 ·subst h;simp only[BJ,reduceIte,Int.reduceEq] at hq;refine cu [true] rfl (dS hB c2 (1+l) j _ ifL (by rw[aG];exact g _) (by decide) (by decide)) ?_;simp -implicitDefEqProofs (disch:=omega) only[go_sem,ak,ah];rw[hq]
  first|exact⟨aF rfl,rfl⟩|(refine⟨aF ?_,rfl⟩;simp only[bA.v,List.map_cons,List.map_nil,List.map_append,aM.aj,aJ.aj,aK.aj,aN.aj,ay.aj,aC.aj,List.cons_append,List.nil_append];rfl)
 have e4:=h;simp only[BJ,if_neg e0,if_neg e1,if_neg e2,if_neg hk3,if_neg e4] at hq;rw[hq]
 first|exact⟨aF rfl,rfl⟩|(refine⟨aF ?_,rfl⟩;simp only[bA.v,List.map_cons,List.map_nil,List.map_append,aM.aj,aJ.aj,aK.aj,aN.aj,ay.aj,aC.aj,List.cons_append,List.nil_append];rfl)
theorem adB{bs:List Int}(hB:Bytes bs)(c:Cu bs)(l j:Nat)(S:Store)(hk:bg S (l,j)=some (.box (cur c))):
 cB prog 104 [.c (.ptr (l,j) 0)] S (fun r S1=>r=(K4 c).1.v/\S1=aX S (l,j) (.box (cur (K4 c).2))):=by
 unfold K4;by_cases h3:(aT 10 (bP vL c).2).1=3
 ·rw[h3];exact l13Fn_3 hB c _ _ _ l j S hk rfl (Prod.ext h3 rfl)
 ·exact af0 hB c _ _ _ _ l j S hk rfl rfl h3
theorem NJ(s:List UInt8)(p:List ay)(r:ay)(d:Bool)(v:List (List UInt8))(b:aC):bF (aK.mk s p r d v b).enc=s.length+(p.length+aI (p.map ay.enc))+r.sz+(v.length+aI (v.map encS))+b.sz:=by
 simp only[aK.aj,bF,bL,D.sz,List.length_map,ay.cK,aC.cK];omega
theorem Ip(s:List UInt8)(p:List (List UInt8))(a b:Bool)(m:List aK):(bG.mk s p a b m).sz=s.length+(p.length+aI (p.map encS))+(m.length+aI (m.map aK.enc)):=by
 simp only[bG.sz,bG.aj,bF,bL,D.sz,List.length_map];omega
def iB(b:Bool)(s:List UInt8):List aK:=match b with
 |true=>[Mw s]
 |false=>[]
def iG(b:Bool):List (List UInt8):=match b with
 |true=>[[111,114,100]]
 |false=>[]
def wP{bs:List Int}(c:Cu bs):bG×Cu bs:=
 fT (bP lD c).1 (bW 3 (bP lD c).2).1 (iB (bW 2 (bW 3 (bP lD c).2).2).1 (bP lD c).1) (iG (bW 3 (bW 2 (bW 3 (bP lD c).2).2).2).1)
  (aT 12 (bW 3 (bW 2 (bW 3 (bP lD c).2).2).2).2).1 (aT 12 (bW 3 (bW 2 (bW 3 (bP lD c).2).2).2).2).2
theorem Uv(t:ay)(b:Bool):bF (Cn t b).enc=t.sz+1:=by
 have hz:zE.sz=0:=by rw[zE,lT,nK];simp[aI]
 rw[Cn,NJ,hz];simp only[List.map_nil,aI,List.length_nil,List.length_cons];omega
theorem af2(s:List UInt8):bF (Mw s).enc<=s.length+24:=by
 rw[Mw,NJ,nR,lT,nK];simp only[uM,List.map_cons,List.map_nil,aI,nk,ay.cK,aC.cK,nD,sD,xL,Mx,List.length_nil,List.length_cons];omega
theorem af3(b:Bool)(s:List UInt8):(iB b s).length<=1/\aI ((iB b s).map aK.enc)<=s.length+24:=by
 cases b with
 |false=>exact⟨Nat.zero_le _,Nat.zero_le _⟩
 |true=>exact⟨Nat.le_refl _,by have:=af2 s;simp only[iB,List.map_cons,List.map_nil,aI];omega⟩
theorem af4(b:Bool):(iG b).length<=1/\aI ((iG b).map encS)<=3:=by
 cases b with
 |false=>exact⟨Nat.zero_le _,Nat.zero_le _⟩
 |true=>exact⟨Nat.le_refl _,Nat.le_refl _⟩
theorem aaf{bs:List Int}(c:Cu bs):(wP c).1.sz<=300:=by
 unfold wP;have h0:=gP c Rc;generalize (bP lD c).1=s at h0;have h1:=af3 (bW 2 (bW 3 (bP lD c).2).2).1 s;have h2:=af4 (bW 3 (bW 2 (bW 3 (bP lD c).2).2).2).1;generalize iB (bW 2 (bW 3 (bP lD c).2).2).1 s=m at h1;generalize iG (bW 3 (bW 2 (bW 3 (bP lD c).2).2).2).1=p at h2;generalize (bW 3 (bP lD c).2).1=b;generalize (aT 12 (bW 3 (bW 2 (bW 3 (bP lD c).2).2).2).2).1=k;generalize (aT 12 (bW 3 (bW 2 (bW 3 (bP lD c).2).2).2).2).2=c1;have h3:=gP c1 aae;have h4:=gP c1 adA;unfold fT
 iterate 6
  split
  ·simp only[Ip,List.map_cons,List.map_nil,List.map_append,aI,pO,nk,Uv,nD,sD,List.length_cons,List.length_nil,List.length_append];omega
 simp only[Ip,List.map_cons,List.map_nil,aI,Uv,sD,List.length_cons,List.length_nil];omega
theorem Xp{bs:List Int}(hB:Bytes bs)(c c1 c2 c3 c4 c5:Cu bs)(s:List UInt8)(b o p:Bool)(k:Int)(l j:Nat)(S:Store)(hk:bg S (l,j)=some (.box (cur c)))(h1:bP lD c=(s,c1))(h2:bW 3 c1=(b,c2))(h3:bW 2 c2=(o,c3))(h4:bW 3 c3=(p,c4))(h5:aT 12 c4=(k,c5))(ho1:o=true)(Rh:k=2\/k=3):
 cB prog 101 [.c (.ptr (l,j) 0)] S (fun r S1=>r=(fT s b (iB o s) (iG p) k c5).1.v/\S1=aX S (l,j) (.box (cur (fT s b (iB o s) (iG p) k c5).2))):=by
 have g:∀x:Ab.Obj,bg (aX S (l,j) x) (l,j)=some x:=fun x=>dn _ _ _ _ hk;have q1:=fun fr:List Ab.Obj=>dS hB c (1+l) j (fr::S) lD (by rw[aG];exact hk) (by decide) (by decide);simp only[h1,ak] at q1;have q2:=fun fr:List Ab.Obj=>iD hB c1 (1+l) j (fr::aX S (l,j) (.box (cur c1))) 3 (by rw[aG];exact g _) (by omega) (by omega);simp only[h2,ak,ah] at q2;have q3:=fun fr:List Ab.Obj=>iD hB c2 (1+l) j (fr::aX S (l,j) (.box (cur c2))) 2 (by rw[aG];exact g _) (by omega) (by omega);simp only[h3,ak,ah] at q3;have q4:=fun fr:List Ab.Obj=>iD hB c3 (1+l) j (fr::aX S (l,j) (.box (cur c3))) 3 (by rw[aG];exact g _) (by omega) (by omega);simp only[h4,ak,ah] at q4;have q5:=fun fr:List Ab.Obj=>dY hB c4 (1+l) j (fr::aX S (l,j) (.box (cur c4))) 12 (by rw[aG];exact g _) (by omega) (by omega);simp only[h5,ak,ah] at q5;have qo:∀es:List (List D),es=[pQ s,kL 1].map aC.enc->bq prog 142 [.c (.d (.i .i64 10)),.c (.d (.s [43])),.c (.d (.sl es))] (nR 10 [43] [pQ s,kL 1]).v:=fun es he S=>jm (BI 10 [43] [pQ s,kL 1] he (by simp) (.inl rfl) S)
 have ho:(iB o s)=(if o=true then [Mw s] else []):=by cases o<;>rfl
 have hp:(iG p)=(if p=true then [[111,114,100]] else []):=by cases p<;>rfl
 obtain⟨q,hq⟩:∃q,q=fT s b (iB o s) (iG p) k c5:=⟨_,rfl⟩;rw[<-hq];refine cB.of_le ?_;refine Xn [67] (rs:=[.cell 2 54]) zmx func101 ntmps101 rfl rfl rfl rfl rfl ?_;simp -implicitDefEqProofs (disch:=omega) only[go_sem];refine aB (fQ _) ?_;simp -implicitDefEqProofs (disch:=omega) only[go_sem];refine cu [true] rfl (q1 _) ?_;simp -implicitDefEqProofs (disch:=omega) only[go_sem,ak,ah];refine bn rfl (q2 _) ?_;simp -implicitDefEqProofs (disch:=omega) only[go_sem,ak,ah];refine aB jA ?_;simp -implicitDefEqProofs (disch:=omega) only[go_sem]
 (repeat(with_reducible refine And.intro ?_ ?_;focus first|omega|rfl|assumption|exact⟨_,rfl,rfl⟩|(simp;omega)|(simp;done)))
 refine bn rfl (q3 _) ?_;subst ho1;simp -implicitDefEqProofs (disch:=omega) only[go_sem,ak,ah];refine aB jA ?_;simp -implicitDefEqProofs (disch:=omega) only[go_sem];refine aB (tX _) ?_;simp -implicitDefEqProofs (disch:=omega) only[go_sem];refine aB (pK _) ?_;simp -implicitDefEqProofs (disch:=omega) only[go_sem];refine aB (qo _ rfl) ?_;simp -implicitDefEqProofs (disch:=omega) only[go_sem]
 (repeat(with_reducible refine And.intro ?_ ?_;focus first|omega|rfl|assumption|exact⟨_,rfl,rfl⟩|(simp;omega)|(simp;done)))
 refine⟨by cases l<;>rfl,?_⟩;simp -implicitDefEqProofs (disch:=omega) only[go_sem,ak,ah];refine bn rfl (q4 _) ?_
 cases p with
 |true=>
  simp -implicitDefEqProofs (disch:=omega) only[go_sem,ak,ah];refine bn rfl (q5 _) ?_;rcases Rh with rfl|rfl
  ·simp only[fT,iB,iG,reduceIte,Int.reduceEq] at hq;simp -implicitDefEqProofs (disch:=omega) only[go_sem,ak,ah];refine cu [true] rfl (dS hB c5 (1+l) j _ Rf (by rw[aG];exact g _) (by decide) (by decide)) ?_;simp -implicitDefEqProofs (disch:=omega) only[go_sem,ak,ah];refine aB (fQ _) ?_;simp -implicitDefEqProofs (disch:=omega) only[go_sem,ak,ah]
   (repeat(with_reducible refine And.intro ?_ ?_;focus first|omega|rfl|assumption|exact⟨_,rfl,rfl⟩|(simp;omega)|(simp;done)))
   refine⟨by cases l<;>rfl,?_⟩;simp -implicitDefEqProofs (disch:=omega) only[go_sem,ak,ah];rw[hq]
   first|exact⟨aF rfl,rfl⟩|(refine⟨aF ?_,rfl⟩;simp only[bG.v,List.map_cons,List.map_nil,List.map_append,aM.aj,aJ.aj,aK.aj,aN.aj,ay.aj,aC.aj,List.cons_append,List.nil_append];rfl)
  ·simp only[fT,iB,iG,reduceIte,Int.reduceEq] at hq;simp -implicitDefEqProofs (disch:=omega) only[go_sem,ak,ah]
   (repeat(with_reducible refine And.intro ?_ ?_;focus first|omega|rfl|assumption|exact⟨_,rfl,rfl⟩|(simp;omega)|(simp;done)))
   rw[hq]
   first|exact⟨aF rfl,rfl⟩|(refine⟨aF ?_,rfl⟩;simp only[bG.v,List.map_cons,List.map_nil,List.map_append,aM.aj,aJ.aj,aK.aj,aN.aj,ay.aj,aC.aj,List.cons_append,List.nil_append];rfl)
 |false=>
  simp -implicitDefEqProofs (disch:=omega) only[go_sem,ak,ah];refine bn rfl (q5 _) ?_;rcases Rh with rfl|rfl
  ·simp only[fT,iB,iG,reduceIte,Int.reduceEq] at hq;simp -implicitDefEqProofs (disch:=omega) only[go_sem,ak,ah];refine cu [true] rfl (dS hB c5 (1+l) j _ Rf (by rw[aG];exact g _) (by decide) (by decide)) ?_;simp -implicitDefEqProofs (disch:=omega) only[go_sem,ak,ah];refine aB (fQ _) ?_;simp -implicitDefEqProofs (disch:=omega) only[go_sem,ak,ah]
   (repeat(with_reducible refine And.intro ?_ ?_;focus first|omega|rfl|assumption|exact⟨_,rfl,rfl⟩|(simp;omega)|(simp;done)))
   refine⟨by cases l<;>rfl,?_⟩;simp -implicitDefEqProofs (disch:=omega) only[go_sem,ak,ah];rw[hq]
   first|exact⟨aF rfl,rfl⟩|(refine⟨aF ?_,rfl⟩;simp only[bG.v,List.map_cons,List.map_nil,List.map_append,aM.aj,aJ.aj,aK.aj,aN.aj,ay.aj,aC.aj,List.cons_append,List.nil_append];rfl)
  ·simp only[fT,iB,iG,reduceIte,Int.reduceEq] at hq;simp -implicitDefEqProofs (disch:=omega) only[go_sem,ak,ah]
   (repeat(with_reducible refine And.intro ?_ ?_;focus first|omega|rfl|assumption|exact⟨_,rfl,rfl⟩|(simp;omega)|(simp;done)))
   rw[hq]
   first|exact⟨aF rfl,rfl⟩|(refine⟨aF ?_,rfl⟩;simp only[bG.v,List.map_cons,List.map_nil,List.map_append,aM.aj,aJ.aj,aK.aj,aN.aj,ay.aj,aC.aj,List.cons_append,List.nil_append];rfl)
theorem Xq{bs:List Int}(hB:Bytes bs)(c c1 c2 c3 c4 c5:Cu bs)(s:List UInt8)(b o p:Bool)(k:Int)(l j:Nat)(S:Store)(hk:bg S (l,j)=some (.box (cur c)))(h1:bP lD c=(s,c1))(h2:bW 3 c1=(b,c2))(h3:bW 2 c2=(o,c3))(h4:bW 3 c3=(p,c4))(h5:aT 12 c4=(k,c5))(ho1:o=false)(Rh:k=2\/k=3):
 cB prog 101 [.c (.ptr (l,j) 0)] S (fun r S1=>r=(fT s b (iB o s) (iG p) k c5).1.v/\S1=aX S (l,j) (.box (cur (fT s b (iB o s) (iG p) k c5).2))):=by
 have g:∀x:Ab.Obj,bg (aX S (l,j) x) (l,j)=some x:=fun x=>dn _ _ _ _ hk;have q1:=fun fr:List Ab.Obj=>dS hB c (1+l) j (fr::S) lD (by rw[aG];exact hk) (by decide) (by decide);simp only[h1,ak] at q1;have q2:=fun fr:List Ab.Obj=>iD hB c1 (1+l) j (fr::aX S (l,j) (.box (cur c1))) 3 (by rw[aG];exact g _) (by omega) (by omega);simp only[h2,ak,ah] at q2;have q3:=fun fr:List Ab.Obj=>iD hB c2 (1+l) j (fr::aX S (l,j) (.box (cur c2))) 2 (by rw[aG];exact g _) (by omega) (by omega);simp only[h3,ak,ah] at q3;have q4:=fun fr:List Ab.Obj=>iD hB c3 (1+l) j (fr::aX S (l,j) (.box (cur c3))) 3 (by rw[aG];exact g _) (by omega) (by omega);simp only[h4,ak,ah] at q4;have q5:=fun fr:List Ab.Obj=>dY hB c4 (1+l) j (fr::aX S (l,j) (.box (cur c4))) 12 (by rw[aG];exact g _) (by omega) (by omega);simp only[h5,ak,ah] at q5;have qo:∀es:List (List D),es=[pQ s,kL 1].map aC.enc->bq prog 142 [.c (.d (.i .i64 10)),.c (.d (.s [43])),.c (.d (.sl es))] (nR 10 [43] [pQ s,kL 1]).v:=fun es he S=>jm (BI 10 [43] [pQ s,kL 1] he (by simp) (.inl rfl) S)
 have ho:(iB o s)=(if o=true then [Mw s] else []):=by cases o<;>rfl
 have hp:(iG p)=(if p=true then [[111,114,100]] else []):=by cases p<;>rfl
 obtain⟨q,hq⟩:∃q,q=fT s b (iB o s) (iG p) k c5:=⟨_,rfl⟩;rw[<-hq];refine cB.of_le ?_;refine zG [67] (rs:=[.cell 2 54]) zmx func101 ntmps101 rfl rfl rfl rfl rfl ?_;simp -implicitDefEqProofs (disch:=omega) only[go_sem];refine aB (fQ _) ?_;simp -implicitDefEqProofs (disch:=omega) only[go_sem];refine cu [true] rfl (q1 _) ?_;simp -implicitDefEqProofs (disch:=omega) only[go_sem,ak,ah];refine bn rfl (q2 _) ?_;simp -implicitDefEqProofs (disch:=omega) only[go_sem,ak,ah];refine aB jA ?_;simp -implicitDefEqProofs (disch:=omega) only[go_sem]
 (repeat(with_reducible refine And.intro ?_ ?_;focus first|omega|rfl|assumption|exact⟨_,rfl,rfl⟩|(simp;omega)|(simp;done)))
 refine bn rfl (q3 _) ?_;subst ho1;simp -implicitDefEqProofs (disch:=omega) only[go_sem,ak,ah];refine bn rfl (q4 _) ?_
 cases p with
 |true=>
  simp -implicitDefEqProofs (disch:=omega) only[go_sem,ak,ah];refine bn rfl (q5 _) ?_;rcases Rh with rfl|rfl
  ·simp only[fT,iB,iG,reduceIte,Int.reduceEq] at hq;simp -implicitDefEqProofs (disch:=omega) only[go_sem,ak,ah];refine cu [true] rfl (dS hB c5 (1+l) j _ Rf (by rw[aG];exact g _) (by decide) (by decide)) ?_;simp -implicitDefEqProofs (disch:=omega) only[go_sem,ak,ah];refine aB (fQ _) ?_;simp -implicitDefEqProofs (disch:=omega) only[go_sem,ak,ah]
   (repeat(with_reducible refine And.intro ?_ ?_;focus first|omega|rfl|assumption|exact⟨_,rfl,rfl⟩|(simp;omega)|(simp;done)))
   refine⟨by cases l<;>rfl,?_⟩;simp -implicitDefEqProofs (disch:=omega) only[go_sem,ak,ah];rw[hq]
   first|exact⟨aF rfl,rfl⟩|(refine⟨aF ?_,rfl⟩;simp only[bG.v,List.map_cons,List.map_nil,List.map_append,aM.aj,aJ.aj,aK.aj,aN.aj,ay.aj,aC.aj,List.cons_append,List.nil_append];rfl)
  ·simp only[fT,iB,iG,reduceIte,Int.reduceEq] at hq;simp -implicitDefEqProofs (disch:=omega) only[go_sem,ak,ah]
   (repeat(with_reducible refine And.intro ?_ ?_;focus first|omega|rfl|assumption|exact⟨_,rfl,rfl⟩|(simp;omega)|(simp;done)))
   rw[hq]
   first|exact⟨aF rfl,rfl⟩|(refine⟨aF ?_,rfl⟩;simp only[bG.v,List.map_cons,List.map_nil,List.map_append,aM.aj,aJ.aj,aK.aj,aN.aj,ay.aj,aC.aj,List.cons_append,List.nil_append];rfl)
 |false=>
  simp -implicitDefEqProofs (disch:=omega) only[go_sem,ak,ah];refine bn rfl (q5 _) ?_;rcases Rh with rfl|rfl
  ·simp only[fT,iB,iG,reduceIte,Int.reduceEq] at hq;simp -implicitDefEqProofs (disch:=omega) only[go_sem,ak,ah];refine cu [true] rfl (dS hB c5 (1+l) j _ Rf (by rw[aG];exact g _) (by decide) (by decide)) ?_;simp -implicitDefEqProofs (disch:=omega) only[go_sem,ak,ah];refine aB (fQ _) ?_;simp -implicitDefEqProofs (disch:=omega) only[go_sem,ak,ah]
   (repeat(with_reducible refine And.intro ?_ ?_;focus first|omega|rfl|assumption|exact⟨_,rfl,rfl⟩|(simp;omega)|(simp;done)))
   refine⟨by cases l<;>rfl,?_⟩;simp -implicitDefEqProofs (disch:=omega) only[go_sem,ak,ah];rw[hq]
   first|exact⟨aF rfl,rfl⟩|(refine⟨aF ?_,rfl⟩;simp only[bG.v,List.map_cons,List.map_nil,List.map_append,aM.aj,aJ.aj,aK.aj,aN.aj,ay.aj,aC.aj,List.cons_append,List.nil_append];rfl)
  ·simp only[fT,iB,iG,reduceIte,Int.reduceEq] at hq;simp -implicitDefEqProofs (disch:=omega) only[go_sem,ak,ah]
   (repeat(with_reducible refine And.intro ?_ ?_;focus first|omega|rfl|assumption|exact⟨_,rfl,rfl⟩|(simp;omega)|(simp;done)))
   rw[hq]
   first|exact⟨aF rfl,rfl⟩|(refine⟨aF ?_,rfl⟩;simp only[bG.v,List.map_cons,List.map_nil,List.map_append,aM.aj,aJ.aj,aK.aj,aN.aj,ay.aj,aC.aj,List.cons_append,List.nil_append];rfl)
theorem Xr{bs:List Int}(hB:Bytes bs)(c c1 c2 c3 c4 c5:Cu bs)(s:List UInt8)(b o p:Bool)(k:Int)(l j:Nat)(S:Store)(hk:bg S (l,j)=some (.box (cur c)))(h1:bP lD c=(s,c1))(h2:bW 3 c1=(b,c2))(h3:bW 2 c2=(o,c3))(h4:bW 3 c3=(p,c4))(h5:aT 12 c4=(k,c5))(hk2:k≠2)(hk3:k≠3):
 cB prog 101 [.c (.ptr (l,j) 0)] S (fun r S1=>r=(fT s b (iB o s) (iG p) k c5).1.v/\S1=aX S (l,j) (.box (cur (fT s b (iB o s) (iG p) k c5).2))):=by
 have g:∀x:Ab.Obj,bg (aX S (l,j) x) (l,j)=some x:=fun x=>dn _ _ _ _ hk;have q1:=fun fr:List Ab.Obj=>dS hB c (1+l) j (fr::S) lD (by rw[aG];exact hk) (by decide) (by decide);simp only[h1,ak] at q1;have q2:=fun fr:List Ab.Obj=>iD hB c1 (1+l) j (fr::aX S (l,j) (.box (cur c1))) 3 (by rw[aG];exact g _) (by omega) (by omega);simp only[h2,ak,ah] at q2;have q3:=fun fr:List Ab.Obj=>iD hB c2 (1+l) j (fr::aX S (l,j) (.box (cur c2))) 2 (by rw[aG];exact g _) (by omega) (by omega);simp only[h3,ak,ah] at q3;have q4:=fun fr:List Ab.Obj=>iD hB c3 (1+l) j (fr::aX S (l,j) (.box (cur c3))) 3 (by rw[aG];exact g _) (by omega) (by omega);simp only[h4,ak,ah] at q4;have q5:=fun fr:List Ab.Obj=>dY hB c4 (1+l) j (fr::aX S (l,j) (.box (cur c4))) 12 (by rw[aG];exact g _) (by omega) (by omega);simp only[h5,ak,ah] at q5;have qo:∀es:List (List D),es=[pQ s,kL 1].map aC.enc->bq prog 142 [.c (.d (.i .i64 10)),.c (.d (.s [43])),.c (.d (.sl es))] (nR 10 [43] [pQ s,kL 1]).v:=fun es he S=>jm (BI 10 [43] [pQ s,kL 1] he (by simp) (.inl rfl) S)
 have ho:(iB o s)=(if o=true then [Mw s] else []):=by cases o<;>rfl
 have hp:(iG p)=(if p=true then [[111,114,100]] else []):=by cases p<;>rfl
 obtain⟨q,hq⟩:∃q,q=fT s b (iB o s) (iG p) k c5:=⟨_,rfl⟩;rw[<-hq];refine cB.of_le ?_;refine oZ [67] (rs:=[.cell 2 54]) zmx func101 ntmps101 rfl rfl rfl rfl rfl ?_;simp -implicitDefEqProofs (disch:=omega) only[go_sem];refine aB (fQ _) ?_;simp -implicitDefEqProofs (disch:=omega) only[go_sem];refine cu [true] rfl (q1 _) ?_;simp -implicitDefEqProofs (disch:=omega) only[go_sem,ak,ah];refine bn rfl (q2 _) ?_;simp -implicitDefEqProofs (disch:=omega) only[go_sem,ak,ah];refine aB jA ?_;simp -implicitDefEqProofs (disch:=omega) only[go_sem]
 (repeat(with_reducible refine And.intro ?_ ?_;focus first|omega|rfl|assumption|exact⟨_,rfl,rfl⟩|(simp;omega)|(simp;done)))
 refine bn rfl (q3 _) ?_
 cases o with
 |true=>
  simp -implicitDefEqProofs (disch:=omega) only[go_sem,ak,ah];refine aB jA ?_;simp -implicitDefEqProofs (disch:=omega) only[go_sem];refine aB (tX _) ?_;simp -implicitDefEqProofs (disch:=omega) only[go_sem];refine aB (pK _) ?_;simp -implicitDefEqProofs (disch:=omega) only[go_sem];refine aB (qo _ rfl) ?_;simp -implicitDefEqProofs (disch:=omega) only[go_sem]
  (repeat(with_reducible refine And.intro ?_ ?_;focus first|omega|rfl|assumption|exact⟨_,rfl,rfl⟩|(simp;omega)|(simp;done)))
  refine⟨by cases l<;>rfl,?_⟩;simp -implicitDefEqProofs (disch:=omega) only[go_sem,ak,ah];refine bn rfl (q4 _) ?_
  cases p with
  |true=>
   simp -implicitDefEqProofs (disch:=omega) only[go_sem,ak,ah];refine bn rfl (q5 _) ?_;simp -implicitDefEqProofs (disch:=omega) only[go_sem,ak,ah]
   with_reducible refine aD (fun hb=> ?_) (fun hb=> ?_)<;>have h:=hb<;>(try simp only[wf_preprocess] at h)<;>simp -implicitDefEqProofs (disch:=omega) only[go_sem,hb,ak,ah]<;>(repeat(with_reducible refine And.intro ?_ ?_;focus first|omega|rfl|assumption|exact⟨_,rfl,rfl⟩|(simp;omega)|(simp;done)))
   ·subst h;simp only[fT,iB,iG,reduceIte,Int.reduceEq] at hq
    try(simp -implicitDefEqProofs (disch:=omega) only[go_sem,ak,ah])
    rw[hq]
    first|exact⟨aF rfl,rfl⟩|(refine⟨aF ?_,rfl⟩;simp only[bG.v,List.map_cons,List.map_nil,List.map_append,aM.aj,aJ.aj,aK.aj,aN.aj,ay.aj,aC.aj,List.cons_append,List.nil_append];rfl)
   have e0:=h
   with_reducible refine aD (fun hb=> ?_) (fun hb=> ?_)<;>have h:=hb<;>(try simp only[wf_preprocess] at h)<;>simp -implicitDefEqProofs (disch:=omega) only[go_sem,hb,ak,ah]<;>(repeat(with_reducible refine And.intro ?_ ?_;focus first|omega|rfl|assumption|exact⟨_,rfl,rfl⟩|(simp;omega)|(simp;done)))
   ·subst h;simp only[fT,iB,iG,reduceIte,Int.reduceEq] at hq;refine cu [true] rfl (dS hB c5 (1+l) j _ Jl (by rw[aG];exact g _) (by decide) (by decide)) ?_;simp -implicitDefEqProofs (disch:=omega) only[go_sem,ak,ah];rw[hq]
    first|exact⟨aF rfl,rfl⟩|(refine⟨aF ?_,rfl⟩;simp only[bG.v,List.map_cons,List.map_nil,List.map_append,aM.aj,aJ.aj,aK.aj,aN.aj,ay.aj,aC.aj,List.cons_append,List.nil_append];rfl)
   have e1:=h
   with_reducible refine aD (fun hb=> ?_) (fun hb=> ?_)<;>have h:=hb<;>(try simp only[wf_preprocess] at h)<;>simp -implicitDefEqProofs (disch:=omega) only[go_sem,hb,ak,ah]<;>(repeat(with_reducible refine And.intro ?_ ?_;focus first|omega|rfl|assumption|exact⟨_,rfl,rfl⟩|(simp;omega)|(simp;done)))
   ·exact absurd h hk2
   with_reducible refine aD (fun hb=> ?_) (fun hb=> ?_)<;>have h:=hb<;>(try simp only[wf_preprocess] at h)<;>simp -implicitDefEqProofs (disch:=omega) only[go_sem,hb,ak,ah]<;>(repeat(with_reducible refine And.intro ?_ ?_;focus first|omega|rfl|assumption|exact⟨_,rfl,rfl⟩|(simp;omega)|(simp;done)))
   ·exact absurd h hk3
   with_reducible refine aD (fun hb=> ?_) (fun hb=> ?_)<;>have h:=hb<;>(try simp only[wf_preprocess] at h)<;>simp -implicitDefEqProofs (disch:=omega) only[go_sem,hb,ak,ah]<;>(repeat(with_reducible refine And.intro ?_ ?_;focus first|omega|rfl|assumption|exact⟨_,rfl,rfl⟩|(simp;omega)|(simp;done)))
   ·subst h;simp only[fT,iB,iG,reduceIte,Int.reduceEq] at hq
    (repeat(with_reducible refine And.intro ?_ ?_;focus first|omega|rfl|assumption|exact⟨_,rfl,rfl⟩|(simp;omega)|(simp;done)))
    try(simp -implicitDefEqProofs (disch:=omega) only[go_sem,ak,ah])
    rw[hq]
    first|exact⟨aF rfl,rfl⟩|(refine⟨aF ?_,rfl⟩;simp only[bG.v,List.map_cons,List.map_nil,List.map_append,aM.aj,aJ.aj,aK.aj,aN.aj,ay.aj,aC.aj,List.cons_append,List.nil_append];rfl)
   have e4:=h
   with_reducible refine aD (fun hb=> ?_) (fun hb=> ?_)<;>have h:=hb<;>(try simp only[wf_preprocess] at h)<;>simp -implicitDefEqProofs (disch:=omega) only[go_sem,hb,ak,ah,List.getD_cons_zero,List.take_succ_cons,List.take_zero,List.take_nil]<;>(repeat(with_reducible refine And.intro ?_ ?_;focus first|omega|rfl|assumption|exact⟨_,rfl,rfl⟩|(simp;omega)|(simp;done)))
   ·subst h;simp only[fT,iB,iG,reduceIte,Int.reduceEq] at hq
    (repeat(with_reducible refine And.intro ?_ ?_;focus first|omega|rfl|assumption|exact⟨_,rfl,rfl⟩|(simp;omega)|(simp;done)))
    try(refine⟨fun y hy=>(by rw[List.mem_singleton] at hy;subst hy;rfl),?_⟩;(repeat(with_reducible refine And.intro ?_ ?_;focus first|omega|rfl|assumption|exact⟨_,rfl,rfl⟩|(simp;omega)|(simp;done))))
    (repeat(with_reducible refine And.intro ?_ ?_;focus first|omega|rfl|assumption|exact⟨_,rfl,rfl⟩|(simp;omega)|(simp;done)))
    refine⟨by cases l<;>rfl,?_⟩;simp -implicitDefEqProofs (disch:=omega) only[go_sem,ak,ah];rw[hq]
    first|exact⟨aF rfl,rfl⟩|(refine⟨aF ?_,rfl⟩;simp only[bG.v,List.map_cons,List.map_nil,List.map_append,aM.aj,aJ.aj,aK.aj,aN.aj,ay.aj,aC.aj,List.cons_append,List.nil_append];rfl)
   have e5:=h;simp only[fT,iB,iG,if_neg e0,if_neg e1,if_neg hk2,if_neg hk3,if_neg e4,if_neg e5] at hq;rw[hq]
   first|exact⟨aF rfl,rfl⟩|(refine⟨aF ?_,rfl⟩;simp only[bG.v,List.map_cons,List.map_nil,List.map_append,aM.aj,aJ.aj,aK.aj,aN.aj,ay.aj,aC.aj,List.cons_append,List.nil_append];rfl)
  |false=>
   simp -implicitDefEqProofs (disch:=omega) only[go_sem,ak,ah];refine bn rfl (q5 _) ?_;simp -implicitDefEqProofs (disch:=omega) only[go_sem,ak,ah]
   with_reducible refine aD (fun hb=> ?_) (fun hb=> ?_)<;>have h:=hb<;>(try simp only[wf_preprocess] at h)<;>simp -implicitDefEqProofs (disch:=omega) only[go_sem,hb,ak,ah]<;>(repeat(with_reducible refine And.intro ?_ ?_;focus first|omega|rfl|assumption|exact⟨_,rfl,rfl⟩|(simp;omega)|(simp;done)))
   ·subst h;simp only[fT,iB,iG,reduceIte,Int.reduceEq] at hq
    try(simp -implicitDefEqProofs (disch:=omega) only[go_sem,ak,ah])
    rw[hq]
    first|exact⟨aF rfl,rfl⟩|(refine⟨aF ?_,rfl⟩;simp only[bG.v,List.map_cons,List.map_nil,List.map_append,aM.aj,aJ.aj,aK.aj,aN.aj,ay.aj,aC.aj,List.cons_append,List.nil_append];rfl)
   have e0:=h
   with_reducible refine aD (fun hb=> ?_) (fun hb=> ?_)<;>have h:=hb<;>(try simp only[wf_preprocess] at h)<;>simp -implicitDefEqProofs (disch:=omega) only[go_sem,hb,ak,ah]<;>(repeat(with_reducible refine And.intro ?_ ?_;focus first|omega|rfl|assumption|exact⟨_,rfl,rfl⟩|(simp;omega)|(simp;done)))
   ·subst h;simp only[fT,iB,iG,reduceIte,Int.reduceEq] at hq;refine cu [true] rfl (dS hB c5 (1+l) j _ Jl (by rw[aG];exact g _) (by decide) (by decide)) ?_;simp -implicitDefEqProofs (disch:=omega) only[go_sem,ak,ah];rw[hq]
    first|exact⟨aF rfl,rfl⟩|(refine⟨aF ?_,rfl⟩;simp only[bG.v,List.map_cons,List.map_nil,List.map_append,aM.aj,aJ.aj,aK.aj,aN.aj,ay.aj,aC.aj,List.cons_append,List.nil_append];rfl)
   have e1:=h
   with_reducible refine aD (fun hb=> ?_) (fun hb=> ?_)<;>have h:=hb<;>(try simp only[wf_preprocess] at h)<;>simp -implicitDefEqProofs (disch:=omega) only[go_sem,hb,ak,ah]<;>(repeat(with_reducible refine And.intro ?_ ?_;focus first|omega|rfl|assumption|exact⟨_,rfl,rfl⟩|(simp;omega)|(simp;done)))
   ·exact absurd h hk2
   with_reducible refine aD (fun hb=> ?_) (fun hb=> ?_)<;>have h:=hb<;>(try simp only[wf_preprocess] at h)<;>simp -implicitDefEqProofs (disch:=omega) only[go_sem,hb,ak,ah]<;>(repeat(with_reducible refine And.intro ?_ ?_;focus first|omega|rfl|assumption|exact⟨_,rfl,rfl⟩|(simp;omega)|(simp;done)))
   ·exact absurd h hk3
   with_reducible refine aD (fun hb=> ?_) (fun hb=> ?_)<;>have h:=hb<;>(try simp only[wf_preprocess] at h)<;>simp -implicitDefEqProofs (disch:=omega) only[go_sem,hb,ak,ah]<;>(repeat(with_reducible refine And.intro ?_ ?_;focus first|omega|rfl|assumption|exact⟨_,rfl,rfl⟩|(simp;omega)|(simp;done)))
   ·subst h;simp only[fT,iB,iG,reduceIte,Int.reduceEq] at hq
    (repeat(with_reducible refine And.intro ?_ ?_;focus first|omega|rfl|assumption|exact⟨_,rfl,rfl⟩|(simp;omega)|(simp;done)))
    try(simp -implicitDefEqProofs (disch:=omega) only[go_sem,ak,ah])
    rw[hq]
    first|exact⟨aF rfl,rfl⟩|(refine⟨aF ?_,rfl⟩;simp only[bG.v,List.map_cons,List.map_nil,List.map_append,aM.aj,aJ.aj,aK.aj,aN.aj,ay.aj,aC.aj,List.cons_append,List.nil_append];rfl)
   have e4:=h
   with_reducible refine aD (fun hb=> ?_) (fun hb=> ?_)<;>have h:=hb<;>(try simp only[wf_preprocess] at h)<;>simp -implicitDefEqProofs (disch:=omega) only[go_sem,hb,ak,ah,List.getD_cons_zero,List.take_succ_cons,List.take_zero,List.take_nil]<;>(repeat(with_reducible refine And.intro ?_ ?_;focus first|omega|rfl|assumption|exact⟨_,rfl,rfl⟩|(simp;omega)|(simp;done)))
   ·subst h;simp only[fT,iB,iG,reduceIte,Int.reduceEq] at hq
    (repeat(with_reducible refine And.intro ?_ ?_;focus first|omega|rfl|assumption|exact⟨_,rfl,rfl⟩|(simp;omega)|(simp;done)))
    try(refine⟨fun y hy=>(by rw[List.mem_singleton] at hy;subst hy;rfl),?_⟩;(repeat(with_reducible refine And.intro ?_ ?_;focus first|omega|rfl|assumption|exact⟨_,rfl,rfl⟩|(simp;omega)|(simp;done))))
    (repeat(with_reducible refine And.intro ?_ ?_;focus first|omega|rfl|assumption|exact⟨_,rfl,rfl⟩|(simp;omega)|(simp;done)))
    refine⟨by cases l<;>rfl,?_⟩;simp -implicitDefEqProofs (disch:=omega) only[go_sem,ak,ah];rw[hq]
    first|exact⟨aF rfl,rfl⟩|(refine⟨aF ?_,rfl⟩;simp only[bG.v,List.map_cons,List.map_nil,List.map_append,aM.aj,aJ.aj,aK.aj,aN.aj,ay.aj,aC.aj,List.cons_append,List.nil_append];rfl)
   have e5:=h;simp only[fT,iB,iG,if_neg e0,if_neg e1,if_neg hk2,if_neg hk3,if_neg e4,if_neg e5] at hq;rw[hq]
   first|exact⟨aF rfl,rfl⟩|(refine⟨aF ?_,rfl⟩;simp only[bG.v,List.map_cons,List.map_nil,List.map_append,aM.aj,aJ.aj,aK.aj,aN.aj,ay.aj,aC.aj,List.cons_append,List.nil_append];rfl)
 |false=>
  simp -implicitDefEqProofs (disch:=omega) only[go_sem,ak,ah];refine bn rfl (q4 _) ?_
  cases p with
  |true=>
   simp -implicitDefEqProofs (disch:=omega) only[go_sem,ak,ah];refine bn rfl (q5 _) ?_;simp -implicitDefEqProofs (disch:=omega) only[go_sem,ak,ah]
   with_reducible refine aD (fun hb=> ?_) (fun hb=> ?_)<;>have h:=hb<;>(try simp only[wf_preprocess] at h)<;>simp -implicitDefEqProofs (disch:=omega) only[go_sem,hb,ak,ah]<;>(repeat(with_reducible refine And.intro ?_ ?_;focus first|omega|rfl|assumption|exact⟨_,rfl,rfl⟩|(simp;omega)|(simp;done)))
   ·subst h;simp only[fT,iB,iG,reduceIte,Int.reduceEq] at hq
    try(simp -implicitDefEqProofs (disch:=omega) only[go_sem,ak,ah])
    rw[hq]
    first|exact⟨aF rfl,rfl⟩|(refine⟨aF ?_,rfl⟩;simp only[bG.v,List.map_cons,List.map_nil,List.map_append,aM.aj,aJ.aj,aK.aj,aN.aj,ay.aj,aC.aj,List.cons_append,List.nil_append];rfl)
   have e0:=h
   with_reducible refine aD (fun hb=> ?_) (fun hb=> ?_)<;>have h:=hb<;>(try simp only[wf_preprocess] at h)<;>simp -implicitDefEqProofs (disch:=omega) only[go_sem,hb,ak,ah]<;>(repeat(with_reducible refine And.intro ?_ ?_;focus first|omega|rfl|assumption|exact⟨_,rfl,rfl⟩|(simp;omega)|(simp;done)))
   ·subst h;simp only[fT,iB,iG,reduceIte,Int.reduceEq] at hq;refine cu [true] rfl (dS hB c5 (1+l) j _ Jl (by rw[aG];exact g _) (by decide) (by decide)) ?_;simp -implicitDefEqProofs (disch:=omega) only[go_sem,ak,ah];rw[hq]
    first|exact⟨aF rfl,rfl⟩|(refine⟨aF ?_,rfl⟩;simp only[bG.v,List.map_cons,List.map_nil,List.map_append,aM.aj,aJ.aj,aK.aj,aN.aj,ay.aj,aC.aj,List.cons_append,List.nil_append];rfl)
   have e1:=h
   with_reducible refine aD (fun hb=> ?_) (fun hb=> ?_)<;>have h:=hb<;>(try simp only[wf_preprocess] at h)<;>simp -implicitDefEqProofs (disch:=omega) only[go_sem,hb,ak,ah]<;>(repeat(with_reducible refine And.intro ?_ ?_;focus first|omega|rfl|assumption|exact⟨_,rfl,rfl⟩|(simp;omega)|(simp;done)))
   ·exact absurd h hk2
   with_reducible refine aD (fun hb=> ?_) (fun hb=> ?_)<;>have h:=hb<;>(try simp only[wf_preprocess] at h)<;>simp -implicitDefEqProofs (disch:=omega) only[go_sem,hb,ak,ah]<;>(repeat(with_reducible refine And.intro ?_ ?_;focus first|omega|rfl|assumption|exact⟨_,rfl,rfl⟩|(simp;omega)|(simp;done)))
   ·exact absurd h hk3
   with_reducible refine aD (fun hb=> ?_) (fun hb=> ?_)<;>have h:=hb<;>(try simp only[wf_preprocess] at h)<;>simp -implicitDefEqProofs (disch:=omega) only[go_sem,hb,ak,ah]<;>(repeat(with_reducible refine And.intro ?_ ?_;focus first|omega|rfl|assumption|exact⟨_,rfl,rfl⟩|(simp;omega)|(simp;done)))
   ·subst h;simp only[fT,iB,iG,reduceIte,Int.reduceEq] at hq
    (repeat(with_reducible refine And.intro ?_ ?_;focus first|omega|rfl|assumption|exact⟨_,rfl,rfl⟩|(simp;omega)|(simp;done)))
    try(simp -implicitDefEqProofs (disch:=omega) only[go_sem,ak,ah])
    rw[hq]
    first|exact⟨aF rfl,rfl⟩|(refine⟨aF ?_,rfl⟩;simp only[bG.v,List.map_cons,List.map_nil,List.map_append,aM.aj,aJ.aj,aK.aj,aN.aj,ay.aj,aC.aj,List.cons_append,List.nil_append];rfl)
   have e4:=h
   with_reducible refine aD (fun hb=> ?_) (fun hb=> ?_)<;>have h:=hb<;>(try simp only[wf_preprocess] at h)<;>simp -implicitDefEqProofs (disch:=omega) only[go_sem,hb,ak,ah,List.getD_cons_zero,List.take_succ_cons,List.take_zero,List.take_nil]<;>(repeat(with_reducible refine And.intro ?_ ?_;focus first|omega|rfl|assumption|exact⟨_,rfl,rfl⟩|(simp;omega)|(simp;done)))
   ·subst h;simp only[fT,iB,iG,reduceIte,Int.reduceEq] at hq
    (repeat(with_reducible refine And.intro ?_ ?_;focus first|omega|rfl|assumption|exact⟨_,rfl,rfl⟩|(simp;omega)|(simp;done)))
    try(refine⟨fun y hy=>(by rw[List.mem_singleton] at hy;subst hy;rfl),?_⟩;(repeat(with_reducible refine And.intro ?_ ?_;focus first|omega|rfl|assumption|exact⟨_,rfl,rfl⟩|(simp;omega)|(simp;done))))
    (repeat(with_reducible refine And.intro ?_ ?_;focus first|omega|rfl|assumption|exact⟨_,rfl,rfl⟩|(simp;omega)|(simp;done)))
    refine⟨by cases l<;>rfl,?_⟩;simp -implicitDefEqProofs (disch:=omega) only[go_sem,ak,ah];rw[hq]
    first|exact⟨aF rfl,rfl⟩|(refine⟨aF ?_,rfl⟩;simp only[bG.v,List.map_cons,List.map_nil,List.map_append,aM.aj,aJ.aj,aK.aj,aN.aj,ay.aj,aC.aj,List.cons_append,List.nil_append];rfl)
   have e5:=h;simp only[fT,iB,iG,if_neg e0,if_neg e1,if_neg hk2,if_neg hk3,if_neg e4,if_neg e5] at hq;rw[hq]
   first|exact⟨aF rfl,rfl⟩|(refine⟨aF ?_,rfl⟩;simp only[bG.v,List.map_cons,List.map_nil,List.map_append,aM.aj,aJ.aj,aK.aj,aN.aj,ay.aj,aC.aj,List.cons_append,List.nil_append];rfl)
  |false=>
   simp -implicitDefEqProofs (disch:=omega) only[go_sem,ak,ah];refine bn rfl (q5 _) ?_;simp -implicitDefEqProofs (disch:=omega) only[go_sem,ak,ah]
   with_reducible refine aD (fun hb=> ?_) (fun hb=> ?_)<;>have h:=hb<;>(try simp only[wf_preprocess] at h)<;>simp -implicitDefEqProofs (disch:=omega) only[go_sem,hb,ak,ah]<;>(repeat(with_reducible refine And.intro ?_ ?_;focus first|omega|rfl|assumption|exact⟨_,rfl,rfl⟩|(simp;omega)|(simp;done)))
   ·subst h;simp only[fT,iB,iG,reduceIte,Int.reduceEq] at hq
    try(simp -implicitDefEqProofs (disch:=omega) only[go_sem,ak,ah])
    rw[hq]
    first|exact⟨aF rfl,rfl⟩|(refine⟨aF ?_,rfl⟩;simp only[bG.v,List.map_cons,List.map_nil,List.map_append,aM.aj,aJ.aj,aK.aj,aN.aj,ay.aj,aC.aj,List.cons_append,List.nil_append];rfl)
   have e0:=h
   with_reducible refine aD (fun hb=> ?_) (fun hb=> ?_)<;>have h:=hb<;>(try simp only[wf_preprocess] at h)<;>simp -implicitDefEqProofs (disch:=omega) only[go_sem,hb,ak,ah]<;>(repeat(with_reducible refine And.intro ?_ ?_;focus first|omega|rfl|assumption|exact⟨_,rfl,rfl⟩|(simp;omega)|(simp;done)))
   ·subst h;simp only[fT,iB,iG,reduceIte,Int.reduceEq] at hq;refine cu [true] rfl (dS hB c5 (1+l) j _ Jl (by rw[aG];exact g _) (by decide) (by decide)) ?_;simp -implicitDefEqProofs (disch:=omega) only[go_sem,ak,ah];rw[hq]
    first|exact⟨aF rfl,rfl⟩|(refine⟨aF ?_,rfl⟩;simp only[bG.v,List.map_cons,List.map_nil,List.map_append,aM.aj,aJ.aj,aK.aj,aN.aj,ay.aj,aC.aj,List.cons_append,List.nil_append];rfl)
   have e1:=h
   with_reducible refine aD (fun hb=> ?_) (fun hb=> ?_)<;>have h:=hb<;>(try simp only[wf_preprocess] at h)<;>simp -implicitDefEqProofs (disch:=omega) only[go_sem,hb,ak,ah]<;>(repeat(with_reducible refine And.intro ?_ ?_;focus first|omega|rfl|assumption|exact⟨_,rfl,rfl⟩|(simp;omega)|(simp;done)))
   ·exact absurd h hk2
   with_reducible refine aD (fun hb=> ?_) (fun hb=> ?_)<;>have h:=hb<;>(try simp only[wf_preprocess] at h)<;>simp -implicitDefEqProofs (disch:=omega) only[go_sem,hb,ak,ah]<;>(repeat(with_reducible refine And.intro ?_ ?_;focus first|omega|rfl|assumption|exact⟨_,rfl,rfl⟩|(simp;omega)|(simp;done)))
   ·exact absurd h hk3
   with_reducible refine aD (fun hb=> ?_) (fun hb=> ?_)<;>have h:=hb<;>(try simp only[wf_preprocess] at h)<;>simp -implicitDefEqProofs (disch:=omega) only[go_sem,hb,ak,ah]<;>(repeat(with_reducible refine And.intro ?_ ?_;focus first|omega|rfl|assumption|exact⟨_,rfl,rfl⟩|(simp;omega)|(simp;done)))
   ·subst h;simp only[fT,iB,iG,reduceIte,Int.reduceEq] at hq
    (repeat(with_reducible refine And.intro ?_ ?_;focus first|omega|rfl|assumption|exact⟨_,rfl,rfl⟩|(simp;omega)|(simp;done)))
    try(simp -implicitDefEqProofs (disch:=omega) only[go_sem,ak,ah])
    rw[hq]
    first|exact⟨aF rfl,rfl⟩|(refine⟨aF ?_,rfl⟩;simp only[bG.v,List.map_cons,List.map_nil,List.map_append,aM.aj,aJ.aj,aK.aj,aN.aj,ay.aj,aC.aj,List.cons_append,List.nil_append];rfl)
   have e4:=h
   with_reducible refine aD (fun hb=> ?_) (fun hb=> ?_)<;>have h:=hb<;>(try simp only[wf_preprocess] at h)<;>simp -implicitDefEqProofs (disch:=omega) only[go_sem,hb,ak,ah,List.getD_cons_zero,List.take_succ_cons,List.take_zero,List.take_nil]<;>(repeat(with_reducible refine And.intro ?_ ?_;focus first|omega|rfl|assumption|exact⟨_,rfl,rfl⟩|(simp;omega)|(simp;done)))
   ·subst h;simp only[fT,iB,iG,reduceIte,Int.reduceEq] at hq
    (repeat(with_reducible refine And.intro ?_ ?_;focus first|omega|rfl|assumption|exact⟨_,rfl,rfl⟩|(simp;omega)|(simp;done)))
    try(refine⟨fun y hy=>(by rw[List.mem_singleton] at hy;subst hy;rfl),?_⟩;(repeat(with_reducible refine And.intro ?_ ?_;focus first|omega|rfl|assumption|exact⟨_,rfl,rfl⟩|(simp;omega)|(simp;done))))
    (repeat(with_reducible refine And.intro ?_ ?_;focus first|omega|rfl|assumption|exact⟨_,rfl,rfl⟩|(simp;omega)|(simp;done)))
    refine⟨by cases l<;>rfl,?_⟩;simp -implicitDefEqProofs (disch:=omega) only[go_sem,ak,ah];rw[hq]
    first|exact⟨aF rfl,rfl⟩|(refine⟨aF ?_,rfl⟩;simp only[bG.v,List.map_cons,List.map_nil,List.map_append,aM.aj,aJ.aj,aK.aj,aN.aj,ay.aj,aC.aj,List.cons_append,List.nil_append];rfl)
   have e5:=h;simp only[fT,iB,iG,if_neg e0,if_neg e1,if_neg hk2,if_neg hk3,if_neg e4,if_neg e5] at hq;rw[hq]
   first|exact⟨aF rfl,rfl⟩|(refine⟨aF ?_,rfl⟩;simp only[bG.v,List.map_cons,List.map_nil,List.map_append,aM.aj,aJ.aj,aK.aj,aN.aj,ay.aj,aC.aj,List.cons_append,List.nil_append];rfl)
theorem Tv{bs:List Int}(hB:Bytes bs)(c:Cu bs)(l j:Nat)(S:Store)(hk:bg S (l,j)=some (.box (cur c))):
 cB prog 101 [.c (.ptr (l,j) 0)] S (fun r S1=>r=(wP c).1.v/\S1=aX S (l,j) (.box (cur (wP c).2))):=by
 unfold wP;generalize hk0:(aT 12 (bW 3 (bW 2 (bW 3 (bP lD c).2).2).2).2).1=k;generalize ho0:(bW 2 (bW 3 (bP lD c).2).2).1=o;by_cases h23:k=2\/k=3
 ·cases o with
  |true=>exact Xp hB c _ _ _ _ _ _ _ _ _ _ l j S hk rfl rfl (Prod.ext ho0 rfl) rfl (Prod.ext hk0 rfl) rfl h23
  |false=>exact Xq hB c _ _ _ _ _ _ _ _ _ _ l j S hk rfl rfl (Prod.ext ho0 rfl) rfl (Prod.ext hk0 rfl) rfl h23
 ·exact Xr hB c _ _ _ _ _ _ _ _ _ _ l j S hk rfl rfl (Prod.ext ho0 rfl) rfl (Prod.ext hk0 rfl) (fun e=>h23 (.inl e)) (fun e=>h23 (.inr e))
end Go.Ab