/-
  SEVERAL TEXTS IN ONE (merged by program): contracts and models, each with its own heading.
-/
import Derived.Test.YtfhpfkaeldgcmaaGreatPartHebG
import Derived.Test.YtfhpfkaeldgcmaaGreatPartHebL
import Derived.Test.YtfhpfkaeldgcmaaGreatPartHebT
import Derived.Test.YtfhpfkaeldgcmaaGreatPartHebU
open Go.Proofs Go.Proofs.Tryz
set_option linter.unusedSimpArgs false
set_option linter.unusedVariables false
set_option maxRecDepth 4000
set_option maxRecDepth 8000
namespace Go.Ab
def LY(P:Program)(o:Oper)(ρ:Operand->Value)(w:World)(v:Value)(w':World):Prop:=(execOp ρ o).run P w=.ok (.value v) w'\/((execOp ρ o).run P w=.ok .skip w'/\v=undef)
theorem LY.wp{P:Program}{o:Oper}{a:Act}{w w':World}{v:Value}{K:Act->World->Prop}{Q:Exit->Act->World->Prop}(h:LY P o a.eval w v w')(hK:K (a.put o.dst v) w'):o.wp P a w K Q:=by
 unfold Oper.wp;rcases h with h|⟨h,rfl⟩
 ·rw[h];exact hK
 ·rw[h];exact hK
def PY(mF:List Nat)(i m:Nat):Nat:=if mF.contains i then m ||| 2^mF.idxOf i else m
def xH(P:Program)(mF:List Nat)(W:Nat->World)(K:Act->Prop):List Oper->List (List Nat)->Nat->Act->Prop
 |[],_,_,a=>K a
 |o::l,rs,i,a=>∃v,(∀m∈rs.headD [],LY P o a.eval (W m) v (W (PY mF i m)))/\xH P mF W K l rs.tail (i+1) (a.put o.dst v)
def ak9(R:Array Oper)(mF:List Nat)(i m:Nat):Bool:=
 (List.range mF.length).all fun k=>if m.testBit k then !((masks R.toList []).getD (mF.getD k 0) 0).testBit i&&mF.getD k 0 !=i&&(List.range mF.length).all (fun k'=> !((masks R.toList []).getD (mF.getD k 0) 0).testBit (mF.getD k' 0)||m.testBit k')
   else !((masks R.toList []).getD i 0).testBit (mF.getD k 0)
section
variable {P:Program} {R:Array Oper} {N:Nat} {mF:List Nat} {rng:List (List Nat)} {W:Nat->World} {vs:Nat->Value} {A:Nat->Act}
structure aog(R:Array Oper)(N:Nat)(mF:List Nat)(rng:List (List Nat)):Prop where
 guard:∀(j:Nat)(o:Oper),R[j]? =some o->o.guard=none
 aoh:∀(j:Nat)(o:Oper),R[j]? =some o->∀cs b,o.op≠ .select cs b
 edge:∀(i:Nat)(o:Oper)(e:Edge),R[i]? =some o->e∈o.after->Region.binds .any e=true->e.on<i
 dst:∀(i:Nat)(o:Oper),R[i]? =some o->∀d,o.dst=some d->d<N
 pair:∀(i j:Nat)(x y:Oper),i<j->R[i]? =some x->R[j]? =some y->((masks R.toList []).getD j 0).testBit i=true\/x.apart R y=true
 one:∀(i j:Nat)(x y:Oper)(d:Nat),R[i]? =some x->R[j]? =some y->x.dst=some d->y.dst=some d->i=j
 rng:∀(j m:Nat),j<R.size->m<2^mF.length->ak9 R mF j m=true->m∈rng.getD j []
 aor:∀k,k<mF.length->mF.getD k 0<R.size
 apart:∀k k',k<k'->k'<mF.length->mF.getD k 0≠mF.getD k' 0
structure aos(R:Array Oper)(mF:List Nat)(W:Nat->World)(vs:Nat->Value)(a0:Act)(listed:Array Bool)(a:Act)(w:World):Prop where
 size:listed.size=R.size
 closed:∀i o e,R[i]? =some o->listed.getD i false=true->e∈o.after->Region.binds .any e=true->listed.getD e.on false=true
 wld:∃m,m<2^mF.length/\(∀k,k<mF.length->(listed.getD (mF.getD k 0) false=true<->m.testBit k=true))/\w=W m
 defs:a.defers=a0.defers
 aoi:a.tmps.size=a0.tmps.size
 got:∀j o t,R[j]? =some o->o.dst=some t->listed.getD j false=true->a.tmps.getD t undef=vs j
 old:∀t,(∀j o,R[j]? =some o->o.dst=some t->listed.getD j false=false)->a.tmps.getD t undef=a0.tmps.getD t undef
end
section
variable {P:Program} {mF:List Nat} {W:Nat->World} {K:Act->Prop} {o:Oper} {l:List Oper} {rs:List (List Nat)} {i:Nat} {a:Act}
theorem xH.step(v:Value){r:List Nat}(h:∀m∈r,LY P o a.eval (W m) v (W (PY mF i m)))(hk:xH P mF W K l rs (i+1) (a.put o.dst v)):xH P mF W K (o::l) (r::rs) i a:=⟨v,h,hk⟩
theorem aeG{m:Nat}(he:mF.contains i=false):PY mF i m=m:=by unfold PY;rw[he];rfl
theorem xH.done(h:K a):xH P mF W K [] rs i a:=h
theorem xH.any(v:Value){r:List Nat}(he:mF.contains i=false)(h:∀w,LY P o a.eval w v w)(hk:xH P mF W K l rs (i+1) (a.put o.dst v)):xH P mF W K (o::l) (r::rs) i a:=
 ⟨v,fun m _=>by rw[aeG he];exact h _,hk⟩
end
theorem om:∀a b:List (List D),aQ (a++b)=aQ a+aQ b
 |[],b=>by simp[aQ]
 |r::a,b=>by rw[List.cons_append,aQ,aQ,om a b];omega
section
variable {P:Program} {N:Nat} {w w':World} {σ σ':Nat->Nat} {S S':Store} {β β':Hs} {s:St} {a:Act}
def C.mv(n j m:Nat):C->C
 | .iU (0,i)=>if i=m then .iU (0,j) else if i<n/\i≠j then .iU (0,i) else .any
 | .bV (0,i) es=>if i<n/\i≠j then .bV (0,i) es else .any
 | .ptr (0,i) off=>if i<n/\i≠j then .ptr (0,i) off else .any
 | .kI (0,i) x off=>if i<n/\i≠j then .kI (0,i) x off else .any
 | .mp (0,i)=>if i<n/\i≠j then .mp (0,i) else .any
 | .fn _ _=>.any
 | .xp (0,i) r p=>if i<n/\i≠j then .xp (0,i) r p else .any
 | .xq (0,i) r p z x off=>if i<n/\i≠j then .xq (0,i) r p z x off else .any
 |c=>c
end
section
variable {P:Program} {N:Nat} {S:Store}
theorem IV(r:Nat)(T:Value)(h:rY undef r=some T):False:=by cases h
theorem ahf{c:Code}{Q:Exit->St->Prop}{tm:List (Nat×V)}{Ω:Store}(h:AW P N c Q ⟨tm,[.xf []]::Ω⟩):AW P N c Q ⟨tm,[]::Ω⟩:=by
 refine oD h fun a w σ β hR=> ?_;obtain⟨bo,bΩ,rfl,hlen⟩:=frames hR
 obtain⟨hS',hk,hst⟩:=hR.S.push (o:=.xf []) (h:=undef) (Grow.refl hR.S.live) hlen
  ⟨fun r es e=>by simp at e,fun r T e=>(IV r T e).elim,fun b hb=>by obtain⟨r,T,e,_⟩:=hb;exact(IV r T e).elim,fun r r' T T' x _ e _ _ _=>IV r T e⟩
  (fun b hb=>by obtain⟨r,T,e,_⟩:=hb;exact(IV r T e).elim)
 exact⟨σ,_,⟨hR.size,hR.defers,hS',fun u=>(hR.T u).mono (fq.refl _ _) hk⟩,hst,Keep.refl _ _⟩
end
section
variable {P:Program} {S S':Store} {f:FuncId} {args:List V}
end
section
variable {w:World} {σ:Nat->Nat}
mutual
theorem amX{σ2:Nat->Nat}{lo:Nat}(hs:∀b c t fz m,w.heap[b]? =some (.cells c t fz)->σ b=c.size+1+m->lo<=m->σ2 b=σ b):∀(d:D)(n:Nat)(v:Value),lo<=n->pq d=true->dM w σ (qL d n) v->dM w σ2 (qL d n) v
 | .sl es,n,v,hn,hp,h=>by
   rw[qL] at h ⊢;have hrec:=afS hs es (n+1);generalize ig es (n+1)=q at h hrec ⊢
   cases h with
   |AP n a cap=>exact .AP n a cap
   |ol n b off cap z q vals c t hcap hlen hb hσ hfit hc hv hx=>exact .ol n b off cap z q vals c t hcap hlen hb ((hs b c t _ _ hb hσ hn).trans hσ) hfit hc (hrec vals (by omega) (by simpa [pq] using hp) hv) hx
 | .ol m es,n,v,hn,hp,h=>by simp[pq] at hp
 | .b x,n,v,hn,hp,h=>by rw[qL] at h ⊢;cases h;constructor
 | .i k x,n,v,hn,hp,h=>by rw[qL] at h ⊢;cases h;constructor
 | .s l,n,v,hn,hp,h=>by rw[qL] at h ⊢;cases h;constructor
 | .o u,n,v,hn,hp,h=>by simp[pq] at hp
theorem ajf{σ2:Nat->Nat}{lo:Nat}(hs:∀b c t fz m,w.heap[b]? =some (.cells c t fz)->σ b=c.size+1+m->lo<=m->σ2 b=σ b):∀(r:List D)(n:Nat)(vals:Nat->Value),lo<=n->jq r=true->(∀(j:Nat)(d:D),(lF r n)[j]? =some d->dM w σ d (vals j))->
 ∀(j:Nat)(d:D),(lF r n)[j]? =some d->dM w σ2 d (vals j)
 |[],n,vals,hn,hp,h,j,d,hd=>by simp[lF] at hd
 |a::r,n,vals,hn,hp,h,j,d,hd=>by
  rw[jq,Bool.and_eq_true] at hp;rw[lF] at h hd
  cases j with
  |zero=>
   simp at hd;subst hd;exact amX hs a n _ hn hp.1 (h 0 _ rfl)
  |succ j=>exact ajf hs r (n+zL a) (fun i=>vals (i+1)) (by omega) hp.2 (fun i d hi=>h (i+1) d hi) j d hd
theorem afS{σ2:Nat->Nat}{lo:Nat}(hs:∀b c t fz m,w.heap[b]? =some (.cells c t fz)->σ b=c.size+1+m->lo<=m->σ2 b=σ b):∀(rs:List (List D))(n:Nat)(vals:Nat->Value),lo<=n->jE rs=true->(∀(j:Nat)(d:D),(ig rs n).flatten[j]? =some d->dM w σ d (vals j))->
 ∀(j:Nat)(d:D),(ig rs n).flatten[j]? =some d->dM w σ2 d (vals j)
 |[],n,vals,hn,hp,h,j,d,hd=>by simp[ig] at hd
 |r::rs,n,vals,hn,hp,h,j,d,hd=>by
  rw[jE,Bool.and_eq_true] at hp;rw[ig,List.flatten_cons] at h hd;by_cases hj:j<(lF r n).length
  ·rw[List.getElem?_append_left hj] at hd;exact ajf hs r n vals hn hp.1 (fun j d hd=>h j d (by rw[List.getElem?_append_left (List.getElem?_eq_some_iff.1 hd).1];exact hd)) j d hd
  ·rw[List.getElem?_append_right (by omega)] at hd;have:=afS hs rs (n+yu r) (fun i=>vals ((lF r n).length+i)) (by omega) hp.2 (fun j d hd=>h _ d (by rw[List.getElem?_append_right (by omega),Nat.add_sub_cancel_left];exact hd)) (j-(lF r n).length) d hd
   rwa [show(lF r n).length+(j-(lF r n).length)=j by omega] at this
end
end
section
variable {P:Program}
end
section
variable {P:Program} {N:Nat} {S:Store} {s:St}
end
section
variable {P:Program} {N:Nat} {S:Store}
theorem Ao(T:List TypeId){f:FuncId}{fn:Func}{c:Code}{args:List V}{post:V->Store->Prop}{rs:List ResultVar}(eH:P.follows .mixedOrders=true)(hf:P.funcs[f]? =some fn)(hN:fn.ntmps=N)
 (hb:fn.body=some c) (hn:(fn.name== "runtime.NumGoroutine")=false) (hr:fn.results.toList=rs) (hl:Nat.ble args.length N=true) (hok:ou T N c=true)
 (h:mE P N T c (JL P rs post) ⟨lu (args.map (V.up 1)) 0,[.xf []]::S⟩):bY P f args S post:=by
 subst hN;subst hr;exact uZ hf hb hn (Nat.le_of_ble_eq_true hl) (ahf (Gl tZ (nX eH c _ _ hok h)))
theorem aeH{c:Code}{Q:Exit->St->Prop}{tm:List (Nat×V)}{Ω:Store}(h:AW P N c Q ⟨tm,[.xf [[]]]::Ω⟩):AW P N c Q ⟨tm,[]::Ω⟩:=by
 refine oD h fun a w σ β hR=> ?_;obtain⟨bo,bΩ,rfl,hlen⟩:=frames hR
 have hroot:∀r T,rY (.tuple #[su]) r=some T->r=0/\T=su:=fun r T e=>by
  cases r with
  |zero=>exact⟨rfl,(Option.some.inj e).symm⟩
  |succ r=>simp[rY] at e
 have hown:∀b,¬z8 (.tuple #[su]) b:=fun b ⟨r,T,e,ho⟩=>by
  obtain⟨_,rfl⟩:=hroot r T e;exact xg ho
 obtain⟨hS',hk,hst⟩:=hR.S.push (o:=.xf [[]]) (h:=.tuple #[su]) (Grow.refl hR.S.live) hlen
  ⟨fun r es e=>by
    cases r with
    |zero=>cases e;exact⟨su,rfl,.nil none 0 _ rfl GI⟩
    |succ r=>simp at e,fun r T e=>by rw[(hroot r T e).1];exact Nat.zero_lt_one,fun b hb=>(hown b hb).elim,fun r r' T T' x hne e e' ho=>by
    obtain⟨_,rfl⟩:=hroot r T e
    exact(xg ho).elim⟩
  (fun b hb=>(hown b hb).elim)
 exact⟨σ,_,⟨hR.size,hR.defers,hS',fun u=>(hR.T u).mono (fq.refl _ _) hk⟩,hst,Keep.refl _ _⟩
theorem Yu(T:List TypeId){f:FuncId}{fn:Func}{c:Code}{args:List V}{post:V->Store->Prop}{rs:List ResultVar}(eH:P.follows .mixedOrders=true)(hf:P.funcs[f]? =some fn)(hN:fn.ntmps=N)
 (hb:fn.body=some c) (hn:(fn.name== "runtime.NumGoroutine")=false) (hr:fn.results.toList=rs) (hl:Nat.ble args.length N=true) (hok:ou T N c=true)
 (h:mE P N T c (JL P rs post) ⟨lu (args.map (V.up 1)) 0,[.xf [[]]]::S⟩):bY P f args S post:=by
 subst hN;subst hr;exact uZ hf hb hn (Nat.le_of_ble_eq_true hl) (aeH (Gl tZ (nX eH c _ _ hok h)))
end
section
variable {P:Program} {S S1:Store}
theorem bY.of_le{f:FuncId}{args:List V}{t:V}(h:bY P f args S fun r S'=>Less r t/\S'=S1):bY P f args S fun r S'=>r=t/\S'=S1:=
 ⟨h.1,fun w σ β vs hS hv=>(h.2 w σ β vs hS hv).mono fun e w' ⟨v,r,S',σ',β',h1,h2,h3,h4,h5,h6,h7⟩=>⟨v,t,S',σ',β',h1,h2,h3,h4,h6 _ _ _ _ _ h5,rfl,h7⟩⟩
theorem aF{r t:V}(h:PS r=t):Less r t:=fun w σ S β v hr=>by
 rw[<-h];exact RJ hr _ _
end
attribute [go_sem] Bool.or_false Bool.false_or Bool.true_or Bool.or_true
def J9:aN:=⟨[110,105,108],[]⟩
def Ap:aN:=⟨[99,111,110,115],[nQ [97],nR [108,105,115,116] [nQ [97]]]⟩
def PZ:List (List UInt8):=[[99,111,110,115],[],[111,110,101]]
theorem Yv:eY PZ:=by unfold eY;decide
def uQ{bs:List Int}(k:Int)(c:Cu bs):bg×Cu bs:=
 if k=0 then(⟨[108,105,115,116],[[97],(bR FM c).1],[J9,Ap]⟩,(bR FM c).2) else
 if k=1 then(⟨[108,105,115,116],[[97]],[J9,Ap].take (aT 2 c).1.toNat⟩,(aT 2 c).2) else
 if k=2 then(⟨[108,105,115,116],[[97]],[⟨[110,105,108],[(kT 2 c).1]⟩,Ap]⟩,(kT 2 c).2) else
 if k=3 then(⟨[108,105,115,116],[[97]],[⟨(bR PZ c).1,[]⟩,Ap]⟩,(bR PZ c).2) else
 (⟨[108,105,115,116],[[97]],[J9,Ap]⟩,c)
def Aq{bs:List Int}(c:Cu bs):bg×Cu bs:=uQ (aT 10 c).1 (aT 10 c).2
theorem OH(s:List UInt8)(l:List ay):(aN.mk s l).sz=s.length+(l.length+oH l):=wC _
theorem EY:Ap.sz=13:=by
 rw[wC];simp only[Ap,oH,nJ,D6,List.length_cons,List.length_nil]
theorem D7:J9.sz=3:=by rw[wC];simp[J9,oH]
theorem aeI{bs:List Int}(c:Cu bs):(Aq c).1.sz<=300:=by
 unfold Aq;generalize (aT 10 c).1=k;generalize (aT 10 c).2=c1;have h1:=gN c1 J7;have h2:=gN c1 Yv;have h3:=vP 2 c1
 have h4:zS ([J9,Ap].take (aT 2 c1).1.toNat)<=16:=by
  have:=gK (n:=2) c1 (by omega)
  have:(aT 2 c1).1.toNat=0\/(aT 2 c1).1.toNat=1:=by omega
  rcases this with e|e<;>rw[e]<;>simp[zS,D7]
 have h5:([J9,Ap].take (aT 2 c1).1.toNat).length<=2:=List.length_take_le' _ _;unfold uQ;split
 ·simp only[p9,zS,EY,D7,List.map_cons,List.map_nil,List.sum_cons,List.sum_nil,List.length_cons,List.length_nil];omega
 split
 ·simp only[p9,List.map_cons,List.map_nil,List.sum_cons,List.sum_nil,List.length_cons,List.length_nil];omega
 split
 ·simp only[p9,zS,OH,oH,EY,D7,List.map_cons,List.map_nil,List.sum_cons,List.sum_nil,List.length_cons,List.length_nil];omega
 split
 ·simp only[p9,zS,OH,oH,EY,D7,List.map_cons,List.map_nil,List.sum_cons,List.sum_nil,List.length_cons,List.length_nil];omega
 ·simp only[p9,zS,EY,D7,List.map_cons,List.map_nil,List.sum_cons,List.sum_nil,List.length_cons,List.length_nil];omega
section
variable {P:Program} {w:World} {σ:Nat->Nat}
end
def vv:List (List UInt8):=[[120],[121]]
theorem Ka:eY vv:=by unfold eY;decide
def ifL:List (List UInt8):=[[],[105,102]]
theorem aeJ:eY ifL:=by unfold eY;decide
def qg(t:List UInt8):aD:=.mk 5 t [109] 0 zT [uW [120]] []
def vw:aS:=⟨[115,104,111,119],nQ [97]⟩
def zO:dA:=⟨[120],nQ [97]⟩
def Cx{bs:List Int}(s:List UInt8)(k:Int)(c:Cu bs):bF×Cu bs:=
 if k=0 then(⟨s,[[97]],[vw],[zO],(kT 2 c).1,qg [115,104,111,119]⟩,(kT 2 c).2) else
 if k=1 then(⟨s,[[97]],[vw],[zO,⟨(bR vv c).1,nS⟩],nS,qg [115,104,111,119]⟩,(bR vv c).2) else
 if k=2 then(⟨s,[[97]],[vw],[zO],nS,(gP 3 vv c).1⟩,(gP 3 vv c).2) else
 if k=3 then(⟨s,[[97]],[⟨[115,104,111,119],(kT 1 c).1⟩],[zO],nS,qg [115,104,111,119]⟩,(kT 1 c).2) else
 if k=4 then(⟨(bR ifL c).1,[[97]],[vw],[zO],nS,qg [115,104,111,119]⟩,(bR ifL c).2) else
 (⟨s,[[97]],[vw],[zO],nS,qg [115,104,111,119]⟩,c)
def LZ{bs:List Int}(c:Cu bs):bF×Cu bs:=Cx (bR wD c).1 (aT 10 (bR wD c).2).1 (aT 10 (bR wD c).2).2
def lH:List (List UInt8):=[[115,104,111,119],[101,113],[97,100,100]]
theorem Sc:eY lH:=by unfold eY;decide
def Kc:List (List UInt8):=[[],[105,110,116],[65]]
theorem abg:eY Kc:=by unfold eY;decide
def Sd:List (List UInt8):=[[115,101,108,102],[98]]
theorem aeK:eY Sd:=by unfold eY;decide
def zE:aD:=.mk 0 [] [] 0 zT [] []
def Dg(t:ay)(b:Bool):aI:=⟨[109],[],t,b,[],zE⟩
def Nn(s:List UInt8):aI:=⟨[116,119,105,99,101],[nQ [115,101,108,102]],nS,true,vv,oh 10 [43] [qg s,kL 1]⟩
def fU{bs:List Int}(s:List UInt8)(b:Bool)(m:List aI)(p:List (List UInt8))(k:Int)(c:Cu bs):bD×Cu bs:=
 if k=0 then(⟨s,p,true,b,Dg nS false::m⟩,c) else
 if k=1 then(⟨(bR Kc c).1,p,false,b,Dg nS false::m⟩,(bR Kc c).2) else
 if k=2 then(⟨s,p,false,b,Dg (nQ (bR Sd c).1) false::m⟩,(bR Sd c).2) else
 if k=3 then(⟨s,p,false,b,Dg nS true::m⟩,c) else
 if k=4 then(⟨s,p++[[111,114,100]],false,b,Dg nS false::m⟩,c) else
 if k=5 then(⟨s,p,false,b,Dg nS false::m++[Dg nS false]⟩,c) else
 (⟨s,p,false,b,Dg nS false::m⟩,c)
theorem ny(s:List UInt8):bG (encS s)=s.length:=by simp[encS,bG,D.sz]
theorem qh(t:List UInt8)(y:ay):bG (aS.mk t y).enc=t.length+y.sz:=by
 simp only[aS.aj,bG,bC,D.sz,ay.cK];omega
theorem wE(t:List UInt8)(y:ay):bG (dA.mk t y).enc=t.length+y.sz:=by
 simp only[dA.aj,bG,bC,D.sz,ay.cK];omega
theorem yB(s:List UInt8)(v:List (List UInt8))(w:List aS)(p:List dA)(r:ay)(b:aD):
 (bF.mk s v w p r b).sz=s.length+(v.length+aQ (v.map encS))+(w.length+aQ (w.map aS.enc))+(p.length+aQ (p.map dA.enc))+r.sz+b.sz:=by
 simp only[bF.sz,bF.aj,bG,bC,D.sz,List.length_map,ay.cK,aD.cK];omega
theorem ahg(s:List UInt8):(uW s).sz=s.length:=by rw[uW,lY,nT];simp[aQ]
theorem Np(n:Int):(kL n).sz=0:=by rw[kL,lY,nT];simp[aQ]
theorem yC(t:List UInt8):(qg t).sz=t.length+3:=by
 rw[qg,lY,nT];simp only[List.map_cons,List.map_nil,aQ,aD.cK,ahg,List.length_cons,List.length_nil]
theorem sU:nS.sz=3:=by rw[nS,D5];rfl
theorem ajg{bs:List Int}(c:Cu bs):(LZ c).1.sz<=2000:=by
 unfold LZ;have h0:=gN c R9;generalize (bR wD c).1=s at h0;generalize (aT 10 (bR wD c).2).1=k;generalize (aT 10 (bR wD c).2).2=c1;have h1:=gN c1 Ka;have h2:=gN c1 aeJ;have h3:=vP 2 c1;have h4:=vP 1 c1;have h5:=J8 3 vv c1 Ka;unfold Cx;split
 ·simp only[yB,List.map_cons,List.map_nil,aQ,ny,vw,zO,qh,wE,nJ,yC,List.length_cons,List.length_nil];omega
 split
 ·simp only[yB,List.map_cons,List.map_nil,aQ,ny,vw,zO,qh,wE,nJ,sU,yC,List.length_cons,List.length_nil];omega
 split
 ·simp only[yB,List.map_cons,List.map_nil,aQ,ny,vw,zO,qh,wE,nJ,sU,List.length_cons,List.length_nil];omega
 split
 ·simp only[yB,List.map_cons,List.map_nil,aQ,ny,zO,qh,wE,nJ,sU,yC,List.length_cons,List.length_nil];omega
 split
 ·simp only[yB,List.map_cons,List.map_nil,aQ,ny,vw,zO,qh,wE,nJ,sU,yC,List.length_cons,List.length_nil];omega
 ·simp only[yB,List.map_cons,List.map_nil,aQ,ny,vw,zO,qh,wE,nJ,sU,yC,List.length_cons,List.length_nil];omega
theorem l13Fn_3{bs:List Int}(hB:Bytes bs)(c c1 c2:Cu bs)(s:List UInt8)(l j:Nat)(S:Store)(hk:bn S (l,j)=some (.box (cur c)))(h1:bR wD c=(s,c1))(h2:aT 10 c1=(3,c2)):
 bY prog 104 [.c (.ptr (l,j) 0)] S (fun r S1=>r=(Cx s 3 c2).1.v/\S1=aY S (l,j) (.box (cur (Cx s 3 c2).2))):=by
 have g:∀x:Ab.Obj,bn (aY S (l,j) x) (l,j)=some x:=fun x=>cO _ _ _ _ hk;have q1:=fun fr:List Ab.Obj=>dS hB c (1+l) j (fr::S) wD (by rw[aH];exact hk) (by decide) (by decide);simp only[h1,ak] at q1;have q2:=fun fr:List Ab.Obj=>dR hB c1 (1+l) j (fr::aY S (l,j) (.box (cur c1))) 10 (by rw[aH];exact g _) (by omega) (by omega);simp only[h2,ak,ah] at q2;have q3:=fun fr:List Ab.Obj=>iF hB 1 c2 (1+l) j (fr::aY S (l,j) (.box (cur c2))) (by rw[aH];exact g _) (by omega);simp only[ak,ah] at q3;obtain⟨q,hq⟩:∃q,q=Cx s 3 c2:=⟨_,rfl⟩;rw[<-hq];simp only[Cx,reduceIte,Int.reduceEq] at hq;refine bY.of_le ?_;refine Ao [67] (rs:=[.cell 2 117]) zmx func104 ntmps104 rfl rfl rfl rfl rfl ?_;simp -implicitDefEqProofs (disch:=omega) only[go_sem];refine cu [true] rfl (q1 _) ?_;simp -implicitDefEqProofs (disch:=omega) only[go_sem,ak,ah];refine aB (fT _) ?_;simp -implicitDefEqProofs (disch:=omega) only[go_sem];refine aB (fT _) ?_;simp -implicitDefEqProofs (disch:=omega) only[go_sem];refine aB iT ?_;simp -implicitDefEqProofs (disch:=omega) only[go_sem];refine aB (uF _) ?_;simp -implicitDefEqProofs (disch:=omega) only[go_sem]
 (repeat(with_reducible refine And.intro ?_ ?_;focus first|omega|rfl|assumption|exact⟨_,rfl,rfl⟩|(simp;omega)|(simp;done)))
 refine aW rfl (q2 _) ?_;simp -implicitDefEqProofs (disch:=omega) only[go_sem,ak,ah];refine aW rfl (q3 _) ?_;simp -implicitDefEqProofs (disch:=omega) only[go_sem,ak,ah]
 (repeat(with_reducible refine And.intro ?_ ?_;focus first|omega|rfl|assumption|exact⟨_,rfl,rfl⟩|(simp;omega)|(simp;done)))
 refine⟨by cases l<;>rfl,?_⟩;simp -implicitDefEqProofs (disch:=omega) only[go_sem,ak,ah];rw[hq]
 first|exact⟨aF rfl,rfl⟩|(refine⟨aF ?_,rfl⟩;simp only[bF.v,List.map_cons,List.map_nil,List.map_append,aS.aj,aN.aj,aI.aj,aR.aj,ay.aj,aD.aj,List.cons_append,List.nil_append];rfl)
theorem ahh{bs:List Int}(hB:Bytes bs)(c c1 c2:Cu bs)(s:List UInt8)(k:Int)(l j:Nat)(S:Store)(hk:bn S (l,j)=some (.box (cur c)))(h1:bR wD c=(s,c1))(h2:aT 10 c1=(k,c2))(hk3:k≠3):
 bY prog 104 [.c (.ptr (l,j) 0)] S (fun r S1=>r=(Cx s k c2).1.v/\S1=aY S (l,j) (.box (cur (Cx s k c2).2))):=by
 have g:∀x:Ab.Obj,bn (aY S (l,j) x) (l,j)=some x:=fun x=>cO _ _ _ _ hk;have q1:=fun fr:List Ab.Obj=>dS hB c (1+l) j (fr::S) wD (by rw[aH];exact hk) (by decide) (by decide);simp only[h1,ak] at q1;have q2:=fun fr:List Ab.Obj=>dR hB c1 (1+l) j (fr::aY S (l,j) (.box (cur c1))) 10 (by rw[aH];exact g _) (by omega) (by omega);simp only[h2,ak,ah] at q2;obtain⟨q,hq⟩:∃q,q=Cx s k c2:=⟨_,rfl⟩;rw[<-hq];refine bY.of_le ?_;refine nY [67] (rs:=[.cell 2 117]) zmx func104 ntmps104 rfl rfl rfl rfl rfl ?_;simp -implicitDefEqProofs (disch:=omega) only[go_sem];refine cu [true] rfl (q1 _) ?_;simp -implicitDefEqProofs (disch:=omega) only[go_sem,ak,ah];refine aB (fT _) ?_;simp -implicitDefEqProofs (disch:=omega) only[go_sem];refine aB (fT _) ?_;simp -implicitDefEqProofs (disch:=omega) only[go_sem];refine aB iT ?_;simp -implicitDefEqProofs (disch:=omega) only[go_sem];refine aB (uF _) ?_;simp -implicitDefEqProofs (disch:=omega) only[go_sem]
 (repeat(with_reducible refine And.intro ?_ ?_;focus first|omega|rfl|assumption|exact⟨_,rfl,rfl⟩|(simp;omega)|(simp;done)))
 refine aW rfl (q2 _) ?_;simp -implicitDefEqProofs (disch:=omega) only[go_sem,ak,ah]
 with_reducible refine aC (fun hb=> ?_) (fun hb=> ?_)<;>have h:=hb<;>(try simp only[wf_preprocess] at h)<;>simp -implicitDefEqProofs (disch:=omega) only[go_sem,hb,ak,ah]<;>(repeat(with_reducible refine And.intro ?_ ?_;focus first|omega|rfl|assumption|exact⟨_,rfl,rfl⟩|(simp;omega)|(simp;done)))
 ·subst h;simp only[Cx,reduceIte,Int.reduceEq] at hq;refine aW rfl (iF hB 2 c2 (1+l) j _ (by rw[aH];exact g _) (by omega)) ?_;simp -implicitDefEqProofs (disch:=omega) only[go_sem,ak,ah];rw[hq]
  first|exact⟨aF rfl,rfl⟩|(refine⟨aF ?_,rfl⟩;simp only[bF.v,List.map_cons,List.map_nil,List.map_append,aS.aj,aN.aj,aI.aj,aR.aj,ay.aj,aD.aj,List.cons_append,List.nil_append];rfl)
 have e0:=h
 with_reducible refine aC (fun hb=> ?_) (fun hb=> ?_)<;>have h:=hb<;>(try simp only[wf_preprocess] at h)<;>simp -implicitDefEqProofs (disch:=omega) only[go_sem,hb,ak,ah]<;>(repeat(with_reducible refine And.intro ?_ ?_;focus first|omega|rfl|assumption|exact⟨_,rfl,rfl⟩|(simp;omega)|(simp;done)))
 ·subst h;simp only[Cx,reduceIte,Int.reduceEq] at hq;refine cu [true] rfl (dS hB c2 (1+l) j _ vv (by rw[aH];exact g _) (by decide) (by decide)) ?_;simp -implicitDefEqProofs (disch:=omega) only[go_sem,ak,ah];refine aB iT ?_;simp -implicitDefEqProofs (disch:=omega) only[go_sem,ak,ah]
  (repeat(with_reducible refine And.intro ?_ ?_;focus first|omega|rfl|assumption|exact⟨_,rfl,rfl⟩|(simp;omega)|(simp;done)))
  refine⟨by cases l<;>rfl,?_⟩;simp -implicitDefEqProofs (disch:=omega) only[go_sem,ak,ah];rw[hq]
  first|exact⟨aF rfl,rfl⟩|(refine⟨aF ?_,rfl⟩;simp only[bF.v,List.map_cons,List.map_nil,List.map_append,aS.aj,aN.aj,aI.aj,aR.aj,ay.aj,aD.aj,List.cons_append,List.nil_append];rfl)
 have e1:=h
 with_reducible refine aC (fun hb=> ?_) (fun hb=> ?_)<;>have h:=hb<;>(try simp only[wf_preprocess] at h)<;>simp -implicitDefEqProofs (disch:=omega) only[go_sem,hb,ak,ah]<;>(repeat(with_reducible refine And.intro ?_ ?_;focus first|omega|rfl|assumption|exact⟨_,rfl,rfl⟩|(simp;omega)|(simp;done)))
 ·subst h;simp only[Cx,reduceIte,Int.reduceEq] at hq;refine cu [true] rfl (jm (mI hB 3 vv c2 (1+l) j _ (by decide) (by rw[aH];exact g _))) ?_;simp -implicitDefEqProofs (disch:=omega) only[go_sem,ak,ah];rw[hq]
  first|exact⟨aF rfl,rfl⟩|(refine⟨aF ?_,rfl⟩;simp only[bF.v,List.map_cons,List.map_nil,List.map_append,aS.aj,aN.aj,aI.aj,aR.aj,ay.aj,aD.aj,List.cons_append,List.nil_append];rfl)
 have e2:=h
 with_reducible refine aC (fun hb=> ?_) (fun hb=> ?_)<;>have h:=hb<;>(try simp only[wf_preprocess] at h)<;>simp -implicitDefEqProofs (disch:=omega) only[go_sem,hb,ak,ah]<;>(repeat(with_reducible refine And.intro ?_ ?_;focus first|omega|rfl|assumption|exact⟨_,rfl,rfl⟩|(simp;omega)|(simp;done)))
 ·exact absurd h hk3
 with_reducible refine aC (fun hb=> ?_) (fun hb=> ?_)<;>have h:=hb<;>(try simp only[wf_preprocess] at h)<;>simp -implicitDefEqProofs (disch:=omega) only[go_sem,hb,ak,ah]<;>(repeat(with_reducible refine And.intro ?_ ?_;focus first|omega|rfl|assumption|exact⟨_,rfl,rfl⟩|(simp;omega)|(simp;done)))
 ·subst h;simp only[Cx,reduceIte,Int.reduceEq] at hq;refine cu [true] rfl (dS hB c2 (1+l) j _ ifL (by rw[aH];exact g _) (by decide) (by decide)) ?_;simp -implicitDefEqProofs (disch:=omega) only[go_sem,ak,ah];rw[hq]
  first|exact⟨aF rfl,rfl⟩|(refine⟨aF ?_,rfl⟩;simp only[bF.v,List.map_cons,List.map_nil,List.map_append,aS.aj,aN.aj,aI.aj,aR.aj,ay.aj,aD.aj,List.cons_append,List.nil_append];rfl)
 have e4:=h;simp only[Cx,if_neg e0,if_neg e1,if_neg e2,if_neg hk3,if_neg e4] at hq;rw[hq]
 first|exact⟨aF rfl,rfl⟩|(refine⟨aF ?_,rfl⟩;simp only[bF.v,List.map_cons,List.map_nil,List.map_append,aS.aj,aN.aj,aI.aj,aR.aj,ay.aj,aD.aj,List.cons_append,List.nil_append];rfl)
theorem aeL{bs:List Int}(hB:Bytes bs)(c:Cu bs)(l j:Nat)(S:Store)(hk:bn S (l,j)=some (.box (cur c))):
 bY prog 104 [.c (.ptr (l,j) 0)] S (fun r S1=>r=(LZ c).1.v/\S1=aY S (l,j) (.box (cur (LZ c).2))):=by
 unfold LZ;by_cases h3:(aT 10 (bR wD c).2).1=3
 ·rw[h3];exact l13Fn_3 hB c _ _ _ l j S hk rfl (Prod.ext h3 rfl)
 ·exact ahh hB c _ _ _ _ l j S hk rfl rfl h3
theorem OI(s:List UInt8)(p:List ay)(r:ay)(d:Bool)(v:List (List UInt8))(b:aD):bG (aI.mk s p r d v b).enc=s.length+(p.length+aQ (p.map ay.enc))+r.sz+(v.length+aQ (v.map encS))+b.sz:=by
 simp only[aI.aj,bG,bC,D.sz,List.length_map,ay.cK,aD.cK];omega
theorem Js(s:List UInt8)(p:List (List UInt8))(a b:Bool)(m:List aI):(bD.mk s p a b m).sz=s.length+(p.length+aQ (p.map encS))+(m.length+aQ (m.map aI.enc)):=by
 simp only[bD.sz,bD.aj,bG,bC,D.sz,List.length_map];omega
def iD(b:Bool)(s:List UInt8):List aI:=match b with
 |true=>[Nn s]
 |false=>[]
def iG(b:Bool):List (List UInt8):=match b with
 |true=>[[111,114,100]]
 |false=>[]
def xI{bs:List Int}(c:Cu bs):bD×Cu bs:=
 fU (bR lH c).1 (bU 3 (bR lH c).2).1 (iD (bU 2 (bU 3 (bR lH c).2).2).1 (bR lH c).1) (iG (bU 3 (bU 2 (bU 3 (bR lH c).2).2).2).1)
  (aT 12 (bU 3 (bU 2 (bU 3 (bR lH c).2).2).2).2).1 (aT 12 (bU 3 (bU 2 (bU 3 (bR lH c).2).2).2).2).2
theorem VE(t:ay)(b:Bool):bG (Dg t b).enc=t.sz+1:=by
 have hz:zE.sz=0:=by rw[zE,lY,nT];simp[aQ]
 rw[Dg,OI,hz];simp only[List.map_nil,aQ,List.length_nil,List.length_cons];omega
theorem ahi(s:List UInt8):bG (Nn s).enc<=s.length+24:=by
 rw[Nn,OI,oh,lY,nT];simp only[vv,List.map_cons,List.map_nil,aQ,ny,ay.cK,aD.cK,nJ,sU,yC,Np,List.length_nil,List.length_cons];omega
theorem ahj(b:Bool)(s:List UInt8):(iD b s).length<=1/\aQ ((iD b s).map aI.enc)<=s.length+24:=by
 cases b with
 |false=>exact⟨Nat.zero_le _,Nat.zero_le _⟩
 |true=>exact⟨Nat.le_refl _,by have:=ahi s;simp only[iD,List.map_cons,List.map_nil,aQ];omega⟩
theorem ahk(b:Bool):(iG b).length<=1/\aQ ((iG b).map encS)<=3:=by
 cases b with
 |false=>exact⟨Nat.zero_le _,Nat.zero_le _⟩
 |true=>exact⟨Nat.le_refl _,Nat.le_refl _⟩
theorem abh{bs:List Int}(c:Cu bs):(xI c).1.sz<=300:=by
 unfold xI;have h0:=gN c Sc;generalize (bR lH c).1=s at h0;have h1:=ahj (bU 2 (bU 3 (bR lH c).2).2).1 s;have h2:=ahk (bU 3 (bU 2 (bU 3 (bR lH c).2).2).2).1;generalize iD (bU 2 (bU 3 (bR lH c).2).2).1 s=m at h1;generalize iG (bU 3 (bU 2 (bU 3 (bR lH c).2).2).2).1=p at h2;generalize (bU 3 (bR lH c).2).1=b;generalize (aT 12 (bU 3 (bU 2 (bU 3 (bR lH c).2).2).2).2).1=k;generalize (aT 12 (bU 3 (bU 2 (bU 3 (bR lH c).2).2).2).2).2=c1;have h3:=gN c1 abg;have h4:=gN c1 aeK;unfold fU
 iterate 6
  split
  ·simp only[Js,List.map_cons,List.map_nil,List.map_append,aQ,om,ny,VE,nJ,sU,List.length_cons,List.length_nil,List.length_append];omega
 simp only[Js,List.map_cons,List.map_nil,aQ,VE,sU,List.length_cons,List.length_nil];omega
theorem Yw{bs:List Int}(hB:Bytes bs)(c c1 c2 c3 c4 c5:Cu bs)(s:List UInt8)(b o p:Bool)(k:Int)(l j:Nat)(S:Store)(hk:bn S (l,j)=some (.box (cur c)))(h1:bR lH c=(s,c1))(h2:bU 3 c1=(b,c2))(h3:bU 2 c2=(o,c3))(h4:bU 3 c3=(p,c4))(h5:aT 12 c4=(k,c5))(ho1:o=true)(Sg:k=2\/k=3):
 bY prog 101 [.c (.ptr (l,j) 0)] S (fun r S1=>r=(fU s b (iD o s) (iG p) k c5).1.v/\S1=aY S (l,j) (.box (cur (fU s b (iD o s) (iG p) k c5).2))):=by
 have g:∀x:Ab.Obj,bn (aY S (l,j) x) (l,j)=some x:=fun x=>cO _ _ _ _ hk;have q1:=fun fr:List Ab.Obj=>dS hB c (1+l) j (fr::S) lH (by rw[aH];exact hk) (by decide) (by decide);simp only[h1,ak] at q1;have q2:=fun fr:List Ab.Obj=>iE hB c1 (1+l) j (fr::aY S (l,j) (.box (cur c1))) 3 (by rw[aH];exact g _) (by omega) (by omega);simp only[h2,ak,ah] at q2;have q3:=fun fr:List Ab.Obj=>iE hB c2 (1+l) j (fr::aY S (l,j) (.box (cur c2))) 2 (by rw[aH];exact g _) (by omega) (by omega);simp only[h3,ak,ah] at q3;have q4:=fun fr:List Ab.Obj=>iE hB c3 (1+l) j (fr::aY S (l,j) (.box (cur c3))) 3 (by rw[aH];exact g _) (by omega) (by omega);simp only[h4,ak,ah] at q4;have q5:=fun fr:List Ab.Obj=>dR hB c4 (1+l) j (fr::aY S (l,j) (.box (cur c4))) 12 (by rw[aH];exact g _) (by omega) (by omega);simp only[h5,ak,ah] at q5;have qo:∀es:List (List D),es=[qg s,kL 1].map aD.enc->aX prog 142 [.c (.d (.i .i64 10)),.c (.d (.s [43])),.c (.d (.sl es))] (oh 10 [43] [qg s,kL 1]).v:=fun es he S=>jm (Cw 10 [43] [qg s,kL 1] he (by simp) (.inl rfl) S)
 have ho:(iD o s)=(if o=true then [Nn s] else []):=by cases o<;>rfl
 have hp:(iG p)=(if p=true then [[111,114,100]] else []):=by cases p<;>rfl
 obtain⟨q,hq⟩:∃q,q=fU s b (iD o s) (iG p) k c5:=⟨_,rfl⟩;rw[<-hq];refine bY.of_le ?_;refine Yu [67] (rs:=[.cell 2 54]) zmx func101 ntmps101 rfl rfl rfl rfl rfl ?_;simp -implicitDefEqProofs (disch:=omega) only[go_sem];refine aB (fT _) ?_;simp -implicitDefEqProofs (disch:=omega) only[go_sem];refine cu [true] rfl (q1 _) ?_;simp -implicitDefEqProofs (disch:=omega) only[go_sem,ak,ah];refine aW rfl (q2 _) ?_;simp -implicitDefEqProofs (disch:=omega) only[go_sem,ak,ah];refine aB iT ?_;simp -implicitDefEqProofs (disch:=omega) only[go_sem]
 (repeat(with_reducible refine And.intro ?_ ?_;focus first|omega|rfl|assumption|exact⟨_,rfl,rfl⟩|(simp;omega)|(simp;done)))
 refine aW rfl (q3 _) ?_;subst ho1;simp -implicitDefEqProofs (disch:=omega) only[go_sem,ak,ah];refine aB iT ?_;simp -implicitDefEqProofs (disch:=omega) only[go_sem];refine aB (uF _) ?_;simp -implicitDefEqProofs (disch:=omega) only[go_sem];refine aB (qd _) ?_;simp -implicitDefEqProofs (disch:=omega) only[go_sem];refine aB (qo _ rfl) ?_;simp -implicitDefEqProofs (disch:=omega) only[go_sem]
 (repeat(with_reducible refine And.intro ?_ ?_;focus first|omega|rfl|assumption|exact⟨_,rfl,rfl⟩|(simp;omega)|(simp;done)))
 refine⟨by cases l<;>rfl,?_⟩;simp -implicitDefEqProofs (disch:=omega) only[go_sem,ak,ah];refine aW rfl (q4 _) ?_
 cases p with
 |true=>
  simp -implicitDefEqProofs (disch:=omega) only[go_sem,ak,ah];refine aW rfl (q5 _) ?_;rcases Sg with rfl|rfl
  ·simp only[fU,iD,iG,reduceIte,Int.reduceEq] at hq;simp -implicitDefEqProofs (disch:=omega) only[go_sem,ak,ah];refine cu [true] rfl (dS hB c5 (1+l) j _ Sd (by rw[aH];exact g _) (by decide) (by decide)) ?_;simp -implicitDefEqProofs (disch:=omega) only[go_sem,ak,ah];refine aB (fT _) ?_;simp -implicitDefEqProofs (disch:=omega) only[go_sem,ak,ah]
   (repeat(with_reducible refine And.intro ?_ ?_;focus first|omega|rfl|assumption|exact⟨_,rfl,rfl⟩|(simp;omega)|(simp;done)))
   refine⟨by cases l<;>rfl,?_⟩;simp -implicitDefEqProofs (disch:=omega) only[go_sem,ak,ah];rw[hq]
   first|exact⟨aF rfl,rfl⟩|(refine⟨aF ?_,rfl⟩;simp only[bD.v,List.map_cons,List.map_nil,List.map_append,aS.aj,aN.aj,aI.aj,aR.aj,ay.aj,aD.aj,List.cons_append,List.nil_append];rfl)
  ·simp only[fU,iD,iG,reduceIte,Int.reduceEq] at hq;simp -implicitDefEqProofs (disch:=omega) only[go_sem,ak,ah]
   (repeat(with_reducible refine And.intro ?_ ?_;focus first|omega|rfl|assumption|exact⟨_,rfl,rfl⟩|(simp;omega)|(simp;done)))
   rw[hq]
   first|exact⟨aF rfl,rfl⟩|(refine⟨aF ?_,rfl⟩;simp only[bD.v,List.map_cons,List.map_nil,List.map_append,aS.aj,aN.aj,aI.aj,aR.aj,ay.aj,aD.aj,List.cons_append,List.nil_append];rfl)
 |false=>
  simp -implicitDefEqProofs (disch:=omega) only[go_sem,ak,ah];refine aW rfl (q5 _) ?_;rcases Sg with rfl|rfl
  ·simp only[fU,iD,iG,reduceIte,Int.reduceEq] at hq;simp -implicitDefEqProofs (disch:=omega) only[go_sem,ak,ah];refine cu [true] rfl (dS hB c5 (1+l) j _ Sd (by rw[aH];exact g _) (by decide) (by decide)) ?_;simp -implicitDefEqProofs (disch:=omega) only[go_sem,ak,ah];refine aB (fT _) ?_;simp -implicitDefEqProofs (disch:=omega) only[go_sem,ak,ah]
   (repeat(with_reducible refine And.intro ?_ ?_;focus first|omega|rfl|assumption|exact⟨_,rfl,rfl⟩|(simp;omega)|(simp;done)))
   refine⟨by cases l<;>rfl,?_⟩;simp -implicitDefEqProofs (disch:=omega) only[go_sem,ak,ah];rw[hq]
   first|exact⟨aF rfl,rfl⟩|(refine⟨aF ?_,rfl⟩;simp only[bD.v,List.map_cons,List.map_nil,List.map_append,aS.aj,aN.aj,aI.aj,aR.aj,ay.aj,aD.aj,List.cons_append,List.nil_append];rfl)
  ·simp only[fU,iD,iG,reduceIte,Int.reduceEq] at hq;simp -implicitDefEqProofs (disch:=omega) only[go_sem,ak,ah]
   (repeat(with_reducible refine And.intro ?_ ?_;focus first|omega|rfl|assumption|exact⟨_,rfl,rfl⟩|(simp;omega)|(simp;done)))
   rw[hq]
   first|exact⟨aF rfl,rfl⟩|(refine⟨aF ?_,rfl⟩;simp only[bD.v,List.map_cons,List.map_nil,List.map_append,aS.aj,aN.aj,aI.aj,aR.aj,ay.aj,aD.aj,List.cons_append,List.nil_append];rfl)
theorem Yx{bs:List Int}(hB:Bytes bs)(c c1 c2 c3 c4 c5:Cu bs)(s:List UInt8)(b o p:Bool)(k:Int)(l j:Nat)(S:Store)(hk:bn S (l,j)=some (.box (cur c)))(h1:bR lH c=(s,c1))(h2:bU 3 c1=(b,c2))(h3:bU 2 c2=(o,c3))(h4:bU 3 c3=(p,c4))(h5:aT 12 c4=(k,c5))(ho1:o=false)(Sg:k=2\/k=3):
 bY prog 101 [.c (.ptr (l,j) 0)] S (fun r S1=>r=(fU s b (iD o s) (iG p) k c5).1.v/\S1=aY S (l,j) (.box (cur (fU s b (iD o s) (iG p) k c5).2))):=by
 have g:∀x:Ab.Obj,bn (aY S (l,j) x) (l,j)=some x:=fun x=>cO _ _ _ _ hk;have q1:=fun fr:List Ab.Obj=>dS hB c (1+l) j (fr::S) lH (by rw[aH];exact hk) (by decide) (by decide);simp only[h1,ak] at q1;have q2:=fun fr:List Ab.Obj=>iE hB c1 (1+l) j (fr::aY S (l,j) (.box (cur c1))) 3 (by rw[aH];exact g _) (by omega) (by omega);simp only[h2,ak,ah] at q2;have q3:=fun fr:List Ab.Obj=>iE hB c2 (1+l) j (fr::aY S (l,j) (.box (cur c2))) 2 (by rw[aH];exact g _) (by omega) (by omega);simp only[h3,ak,ah] at q3;have q4:=fun fr:List Ab.Obj=>iE hB c3 (1+l) j (fr::aY S (l,j) (.box (cur c3))) 3 (by rw[aH];exact g _) (by omega) (by omega);simp only[h4,ak,ah] at q4;have q5:=fun fr:List Ab.Obj=>dR hB c4 (1+l) j (fr::aY S (l,j) (.box (cur c4))) 12 (by rw[aH];exact g _) (by omega) (by omega);simp only[h5,ak,ah] at q5;have qo:∀es:List (List D),es=[qg s,kL 1].map aD.enc->aX prog 142 [.c (.d (.i .i64 10)),.c (.d (.s [43])),.c (.d (.sl es))] (oh 10 [43] [qg s,kL 1]).v:=fun es he S=>jm (Cw 10 [43] [qg s,kL 1] he (by simp) (.inl rfl) S)
 have ho:(iD o s)=(if o=true then [Nn s] else []):=by cases o<;>rfl
 have hp:(iG p)=(if p=true then [[111,114,100]] else []):=by cases p<;>rfl
 obtain⟨q,hq⟩:∃q,q=fU s b (iD o s) (iG p) k c5:=⟨_,rfl⟩;rw[<-hq];refine bY.of_le ?_;refine Ao [67] (rs:=[.cell 2 54]) zmx func101 ntmps101 rfl rfl rfl rfl rfl ?_;simp -implicitDefEqProofs (disch:=omega) only[go_sem];refine aB (fT _) ?_;simp -implicitDefEqProofs (disch:=omega) only[go_sem];refine cu [true] rfl (q1 _) ?_;simp -implicitDefEqProofs (disch:=omega) only[go_sem,ak,ah];refine aW rfl (q2 _) ?_;simp -implicitDefEqProofs (disch:=omega) only[go_sem,ak,ah];refine aB iT ?_;simp -implicitDefEqProofs (disch:=omega) only[go_sem]
 (repeat(with_reducible refine And.intro ?_ ?_;focus first|omega|rfl|assumption|exact⟨_,rfl,rfl⟩|(simp;omega)|(simp;done)))
 refine aW rfl (q3 _) ?_;subst ho1;simp -implicitDefEqProofs (disch:=omega) only[go_sem,ak,ah];refine aW rfl (q4 _) ?_
 cases p with
 |true=>
  simp -implicitDefEqProofs (disch:=omega) only[go_sem,ak,ah];refine aW rfl (q5 _) ?_;rcases Sg with rfl|rfl
  ·simp only[fU,iD,iG,reduceIte,Int.reduceEq] at hq;simp -implicitDefEqProofs (disch:=omega) only[go_sem,ak,ah];refine cu [true] rfl (dS hB c5 (1+l) j _ Sd (by rw[aH];exact g _) (by decide) (by decide)) ?_;simp -implicitDefEqProofs (disch:=omega) only[go_sem,ak,ah];refine aB (fT _) ?_;simp -implicitDefEqProofs (disch:=omega) only[go_sem,ak,ah]
   (repeat(with_reducible refine And.intro ?_ ?_;focus first|omega|rfl|assumption|exact⟨_,rfl,rfl⟩|(simp;omega)|(simp;done)))
   refine⟨by cases l<;>rfl,?_⟩;simp -implicitDefEqProofs (disch:=omega) only[go_sem,ak,ah];rw[hq]
   first|exact⟨aF rfl,rfl⟩|(refine⟨aF ?_,rfl⟩;simp only[bD.v,List.map_cons,List.map_nil,List.map_append,aS.aj,aN.aj,aI.aj,aR.aj,ay.aj,aD.aj,List.cons_append,List.nil_append];rfl)
  ·simp only[fU,iD,iG,reduceIte,Int.reduceEq] at hq;simp -implicitDefEqProofs (disch:=omega) only[go_sem,ak,ah]
   (repeat(with_reducible refine And.intro ?_ ?_;focus first|omega|rfl|assumption|exact⟨_,rfl,rfl⟩|(simp;omega)|(simp;done)))
   rw[hq]
   first|exact⟨aF rfl,rfl⟩|(refine⟨aF ?_,rfl⟩;simp only[bD.v,List.map_cons,List.map_nil,List.map_append,aS.aj,aN.aj,aI.aj,aR.aj,ay.aj,aD.aj,List.cons_append,List.nil_append];rfl)
 |false=>
  simp -implicitDefEqProofs (disch:=omega) only[go_sem,ak,ah];refine aW rfl (q5 _) ?_;rcases Sg with rfl|rfl
  ·simp only[fU,iD,iG,reduceIte,Int.reduceEq] at hq;simp -implicitDefEqProofs (disch:=omega) only[go_sem,ak,ah];refine cu [true] rfl (dS hB c5 (1+l) j _ Sd (by rw[aH];exact g _) (by decide) (by decide)) ?_;simp -implicitDefEqProofs (disch:=omega) only[go_sem,ak,ah];refine aB (fT _) ?_;simp -implicitDefEqProofs (disch:=omega) only[go_sem,ak,ah]
   (repeat(with_reducible refine And.intro ?_ ?_;focus first|omega|rfl|assumption|exact⟨_,rfl,rfl⟩|(simp;omega)|(simp;done)))
   refine⟨by cases l<;>rfl,?_⟩;simp -implicitDefEqProofs (disch:=omega) only[go_sem,ak,ah];rw[hq]
   first|exact⟨aF rfl,rfl⟩|(refine⟨aF ?_,rfl⟩;simp only[bD.v,List.map_cons,List.map_nil,List.map_append,aS.aj,aN.aj,aI.aj,aR.aj,ay.aj,aD.aj,List.cons_append,List.nil_append];rfl)
  ·simp only[fU,iD,iG,reduceIte,Int.reduceEq] at hq;simp -implicitDefEqProofs (disch:=omega) only[go_sem,ak,ah]
   (repeat(with_reducible refine And.intro ?_ ?_;focus first|omega|rfl|assumption|exact⟨_,rfl,rfl⟩|(simp;omega)|(simp;done)))
   rw[hq]
   first|exact⟨aF rfl,rfl⟩|(refine⟨aF ?_,rfl⟩;simp only[bD.v,List.map_cons,List.map_nil,List.map_append,aS.aj,aN.aj,aI.aj,aR.aj,ay.aj,aD.aj,List.cons_append,List.nil_append];rfl)
theorem Yy{bs:List Int}(hB:Bytes bs)(c c1 c2 c3 c4 c5:Cu bs)(s:List UInt8)(b o p:Bool)(k:Int)(l j:Nat)(S:Store)(hk:bn S (l,j)=some (.box (cur c)))(h1:bR lH c=(s,c1))(h2:bU 3 c1=(b,c2))(h3:bU 2 c2=(o,c3))(h4:bU 3 c3=(p,c4))(h5:aT 12 c4=(k,c5))(hk2:k≠2)(hk3:k≠3):
 bY prog 101 [.c (.ptr (l,j) 0)] S (fun r S1=>r=(fU s b (iD o s) (iG p) k c5).1.v/\S1=aY S (l,j) (.box (cur (fU s b (iD o s) (iG p) k c5).2))):=by
 have g:∀x:Ab.Obj,bn (aY S (l,j) x) (l,j)=some x:=fun x=>cO _ _ _ _ hk;have q1:=fun fr:List Ab.Obj=>dS hB c (1+l) j (fr::S) lH (by rw[aH];exact hk) (by decide) (by decide);simp only[h1,ak] at q1;have q2:=fun fr:List Ab.Obj=>iE hB c1 (1+l) j (fr::aY S (l,j) (.box (cur c1))) 3 (by rw[aH];exact g _) (by omega) (by omega);simp only[h2,ak,ah] at q2;have q3:=fun fr:List Ab.Obj=>iE hB c2 (1+l) j (fr::aY S (l,j) (.box (cur c2))) 2 (by rw[aH];exact g _) (by omega) (by omega);simp only[h3,ak,ah] at q3;have q4:=fun fr:List Ab.Obj=>iE hB c3 (1+l) j (fr::aY S (l,j) (.box (cur c3))) 3 (by rw[aH];exact g _) (by omega) (by omega);simp only[h4,ak,ah] at q4;have q5:=fun fr:List Ab.Obj=>dR hB c4 (1+l) j (fr::aY S (l,j) (.box (cur c4))) 12 (by rw[aH];exact g _) (by omega) (by omega);simp only[h5,ak,ah] at q5;have qo:∀es:List (List D),es=[qg s,kL 1].map aD.enc->aX prog 142 [.c (.d (.i .i64 10)),.c (.d (.s [43])),.c (.d (.sl es))] (oh 10 [43] [qg s,kL 1]).v:=fun es he S=>jm (Cw 10 [43] [qg s,kL 1] he (by simp) (.inl rfl) S)
 have ho:(iD o s)=(if o=true then [Nn s] else []):=by cases o<;>rfl
 have hp:(iG p)=(if p=true then [[111,114,100]] else []):=by cases p<;>rfl
 obtain⟨q,hq⟩:∃q,q=fU s b (iD o s) (iG p) k c5:=⟨_,rfl⟩;rw[<-hq];refine bY.of_le ?_;refine nY [67] (rs:=[.cell 2 54]) zmx func101 ntmps101 rfl rfl rfl rfl rfl ?_;simp -implicitDefEqProofs (disch:=omega) only[go_sem];refine aB (fT _) ?_;simp -implicitDefEqProofs (disch:=omega) only[go_sem];refine cu [true] rfl (q1 _) ?_;simp -implicitDefEqProofs (disch:=omega) only[go_sem,ak,ah];refine aW rfl (q2 _) ?_;simp -implicitDefEqProofs (disch:=omega) only[go_sem,ak,ah];refine aB iT ?_;simp -implicitDefEqProofs (disch:=omega) only[go_sem]
 (repeat(with_reducible refine And.intro ?_ ?_;focus first|omega|rfl|assumption|exact⟨_,rfl,rfl⟩|(simp;omega)|(simp;done)))
 refine aW rfl (q3 _) ?_
 cases o with
 |true=>
  simp -implicitDefEqProofs (disch:=omega) only[go_sem,ak,ah];refine aB iT ?_;simp -implicitDefEqProofs (disch:=omega) only[go_sem];refine aB (uF _) ?_;simp -implicitDefEqProofs (disch:=omega) only[go_sem];refine aB (qd _) ?_;simp -implicitDefEqProofs (disch:=omega) only[go_sem];refine aB (qo _ rfl) ?_;simp -implicitDefEqProofs (disch:=omega) only[go_sem]
  (repeat(with_reducible refine And.intro ?_ ?_;focus first|omega|rfl|assumption|exact⟨_,rfl,rfl⟩|(simp;omega)|(simp;done)))
  refine⟨by cases l<;>rfl,?_⟩;simp -implicitDefEqProofs (disch:=omega) only[go_sem,ak,ah];refine aW rfl (q4 _) ?_
  cases p with
  |true=>
   simp -implicitDefEqProofs (disch:=omega) only[go_sem,ak,ah];refine aW rfl (q5 _) ?_;simp -implicitDefEqProofs (disch:=omega) only[go_sem,ak,ah]
   with_reducible refine aC (fun hb=> ?_) (fun hb=> ?_)<;>have h:=hb<;>(try simp only[wf_preprocess] at h)<;>simp -implicitDefEqProofs (disch:=omega) only[go_sem,hb,ak,ah]<;>(repeat(with_reducible refine And.intro ?_ ?_;focus first|omega|rfl|assumption|exact⟨_,rfl,rfl⟩|(simp;omega)|(simp;done)))
   ·subst h;simp only[fU,iD,iG,reduceIte,Int.reduceEq] at hq
    try(simp -implicitDefEqProofs (disch:=omega) only[go_sem,ak,ah])
    rw[hq]
    first|exact⟨aF rfl,rfl⟩|(refine⟨aF ?_,rfl⟩;simp only[bD.v,List.map_cons,List.map_nil,List.map_append,aS.aj,aN.aj,aI.aj,aR.aj,ay.aj,aD.aj,List.cons_append,List.nil_append];rfl)
   have e0:=h
   with_reducible refine aC (fun hb=> ?_) (fun hb=> ?_)<;>have h:=hb<;>(try simp only[wf_preprocess] at h)<;>simp -implicitDefEqProofs (disch:=omega) only[go_sem,hb,ak,ah]<;>(repeat(with_reducible refine And.intro ?_ ?_;focus first|omega|rfl|assumption|exact⟨_,rfl,rfl⟩|(simp;omega)|(simp;done)))
   ·subst h;simp only[fU,iD,iG,reduceIte,Int.reduceEq] at hq;refine cu [true] rfl (dS hB c5 (1+l) j _ Kc (by rw[aH];exact g _) (by decide) (by decide)) ?_;simp -implicitDefEqProofs (disch:=omega) only[go_sem,ak,ah];rw[hq]
    first|exact⟨aF rfl,rfl⟩|(refine⟨aF ?_,rfl⟩;simp only[bD.v,List.map_cons,List.map_nil,List.map_append,aS.aj,aN.aj,aI.aj,aR.aj,ay.aj,aD.aj,List.cons_append,List.nil_append];rfl)
   have e1:=h
   with_reducible refine aC (fun hb=> ?_) (fun hb=> ?_)<;>have h:=hb<;>(try simp only[wf_preprocess] at h)<;>simp -implicitDefEqProofs (disch:=omega) only[go_sem,hb,ak,ah]<;>(repeat(with_reducible refine And.intro ?_ ?_;focus first|omega|rfl|assumption|exact⟨_,rfl,rfl⟩|(simp;omega)|(simp;done)))
   ·exact absurd h hk2
   with_reducible refine aC (fun hb=> ?_) (fun hb=> ?_)<;>have h:=hb<;>(try simp only[wf_preprocess] at h)<;>simp -implicitDefEqProofs (disch:=omega) only[go_sem,hb,ak,ah]<;>(repeat(with_reducible refine And.intro ?_ ?_;focus first|omega|rfl|assumption|exact⟨_,rfl,rfl⟩|(simp;omega)|(simp;done)))
   ·exact absurd h hk3
   with_reducible refine aC (fun hb=> ?_) (fun hb=> ?_)<;>have h:=hb<;>(try simp only[wf_preprocess] at h)<;>simp -implicitDefEqProofs (disch:=omega) only[go_sem,hb,ak,ah]<;>(repeat(with_reducible refine And.intro ?_ ?_;focus first|omega|rfl|assumption|exact⟨_,rfl,rfl⟩|(simp;omega)|(simp;done)))
   ·subst h;simp only[fU,iD,iG,reduceIte,Int.reduceEq] at hq
    (repeat(with_reducible refine And.intro ?_ ?_;focus first|omega|rfl|assumption|exact⟨_,rfl,rfl⟩|(simp;omega)|(simp;done)))
    try(simp -implicitDefEqProofs (disch:=omega) only[go_sem,ak,ah])
    rw[hq]
    first|exact⟨aF rfl,rfl⟩|(refine⟨aF ?_,rfl⟩;simp only[bD.v,List.map_cons,List.map_nil,List.map_append,aS.aj,aN.aj,aI.aj,aR.aj,ay.aj,aD.aj,List.cons_append,List.nil_append];rfl)
   have e4:=h
   with_reducible refine aC (fun hb=> ?_) (fun hb=> ?_)<;>have h:=hb<;>(try simp only[wf_preprocess] at h)<;>simp -implicitDefEqProofs (disch:=omega) only[go_sem,hb,ak,ah,List.getD_cons_zero,List.take_succ_cons,List.take_zero,List.take_nil]<;>(repeat(with_reducible refine And.intro ?_ ?_;focus first|omega|rfl|assumption|exact⟨_,rfl,rfl⟩|(simp;omega)|(simp;done)))
   ·subst h;simp only[fU,iD,iG,reduceIte,Int.reduceEq] at hq
    (repeat(with_reducible refine And.intro ?_ ?_;focus first|omega|rfl|assumption|exact⟨_,rfl,rfl⟩|(simp;omega)|(simp;done)))
    try(refine⟨fun y hy=>(by rw[List.mem_singleton] at hy;subst hy;rfl),?_⟩;(repeat(with_reducible refine And.intro ?_ ?_;focus first|omega|rfl|assumption|exact⟨_,rfl,rfl⟩|(simp;omega)|(simp;done))))
    (repeat(with_reducible refine And.intro ?_ ?_;focus first|omega|rfl|assumption|exact⟨_,rfl,rfl⟩|(simp;omega)|(simp;done)))
    refine⟨by cases l<;>rfl,?_⟩;simp -implicitDefEqProofs (disch:=omega) only[go_sem,ak,ah];rw[hq]
    first|exact⟨aF rfl,rfl⟩|(refine⟨aF ?_,rfl⟩;simp only[bD.v,List.map_cons,List.map_nil,List.map_append,aS.aj,aN.aj,aI.aj,aR.aj,ay.aj,aD.aj,List.cons_append,List.nil_append];rfl)
   have e5:=h;simp only[fU,iD,iG,if_neg e0,if_neg e1,if_neg hk2,if_neg hk3,if_neg e4,if_neg e5] at hq;rw[hq]
   first|exact⟨aF rfl,rfl⟩|(refine⟨aF ?_,rfl⟩;simp only[bD.v,List.map_cons,List.map_nil,List.map_append,aS.aj,aN.aj,aI.aj,aR.aj,ay.aj,aD.aj,List.cons_append,List.nil_append];rfl)
  |false=>
   simp -implicitDefEqProofs (disch:=omega) only[go_sem,ak,ah];refine aW rfl (q5 _) ?_;simp -implicitDefEqProofs (disch:=omega) only[go_sem,ak,ah]
   with_reducible refine aC (fun hb=> ?_) (fun hb=> ?_)<;>have h:=hb<;>(try simp only[wf_preprocess] at h)<;>simp -implicitDefEqProofs (disch:=omega) only[go_sem,hb,ak,ah]<;>(repeat(with_reducible refine And.intro ?_ ?_;focus first|omega|rfl|assumption|exact⟨_,rfl,rfl⟩|(simp;omega)|(simp;done)))
   ·subst h;simp only[fU,iD,iG,reduceIte,Int.reduceEq] at hq
    try(simp -implicitDefEqProofs (disch:=omega) only[go_sem,ak,ah])
    rw[hq]
    first|exact⟨aF rfl,rfl⟩|(refine⟨aF ?_,rfl⟩;simp only[bD.v,List.map_cons,List.map_nil,List.map_append,aS.aj,aN.aj,aI.aj,aR.aj,ay.aj,aD.aj,List.cons_append,List.nil_append];rfl)
   have e0:=h
   with_reducible refine aC (fun hb=> ?_) (fun hb=> ?_)<;>have h:=hb<;>(try simp only[wf_preprocess] at h)<;>simp -implicitDefEqProofs (disch:=omega) only[go_sem,hb,ak,ah]<;>(repeat(with_reducible refine And.intro ?_ ?_;focus first|omega|rfl|assumption|exact⟨_,rfl,rfl⟩|(simp;omega)|(simp;done)))
   ·subst h;simp only[fU,iD,iG,reduceIte,Int.reduceEq] at hq;refine cu [true] rfl (dS hB c5 (1+l) j _ Kc (by rw[aH];exact g _) (by decide) (by decide)) ?_;simp -implicitDefEqProofs (disch:=omega) only[go_sem,ak,ah];rw[hq]
    first|exact⟨aF rfl,rfl⟩|(refine⟨aF ?_,rfl⟩;simp only[bD.v,List.map_cons,List.map_nil,List.map_append,aS.aj,aN.aj,aI.aj,aR.aj,ay.aj,aD.aj,List.cons_append,List.nil_append];rfl)
   have e1:=h
   with_reducible refine aC (fun hb=> ?_) (fun hb=> ?_)<;>have h:=hb<;>(try simp only[wf_preprocess] at h)<;>simp -implicitDefEqProofs (disch:=omega) only[go_sem,hb,ak,ah]<;>(repeat(with_reducible refine And.intro ?_ ?_;focus first|omega|rfl|assumption|exact⟨_,rfl,rfl⟩|(simp;omega)|(simp;done)))
   ·exact absurd h hk2
   with_reducible refine aC (fun hb=> ?_) (fun hb=> ?_)<;>have h:=hb<;>(try simp only[wf_preprocess] at h)<;>simp -implicitDefEqProofs (disch:=omega) only[go_sem,hb,ak,ah]<;>(repeat(with_reducible refine And.intro ?_ ?_;focus first|omega|rfl|assumption|exact⟨_,rfl,rfl⟩|(simp;omega)|(simp;done)))
   ·exact absurd h hk3
   with_reducible refine aC (fun hb=> ?_) (fun hb=> ?_)<;>have h:=hb<;>(try simp only[wf_preprocess] at h)<;>simp -implicitDefEqProofs (disch:=omega) only[go_sem,hb,ak,ah]<;>(repeat(with_reducible refine And.intro ?_ ?_;focus first|omega|rfl|assumption|exact⟨_,rfl,rfl⟩|(simp;omega)|(simp;done)))
   ·subst h;simp only[fU,iD,iG,reduceIte,Int.reduceEq] at hq
    (repeat(with_reducible refine And.intro ?_ ?_;focus first|omega|rfl|assumption|exact⟨_,rfl,rfl⟩|(simp;omega)|(simp;done)))
    try(simp -implicitDefEqProofs (disch:=omega) only[go_sem,ak,ah])
    rw[hq]
    first|exact⟨aF rfl,rfl⟩|(refine⟨aF ?_,rfl⟩;simp only[bD.v,List.map_cons,List.map_nil,List.map_append,aS.aj,aN.aj,aI.aj,aR.aj,ay.aj,aD.aj,List.cons_append,List.nil_append];rfl)
   have e4:=h
   with_reducible refine aC (fun hb=> ?_) (fun hb=> ?_)<;>have h:=hb<;>(try simp only[wf_preprocess] at h)<;>simp -implicitDefEqProofs (disch:=omega) only[go_sem,hb,ak,ah,List.getD_cons_zero,List.take_succ_cons,List.take_zero,List.take_nil]<;>(repeat(with_reducible refine And.intro ?_ ?_;focus first|omega|rfl|assumption|exact⟨_,rfl,rfl⟩|(simp;omega)|(simp;done)))
   ·subst h;simp only[fU,iD,iG,reduceIte,Int.reduceEq] at hq
    (repeat(with_reducible refine And.intro ?_ ?_;focus first|omega|rfl|assumption|exact⟨_,rfl,rfl⟩|(simp;omega)|(simp;done)))
    try(refine⟨fun y hy=>(by rw[List.mem_singleton] at hy;subst hy;rfl),?_⟩;(repeat(with_reducible refine And.intro ?_ ?_;focus first|omega|rfl|assumption|exact⟨_,rfl,rfl⟩|(simp;omega)|(simp;done))))
    (repeat(with_reducible refine And.intro ?_ ?_;focus first|omega|rfl|assumption|exact⟨_,rfl,rfl⟩|(simp;omega)|(simp;done)))
    refine⟨by cases l<;>rfl,?_⟩;simp -implicitDefEqProofs (disch:=omega) only[go_sem,ak,ah];rw[hq]
    first|exact⟨aF rfl,rfl⟩|(refine⟨aF ?_,rfl⟩;simp only[bD.v,List.map_cons,List.map_nil,List.map_append,aS.aj,aN.aj,aI.aj,aR.aj,ay.aj,aD.aj,List.cons_append,List.nil_append];rfl)
   have e5:=h;simp only[fU,iD,iG,if_neg e0,if_neg e1,if_neg hk2,if_neg hk3,if_neg e4,if_neg e5] at hq;rw[hq]
   first|exact⟨aF rfl,rfl⟩|(refine⟨aF ?_,rfl⟩;simp only[bD.v,List.map_cons,List.map_nil,List.map_append,aS.aj,aN.aj,aI.aj,aR.aj,ay.aj,aD.aj,List.cons_append,List.nil_append];rfl)
 |false=>
  simp -implicitDefEqProofs (disch:=omega) only[go_sem,ak,ah];refine aW rfl (q4 _) ?_
  cases p with
  |true=>
   simp -implicitDefEqProofs (disch:=omega) only[go_sem,ak,ah];refine aW rfl (q5 _) ?_;simp -implicitDefEqProofs (disch:=omega) only[go_sem,ak,ah]
   with_reducible refine aC (fun hb=> ?_) (fun hb=> ?_)<;>have h:=hb<;>(try simp only[wf_preprocess] at h)<;>simp -implicitDefEqProofs (disch:=omega) only[go_sem,hb,ak,ah]<;>(repeat(with_reducible refine And.intro ?_ ?_;focus first|omega|rfl|assumption|exact⟨_,rfl,rfl⟩|(simp;omega)|(simp;done)))
   ·subst h;simp only[fU,iD,iG,reduceIte,Int.reduceEq] at hq
    try(simp -implicitDefEqProofs (disch:=omega) only[go_sem,ak,ah])
    rw[hq]
    first|exact⟨aF rfl,rfl⟩|(refine⟨aF ?_,rfl⟩;simp only[bD.v,List.map_cons,List.map_nil,List.map_append,aS.aj,aN.aj,aI.aj,aR.aj,ay.aj,aD.aj,List.cons_append,List.nil_append];rfl)
   have e0:=h
   with_reducible refine aC (fun hb=> ?_) (fun hb=> ?_)<;>have h:=hb<;>(try simp only[wf_preprocess] at h)<;>simp -implicitDefEqProofs (disch:=omega) only[go_sem,hb,ak,ah]<;>(repeat(with_reducible refine And.intro ?_ ?_;focus first|omega|rfl|assumption|exact⟨_,rfl,rfl⟩|(simp;omega)|(simp;done)))
   ·subst h;simp only[fU,iD,iG,reduceIte,Int.reduceEq] at hq;refine cu [true] rfl (dS hB c5 (1+l) j _ Kc (by rw[aH];exact g _) (by decide) (by decide)) ?_;simp -implicitDefEqProofs (disch:=omega) only[go_sem,ak,ah];rw[hq]
    first|exact⟨aF rfl,rfl⟩|(refine⟨aF ?_,rfl⟩;simp only[bD.v,List.map_cons,List.map_nil,List.map_append,aS.aj,aN.aj,aI.aj,aR.aj,ay.aj,aD.aj,List.cons_append,List.nil_append];rfl)
   have e1:=h
   with_reducible refine aC (fun hb=> ?_) (fun hb=> ?_)<;>have h:=hb<;>(try simp only[wf_preprocess] at h)<;>simp -implicitDefEqProofs (disch:=omega) only[go_sem,hb,ak,ah]<;>(repeat(with_reducible refine And.intro ?_ ?_;focus first|omega|rfl|assumption|exact⟨_,rfl,rfl⟩|(simp;omega)|(simp;done)))
   ·exact absurd h hk2
   with_reducible refine aC (fun hb=> ?_) (fun hb=> ?_)<;>have h:=hb<;>(try simp only[wf_preprocess] at h)<;>simp -implicitDefEqProofs (disch:=omega) only[go_sem,hb,ak,ah]<;>(repeat(with_reducible refine And.intro ?_ ?_;focus first|omega|rfl|assumption|exact⟨_,rfl,rfl⟩|(simp;omega)|(simp;done)))
   ·exact absurd h hk3
   with_reducible refine aC (fun hb=> ?_) (fun hb=> ?_)<;>have h:=hb<;>(try simp only[wf_preprocess] at h)<;>simp -implicitDefEqProofs (disch:=omega) only[go_sem,hb,ak,ah]<;>(repeat(with_reducible refine And.intro ?_ ?_;focus first|omega|rfl|assumption|exact⟨_,rfl,rfl⟩|(simp;omega)|(simp;done)))
   ·subst h;simp only[fU,iD,iG,reduceIte,Int.reduceEq] at hq
    (repeat(with_reducible refine And.intro ?_ ?_;focus first|omega|rfl|assumption|exact⟨_,rfl,rfl⟩|(simp;omega)|(simp;done)))
    try(simp -implicitDefEqProofs (disch:=omega) only[go_sem,ak,ah])
    rw[hq]
    first|exact⟨aF rfl,rfl⟩|(refine⟨aF ?_,rfl⟩;simp only[bD.v,List.map_cons,List.map_nil,List.map_append,aS.aj,aN.aj,aI.aj,aR.aj,ay.aj,aD.aj,List.cons_append,List.nil_append];rfl)
   have e4:=h
   with_reducible refine aC (fun hb=> ?_) (fun hb=> ?_)<;>have h:=hb<;>(try simp only[wf_preprocess] at h)<;>simp -implicitDefEqProofs (disch:=omega) only[go_sem,hb,ak,ah,List.getD_cons_zero,List.take_succ_cons,List.take_zero,List.take_nil]<;>(repeat(with_reducible refine And.intro ?_ ?_;focus first|omega|rfl|assumption|exact⟨_,rfl,rfl⟩|(simp;omega)|(simp;done)))
   ·subst h;simp only[fU,iD,iG,reduceIte,Int.reduceEq] at hq
    (repeat(with_reducible refine And.intro ?_ ?_;focus first|omega|rfl|assumption|exact⟨_,rfl,rfl⟩|(simp;omega)|(simp;done)))
    try(refine⟨fun y hy=>(by rw[List.mem_singleton] at hy;subst hy;rfl),?_⟩;(repeat(with_reducible refine And.intro ?_ ?_;focus first|omega|rfl|assumption|exact⟨_,rfl,rfl⟩|(simp;omega)|(simp;done))))
    (repeat(with_reducible refine And.intro ?_ ?_;focus first|omega|rfl|assumption|exact⟨_,rfl,rfl⟩|(simp;omega)|(simp;done)))
    refine⟨by cases l<;>rfl,?_⟩;simp -implicitDefEqProofs (disch:=omega) only[go_sem,ak,ah];rw[hq]
    first|exact⟨aF rfl,rfl⟩|(refine⟨aF ?_,rfl⟩;simp only[bD.v,List.map_cons,List.map_nil,List.map_append,aS.aj,aN.aj,aI.aj,aR.aj,ay.aj,aD.aj,List.cons_append,List.nil_append];rfl)
   have e5:=h;simp only[fU,iD,iG,if_neg e0,if_neg e1,if_neg hk2,if_neg hk3,if_neg e4,if_neg e5] at hq;rw[hq]
   first|exact⟨aF rfl,rfl⟩|(refine⟨aF ?_,rfl⟩;simp only[bD.v,List.map_cons,List.map_nil,List.map_append,aS.aj,aN.aj,aI.aj,aR.aj,ay.aj,aD.aj,List.cons_append,List.nil_append];rfl)
  |false=>
   simp -implicitDefEqProofs (disch:=omega) only[go_sem,ak,ah];refine aW rfl (q5 _) ?_;simp -implicitDefEqProofs (disch:=omega) only[go_sem,ak,ah]
   with_reducible refine aC (fun hb=> ?_) (fun hb=> ?_)<;>have h:=hb<;>(try simp only[wf_preprocess] at h)<;>simp -implicitDefEqProofs (disch:=omega) only[go_sem,hb,ak,ah]<;>(repeat(with_reducible refine And.intro ?_ ?_;focus first|omega|rfl|assumption|exact⟨_,rfl,rfl⟩|(simp;omega)|(simp;done)))
   ·subst h;simp only[fU,iD,iG,reduceIte,Int.reduceEq] at hq
    try(simp -implicitDefEqProofs (disch:=omega) only[go_sem,ak,ah])
    rw[hq]
    first|exact⟨aF rfl,rfl⟩|(refine⟨aF ?_,rfl⟩;simp only[bD.v,List.map_cons,List.map_nil,List.map_append,aS.aj,aN.aj,aI.aj,aR.aj,ay.aj,aD.aj,List.cons_append,List.nil_append];rfl)
   have e0:=h
   with_reducible refine aC (fun hb=> ?_) (fun hb=> ?_)<;>have h:=hb<;>(try simp only[wf_preprocess] at h)<;>simp -implicitDefEqProofs (disch:=omega) only[go_sem,hb,ak,ah]<;>(repeat(with_reducible refine And.intro ?_ ?_;focus first|omega|rfl|assumption|exact⟨_,rfl,rfl⟩|(simp;omega)|(simp;done)))
   ·subst h;simp only[fU,iD,iG,reduceIte,Int.reduceEq] at hq;refine cu [true] rfl (dS hB c5 (1+l) j _ Kc (by rw[aH];exact g _) (by decide) (by decide)) ?_;simp -implicitDefEqProofs (disch:=omega) only[go_sem,ak,ah];rw[hq]
    first|exact⟨aF rfl,rfl⟩|(refine⟨aF ?_,rfl⟩;simp only[bD.v,List.map_cons,List.map_nil,List.map_append,aS.aj,aN.aj,aI.aj,aR.aj,ay.aj,aD.aj,List.cons_append,List.nil_append];rfl)
   have e1:=h
   with_reducible refine aC (fun hb=> ?_) (fun hb=> ?_)<;>have h:=hb<;>(try simp only[wf_preprocess] at h)<;>simp -implicitDefEqProofs (disch:=omega) only[go_sem,hb,ak,ah]<;>(repeat(with_reducible refine And.intro ?_ ?_;focus first|omega|rfl|assumption|exact⟨_,rfl,rfl⟩|(simp;omega)|(simp;done)))
   ·exact absurd h hk2
   with_reducible refine aC (fun hb=> ?_) (fun hb=> ?_)<;>have h:=hb<;>(try simp only[wf_preprocess] at h)<;>simp -implicitDefEqProofs (disch:=omega) only[go_sem,hb,ak,ah]<;>(repeat(with_reducible refine And.intro ?_ ?_;focus first|omega|rfl|assumption|exact⟨_,rfl,rfl⟩|(simp;omega)|(simp;done)))
   ·exact absurd h hk3
   with_reducible refine aC (fun hb=> ?_) (fun hb=> ?_)<;>have h:=hb<;>(try simp only[wf_preprocess] at h)<;>simp -implicitDefEqProofs (disch:=omega) only[go_sem,hb,ak,ah]<;>(repeat(with_reducible refine And.intro ?_ ?_;focus first|omega|rfl|assumption|exact⟨_,rfl,rfl⟩|(simp;omega)|(simp;done)))
   ·subst h;simp only[fU,iD,iG,reduceIte,Int.reduceEq] at hq
    (repeat(with_reducible refine And.intro ?_ ?_;focus first|omega|rfl|assumption|exact⟨_,rfl,rfl⟩|(simp;omega)|(simp;done)))
    try(simp -implicitDefEqProofs (disch:=omega) only[go_sem,ak,ah])
    rw[hq]
    first|exact⟨aF rfl,rfl⟩|(refine⟨aF ?_,rfl⟩;simp only[bD.v,List.map_cons,List.map_nil,List.map_append,aS.aj,aN.aj,aI.aj,aR.aj,ay.aj,aD.aj,List.cons_append,List.nil_append];rfl)
   have e4:=h
   with_reducible refine aC (fun hb=> ?_) (fun hb=> ?_)<;>have h:=hb<;>(try simp only[wf_preprocess] at h)<;>simp -implicitDefEqProofs (disch:=omega) only[go_sem,hb,ak,ah,List.getD_cons_zero,List.take_succ_cons,List.take_zero,List.take_nil]<;>(repeat(with_reducible refine And.intro ?_ ?_;focus first|omega|rfl|assumption|exact⟨_,rfl,rfl⟩|(simp;omega)|(simp;done)))
   ·subst h;simp only[fU,iD,iG,reduceIte,Int.reduceEq] at hq
    (repeat(with_reducible refine And.intro ?_ ?_;focus first|omega|rfl|assumption|exact⟨_,rfl,rfl⟩|(simp;omega)|(simp;done)))
    try(refine⟨fun y hy=>(by rw[List.mem_singleton] at hy;subst hy;rfl),?_⟩;(repeat(with_reducible refine And.intro ?_ ?_;focus first|omega|rfl|assumption|exact⟨_,rfl,rfl⟩|(simp;omega)|(simp;done))))
    (repeat(with_reducible refine And.intro ?_ ?_;focus first|omega|rfl|assumption|exact⟨_,rfl,rfl⟩|(simp;omega)|(simp;done)))
    refine⟨by cases l<;>rfl,?_⟩;simp -implicitDefEqProofs (disch:=omega) only[go_sem,ak,ah];rw[hq]
    first|exact⟨aF rfl,rfl⟩|(refine⟨aF ?_,rfl⟩;simp only[bD.v,List.map_cons,List.map_nil,List.map_append,aS.aj,aN.aj,aI.aj,aR.aj,ay.aj,aD.aj,List.cons_append,List.nil_append];rfl)
   have e5:=h;simp only[fU,iD,iG,if_neg e0,if_neg e1,if_neg hk2,if_neg hk3,if_neg e4,if_neg e5] at hq;rw[hq]
   first|exact⟨aF rfl,rfl⟩|(refine⟨aF ?_,rfl⟩;simp only[bD.v,List.map_cons,List.map_nil,List.map_append,aS.aj,aN.aj,aI.aj,aR.aj,ay.aj,aD.aj,List.cons_append,List.nil_append];rfl)
theorem UD{bs:List Int}(hB:Bytes bs)(c:Cu bs)(l j:Nat)(S:Store)(hk:bn S (l,j)=some (.box (cur c))):
 bY prog 101 [.c (.ptr (l,j) 0)] S (fun r S1=>r=(xI c).1.v/\S1=aY S (l,j) (.box (cur (xI c).2))):=by
 unfold xI;generalize hk0:(aT 12 (bU 3 (bU 2 (bU 3 (bR lH c).2).2).2).2).1=k;generalize ho0:(bU 2 (bU 3 (bR lH c).2).2).1=o;by_cases h23:k=2\/k=3
 ·cases o with
  |true=>exact Yw hB c _ _ _ _ _ _ _ _ _ _ l j S hk rfl rfl (Prod.ext ho0 rfl) rfl (Prod.ext hk0 rfl) rfl h23
  |false=>exact Yx hB c _ _ _ _ _ _ _ _ _ _ l j S hk rfl rfl (Prod.ext ho0 rfl) rfl (Prod.ext hk0 rfl) rfl h23
 ·exact Yy hB c _ _ _ _ _ _ _ _ _ _ l j S hk rfl rfl (Prod.ext ho0 rfl) rfl (Prod.ext hk0 rfl) (fun e=>h23 (.inl e)) (fun e=>h23 (.inr e))
end Go.Ab