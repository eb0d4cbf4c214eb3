/-
  SEVERAL TEXTS IN ONE (merged by program): contracts and models, each with its own heading.
-/
import Derived.Test.YtcfhnaohbaplhaaGreatDoorPartTpbA
import Derived.StillTail
import Derived.Carry
import Derived.WideKeyArgs
import Derived.ProofKit
import Derived.OpenShut
import Derived.WalkKit
set_option linter.unusedSimpArgs false
set_option linter.unusedVariables false
namespace Go.Ab
def nV:List V→Nat→List (Nat×V)
 |[],_=>[]
 |v::vs,i=>(i,v)::nV vs (i+1)
def C.ret:C→Option C
 | .bI (0,_) es=>some (.d (.sl es))
 |c=>c.down 1
def CZ(y:Bool×List C):Option (Bool×List C):=(y.2.mapM C.ret).map fun cs=>(y.1,cs)
def V.ret:V→Option V
 | .c x=>(x.ret).map .c
 | .agg cs=>(cs.mapM C.ret).map .agg
 | .iE xs=>(xs.mapM CZ).map .iE
 | .any=>some .any
def uf(P:Program)(s:St):ResultVar→R
 | .tmp t=>(True,look s.tm t)
 | .cell a t=>wV P s.st t (look s.tm a)
def Fx:V→Option (Bool×List C)
 | .c x=>some (false,[x])
 | .agg cs=>some (true,cs)
 |_=>none
def nH(P:Program)(s:St):List ResultVar→Prop×Option (List (Bool×List C))
 |[]=>(True,some [])
 |x::xs=>((uf P s x).1∧(nH P s xs).1,(Fx (uf P s x).2).bind fun y=>(nH P s xs).2.map fun ys=>y::ys)
def qE(P:Program)(rs:List ResultVar)(s:St):R:=
 match rs with
 |[x]=>uf P s x
 |xs=>match(nH P s xs).2 with
  |some ys=>((nH P s xs).1,.iE ys)
  |none=>no
def Wl(P:Program)(rs:List ResultVar)(post:V→Store→Prop)(e:Exit)(s:St):Prop:=
 match e with
 | .normal| .ret=>(qE P rs s).1∧match(qE P rs s).2.ret with
   |some r=>post r (fK s.st)
   |none=>False
 |_=>False
section
variable {P:Program} {w w':World} {σ σ':Nat→Nat} {S:Store} {β β':Hs} {N:Nat} {s:St} {a:Act}
theorem LV{cs:List C}{vs:List Value}(n:Nat)(h:gy w σ (S.drop n) (β.drop n) cs vs):gy w σ S β (cs.map (C.up n)) vs:=
 ⟨by simpa using h.1,fun j x hx=>by
   rw[List.getElem?_map] at hx
   cases hc:cs[j]? with
   |none=>rw[hc] at hx;cases hx
   |some y=>
    rw[hc] at hx;cases hx
    obtain⟨v,hv,hr,ho⟩:=h.2 j y hc
    exact⟨v,hv,hr.up n,ho⟩⟩
theorem H8{x:V}{v:Value}(n:Nat)(h:dF w σ (S.drop n) (β.drop n) x v):dF w σ S β (x.up n) v:=by
 cases x with
 |c x=>exact⟨h.1.up n,h.2⟩
 |agg cs=>obtain⟨ar,ha,hc⟩:=h;exact⟨ar,ha,LV n hc⟩
 |iE xs=>
  obtain⟨ar,ha,hl,h2⟩:=h
  refine⟨ar,ha,by simpa using hl,fun j y hy=> ?_⟩
  rw[List.getElem?_map] at hy
  cases hc:xs[j]? with
  |none=>rw[hc] at hy;cases hy
  |some z=>
   rw[hc] at hy;cases hy
   obtain⟨u,hu,h3⟩:=h2 j z hc
   refine⟨u,hu,?_⟩
   obtain⟨b,cs⟩:=z
   cases b with
   |true=>obtain⟨a',e,hcs⟩:=h3;exact⟨a',e,LV n hcs⟩
   |false=>obtain⟨x,e,hx,ho⟩:=h3;subst e;exact⟨_,rfl,hx.up n,ho⟩
 |any=>exact trivial
theorem Ei{c c':C}{v:Value}(h:c.ret=some c')(hc:je w σ S β c v):je w σ (S.drop 1) (β.drop 1) c' v:=by
 unfold C.ret at h
 split at h
 ·cases h;exact hc.1
 ·exact Lx h hc
theorem Jw{xs ys:List C}{vs:List Value}(h:xs.mapM C.ret=some ys)(hc:gy w σ S β xs vs):gy w σ (S.drop 1) (β.drop 1) ys vs:=by
 induction xs generalizing ys vs with
 |nil=>simp at h;subst h;exact⟨hc.1,fun j d hd=>by simp at hd⟩
 |cons x xs ih=>
  rw[List.mapM_cons] at h
  cases hd:C.ret x with
  |none=>rw[hd] at h;simp at h
  |some y=>
   cases hm:xs.mapM C.ret with
   |none=>rw[hd,hm] at h;simp at h
   |some ys'=>
    rw[hd,hm] at h
    simp at h
    subst h
    cases vs with
    |nil=>have:=hc.1;simp at this
    |cons v vs=>
     obtain⟨l,r⟩:=ih hm (vs:=vs) ⟨by have:=hc.1;simpa using this,fun j y hy=>hc.2 (j+1) y hy⟩
     refine⟨by simp[l],fun j e he=> ?_⟩
     cases j with
     |zero=>
      simp at he;subst he
      obtain⟨u,hu,hr,ho⟩:=hc.2 0 x rfl
      simp at hu;subst hu
      exact⟨v,rfl,Ei hd hr,ho⟩
     |succ j=>exact r j e he
theorem LW{α γ:Type}(f:α→Option γ):∀(xs:List α) (ys:List γ),xs.mapM f=some ys→ys.length=xs.length∧∀(j:Nat) (y:γ),ys[j]? =some y→∃x,xs[j]? =some x∧f x=some y
 |[],ys,h=>by simp at h;subst h;exact⟨rfl,fun j y hy=>by simp at hy⟩
 |x::xs,ys,h=>by
  rw[List.mapM_cons] at h
  cases hd:f x with
  |none=>rw[hd] at h;simp at h
  |some y=>
   cases hm:xs.mapM f with
   |none=>rw[hd,hm] at h;simp at h
   |some ys'=>
    rw[hd,hm] at h
    simp at h
    subst h
    obtain⟨l,r⟩:=LW f xs ys' hm
    refine⟨by simp[l],fun j e he=> ?_⟩
    cases j with
    |zero=>simp at he;subst he;exact⟨x,rfl,hd⟩
    |succ j=>exact r j e he
theorem LX{x y:V}{v:Value}(h:x.ret=some y)(hx:dF w σ S β x v):dF w σ (S.drop 1) (β.drop 1) y v:=by
 cases x with
 |c x=>
  simp only[V.ret] at h
  cases hc:x.ret with
  |none=>rw[hc] at h;cases h
  |some c=>rw[hc] at h;cases h;exact⟨Ei hc hx.1,hx.2⟩
 |agg cs=>
  simp only[V.ret] at h
  cases hc:cs.mapM C.ret with
  |none=>rw[hc] at h;cases h
  |some c=>rw[hc] at h;cases h;obtain⟨ar,ha,h2⟩:=hx;exact⟨ar,ha,Jw hc h2⟩
 |iE xs=>
  simp only[V.ret] at h
  cases hc:xs.mapM CZ with
  |none=>rw[hc] at h;cases h
  |some ys=>
   rw[hc] at h;cases h
   obtain⟨ar,ha,hl,h2⟩:=hx
   obtain⟨l,r⟩:=LW _ _ _ hc
   refine⟨ar,ha,by rw[l];exact hl,fun j y hy=> ?_⟩
   obtain⟨z,hz,hzy⟩:=r j y hy
   obtain⟨u,hu,h3⟩:=h2 j z hz
   refine⟨u,hu,?_⟩
   obtain⟨b,cs⟩:=z
   simp only[CZ] at hzy
   cases hm:cs.mapM C.ret with
   |none=>rw[hm] at hzy;cases hzy
   |some cs'=>
    rw[hm] at hzy;cases hzy
    cases b with
    |true=>obtain⟨a',e,hcs⟩:=h3;exact⟨a',e,Jw hm hcs⟩
    |false=>
     obtain⟨x,e,hx,ho⟩:=h3
     subst e
     rw[List.mapM_cons] at hm
     cases hx':C.ret x with
     |none=>rw[hx'] at hm;simp at hm
     |some x'=>
      rw[hx'] at hm
      simp at hm
      exact⟨x',hm.symm,Ei hx' hx,ho⟩
 |any=>cases h;exact trivial
theorem Qe{x:ResultVar}(hR:jM N s a w σ β)(h:(uf P s x).1):
 ∃v,(match x with| .tmp t=>pure (a.tmps.getD t undef)| .cell b t=>do loadVar t (←asAddr (a.tmps.getD b undef)):Sem Value).run P w=.ok v w∧dF w σ s.st β (uf P s x).2 v:=by
 cases x with
 |tmp t=>exact⟨_,rfl,hR.T t⟩
 |cell b t=>
  obtain⟨v,hrun,hv⟩:=Jl (P:=P) (t:=t) hR.S (hR.T b) h
  refine⟨v,?_,hv⟩
  show(do loadVar t (←asAddr (a.tmps.getD b undef)):Sem Value).run P w=.ok v w
  generalize a.tmps.getD b undef=bv at hrun ⊢
  cases bv with
  |pointer o=>
   cases o with
   |none=>simp[Instr.loadAt,Instr.sureAddr] at hrun
   |some ad=>simpa [Instr.loadAt,Instr.sureAddr,asAddr] using hrun
  |_=>simp[Instr.loadAt,Instr.sureAddr] at hrun
theorem Wm{x:V}{y:Bool×List C}{v:Value}(h:Fx x=some y)(hx:dF w σ S β x v):Ht w σ S β y v:=by
 cases x with
 |c x=>cases h;exact⟨x,rfl,hx.1,hx.2⟩
 |agg cs=>cases h;exact hx
 |iE=>cases h
 |any=>cases h
theorem Qf(hR:jM N s a w σ β):∀(xs:List ResultVar) (ys:List (Bool×List C)),(nH P s xs).1→(nH P s xs).2=some ys→
 ∃vs:List Value,(xs.mapM fun x=>(match x with| .tmp t=>pure (a.tmps.getD t undef)| .cell b t=>do loadVar t (←asAddr (a.tmps.getD b undef)):Sem Value)).run P w=.ok vs w∧ys.length=vs.length∧
  ∀(j:Nat) (y:Bool×List C),ys[j]? =some y→∃u,vs[j]? =some u∧Ht w σ s.st β y u
 |[],ys,_,h=>by simp only[nH] at h;cases h;exact⟨[],by simp,rfl,fun j y hy=>by simp at hy⟩
 |x::xs,ys,h1,h2=>by
  simp only[nH] at h1 h2
  cases hc:Fx (uf P s x).2 with
  |none=>rw[hc] at h2;cases h2
  |some y=>
   cases hr:(nH P s xs).2 with
   |none=>rw[hc,hr] at h2;cases h2
   |some ys'=>
    rw[hc,hr] at h2;cases h2
    obtain⟨v,hv,hrep⟩:=Qe (P:=P) (x:=x) hR h1.1
    obtain⟨vs,hvs,hl,hj⟩:=Qf hR xs ys' h1.2 hr
    refine⟨v::vs,?_,by simp[hl],fun j z hz=> ?_⟩
    ·rw[List.mapM_cons]
     simp only[Sem.run_bind,Result.andThen_ok,Sem.run_pure]
     rw[hv]
     simp only[Result.andThen_ok]
     rw[hvs];rfl
    ·cases j with
     |zero=>simp at hz;subst hz;exact⟨v,rfl,Wm hc hrep⟩
     |succ j=>exact hj j z hz
theorem Jy{fn:Func}(hR:jM N s a w σ β)(h:(qE P fn.results.toList s).1):∃v,(results fn a.tmps).run P w=.ok v w∧dF w σ s.st β (qE P fn.results.toList s).2 v:=by
 have hres:fn.results=fn.results.toList.toArray:=by simp
 have hrun:∀vs:List Value,(fn.results.toList.mapM fun x=>(match x with| .tmp t=>pure (a.tmps.getD t undef)| .cell b t=>do loadVar t (←asAddr (a.tmps.getD b undef)):Sem Value)).run P w=.ok vs w→
  (results fn a.tmps).run P w=.ok (if h:vs.toArray.size=1 then vs.toArray[0] else .tuple vs.toArray) w:=by
  intro vs hvs
  unfold results
  rw[hres,List.mapM_toArray]
  simp only[Sem.run_bind,Sem.run_map]
  have:(fun x=>(match x with| .tmp t=>pure (a.tmps.getD t undef)| .cell b t=>do loadVar t (←asAddr (a.tmps.getD b undef)):Sem Value))=fun(x:ResultVar)=>(match x with| .tmp t=>pure (a.tmps.getD t undef)| .cell b t=>do loadVar t (←asAddr (a.tmps.getD b undef)):Sem Value):=rfl
  erw [hvs]
  rfl
 unfold qE at h ⊢
 split at h
 ·rename_i x hx
  rw[hx] at hrun
  obtain⟨v,hv,hrep⟩:=Qe (P:=P) (x:=x) hR h
  refine⟨v,?_,hrep⟩
  have:=hrun [v] (by
   rw[List.mapM_cons]
   simp only[Sem.run_bind,List.mapM_nil,Result.andThen_ok,Sem.run_pure]
   rw[hv];rfl)
  simpa using this
 ·rename_i hne
  split at h
  ·rename_i ys hys
   obtain⟨vs,hvs,hl,hj⟩:=Qf (P:=P) hR _ ys h hys
   have h1:=hrun vs hvs
   have hlen:¬(vs.toArray.size=1):=by
    intro e
    have hl2:ys.length=fn.results.toList.length:=by
     clear hj hvs h1 hrun hne e hl h
     generalize fn.results.toList=l at hys
     induction l generalizing ys with
     |nil=>simp only[nH] at hys;cases hys;rfl
     |cons x xs ih=>
      simp only[nH] at hys
      cases hc:Fx (uf P s x).2 with
      |none=>rw[hc] at hys;cases hys
      |some y=>
       cases hr:(nH P s xs).2 with
       |none=>rw[hc,hr] at hys;cases hys
       |some ys'=>rw[hc,hr] at hys;cases hys;simp[ih ys' hr]
    simp at e
    have:fn.results.toList.length=1:=by omega
    obtain⟨x,hx⟩:=List.length_eq_one_iff.1 this
    exact hne x hx
   rw[dif_neg hlen] at h1
   exact⟨_,h1,vs.toArray,rfl,by simpa using hl,fun j y hy=>by simpa using hj j y hy⟩
  ·exact h.elim
theorem eF.YW{own:List Obj}{Ω:Store}{bo:List Value}{bΩ:Hs}(h:eF w σ (own::Ω) (bo::bΩ)):eF w σ Ω bΩ:=by
 refine⟨fun k o ho=> ?_,fun k k' o o' h1 h2 b e1 e2 e3 e4 e5 e6=> ?_,⟨by have:=h.shape.1;simpa using this,fun l fr hl=>h.shape.2 (l+1) fr hl⟩,h.live,h.rO⟩
 ·obtain⟨l,j⟩:=k
  obtain⟨hv,hh,hr⟩:=h.obj (l+1,j) o (by rw[dn];exact ho)
  rw[dn] at hh
  exact⟨hv,hh,hr⟩
 ·obtain⟨l,j⟩:=k
  obtain⟨l',j'⟩:=k'
  have:=h.apart (l+1,j) (l'+1,j') o o' h1 h2 b (by rw[dn];exact e1) (by rw[dn];exact e2) e3 (by rw[dn];exact e4) (by rw[dn];exact e5) e6
  cases this;rfl
theorem eF.up1(h:eF w σ S β):eF w σ ([]::S) ([]::β):=by
 refine⟨fun k o ho=> ?_,fun k k' o o' h1 h2 b e1 e2 e3 e4 e5 e6=> ?_,⟨by simp[h.shape.1],fun l fr hl=> ?_⟩,h.live,h.rO⟩
 ·obtain⟨l,j⟩:=k
  cases l with
  |zero=>rw[bP] at ho;simp at ho
  |succ l=>
   rw[dn] at ho
   obtain⟨hv,hh,hr⟩:=h.obj (l,j) o ho
   exact⟨hv,by rw[dn];exact hh,hr⟩
 ·obtain⟨l,j⟩:=k
  obtain⟨l',j'⟩:=k'
  cases l with
  |zero=>rw[bP] at e1;simp at e1
  |succ l=>
   cases l' with
   |zero=>rw[bP] at e4;simp at e4
   |succ l'=>
    rw[dn] at e1 e2 e4 e5
    have:=h.apart (l,j) (l',j') o o' h1 h2 b e1 e2 e3 e4 e5 e6
    cases this;rfl
 ·cases l with
  |zero=>simp at hl;subst hl;exact⟨[],rfl,rfl⟩
  |succ l=>exact h.shape.2 l fr hl
theorem C8{b:Nat}(h:Own ([]::S) ([]::β) b):Own S β b:=by
 obtain⟨⟨l,j⟩,o,hv,h1,h2,h3⟩:=h
 cases l with
 |zero=>rw[bP] at h1;simp at h1
 |succ l=>rw[dn] at h1 h2;exact⟨(l,j),o,hv,h1,h2,h3⟩
theorem Jz{own:List Obj}{Ω:Store}{bo:List Value}{bΩ:Hs}{b:Nat}(h:Own Ω bΩ b):Own (own::Ω) (bo::bΩ) b:=by
 obtain⟨⟨l,j⟩,o,hv,h1,h2,h3⟩:=h
 exact⟨(l+1,j),o,hv,by rw[dn];exact h1,by rw[dn];exact h2,h3⟩
theorem Ag:∀(args:List V) (i t:Nat),look (nV args i) t=if i≤t then(args[t-i]?).getD .any else .any
 |[],i,t=>by simp[nV,look]
 |v::args,i,t=>by
  rw[nV,look,Ag args (i+1) t]
  by_cases h1:i=t
  ·subst h1;simp
  ·rw[if_neg h1]
   by_cases h2:i+1≤t
   ·rw[if_pos h2,if_pos (by omega)]
    rw[show t-i=(t-(i+1))+1 from by omega]
    rfl
   ·rw[if_neg h2,if_neg (by omega)]
theorem vF{f:FuncId}{fn:Func}{c:Code}{args:List V}{post:V→Store→Prop}(hf:P.funcs[f]? =some fn)(hb:fn.body=some c)(hn:(fn.name== "runtime.NumGoroutine")=false)
 (hl:args.length≤fn.ntmps) (h:AW P fn.ntmps c (Wl P fn.results.toList post) ⟨nV (args.map (V.up 1)) 0,[]::S⟩):dG P f args S post:=by
 refine⟨⟨fn,hf,hn,by simp[hb]⟩,fun w σ β vs hS hargs=> ?_⟩
 refine calls_of_wp hf hb ?_
 have hlen:vs.length=args.length:=hargs.1.symm
 have Wn:jM fn.ntmps ⟨nV (args.map (V.up 1)) 0,[]::S⟩ {tmps:=vs.toArray++Array.replicate (fn.ntmps-vs.toArray.size) undef,defers:=[]} w σ ([]::β):=by
  refine⟨by simp;omega,rfl,hS.up1,fun t=> ?_⟩
  show dF w σ ([]::S) ([]::β) (look (nV (args.map (V.up 1)) 0) t) _
  rw[Ag,if_pos (Nat.zero_le _),Nat.sub_zero,List.getElem?_map]
  cases ha:args[t]? with
  |none=>exact trivial
  |some x=>
   obtain⟨v,hv,hr⟩:=hargs.2 t x ha
   have ht:=(List.getElem?_eq_some_iff.1 hv).1
   have:(vs.toArray++Array.replicate (fn.ntmps-vs.toArray.size) undef).getD t undef=v:=by
    rw[Array.getD_eq_getD_getElem?,Array.getElem?_append_left (by simpa using ht)]
    simp[hv]
   rw[this]
   exact H8 (S:=[]::S) (β:=[]::β) 1 hr
 refine wp_mono (h _ w σ ([]::β) Wn) ?_
 rintro e a' w' ⟨s',σ',β',hR,hst,hkp,hq⟩
 have main:(qE P fn.results.toList s').1∧(match(qE P fn.results.toList s').2.ret with|some r=>post r (fK s'.st)|none=>False)→
  a'.defers=[]∧∃v,(results fn a'.tmps).run P w'=.ok v w'∧∃v_1 r S' σ' β',Ending.returned v=Ending.returned v_1∧eF w' σ' S' β'∧Keep S β S' β'∧Step S β σ w S' β' σ' w'∧dF w' σ' S' β' r v_1∧post r S':=by
  rintro⟨q1,q2⟩
  obtain⟨v,hv,hrep⟩:=Jy (fn:=fn) hR q1
  split at q2
  ·rename_i r hr
   obtain⟨tm,st⟩:=s'
   have acz:=LX hr hrep
   refine⟨hR.defers,v,hv,v,r,fK st,σ',fK β',rfl,?_,hkp,?_,acz,q2⟩
   ·cases st with
    |nil=>
     cases β' with
     |nil=>exact hR.S
     |cons=>have:=hR.S.shape.1;simp at this
    |cons own Ω=>
     cases β' with
     |nil=>have:=hR.S.shape.1;simp at this
     |cons bo bΩ=>exact hR.S.YW
   ·refine⟨hst.size,hst.os,hst.output,fun b hb ho=>hst.far b hb (fun x=>ho (C8 x)),hst.near,fun b hb=> ?_⟩
    cases st with
    |nil=>obtain⟨k,o,hv,h1,_⟩:=hb;simp[fK,mP] at h1
    |cons own Ω=>
     cases β' with
     |nil=>obtain⟨k,o,hv,h1,h2,_⟩:=hb;simp[fK,mP] at h2
     |cons bo bΩ=>exact(hst.own b (Jz hb)).imp C8 id
  ·exact q2.elim
 cases e with
 |normal=>exact main hq
 |ret=>exact main hq
 |_=>exact hq.elim
end
end Go.Ab
namespace Go.Ab
def oN:Op→Bool
 | .alloc _=>true
 | .box _ _=>true
 | .store _ _ _=>true
 | .makeSlice _ _ _=>true
 | .makeMap _ none=>true
 | .mapUpdate _ _ _ _=>true
 | .call {callee:=.builtin .append,args:=_,argTypes:=_}=>true
 |_=>false
def xC:Op→Bool
 | .store _ _ _=>true
 | .mapUpdate _ _ _ _=>true
 |_=>false
def ku:Op→Bool
 | .call {callee:=.value _,args:=_,argTypes:=_}=>true
 |_=>false
abbrev Md:=Op→Nat
def eZ(E:Md)(op:Op):Bool:=oN op||(decide (1≤E op)&&ku op)
def lK(E:Md)(op:Op):Bool:=xC op||(decide (2≤E op)&&ku op)
theorem Wo{E:Md}{op:Op}(h:oN op=true):eZ E op=true:=by simp[eZ,h]
theorem TY{E:Md}{op:Op}(h:lK E op=true):eZ E op=true:=by
 unfold lK eZ at *
 rw[Bool.or_eq_true] at h ⊢
 refine h.imp (fun hs=> ?_) (fun h=> ?_)
 ·cases op<;>first|rfl|simp[xC] at hs
 ·rw[Bool.and_eq_true,decide_eq_true_eq] at h ⊢
  exact⟨by omega,h.2⟩
def DS(S S':Store):Prop:=∀k o,bL S k=some o→bL S' k=some o∨((∃z es,pq o z es)∧∃o' z es,bL S' k=some o'∧pq o' z es)
def Ah(P:Program)(tm:List (Nat×V))(c:Call)(r:V):Prop:=
 match c.callee with
 | .value x=>match ev tm x with
   | .c (.fn f caps)=>aD P f (c.args.toList.map (ev tm)++caps.map fun y=>.c (.ptr y.1 y.2)) r
   |_=>False
 |_=>False
def eU(P:Program)(E:Md)(o:Oper)(s:St)(K:St→Prop):Prop:=
 if oN o.op then dQ P o s K else
 match o.op with
 | .call {callee:=.value x,args,argTypes}=>match E (.call {callee:=.value x,args,argTypes}) with
   |0=>∃r,Ah P s.tm {callee:=.value x,args,argTypes} r∧K (s.put o.dst r)
   |1=>∃S' v,DS s.st S'∧dQ P o s (fun t=>t=St.put ⟨s.tm,S'⟩ o.dst v)∧K (St.put ⟨s.tm,S'⟩ o.dst v)
   |_=>∃S' v,dQ P o s (fun t=>t=St.put ⟨s.tm,S'⟩ o.dst v)∧K (St.put ⟨s.tm,S'⟩ o.dst v)
 |op=>(nval P s.st s.tm op).1∧K (s.put o.dst (nval P s.st s.tm op).2)
def qz(P:Program)(E:Md)(R:Array Oper)(o:Oper)(s:St)(K:St→Prop):Prop:=
 match o.guard with
 |none=>eU P E o s K
 |some (j,want)=>
  match(fC R j).map (look s.tm) with
  |some (.c (.d (.b x)))=>(x=want→eU P E o s K)∧(x= !want→K (s.put o.dst (.iE [])))
  |some (.iE [])=>K (s.put o.dst (.iE []))
  |_=>False
def qF(P:Program)(E:Md)(R:Array Oper):List Oper→St→(St→Prop)→Prop
 |[],s,K=>K s
 |o::os,s,K=>qz P E R o s fun s'=>qF P E R os s' K
def NV(P:Program)(S:Store)(tm:List (Nat×V))(op:Op)(v:V):Prop:=
 (∃c,op=.call c∧Ah P tm c v)∨((nval P S tm op).1∧v=(nval P S tm op).2)
def gd(R:Array Oper)(o:Oper)(tm:List (Nat×V)):Option Bool:=
 match o.guard with
 |none=>some true
 |some (j,want)=>
  match(fC R j).map (look tm) with
  |some (.c (.d (.b x)))=>some (x==want)
  |some (.iE [])=>some false
  |_=>none
def ng(P:Program)(E:Md)(R:Array Oper)(o:Oper)(s:St)(v:V)(s':St):Prop:=
 (gd R o s.tm=some false∧v=.iE []∧s'=s.put o.dst v)∨
 (gd R o s.tm=some true∧eZ E o.op=false∧NV P s.st s.tm o.op v∧s'=s.put o.dst v)∨
 (gd R o s.tm=some true∧eZ E o.op=true∧dQ P o s (fun t=>t=s')∧s'=St.put ⟨s.tm,s'.st⟩ o.dst v∧(oN o.op=false→lK E o.op=false→DS s.st s'.st))
section
variable {P:Program} {w w':World} {σ σ':Nat→Nat} {S S':Store} {β β':Hs} {N:Nat} {s:St} {a:Act}
theorem qP{dst:Option Nat}{o:Obj}{mk:Key→V}{K:St→Prop}(h:newObj s dst o mk K):∃S' v,newObj s dst o mk (fun t=>t=St.put ⟨s.tm,S'⟩ dst v)∧K (St.put ⟨s.tm,S'⟩ dst v):=by
 unfold newObj at h ⊢
 split at h
 ·rename_i own Ω hst
  exact⟨_,_,rfl,h⟩
 ·exact h.elim
theorem Zo{l:Option Nat}{es x:List (List D)}{z:Nat}{dst:Option Nat}{K:St→Prop}(h:xP l es s dst z x K):∃S' v,xP l es s dst z x (fun t=>t=St.put ⟨s.tm,S'⟩ dst v)∧K (St.put ⟨s.tm,S'⟩ dst v):=by
 cases l with
 |none=>exact qP (o:=.tok z x) (mk:=fun k=>.c (.bI k x)) h
 |some n=>
  cases es with
  |nil=>exact⟨s.st,_,rfl,h⟩
  |cons y es=>exact qP (o:=.tok z x) (mk:=fun k=>.c (.bI k x)) h
theorem Zp{b:Bool}{n:Nat}{x:List (List D)}{z:Nat}{dst:Option Nat}{K:St→Prop}(h:za b n s dst z x K):∃S' v,za b n s dst z x (fun t=>t=St.put ⟨s.tm,S'⟩ dst v)∧K (St.put ⟨s.tm,S'⟩ dst v):=by
 cases b with
 |false=>exact qP (o:=.eB n z x) (mk:=fun k=>.c (.bI k x)) h
 |true=>exact⟨s.st,_,rfl,h⟩
theorem Wp{o:Oper}{K:St→Prop}(hD:oN o.op=true)(h:dQ P o s K):∃S' v,dQ P o s (fun t=>t=St.put ⟨s.tm,S'⟩ o.dst v)∧K (St.put ⟨s.tm,S'⟩ o.dst v):=by
 obtain⟨dst,op,ty,pos,after,guard⟩:=o
 cases op with
 |alloc t=>
  simp only[dQ,qM] at h ⊢
  split at h
  ·exact qP h
  ·exact h.elim
 |box t x=>
  simp only[dQ,xO] at h ⊢
  split at h
  ·exact qP h
  ·exact h.elim
 |makeSlice t l c=>
  simp only[dQ,tX] at h ⊢
  split at h
  ·split at h
   ·obtain⟨h1,h2,h3,h4,h5,h6⟩:=h
    obtain⟨S',v,k1,k2⟩:=qP h6
    exact⟨S',v,⟨h1,h2,h3,h4,h5,k1⟩,k2⟩
   ·exact h.elim
  ·exact h.elim
 |store t x y=>
  simp only[dQ,qN] at h ⊢
  split at h
  ·split at h
   ·obtain⟨h1,h2,h3,h4⟩:=h
    exact⟨_,_,⟨h1,h2,h3,rfl⟩,h4⟩
   ·exact h.elim
  ·split at h
   ·obtain⟨h1,h2,h3,h4,h5⟩:=h
    exact⟨_,_,⟨h1,h2,h3,h4,rfl⟩,h5⟩
   ·exact h.elim
  ·split at h
   ·split at h
    ·split at h
     ·obtain⟨h1,h2,h3,h4,h5,h6⟩:=h
      exact⟨_,_,⟨h1,h2,h3,h4,h5,rfl⟩,h6⟩
     ·exact h.elim
    ·exact h.elim
   ·exact h.elim
  ·exact h.elim
 |makeMap t r=>
  cases r with
  |none=>
   simp only[dQ,qw] at h ⊢
   exact qP h
  |some r=>simp[oN] at hD
 |mapUpdate t x y z=>
  simp only[dQ,qx] at h ⊢
  split at h
  ·split at h
   ·exact⟨_,_,rfl,h⟩
   ·exact h.elim
  ·exact h.elim
 |call c=>
  obtain⟨xQ,args,tZ⟩:=c
  cases xQ with
  |builtin b=>
   cases b with
   |append=>
    simp only[dQ,mH] at h ⊢
    split at h
    ·simp only[qy] at h ⊢
     split at h
     ·obtain⟨h1,h2,h3,h4⟩:=h
      split at h4
      ·split at h4
       ·obtain⟨k1,k2,k3,k4⟩:=h4
        exact⟨_,_,⟨h1,h2,h3,k1,k2,k3,rfl⟩,k4⟩
       ·obtain⟨k1,k2,k3,k4⟩:=h4
        exact⟨_,_,⟨h1,h2,h3,k1,k2,k3,rfl⟩,k4⟩
       ·exact h4.elim
      ·obtain⟨k1,k2,k3⟩:=h4
       obtain⟨S',v,l1,l2⟩:=Zo k3
       exact⟨S',v,⟨h1,h2,h3,k1,k2,l1⟩,l2⟩
      ·obtain⟨k1,k2,k3⟩:=h4
       obtain⟨S',v,l1,l2⟩:=Zp k3
       exact⟨S',v,⟨h1,h2,h3,k1,k2,l1⟩,l2⟩
      ·exact h4.elim
     ·exact h.elim
    ·exact h.elim
   |_=>simp[oN] at hD
  |_=>simp[oN] at hD
 |_=>simp[oN] at hD
theorem T9{tm tm':List (Nat×V)}{dst:Option Nat}{o:Obj}{mk:Key→V}{v:V}(h:newObj ⟨tm,S⟩ dst o mk (fun t=>t=St.put ⟨tm,S'⟩ dst v))(hd:dst≠none):
 newObj ⟨tm',S⟩ dst o mk (fun t=>t=St.put ⟨tm',S'⟩ dst v):=by
 unfold newObj at h ⊢
 cases S with
 |nil=>exact h
 |cons own Ω=>
  cases dst with
  |none=>exact absurd rfl hd
  |some d=>
   simp only[St.put,St.mk.injEq,List.cons.injEq,Prod.mk.injEq,and_true,true_and] at h ⊢
   exact h
theorem Q8{tm tm':List (Nat×V)}{o:Obj}{mk:Key→V}{v:V}(h:newObj ⟨tm,S⟩ none o mk (fun t=>t=St.put ⟨tm,S'⟩ none v)):
 newObj ⟨tm',S⟩ none o mk (fun t=>t=St.put ⟨tm',S'⟩ none v):=by
 unfold newObj at h ⊢
 cases S with
 |nil=>exact h
 |cons own Ω=>
  simp only[St.put,St.mk.injEq,true_and] at h ⊢
  exact h
theorem pJ{tm tm':List (Nat×V)}{dst:Option Nat}{o:Obj}{mk:Key→V}{v:V}(h:newObj ⟨tm,S⟩ dst o mk (fun t=>t=St.put ⟨tm,S'⟩ dst v)):
 newObj ⟨tm',S⟩ dst o mk (fun t=>t=St.put ⟨tm',S'⟩ dst v):=by
 cases dst with
 |none=>exact Q8 h
 |some d=>exact T9 h (by simp)
theorem rU{tm tm':List (Nat×V)}{dst:Option Nat}{S1 S2:Store}{v v':V}(h:St.put ⟨tm,S1⟩ dst v=St.put ⟨tm,S2⟩ dst v'):St.put ⟨tm',S1⟩ dst v=St.put ⟨tm',S2⟩ dst v':=by
 cases dst with
 |none=>simp only[St.put,St.mk.injEq,true_and] at h ⊢;exact h
 |some d=>simp only[St.put,St.mk.injEq,List.cons.injEq,Prod.mk.injEq,and_true,true_and] at h ⊢;exact h
theorem Wq{l:Option Nat}{es x:List (List D)}{z:Nat}{tm tm':List (Nat×V)}{dst:Option Nat}{v:V}(h:xP l es ⟨tm,S⟩ dst z x (fun t=>t=St.put ⟨tm,S'⟩ dst v)):
 xP l es ⟨tm',S⟩ dst z x (fun t=>t=St.put ⟨tm',S'⟩ dst v):=by
 cases l with
 |none=>exact pJ (o:=.tok z x) (mk:=fun k=>.c (.bI k x)) h
 |some n=>
  cases es with
  |nil=>exact rU h
  |cons y es=>exact pJ (o:=.tok z x) (mk:=fun k=>.c (.bI k x)) h
theorem Ws{b:Bool}{n:Nat}{x:List (List D)}{z:Nat}{tm tm':List (Nat×V)}{dst:Option Nat}{v:V}(h:za b n ⟨tm,S⟩ dst z x (fun t=>t=St.put ⟨tm,S'⟩ dst v)):
 za b n ⟨tm',S⟩ dst z x (fun t=>t=St.put ⟨tm',S'⟩ dst v):=by
 cases b with
 |false=>exact pJ (o:=.eB n z x) (mk:=fun k=>.c (.bI k x)) h
 |true=>exact rU h
theorem Wt{o:Oper}{tm tm':List (Nat×V)}{v:V}(hD:oN o.op=true)(he:∀x∈o.op.operands,ev tm x=ev tm' x)(h:dQ P o ⟨tm,S⟩ (fun t=>t=St.put ⟨tm,S'⟩ o.dst v)):
 dQ P o ⟨tm',S⟩ (fun t=>t=St.put ⟨tm',S'⟩ o.dst v):=by
 obtain⟨dst,op,ty,pos,after,guard⟩:=o
 cases op with
 |alloc t=>
  simp only[dQ,qM] at h ⊢
  split at h
  ·exact pJ h
  ·exact h.elim
 |box t x=>
  have e1:=he x (by simp[Op.operands])
  simp only[dQ,xO,e1] at h ⊢
  split at h
  ·exact pJ h
  ·exact h.elim
 |makeSlice t l c=>
  have e1:=he l (by simp[Op.operands])
  have e2:=he c (by simp[Op.operands])
  simp only[dQ,tX,e1,e2] at h ⊢
  split at h
  ·split at h
   ·obtain⟨h1,h2,h3,h4,h5,h6⟩:=h
    exact⟨h1,h2,h3,h4,h5,pJ h6⟩
   ·exact h.elim
  ·exact h.elim
 |store t x y=>
  have e1:=he x (by simp[Op.operands])
  have e2:=he y (by simp[Op.operands])
  simp only[dQ,qN,e1,e2] at h ⊢
  split at h
  ·split at h
   ·obtain⟨h1,h2,h3,h4⟩:=h
    exact⟨h1,h2,h3,rU h4⟩
   ·exact h.elim
  ·split at h
   ·obtain⟨h1,h2,h3,h4,h5⟩:=h
    exact⟨h1,h2,h3,h4,rU h5⟩
   ·exact h.elim
  ·split at h
   ·split at h
    ·split at h
     ·obtain⟨h1,h2,h3,h4,h5,h6⟩:=h
      exact⟨h1,h2,h3,h4,h5,rU h6⟩
     ·exact h.elim
    ·exact h.elim
   ·exact h.elim
  ·exact h.elim
 |makeMap t r=>
  cases r with
  |none=>
   simp only[dQ,qw] at h ⊢
   exact pJ h
  |some r=>simp[oN] at hD
 |mapUpdate t x y z=>
  have e1:=he x (by simp[Op.operands])
  have e2:=he y (by simp[Op.operands])
  have e3:=he z (by simp[Op.operands])
  simp only[dQ,qx,e1,e2,e3] at h ⊢
  split at h
  ·split at h
   ·exact rU h
   ·exact h.elim
  ·exact h.elim
 |call c=>
  obtain⟨xQ,args,tZ⟩:=c
  cases xQ with
  |builtin b=>
   cases b with
   |append=>
    simp only[dQ,mH] at h ⊢
    split at h
    ·rename_i x y t u hxy htu
     have hargs:args= #[x,y]:=by rw[←Array.toArray_toList (xs:=args),hxy]
     have e1:=he x (by simp[Op.operands,Call.operands,hargs])
     have e2:=he y (by simp[Op.operands,Call.operands,hargs])
     simp only[qy,e1,e2] at h ⊢
     split at h
     ·obtain⟨h1,h2,h3,h4⟩:=h
      refine⟨h1,h2,h3,?_⟩
      split at h4
      ·split at h4
       ·obtain⟨k1,k2,k3,k4⟩:=h4
        exact⟨k1,k2,k3,rU k4⟩
       ·obtain⟨k1,k2,k3,k4⟩:=h4
        exact⟨k1,k2,k3,rU k4⟩
       ·exact h4.elim
      ·obtain⟨k1,k2,k3⟩:=h4
       exact⟨k1,k2,Wq k3⟩
      ·obtain⟨k1,k2,k3⟩:=h4
       exact⟨k1,k2,Ws k3⟩
      ·exact h4.elim
     ·exact h.elim
    ·exact h.elim
   |_=>simp[oN] at hD
  |_=>simp[oN] at hD
 |_=>simp[oN] at hD
theorem Wu{f:FuncId}{args:List V}{tm tm':List (Nat×V)}{dst:Option Nat}{v:V}(h:vE P f args ⟨tm,S⟩ dst (fun t=>t=St.put ⟨tm,S'⟩ dst v)):vE P f args ⟨tm',S⟩ dst (fun t=>t=St.put ⟨tm',S'⟩ dst v):=by
 rcases h with⟨post,h1,h2⟩|⟨r,h1,h2⟩
 ·exact .inl ⟨post,h1,fun r Le hp=>rU (h2 r Le hp)⟩
 ·exact .inr ⟨r,h1,rU h2⟩
theorem Wv{E:Md}{o:Oper}{tm tm':List (Nat×V)}{v:V}(hD:eZ E o.op=true)(he:∀x∈o.op.operands,ev tm x=ev tm' x)(h:dQ P o ⟨tm,S⟩ (fun t=>t=St.put ⟨tm,S'⟩ o.dst v)):
 dQ P o ⟨tm',S⟩ (fun t=>t=St.put ⟨tm',S'⟩ o.dst v):=by
 by_cases hd:oN o.op=true
 ·exact Wt hd he h
 ·have hc:ku o.op=true:=by
   unfold eZ at hD
   rw[Bool.or_eq_true,Bool.and_eq_true] at hD
   rcases hD with h|h
   ·exact absurd h hd
   ·exact h.2
  obtain⟨dst,op,ty,pos,after,guard⟩:=o
  cases op with
  |call c=>
   obtain⟨xQ,args,tZ⟩:=c
   cases xQ with
   |value x=>
    have h1:args.toList.map (ev tm)=args.toList.map (ev tm'):=List.map_congr_left fun y hy=>he y (by simp[Op.operands,Call.operands];exact .inr (by simpa using hy))
    have h2:ev tm x=ev tm' x:=he x (by simp[Op.operands,Call.operands])
    simp only[dQ,mH,h1,h2] at h ⊢
    split at h
    ·exact Wu h
    ·exact h.elim
   |_=>simp[ku] at hc
  |_=>simp[ku] at hc
theorem Zq{tm tm':List (Nat×V)}{op:Op}(he:∀x∈op.operands,ev tm x=ev tm' x):nval P S tm op=nval P S tm' op:=by
 unfold nval pF
 split<;>try rfl
 ·rw[he _ (by simp[Op.operands])]
 ·rw[he _ (by simp[Op.operands])]
 ·rename_i c x y;rw[he c (by simp[Op.operands]),he x (by simp[Op.operands]),he y (by simp[Op.operands])]
 ·rw[he _ (by simp[Op.operands])]
 ·rw[he _ (by simp[Op.operands])]
 ·rw[he _ (by simp[Op.operands])]
 ·rename_i t x i;rw[he x (by simp[Op.operands]),he i (by simp[Op.operands])]
 ·rename_i t x i;rw[he x (by simp[Op.operands]),he i (by simp[Op.operands])]
 ·rename_i op t x y _;rw[he x (by simp[Op.operands]),he y (by simp[Op.operands])]
 ·rw[he _ (by simp[Op.operands])]
 ·rw[he _ (by simp[Op.operands])]
 ·rw[he _ (by simp[Op.operands])]
 ·rename_i fn first caps
  have h1:first.toList.map (ev tm)=first.toList.map (ev tm'):=List.map_congr_left fun x hx=>he x (by simp[Op.operands];exact .inl (by simpa using hx))
  have h2:caps.toList.map (ev tm)=caps.toList.map (ev tm'):=List.map_congr_left fun x hx=>he x (by simp[Op.operands];exact .inr (by simpa using hx))
  rw[h1,h2]
 ·rw[he _ (by simp[Op.operands])]
 ·rename_i t x lo hi mx
  rw[he x (by simp[Op.operands])]
  have h1:lo.map (ev tm)=lo.map (ev tm'):=by
   cases lo with
   |none=>rfl
   |some y=>simp[he y (by simp[Op.operands])]
  have h2:hi.map (ev tm)=hi.map (ev tm'):=by
   cases hi with
   |none=>rfl
   |some y=>simp[he y (by simp[Op.operands])]
  have h3:mx.map (ev tm)=mx.map (ev tm'):=by
   cases mx with
   |none=>rfl
   |some y=>simp[he y (by simp[Op.operands])]
  rw[h1,h2,h3]
 ·rename_i t parts
  have h1:(parts.toList.map fun x=>(x.1,ev tm x.2))=parts.toList.map fun x=>(x.1,ev tm' x.2):=List.map_congr_left fun x hx=>by
   rw[he x.2 (by simp only[Op.operands,List.mem_toArray,List.mem_map];exact⟨x,hx,rfl⟩)]
  rw[h1]
 ·rename_i t n parts
  have h1:(parts.toList.map fun x=>(x.1,ev tm x.2))=parts.toList.map fun x=>(x.1,ev tm' x.2):=List.map_congr_left fun x hx=>by
   rw[he x.2 (by simp only[Op.operands,List.mem_toArray,List.mem_map];exact⟨x,hx,rfl⟩)]
  rw[h1]
 ·rename_i t x i;rw[he x (by simp[Op.operands]),he i (by simp[Op.operands])]
 ·rename_i args tZ
  split
  ·rename_i x t hx ht
   have hargs:args= #[x]:=by rw[←Array.toArray_toList (xs:=args),hx]
   rw[he x (by simp[Op.operands,Call.operands,hargs])]
  ·rfl
 ·rename_i args tZ
  split
  ·rename_i x y hx
   have hargs:args= #[x,y]:=by rw[←Array.toArray_toList (xs:=args),hx]
   rw[he x (by simp[Op.operands,Call.operands,hargs]),he y (by simp[Op.operands,Call.operands,hargs])]
  ·rfl
 ·rename_i args tZ
  split
  ·rename_i x y hx
   have hargs:args= #[x,y]:=by rw[←Array.toArray_toList (xs:=args),hx]
   rw[he x (by simp[Op.operands,Call.operands,hargs]),he y (by simp[Op.operands,Call.operands,hargs])]
  ·rfl
theorem Ww{tm tm':List (Nat×V)}{c:Call}{v:V}(he:∀x∈c.operands,ev tm x=ev tm' x)(h:Ah P tm c v):Ah P tm' c v:=by
 unfold Ah at h ⊢
 obtain⟨xQ,args,tZ⟩:=c
 cases xQ with
 |value x=>
  simp only at h ⊢
  rw[←he x (by simp[Call.operands])]
  have h1:args.toList.map (ev tm)=args.toList.map (ev tm'):=List.map_congr_left fun y hy=>he y (by simp[Call.operands];exact .inr (by simpa using hy))
  rw[←h1]
  exact h
 |_=>exact h
def LY:Obj→Prop
 | .box _=>True
 | .eT _ _=>True
 | .mp _=>True
 | .xf _=>True
 |_=>False
def Q9(v:V)(k:Key):Prop:=(∃off,v=.c (.ptr k off))∨(∃i off,v=.c (.lC k i off))∨v=.c (.jd k)∨v=.c (.mp k)∨(∃r p,v=.c (.xp k r p))∨∃r p z i off,v=.c (.xq k r p z i off)
def Fix(S S':Store):Prop:=∀k o,bL S k=some o→LY o→bL S' k=some o
theorem Fix.refl(S:Store):Fix S S:=fun _ _ h _=>h
theorem gB{q:Prop}(h:no.1):q:=h.elim
theorem Wx{l:Option Nat}{tm:List (Nat×V)}{op:Op}(h:(pF P l S tm op).1)
 (hf:∀x∈op.operands,∀k,Q9 (ev tm x) k→
   ∀o,bL S k=some o→LY o→bL S' k=some o):pF P l S' tm op=pF P l S tm op:=by
 unfold pF at h ⊢
 split at h<;>try rfl
 ·rename_i t x
  have hf:=hf x (by simp[Op.operands])
  unfold wV at h ⊢
  split at h
  ·rfl
  ·split at h
   ·rename_i hx;simp only[hx]
   ·rename_i k off hx
    split at h
    ·rename_i cs hk;rw[hf k (.inl ⟨off,hx⟩) _ hk trivial]
    ·exact gB h
   ·rename_i k i off hx
    split at h
    ·rename_i bn es hk;rw[hf k (.inr (.inl ⟨i,off,hx⟩)) _ hk trivial]
    ·exact gB h
   ·rename_i k r p z i off hx
    split at h
    ·rename_i rs hk;rw[hf k (.inr (.inr (.inr (.inr (.inr ⟨r,p,z,i,off,hx⟩))))) _ hk trivial]
    ·exact gB h
   ·exact gB h
 ·rename_i t x f
  have hf:=hf x (by simp[Op.operands])
  unfold pz at h ⊢
  split at h
  ·split at h
   ·split at h
    ·exact gB h
    ·rename_i fs hs _ fd YX hne
     split at h
     ·rename_i hx;simp[hs,YX,hne,hx]
     ·rename_i k off hx
      split at h
      ·rename_i cs hk
       simp only[hs,YX,hne,if_false,hx,hf k (.inl ⟨off,hx⟩) _ hk trivial,hk]
      ·exact gB h
     ·rename_i k i off hx
      split at h
      ·rename_i bn es hk
       simp only[hs,YX,hne,if_false,hx,hf k (.inr (.inl ⟨i,off,hx⟩)) _ hk trivial,hk]
      ·exact gB h
     ·rename_i k r p z i off hx
      split at h
      ·rename_i rs hk
       simp only[hs,YX,hne,if_false,hx,hf k (.inr (.inr (.inr (.inr (.inr ⟨r,p,z,i,off,hx⟩))))) _ hk trivial,hk]
      ·exact gB h
     ·exact gB h
   ·exact gB h
  ·exact gB h
 ·rename_i t x i
  have hf:=hf x (by simp[Op.operands])
  unfold pE at h ⊢
  split at h
  ·rename_i e k n' n ht hx hi
   split at h
   ·rename_i bn es hk
    simp only[ht,hx,hi,hf k (.inr (.inr (.inl hx))) _ hk trivial,hk]
   ·exact gB h
  ·rename_i len e k off n' n ht hx hi
   split at h
   ·rename_i cs hk
    simp only[ht,hx,hi,hf k (.inl ⟨off,hx⟩) _ hk trivial,hk]
   ·exact gB h
  ·rename_i e k r p n' n ht hx hi
   split at h
   ·rename_i rs hk
    simp only[ht,hx,hi,hf k (.inr (.inr (.inr (.inr (.inl ⟨r,p,hx⟩))))) _ hk trivial,hk]
   ·exact gB h
  ·rename_i e y n' n hy hy2 ht hx hi
   simp only[ht,hx,hi]
  ·exact gB h
 ·rename_i x
  have hf:=hf x (by simp[Op.operands])
  unfold sN at h ⊢
  split at h
  ·rename_i k off hx
   split at h
   ·rename_i cs hk
    simp only[hx,hf k (.inl ⟨off,hx⟩) _ hk trivial,hk]
   ·exact gB h
  ·rename_i hx;simp only[hx]
  ·exact gB h
 ·rename_i t x i
  have hf:=hf x (by simp[Op.operands])
  unfold uT at h ⊢
  split at h
  ·rename_i kt et k l ht vQ hi
   split at h
   ·rename_i m hk hkt hz
    simp only[ht,vQ,hi,hf k (.inr (.inr (.inr (.inl vQ)))) _ hk trivial,hk,hkt,hz]
   ·exact gB h
  ·exact gB h
 ·rename_i args tZ
  split at h
  ·rename_i x t hx ht
   have hargs:args= #[x]:=by rw[←Array.toArray_toList (xs:=args),hx]
   have hf:=hf x (by simp[Op.operands,Call.operands,hargs])
   unfold zZ at h ⊢
   split at h
   ·rename_i l Fy vQ;simp only[Fy,vQ]
   ·rename_i n e Fy;simp only[Fy]
   ·rename_i e k Fy vQ
    split at h
    ·rename_i bn es hk
     simp only[Fy,vQ,hf k (.inr (.inr (.inl vQ))) _ hk trivial,hk]
    ·exact gB h
   ·rename_i e k r p Fy vQ
    split at h
    ·rename_i rs hk
     simp only[Fy,vQ,hf k (.inr (.inr (.inr (.inr (.inl ⟨r,p,vQ⟩))))) _ hk trivial,hk]
    ·exact gB h
   ·rename_i e y hy hy2 Fy vQ
    simp only[Fy,vQ]
   ·exact gB h
  ·exact gB h
end
end Go.Ab
namespace Go.Ab
def sD(acc:List Nat):List Edge→Nat
 |[]=>0
 |e::es=>(if Region.binds .any e then 2^e.on ||| acc.getD e.on 0 else 0) ||| sD acc es
def masks:List Oper→List Nat→List Nat
 |[],acc=>acc
 |o::os,acc=>masks os (acc++[sD acc o.after.toList])
def clash(E:Md)(R:Array Oper)(x y:Oper):Bool:= !(x.apart R y)||(eZ E x.op&&eZ E y.op)||lK E x.op||lK E y.op
def vT(E:Md)(R:Array Oper)(N:Nat):Bool:=
 (List.range R.size).all fun j=>
   (match R[j]? with
    |some o=>o.after.toList.all (fun e=> !Region.binds .any e||decide (e.on<j))&&(match o.dst with|some d=>decide (d<N)|none=>true)
    |none=>true)&&
   (List.range j).all fun i=>
     match R[i]?,R[j]? with
     |some x,some y=>((masks R.toList []).getD j 0).testBit i|| !(clash E R x y)
     |_,_=>true
def vG(R:Array Oper)(i j:Nat):Bool:=if i<j then((masks R.toList []).getD j 0).testBit i else((masks R.toList []).getD i 0).testBit j
def lZ(E:Md)(R:Array Oper)(x y:Oper):Bool:= !(x.apart R y)||(eZ E x.op&&eZ E y.op)
def settled(R:Array Oper)(i:Nat):Operand→Bool
 | .tmp t=>(List.range R.size).all fun n=>decide (n<i)|| !(fC R n==some t)
 |_=>true
def rV(R:Array Oper)(i:Nat)(x:Oper)(j:Nat)(y:Oper):Bool:=ku y.op||match x.op with
 | .store _ a _=>settled R i a&&y.op.operands.toList.all (settled R j)
 |_=>false
def C9(E:Md)(R:Array Oper)(N:Nat):Bool:=
 (List.range R.size).all fun j=>
   (match R[j]? with
    |some o=>o.after.toList.all (fun e=> !Region.binds .any e||decide (e.on<j))&&(match o.dst with|some d=>decide (d<N)|none=>true)
    |none=>true)&&
   (List.range j).all fun i=>
     match R[i]?,R[j]? with
     |some x,some y=>((masks R.toList []).getD j 0).testBit i|| !(lZ E R x y||(lK E x.op&& !(rV R i x j y))||(lK E y.op&& !(rV R j y i x)))
     |_,_=>true
def Ra(v w:V):Bool:=
 match w with
 | .c (.ptr k _)=>(match v with| .c (.ptr k' _)=>k'.2 !=k.2| .c (.lC k' _ _)=>k'.2 !=k.2|_=>false)
 | .c (.lC k _ _)=>(match v with| .c (.ptr k' _)=>k'.2 !=k.2| .c (.lC k' _ _)=>k'.2 !=k.2|_=>false)
 | .c (.jd k)=>(match v with| .c (.ptr k' _)=>k'.2 !=k.2| .c (.lC k' _ _)=>k'.2 !=k.2|_=>false)
 | .c (.mp k)=>(match v with| .c (.ptr k' _)=>k'.2 !=k.2| .c (.lC k' _ _)=>k'.2 !=k.2|_=>false)
 | .c (.xp _ _ _)=>false
 | .c (.xq _ _ _ _ _ _)=>false
 |_=>true
def K4(E:Md)(R:Array Oper)(tm:List (Nat×V)):Bool:=
 (List.range R.size).all fun i=>match R[i]? with
   |some x=> !(lK E x.op)||match x.op with
    | .store _ a _=>(List.range R.size).all fun j=>match R[j]? with
      |some y=>vG R i j||eZ E y.op||ku y.op||y.op.operands.toList.all (fun z=>Ra (ev tm a) (ev tm z))
      |none=>true
    |_=>true
   |none=>true
def Zr(R:Array Oper)(i:Nat):Bool:=
 (List.range R.size).all fun j=>decide (j=i)||(if j<i then((masks R.toList []).getD i 0).testBit j else((masks R.toList []).getD j 0).testBit i)
def Fz:Op→Option FuncId
 | .call {callee:=.value (.func f),args:=_,argTypes:=_}=>some f
 |_=>none
def yM(R:Array Oper)(m:Nat):Md:=fun op=>if(List.range R.size).all (fun i=>match R[i]? with
 |some o=>(Fz op !=Fz o.op)||Zr R i
 |none=>true) then 2 else m
def uX:Op→Bool
 | .alloc _=>true
 |_=>false
def FB(E:Md)(R:Array Oper)(p:Nat):Bool:=match R[p]? with
 |some o=>uX o.op&&o.guard.isNone&&o.dst.isSome&&(List.range R.size).all fun j=>match R[j]? with
  |some y=>decide (j=p)||y.apart R o||(List.range p).all fun i=>match R[i]? with
   |some x=> !(eZ E x.op)||(decide (i<j)&&((masks R.toList []).getD j 0).testBit i)
   |none=>true
  |none=>true
 |none=>true
def Ua(E:Md)(R:Array Oper)(p j:Nat)(x y:Oper):Bool:= !(x.apart R y)||(!(decide (j=p))&&((eZ E x.op&&eZ E y.op)||lK E x.op||lK E y.op))
def zF(E:Md)(R:Array Oper)(N p:Nat):Bool:=
 FB E R p&&(List.range R.size).all fun j=>
  (match R[j]? with
   |some o=>o.after.toList.all (fun e=> !Region.binds .any e||decide (e.on<j))&&(match o.dst with|some d=>decide (d<N)|none=>true)
   |none=>true)&&
  (List.range j).all fun i=>
    match R[i]?,R[j]? with
    |some x,some y=>((masks R.toList []).getD j 0).testBit i|| !(Ua E R p j x y)
    |_,_=>true
def Wy(E:Md)(R:Array Oper)(N p:Nat):Bool:=
 FB E R p&&(List.range R.size).all fun j=>
  (match R[j]? with
   |some o=>o.after.toList.all (fun e=> !Region.binds .any e||decide (e.on<j))&&(match o.dst with|some d=>decide (d<N)|none=>true)
   |none=>true)&&
  (List.range j).all fun i=>
    match R[i]?,R[j]? with
    |some x,some y=>((masks R.toList []).getD j 0).testBit i|| !(!(x.apart R y)||(!(decide (j=p))&&((eZ E x.op&&eZ E y.op)||(lK E x.op&& !(rV R i x j y))||(lK E y.op&& !(rV R j y i x)))))
    |_,_=>true
def Wz(R:Array Oper)(p i:Nat):Bool:=
 (List.range R.size).all fun j=>decide (j=i)||decide (j=p)||(if j<i then((masks R.toList []).getD i 0).testBit j else((masks R.toList []).getD j 0).testBit i)
def FC(R:Array Oper)(p:Nat):Md:=fun op=>if(List.range R.size).all (fun i=>match R[i]? with
 |some o=>(Fz op !=Fz o.op)||Wz R p i
 |none=>true) then 2 else 0
def LZ(R:Array Oper)(p:Nat):Bool:=match R[p]? with
 |some o=>uX o.op
 |none=>false
def pOf(R:Array Oper)(N:Nat):Option Nat:=(List.range R.size).find? fun p=>LZ R p&&zF (FC R p) R N p
def aex(R:Array Oper)(N:Nat):Option Nat:=(List.range R.size).find? fun p=>LZ R p&&Wy (FC R p) R N p
def FD(R:Array Oper)(N:Nat):Md:=if vT (yM R 1) R N then yM R 1 else match pOf R N with
 |some p=>FC R p
 |none=>if vT (yM R 0) R N then yM R 0 else fun _=>0
def H9(R:Array Oper)(N:Nat):Bool:=vT (FD R N) R N||match pOf R N with
 |some p=>zF (FD R N) R N p
 |none=>false
def vU(R:Array Oper)(N:Nat):Md:=if C9 (yM R 1) R N then yM R 1 else match aex R N with
 |some p=>FC R p
 |none=>if C9 (yM R 0) R N then yM R 0 else fun _=>0
section
variable {P:Program} {E:Md} {w w':World} {σ σ':Nat→Nat} {S S':Store} {β β':Hs} {N:Nat} {s:St} {a:Act} {R:Array Oper}
theorem BD:∀(l:List Oper) (acc:List Nat) (i:Nat),i<acc.length→(masks l acc)[i]? =acc[i]?
 |[],acc,i,h=>rfl
 |o::os,acc,i,h=>by rw[masks,BD os _ i (by simp;omega),List.getElem?_append_left h]
theorem L6:∀(l:List Oper) (acc:List Nat) (i:Nat) (o:Oper),l[i]? =some o→
 ∃acc',(∀j,j<acc.length+i→acc'[j]? =(masks l acc)[j]?)∧acc'.length=acc.length+i∧(masks l acc)[acc.length+i]? =some (sD acc' o.after.toList)
 |[],acc,i,o,h=>by simp at h
 |x::os,acc,0,o,h=>by
  simp at h;subst h
  refine⟨acc,fun j hj=> ?_,by simp,?_⟩
  ·rw[masks,BD os _ j (by simp;omega),List.getElem?_append_left (by omega)]
  ·rw[masks,Nat.add_zero,BD os _ _ (by simp),List.getElem?_append_right (Nat.le_refl _)];simp
 |x::os,acc,i+1,o,h=>by
  obtain⟨acc',h1,h2,h3⟩:=L6 os (acc++[sD acc x.after.toList]) i o (by simpa using h)
  refine⟨acc',fun j hj=> ?_,by rw[h2];simp;omega,?_⟩
  ·rw[masks];exact h1 j (by simp;omega)
  ·rw[masks,←h3];congr 1;simp;omega
theorem BF{acc:List Nat}{k:Nat}:∀(es:List Edge),(sD acc es).testBit k=true→∃e∈es,Region.binds .any e=true∧(e.on=k∨(acc.getD e.on 0).testBit k=true)
 |[],h=>by simp[sD] at h
 |e::es,h=>by
  rw[sD,Nat.testBit_or,Bool.or_eq_true] at h
  rcases h with h|h
  ·by_cases hb:Region.binds .any e=true
   ·rw[if_pos hb,Nat.testBit_or,Bool.or_eq_true] at h
    refine⟨e,by simp,hb,?_⟩
    rcases h with h|h
    ·left
     rw[Nat.testBit_two_pow] at h
     simpa using h
    ·exact .inr h
   ·rw[if_neg hb] at h;simp at h
  ·obtain⟨e',he',h'⟩:=BF es h
   exact⟨e',by simp[he'],h'⟩
theorem JA(E:Nat→Prop)(hE:∀i o e,R[i]? =some o→E i→e∈o.after→Region.binds .any e=true→E e.on)(hlt:∀i o e,R[i]? =some o→e∈o.after→Region.binds .any e=true→e.on<i):
 ∀(i:Nat) (o:Oper),R[i]? =some o→(∀e∈o.after,Region.binds .any e=true→E e.on)→∀k,((masks R.toList []).getD i 0).testBit k=true→E k:=by
 intro i
 induction i using Nat.strongRecOn with
 |_ i ih=>
  intro o ho hed k hk
  obtain⟨acc',h1,h2,h3⟩:=L6 R.toList [] i o (by simpa using ho)
  simp only[List.length_nil,Nat.zero_add] at h1 h2 h3
  rw[List.getD_eq_getElem?_getD,h3] at hk
  obtain⟨e,he,hb,hek⟩:=BF _ hk
  have he':e∈o.after:=by simpa using he
  rcases hek with rfl|hek
  ·exact hed e he' hb
  ·have hon:=hlt i o e ho he' hb
   have aey:=hed e he' hb
   have hilt:i<R.size:=(Array.getElem?_eq_some_iff.1 ho).1
   have hsome:R[e.on]? =some R[e.on]:=Array.getElem?_eq_getElem (by omega)
   refine ih e.on hon _ hsome (fun e2 he2 hb2=>hE e.on _ e2 hsome aey he2 hb2) k ?_
   rw[List.getD_eq_getElem?_getD,h1 e.on (by omega)] at hek
   rw[List.getD_eq_getElem?_getD];exact hek
def j3(R:Array Oper)(vs:Nat→V)(E:Nat→Bool)(base:List (Nat×V)):Nat→Nat→V
 |0,t=>look base t
 |k+1,t=>if E k=true∧fC R k=some t then vs k else j3 R vs E base k t
theorem zf{vs:Nat→V}{E:Nat→Bool}{base:List (Nat×V)}{t i:Nat}:∀(n:Nat),(∀j,j<n→fC R j=some t→(E j=true↔j<i))→
 j3 R vs E base n t=j3 R vs (fun _=>true) base (min n i) t
 |0,_=>by simp[j3]
 |n+1,h=>by
  have ih:=zf (vs:=vs) (base:=base) n (fun j hj hd=>h j (by omega) hd)
  rw[j3]
  by_cases hd:fC R n=some t
  ·by_cases hE:E n=true
   ·have hni:=(h n (by omega) hd).1 hE
    rw[if_pos ⟨hE,hd⟩,show min (n+1) i=n+1 from by omega,j3,if_pos ⟨rfl,hd⟩]
   ·have hni:¬n<i:=fun hn=>hE ((h n (by omega) hd).2 hn)
    rw[if_neg (fun x=>hE x.1),ih,show min (n+1) i=min n i from by omega]
  ·rw[if_neg (fun x=>hd x.2),ih]
   by_cases hni:n<i
   ·rw[show min (n+1) i=n+1 from by omega,show min n i=n from by omega,j3,if_neg (fun x=>hd x.2)]
   ·rw[show min (n+1) i=min n i from by omega]
theorem vH{vs:Nat→V}{E E':Nat→Bool}{base:List (Nat×V)}{t:Nat}:∀(n:Nat),(∀j,j<n→fC R j=some t→E j=E' j)→j3 R vs E base n t=j3 R vs E' base n t
 |0,_=>rfl
 |n+1,h=>by
  rw[j3,j3,vH n (fun j hj hd=>h j (by omega) hd)]
  by_cases hd:fC R n=some t
  ·rw[h n (by omega) hd]
  ·rw[if_neg (fun x=>hd x.2),if_neg (fun x=>hd x.2)]
theorem Ai{vs:Nat→V}{E:Nat→Bool}{base:List (Nat×V)}{t i:Nat}(hi:E i=true)(hd:fC R i=some t):∀(n:Nat),i<n→(∀j,j<n→i<j→fC R j=some t→E j=false)→j3 R vs E base n t=vs i
 |0,h,_=>by omega
 |n+1,h,hj=>by
  rw[j3]
  by_cases hin:i=n
  ·subst hin;rw[if_pos ⟨hi,hd⟩]
  ·have:¬(E n=true∧fC R n=some t):=fun x=>by
    have:=hj n (by omega) (by omega) x.2
    rw[this] at x;simp at x
   rw[if_neg this]
   exact Ai hi hd n (by omega) (fun j hjn hij hdj=>hj j (by omega) hij hdj)
theorem Ot{o:Oper}{s:St}{K:St→Prop}(h:qz P E R o s K):∃v s',ng P E R o s v s'∧K s':=by
 have hN:∀(hg:gd R o s.tm=some true),eU P E o s K→∃v s',ng P E R o s v s'∧K s':=by
  intro hg hx
  unfold eU at hx
  by_cases hD:oN o.op=true
  ·rw[if_pos hD] at hx
   obtain⟨S',v,h1,h2⟩:=Wp hD hx
   exact⟨v,_,.inr (.inr ⟨hg,Wo hD,h1,by rw[kr],fun h=>by rw[hD] at h;cases h⟩),h2⟩
  ·rw[if_neg hD] at hx
   have hD':oN o.op=false:=by simpa using hD
   split at hx
   ·rename_i x args tZ hop
    have hcv:ku o.op=true:=by rw[hop];rfl
    rw[←hop] at hx
    split at hx
    ·rename_i hE
     obtain⟨r,h1,h2⟩:=hx
     exact⟨r,_,.inr (.inl ⟨hg,by unfold eZ;rw[hD',hE];rfl,.inl ⟨_,hop,h1⟩,rfl⟩),h2⟩
    ·rename_i hE
     obtain⟨S',v,h0,h1,h2⟩:=hx
     exact⟨v,_,.inr (.inr ⟨hg,by unfold eZ;rw[hE,hcv];simp,h1,by rw[kr],fun _ _=>by rw[kr];exact h0⟩),h2⟩
    ·rename_i hE0 hE1
     obtain⟨S',v,h1,h2⟩:=hx
     have h3:2≤E o.op:=by
      rcases Nat.lt_or_ge (E o.op) 2 with h|h
      ·exfalso
       have:E o.op=0∨E o.op=1:=by omega
       exact this.elim hE0 hE1
      ·exact h
     exact⟨v,_,.inr (.inr ⟨hg,by unfold eZ;rw[hcv,Bool.and_true,Bool.or_eq_true,decide_eq_true_eq];exact .inr (by omega),h1,by rw[kr],fun _ h=>by
      unfold lK at h
      rw[hcv,Bool.and_true,Bool.or_eq_false_iff,decide_eq_false_iff_not] at h
      exact absurd h3 h.2⟩),h2⟩
   ·rename_i hne
    refine⟨_,_,.inr (.inl ⟨hg,?_,.inr ⟨hx.1,rfl⟩,rfl⟩),hx.2⟩
    have:ku o.op=false:=by
     cases hc:ku o.op with
     |false=>rfl
     |true=>
      exfalso
      unfold ku at hc
      split at hc
      ·rename_i x a b ho;exact hne _ _ _ ho
      ·cases hc
    unfold eZ;rw[hD',this];simp
 unfold qz at h
 split at h
 ·rename_i hg;exact hN (by simp only[gd,hg]) h
 ·rename_i j want hg
  split at h
  ·rename_i x hx
   by_cases e:x=want
   ·exact hN (by simp only[gd,hg,hx,e,beq_self_eq_true]) (h.1 e)
   ·exact⟨.iE [],_,.inl ⟨by simp only[gd,hg,hx];simp[e],rfl,rfl⟩,h.2 (by cases x<;>cases want<;>simp_all)⟩
  ·rename_i hx
   exact⟨.iE [],_,.inl ⟨by simp only[gd,hg,hx],rfl,rfl⟩,h⟩
  ·exact h.elim
theorem JB{F:Oper→St→St→Prop}{D:List Oper→St→Prop}{K:St→Prop}(hnil:∀s,D [] s→K s)(YZ:∀o os s,D (o::os) s→∃v s',ng P E R o s v s'∧F o s s'∧D os s'):∀(n k:Nat),k+n=R.size→∀s,D (R.toList.drop k) s→
 ∃(st:Nat→St) (vs:Nat→V),st k=s∧K (st R.size)∧∀i,k≤i→i<R.size→∃o,R[i]? =some o∧ng P E R o (st i) (vs i) (st (i+1))∧F o (st i) (st (i+1))
 |0,k,hk,s,h=>by
  have:R.toList.drop k=[]:=by apply List.drop_eq_nil_of_le;simp;omega
  rw[this] at h
  exact⟨fun _=>s,fun _=>.any,rfl,hnil s h,fun i h1 h2=>by omega⟩
 |n+1,k,hk,s,h=>by
  have hlt:k<R.toList.length:=by simp;omega
  rw[List.drop_eq_getElem_cons hlt] at h
  have hRk:R[k]? =some R.toList[k]:=by
   rw[Array.getElem?_eq_getElem (by omega)];simp
  obtain⟨v,s',ht,hf,hd⟩:=YZ _ _ s h
  obtain⟨st,vs,h1,h2,h3⟩:=JB hnil YZ n (k+1) (by omega) s' hd
  refine⟨fun i=>if i=k then s else st i,fun i=>if i=k then v else vs i,by simp,?_,fun i hi1 hi2=> ?_⟩
  ·have:R.size≠k:=by omega
   simp only[if_neg this];exact h2
  ·by_cases e:i=k
   ·subst e
    refine⟨_,hRk,?_⟩
    simp only[if_true]
    have:i+1≠i:=by omega
    simp only[if_neg this,h1]
    exact⟨ht,hf⟩
   ·obtain⟨o,ho,ht'⟩:=h3 i (by omega) hi2
    refine⟨o,ho,?_⟩
    have:i+1≠k:=by omega
    simp only[if_neg e,if_neg this]
    exact ht'
theorem Ej{K:St→Prop}(n k:Nat)(hk:k+n=R.size)(s:St)(h:qF P E R (R.toList.drop k) s K):
 ∃(st:Nat→St) (vs:Nat→V),st k=s∧K (st R.size)∧∀i,k≤i→i<R.size→∃o,R[i]? =some o∧ng P E R o (st i) (vs i) (st (i+1)):=by
 obtain⟨st,vs,h1,h2,h3⟩:=JB (F:=fun _ _ _=>True) (D:=fun os s=>qF P E R os s K) (fun _ h=>h) (fun o os s h=>by
  obtain⟨v,s',a,b⟩:=Ot h
  exact⟨v,s',a,trivial,b⟩) n k hk s h
 exact⟨st,vs,h1,h2,fun i a b=>by
  obtain⟨o,c,d,_⟩:=h3 i a b
  exact⟨o,c,d⟩⟩
theorem WA{o:Oper}{s s':St}{v:V}(h:ng P E R o s v s'):s'=St.put ⟨s.tm,s'.st⟩ o.dst v:=by
 rcases h with⟨_,_,h⟩|⟨_,_,_,h⟩|⟨_,_,_,h,_⟩
 ·rw[h];cases o.dst<;>rfl
 ·rw[h];cases o.dst<;>rfl
 ·exact h
theorem WB{o:Oper}{s s':St}{v:V}(h:ng P E R o s v s')(hD:eZ E o.op=false):s'.st=s.st:=by
 rcases h with⟨_,_,h⟩|⟨_,_,_,h⟩|⟨_,h,_,_⟩
 ·rw[h];cases o.dst<;>rfl
 ·rw[h];cases o.dst<;>rfl
 ·rw[hD] at h;cases h
theorem vV{st:Nat→St}{vs:Nat→V}(h:∀i,i<R.size→∃o,R[i]? =some o∧ng P E R o (st i) (vs i) (st (i+1)))(t:Nat):∀i,i≤R.size→look (st i).tm t=j3 R vs (fun _=>true) (st 0).tm i t
 |0,_=>rfl
 |i+1,hi=>by
  obtain⟨o,ho,ht⟩:=h i (by omega)
  have e:=WA ht
  have ih:=vV h t i (by omega)
  rw[j3,←ih]
  have hdst:fC R i=o.dst:=by simp[fC,ho]
  rw[hdst,e]
  cases hd:o.dst with
  |none=>simp[St.put]
  |some d=>
   simp only[St.put,look,true_and,Option.some.injEq]
theorem DS.refl(S:Store):DS S S:=fun _ _ h=>.inl h
theorem DS.trans{S1 S2 S3:Store}(h:DS S1 S2)(k:DS S2 S3):DS S1 S3:=by
 intro x o hx
 rcases h x o hx with h1|⟨h1,o',z,es,h2,h2'⟩
 ·exact k x o h1
 ·rcases k x _ h2 with h3|⟨_,h3⟩
  ·exact .inr ⟨h1,o',z,es,h3,h2'⟩
  ·exact .inr ⟨h1,h3⟩
theorem DS.push{own:List Obj}{Ω:Store}{o:Obj}:DS (own::Ω) ((own++[o])::Ω):=fun k o' h=>.inl (lY _ _ _ _ _ h)
theorem qQ{dst:Option Nat}{o:Obj}{mk:Key→V}{s':St}(h:newObj s dst o mk (fun t=>t=s')):DS s.st s'.st:=by
 unfold newObj at h
 split at h
 ·rename_i own Ω hst
  rw[←h,kr,hst]
  exact DS.push
 ·exact h.elim
theorem Zt{l:Option Nat}{es x:List (List D)}{z:Nat}{dst:Option Nat}{s':St}(h:xP l es s dst z x (fun t=>t=s')):DS s.st s'.st:=by
 cases l with
 |none=>exact qQ (o:=.tok z x) (mk:=fun k=>.c (.bI k x)) h
 |some n=>
  cases es with
  |nil=>
   have h:St.put ⟨s.tm,s.st⟩ dst (.c (.d (.ol n x)))=s':=h
   rw[←h,kr]
   exact DS.refl _
  |cons y es=>exact qQ (o:=.tok z x) (mk:=fun k=>.c (.bI k x)) h
theorem Zu{b:Bool}{n:Nat}{x:List (List D)}{z:Nat}{dst:Option Nat}{s':St}(h:za b n s dst z x (fun t=>t=s')):DS s.st s'.st:=by
 cases b with
 |false=>exact qQ (o:=.eB n z x) (mk:=fun k=>.c (.bI k x)) h
 |true=>
  have h:St.put ⟨s.tm,s.st⟩ dst (.c (.d (.ol n x)))=s':=h
  rw[←h,kr]
  exact DS.refl _
theorem WC{o:Oper}{s s':St}(hD:oN o.op=true)(hs:xC o.op=false)(h:dQ P o s (fun t=>t=s')):DS s.st s'.st:=by
 obtain⟨dst,op,ty,pos,after,guard⟩:=o
 cases op with
 |alloc t=>
  simp only[dQ,qM] at h
  split at h
  ·exact qQ h
  ·exact h.elim
 |box t x=>
  simp only[dQ,xO] at h
  split at h
  ·exact qQ h
  ·exact h.elim
 |makeSlice t l c=>
  simp only[dQ,tX] at h
  split at h
  ·split at h
   ·exact qQ h.2.2.2.2.2
   ·exact h.elim
  ·exact h.elim
 |store t x y=>simp[xC] at hs
 |mapUpdate t x y z=>simp[xC] at hs
 |makeMap t r=>
  cases r with
  |none=>
   simp only[dQ,qw] at h
   exact qQ h
  |some r=>simp[oN] at hD
 |call c=>
  obtain⟨xQ,args,tZ⟩:=c
  cases xQ with
  |builtin b=>
   cases b with
   |append=>
    simp only[dQ,mH] at h
    split at h
    ·simp only[qy] at h
     split at h
     ·obtain⟨h1,h2,h3,h4⟩:=h
      split at h4
      ·rename_i k es hex
       split at h4
       ·rename_i z es' hk
        obtain⟨k1,k2,k3,k4⟩:=h4
        rw[←k4,kr]
        intro k' o' ho'
        by_cases e:k'=k
        ·subst e
         rw[hk] at ho';cases ho'
         exact .inr ⟨⟨_,_,.inl rfl⟩,_,_,_,gq _ _ _ _ hk,.inl rfl⟩
        ·exact .inl ((gu _ _ _ _ (Ne.symm e)).trans ho')
       ·rename_i n z es' hk
        obtain⟨k1,k2,k3,k4⟩:=h4
        rw[←k4,kr]
        intro k' o' ho'
        by_cases e:k'=k
        ·subst e
         rw[hk] at ho';cases ho'
         exact .inr ⟨⟨_,_,.inr ⟨_,rfl⟩⟩,_,_,_,gq _ _ _ _ hk,.inr ⟨_,rfl⟩⟩
        ·exact .inl ((gu _ _ _ _ (Ne.symm e)).trans ho')
       ·exact h4.elim
      ·exact Zt h4.2.2
      ·exact Zu h4.2.2
      ·exact h4.elim
     ·exact h.elim
    ·exact h.elim
   |_=>simp[oN] at hD
  |_=>simp[oN] at hD
 |_=>simp[oN] at hD
theorem WE{o:Oper}{s s':St}{v:V}(h:ng P E R o s v s')(hs:lK E o.op=false):DS s.st s'.st:=by
 rcases h with⟨_,_,h⟩|⟨_,_,_,h⟩|⟨_,hD,h,_,hc⟩
 ·rw[h];cases o.dst<;>exact DS.refl _
 ·rw[h];cases o.dst<;>exact DS.refl _
 ·cases hd:oN o.op with
  |true=>exact WC hd (by unfold lK at hs;rw[Bool.or_eq_false_iff] at hs;exact hs.1) h
  |false=>exact hc hd hs
theorem zG{st:Nat→St}{vs:Nat→V}(h:∀i,i<R.size→∃o,R[i]? =some o∧ng P E R o (st i) (vs i) (st (i+1))){i:Nat}:∀(m:Nat),i+m≤R.size→(∀j o,i≤j→j<i+m→R[j]? =some o→eZ E o.op=false)→(st (i+m)).st=(st i).st
 |0,_,_=>rfl
 |m+1,hm,hj=>by
  obtain⟨o,ho,ht⟩:=h (i+m) (by omega)
  rw[show i+(m+1)=i+m+1 from rfl,WB ht (hj _ o (by omega) (by omega) ho)]
  exact zG h m (by omega) (fun j o h1 h2 h3=>hj j o h1 (by omega) h3)
def KS(k:Key)(S S':Store):Prop:=∀o,bL S k=some o→bL S' k=some o∨((∃z es,pq o z es)∧∃o' z es,bL S' k=some o'∧pq o' z es)
theorem KS.trans{k:Key}{S1 S2 S3:Store}(h:KS k S1 S2)(h':KS k S2 S3):KS k S1 S3:=by
 intro o hx
 rcases h o hx with h1|⟨h1,o',z,es,h2,h2'⟩
 ·exact h' o h1
 ·rcases h' _ h2 with h3|⟨_,h3⟩
  ·exact .inr ⟨h1,o',z,es,h3,h2'⟩
  ·exact .inr ⟨h1,h3⟩
theorem Rb{st:Nat→St}{vs:Nat→V}(h:∀i,i<R.size→∃o,R[i]? =some o∧ng P E R o (st i) (vs i) (st (i+1))){i:Nat}{k:Key}:∀(m:Nat),i+m≤R.size→
 (∀j o,i≤j→j<i+m→R[j]? =some o→lK E o.op=false∨bL (st (j+1)).st k=bL (st j).st k)→KS k (st i).st (st (i+m)).st
 |0,_,_=>fun _ hx=>.inl hx
 |m+1,hm,hj=>by
  obtain⟨o,ho,ht⟩:=h (i+m) (by omega)
  refine(Rb h m (by omega) (fun j o h1 h2 h3=>hj j o h1 (by omega) h3)).trans ?_
  rcases hj _ o (by omega) (by omega) ho with hs|hs
  ·exact WE ht hs k
  ·intro x hx
   exact .inl (hs.trans hx)
theorem cnt_lt(p q:Nat→Bool):∀(l:List Nat) (i:Nat),(∀x,q x=true→p x=true)→i∈l→p i=true→q i=false→l.countP q<l.countP p
 |[],_,_,h,_,_=>by simp at h
 |x::l,i,h,hi,hp,hq=>by
  rw[List.countP_cons,List.countP_cons]
  have hle:l.countP q≤l.countP p:=List.countP_mono_left (fun y _ hy=>h y hy)
  rcases List.mem_cons.1 hi with rfl|hi
  ·rw[hp,hq];simp;omega
  ·have ih:=cnt_lt p q l i h hi hp hq
   by_cases hx:q x=true
   ·rw[hx,h x hx];simp;exact ih
   ·have:q x=false:=by simpa using hx
    rw[this];simp
    split<;>omega
end
end Go.Ab
namespace Go.Ab
section
variable {P:Program} {E:Md} {N:Nat} {R:Array Oper}
def l8(E:Md)(R:Array Oper)(p:Nat)(listed:Array Bool):Prop:=listed.getD p false=true∧p<R.size∧∃j x,j<p∧R[j]? =some x∧eZ E x.op=true∧listed.getD j false=false
def Raw(P:Program)(R:Array Oper)(p:Nat)(w0 w:World)(σ:Nat→Nat)(S:Store)(β:Hs)(v:Value):Prop:=
 ∃b c ty,v=.pointer (some ⟨b,0,none⟩)∧w.heap[b]? =some (.cells c ty (0,0))∧σ b=0∧w0.heap.size≤b∧¬Own S β b∧
  ∀o t zs,R[p]? =some o→o.op=.alloc t→jF P t=some zs→∀w σ S β,gy w σ S β zs c.toList
open Classical in
noncomputable def qJ(E:Md)(R:Array Oper)(p:Nat)(vs:Nat→V)(listed:Array Bool)(base:List (Nat×V))(t:Nat):V:=
 if l8 E R p listed∧fC R p=some t then .any else j3 R vs (fun i=>listed.getD i false) base R.size t
structure Mid (P:Program) (N:Nat) (E:Md) (R:Array Oper) (p:Nat) (st:Nat→St) (vs:Nat→V) (β0:Hs) (σ0:Nat→Nat) (w0:World) (listed:Array Bool) (a:Act) (w:World):Prop where
 size:listed.size=R.size
 closed:∀i o e,R[i]? =some o→listed.getD i false=true→e∈o.after→Region.binds .any e=true→listed.getD e.on false=true
 rep:∃m,m≤R.size∧(∀i o,R[i]? =some o→eZ E o.op=true→(i=p→¬l8 E R p listed)→(listed.getD i false=true↔i<m))∧∃σ β,a.tmps.size=N∧a.defers=[]∧eF w σ (st m).st β∧
  (∀t,dF w σ (st m).st β (qJ E R p vs listed (st 0).tm t) (a.tmps.getD t undef))∧Step (st 0).st β0 σ0 w0 (st m).st β σ w∧Keep (st 0).st β0 (st m).st β∧
  (l8 E R p listed→m≤p∧∀d,fC R p=some d→Raw P R p w0 w σ (st m).st β (a.tmps.getD d undef))
theorem Ko{o:Oper}{x:Operand}{t:Nat}(hx:x∈o.op.operands)(e:x=.tmp t):t∈o.looksAt R:=by
 subst e
 exact List.mem_append_left _ (List.mem_filterMap.2 ⟨.tmp t,by simpa using hx,rfl⟩)
theorem Ou{o:Oper}{g d:Nat}{want:Bool}(hg:o.guard=some (g,want))(hd:fC R g=some d):d∈o.looksAt R:=by
 refine List.mem_append_right _ ?_
 rw[hg]
 show d∈((R[g]?).bind (·.dst)).toList
 unfold fC at hd
 rw[hd];simp
theorem xU(h:vT E R N=true){i j:Nat}{x y:Oper}(hij:i<j)(hx:R[i]? =some x)(hy:R[j]? =some y)(hc:clash E R x y=true):((masks R.toList []).getD j 0).testBit i=true:=by
 have hj:j<R.size:=(Array.getElem?_eq_some_iff.1 hy).1
 have h1:=List.all_eq_true.1 h j (List.mem_range.2 hj)
 rw[Bool.and_eq_true] at h1
 have h2:=List.all_eq_true.1 h1.2 i (List.mem_range.2 hij)
 rw[hx,hy] at h2
 simp only[hc,Bool.not_true,Bool.or_false] at h2
 exact h2
theorem L8(h:vT E R N=true){i:Nat}{o:Oper}{e:Edge}(ho:R[i]? =some o)(he:e∈o.after)(hb:Region.binds .any e=true):e.on<i:=by
 have hj:i<R.size:=(Array.getElem?_eq_some_iff.1 ho).1
 have h1:=List.all_eq_true.1 h i (List.mem_range.2 hj)
 rw[Bool.and_eq_true,ho] at h1
 have h2:=h1.1
 simp only[Bool.and_eq_true] at h2
 have h3:=List.all_eq_true.1 h2.1 e (by simpa using he)
 simpa [hb] using h3
theorem Ov(h:vT E R N=true){i:Nat}{o:Oper}(ho:R[i]? =some o):∀d,o.dst=some d→d<N:=by
 intro d hd
 have hj:i<R.size:=(Array.getElem?_eq_some_iff.1 ho).1
 have h1:=List.all_eq_true.1 h i (List.mem_range.2 hj)
 rw[Bool.and_eq_true,ho] at h1
 have h2:=h1.1
 simp only[Bool.and_eq_true,hd] at h2
 simpa using h2.2
theorem Rc{x y:Oper}:x.apart R y=y.apart R x:=by
 rw[Bool.eq_iff_iff]
 have key:∀x y:Oper,x.apart R y=true→y.apart R x=true:=fun x y h=>by
  obtain⟨h1,h2,h3⟩:=Oper.apart_spec h
  unfold Oper.apart
  cases hx:x.dst<;>cases hy:y.dst<;>simp
  ·rename_i d;exact h3 d hy
  ·rename_i d;exact h1 d hx
  ·rename_i d d'
   exact⟨⟨h3 d' hy,fun e=>h2 d hx (by rw[hy,e])⟩,h1 d hx⟩
 exact⟨key x y,key y x⟩
theorem Ow{x y:Oper}:lZ E R x y=lZ E R y x:=by
 unfold lZ
 rw[Rc,Bool.and_comm (eZ E x.op)]
def refs(tm:List (Nat×V))(o:Oper)(k:Key):Prop:=∃x∈o.op.operands,Q9 (ev tm x) k
structure L9 (E:Md) (R:Array Oper) (N:Nat) (st:Nat→St) (p:Nat):Prop where
 edge:∀(i:Nat) (o:Oper) (e:Edge),R[i]? =some o→e∈o.after→Region.binds .any e=true→e.on<i
 dst:∀(i:Nat) (o:Oper),R[i]? =some o→∀d,o.dst=some d→d<N
 pair:∀(i j:Nat) (x y:Oper),i<j→R[i]? =some x→R[j]? =some y→lZ E R x y=true→((masks R.toList []).getD j 0).testBit i=true∨(j=p∧eZ E x.op=true∧x.apart R y=true)
 store:∀(i j:Nat) (x o:Oper),i≠j→R[i]? =some x→R[j]? =some o→lK E x.op=true→eZ E o.op=false→ku o.op=false→
  vG R i j=true∨∀k,refs (st j).tm o k→bL (st (i+1)).st k=bL (st i).st k
 pend:∀o,R[p]? =some o→uX o.op=true∧o.guard=none∧(∃d,o.dst=some d)∧∀j y,j≠p→R[j]? =some y→y.apart R o=false→∀i x,i<p→R[i]? =some x→eZ E x.op=true→i<j∧((masks R.toList []).getD j 0).testBit i=true
theorem aaR{st:Nat→St}(h:vT E R N=true):L9 E R N st R.size where
 edge:=fun i o e h1 h2 h3=>L8 h h1 h2 h3
 dst:=fun i o h1=>Ov h h1
 pair:=fun i j x y hij hx hy hc=>.inl (xU h hij hx hy (by
  unfold lZ at hc
  unfold clash
  rw[hc];rfl))
 store:=fun i j x o hij hx ho hs hD hc=>.inl (by
  unfold vG
  by_cases e:i<j
  ·rw[if_pos e]
   exact xU h e hx ho (by unfold clash;rw[hs];simp)
  ·rw[if_neg e]
   exact xU h (show j<i by omega) ho hx (by unfold clash;rw[hs];simp))
 pend:=fun o ho=>by rw[Array.getElem?_eq_none (Nat.le_refl _)] at ho;cases ho
theorem Zv{p:Nat}(h:FB E R p=true):∀o,R[p]? =some o→uX o.op=true∧o.guard=none∧(∃d,o.dst=some d)∧∀j y,j≠p→R[j]? =some y→y.apart R o=false→∀i x,i<p→R[i]? =some x→eZ E x.op=true→i<j∧((masks R.toList []).getD j 0).testBit i=true:=by
 intro o ho
 unfold FB at h
 rw[ho] at h
 simp only[Bool.and_eq_true] at h
 obtain⟨⟨⟨h1,h2⟩,h3⟩,h4⟩:=h
 refine⟨h1,by simpa using h2,Option.isSome_iff_exists.1 h3,fun j y hj hy hap i x hi hx hD=> ?_⟩
 have hjl:j<R.size:=(Array.getElem?_eq_some_iff.1 hy).1
 have h5:=List.all_eq_true.1 h4 j (List.mem_range.2 hjl)
 rw[hy] at h5
 simp only[hap,hj,decide_false,Bool.false_or] at h5
 have h6:=List.all_eq_true.1 h5 i (List.mem_range.2 hi)
 rw[hx] at h6
 simpa [hD] using h6
theorem uY{o:Oper}(h:uX o.op=true):eZ E o.op=true∧lK E o.op=false∧ku o.op=false:=by
 obtain⟨dst,op,ty,pos,after,guard⟩:=o
 cases op<;>simp_all[uX,eZ,oN,lK,xC,ku]
theorem Zw{st:Nat→St}{p:Nat}(h0:zF E R N p=true):L9 E R N st p:=by
 unfold zF at h0
 rw[Bool.and_eq_true] at h0
 obtain⟨hp,h⟩:=h0
 have yN:=Zv hp
 have hpr:∀(i j:Nat) (x y:Oper),i<j→R[i]? =some x→R[j]? =some y→((masks R.toList []).getD j 0).testBit i=true∨(x.apart R y=true∧(j=p∨((eZ E x.op&&eZ E y.op)=false∧lK E x.op=false∧lK E y.op=false))):=by
  intro i j x y hij hx hy
  have hj:j<R.size:=(Array.getElem?_eq_some_iff.1 hy).1
  have h1:=List.all_eq_true.1 h j (List.mem_range.2 hj)
  rw[Bool.and_eq_true] at h1
  have h2:=List.all_eq_true.1 h1.2 i (List.mem_range.2 hij)
  rw[hx,hy] at h2
  simp only[Ua] at h2
  rw[Bool.or_eq_true] at h2
  rcases h2 with h2|h2
  ·exact .inl h2
  ·right
   rw[Bool.not_eq_true',Bool.or_eq_false_iff,Bool.not_eq_false'] at h2
   refine⟨h2.1,?_⟩
   by_cases e:j=p
   ·exact .inl e
   ·right
    have h3:=h2.2
    simp only[e,decide_false,Bool.not_false,Bool.true_and,Bool.or_eq_false_iff] at h3
    exact⟨h3.1.1,h3.1.2,h3.2⟩
 refine⟨?_,?_,?_,?_,yN⟩
 ·intro i o e ho he hb
  have hj:i<R.size:=(Array.getElem?_eq_some_iff.1 ho).1
  have h1:=List.all_eq_true.1 h i (List.mem_range.2 hj)
  rw[Bool.and_eq_true,ho] at h1
  have h2:=h1.1
  simp only[Bool.and_eq_true] at h2
  have h3:=List.all_eq_true.1 h2.1 e (by simpa using he)
  simpa [hb] using h3
 ·intro i o ho d hd
  have hj:i<R.size:=(Array.getElem?_eq_some_iff.1 ho).1
  have h1:=List.all_eq_true.1 h i (List.mem_range.2 hj)
  rw[Bool.and_eq_true,ho] at h1
  have h2:=h1.1
  simp only[Bool.and_eq_true,hd] at h2
  simpa using h2.2
 ·intro i j x y hij hx hy hc
  rcases hpr i j x y hij hx hy with h1|⟨h1,h2⟩
  ·exact .inl h1
  ·rcases h2 with h2|⟨h2,_,_⟩
   ·right
    unfold lZ at hc
    rw[h1] at hc
    simp only[Bool.not_true,Bool.false_or,Bool.and_eq_true] at hc
    exact⟨h2,hc.1,h1⟩
   ·unfold lZ at hc
    rw[h1,h2] at hc
    cases hc
 ·intro i j x o hij hx ho hs hD hc
  have hjp:j≠p:=fun e=>by
   subst e
   have:=(uY (E:=E) (yN o ho).1).1
   rw[hD] at this;cases this
  have Qg:i≠p:=fun e=>by
   subst e
   have:=(uY (E:=E) (yN x hx).1).2.1
   rw[hs] at this;cases this
  left
  unfold vG
  by_cases e:i<j
  ·rw[if_pos e]
   rcases hpr i j x o e hx ho with h1|⟨_,h2⟩
   ·exact h1
   ·rcases h2 with h2|⟨_,h2,_⟩
    ·exact absurd h2 hjp
    ·rw[hs] at h2;cases h2
  ·rw[if_neg e]
   rcases hpr j i o x (by omega) ho hx with h1|⟨_,h2⟩
   ·exact h1
   ·rcases h2 with h2|⟨_,_,h2⟩
    ·exact absurd h2 Qg
    ·rw[hs] at h2;cases h2
theorem Oper.Ub{o:Oper}{a:Act}{w:World}{K:Act→World→Prop}{Q:Exit→Act→World→Prop}(hh:o.wp P a w K Q):o.wp P a w (fun a' w'=>K a' w'∧∀d,o.dst≠some d→a'.tmps.getD d undef=a.tmps.getD d undef) Q:=by
 have key:∀(ds:List Deferred) (v:Value) (d:Nat),o.dst≠some d→(({a with defers:=ds}:Act).put o.dst v).tmps.getD d undef=a.tmps.getD d undef:=by
  intro ds v d hd
  cases ho:o.dst with
  |none=>rfl
  |some e=>
   have hne:e≠d:=fun x=>hd (by rw[ho,x])
   simp only[Act.put,Array.getD_eq_getD_getElem?]
   rw[Array.getElem?_setIfInBounds_ne hne]
 unfold Oper.wp at *
 generalize (execOp a.eval o).run P w=r at *
 cases r with
 |ok n w'=>
  cases n<;>simp only[Oper.upon] at hh ⊢ <;>
   first
    |exact⟨hh,fun d hd=>key _ _ d hd⟩
    |exact Calls.mono hh (fun e w'' he=>by cases e<;>first|exact⟨he,fun d hd=>key _ _ d hd⟩|exact he)
    |exact Rows.mono hh (fun _ _ he=>⟨he,fun d hd=>key _ _ d hd⟩)
 |halt x w'=>cases x<;>simp only[Oper.upon] at hh ⊢ <;>exact hh
theorem BG{a:Act}{dst:Option Nat}{v:Value}{d:Nat}(h:dst≠some d):(a.put dst v).tmps.getD d undef=a.tmps.getD d undef:=by
 cases dst with
 |none=>rfl
 |some e=>
  have hne:e≠d:=fun x=>h (by rw[x])
  simp only[Act.put,Array.getD_eq_getD_getElem?]
  rw[Array.getElem?_setIfInBounds_ne hne]
theorem WG{t:TypeId}{zs:List C}(h:jF P t=some zs):∃z:Value,(∀w,(zeroValue t).run P w=.ok z w)∧∀w σ S β,gy w σ S β zs z.cells.toList:=by
 unfold jF at h
 cases hi:P.info? t with
 |none=>rw[hi] at h;cases h
 |some i=>
  rw[hi] at h
  cases hz:i.zero with
  |none=>simp[hz] at h
  |some z=>
   simp only[Option.bind_some,hz] at h
   split at h
   ·rename_i hall
    cases h
    refine⟨z,fun w=>by simp[zeroValue,typeInfo,hi,hz],fun w σ S β=>⟨by simp,fun j x hx=> ?_⟩⟩
    rw[List.getElem?_map] at hx
    cases hv:z.cells.toList[j]? with
    |none=>rw[hv] at hx;cases hx
    |some v=>
     rw[hv] at hx;cases hx
     exact⟨v,rfl,wU _ _ _ _ _,List.all_eq_true.1 hall v (List.mem_of_getElem? hv)⟩
   ·cases h
theorem WH{w w0:World}{σ σ0:Nat→Nat}{S0:Store}{β0:Hs}{own:List Obj}{Ω:Store}{β:Hs}{zs:List C}{b:Nat}{c:Array Value}{ty:TypeId}(hS:eF w σ (own::Ω) β)(hst:Step S0 β0 σ0 w0 (own::Ω) β σ w)(hb:w.heap[b]? =some (.cells c ty (0,0)))(hσ:σ b=0)
 (h0:w0.heap.size≤b) (hno:¬Own (own::Ω) β b) (hz:∀w σ S β,gy w σ S β zs c.toList):
 ∃bo bΩ,β=bo::bΩ∧bo.length=own.length∧eF w σ ((own++[.box zs])::Ω) ((bo++[Value.pointer (some ⟨b,0,none⟩)])::bΩ)∧Keep (own::Ω) β ((own++[.box zs])::Ω) ((bo++[Value.pointer (some ⟨b,0,none⟩)])::bΩ)∧
  Step S0 β0 σ0 w0 ((own++[.box zs])::Ω) ((bo++[Value.pointer (some ⟨b,0,none⟩)])::bΩ) σ w:=by
 cases β with
 |nil=>have:=hS.shape.1;simp at this
 |cons bo bΩ=>
 have hlen:bo.length=own.length:=by
  obtain⟨gr,g1,g2⟩:=hS.shape.2 0 own rfl
  simp at g1;rw[g1];exact g2
 refine⟨bo,bΩ,rfl,hlen,?_⟩
 have hkeep:Keep (own::Ω) (bo::bΩ) ((own++[.box zs])::Ω) ((bo++[Value.pointer (some ⟨b,0,none⟩)])::bΩ):=by
  intro k o1 h1
  obtain⟨h2,zC,_⟩:=hS.obj k o1 h1
  exact⟨o1,lY _ _ _ _ _ h1,by rw[lY _ _ _ _ _ zC,zC];exact .refl _ _⟩
 have hinv:∀k o1 h1,bL ((own++[Obj.box zs])::Ω) k=some o1→bL ((bo++[Value.pointer (some ⟨b,0,none⟩)])::bΩ) k=some h1→
  (bL (own::Ω) k=some o1∧bL (bo::bΩ) k=some h1)∨(k=(0,own.length)∧o1=.box zs∧h1=Value.pointer (some ⟨b,0,none⟩)):=by
  intro k o1 h1 e1 e2
  rcases nR _ _ _ _ _ e1 with e1|⟨rfl,rfl⟩
  ·left
   refine⟨e1,?_⟩
   rcases nR _ _ _ _ _ e2 with e2|⟨rfl,rfl⟩
   ·exact e2
   ·rw[bP,hlen] at e1
    have:=(List.getElem?_eq_some_iff.1 e1).1
    omega
  ·right
   rw[←hlen,dz] at e2
   exact⟨rfl,rfl,(Option.some.inj e2).symm⟩
 have hown:∀x,Own ((own++[Obj.box zs])::Ω) ((bo++[Value.pointer (some ⟨b,0,none⟩)])::bΩ) x→Own (own::Ω) (bo::bΩ) x∨x=b:=by
  rintro x ⟨k,o,h,e1,e2,e3⟩
  rcases hinv k o h e1 e2 with⟨f1,f2⟩|⟨rfl,rfl,rfl⟩
  ·exact .inl ⟨k,o,h,f1,f2,e3⟩
  ·right;cases e3;rfl
 have hmono:∀k o h,bL (own::Ω) k=some o→bL (bo::bΩ) k=some h→ig w σ ((own::Ω).drop k.1) ((bo::bΩ).drop k.1) o h→ig w σ (((own++[Obj.box zs])::Ω).drop k.1) (((bo++[Value.pointer (some ⟨b,0,none⟩)])::bΩ).drop k.1) o h:=
  fun k o h _ _ hr=>hr.mono (fG.refl _ _) (hkeep.drop _) fun x _=>⟨rfl,rfl⟩
 refine⟨⟨?_,?_,⟨?_,?_⟩,hS.live,hS.rO⟩,hkeep,⟨hst.size,hst.os,hst.output,fun x hx hn=>hst.far x hx hn,hst.near,fun x hx=> ?_⟩⟩
 ·intro k o1 h1
  rcases nR _ _ _ _ _ h1 with h1|⟨rfl,rfl⟩
  ·obtain⟨h2,zC,hr⟩:=hS.obj k o1 h1
   exact⟨h2,lY _ _ _ _ _ zC,hmono k o1 h2 h1 zC hr⟩
  ·exact⟨Value.pointer (some ⟨b,0,none⟩),by rw[←hlen,dz],b,c,ty,rfl,hb,hσ,hz _ _ _ _⟩
 ·intro k k' o1 o2 h1 h2 x e1 e2 e3 e4 e5 e6
  rcases hinv k o1 h1 e1 e2 with⟨f1,f2⟩|⟨rfl,rfl,rfl⟩
  ·rcases hinv k' o2 h2 e4 e5 with⟨g1,g2⟩|⟨rfl,rfl,rfl⟩
   ·exact hS.apart _ _ _ _ _ _ _ f1 f2 e3 g1 g2 e6
   ·cases e6;exact absurd ⟨k,o1,h1,f1,f2,e3⟩ hno
  ·rcases hinv k' o2 h2 e4 e5 with⟨g1,g2⟩|⟨rfl,rfl,rfl⟩
   ·cases e3;exact absurd ⟨k',o2,h2,g1,g2,e6⟩ hno
   ·rfl
 ·have:=hS.shape.1;simpa using this
 ·intro l fr hl
  cases l with
  |zero=>simp at hl;subst hl;exact⟨_,rfl,by simp[hlen]⟩
  |succ l=>exact hS.shape.2 (l+1) fr (by simpa using hl)
 ·rcases hown x hx with h|h
  ·exact hst.own x h
  ·subst h;exact .inr h0
theorem FE{st:Nat→St}{vs:Nat→V}{p:Nat}{o:Oper}{d:Nat}{t:TypeId}(ht:ng P E R o (st p) (vs p) (st (p+1)))(hop:o.op=.alloc t)(hg:o.guard=none)(hd:o.dst=some d):
 ∃zs own Ω,jF P t=some zs∧(st p).st=own::Ω∧(st (p+1)).st=(own++[.box zs])::Ω∧vs p=.c (.ptr (0,own.length) 0):=by
 have hgd:gd R o (st p).tm=some true:=by unfold gd;rw[hg]
 rcases ht with⟨h1,_,_⟩|⟨_,hD,_,_⟩|⟨_,hD,hx,hs',_⟩
 ·rw[hgd] at h1;cases h1
 ·rw[(uY (E:=E) (o:=o) (by rw[hop];rfl)).1] at hD;cases hD
 ·obtain⟨dst,op,ty,pos,after,guard⟩:=o
  simp only at hop hd;subst hop;subst hd
  unfold dQ qM at hx
  simp only at hx
  cases hz:jF P t with
  |none=>rw[hz] at hx;exact hx.elim
  |some zs=>
   rw[hz] at hx
   generalize st (p+1)=s1 at *
   generalize st p=s0 at *
   obtain⟨tm,S⟩:=s0
   simp only[newObj] at hx
   cases S with
   |nil=>exact hx.elim
   |cons own Ω=>
    subst hx
    refine⟨zs,own,Ω,rfl,rfl,rfl,?_⟩
    simp only[St.put,St.mk.injEq,List.cons.injEq,Prod.mk.injEq,and_true,true_and] at hs'
    exact hs'.symm
theorem mid_step{st:Nat→St}{vs:Nat→V}{β0:Hs}{σ0:Nat→Nat}{w0:World}{Q:Exit→Act→World→Prop}{p:Nat}(hok:L9 E R N st p)
 (hT:∀i,i<R.size→∃o,R[i]? =some o∧ng P E R o (st i) (vs i) (st (i+1))) {listed:Array Bool} {a:Act} {w:World} (hM:Mid P N E R p st vs β0 σ0 w0 listed a w) {i:Nat} (hi:i∈Region.ready .any R listed):
 wpOp P R Q i (fun a' w'=>Mid P N E R p st vs β0 σ0 w0 (listed.setIfInBounds i true) a' w') a w:=by
 obtain⟨hun,o,ho,Uc⟩:=mem_ready.1 hi
 have hlt:i<R.size:=(Array.getElem?_eq_some_iff.1 ho).1
 obtain⟨o',ho',ht⟩:=hT i hlt
 rw[ho] at ho';cases ho'
 have Ia:listed.getD i false=false:=by
  have hs:i<listed.size:=by rw[hM.size];exact hlt
  simp[hs] at hun ⊢;exact hun
 obtain⟨m,hm,hmD,σ,β,hsz,hdf,hS,hrT,hst,hkp,yN⟩:=hM.rep
 have hdn:=hok.dst i o ho
 have hset:(listed.setIfInBounds i true).getD i false=true:=by
  have hs:i<listed.size:=by rw[hM.size];exact hlt
  simp[hs]
 have Rf:∀j,(listed.setIfInBounds i true).getD j false=true→j=i∨listed.getD j false=true:=by
  intro j hj
  by_cases e:j=i
  ·exact .inl e
  ·rw[getD_set_ne false (Ne.symm e)] at hj;exact .inr hj
 have acA:∀j,(listed.setIfInBounds i true).getD j false=false→j≠i∧listed.getD j false=false:=by
  intro j hj
  by_cases e:j=i
  ·subst e;rw[hset] at hj;cases hj
  ·rw[getD_set_ne false (Ne.symm e)] at hj;exact⟨e,hj⟩
 have Rh:∀j x k,R[j]? =some x→listed.getD j false=true→((masks R.toList []).getD j 0).testBit k=true→listed.getD k false=true:=fun j x k hx hE hb=>
  JA (fun k=>listed.getD k false=true) hM.closed hok.edge j x hx (fun e he hb=>hM.closed j x e hx hE he hb) k hb
 have BH:∀k,((masks R.toList []).getD i 0).testBit k=true→listed.getD k false=true:=fun k hb=>
  JA (fun k=>listed.getD k false=true) hM.closed hok.edge i o ho (fun e he hb=>Uc e he hb) k hb
 have aaT:l8 E R p listed→i≠p:=fun h e=>by have h1:=h.1;rw[←e,Ia] at h1;cases h1
 have Aj:∀j x e,R[j]? =some x→(listed.setIfInBounds i true).getD j false=true→e∈x.after→Region.binds .any e=true→(listed.setIfInBounds i true).getD e.on false=true:=by
  intro j x e hx hE he hb
  by_cases hji:j=i
  ·subst hji
   rw[ho] at hx;cases hx
   exact getD_set_true (Uc e he hb)
  ·rw[getD_set_ne false (Ne.symm hji)] at hE
   exact getD_set_true (hM.closed j x e hx hE he hb)
 by_cases hA2:i=p∧∃j x,j<p∧R[j]? =some x∧eZ E x.op=true∧listed.getD j false=false
 ·
  obtain⟨rfl,j0,x0,hj0,hx0,hD0,hu0⟩:=hA2
  obtain⟨hal,hgn,⟨d,hd⟩,_⟩:=hok.pend o ho
  obtain⟨ty,hop⟩:∃ty,o.op=.alloc ty:=by
   cases h:o.op<;>rw[h] at hal<;>first|exact⟨_,rfl⟩|cases hal
  obtain⟨zs,own,Ω,hzs,_,_,_⟩:=FE ht hop hgn hd
  obtain⟨z,vS,hzc⟩:=WG hzs
  have hnp:¬l8 E R i listed:=fun h=>by have h1:=h.1;rw[Ia] at h1;cases h1
  have hP':l8 E R i (listed.setIfInBounds i true):=⟨hset,hlt,j0,x0,hj0,hx0,hD0,by rw[getD_set_ne false (by omega)];exact hu0⟩
  have hmp:m≤i:=by
   have h1:=hmD j0 x0 hx0 hD0 (fun _=>hnp)
   rcases Nat.lt_or_ge j0 m with h|h
   ·rw[h1.2 h] at hu0;cases hu0
   ·omega
  have hdi:fC R i=some d:=by simp[fC,ho,hd]
  have hg:=Ac w σ hS.live z.cells ty 0
  unfold wpOp
  rw[ho]
  simp only
  rw[if_pos (by simp[Region.wanted,hgn])]
  left
  have hrun:(execOp a.eval o).run P w=.ok (.value (.pointer (some ⟨w.heap.size,0,none⟩))) {w with heap:=w.heap.push (.cells z.cells ty)}:=by
   have Fu:(newVar ty z).run P w=.ok ⟨w.heap.size,0,none⟩ {w with heap:=w.heap.push (.cells z.cells ty)}:=rfl
   have vS:=vS w
   clear hS hrT hst hkp yN hM hdn ht
   obtain⟨dst,op,ty',pos,after,guard⟩:=o
   simp only at hop;subst hop
   simp[execOp,Instr.alloc,vS,Fu]
  unfold Oper.wp
  rw[hrun]
  show Mid P N E R i st vs β0 σ0 w0 _ (a.put o.dst _) _
  rw[hd]
  have hdN:d<a.tmps.size:=by rw[hsz];exact hdn d hd
  refine⟨by simpa using hM.size,Aj,m,hm,fun j x hx oH hjp=> ?_,fun b=>if b=w.heap.size then 0 else σ b,β,by simp[Act.put,hsz],hdf,hS.grow hg,fun t=> ?_,hst.trans (Step.lJ hg),hkp,fun _=>⟨hmp,fun d' hd'=> ?_⟩⟩
  ·have hji:j≠i:=fun e=>hjp e hP'
   rw[getD_set_ne false (Ne.symm hji)]
   exact hmD j x hx oH fun _=>hnp
  ·unfold qJ
   by_cases e:t=d
   ·subst e
    rw[if_pos ⟨hP',hdi⟩]
    exact trivial
   ·rw[if_neg (fun h=>e (by rw[hdi] at h;exact(Option.some.inj h.2).symm))]
    rw[vH (E':=fun i=>listed.getD i false) R.size (fun j hj hdj=>by
     have hji:j≠i:=fun x=>by rw[x,hdi] at hdj;exact e (Option.some.inj hdj).symm
     exact getD_set_ne false (Ne.symm hji))]
    have h1:=hrT t
    unfold qJ at h1
    rw[if_neg (fun h=>hnp h.1)] at h1
    rw[BG (by intro x;exact e (Option.some.inj x).symm)]
    exact h1.mono hg.near (Keep.refl _ _)
  ·rw[hdi] at hd';cases hd'
   refine⟨w.heap.size,z.cells,ty,by simp[Act.put,Array.getD,hdN],by simp,by simp,hst.size,fun h=> ?_,fun o2 t2 zs2 h1 h2 h3=> ?_⟩
   ·have:=hS.Bv h;omega
   ·rw[ho] at h1;cases h1
    rw[hop] at h2;cases h2
    rw[hzs] at h3;cases h3
    exact hzc
 have hA:i=p→∀j x,j<p→R[j]? =some x→eZ E x.op=true→listed.getD j false=true:=fun e j x hj hx hD=>by
  cases hl:listed.getD j false with
  |true=>rfl
  |false=>exact absurd ⟨e,j,x,hj,hx,hD,hl⟩ hA2
 have hPP:l8 E R p (listed.setIfInBounds i true)→l8 E R p listed:=by
  rintro⟨h1,h2,j,x,hj,hx,hD,hl⟩
  obtain⟨hji,hl⟩:=acA j hl
  rcases Rf p h1 with e|h
  ·rw[hA e.symm j x hj hx hD] at hl;cases hl
  ·exact⟨h,h2,j,x,hj,hx,hD,hl⟩
 have hap:l8 E R p listed→∀po d,R[p]? =some po→po.dst=some d→o.dst≠some d∧d∉o.looksAt R:=by
  rintro hP po d hpo yN
  have Ud:=hP
  obtain⟨_,_,j0,x0,hj0,hx0,hD0,hu0⟩:=Ud
  have:o.apart R po=true:=by
   cases hc:o.apart R po with
   |true=>rfl
   |false=>
    have:=(hok.pend po hpo).2.2.2 i o (aaT hP) ho hc j0 x0 hj0 hx0 hD0
    rw[BH j0 this.2] at hu0;cases hu0
  obtain⟨q1,q2,q3⟩:=Oper.apart_spec this
  exact⟨fun e=>q2 d e yN,q3 d yN⟩
 have Qg:l8 E R p listed→eZ E o.op=true→i<p:=by
  rintro hP hD
  have Ud:=hP
  obtain⟨_,hpl,j0,x0,hj0,hx0,hD0,hu0⟩:=Ud
  have hne:=aaT hP
  rcases Nat.lt_or_ge i p with h|h
  ·exact h
  ·exfalso
   rcases hok.pair j0 i x0 o (by omega) hx0 ho (by simp[lZ,hD,hD0]) with hb|⟨e,_⟩
   ·rw[BH j0 hb] at hu0;cases hu0
   ·exact hne e
 have hbit:∀j x,R[j]? =some x→j≠i→vG R j i=true→(listed.getD j false=true↔j<i):=by
  intro j x hx hne hc
  unfold vG at hc
  constructor
  ·intro hE
   rcases Nat.lt_or_ge j i with h|h
   ·exact h
   ·exfalso
    rw[if_neg (by omega)] at hc
    have:=Rh j x i hx hE hc
    rw[Ia] at this;cases this
  ·intro hji
   rw[if_pos hji] at hc
   exact BH j hc
 have hdone:∀j x,R[j]? =some x→j≠i→(j=p→¬l8 E R p listed)→lZ E R x o=true→(listed.getD j false=true↔j<i):=by
  intro j x hx hne hjp hc
  by_cases e:j<i
  ·rcases hok.pair j i x o e hx ho hc with hb|⟨e1,hD,_⟩
   ·exact hbit j x hx hne (by unfold vG;rw[if_pos e];exact hb)
   ·exact⟨fun _=>e,fun _=>hA e1 j x (by omega) hx hD⟩
  ·rcases hok.pair i j o x (by omega) ho hx (by rw[Ow];exact hc) with hb|⟨e1,hD,_⟩
   ·exact hbit j x hx hne (by unfold vG;rw[if_neg e];exact hb)
   ·refine⟨fun h=>absurd ⟨e1▸h,?_,i,o,by omega,ho,hD,Ia⟩ (hjp e1),fun h=>absurd h e⟩
    rw[←e1];exact(Array.getElem?_eq_some_iff.1 hx).1
 obtain⟨Ma,Mc⟩:∃Ma:List (Nat×V),∀t,look Ma t=j3 R vs (fun i=>listed.getD i false) (st 0).tm R.size t:=by
  have:∀n,∃qb:List (Nat×V),∀t,look qb t=j3 R vs (fun i=>listed.getD i false) (st 0).tm n t:=by
   intro n
   induction n with
   |zero=>exact⟨(st 0).tm,fun t=>rfl⟩
   |succ n ih=>
    obtain⟨tm,h⟩:=ih
    by_cases hE:listed.getD n false=true
    ·cases hd:fC R n with
     |none=>exact⟨tm,fun t=>by rw[j3,if_neg (fun x=>by rw[hd] at x;cases x.2)];exact h t⟩
     |some d=>
      refine⟨(n |> vs |> fun v=>(d,v))::tm,fun t=> ?_⟩
      rw[j3,look,hd,h t]
      by_cases e:d=t
      ·rw[if_pos e,if_pos ⟨hE,by rw[e]⟩]
      ·rw[if_neg e,if_neg (fun x=>e (Option.some.inj x.2))]
    ·exact⟨tm,fun t=>by rw[j3,if_neg (fun x=>hE x.1)];exact h t⟩
  exact this R.size
 obtain⟨qb,WI⟩:∃qb:List (Nat×V),∀t,look qb t=qJ E R p vs listed (st 0).tm t:=by
  by_cases hP:l8 E R p listed
  ·cases hd:fC R p with
   |none=>exact⟨Ma,fun t=>by unfold qJ;rw[if_neg (fun h=>by rw[hd] at h;cases h.2)];exact Mc t⟩
   |some d=>
    refine⟨(d,.any)::Ma,fun t=> ?_⟩
    unfold qJ
    rw[look,hd]
    by_cases e:d=t
    ·rw[if_pos e,if_pos ⟨hP,by rw[e]⟩]
    ·rw[if_neg e,if_neg (fun x=>e (Option.some.inj x.2))];exact Mc t
  ·exact⟨Ma,fun t=>by unfold qJ;rw[if_neg (fun h=>hP h.1)];exact Mc t⟩
 have hPd:∀t,l8 E R p listed→fC R p=some t→∃po,R[p]? =some po∧po.dst=some t:=by
  intro t _ h
  unfold fC at h
  cases hpo:R[p]? with
  |none=>rw[hpo] at h;cases h
  |some po=>rw[hpo] at h;exact⟨po,rfl,h⟩
 have Y0:∀t∈o.looksAt R,look qb t=look (st i).tm t:=by
  intro t htl
  rw[WI]
  unfold qJ
  rw[if_neg (fun h=>by
   obtain⟨po,h1,h2⟩:=hPd t h.1 h.2
   exact(hap h.1 po t h1 h2).2 htl),vV hT t i (by omega)]
  have:=zf (R:=R) (vs:=vs) (E:=fun i=>listed.getD i false) (base:=(st 0).tm) (t:=t) (i:=i) R.size (fun j hj hd=>by
   by_cases e:j=i
   ·subst e;rw[Ia];simp
   ·obtain⟨x,hx⟩:∃x,R[j]? =some x:=⟨_,Array.getElem?_eq_getElem hj⟩
    have hxd:x.dst=some t:=by simpa [fC,hx] using hd
    refine hdone j x hx e (fun e2 hP=> ?_) ?_
    ·subst e2
     exact(hap hP x t hx hxd).2 htl
    ·have:x.apart R o=false:=by
      cases hap:x.apart R o with
      |false=>rfl
      |true=>exact absurd htl ((Oper.apart_spec hap).1 t hxd)
     simp[lZ,this])
  rw[this,show min R.size i=i from by omega]
 have hR:jM N ⟨qb,(st m).st⟩ a w σ β:=⟨hsz,hdf,hS,fun t=>by show dF w σ (st m).st β (look qb t) _;rw[WI];exact hrT t⟩
 have hev:∀x∈o.op.operands,ev (st i).tm x=ev qb x:=by
  intro x hx
  cases x with
  |tmp t=>show look _ t=look _ t;rw[Y0 t (Ko hx rfl)]
  |_=>rfl
 have hgd:gd R o qb=gd R o (st i).tm:=by
  unfold gd
  cases hg:o.guard with
  |none=>rfl
  |some gw=>
   obtain⟨g,want⟩:=gw
   simp only
   cases hd:fC R g with
   |none=>rfl
   |some d=>
    simp only[Option.map_some]
    rw[Y0 d (Ou hg hd)]
 have aez:∀(S':Store) (t:Nat),j3 R vs (fun i_1=>(listed.setIfInBounds i true).getD i_1 false) (st 0).tm R.size t=look (St.put ⟨Ma,S'⟩ o.dst (vs i)).tm t:=by
  intro S' t
  by_cases hd:o.dst=some t
  ·have hdi:fC R i=some t:=by simp[fC,ho,hd]
   rw[Ai (E:=fun i_1=>(listed.setIfInBounds i true).getD i_1 false) hset hdi R.size hlt (fun j hj hij hdj=>by
    obtain⟨x,hx⟩:∃x,R[j]? =some x:=⟨_,Array.getElem?_eq_getElem hj⟩
    have hxd:x.dst=some t:=by simpa [fC,hx] using hdj
    have WJ:x.apart R o=false:=by
     cases hap:x.apart R o with
     |false=>rfl
     |true=>exact absurd hd ((Oper.apart_spec hap).2.1 t hxd)
    have:=hdone j x hx (by omega) (fun e hP=>by
     subst e
     exact(hap hP x t hx hxd).1 hd) (by simp[lZ,WJ])
    rw[getD_set_ne false (by omega)]
    cases hE:listed.getD j false with
    |false=>rfl
    |true=>exact absurd (this.1 hE) (by omega))]
   rw[hd]
   simp[St.put,look]
  ·have hdi:fC R i≠some t:=by simp only[fC,ho,Option.bind_some];exact hd
   rw[vH (E':=fun i=>listed.getD i false) R.size (fun j hj hdj=>by
    have hji:j≠i:=fun e=>hdi (e▸hdj)
    exact getD_set_ne false (Ne.symm hji)),←Mc t]
   cases hdd:o.dst with
   |none=>rfl
   |some d=>
    have hne:d≠t:=fun e=>hd (by rw[hdd,e])
    simp[St.put,look,hne]
 have WK:∀(S':Store) (t:Nat),¬(l8 E R p listed∧fC R p=some t)→look (St.put ⟨qb,S'⟩ o.dst (vs i)).tm t=j3 R vs (fun i_1=>(listed.setIfInBounds i true).getD i_1 false) (st 0).tm R.size t:=by
  intro S' t hn
  rw[aez S' t]
  have h1:look qb t=look Ma t:=by rw[WI,Mc];unfold qJ;rw[if_neg hn]
  cases hdd:o.dst with
  |none=>exact h1
  |some d=>simp only[St.put,look,h1]
 have fin:∀(m':Nat) (a':Act) (w':World) (σ':Nat→Nat) (β':Hs),m'≤R.size→(∀j x,R[j]? =some x→eZ E x.op=true→(j=p→¬l8 E R p listed)→((listed.setIfInBounds i true).getD j false=true↔j<m'))→
  (l8 E R p listed→m'≤p)→(∀d,o.dst≠some d→a'.tmps.getD d undef=a.tmps.getD d undef)→
  jM N (St.put ⟨qb,(st m').st⟩ o.dst (vs i)) a' w' σ' β'→Step (st m).st β σ w (st m').st β' σ' w'→Keep (st m).st β (st m').st β'→Mid P N E R p st vs β0 σ0 w0 (listed.setIfInBounds i true) a' w':=by
  intro m' a' w' σ' β' hm' hD' hmp ha' hR' hst' uW
  have hS':=hR'.S
  have hT':=hR'.T
  rw[kr] at hS' hT'
  by_cases hP:l8 E R p listed
  ·obtain⟨_,hraw⟩:=yN hP
   have Ud:=hP
   obtain⟨hp1,hp2,j0,x0,hj0,hx0,hD0,hu0⟩:=Ud
   obtain⟨po,hpo⟩:∃po,R[p]? =some po:=⟨_,Array.getElem?_eq_getElem hp2⟩
   obtain⟨hal,hgn,⟨d,hd⟩,acB⟩:=hok.pend po hpo
   have hdp:fC R p=some d:=by simp[fC,hpo,hd]
   have hod:=hap hP po d hpo hd
   have hraw:=hraw d hdp
   obtain⟨b,c,ty',hv,hb,hσ,h0,hno,hzc⟩:=hraw
   have hbl:b<w.heap.size:=lt_of_some hb
   have hb':w'.heap[b]? =some (.cells c ty' (0,0)):=by rw[(hst'.far b hbl hno).1];exact hb
   have hσ':σ' b=0:=by rw[(hst'.far b hbl hno).2];exact hσ
   have hno':¬Own (st m').st β' b:=fun h=>(hst'.own b h).elim hno (fun h=>by omega)
   have hv':a'.tmps.getD d undef=.pointer (some ⟨b,0,none⟩):=(ha' d hod.1).trans hv
   have acC:Raw P R p w0 w' σ' (st m').st β' (a'.tmps.getD d undef):=⟨b,c,ty',hv',hb',hσ',h0,hno',hzc⟩
   by_cases hP':l8 E R p (listed.setIfInBounds i true)
   ·refine⟨by simpa using hM.size,Aj,m',hm',fun j x hx oH hjp=>hD' j x hx oH (fun e=>absurd hP' (hjp e)),σ',β',hR'.size,hR'.defers,hS',fun t=> ?_,hst.trans hst',hkp.trans uW,fun _=>⟨hmp hP,fun d' hd'=>by rw[hdp] at hd';cases hd';exact acC⟩⟩
    unfold qJ
    by_cases e:fC R p=some t
    ·rw[if_pos ⟨hP',e⟩];exact trivial
    ·rw[if_neg (fun h=>e h.2),←WK (st m').st t (fun h=>e h.2)]
     exact hT' t
   ·
    have hpl:(listed.setIfInBounds i true).getD p false=true:=getD_set_true hp1
    have hall:∀j x,j<p→R[j]? =some x→eZ E x.op=true→(listed.setIfInBounds i true).getD j false=true:=fun j x hj hx hD=>by
     cases hl:(listed.setIfInBounds i true).getD j false with
     |true=>rfl
     |false=>exact absurd ⟨hpl,hp2,j,x,hj,hx,hD,hl⟩ hP'
    have aaV:∀j x,p<j→R[j]? =some x→eZ E x.op=true→(listed.setIfInBounds i true).getD j false=false:=fun j x hj hx hD=>by
     cases hl:(listed.setIfInBounds i true).getD j false with
     |false=>rfl
     |true=>
      exfalso
      rcases hok.pair j0 j x0 x (by omega) hx0 hx (by simp[lZ,hD,hD0]) with hbt|⟨e,_⟩
      ·rcases Rf j hl with e|hl
       ·subst e
        rw[BH j0 hbt] at hu0;cases hu0
       ·rw[Rh j x j0 hx hl hbt] at hu0;cases hu0
      ·omega
    have agB:=hmp hP
    have hsm:(st p).st=(st m').st:=by
     have:=zG hT (i:=m') (p-m') (by omega) (fun j x h1 h2 h3=>by
      cases oH:eZ E x.op with
      |false=>rfl
      |true=>
       have:=(hD' j x h3 oH (fun e=>by omega)).1 (hall j x (by omega) h3 oH)
       omega)
     rwa [show m'+(p-m')=p from by omega] at this
    obtain⟨po',aaW,htp⟩:=hT p hp2
    rw[hpo] at aaW;cases aaW
    obtain⟨ty,hop⟩:∃ty,po.op=.alloc ty:=by
     cases h:po.op<;>rw[h] at hal<;>first|exact⟨_,rfl⟩|cases hal
    obtain⟨zs,own,Ω,hzs,hs0,hs1,hvp⟩:=FE htp hop hgn hd
    rw[hsm] at hs0
    have Me:=hst.trans hst'
    have aaX:=hkp.trans uW
    rw[hs0] at hS' hT' Me aaX hno'
    obtain⟨bo,bΩ,rfl,hlen,q1,q2,q3⟩:=WH hS' Me hb' hσ' h0 hno' (hzc po ty zs hpo hop hzs)
    rw[←hs1] at q1 q2 q3
    refine⟨by simpa using hM.size,Aj,p+1,by omega,fun j x hx oH _=> ?_,σ',_,hR'.size,hR'.defers,q1,fun t=> ?_,q3,aaX.trans q2,fun h=>absurd h hP'⟩
    ·rcases Nat.lt_trichotomy j p with h|h|h
     ·exact⟨fun _=>by omega,fun _=>hall j x h hx oH⟩
     ·subst h;exact⟨fun _=>by omega,fun _=>hpl⟩
     ·rw[aaV j x h hx oH];exact⟨fun h=>(by cases h),fun h=>by omega⟩
    ·unfold qJ
     rw[if_neg (fun h=>hP' h.1)]
     by_cases e:t=d
     ·subst e
      rw[Ai (E:=fun i_1=>(listed.setIfInBounds i true).getD i_1 false) hpl hdp R.size hp2 (fun j hj hpj hdj=>by
       obtain⟨x,hx⟩:∃x,R[j]? =some x:=⟨_,Array.getElem?_eq_getElem hj⟩
       have hxd:x.dst=some t:=by simpa [fC,hx] using hdj
       have WJ:x.apart R po=false:=by
        cases hap:x.apart R po with
        |false=>rfl
        |true=>exact absurd hd ((Oper.apart_spec hap).2.1 t hxd)
       have hbt:=acB j x (by omega) hx WJ j0 x0 hj0 hx0 hD0
       cases hl:(listed.setIfInBounds i true).getD j false with
       |false=>rfl
       |true=>
        exfalso
        rcases Rf j hl with e|hl
        ·subst e
         rw[BH j0 hbt.2] at hu0;cases hu0
        ·rw[Rh j x j0 hx hl hbt.2] at hu0;cases hu0),hvp,hv',hs1]
      exact Qc hlen
     ·rw[←WK (st m').st t (fun h=>e (by rw[hdp] at h;exact(Option.some.inj h.2).symm))]
      have h1:=hT' t
      rw[hs0]
      exact h1.mono (fG.refl _ _) q2
  ·have hP':¬l8 E R p (listed.setIfInBounds i true):=fun h=>hP (hPP h)
   refine⟨by simpa using hM.size,Aj,m',hm',fun j x hx oH _=>hD' j x hx oH (fun _=>hP),σ',β',hR'.size,hR'.defers,hS',fun t=> ?_,hst.trans hst',hkp.trans uW,fun h=>absurd h hP'⟩
   unfold qJ
   rw[if_neg (fun h=>hP' h.1),←WK (st m').st t (fun h=>hP h.1)]
   exact hT' t
 have keepD:eZ E o.op=false→∀j x,R[j]? =some x→eZ E x.op=true→(j=p→¬l8 E R p listed)→((listed.setIfInBounds i true).getD j false=true↔j<m):=by
  intro hD j x hx oH hjp
  have hji:j≠i:=fun e=>by rw[e,ho] at hx;cases hx;rw[hD] at oH;cases oH
  rw[getD_set_ne false (Ne.symm hji)]
  exact hmD j x hx oH hjp
 have hmP:l8 E R p listed→m≤p:=fun h=>(yN h).1
 have quiet:∀(w':World) (σ':Nat→Nat) (v:Value),eZ E o.op=false→Grow w σ w' σ'→dF w' σ' (st m).st β (vs i) v→Mid P N E R p st vs β0 σ0 w0 (listed.setIfInBounds i true) (a.put o.dst v) w':=by
  intro w' σ' v hD hg hv
  exact fin m _ w' σ' β hm (keepD hD) hmP (fun d hd=>BG hd) (xB hdn hsz hdf (hS.grow hg) (hR.T.mono hg.near (Keep.refl _ _)) hv) (Step.lJ hg) (Keep.refl _ _)
 have hDs:eZ E o.op=true→∀j x,R[j]? =some x→eZ E x.op=true→(j=p→¬l8 E R p listed)→(listed.getD j false=true↔j<i):=by
  intro hD j x hx oH hjp
  by_cases e:j=i
  ·subst e;rw[Ia];simp
  ·exact hdone j x hx e hjp (by simp[lZ,hD,oH])
 have hsame:eZ E o.op=true→(st m).st=(st i).st:=by
  intro hD
  have hno:∀j x,R[j]? =some x→(i≤j∧j<m∨m≤j∧j<i)→eZ E x.op=false:=by
   intro j x hx hj
   cases oH:eZ E x.op with
   |false=>rfl
   |true=>
    have hjp:j=p→¬l8 E R p listed:=fun e hP=>by
     have:=Qg hP hD
     have:=hmP hP
     omega
    have h1:=hDs hD j x hx oH hjp
    have h2:=hmD j x hx oH hjp
    rcases hj with hj|hj
    ·have:=h1.1 (h2.2 hj.2);omega
    ·have:=h2.1 (h1.2 hj.2);omega
  rcases Nat.le_total i m with h|h
  ·have:=zG hT (i:=i) (m-i) (by omega) (fun j x h1 h2 h3=>hno j x h3 (.inl ⟨h1,by omega⟩))
   rwa [show i+(m-i)=m from by omega] at this
  ·have:=zG hT (i:=m) (i-m) (by omega) (fun j x h1 h2 h3=>hno j x h3 (.inr ⟨h1,by omega⟩))
   rw[show m+(i-m)=i from by omega] at this
   exact this.symm
 have Ue:eZ E o.op=true→∀j x,R[j]? =some x→eZ E x.op=true→(j=p→¬l8 E R p listed)→((listed.setIfInBounds i true).getD j false=true↔j<i+1):=by
  intro hD j x hx oH hjp
  by_cases e:j=i
  ·subst e;rw[hset];simp
  ·rw[getD_set_ne false (Ne.symm e),hDs hD j x hx oH hjp];omega
 have hiP:eZ E o.op=true→l8 E R p listed→i+1≤p:=fun hD hP=>Qg hP hD
 unfold wpOp
 rw[ho]
 simp only
 have hRR:jM N ⟨qb,(st m).st⟩ a w σ β:=hR
 rcases ht with⟨hg,hv,hs'⟩|⟨hg,hD,hv,hs'⟩|⟨hg,hD,hx,hs',_⟩
 ·
  have hw:Region.wanted o (yielded R a.tmps)=false:=by
   rw[←hgd] at hg
   unfold gd at hg
   split at hg
   ·cases hg
   ·rename_i j want hgu
    split at hg
    ·rename_i x hx
     have hy:=xS (s:=⟨qb,(st m).st⟩) hRR hx
     have hne:x≠want:=by
      intro e
      rw[e] at hg
      simp at hg
     simp[Region.wanted,hgu,hy,hne]
    ·rename_i hx
     have hy:=Bc (s:=⟨qb,(st m).st⟩) hRR hx
     simp[Region.wanted,hgu,hy]
    ·cases hg
  rw[if_neg (by rw[hw];simp)]
  have hvu:dF w σ (st m).st β (vs i) undef:=by rw[hv];exact sO
  by_cases hD:eZ E o.op=true
  ·have hsm:=hsame hD
   have hs1:(st (i+1)).st=(st m).st:=by rw[hsm,hs'];cases o.dst<;>rfl
   refine fin (i+1) _ w σ β hlt (Ue hD) (hiP hD) (fun d hd=>BG hd) (by rw[hs1];exact xB hdn hsz hdf hS hR.T hvu) (by rw[hs1];exact Step.lJ (Grow.refl hS.live)) (by rw[hs1];exact Keep.refl _ _)
  ·exact quiet w σ undef (by simpa using hD) (Grow.refl hS.live) hvu
 all_goals
  have hw:Region.wanted o (yielded R a.tmps)=true:=by
   rw[←hgd] at hg
   unfold gd at hg
   split at hg
   ·rename_i hgu;simp[Region.wanted,hgu]
   ·rename_i j want hgu
    split at hg
    ·rename_i x hx
     have hy:=xS (s:=⟨qb,(st m).st⟩) hRR hx
     simp at hg
     simp[Region.wanted,hgu,hy,hg]
    ·cases hg
    ·cases hg
  rw[if_pos hw]
  left
 ·
  rcases hv with⟨c,hc,hcn⟩|⟨hcond,hval⟩
  ·have hcn':=Ww (tm':=qb) (fun x hx=>hev x (by rw[hc];exact hx)) hcn
   unfold Ah at hcn'
   split at hcn'
   ·rename_i x hcx
    split at hcn'
    ·rename_i f caps hex
     have hcall:mH P c ⟨qb,(st m).st⟩ o.dst (fun t=>t=St.put ⟨qb,(st m).st⟩ o.dst (vs i)):=by
      unfold mH
      rw[hcx]
      simp only[hex]
      exact .inl ⟨_,hcn' (st m).st,fun r S' hp=>by rw[hp.1,hp.2]⟩
     refine Oper.wp_mono ?_ (Oper.Ub (Fv (Q:=Q) hc hdn hRR hcall))
     rintro a' w' ⟨⟨s'',σ',β',hR',hst',uW,hK⟩,ha'⟩
     subst hK
     rw[kr] at hst' uW
     exact fin m a' w' σ' β' hm (keepD hD) hmP ha' hR' hst' uW
    ·exact hcn'.elim
   ·exact hcn'.elim
  ·have hcv:ku o.op=false:=by
    cases hc:ku o.op with
    |false=>rfl
    |true=>
     exfalso
     unfold ku at hc
     split at hc
     ·rename_i x b c hop
      rw[hop] at hcond
      exact gB hcond
     ·cases hc
   have Y1:∀k,refs (st i).tm o k→∀j x,R[j]? =some x→(i≤j∧j<m∨m≤j∧j<i)→lK E x.op=false∨bL (st (j+1)).st k=bL (st j).st k:=by
    intro k hk j x hx hj
    cases hs:lK E x.op with
    |false=>exact .inl rfl
    |true=>
     have oH:eZ E x.op=true:=TY hs
     have hji:j≠i:=fun e=>by rw[e,ho] at hx;cases hx;rw[hD] at oH;cases oH
     rcases hok.store j i x o hji hx ho hs hD hcv with hb|hb
     ·have h1:=hbit j x hx hji hb
      have h2:=hmD j x hx oH (fun e=>by
       subst e
       have:=(uY (E:=E) (hok.pend x hx).1).2.1
       rw[hs] at this;cases this)
      rcases hj with hj|hj
      ·have:=h1.1 (h2.2 hj.2);omega
      ·have:=h2.1 (h1.2 hj.2);omega
     ·exact .inr (hb k hk)
   have e1:=Zq (P:=P) (S:=(st i).st) (tm:=(st i).tm) (tm':=qb) (op:=o.op) hev
   rw[e1] at hcond hval
   have e2:=Wx (P:=P) (l:=qL (st i).st) (S:=(st i).st) (S':=(st m).st) (tm:=qb) (op:=o.op) hcond (by
    intro x hx k hk ob TT hbr
    have hrf:refs (st i).tm o k:=⟨x,hx,by rw[hev x hx];exact hk⟩
    rcases Nat.le_total i m with h|h
    ·have hds:=Rb hT (i:=i) (k:=k) (m-i) (by omega) (fun j x h1 h2 h3=>Y1 k hrf j x h3 (.inl ⟨h1,by omega⟩))
     rw[show i+(m-i)=m from by omega] at hds
     rcases hds ob TT with h'|⟨⟨z,es,e⟩,_⟩
     ·exact h'
     ·rcases e with e|⟨_,e⟩<;>rw[e] at hbr<;>exact hbr.elim
    ·have hds:=Rb hT (i:=m) (k:=k) (i-m) (by omega) (fun j x h1 h2 h3=>Y1 k hrf j x h3 (.inr ⟨h1,by omega⟩))
     rw[show m+(i-m)=i from by omega] at hds
     have hrx:=jU (a:=a) hR.T x
     have hin:∃o',bL (st m).st k=some o':=by
      rcases hk with⟨off,e⟩|⟨i',off,e⟩|e|e|⟨r',p',e⟩|⟨r',p',z',i',off,e⟩<;>rw[show ev (⟨qb,(st m).st⟩:St).tm x=ev qb x from rfl,e] at hrx<;>obtain⟨⟨o',ho',_⟩,_⟩:=hrx<;>exact⟨o',ho'⟩
     obtain⟨o',ho'⟩:=hin
     rcases hds o' ho' with h'|⟨_,o2,z,es,h',e⟩
     ·rw[TT] at h';cases h';exact ho'
     ·rw[TT] at h';cases h'
      rcases e with e|⟨_,e⟩<;>rw[e] at hbr<;>exact hbr.elim)
   have aaZ:(pF P (qL (st i).st) (st m).st qb o.op).1:=by rw[e2];exact hcond
   have hval':vs i=(pF P (qL (st i).st) (st m).st qb o.op).2:=by rw[e2];exact hval
   obtain⟨v,w',σ',hrun,hgr,Ju⟩:=DJ (P:=P) _ o hS hR.T aaZ
   unfold Oper.wp
   rw[hrun]
   exact quiet w' σ' v hD hgr (by rw[hval'];exact Ju)
 ·have hsm:=hsame hD
  have hx':dQ P o ⟨(st i).tm,(st i).st⟩ (fun t=>t=St.put ⟨(st i).tm,(st (i+1)).st⟩ o.dst (vs i)):=by
   rw[hs'] at hx
   exact hx
  have hx2:=Wv hD hev hx'
  rw[←hsm] at hx2
  refine Oper.wp_mono ?_ (Oper.Ub (Ae (Q:=Q) hdn hRR hx2))
  rintro a' w' ⟨⟨s'',σ',β',hR',hst',uW,hK⟩,ha'⟩
  subst hK
  rw[kr] at hst' uW
  exact fin (i+1) a' w' σ' β' hlt (Ue hD) (hiP hD) ha' hR' hst' uW
theorem Zx{st:Nat→St}{vs:Nat→V}{β0:Hs}{σ0:Nat→Nat}{w0:World}{Q:Exit→Act→World→Prop}{p:Nat}(hok:L9 E R N st p)
 (hT:∀i,i<R.size→∃o,R[i]? =some o∧ng P E R o (st i) (vs i) (st (i+1))) (hQ:∀listed a w,Mid P N E R p st vs β0 σ0 w0 listed a w→(∀i,i<R.size→listed.getD i false=true)→Q .normal a w):
 ∀(fuel:Nat) (listed:Array Bool) (a:Act) (w:World),(List.range R.size).countP (fun i=> !listed.getD i false)≤fuel→Mid P N E R p st vs β0 σ0 w0 listed a w→wpAny P .any R Q fuel listed a w:=by
 have hend:∀listed a w,Mid P N E R p st vs β0 σ0 w0 listed a w→Region.ready .any R listed=[]→Q .normal a w:=by
  intro listed a w hM hr
  refine hQ listed a w hM ?_
  intro i
  induction i using Nat.strongRecOn with
  |_ i ih=>
   intro hi
   cases hE:listed.getD i false with
   |true=>rfl
   |false=>
    exfalso
    have ho:R[i]? =some R[i]:=Array.getElem?_eq_getElem hi
    have:i∈Region.ready .any R listed:=by
     rw[mem_ready]
     have hs:i<listed.size:=by rw[hM.size];exact hi
     refine⟨by simp[hs] at hE ⊢;exact hE,_,ho,fun e he hb=> ?_⟩
     have hon:=hok.edge i _ e ho he hb
     exact ih e.on hon (by omega)
    rw[hr] at this
    simp at this
 intro fuel
 induction fuel with
 |zero=>
  intro listed a w hc hM
  have hnone:Region.ready .any R listed=[]:=by
   cases hr:Region.ready .any R listed with
   |nil=>rfl
   |cons i l=>
    exfalso
    have hi:i∈Region.ready .any R listed:=by rw[hr];simp
    obtain⟨hun,o,ho,_⟩:=mem_ready.1 hi
    have hlt:=(Array.getElem?_eq_some_iff.1 ho).1
    have hs:i<listed.size:=by rw[hM.size];exact hlt
    have hz:(List.range R.size).countP (fun i=> !listed.getD i false)=0:=by omega
    rw[List.countP_eq_zero] at hz
    have:=hz i (List.mem_range.2 hlt)
    simp[hs] at hun this
    rw[hun] at this;cases this
  exact⟨hnone,hend listed a w hM hnone⟩
 |succ fuel ih=>
  intro listed a w hc hM
  refine⟨hend listed a w hM,fun i hi=> ?_⟩
  refine wpOp_mono (fun a' w' hM'=>ih _ a' w' ?_ hM') (mid_step hok hT hM hi)
  obtain⟨hun,o,ho,_⟩:=mem_ready.1 hi
  have hlt:=(Array.getElem?_eq_some_iff.1 ho).1
  have hs:i<listed.size:=by rw[hM.size];exact hlt
  have:=cnt_lt (fun j=> !listed.getD j false) (fun j=> !(listed.setIfInBounds i true).getD j false) (List.range R.size) i (fun x hx=>by
   by_cases e:x=i
   ·subst e;simp[hs] at hx
   ·rw[getD_set_ne false (Ne.symm e)] at hx;exact hx) (List.mem_range.2 hlt) (by simp[hs] at hun ⊢;exact hun) (by simp[hs])
  omega
theorem El{id:Nat}{Q:Exit→St→Prop}{s:St}(jv:P.follows .mixedOrders=true){st:Nat→St}{vs:Nat→V}(h0:st 0=s)(hK:Q .normal (st R.size))
 (hT':∀i,i<R.size→∃o,R[i]? =some o∧ng P E R o (st i) (vs i) (st (i+1))) {p:Nat} (hok:L9 E R N st p):AW P N (.region id R true) Q s:=by
 intro a w σ β hR
 refine wp_region_any jv ?_
 have hgd:Grow w σ {w with drawn:=w.drawn+1} σ:=⟨Nat.le_refl _,rfl,rfl,fun _ _=>⟨rfl,rfl⟩,hR.S.live⟩
 refine Zx (N:=N) (β0:=β) (σ0:=σ) (w0:=w) hok hT' (fun listed a' w' hM hall=> ?_) R.size _ a _ ?_ ?_
 ·obtain⟨m,hm,hmD,σ',β',hsz,hdf,hS,hT2,hst,hkp,_⟩:=hM.rep
  have hnP:¬l8 E R p listed:=by
   rintro⟨_,_,j,x,hj,hx,_,hl⟩
   rw[hall j (Array.getElem?_eq_some_iff.1 hx).1] at hl;cases hl
  have hsm:(st R.size).st=(st m).st:=by
   have:=zG hT' (i:=m) (R.size-m) (by omega) (fun j x h1 h2 h3=>by
    cases oH:eZ E x.op with
    |false=>rfl
    |true=>have:=(hmD j x h3 oH (fun _=>hnP)).1 (hall j (Array.getElem?_eq_some_iff.1 h3).1);omega)
   rwa [show m+(R.size-m)=R.size from by omega] at this
  rw[h0] at hst hkp
  refine⟨st R.size,σ',β',⟨hsz,hdf,by rw[hsm];exact hS,fun t=> ?_⟩,by rw[hsm];exact hst,by rw[hsm];exact hkp.tail,hK⟩
  rw[vV hT' t R.size (Nat.le_refl _),hsm]
  have:=hT2 t
  unfold qJ at this
  rw[if_neg (fun h=>hnP h.1)] at this
  rw[vH (E':=fun _=>true) R.size (fun j hj _=>hall j hj)] at this
  exact this
 ·calc (List.range R.size).countP _≤(List.range R.size).length:=List.countP_le_length
   _=R.size:=List.length_range
 ·refine⟨by simp,fun i o e ho hE _ _=> ?_,0,Nat.zero_le _,fun i o ho _=> ?_,σ,β,hR.size,hR.defers,by rw[h0];exact hR.S.grow hgd,fun t=> ?_,by rw[h0];exact Step.lJ hgd,Keep.refl _ _,fun h=>by have h1:=h.1;rw[getD_replicate_false] at h1;cases h1⟩
  ·rw[getD_replicate_false] at hE;cases hE
  ·rw[getD_replicate_false];simp
  ·have:j3 R vs (fun i=>(Array.replicate R.size false).getD i false) (st 0).tm R.size t=look (st 0).tm t:=by
    have:=zf (R:=R) (vs:=vs) (E:=fun i=>(Array.replicate R.size false).getD i false) (base:=(st 0).tm) (t:=t) (i:=0) R.size (fun j _ _=>by rw[getD_replicate_false];simp)
    rw[this,Nat.min_zero];rfl
   unfold qJ
   rw[if_neg (fun h=>by have h1:=h.1.1;rw[getD_replicate_false] at h1;cases h1),this,h0]
   exact(hR.T t).mono hgd.near (Keep.refl _ _)
theorem Zy{id:Nat}{Q:Exit→St→Prop}{s:St}(jv:P.follows .mixedOrders=true)(hok:vT E R N=true)(h:qF P E R R.toList s (Q .normal)):AW P N (.region id R true) Q s:=by
 obtain⟨st,vs,h0,hK,hT⟩:=Ej R.size 0 (by omega) s h
 exact El jv h0 hK (fun i hi=>hT i (Nat.zero_le i) hi) (aaR hok)
theorem WL{id p:Nat}{Q:Exit→St→Prop}{s:St}(jv:P.follows .mixedOrders=true)(hok:zF E R N p=true)(h:qF P E R R.toList s (Q .normal)):AW P N (.region id R true) Q s:=by
 obtain⟨st,vs,h0,hK,hT⟩:=Ej R.size 0 (by omega) s h
 exact El jv h0 hK (fun i hi=>hT i (Nat.zero_le i) hi) (Zw hok)
theorem Ri{id:Nat}{Q:Exit→St→Prop}{s:St}(jv:P.follows .mixedOrders=true)(hok:H9 R N=true)(h:qF P (FD R N) R R.toList s (Q .normal)):AW P N (.region id R true) Q s:=by
 unfold H9 at hok
 rw[Bool.or_eq_true] at hok
 rcases hok with hok|hok
 ·exact Zy jv hok h
 ·split at hok
  ·exact WL jv hok h
  ·cases hok
theorem Rj{v w:V}(h:Ra v w=true){k k':Key}(hv:(∃off,v=.c (.ptr k' off))∨(∃i off,v=.c (.lC k' i off))∨∃r p z i off,v=.c (.xq k' r p z i off))
 (hw:Q9 w k):k'≠k:=by
 rintro rfl
 rcases hv with⟨_,rfl⟩|⟨_,_,rfl⟩|⟨_,_,_,_,_,rfl⟩<;>rcases hw with⟨_,rfl⟩|⟨_,_,rfl⟩|rfl|rfl|⟨_,_,rfl⟩|⟨_,_,_,_,_,rfl⟩<;>simp[Ra] at h
theorem Ox{o:Oper}{t:TypeId}{a y:Operand}{s s':St}{v:V}(hop:o.op=.store t a y)(h:ng P E R o s v s'){k:Key}
 (hk:∀k',((∃off,ev s.tm a=.c (.ptr k' off))∨(∃i off,ev s.tm a=.c (.lC k' i off))∨∃r p z i off,ev s.tm a=.c (.xq k' r p z i off))→k'≠k):bL s'.st k=bL s.st k:=by
 rcases h with⟨_,_,h⟩|⟨_,_,_,h⟩|⟨_,_,h,_,_⟩
 ·rw[h];cases o.dst<;>rfl
 ·rw[h];cases o.dst<;>rfl
 ·obtain⟨dst,op,ty,pos,after,guard⟩:=o
  subst hop
  simp only[dQ,qN] at h
  split at h
  ·rename_i k' off he
   split at h
   ·obtain⟨_,_,_,h4⟩:=h
    rw[←h4,kr]
    exact gu _ _ _ _ (hk k' (.inl ⟨_,he⟩))
   ·exact h.elim
  ·rename_i k' i off he
   split at h
   ·obtain⟨_,_,_,_,h5⟩:=h
    rw[←h5,kr]
    exact gu _ _ _ _ (hk k' (.inr (.inl ⟨_,_,he⟩)))
   ·exact h.elim
  ·rename_i k' r p z i off he
   split at h
   ·split at h
    ·split at h
     ·obtain⟨_,_,_,_,_,h6⟩:=h
      rw[←h6,kr]
      exact gu _ _ _ _ (hk k' (.inr (.inr ⟨_,_,_,_,_,he⟩)))
     ·exact h.elim
    ·exact h.elim
   ·exact h.elim
  ·exact h.elim
theorem FH{st:Nat→St}{vs:Nat→V}(hT:∀i,i<R.size→∃o,R[i]? =some o∧ng P E R o (st i) (vs i) (st (i+1))){i:Nat}(hi:i≤R.size){a:Operand}(h:settled R i a=true):
 ev (st R.size).tm a=ev (st i).tm a:=by
 cases a with
 |tmp t=>
  show look _ t=look _ t
  have key:∀n,i+n≤R.size→look (st (i+n)).tm t=look (st i).tm t:=by
   intro n
   induction n with
   |zero=>intro _;rfl
   |succ n ih=>
    intro hn
    rw[vV hT t (i+(n+1)) hn,show i+(n+1)=i+n+1 from rfl,j3,if_neg,←vV hT t (i+n) (by omega),ih (by omega)]
    rintro⟨_,hd⟩
    have:=List.all_eq_true.1 h (i+n) (List.mem_range.2 (by omega))
    rw[hd] at this
    simp at this
    omega
  have:=key (R.size-i) (by omega)
  rwa [show i+(R.size-i)=R.size from by omega] at this
 |_=>rfl
theorem Uf{st:Nat→St}{vs:Nat→V}{p:Nat}(hed:∀(i:Nat) (o:Oper),R[i]? =some o→(o.after.toList.all (fun e=> !Region.binds .any e||decide (e.on<i))&&(match o.dst with|some d=>decide (d<N)|none=>true))=true)
 (yN:∀o,R[p]? =some o→uX o.op=true∧o.guard=none∧(∃d,o.dst=some d)∧∀j y,j≠p→R[j]? =some y→y.apart R o=false→∀i x,i<p→R[i]? =some x→eZ E x.op=true→i<j∧((masks R.toList []).getD j 0).testBit i=true)
 (hp:∀(i j:Nat) (x y:Oper),i<j→R[i]? =some x→R[j]? =some y→((masks R.toList []).getD j 0).testBit i=true∨(x.apart R y=true∧(j=p∨((eZ E x.op&&eZ E y.op)=false∧(lK E x.op=true→rV R i x j y=true)∧(lK E y.op=true→rV R j y i x=true)))))
 (hT:∀i,i<R.size→∃o,R[i]? =some o∧ng P E R o (st i) (vs i) (st (i+1))) (hl:K4 E R (st R.size).tm=true):L9 E R N st p:=by
 refine⟨?_,?_,?_,?_,yN⟩
 ·intro i o e ho he hb
  have h2:=hed i o ho
  simp only[Bool.and_eq_true] at h2
  have h3:=List.all_eq_true.1 h2.1 e (by simpa using he)
  simpa [hb] using h3
 ·intro i o ho d hd
  have h2:=hed i o ho
  simp only[Bool.and_eq_true,hd] at h2
  simpa using h2.2
 ·intro i j x y hij hx hy hc
  rcases hp i j x y hij hx hy with h|⟨h1,h⟩
  ·exact .inl h
  ·unfold lZ at hc
   rw[h1] at hc
   simp only[Bool.not_true,Bool.false_or] at hc
   rcases h with h|⟨h,_⟩
   ·rw[Bool.and_eq_true] at hc
    exact .inr ⟨h,hc.1,h1⟩
   ·rw[hc] at h;cases h
 ·intro i j x o hij hx ho hs hD hc
  have hjp:j≠p:=fun e=>by
   subst e
   have:=(uY (E:=E) (yN o ho).1).1
   rw[hD] at this;cases this
  have Qg:i≠p:=fun e=>by
   subst e
   have:=(uY (E:=E) (yN x hx).1).2.1
   rw[hs] at this;cases this
  cases hb:vG R i j with
  |true=>exact .inl rfl
  |false=>
   refine .inr ?_
   rintro k ⟨z,hz,hk⟩
   have hi:i<R.size:=(Array.getElem?_eq_some_iff.1 hx).1
   have hj:j<R.size:=(Array.getElem?_eq_some_iff.1 ho).1
   have hlo:rV R i x j o=true:=by
    unfold vG at hb
    by_cases e:i<j
    ·rw[if_pos e] at hb
     rcases hp i j x o e hx ho with h|⟨_,h|⟨_,h,_⟩⟩
     ·rw[hb] at h;cases h
     ·exact absurd h hjp
     ·exact h hs
    ·rw[if_neg e] at hb
     rcases hp j i o x (by omega) ho hx with h|⟨_,h|⟨_,_,h⟩⟩
     ·rw[hb] at h;cases h
     ·exact absurd h Qg
     ·exact h hs
   unfold rV at hlo
   rw[hc,Bool.false_or] at hlo
   split at hlo
   ·rename_i t a y hop
    rw[Bool.and_eq_true] at hlo
    have hz':z∈o.op.operands.toList:=by simpa using hz
    have hsz:=List.all_eq_true.1 hlo.2 z hz'
    have h1:=List.all_eq_true.1 hl i (List.mem_range.2 hi)
    rw[hx] at h1
    simp only[hs,Bool.not_true,Bool.false_or,hop] at h1
    have h2:=List.all_eq_true.1 h1 j (List.mem_range.2 hj)
    rw[ho] at h2
    simp only[hb,hD,hc,Bool.false_or] at h2
    have h3:=List.all_eq_true.1 h2 z hz'
    obtain⟨x',hx',ht⟩:=hT i hi
    rw[hx] at hx';cases hx'
    refine Ox hop ht fun k' hk'=> ?_
    rw[FH hT (by omega) hlo.1,FH hT (by omega) hsz] at h3
    exact Rj h3 hk' hk
   ·cases hlo
theorem Rk{f:Nat→Nat→Oper→Oper→Bool}(h:((List.range R.size).all fun j=>
 (match R[j]? with
  |some o=>o.after.toList.all (fun e=> !Region.binds .any e||decide (e.on<j))&&(match o.dst with|some d=>decide (d<N)|none=>true)
  |none=>true)&&
 (List.range j).all fun i=>
   match R[i]?,R[j]? with
   |some x,some y=>((masks R.toList []).getD j 0).testBit i|| !(f i j x y)
   |_,_=>true)=true):
 (∀(i:Nat) (o:Oper),R[i]? =some o→(o.after.toList.all (fun e=> !Region.binds .any e||decide (e.on<i))&&(match o.dst with|some d=>decide (d<N)|none=>true))=true)∧
 ∀(i j:Nat) (x y:Oper),i<j→R[i]? =some x→R[j]? =some y→((masks R.toList []).getD j 0).testBit i=true∨f i j x y=false:=by
 refine⟨fun i o ho=> ?_,fun i j x y hij hx hy=> ?_⟩
 ·have hj:i<R.size:=(Array.getElem?_eq_some_iff.1 ho).1
  have h1:=List.all_eq_true.1 h i (List.mem_range.2 hj)
  rw[Bool.and_eq_true,ho] at h1
  exact h1.1
 ·have hj:j<R.size:=(Array.getElem?_eq_some_iff.1 hy).1
  have h1:=List.all_eq_true.1 h j (List.mem_range.2 hj)
  rw[Bool.and_eq_true] at h1
  have h2:=List.all_eq_true.1 h1.2 i (List.mem_range.2 hij)
  rw[hx,hy] at h2
  simp only[Bool.or_eq_true,Bool.not_eq_true'] at h2
  exact h2
theorem WM{st:Nat→St}{vs:Nat→V}(hok:C9 E R N=true)(hT:∀i,i<R.size→∃o,R[i]? =some o∧ng P E R o (st i) (vs i) (st (i+1)))(hl:K4 E R (st R.size).tm=true):L9 E R N st R.size:=by
 obtain⟨h1,h2⟩:=Rk (f:=fun i j x y=>lZ E R x y||(lK E x.op&& !(rV R i x j y))||(lK E y.op&& !(rV R j y i x))) hok
 refine Uf h1 (fun o ho=>by rw[Array.getElem?_eq_none (Nat.le_refl _)] at ho;cases ho) (fun i j x y hij hx hy=>(h2 i j x y hij hx hy).imp id fun h=> ?_) hT hl
 simp only[lZ,Bool.or_eq_false_iff,Bool.not_eq_false',Bool.and_eq_false_imp] at h
 obtain⟨⟨⟨q1,q2⟩,q3⟩,q4⟩:=h
 refine⟨q1,.inr ⟨?_,q3,q4⟩⟩
 cases hx:eZ E x.op with
 |false=>rfl
 |true=>rw[q2 hx];rfl
theorem aa0{id:Nat}{Q:Exit→St→Prop}{s:St}(jv:P.follows .mixedOrders=true)(hok:C9 E R N=true)(h:qF P E R R.toList s (fun s'=>K4 E R s'.tm=true∧Q .normal s')):AW P N (.region id R true) Q s:=by
 obtain⟨st,vs,h0,hK,hT⟩:=Ej R.size 0 (by omega) s h
 have hT':=fun i hi=>hT i (Nat.zero_le i) hi
 exact El jv h0 hK.2 hT' (WM hok hT' hK.1)
end
end Go.Ab
namespace Go.Ab
section
variable {P:Program} {w w':World} {σ σ':Nat→Nat} {S S':Store} {β β':Hs} {N:Nat} {s:St} {a:Act}
theorem oq{c:Code}{Q:Exit→St→Prop}{s s':St}(h:AW P N c Q s')
 (hg:∀(a:Act) (w:World) (σ:Nat→Nat) (β:Hs),jM N s a w σ β→∃σ' β',jM N s' a w σ' β'∧Step s.st β σ w s'.st β' σ' w∧Keep (fK s.st) (fK β) (fK s'.st) (fK β')):AW P N c Q s:=by
 intro a w σ β hR
 obtain⟨σ',β',hR',hst,hk⟩:=hg a w σ β hR
 refine wp_mono (h a w σ' β' hR') ?_
 rintro e a' w' ⟨s'',xI,β'',k1,k2,k3,k4⟩
 exact⟨s'',xI,β'',k1,hst.trans k2,hk.trans k3,k4⟩
def gJ(N:Nat)(s s':St):Prop:=∀(a:Act) (w:World) (σ:Nat→Nat) (β:Hs),jM N s a w σ β→∃σ' β',jM N s' a w σ' β'∧Step s.st β σ w s'.st β' σ' w∧Keep (fK s.st) (fK β) (fK s'.st) (fK β')
theorem gJ.refl(N:Nat)(s:St):gJ N s s:=fun a w σ β hR=>⟨σ,β,hR,Step.lJ (Grow.refl hR.S.live),Keep.refl _ _⟩
theorem gJ.trans{s s' s'':St}(h:gJ N s s')(k:gJ N s' s''):gJ N s s'':=fun a w σ β hR=>by
 obtain⟨σ1,β1,r1,st1,k1⟩:=h a w σ β hR
 obtain⟨σ2,β2,r2,st2,k2⟩:=k a w σ1 β1 r1
 exact⟨σ2,β2,r2,st1.trans st2,k1.trans k2⟩
theorem Em{tm tm':List (Nat×V)}(hl:∀t,look tm' t=look tm t∨look tm' t=.any):gJ N ⟨tm,S⟩ ⟨tm',S⟩:=
 fun a w σ β hR=>⟨σ,β,⟨hR.size,hR.defers,hR.S,fun t=>by
  rcases hl t with e|e
  ·show dF w σ S β (look tm' t) _;rw[e];exact hR.T t
  ·show dF w σ S β (look tm' t) _;rw[e];trivial⟩,Step.lJ (Grow.refl hR.S.live),Keep.refl _ _⟩
theorem acD{c:Code}{Q:Exit→St→Prop}{tm tm':List (Nat×V)}(h:AW P N c Q ⟨tm',S⟩)(hl:∀t,look tm' t=look tm t∨look tm' t=.any):AW P N c Q ⟨tm,S⟩:=
 oq h fun a w σ β hR=>⟨σ,β,⟨hR.size,hR.defers,hR.S,fun t=>by
  rcases hl t with e|e
  ·show dF w σ S β (look tm' t) _;rw[e];exact hR.T t
  ·show dF w σ S β (look tm' t) _;rw[e];trivial⟩,Step.lJ (Grow.refl hR.S.live),Keep.refl _ _⟩
def C.oI:C→C
 | .bI _ es=>.d (.sl es)
 | .bC es=>.d (.sl es)
 |c=>c
def V.oI:V→V
 | .c x=>.c x.oI
 | .agg cs=>.agg (cs.map C.oI)
 |v=>v
theorem Mf{c:C}{v:Value}(h:je w σ S β c v):je w σ S β c.oI v:=by
 cases c with
 |bI k es=>exact h.1
 |bC es=>exact h.1
 |_=>exact h
theorem Mg{x:V}{v:Value}(h:dF w σ S β x v):dF w σ S β x.oI v:=by
 cases x with
 |c x=>exact⟨Mf h.1,h.2⟩
 |agg cs=>
  obtain⟨ar,ha,hl,hc⟩:=h
  refine⟨ar,ha,by simpa using hl,fun j x hx=> ?_⟩
  rw[List.getElem?_map] at hx
  cases hcj:cs[j]? with
  |none=>rw[hcj] at hx;cases hx
  |some y=>
   rw[hcj] at hx;cases hx
   obtain⟨v,hv,hr,ho⟩:=hc j y hcj
   exact⟨v,hv,Mf hr,ho⟩
 |_=>exact h
theorem dG.weaken{f:FuncId}{args args':List V}{post:V→Store→Prop}(h:dG P f args' S post)(hl:args.length=args'.length)
 (hw:∀(j:Nat) (x y:V),args[j]? =some x→args'[j]? =some y→∀w σ β v,dF w σ S β x v→dF w σ S β y v):dG P f args S post:=by
 refine⟨h.1,fun w σ β vs hS hv=>h.2 w σ β vs hS ⟨by rw[←hl];exact hv.1,fun j y hy=> ?_⟩⟩
 have hj:=(List.getElem?_eq_some_iff.1 hy).1
 have hx:args[j]? =some (args[j]'(by omega)):=List.getElem?_eq_getElem (by omega)
 obtain⟨v,h1,h2⟩:=hv.2 j _ hx
 exact⟨v,h1,hw j _ y hx hy w σ β v h2⟩
theorem dG.oI{f:FuncId}{args:List V}{post:V→Store→Prop}(h:dG P f (args.map V.oI) S post):dG P f args S post:=
 h.weaken (by simp) fun j x y hx hy w σ β v hr=>by
  rw[List.getElem?_map,hx] at hy
  cases hy
  exact Mg hr
theorem dG.mono{f:FuncId}{args:List V}{post post':V→Store→Prop}(h:dG P f args S post)(hp:∀r S',post r S'→post' r S'):dG P f args S post':=
 ⟨h.1,fun w σ β vs hS hv=>(h.2 w σ β vs hS hv).mono fun e w' ⟨v,r,S',σ',β',h1,h2,h3,h4,h5,h6⟩=>⟨v,r,S',σ',β',h1,h2,h3,h4,h5,hp _ _ h6⟩⟩
theorem Ak{f:FuncId}{args:List V}{s:St}{dst:Option Nat}{K:St→Prop}{r:V}(h:aD P f (args.map V.oI) r)(hK:K (St.put s dst r)):vE P f args s dst K:=
 .inl ⟨_,(h s.st).oI,fun r' S' hp=>by rw[hp.1,hp.2];exact hK⟩
theorem l9{c:Code}{Q:Exit→St→Prop}{tm:List (Nat×V)}{own:List Obj}{Ω:Store}(t bn:Nat)(es:List (List D))(hv:look tm t=.c (.bC es))(hes:∀e∈es,e.length=bn)
 (h:AW P N c Q ⟨(t,.c (.bI (0,own.length) es))::tm,(own++[.tok bn es])::Ω⟩):AW P N c Q ⟨tm,own::Ω⟩:=by
 refine oq h fun a w σ β hR=> ?_
 obtain⟨bo,bΩ,rfl,hlen⟩:=frames hR
 have ht:=hR.T t
 rw[hv] at ht
 obtain⟨⟨hd,ad,n,hval⟩,hone⟩:=ht
 have hn:n=es.length:=by rw[hval] at hd;cases hd<;>rfl
 have hg:Grow w σ w σ:=Grow.refl hR.S.live
 obtain⟨hS',hk,hst⟩:=hR.S.push (o:=.tok bn es) (h:=a.tmps.getD t undef) hg hlen ⟨hd,hes,ad,n,by rw[hval,hn],by omega,.inl hn⟩ (fun b hb=>by
  rw[hval,hn] at hb
  cases ad<;>simp[owns,blk] at hb)
 refine⟨σ,_,⟨hR.size,hR.defers,hS',fun u=> ?_⟩,hst,Keep.refl _ _⟩
 show dF w σ _ _ (if t=u then _ else look tm u) _
 by_cases e:t=u
 ·subst e
  rw[if_pos rfl]
  refine⟨⟨hd,_,dz _ _ _,fun a b e=> ?_⟩,hone⟩
  obtain⟨_,rfl⟩:=mQ (lab:=none) e
  exact⟨Nat.le_refl _,fun _=>by rw[←hlen,dz]⟩
 ·rw[if_neg e]
  exact(hR.T u).mono (fG.refl _ _) hk
theorem kW{c:Code}{Q:Exit→St→Prop}{tm:List (Nat×V)}{own:List Obj}{Ω:Store}(n t bn:Nat)(es:List (List D))(hv:look tm t=.c (.kg n es)∨(look tm t=.c (.bC es)∧es=[]))(hes:∀e∈es,e.length=bn)
 (h:AW P N c Q ⟨(t,.c (.bI (0,own.length) es))::tm,(own++[.eB n bn es])::Ω⟩):AW P N c Q ⟨tm,own::Ω⟩:=by
 refine oq h fun a w σ β hR=> ?_
 obtain⟨bo,bΩ,rfl,hlen⟩:=frames hR
 have ht:=hR.T t
 have hl:∃ad,a.tmps.getD t undef=.slice ad es.length es.length∧dK w σ (.ol n es) (a.tmps.getD t undef):=by
  rcases hv with hv|⟨hv,rfl⟩
  ·rw[hv] at ht
   obtain⟨⟨hd,ad,m,hval⟩,_⟩:=ht
   have hn:m=es.length:=by
    have:=vR hd
    rw[hval] at this
    cases this<;>rfl
   exact⟨ad,by rw[hval,hn],hd⟩
  ·rw[hv] at ht
   obtain⟨⟨hd,ad,m,hval⟩,_⟩:=ht
   have hn:m=0:=by rw[hval] at hd;cases hd<;>rfl
   subst hn
   exact⟨ad,hval,by rw[hval];exact .wC _ _ _⟩
 obtain⟨ad,hval,hol⟩:=hl
 have hd:=vR hol
 have hg:Grow w σ w σ:=Grow.refl hR.S.live
 obtain⟨hS',hk,hst⟩:=hR.S.push (o:=.eB n bn es) (h:=a.tmps.getD t undef) hg hlen ⟨hd,hes,ad,es.length,hval,Nat.le_refl _,.inl ⟨rfl,hol⟩⟩ (fun b hb=>by
  rw[hval] at hb
  cases ad<;>simp[owns,blk] at hb)
 refine⟨σ,_,⟨hR.size,hR.defers,hS',fun u=> ?_⟩,hst,Keep.refl _ _⟩
 show dF w σ _ _ (if t=u then _ else look tm u) _
 by_cases e:t=u
 ·subst e
  rw[if_pos rfl]
  refine⟨⟨hd,_,dz _ _ _,fun a b e=> ?_⟩,by rw[hval];rfl⟩
  obtain⟨_,rfl⟩:=mQ (lab:=some n) e
  exact⟨Nat.le_refl _,fun _=>by rw[←hlen,dz]⟩
 ·rw[if_neg e]
  exact(hR.T u).mono (fG.refl _ _) hk
theorem Ib{c:Code}{Q:Exit→St→Prop}{tm:List (Nat×V)}{Ω:Store}(n:Nat)(h:AW P N c Q ⟨tm,[.seed n]::Ω⟩):AW P N c Q ⟨tm,[]::Ω⟩:=by
 refine oq h fun a w σ β hR=> ?_
 obtain⟨bo,bΩ,rfl,hlen⟩:=frames hR
 obtain⟨hS',hk,hst⟩:=hR.S.push (o:=.seed n) (h:=undef) (Grow.refl hR.S.live) hlen trivial (fun b hb=>by cases hb)
 exact⟨σ,_,⟨hR.size,hR.defers,hS',fun u=>(hR.T u).mono (fG.refl _ _) hk⟩,hst,Keep.refl _ _⟩
theorem xV{tm:List (Nat×V)}{own:List Obj}{Ω:Store}{m:Nat}(n:Nat):gJ N ⟨tm,(.seed m::own)::Ω⟩ ⟨tm,(.seed n::own)::Ω⟩:=by
 intro a w σ β hR
 obtain⟨bo,bΩ,rfl,hlen⟩:=frames hR
 have h0:bL ((Obj.seed m::own)::Ω) (0,0)=some (.seed m):=rfl
 obtain⟨h,hh,_⟩:=hR.S.obj (0,0) _ h0
 obtain⟨hS',hk,hst⟩:=hR.S.set (o':=.seed n) (h':=h) h0 hh (Nat.le_refl _) rfl rfl (fG.refl _ _) hR.S.live (fun _ _ _=>⟨rfl,rfl⟩) (.inr ⟨n,rfl⟩) trivial (fun b hb=>by cases hb)
 have e:cu (bo::bΩ) (0,0) h=bo::bΩ:=Jq h _ _ _ hh
 rw[e] at hS' hk hst
 exact⟨σ,_,⟨hR.size,hR.defers,hS',fun u=>(hR.T u).mono (fG.refl _ _) hk⟩,hst,Keep.refl _ _⟩
theorem kZ{c:Code}{Q:Exit→St→Prop}{tm:List (Nat×V)}{own:List Obj}{Ω:Store}{m:Nat}(n:Nat)(h:AW P N c Q ⟨tm,(.seed n::own)::Ω⟩):AW P N c Q ⟨tm,(.seed m::own)::Ω⟩:=oq h (xV n)
def iW(n:Nat)(k:Key):Bool:=decide (0<k.1)||decide (k.2<n)
def C.refs(n:Nat):C→Bool
 | .bI k _=>iW n k
 | .ptr k _=>iW n k
 | .lC k _ _=>iW n k
 | .jd k=>iW n k
 | .mp k=>iW n k
 | .fn _ caps=>caps.all fun x=>iW n x.1
 | .xp k _ _=>iW n k
 | .xq k _ _ _ _ _=>iW n k
 |_=>true
def V.refs(n:Nat):V→Bool
 | .c x=>x.refs n
 | .agg cs=>cs.all (C.refs n)
 | .iE xs=>xs.all fun y=>y.2.all (C.refs n)
 | .any=>true
def Obj.refs(n:Nat):Obj→Bool
 | .box cs=>cs.all (C.refs n)
 |_=>true
theorem iN{α:Type}{own:List α}{Ω:List (List α)}{n:Nat}{k:Key}(h:iW n k=true):bL (own.take n::Ω) k=bL (own::Ω) k:=by
 obtain⟨l,j⟩:=k
 cases l with
 |zero=>
  simp[iW] at h
  rw[bP,bP,List.getElem?_take_of_lt h]
 |succ l=>rw[dn,dn]
theorem lM{α:Type}{own:List α}{Ω:List (List α)}{n:Nat}{k:Key}{o:α}(h:bL (own.take n::Ω) k=some o):bL (own::Ω) k=some o∧iW n k=true:=by
 obtain⟨l,j⟩:=k
 cases l with
 |zero=>
  rw[bP] at h ⊢
  have hj:=(List.getElem?_eq_some_iff.1 h).1
  simp at hj
  rw[List.getElem?_take_of_lt (by omega)] at h
  exact⟨h,by simp[iW];omega⟩
 |succ l=>rw[dn] at h ⊢;exact⟨h,by simp[iW]⟩
theorem BI{own:List Obj}{Ω:Store}{bo:List Value}{bΩ:Hs}{n:Nat}{c:C}{v:Value}(hr:c.refs n=true)(h:je w σ (own::Ω) (bo::bΩ) c v):je w σ (own.take n::Ω) (bo.take n::bΩ) c v:=by
 cases c with
 |d x=>exact h
 |any=>exact h
 |bC es=>exact h
 |kH cs=>exact h
 |bI k es=>
  obtain⟨h1,o,ho,h2⟩:=h
  exact⟨h1,o,(iN hr).trans ho,fun a b e=>by rw[iN hr];exact h2 a b e⟩
 |ptr k off=>
  obtain⟨o,ho,h2⟩:=h
  exact⟨o,(iN hr).trans ho,fun a e=>by rw[iN hr];exact h2 a e⟩
 |lC k i off=>
  obtain⟨o,ho,h2⟩:=h
  exact⟨o,(iN hr).trans ho,fun a b e=>by rw[iN hr];exact h2 a b e⟩
 |jd k=>
  obtain⟨o,ho,h2⟩:=h
  exact⟨o,(iN hr).trans ho,fun a b e=>by rw[iN hr];exact h2 a b e⟩
 |mp k=>
  obtain⟨o,ho,h2⟩:=h
  exact⟨o,(iN hr).trans ho,fun a e=>by rw[iN hr];exact h2 a e⟩
 |fn f caps=>
  obtain⟨vs,hv,hl,h2⟩:=h
  refine⟨vs,hv,hl,fun j k off e=> ?_⟩
  obtain⟨u,hu,h1c,o,ho,h3⟩:=h2 j k off e
  have hk:iW n k=true:=List.all_eq_true.1 hr (k,off) (List.mem_of_getElem? e)
  exact⟨u,hu,h1c,o,(iN hk).trans ho,fun cs e=>by rw[iN hk];exact h3 cs e⟩
 |kg m es=>exact h
 |xp k r p=>
  obtain⟨o,ho,h2⟩:=h
  exact⟨o,(iN hr).trans ho,fun a e=>by rw[iN hr];exact h2 a e⟩
 |xq k r p z i off=>
  obtain⟨o,ho,h2⟩:=h
  exact⟨o,(iN hr).trans ho,fun a e=>by rw[iN hr];exact h2 a e⟩
theorem Al{own:List Obj}{Ω:Store}{bo:List Value}{bΩ:Hs}{n:Nat}{cs:List C}{vs:List Value}(hr:cs.all (C.refs n)=true)(h:gy w σ (own::Ω) (bo::bΩ) cs vs):gy w σ (own.take n::Ω) (bo.take n::bΩ) cs vs:=
 ⟨h.1,fun j x hx=>let⟨v,hv,hc,ho⟩:=h.2 j x hx;⟨v,hv,BI (List.all_eq_true.1 hr x (List.mem_of_getElem? hx)) hc,ho⟩⟩
theorem Ug{own:List Obj}{Ω:Store}{bo:List Value}{bΩ:Hs}{n:Nat}{x:V}{v:Value}(hr:x.refs n=true)(h:dF w σ (own::Ω) (bo::bΩ) x v):dF w σ (own.take n::Ω) (bo.take n::bΩ) x v:=by
 cases x with
 |c x=>exact⟨BI hr h.1,h.2⟩
 |agg cs=>obtain⟨ar,ha,hc⟩:=h;exact⟨ar,ha,Al hr hc⟩
 |iE xs=>
  obtain⟨ar,ha,hl,h2⟩:=h
  refine⟨ar,ha,hl,fun j y hy=> ?_⟩
  obtain⟨u,hu,h3⟩:=h2 j y hy
  have hy':y.2.all (C.refs n)=true:=List.all_eq_true.1 hr y (List.mem_of_getElem? hy)
  refine⟨u,hu,?_⟩
  obtain⟨b,cs⟩:=y
  cases b with
  |true=>obtain⟨a',e,hcs⟩:=h3;exact⟨a',e,Al hy' hcs⟩
  |false=>
   obtain⟨x,e,hx,ho⟩:=h3
   subst e
   simp at hy'
   exact⟨x,rfl,BI hy' hx,ho⟩
 |any=>trivial
def gG(n:Nat)(tm:List (Nat×V)):Bool:=tm.all fun x=>x.2.refs n
theorem JC{n:Nat}:∀(tm:List (Nat×V)) (t:Nat),gG n tm=true→(look tm t).refs n=true
 |[],_,_=>rfl
 |(x,v)::tm,t,h=>by
  simp only[gG,List.all_cons,Bool.and_eq_true] at h
  rw[look]
  split
  ·exact h.1
  ·exact JC tm t h.2
theorem FI{tm:List (Nat×V)}{own:List Obj}{Ω:Store}(n:Nat)(h1:gG n tm=true)(h2:(own.take n).all (Obj.refs n)=true):gJ N ⟨tm,own::Ω⟩ ⟨tm,own.take n::Ω⟩:=by
 intro a w σ β hR
 obtain⟨bo,bΩ,rfl,hlen⟩:=frames hR
 have hown:∀b,Own (own.take n::Ω) (bo.take n::bΩ) b→Own (own::Ω) (bo::bΩ) b:=by
  rintro b ⟨k,o,hv,e1,e2,e3⟩
  exact⟨k,o,hv,(lM e1).1,(lM e2).1,e3⟩
 refine⟨σ,bo.take n::bΩ,⟨hR.size,hR.defers,⟨fun k o ho=> ?_,fun k k' o o' h1 h2 b e1 e2 e3 e4 e5 e6=> ?_,⟨by have:=hR.S.shape.1;simpa using this,fun l fr hl=> ?_⟩,hR.S.live,hR.S.rO⟩,fun t=>Ug (JC tm t h1) (hR.T t)⟩,
  ⟨Nat.le_refl _,rfl,rfl,fun _ _ _=>⟨rfl,rfl⟩,fG.refl _ _,fun b hb=>.inl (hown b hb)⟩,Keep.refl _ _⟩
 ·obtain⟨ho',hk⟩:=lM ho
  obtain⟨hv,hh,hr⟩:=hR.S.obj k o ho'
  refine⟨hv,(iN hk).trans hh,?_⟩
  obtain⟨l,j⟩:=k
  cases l with
  |zero=>
   cases o with
   |dead=>trivial
   |box cs=>
    obtain⟨b,cc,t,e,hb,hs,hc⟩:=hr
    rw[bP] at ho
    have hcs:cs.all (C.refs n)=true:=List.all_eq_true.1 h2 (.box cs) (List.mem_of_getElem? ho)
    exact⟨b,cc,t,e,hb,hs,Al hcs hc⟩
   |tok=>exact hr
   |eT=>exact hr
   |mp=>exact hr
   |eB=>exact hr
   |seed=>exact hr
   |xf=>exact hr
  |succ l=>exact hr
 ·exact hR.S.apart k k' o o' h1 h2 b (lM e1).1 (lM e2).1 e3 (lM e4).1 (lM e5).1 e6
 ·cases l with
  |zero=>
   simp at hl;subst hl
   exact⟨_,rfl,by simp[hlen]⟩
  |succ l=>exact hR.S.shape.2 (l+1) fr hl
def C.lT(j:Nat)(es:List (List D)):C→C
 | .jd (0,i)=>if i=j then .d (.sl es) else .jd (0,i)
 |c=>c
def V.lT(j:Nat)(es:List (List D)):V→V
 | .c x=>.c (x.lT j es)
 | .agg cs=>.agg (cs.map (C.lT j es))
 | .iE xs=>.iE (xs.map fun y=>(y.1,y.2.map (C.lT j es)))
 | .any=>.any
def Obj.lT(j:Nat)(es:List (List D)):Obj→Obj
 | .box cs=>.box (cs.map (C.lT j es))
 |o=>o
theorem Am{f:V→V}(hf:f .any=.any):∀(tm:List (Nat×V)) (t:Nat),look (tm.map fun x=>(x.1,f x.2)) t=f (look tm t)
 |[],_=>hf.symm
 |(x,v)::tm,t=>by
  show(if x=t then f v else look (tm.map fun x=>(x.1,f x.2)) t)=f (if x=t then v else look tm t)
  split
  ·rfl
  ·exact Am hf tm t
def V.jV(f:C→C):V→V
 | .c x=>.c (f x)
 | .agg cs=>.agg (cs.map f)
 | .iE xs=>.iE (xs.map fun y=>(y.1,y.2.map f))
 | .any=>.any
def Obj.jV(f:C→C):Obj→Obj
 | .box cs=>.box (cs.map f)
 |o=>o
theorem ug{f:C→C}{own:List Obj}{j i:Nat}:((own.map (Obj.jV f)).set j .dead)[i]? =if i=j then(if j<own.length then some .dead else none) else(own[i]?).map (Obj.jV f):=by
 rw[List.getElem?_set]
 by_cases e:j=i
 ·subst e;simp
 ·rw[if_neg e,if_neg (Ne.symm e),List.getElem?_map]
theorem sP{f:C→C}{own:List Obj}{Ω:Store}{j:Nat}{oj:Obj}(hj:own[j]? =some oj){k:Key}{o:Obj}(hk:bL (own::Ω) k=some o):
 ∃o',bL ((own.map (Obj.jV f)).set j .dead::Ω) k=some o'∧((k=(0,j)∧o'=.dead)∨(k≠(0,j)∧(o'=o∨o'=o.jV f))):=by
 obtain⟨l,i⟩:=k
 cases l with
 |zero=>
  rw[bP] at hk
  by_cases e:i=j
  ·subst e
   refine⟨.dead,?_,.inl ⟨rfl,rfl⟩⟩
   rw[bP,ug,if_pos rfl,if_pos (List.getElem?_eq_some_iff.1 hj).1]
  ·refine⟨o.jV f,?_,.inr ⟨fun x=>e (by cases x;rfl),.inr rfl⟩⟩
   rw[bP,ug,if_neg e,hk];rfl
 |succ l=>exact⟨o,by rw[dn] at hk ⊢;exact hk,.inr ⟨by simp,.inl rfl⟩⟩
theorem oZ{f:C→C}{o o':Obj}(h:o'=o∨o'=o.jV f):(∀z es,pq o' z es→pq o z es)∧(∀z es,o'=.eT z es→o=.eT z es)∧(∀m,o'=.mp m→o=.mp m)∧(∀cs,o'=.box cs→∃cs',o=.box cs')∧(∀rs,o'=.xf rs→o=.xf rs):=by
 rcases h with rfl|rfl
 ·exact⟨fun _ _ h=>h,fun _ _ h=>h,fun _ h=>h,fun cs h=>⟨cs,h⟩,fun _ h=>h⟩
 ·cases o<;>simp[Obj.jV,pq]
theorem FJ{f:C→C}{own:List Obj}{Ω:Store}{bo:List Value}{bΩ:Hs}{j:Nat}{oj:Obj}(hj:own[j]? =some oj)(hn:fG w σ w σ'){c:C}{v:Value}(hc:je w σ (own::Ω) (bo::bΩ) c v):
 je w σ' ((own.map (Obj.jV f)).set j .dead::Ω) (bo::bΩ) c v:=by
 cases c with
 |d x=>exact dK.mono hn hc
 |any=>trivial
 |bC es'=>exact⟨dK.mono hn hc.1,hc.2⟩
 |kg n es'=>exact⟨dK.mono hn hc.1,hc.2⟩
 |kH cs=>obtain⟨ad,h1,h2⟩:=hc;exact⟨ad,h1,h2.mono hn⟩
 |bI k es'=>
  obtain⟨h1,o,ho,h2⟩:=hc
  obtain⟨o',ho',hcase⟩:=sP hj ho
  refine⟨dK.mono hn h1,o',ho',fun z e4 e=> ?_⟩
  rcases hcase with⟨_,e'⟩|⟨_,e'⟩
  ·rw[e'] at e;rcases e with e|⟨_,e⟩<;>cases e
  ·exact h2 _ _ ((oZ e').1 _ _ e)
 |ptr k off=>
  obtain⟨o,ho,h2⟩:=hc
  obtain⟨o',ho',hcase⟩:=sP hj ho
  refine⟨o',ho',fun cs e=> ?_⟩
  rcases hcase with⟨_,e'⟩|⟨_,e'⟩
  ·rw[e'] at e;cases e
  ·obtain⟨cs',e''⟩:=(oZ e').2.2.2.1 _ e
   exact h2 _ e''
 |lC k i off=>
  obtain⟨o,ho,h2⟩:=hc
  obtain⟨o',ho',hcase⟩:=sP hj ho
  refine⟨o',ho',fun z e4 e=> ?_⟩
  rcases hcase with⟨_,e'⟩|⟨_,e'⟩
  ·rw[e'] at e;cases e
  ·exact h2 _ _ ((oZ e').2.1 _ _ e)
 |jd k=>
  obtain⟨o,ho,h2⟩:=hc
  obtain⟨o',ho',hcase⟩:=sP hj ho
  refine⟨o',ho',fun z e4 e=> ?_⟩
  rcases hcase with⟨_,e'⟩|⟨_,e'⟩
  ·rw[e'] at e;cases e
  ·exact h2 _ _ ((oZ e').2.1 _ _ e)
 |mp k=>
  obtain⟨o,ho,h2⟩:=hc
  obtain⟨o',ho',hcase⟩:=sP hj ho
  refine⟨o',ho',fun m e=> ?_⟩
  rcases hcase with⟨_,e'⟩|⟨_,e'⟩
  ·rw[e'] at e;cases e
  ·exact h2 _ ((oZ e').2.2.1 _ e)
 |fn f caps=>
  obtain⟨vs,hv,hl,h2⟩:=hc
  refine⟨vs,hv,hl,fun i k off e=> ?_⟩
  obtain⟨u,hu,h1c,o,ho,h3⟩:=h2 i k off e
  obtain⟨o',ho',hcase⟩:=sP hj ho
  refine⟨u,hu,h1c,o',ho',fun cs e=> ?_⟩
  rcases hcase with⟨_,e'⟩|⟨_,e'⟩
  ·rw[e'] at e;cases e
  ·obtain⟨cs',e''⟩:=(oZ e').2.2.2.1 _ e
   exact h3 _ e''
 |xp k r p=>
  obtain⟨o,ho,h2⟩:=hc
  obtain⟨o',ho',hcase⟩:=sP hj ho
  refine⟨o',ho',fun rs e=> ?_⟩
  rcases hcase with⟨_,e'⟩|⟨_,e'⟩
  ·rw[e'] at e;cases e
  ·exact h2 _ ((oZ e').2.2.2.2 _ e)
 |xq k r p z i off=>
  obtain⟨o,ho,h2⟩:=hc
  obtain⟨o',ho',hcase⟩:=sP hj ho
  refine⟨o',ho',fun rs e=> ?_⟩
  rcases hcase with⟨_,e'⟩|⟨_,e'⟩
  ·rw[e'] at e;cases e
  ·exact h2 _ ((oZ e').2.2.2.2 _ e)
theorem Mh{f:C→C}{tm:List (Nat×V)}{own:List Obj}{Ω:Store}{bo:List Value}{bΩ:Hs}(j:Nat){oj:Obj}{hj:Value}(hoj:own[j]? =some oj)(hbj:bo[j]? =some hj)(hR:jM N ⟨tm,own::Ω⟩ a w σ (bo::bΩ))(hlen:bo.length=own.length)
 (hn:fG w σ w σ') (hch:∀x,¬owns oj hj x→σ' x=σ x) (hlive:∀x,x<w.heap.size∨σ' x=0)
 (hC:∀(c:C) (v:Value),je w σ (own::Ω) (bo::bΩ) c v→je w σ' ((own.map (Obj.jV f)).set j .dead::Ω) (bo::bΩ) (f c) v):
 jM N ⟨tm.map fun x=>(x.1,x.2.jV f),(own.map (Obj.jV f)).set j .dead::Ω⟩ a w σ' (bo::bΩ)∧Step (own::Ω) (bo::bΩ) σ w ((own.map (Obj.jV f)).set j .dead::Ω) (bo::bΩ) σ' w:=by
 have K5:∀k o,bL ((own.map (Obj.jV f)).set j .dead::Ω) k=some o→(k=(0,j)∧o=.dead)∨(k≠(0,j)∧∃o0,bL (own::Ω) k=some o0∧(o=o0∨o=o0.jV f)∧(0<k.1→o=o0)∧∀h b,owns o h b↔owns o0 h b):=by
  intro k o hk
  obtain⟨l,i⟩:=k
  cases l with
  |zero=>
   rw[bP,ug] at hk
   by_cases e:i=j
   ·subst e
    rw[if_pos rfl,if_pos (List.getElem?_eq_some_iff.1 hoj).1] at hk
    cases hk;exact .inl ⟨rfl,rfl⟩
   ·rw[if_neg e] at hk
    cases ho:own[i]? with
    |none=>rw[ho] at hk;cases hk
    |some o0=>
     rw[ho] at hk;cases hk
     refine .inr ⟨fun x=>e (by cases x;rfl),o0,by rw[bP];exact ho,.inr rfl,fun h=>absurd h (by simp),fun h b=> ?_⟩
     cases o0 with
     |box cs=>cases h<;>first|exact Iff.rfl|(rename_i x;cases x<;>exact Iff.rfl)
     |_=>exact Iff.rfl
  |succ l=>rw[dn] at hk;exact .inr ⟨by simp,o,by rw[dn];exact hk,.inl rfl,fun _=>rfl,fun _ _=>Iff.rfl⟩
 have hCs:∀(cs:List C) (vs:List Value),gy w σ (own::Ω) (bo::bΩ) cs vs→gy w σ' ((own.map (Obj.jV f)).set j .dead::Ω) (bo::bΩ) (cs.map f) vs:=by
  intro cs vs hc
  refine⟨by simpa using hc.1,fun i x hx=> ?_⟩
  rw[List.getElem?_map] at hx
  cases hci:cs[i]? with
  |none=>rw[hci] at hx;cases hx
  |some y=>
   rw[hci] at hx;cases hx
   obtain⟨v,hv,hr,ho⟩:=hc.2 i y hci
   exact⟨v,hv,hC y v hr,ho⟩
 have hother:∀k o h x,k≠(0,j)→bL (own::Ω) k=some o→bL (bo::bΩ) k=some h→owns o h x→σ' x=σ x:=by
  intro k o h x hk e1 e2 e3
  refine hch x fun e4=>hk ?_
  exact hR.S.apart k (0,j) o _ h _ x e1 e2 e3 (by rw[bP];exact hoj) (by rw[bP];exact hbj) e4
 refine⟨⟨hR.size,hR.defers,⟨fun k o ho=> ?_,fun k k' o o' h1 h2 b' e1 e2 e3 e4 e5 e6=> ?_,⟨by have:=hR.S.shape.1;simpa using this,fun l fr hl=> ?_⟩,hlive,hR.S.rO.near hn⟩,fun t=> ?_⟩,⟨Nat.le_refl _,rfl,rfl,fun x hx hno=>⟨rfl,?_⟩,hn,fun x hx=> ?_⟩⟩
 ·rcases K5 k o ho with⟨rfl,rfl⟩|⟨hk,o0,h0,hcase,hl0,how⟩
  ·exact⟨_,by rw[bP];exact hbj,trivial⟩
  ·obtain⟨hv,hhv,hr⟩:=hR.S.obj k o0 h0
   refine⟨hv,hhv,?_⟩
   have hbk:∀x,owns o0 hv x→w.heap[x]? =w.heap[x]? ∧σ' x=σ x:=fun x e=>⟨rfl,hother k o0 hv x hk h0 hhv e⟩
   obtain⟨l,i⟩:=k
   cases l with
   |succ l=>
    rw[hl0 (by simp)]
    exact ig.mono hn (Keep.refl _ _) hbk hr
   |zero=>
    cases o0 with
    |box cs=>
     obtain⟨b',cc',t',e',hb',hs',hc'⟩:=hr
     subst e'
     have he:o=.box (cs.map f):=by
      rw[bP,ug] at ho
      rw[bP] at h0
      split at ho
      ·rename_i e;exact absurd (by rw[e]) hk
      ·rw[h0] at ho;cases ho;rfl
     rw[he]
     exact⟨b',cc',t',rfl,hb',(hbk b' rfl).2.trans hs',hCs _ _ hc'⟩
    |dead=>rcases hcase with rfl|rfl<;>trivial
    |tok z es'=>
     have:o=.tok z es':=by rcases hcase with rfl|rfl<;>rfl
     rw[this]
     exact ig.mono (S:=[]) (β:=[]) (o:=(.tok z es')) hn (Keep.refl [] []) hbk hr
    |eT z es'=>
     have:o=.eT z es':=by rcases hcase with rfl|rfl<;>rfl
     rw[this]
     exact ig.mono (S:=[]) (β:=[]) (o:=(.eT z es')) hn (Keep.refl [] []) hbk hr
    |mp m=>
     have:o=.mp m:=by rcases hcase with rfl|rfl<;>rfl
     rw[this]
     exact ig.mono (S:=[]) (β:=[]) (o:=(.mp m)) hn (Keep.refl [] []) hbk hr
    |eB n z es'=>
     have:o=.eB n z es':=by rcases hcase with rfl|rfl<;>rfl
     rw[this]
     exact ig.mono (S:=[]) (β:=[]) (o:=(.eB n z es')) hn (Keep.refl [] []) hbk hr
    |seed n=>rcases hcase with rfl|rfl<;>trivial
    |xf rs=>
     have:o=.xf rs:=by rcases hcase with rfl|rfl<;>rfl
     rw[this]
     exact ig.mono (S:=[]) (β:=[]) (o:=(.xf rs)) hn (Keep.refl [] []) hbk hr
 ·rcases K5 k o e1 with⟨rfl,rfl⟩|⟨hk,o0,f1,_,_,f2⟩
  ·cases e3
  ·rcases K5 k' o' e4 with⟨rfl,rfl⟩|⟨hk',o0',g1,_,_,g2⟩
   ·cases e6
   ·exact hR.S.apart k k' o0 o0' h1 h2 b' f1 e2 ((f2 _ _).1 e3) g1 e5 ((g2 _ _).1 e6)
 ·cases l with
  |zero=>
   simp at hl;subst hl
   exact⟨_,rfl,by simp[hlen]⟩
  |succ l=>exact hR.S.shape.2 (l+1) fr hl
 ·show dF w σ' ((own.map (Obj.jV f)).set j .dead::Ω) (bo::bΩ) (look (tm.map fun x=>(x.1,x.2.jV f)) t) _
  rw[Am (f:=V.jV f) rfl]
  have ht:=hR.T t
  cases hx:look tm t with
  |c x=>rw[hx] at ht;exact⟨hC x _ ht.1,ht.2⟩
  |agg cs=>rw[hx] at ht;obtain⟨ar,e,hc⟩:=ht;exact⟨ar,e,hCs _ _ hc⟩
  |iE xs=>
   rw[hx] at ht
   obtain⟨ar,e,hl,h2⟩:=ht
   refine⟨ar,e,by simpa using hl,fun i y hy=> ?_⟩
   rw[List.getElem?_map] at hy
   cases hxi:xs[i]? with
   |none=>rw[hxi] at hy;cases hy
   |some z=>
    rw[hxi] at hy;cases hy
    obtain⟨u,hu,h3⟩:=h2 i z hxi
    refine⟨u,hu,?_⟩
    obtain⟨bb,cs⟩:=z
    cases bb with
    |true=>obtain⟨a',e',hcs⟩:=h3;exact⟨a',e',hCs _ _ hcs⟩
    |false=>
     obtain⟨x,e',hxr,ho⟩:=h3
     subst e'
     exact⟨_,rfl,hC x _ hxr,ho⟩
  |any=>trivial
 ·exact hch x fun e=>hno ⟨(0,j),_,_,by rw[bP];exact hoj,by rw[bP];exact hbj,e⟩
 ·left
  obtain⟨k,o,h1,e1,e2,e3⟩:=hx
  rcases K5 k o e1 with⟨rfl,rfl⟩|⟨hk,o0,f1,_,_,f2⟩
  ·cases e3
  ·exact⟨k,o0,h1,f1,e2,(f2 _ _).1 e3⟩
theorem WO{j:Nat}{es:List (List D)}:Obj.lT j es=Obj.jV (C.lT j es):=by funext o;cases o<;>rfl
theorem WQ{j:Nat}{es:List (List D)}:V.lT j es=V.jV (C.lT j es):=by funext v;cases v<;>rfl
theorem Zz{tm:List (Nat×V)}{own:List Obj}{Ω:Store}(j:Nat)(bn:Nat)(es:List (List D))(hj:own[j]? =some (.eT bn es))(hR:jM N ⟨tm,own::Ω⟩ a w σ β):
 ∃σ' β',jM N ⟨tm.map fun x=>(x.1,x.2.lT j es),(own.map (Obj.lT j es)).set j .dead::Ω⟩ a w σ' β'∧Step (own::Ω) β σ w ((own.map (Obj.lT j es)).set j .dead::Ω) β' σ' w∧
  Keep (fK (own::Ω)) (fK β) (fK ((own.map (Obj.lT j es)).set j .dead::Ω)) (fK β'):=by
 obtain⟨bo,bΩ,rfl,hlen⟩:=frames hR
 obtain⟨hh,hb,hr⟩:=hR.S.obj (0,j) _ (by rw[bP];exact hj)
 obtain⟨b,cc,ty,cap,rfl,hcap,hbc,hσ,hle,hsz,hcells⟩:=hr
 rw[bP] at hb
 let σ':Nat→Nat:=fun x=>if x=b then es.length*bn else σ x
 have hn:fG w σ w σ':=by
  intro b1 c1 t1 Jr e1
  by_cases e:b1=b
  ·subst e
   rw[hbc] at e1;cases e1
   exact⟨by simp only[σ',if_true];omega,fun h=>by omega,cc,hbc,rfl,fun _ _=>rfl⟩
  ·exact⟨by simp only[σ',if_neg e];exact Nat.le_refl _,fun _=>if_neg e,c1,e1,rfl,fun _ _=>rfl⟩
 have hdata:dK w σ' (.sl es) (.slice (some ⟨b,0,none⟩) es.length cap):=by
  have hfl:=kN es bn hle
  refine .sl b 0 cap bn es (fun i=>(cc[i]?).getD undef) cc ty (0,0) hcap hle hbc (by simp[σ']) (fun i hi=> ?_) (fun i d hd=> ?_)
  ·obtain⟨v,hv,_⟩:=hcells i _ (List.getElem?_eq_getElem (by omega))
   simp[hv]
  ·obtain⟨v,hv,hr⟩:=hcells i d hd
   simp only[hv,Option.getD_some]
   exact hr.mono hn
 rw[WO,WQ]
 have:=Mh (f:=C.lT j es) j hj hb hR hlen hn (fun x hx=>if_neg fun e=>hx (by subst e;rfl)) (fun x=>by
  by_cases e:x=b
  ·left;subst e;exact lt_of_some hbc
  ·simp only[σ',if_neg e];exact hR.S.live x) (fun c v hc=>by
  by_cases hm:c=.jd (0,j)
  ·subst hm
   obtain⟨o,ho,h2⟩:=hc
   rw[bP,hj] at ho;cases ho
   have hv:=h2 _ _ rfl
   rw[bP,hb] at hv
   cases hv
   simp only[C.lT,if_true]
   exact hdata
  ·have hfr:C.lT j es c=c:=by
    cases c with
    |jd k=>
     obtain⟨l,i⟩:=k
     cases l with
     |zero=>simp only[C.lT];rw[if_neg (fun e=>hm (by rw[e]))]
     |succ l=>rfl
    |_=>rfl
   rw[hfr]
   exact FJ hj hn hc)
 exact⟨σ',_,this.1,this.2,Keep.refl _ _⟩
def C.lab(row:Bool)(j n:Nat)(es:List (List D)):C→C
 | .jd (0,i)=>if i=j∧row=true then .d (.ol n es) else .jd (0,i)
 | .bI (0,i) es'=>if i=j∧row=false∧es'.length=es.length then .d (.ol n es) else .bI (0,i) es'
 |c=>c
def Mi(row:Bool)(n bn:Nat)(es:List (List D)):Obj:=match row with|true=>.eT bn es|false=>.eB n bn es
theorem Qh{tm:List (Nat×V)}{own:List Obj}{Ω:Store}(j n:Nat)(bn:Nat)(es:List (List D))(row:Bool)(hj:own[j]? =some (Mi row n bn es))(hR:jM N ⟨tm,own::Ω⟩ a w σ β):
 ∃σ' β',jM N ⟨tm.map fun x=>(x.1,x.2.jV (C.lab row j n es)),(own.map (Obj.jV (C.lab row j n es))).set j .dead::Ω⟩ a w σ' β'∧Step (own::Ω) β σ w ((own.map (Obj.jV (C.lab row j n es))).set j .dead::Ω) β' σ' w∧
  Keep (fK (own::Ω)) (fK β) (fK ((own.map (Obj.jV (C.lab row j n es))).set j .dead::Ω)) (fK β'):=by
 obtain⟨bo,bΩ,rfl,hlen⟩:=frames hR
 have key:∃hh σ',bo[j]? =some hh∧fG w σ w σ'∧(∀x,¬owns (Mi row n bn es) hh x→σ' x=σ x)∧(∀x,x<w.heap.size∨σ' x=0)∧dK w σ' (.ol n es) hh:=by
  have Uh:∀(b off cap:Nat) (c:Array Value) (t:TypeId),w.heap[b]? =some (.cells c t (0,0))→σ b≤c.size→(∀e∈es,e.length=bn)→off+es.length*bn≤c.size→es.length≤cap→
   (∀(i:Nat) (d:D),es.flatten[i]? =some d→∃v,c[off+i]? =some v∧dK w σ d v)→
   fG w σ w (fun x=>if x=b then c.size+1+n else σ x)∧(∀x,x<w.heap.size∨(fun x=>if x=b then c.size+1+n else σ x) x=0)∧dK w (fun x=>if x=b then c.size+1+n else σ x) (.ol n es) (.slice (some ⟨b,off,none⟩) es.length cap):=by
   intro b off cap c t hb hσ hle hsz hcap hcells
   have hn:fG w σ w (fun x=>if x=b then c.size+1+n else σ x):=by
    intro b1 c1 t1 Jr e1
    by_cases e:b1=b
    ·subst e
     rw[hb] at e1;cases e1
     exact⟨by simp only[if_true];omega,fun h=>by omega,c,hb,rfl,fun _ _=>rfl⟩
    ·exact⟨by simp only[if_neg e];exact Nat.le_refl _,fun _=>if_neg e,c1,e1,rfl,fun _ _=>rfl⟩
   refine⟨hn,fun x=> ?_,?_⟩
   ·by_cases e:x=b
    ·left;subst e;exact lt_of_some hb
    ·simp only[if_neg e];exact hR.S.live x
   ·have hfl:=kN es bn hle
    refine .ol n b off cap bn es (fun i=>(c[off+i]?).getD undef) c t hcap hle hb (by simp) hsz (fun i hi=> ?_) (fun i d hd=> ?_)
    ·obtain⟨v,hv,_⟩:=hcells i _ (List.getElem?_eq_getElem (by omega))
     simp[hv]
    ·obtain⟨v,hv,hr⟩:=hcells i d hd
     simp only[hv,Option.getD_some]
     exact hr.mono hn
  cases row with
  |true=>
   obtain⟨hh,hb,hr⟩:=hR.S.obj (0,j) _ (by rw[bP];exact hj)
   obtain⟨b,cc,ty,cap,rfl,hcap,hbc,hσ,hle,hsz,hcells⟩:=hr
   rw[bP] at hb
   obtain⟨k1,k2,k3⟩:=Uh b 0 cap cc ty hbc (by omega) hle (by omega) hcap (fun i d hd=>by rw[Nat.zero_add];exact hcells i d hd)
   exact⟨_,_,hb,k1,fun x hx=>if_neg fun e=>hx (by subst e;rfl),k2,k3⟩
  |false=>
   obtain⟨hh,hb,hr⟩:=hR.S.obj (0,j) _ (by rw[bP];exact hj)
   obtain⟨h1,hle,ad,cap,rfl,hcap,hcase⟩:=hr
   rw[bP] at hb
   rcases hcase with⟨h4,h5⟩|⟨h4,b,off,c,t,rfl,hbc,hσ,hfit⟩
   ·exact⟨_,σ,hb,fG.refl _ _,fun _ _=>rfl,hR.S.live,h5⟩
   ·have hm:es.length*bn≤cap*bn:=Nat.mul_le_mul_right _ hcap
    obtain⟨k1,k2,k3⟩:=Uh b off cap c t hbc (by omega) hle (by omega) hcap (fun i d hd=>by
     cases h1 with
     |nil=>simp at hd
     |sl b' off' cap' qD es vals c' t' LJ q1 q2 q3 q4 q5 q6=>
      rw[hbc] at q3;cases q3
      have hil:=(List.getElem?_eq_some_iff.1 hd).1
      rw[kN es bn hle] at hil
      have he:qD=bn:=by
       cases es with
       |nil=>simp at hil
       |cons y ys=>rw[←q2 y (by simp),hle y (by simp)]
      subst he
      exact⟨_,q5 i hil,q6 i d hd⟩)
    exact⟨_,_,hb,k1,fun x hx=>if_neg fun e=>hx (by subst e;simp[Mi,owns,blk,h4]),k2,k3⟩
 obtain⟨hh,σ',hb,hn,hch,hlive,hdata⟩:=key
 have:=Mh (f:=C.lab row j n es) j hj hb hR hlen hn hch hlive (fun c v hc=>by
  by_cases hm:c=.jd (0,j)∧row=true
  ·obtain⟨rfl,rfl⟩:=hm
   simp only[C.lab,and_self,if_true]
   obtain⟨o,ho,h2⟩:=hc
   rw[bP,hj] at ho;cases ho
   have hv:=h2 _ _ rfl
   rw[bP,hb] at hv
   cases hv
   exact hdata
  ·by_cases ht:∃es',c=.bI (0,j) es'∧row=false∧es'.length=es.length
   ·obtain⟨es',rfl,rfl,hl⟩:=ht
    simp only[C.lab,hl,and_self,if_true]
    obtain⟨h1,o,ho,h2⟩:=hc
    rw[bP,hj] at ho;cases ho
    have hv:=(h2 _ _ (.inr ⟨n,rfl⟩)).2 hl
    rw[bP,hb] at hv
    cases hv
    exact hdata
   ·have hfr:C.lab row j n es c=c:=by
     cases c with
     |jd k=>
      obtain⟨l,i⟩:=k
      cases l with
      |zero=>simp only[C.lab];rw[if_neg (fun e=>hm ⟨by rw[e.1],e.2⟩)]
      |succ l=>rfl
     |bI k es'=>
      obtain⟨l,i⟩:=k
      cases l with
      |zero=>simp only[C.lab];rw[if_neg (fun e=>ht ⟨es',by rw[e.1],e.2⟩)]
      |succ l=>rfl
     |_=>rfl
    rw[hfr]
    exact FJ hj hn hc)
 exact⟨σ',_,this.1,this.2,Keep.refl _ _⟩
def FK(j:Nat)(s:St):St:=
 match s.st with
 |own::Ω=>match own[j]? with
  |some (.eT _ es)=>⟨s.tm.map fun x=>(x.1,x.2.lT j es),(own.map (Obj.lT j es)).set j .dead::Ω⟩
  |_=>s
 |[]=>s
def FL:Nat→St→St
 |0,s=>s
 |n+1,s=>FL n (FK n s)
def zH(s:St):St:=
 match s.st with
 |own::_=>FL own.length s
 |[]=>s
theorem Oy(j:Nat)(s:St):gJ N s (FK j s):=by
 obtain⟨tm,st⟩:=s
 cases st with
 |nil=>exact gJ.refl _ _
 |cons own Ω=>
  unfold FK
  simp only
  split
  ·rename_i z es hj
   exact fun a w σ β hR=>Zz j z es hj hR
  ·exact gJ.refl _ _
theorem DL:∀(n:Nat) (s:St),gJ N s (FL n s)
 |0,s=>gJ.refl _ _
 |n+1,s=>(Oy n s).trans (DL n _)
theorem Mj(s:St):gJ N s (zH s):=by
 unfold zH
 split
 ·exact DL _ _
 ·exact gJ.refl _ _
theorem xW{c:Code}{Q:Exit→St→Prop}{g:St→St}(hg:∀s,gJ N s (g s))(h:AW P N c (fun e s'=>Q e (g s')) s):AW P N c Q s:=by
 intro a w σ β hR
 refine wp_mono (h a w σ β hR) ?_
 rintro e a' w' ⟨s',σ',β',k1,k2,k3,k4⟩
 obtain⟨σ2,β2,r2,st2,kk2⟩:=hg s' a' w' σ' β' k1
 exact⟨_,σ2,β2,r2,k2.trans st2,k3.trans kk2,k4⟩
end
end Go.Ab
namespace Go.Ab
section
variable {P:Program} {E:Md} {S S':Store} {N:Nat} {s:St}
def lookO(tm:List (Nat×V))(t:Option Nat):Option V:=t.map (look tm)
theorem Mk{tm:List (Nat×V)}{t:Option Nat}:lookO tm t=t.map (look tm):=rfl
theorem Rl{tm:List (Nat×V)}{t:Nat}:lookO tm (some t)=some (look tm t):=rfl
theorem Rm{tm:List (Nat×V)}:lookO tm none=none:=rfl
def Bd(tm:List (Nat×V))(l:List Operand):List V:=l.map (ev tm)
theorem ZA{tm:List (Nat×V)}:Bd tm []=[]:=rfl
theorem WR{tm:List (Nat×V)}{x:Operand}{l:List Operand}:Bd tm (x::l)=ev tm x::Bd tm l:=rfl
def JD(tm:List (Nat×V))(x:Option Operand):Option V:=x.map (ev tm)
theorem WS{tm:List (Nat×V)}{x:Operand}:JD tm (some x)=some (ev tm x):=rfl
theorem WU{tm:List (Nat×V)}:JD tm none=none:=rfl
def Ml(tm:List (Nat×V))(l:List (Nat×Operand)):List (Nat×V):=l.map fun x=>(x.1,ev tm x.2)
theorem ZB{tm:List (Nat×V)}:Ml tm []=[]:=rfl
theorem WV{tm:List (Nat×V)}{i:Nat}{x:Operand}{l:List (Nat×Operand)}:Ml tm ((i,x)::l)=(i,ev tm x)::Ml tm l:=rfl
def Split(x:Bool)(A B:St→Prop)(s:St):Prop:=(x=true→A s)∧(x=false→B s)
theorem eY{x:Bool}{A B:St→Prop}(h1:x=true→A s)(h2:x=false→B s):Split x A B s:=⟨h1,h2⟩
theorem Rn{A B:St→Prop}:Split true A B s=A s:=by simp[Split]
theorem Oz{A B:St→Prop}:Split false A B s=B s:=by simp[Split]
def Mq(dst:Option Nat)(v:V)(K:St→Prop)(s:St):Prop:=K (s.put dst v)
theorem ZC{dst:Option Nat}{v:V}{K:St→Prop}:Mq dst v K s=K (s.put dst v):=rfl
def Ro(P:Program)(o:Oper)(K:St→Prop)(s:St):Prop:=dQ P o s K
def Mr(P:Program)(E:Md)(o:Oper)(K:St→Prop)(s:St):Prop:=eU P E o s K
theorem WW{o:Oper}{K:St→Prop}:Ro P o K s=dQ P o s K:=rfl
theorem Ui{o:Oper}{K:St→Prop}:Mr P E o K s=eU P E o s K:=rfl
def xX(dst:Option Nat)(want:Bool)(A K:St→Prop)(s:St):Option V→Prop
 |some (.c (.d (.b x)))=>match want with
  |true=>Split x A (Mq dst (.iE []) K) s
  |false=>Split x (Mq dst (.iE []) K) A s
 |some (.iE [])=>K (s.put dst (.iE []))
 |_=>False
theorem OA{R:Array Oper}{dst op ty pos after}{K:St→Prop}:qO P R ⟨dst,op,ty,pos,after,none⟩ s K=dQ P ⟨dst,op,ty,pos,after,none⟩ s K:=rfl
theorem OB{R:Array Oper}{dst op ty pos after j want}{K:St→Prop}:qO P R ⟨dst,op,ty,pos,after,some (j,want)⟩ s K=
 xX dst want (Ro P ⟨dst,op,ty,pos,after,some (j,want)⟩ K) K s (lookO s.tm (fC R j)):=by
 show qO P R _ s K=_
 simp only[qO,←Mk]
 generalize lookO s.tm (fC R j)=v
 cases v with
 |none=>rfl
 |some v=>
  cases v with
  |c x=>cases x with
   |d x=>cases x with
    |b x=>cases want<;>simp[xX,Split,Mq,Ro,and_comm]
    |_=>rfl
   |_=>rfl
  |iE l=>cases l<;>rfl
  |_=>rfl
theorem Ms{R:Array Oper}{dst op ty pos after}{K:St→Prop}:qz P E R ⟨dst,op,ty,pos,after,none⟩ s K=eU P E ⟨dst,op,ty,pos,after,none⟩ s K:=rfl
theorem Mt{R:Array Oper}{dst op ty pos after j want}{K:St→Prop}:qz P E R ⟨dst,op,ty,pos,after,some (j,want)⟩ s K=
 xX dst want (Mr P E ⟨dst,op,ty,pos,after,some (j,want)⟩ K) K s (lookO s.tm (fC R j)):=by
 simp only[qz,←Mk]
 generalize lookO s.tm (fC R j)=v
 cases v with
 |none=>rfl
 |some v=>
  cases v with
  |c x=>cases x with
   |d x=>cases x with
    |b x=>cases want<;>simp[xX,Split,Mq,Mr,and_comm]
    |_=>rfl
   |_=>rfl
  |iE l=>cases l<;>rfl
  |_=>rfl
@[congr] theorem acE {R:Array Oper} {os:List Oper} {s s':St} {K:St→Prop} (h2:s=s'):xR P R os s K=xR P R os s' K:=by rw[h2]
@[congr] theorem acF {R:Array Oper} {os:List Oper} {s s':St} {K:St→Prop} (h2:s=s'):qF P E R os s K=qF P E R os s' K:=by rw[h2]
@[congr] theorem aa1 {R:Array Oper} {o:Oper} {s s':St} {K:St→Prop} (h2:s=s'):qO P R o s K=qO P R o s' K:=by rw[h2]
@[congr] theorem aaz {R:Array Oper} {o:Oper} {s s':St} {K:St→Prop} (h2:s=s'):qz P E R o s K=qz P E R o s' K:=by rw[h2]
@[congr] theorem aa2 {dst:Option Nat} {want:Bool} {A K:St→Prop} {s s':St} {v v':Option V} (h2:s=s') (h3:v=v'):xX dst want A K s v=xX dst want A K s' v':=by rw[h2,h3]
@[congr] theorem ab3 {x x':Bool} {A B:St→Prop} {s s':St} (h:x=x') (h2:s=s'):Split x A B s=Split x' A B s':=by rw[h,h2]
@[congr] theorem ab4 {o:Oper} {s s':St} {K:St→Prop} (h2:s=s'):dQ P o s K=dQ P o s' K:=by rw[h2]
@[congr] theorem aa3 {o:Oper} {s s':St} {K:St→Prop} (h2:s=s'):eU P E o s K=eU P E o s' K:=by rw[h2]
@[congr] theorem acG {l l':Option Nat} {es es' x:List (List D)} {z:Nat} {s s':St} {dst:Option Nat} {K:St→Prop} (h1:l=l') (h2:es=es') (h3:s=s'):xP l es s dst z x K=xP l' es' s' dst z x K:=by rw[h1,h2,h3]
@[congr] theorem acH {b b':Bool} {n:Nat} {x:List (List D)} {z:Nat} {s s':St} {dst:Option Nat} {K:St→Prop} (h1:b=b') (h3:s=s'):za b n s dst z x K=za b' n s' dst z x K:=by rw[h1,h3]
@[congr] theorem aa4 {s s':St} {dst:Option Nat} {o o':Obj} {mk:Key→V} {K:St→Prop} (h1:s=s') (h2:o=o'):newObj s dst o mk K=newObj s' dst o' mk K:=by rw[h1,h2]
@[congr] theorem aa5 {t:TypeId} {s s':St} {dst:Option Nat} {K:St→Prop} (h1:s=s'):qM P t s dst K=qM P t s' dst K:=by rw[h1]
@[congr] theorem acI {v v':V} {s s':St} {dst:Option Nat} {K:St→Prop} (h1:v=v') (h2:s=s'):xO v s dst K=xO v' s' dst K:=by rw[h1,h2]
@[congr] theorem aa6 {t:TypeId} {a a' x x':V} {s s':St} {dst:Option Nat} {K:St→Prop} (h1:a=a') (h3:x=x') (h2:s=s'):qN P t a x s dst K=qN P t a' x' s' dst K:=by rw[h1,h2,h3]
@[congr] theorem ab5 {t:TypeId} {a a' x x':V} {s s':St} {dst:Option Nat} {K:St→Prop} (h1:a=a') (h3:x=x') (h2:s=s'):tX P t a x s dst K=tX P t a' x' s' dst K:=by rw[h1,h2,h3]
@[congr] theorem aaA {t u:TypeId} {a a' x x':V} {s s':St} {dst:Option Nat} {K:St→Prop} (h1:a=a') (h3:x=x') (h2:s=s'):qy P t u a x s dst K=qy P t u a' x' s' dst K:=by rw[h1,h2,h3]
@[congr] theorem aaB {s s':St} {dst:Option Nat} {K:St→Prop} (h2:s=s'):qw s dst K=qw s' dst K:=by rw[h2]
@[congr] theorem aaC {t:TypeId} {a a' x x' y y':V} {s s':St} {dst:Option Nat} {K:St→Prop} (h1:a=a') (h3:x=x') (h4:y=y') (h2:s=s'):qx P t a x y s dst K=qx P t a' x' y' s' dst K:=by rw[h1,h2,h3,h4]
@[congr] theorem ab6 {f:FuncId} {args args':List V} {s s':St} {dst:Option Nat} {K:St→Prop} (h1:args=args') (h2:s=s'):vE P f args s dst K=vE P f args' s' dst K:=by rw[h1,h2]
@[congr] theorem ab7 {c:Call} {s s':St} {dst:Option Nat} {K:St→Prop} (h2:s=s'):mH P c s dst K=mH P c s' dst K:=by rw[h2]
@[congr] theorem ab8 {K:St→Prop} {Q:Exit→St→Prop} {e:Exit} {s s':St} (h2:s=s'):lF K Q e s=lF K Q e s':=by rw[h2]
def fM(s:St)(dst:Option Nat)(K:St→Prop)(r:R):Prop:=r.1∧K (s.put dst r.2)
@[congr] theorem ab9 {s s':St} {dst:Option Nat} {K:St→Prop} {r r':R} (h1:s=s') (h2:r=r'):fM s dst K r=fM s' dst K r':=by rw[h1,h2]
theorem WX{dst:Option Nat}{K:St→Prop}{p:Prop}{v:V}:fM s dst K (p,v)=(p∧K (s.put dst v)):=rfl
def xY(caps:List (Key×Nat)):List V:=caps.map fun y=>.c (.ptr y.1 y.2)
def K6(P:Program)(fv:V)(args:List V)(s:St)(dst:Option Nat)(K:St→Prop):Prop:=
 match fv with
 | .c (.fn f caps)=>vE P f (args++xY caps) s dst K
 |_=>False
def Ao(P:Program)(m:Nat)(f:FuncId)(args:List V)(s:St)(dst:Option Nat)(K:St→Prop):Prop:=
 match m with
 |0=>∃r,aD P f args r∧K (s.put dst r)
 |1=>∃S' v,DS s.st S'∧vE P f args s dst (fun t=>t=St.put ⟨s.tm,S'⟩ dst v)∧K (St.put ⟨s.tm,S'⟩ dst v)
 |_=>∃S' v,vE P f args s dst (fun t=>t=St.put ⟨s.tm,S'⟩ dst v)∧K (St.put ⟨s.tm,S'⟩ dst v)
def vI(P:Program)(m:Nat)(fv:V)(args:List V)(s:St)(dst:Option Nat)(K:St→Prop):Prop:=
 match fv with
 | .c (.fn f caps)=>Ao P m f (args++xY caps) s dst K
 |_=>False
@[congr] theorem acd {fv Uj:V} {args args':List V} {s s':St} {dst:Option Nat} {K:St→Prop} (h1:fv=Uj) (h3:args=args') (h2:s=s'):K6 P fv args s dst K=K6 P Uj args' s' dst K:=by rw[h1,h2,h3]
@[congr] theorem ace {m:Nat} {fv Uj:V} {args args':List V} {s s':St} {dst:Option Nat} {K:St→Prop} (h1:fv=Uj) (h3:args=args') (h2:s=s'):vI P m fv args s dst K=vI P m Uj args' s' dst K:=by rw[h1,h2,h3]
@[congr] theorem acf {m:Nat} {f:FuncId} {args args':List V} {s s':St} {dst:Option Nat} {K:St→Prop} (h1:args=args') (h2:s=s'):Ao P m f args s dst K=Ao P m f args' s' dst K:=by rw[h1,h2]
theorem OC{x:Operand}{args:Array Operand}{ts:Array TypeId}{dst:Option Nat}{K:St→Prop}:mH P ⟨.value x,args,ts⟩ s dst K=K6 P (ev s.tm x) (Bd s.tm args.toList) s dst K:=rfl
theorem Mv{x y:Operand}{t u:TypeId}{dst:Option Nat}{K:St→Prop}:mH P ⟨.builtin .append,#[x,y],#[t,u]⟩ s dst K=qy P t u (ev s.tm x) (ev s.tm y) s dst K:=rfl
theorem Uk{x:Operand}{t:TypeId}{dst:Option Nat}{K:St→Prop}:mH P ⟨.builtin .len,#[x],#[t]⟩ s dst K=fM s dst K (zZ P s.st t (ev s.tm x)):=rfl
theorem Ul{x y:Operand}{ts:Array TypeId}{dst:Option Nat}{K:St→Prop}:mH P ⟨.builtin .max,#[x,y],ts⟩ s dst K=fM s dst K (su true (ev s.tm x) (ev s.tm y)):=rfl
theorem Um{x y:Operand}{ts:Array TypeId}{dst:Option Nat}{K:St→Prop}:mH P ⟨.builtin .min,#[x,y],ts⟩ s dst K=fM s dst K (su false (ev s.tm x) (ev s.tm y)):=rfl
theorem WY{x:Operand}{t:TypeId}{tm:List (Nat×V)}:nval P S tm (.call ⟨.builtin .len,#[x],#[t]⟩)=zZ P S t (ev tm x):=rfl
def dX(P:Program)(mode:Option Nat)(f:FuncId)(args:List V)(s:St)(dst:Option Nat)(K:St→Prop):Prop:=
 match mode with
 |some m=>Ao P m f args s dst K
 |none=>vE P f args s dst K
@[congr] theorem acg {dr:Option Nat} {f:FuncId} {args args':List V} {s s':St} {dst:Option Nat} {K:St→Prop} (h1:args=args') (h2:s=s'):dX P dr f args s dst K=dX P dr f args' s' dst K:=by rw[h1,h2]
theorem WZ{f:Nat}{caps:List (Key×Nat)}{args:List V}{dst:Option Nat}{K:St→Prop}:K6 P (.c (.fn f caps)) args s dst K=dX P none f (args++xY caps) s dst K:=rfl
theorem W9{m:Nat}{f:Nat}{caps:List (Key×Nat)}{args:List V}{dst:Option Nat}{K:St→Prop}:vI P m (.c (.fn f caps)) args s dst K=dX P (some m) f (args++xY caps) s dst K:=rfl
theorem bN{dr:Option Nat}{f:FuncId}{args:List V}{dst:Option Nat}{K:St→Prop}{r:V}(h:aD P f (args.map V.oI) r)(hK:K (s.put dst r)):dX P dr f args s dst K:=by
 cases dr with
 |none=>exact Ak h hK
 |some m=>
  match m with
  |0=>exact⟨r,fun S=>(h S).oI,hK⟩
  |1=>exact⟨s.st,r,DS.refl _,Ak h rfl,hK⟩
  |m+2=>exact⟨s.st,r,Ak h rfl,hK⟩
def Y2:Option Nat→Bool
 |none=>true
 |some m=>decide (2≤m)
def acJ:Option Nat→Bool
 |none=>true
 |some m=>decide (1≤m)
theorem dS{dr:Option Nat}{f:FuncId}{args:List V}{dst:Option Nat}{K:St→Prop}{r:V}{S1:Store}(hm:Y2 dr=true)(h:dG P f args s.st (fun r' S'=>r'=r∧S'=S1))(hK:K (St.put ⟨s.tm,S1⟩ dst r)):dX P dr f args s dst K:=by
 cases dr with
 |none=>exact .inl ⟨_,h,fun r' S' e=>by rw[e.1,e.2];exact hK⟩
 |some m=>
  match m,hm with
  |0,hm=>cases hm
  |1,hm=>cases hm
  |m+2,_=>exact⟨S1,r,.inl ⟨_,h,fun r' S' e=>by rw[e.1,e.2]⟩,hK⟩
theorem aa7{dr:Option Nat}{f:FuncId}{args:List V}{dst:Option Nat}{K:St→Prop}{r:V}{S1:Store}(hm:acJ dr=true)(hd:DS s.st S1)(h:dG P f args s.st (fun r' S'=>r'=r∧S'=S1))(hK:K (St.put ⟨s.tm,S1⟩ dst r)):dX P dr f args s dst K:=by
 cases dr with
 |none=>exact .inl ⟨_,h,fun r' S' e=>by rw[e.1,e.2];exact hK⟩
 |some m=>
  match m,hm with
  |0,hm=>cases hm
  |1,_=>exact⟨S1,r,hd,.inl ⟨_,h,fun r' S' e=>by rw[e.1,e.2]⟩,hK⟩
  |m+2,_=>exact⟨S1,r,.inl ⟨_,h,fun r' S' e=>by rw[e.1,e.2]⟩,hK⟩
theorem aa8{f:FuncId}{args:List V}{dst:Option Nat}{K:St→Prop}{r:V}(h:Q6 P f args r)(hK:K (St.put s dst r)):dX P none f args s dst K:=.inr ⟨r,h,hK⟩
def Da(P:Program)(R:Array Oper)(os:List Oper)(K:St→Prop)(s:St):Prop:=xR P R os s K
def Db(P:Program)(E:Md)(R:Array Oper)(os:List Oper)(K:St→Prop)(s:St):Prop:=qF P E R os s K
@[congr] theorem ach {R:Array Oper} {os:List Oper} {s s':St} {K:St→Prop} (h2:s=s'):Da P R os K s=Da P R os K s':=by rw[h2]
@[congr] theorem aci {R:Array Oper} {os:List Oper} {s s':St} {K:St→Prop} (h2:s=s'):Db P E R os K s=Db P E R os K s':=by rw[h2]
section
variable {tm:List (Nat×V)} {R:Array Oper} {o:Oper} {os:List Oper} {K:St→Prop}
theorem Xa:xR P R [] ⟨tm,S⟩ K=K ⟨tm,S⟩:=rfl
theorem Un:xR P R (o::os) ⟨tm,S⟩ K=qO P R o ⟨tm,S⟩ (Da P R os K):=rfl
theorem Uo:Da P R [] K ⟨tm,S⟩=K ⟨tm,S⟩:=rfl
theorem Rp:Da P R (o::os) K ⟨tm,S⟩=qO P R o ⟨tm,S⟩ (Da P R os K):=rfl
theorem Xb:qF P E R [] ⟨tm,S⟩ K=K ⟨tm,S⟩:=rfl
theorem Uq:qF P E R (o::os) ⟨tm,S⟩ K=qz P E R o ⟨tm,S⟩ (Db P E R os K):=rfl
theorem Ur:Db P E R [] K ⟨tm,S⟩=K ⟨tm,S⟩:=rfl
theorem Rq:Db P E R (o::os) K ⟨tm,S⟩=qz P E R o ⟨tm,S⟩ (Db P E R os K):=rfl
end
section
variable {dst:Option Nat} {ty:TypeId} {pos:String} {after:Array Edge} {g:Option (Nat×Bool)} {K:St→Prop}
theorem Rs{t:TypeId}:dQ P ⟨dst,.alloc t,ty,pos,after,g⟩ s K=qM P t s dst K:=rfl
theorem Xc{t:TypeId}{x:Operand}:dQ P ⟨dst,.box t x,ty,pos,after,g⟩ s K=xO (ev s.tm x) s dst K:=rfl
theorem Rt{t:TypeId}{a x:Operand}:dQ P ⟨dst,.store t a x,ty,pos,after,g⟩ s K=qN P t (ev s.tm a) (ev s.tm x) s dst K:=rfl
theorem Us{t:TypeId}{a x:Operand}:dQ P ⟨dst,.makeSlice t a x,ty,pos,after,g⟩ s K=tX P t (ev s.tm a) (ev s.tm x) s dst K:=rfl
theorem Mw{t:TypeId}:dQ P ⟨dst,.makeMap t none,ty,pos,after,g⟩ s K=qw s dst K:=rfl
theorem Ic{t:TypeId}{x k v:Operand}:dQ P ⟨dst,.mapUpdate t x k v,ty,pos,after,g⟩ s K=qx P t (ev s.tm x) (ev s.tm k) (ev s.tm v) s dst K:=rfl
theorem OD{t:TypeId}{x i:Operand}:dQ P ⟨dst,.lookup t x i false,ty,pos,after,g⟩ s K=fM s dst K (uT P s.st t (ev s.tm x) (ev s.tm i)):=rfl
theorem Kq{t:TypeId}:eU P E ⟨dst,.makeMap t none,ty,pos,after,g⟩ s K=qw s dst K:=rfl
theorem FM{t:TypeId}{x k v:Operand}:eU P E ⟨dst,.mapUpdate t x k v,ty,pos,after,g⟩ s K=qx P t (ev s.tm x) (ev s.tm k) (ev s.tm v) s dst K:=rfl
theorem Mx{t:TypeId}{x i:Operand}:eU P E ⟨dst,.lookup t x i false,ty,pos,after,g⟩ s K=fM s dst K (uT P s.st t (ev s.tm x) (ev s.tm i)):=rfl
theorem Ut{c:Call}:dQ P ⟨dst,.call c,ty,pos,after,g⟩ s K=mH P c s dst K:=rfl
theorem Uu{x:Operand}:dQ P ⟨dst,.move x,ty,pos,after,g⟩ s K=K (s.put dst (ev s.tm x)):=by simp[dQ,nval,pF]
theorem OE{x:Operand}:dQ P ⟨dst,.assign x,ty,pos,after,g⟩ s K=K (s.put dst (ev s.tm x)):=by simp[dQ,nval,pF]
theorem Uv{c a b:Operand}:dQ P ⟨dst,.pick c a b,ty,pos,after,g⟩ s K=fM s dst K (CU (ev s.tm c) (ev s.tm a) (ev s.tm b)):=rfl
theorem Uw{t:TypeId}{a:Operand}:dQ P ⟨dst,.load t a,ty,pos,after,g⟩ s K=fM s dst K (wV P s.st t (ev s.tm a)):=rfl
theorem Ie{t:TypeId}{x:Operand}{f:Nat}:dQ P ⟨dst,.fieldAddr t x f,ty,pos,after,g⟩ s K=fM s dst K (pz P s.st t (ev s.tm x) f):=rfl
theorem Ru{t:TypeId}{x:Operand}{f:Nat}:dQ P ⟨dst,.field t x f,ty,pos,after,g⟩ s K=fM s dst K (zw P t (ev s.tm x) f):=rfl
theorem Ig{t:TypeId}{x i:Operand}:dQ P ⟨dst,.indexAddr t x i,ty,pos,after,g⟩ s K=fM s dst K (pE P s.st t (ev s.tm x) (ev s.tm i)):=rfl
theorem Rv{t:TypeId}{x i:Operand}:dQ P ⟨dst,.index t x i,ty,pos,after,g⟩ s K=fM s dst K (zx P t (ev s.tm x) (ev s.tm i)):=rfl
theorem Rw{op:BinOp}{t u:TypeId}{x y:Operand}:dQ P ⟨dst,.binOp op t x y u,ty,pos,after,g⟩ s K=fM s dst K (Hw P op t (ev s.tm x) (ev s.tm y)):=rfl
theorem Ux{op:UnOp}{t:TypeId}{x:Operand}:dQ P ⟨dst,.unOp op t x,ty,pos,after,g⟩ s K=fM s dst K (P9 op (ev s.tm x)):=rfl
theorem MB{a b:TypeId}{x:Operand}:dQ P ⟨dst,.convert a b x,ty,pos,after,g⟩ s K=fM s dst K (CX P a b (ev s.tm x)):=rfl
theorem MC{x:Operand}{i:Nat}:dQ P ⟨dst,.extract x i,ty,pos,after,g⟩ s K=fM s dst K (uR (ev s.tm x) i):=rfl
theorem Kr{fn:Fn}{a b:Array Operand}:dQ P ⟨dst,.makeFunc fn a b,ty,pos,after,g⟩ s K=fM s dst K (sM fn (Bd s.tm a.toList) (Bd s.tm b.toList)):=rfl
theorem Kt{x:Operand}:dQ P ⟨dst,.nilCheck x,ty,pos,after,g⟩ s K=fM s dst K (sN s.st (ev s.tm x)):=rfl
theorem Rx{t:TypeId}{x:Operand}{lo hi mx:Option Operand}:dQ P ⟨dst,.slice t x lo hi mx,ty,pos,after,g⟩ s K=fM s dst K (zy P t (ev s.tm x) (JD s.tm lo) (JD s.tm hi) (JD s.tm mx)):=rfl
theorem Ry{t:TypeId}{parts:Array (Nat×Operand)}:dQ P ⟨dst,.build t parts,ty,pos,after,g⟩ s K=fM s dst K (zA P t (Ml s.tm parts.toList)):=rfl
theorem FN{t:TypeId}{n:Nat}{parts:Array (Nat×Operand)}:dQ P ⟨dst,.buildSlice t n parts,ty,pos,after,g⟩ s K=fM s dst K (oo P (qL s.st) t n (Ml s.tm parts.toList)):=rfl
theorem OG{t:TypeId}:eU P E ⟨dst,.alloc t,ty,pos,after,g⟩ s K=qM P t s dst K:=rfl
theorem Uy{t:TypeId}{x:Operand}:eU P E ⟨dst,.box t x,ty,pos,after,g⟩ s K=xO (ev s.tm x) s dst K:=rfl
theorem OH{t:TypeId}{a x:Operand}:eU P E ⟨dst,.store t a x,ty,pos,after,g⟩ s K=qN P t (ev s.tm a) (ev s.tm x) s dst K:=rfl
theorem Rz{t:TypeId}{a x:Operand}:eU P E ⟨dst,.makeSlice t a x,ty,pos,after,g⟩ s K=tX P t (ev s.tm a) (ev s.tm x) s dst K:=rfl
theorem ME{args:Array Operand}{ts:Array TypeId}:eU P E ⟨dst,.call ⟨.builtin .append,args,ts⟩,ty,pos,after,g⟩ s K=mH P ⟨.builtin .append,args,ts⟩ s dst K:=rfl
theorem RA{x:Operand}:eU P E ⟨dst,.move x,ty,pos,after,g⟩ s K=K (s.put dst (ev s.tm x)):=by simp[eU,oN,nval,pF]
theorem MF{x:Operand}:eU P E ⟨dst,.assign x,ty,pos,after,g⟩ s K=K (s.put dst (ev s.tm x)):=by simp[eU,oN,nval,pF]
theorem RB{c a b:Operand}:eU P E ⟨dst,.pick c a b,ty,pos,after,g⟩ s K=fM s dst K (CU (ev s.tm c) (ev s.tm a) (ev s.tm b)):=rfl
theorem RD{t:TypeId}{a:Operand}:eU P E ⟨dst,.load t a,ty,pos,after,g⟩ s K=fM s dst K (wV P s.st t (ev s.tm a)):=rfl
theorem FP{t:TypeId}{x:Operand}{f:Nat}:eU P E ⟨dst,.fieldAddr t x f,ty,pos,after,g⟩ s K=fM s dst K (pz P s.st t (ev s.tm x) f):=rfl
theorem OI{t:TypeId}{x:Operand}{f:Nat}:eU P E ⟨dst,.field t x f,ty,pos,after,g⟩ s K=fM s dst K (zw P t (ev s.tm x) f):=rfl
theorem FQ{t:TypeId}{x i:Operand}:eU P E ⟨dst,.indexAddr t x i,ty,pos,after,g⟩ s K=fM s dst K (pE P s.st t (ev s.tm x) (ev s.tm i)):=rfl
theorem OJ{t:TypeId}{x i:Operand}:eU P E ⟨dst,.index t x i,ty,pos,after,g⟩ s K=fM s dst K (zx P t (ev s.tm x) (ev s.tm i)):=rfl
theorem OL{op:BinOp}{t u:TypeId}{x y:Operand}:eU P E ⟨dst,.binOp op t x y u,ty,pos,after,g⟩ s K=fM s dst K (Hw P op t (ev s.tm x) (ev s.tm y)):=rfl
theorem RF{op:UnOp}{t:TypeId}{x:Operand}:eU P E ⟨dst,.unOp op t x,ty,pos,after,g⟩ s K=fM s dst K (P9 op (ev s.tm x)):=rfl
theorem Ku{a b:TypeId}{x:Operand}:eU P E ⟨dst,.convert a b x,ty,pos,after,g⟩ s K=fM s dst K (CX P a b (ev s.tm x)):=rfl
theorem Kv{x:Operand}{i:Nat}:eU P E ⟨dst,.extract x i,ty,pos,after,g⟩ s K=fM s dst K (uR (ev s.tm x) i):=rfl
theorem Ih{fn:Fn}{a b:Array Operand}:eU P E ⟨dst,.makeFunc fn a b,ty,pos,after,g⟩ s K=fM s dst K (sM fn (Bd s.tm a.toList) (Bd s.tm b.toList)):=rfl
theorem Ii{x:Operand}:eU P E ⟨dst,.nilCheck x,ty,pos,after,g⟩ s K=fM s dst K (sN s.st (ev s.tm x)):=rfl
theorem OM{t:TypeId}{x:Operand}{lo hi mx:Option Operand}:eU P E ⟨dst,.slice t x lo hi mx,ty,pos,after,g⟩ s K=fM s dst K (zy P t (ev s.tm x) (JD s.tm lo) (JD s.tm hi) (JD s.tm mx)):=rfl
theorem OO{t:TypeId}{parts:Array (Nat×Operand)}:eU P E ⟨dst,.build t parts,ty,pos,after,g⟩ s K=fM s dst K (zA P t (Ml s.tm parts.toList)):=rfl
theorem En{t:TypeId}{n:Nat}{parts:Array (Nat×Operand)}:eU P E ⟨dst,.buildSlice t n parts,ty,pos,after,g⟩ s K=fM s dst K (oo P (qL s.st) t n (Ml s.tm parts.toList)):=rfl
theorem Uz{args:Array Operand}{ts:Array TypeId}:eU P E ⟨dst,.call ⟨.builtin .len,args,ts⟩,ty,pos,after,g⟩ s K=fM s dst K (nval P s.st s.tm (.call ⟨.builtin .len,args,ts⟩)):=rfl
theorem UA{x y:Operand}{ts:Array TypeId}:eU P E ⟨dst,.call ⟨.builtin .max,#[x,y],ts⟩,ty,pos,after,g⟩ s K=fM s dst K (su true (ev s.tm x) (ev s.tm y)):=rfl
theorem UC{x y:Operand}{ts:Array TypeId}:eU P E ⟨dst,.call ⟨.builtin .min,#[x,y],ts⟩,ty,pos,after,g⟩ s K=fM s dst K (su false (ev s.tm x) (ev s.tm y)):=rfl
theorem RG{x:Operand}{args:Array Operand}{ts:Array TypeId}:eU P E ⟨dst,.call ⟨.value x,args,ts⟩,ty,pos,after,g⟩ s K=vI P (E (.call ⟨.value x,args,ts⟩)) (ev s.tm x) (Bd s.tm args.toList) s dst K:=by
 simp only[eU,oN]
 generalize E (.call ⟨.value x,args,ts⟩)=m
 match m with
 |0=>
  simp only[Ah]
  generalize ev s.tm x=fv
  cases fv with
  |c x=>cases x<;>simp[vI,Ao,xY,Bd]
  |_=>simp[vI]
 |1=>
  simp only[dQ,mH]
  generalize ev s.tm x=fv
  cases fv with
  |c x=>cases x<;>simp[vI,Ao,xY,Bd]
  |_=>simp[vI]
 |m+2=>
  simp only[dQ,mH]
  generalize ev s.tm x=fv
  cases fv with
  |c x=>cases x<;>simp[vI,Ao,xY,Bd]
  |_=>simp[vI]
end
def Dc(v:V)(A B:St→Prop)(s:St):Prop:=
 match v with
 | .c (.d (.b x))=>Split x A B s
 |_=>False
def CW(P:Program)(N:Nat):Code→(Exit→St→Prop)→St→Prop
 | .seq x y,Q,s=>CW P N x (lF (CW P N y Q) Q) s
 | .region _ R false,Q,s=>xR P R R.toList s (Q .normal)
 | .region _ R true,Q,s=>qF P (FD R N) R R.toList s (Q .normal)
 | .cond c x y,Q,s=>Dc (ev s.tm c) (CW P N x Q) (CW P N y Q) s
 | .block id c,Q,s=>CW P N c (wX id Q) s
 | .exit id,Q,s=>Q (.exit id) s
 | .ret,Q,s=>Q .ret s
 | .skip,Q,s=>Q .normal s
 | .loop c,Q,s=>AW P N (.loop c) Q s
 |_,_,_=>False
def acK(N:Nat)(R:Array Oper):Bool:=R.toList.all (fun o=>match o.dst with|some d=>decide (d<N)|none=>true)
def codeOk(N:Nat):Code→Bool
 | .seq x y=>codeOk N x&&codeOk N y
 | .region _ R false=>acK N R
 | .region _ R true=>H9 R N
 | .cond _ x y=>codeOk N x&&codeOk N y
 | .block _ c=>codeOk N c
 | .loop c=>codeOk N c
 |_=>true
theorem lN(jv:P.follows .mixedOrders=true):∀(c:Code) (Q:Exit→St→Prop) (s:St),codeOk N c=true→CW P N c Q s→AW P N c Q s
 | .seq x y,Q,s,ok,h=>by
   simp only[codeOk,Bool.and_eq_true] at ok
   refine TV (AW.mono (lN jv x _ s ok.1 h) fun e s' h'=> ?_)
   cases e with
   |normal=>exact lN jv y Q s' ok.2 h'
   |_=>exact h'
 | .region _ R false,Q,s,ok,h=>TW ok h
 | .region _ R true,Q,s,ok,h=>Ri jv ok h
 | .cond c x y,Q,s,ok,h=>by
   simp only[codeOk,Bool.and_eq_true] at ok
   simp only[CW,Dc] at h
   split at h
   ·rename_i b hb
    exact Zm hb (fun e=>lN jv x Q s ok.1 (h.1 e)) (fun e=>lN jv y Q s ok.2 (h.2 e))
   ·exact h.elim
 | .block id c,Q,s,ok,h=>Wj (lN jv c _ s ok h)
 | .exit id,Q,s,ok,h=>Zl h
 | .ret,Q,s,ok,h=>aaO h
 | .skip,Q,s,ok,h=>Zk h
 | .loop c,Q,s,ok,h=>h
 | .rangeFunc _ _ _ _,Q,s,ok,h=>h.elim
 | .scope _,Q,s,ok,h=>h.elim
 | .label _,Q,s,ok,h=>h.elim
 | .goto _,Q,s,ok,h=>h.elim
 | .refuse _,Q,s,ok,h=>h.elim
theorem aa9{x y:Code}{Q:Exit→St→Prop}:CW P N (.seq x y) Q s=CW P N x (lF (CW P N y Q) Q) s:=by rw[CW]
theorem UD{id:Nat}{l:List Oper}{Q:Exit→St→Prop}:CW P N (.region id ⟨l⟩ false) Q s=xR P ⟨l⟩ l s (Q .normal):=by rw[CW]
theorem ZE{id:Nat}{l:List Oper}{Q:Exit→St→Prop}:CW P N (.region id ⟨l⟩ true) Q s=qF P (FD ⟨l⟩ N) ⟨l⟩ l s (Q .normal):=by rw[CW]
theorem ZF{c:Operand}{x y:Code}{Q:Exit→St→Prop}:CW P N (.cond c x y) Q s=Dc (ev s.tm c) (CW P N x Q) (CW P N y Q) s:=by rw[CW]
theorem Xd{id:Nat}{c:Code}{Q:Exit→St→Prop}:CW P N (.block id c) Q s=CW P N c (wX id Q) s:=by rw[CW]
theorem ZG{id:Nat}{Q:Exit→St→Prop}:CW P N (.exit id) Q s=Q (.exit id) s:=by rw[CW]
theorem abb{Q:Exit→St→Prop}:CW P N .ret Q s=Q .ret s:=by rw[CW]
theorem ZH{Q:Exit→St→Prop}:CW P N .skip Q s=Q .normal s:=by rw[CW]
theorem ZI{c:Code}{Q:Exit→St→Prop}:CW P N (.loop c) Q s=AW P N (.loop c) Q s:=by rw[CW]
theorem MG{K:St→Prop}{Q:Exit→St→Prop}:lF K Q .normal s=K s:=rfl
theorem UE{K:St→Prop}{Q:Exit→St→Prop}:lF K Q .ret s=Q .ret s:=rfl
theorem RH{K:St→Prop}{Q:Exit→St→Prop}{i:Nat}:lF K Q (.exit i) s=Q (.exit i) s:=rfl
theorem MH{id:Nat}{Q:Exit→St→Prop}:wX id Q .normal s=Q .normal s:=rfl
theorem UF{id:Nat}{Q:Exit→St→Prop}:wX id Q .ret s=Q .ret s:=rfl
theorem RI{id i:Nat}{Q:Exit→St→Prop}:wX id Q (.exit i) s=if i=id then Q .normal s else Q (.exit i) s:=rfl
def Xe(post:V→Store→Prop)(s:St)(r:R):Prop:=r.1∧match r.2.ret with
 |some v=>post v (fK s.st)
 |none=>False
theorem ZJ{post:V→Store→Prop}{p:Prop}{v:V}:Xe post s (p,v)=(p∧match v.ret with
 |some v=>post v (fK s.st)
 |none=>False):=rfl
def Xf(P:Program)(rs:List ResultVar)(post:V→Store→Prop)(e:Exit)(s:St):Prop:=Wl P rs post e (zH s)
def MI(P:Program)(rs:List ResultVar)(post:V→Store→Prop)(s:St):Prop:=Xe post s (qE P rs s)
theorem Xg{rs:List ResultVar}{post:V→Store→Prop}:Xf P rs post .ret s=MI P rs post (zH s):=rfl
theorem OP{rs:List ResultVar}{post:V→Store→Prop}:Xf P rs post .normal s=MI P rs post (zH s):=rfl
theorem ZK{rs:List ResultVar}{post:V→Store→Prop}{tm:List (Nat×V)}:MI P rs post ⟨tm,S⟩=Xe post ⟨tm,S⟩ (qE P rs ⟨tm,S⟩):=rfl
def abd(j:Nat)(es:List (List D))(tm:List (Nat×V)):List (Nat×V):=tm.map fun x=>(x.1,x.2.lT j es)
theorem UG{j:Nat}{es:List (List D)}{tm:List (Nat×V)}{t:Nat}:look (abd j es tm) t=(look tm t).lT j es:=Am (f:=V.lT j es) rfl tm t
def abe(j:Nat)(tm:List (Nat×V))(own:List Obj)(Ω:Store):Option Obj→St
 |some (.eT _ es)=>⟨abd j es tm,(own.map (Obj.lT j es)).set j .dead::Ω⟩
 |_=>⟨tm,own::Ω⟩
theorem Xh{j:Nat}{tm:List (Nat×V)}{own:List Obj}{Ω:Store}:FK j ⟨tm,own::Ω⟩=abe j tm own Ω (own[j]?):=by
 unfold FK
 simp only
 generalize own[j]? =o
 cases o with
 |none=>rfl
 |some o=>cases o<;>rfl
theorem UH{tm:List (Nat×V)}{own:List Obj}{Ω:Store}:zH ⟨tm,own::Ω⟩=FL own.length ⟨tm,own::Ω⟩:=rfl
theorem aB{f:FuncId}{fn:Func}{c:Code}{args:List V}{post:V→Store→Prop}{rs:List ResultVar}(jv:P.follows .mixedOrders=true)(hf:P.funcs[f]? =some fn)(hN:fn.ntmps=N)
 (hb:fn.body=some c) (hn:(fn.name== "runtime.NumGoroutine")=false) (hr:fn.results.toList=rs) (hl:Nat.ble args.length N=true) (hok:codeOk N c=true)
 (h:CW P N c (Xf P rs post) ⟨nV (args.map (V.up 1)) 0,[]::S⟩):dG P f args S post:=by
 subst hN
 subst hr
 exact vF hf hb hn (Nat.le_of_ble_eq_true hl) (xW Mj (lN jv c _ _ hok h))
end
end Go.Ab
namespace Go.Ab
theorem Qi(n:Int)(h: -9223372036854775808≤n∧n≤9223372036854775807):IntKind.i64.wrap n=n:=IntWalk.i64_in n h
theorem wrap_u8(n:Int)(h:0≤n∧n≤255):IntKind.u8.wrap n=n:=IntWalk.u8_in n h
theorem getD_map{α β:Type}(f:α→β)(l:List α)(i:Nat)(d:β)(h:i<l.length):(l.map f).getD i d=f l[i]:=by
 simp[List.getD,h]
theorem RJ{k:IntKind}{n:Int}:xJ (.int k n)=.c (.d (.i k n)):=rfl
theorem OQ{b:Bool}:xJ (.bool b)=.c (.d (.b b)):=rfl
theorem RL{l:List UInt8}:xJ (.string ⟨⟨l⟩⟩)=.c (.d (.s l)):=rfl
theorem OT:xJ (.slice none 0 0)=.c (.bC []):=rfl
theorem Xi{tm:List (Nat×V)}{S:Store}{d:Nat}{v:V}:St.put ⟨tm,S⟩ (some d) v=⟨(d,v)::tm,S⟩:=rfl
theorem Xj{tm:List (Nat×V)}{S:Store}{v:V}:St.put ⟨tm,S⟩ none v=⟨tm,S⟩:=rfl
theorem abf{a b:V}:CU (.c (.d (.b true))) a b=(True,a):=rfl
theorem abg{a b:V}:CU (.c (.d (.b false))) a b=(True,b):=rfl
theorem OU{tm:List (Nat×V)}{own:List Obj}{Ω:Store}{dst:Option Nat}{o:Obj}{mk:Key→V}{K:St→Prop}:
 newObj ⟨tm,own::Ω⟩ dst o mk K=K (St.put ⟨tm,(own++[o])::Ω⟩ dst (mk (0,own.length))):=rfl
theorem abh{x:C}{s:St}{dst:Option Nat}{K:St→Prop}:xO (.c x) s dst K=newObj s dst (.box [x]) (fun k=>.c (.ptr k 0)) K:=rfl
theorem Xk{x:List C}{s:St}{dst:Option Nat}{K:St→Prop}:xO (.agg x) s dst K=newObj s dst (.box x) (fun k=>.c (.ptr k 0)) K:=rfl
theorem Xl{α β:Type}{f:α→Option β}:([]:List α).mapM f=some []:=by simp
theorem UJ{α β:Type}{f:α→Option β}{x:α}{xs:List α}:(x::xs).mapM f=(f x).bind fun y=>(xs.mapM f).bind fun ys=>some (y::ys):=by
 rw[List.mapM_cons];rfl
theorem acL{c:C}:C.down 0 c=some c:=by cases c<;>simp[C.down]
theorem Xm{n m j:Nat}{es:List (List D)}:C.down n (.bI (n+m,j) es)=some (.bI (m,j) es):=by simp[C.down]
theorem UK{n j:Nat}{es:List (List D)}:C.down n (.bI (n,j) es)=some (.bI (0,j) es):=by simp[C.down]
theorem abj{n:Nat}{x:D}:C.down n (.d x)=some (.d x):=rfl
theorem Xn{n:Nat}:C.down n .any=some .any:=rfl
theorem Xo{n:Nat}{es:List (List D)}:C.down n (.bC es)=some (.bC es):=rfl
theorem Xp{n m j off:Nat}:C.down n (.ptr (n+m,j) off)=some (.ptr (m,j) off):=by simp[C.down]
theorem UL{n j off:Nat}:C.down n (.ptr (n,j) off)=some (.ptr (0,j) off):=by simp[C.down]
theorem Xq{n m:Nat}{es:List (List D)}:C.down n (.kg m es)=some (.kg m es):=rfl
theorem Xr{Ω:Store}:qL ([]::Ω)=none:=rfl
theorem Xt{cs:List C}{own:List Obj}{Ω:Store}:qL ((.box cs::own)::Ω)=none:=rfl
theorem Xu{z:Nat}{es:List (List D)}{own:List Obj}{Ω:Store}:qL ((.tok z es::own)::Ω)=none:=rfl
theorem UM{z:Nat}{es:List (List D)}{own:List Obj}{Ω:Store}:qL ((.eT z es::own)::Ω)=none:=rfl
theorem ZL{m:List (List UInt8)}{own:List Obj}{Ω:Store}:qL ((.mp m::own)::Ω)=none:=rfl
theorem UN{own:List Obj}{Ω:Store}:qL ((.dead::own)::Ω)=none:=rfl
theorem UO{n z:Nat}{es:List (List D)}{own:List Obj}{Ω:Store}:qL ((.eB n z es::own)::Ω)=none:=rfl
theorem UQ{n:Nat}{own:List Obj}{Ω:Store}:qL ((.seed n::own)::Ω)=some n:=rfl
theorem UR{es x:List (List D)}{z:Nat}{s:St}{dst:Option Nat}{K:St→Prop}:xP none es s dst z x K=newObj s dst (.tok z x) (fun k=>.c (.bI k x)) K:=rfl
theorem Xv{n:Nat}{x:List (List D)}{z:Nat}{s:St}{dst:Option Nat}{K:St→Prop}:xP (some n) [] s dst z x K=K (St.put ⟨s.tm,s.st⟩ dst (.c (.d (.ol n x)))):=rfl
theorem UU{n:Nat}{y:List D}{es x:List (List D)}{z:Nat}{s:St}{dst:Option Nat}{K:St→Prop}:xP (some n) (y::es) s dst z x K=newObj s dst (.tok z x) (fun k=>.c (.bI k x)) K:=rfl
theorem RN{n:Nat}{x:List (List D)}{z:Nat}{s:St}{dst:Option Nat}{K:St→Prop}:za false n s dst z x K=newObj s dst (.eB n z x) (fun k=>.c (.bI k x)) K:=rfl
theorem UW{n:Nat}{x:List (List D)}{z:Nat}{s:St}{dst:Option Nat}{K:St→Prop}:za true n s dst z x K=K (St.put ⟨s.tm,s.st⟩ dst (.c (.d (.ol n x)))):=rfl
theorem Xw{own:List Obj}{Ω:Store}:Q5 (own::Ω)=tY own[1]? :=rfl
theorem RO:tY none=false:=rfl
theorem UY{cs:List C}:tY (some (.box cs))=false:=rfl
theorem UZ{z:Nat}{es:List (List D)}:tY (some (.tok z es))=false:=rfl
theorem RP{n z:Nat}{es:List (List D)}:tY (some (.eB n z es))=false:=rfl
theorem RQ{z:Nat}{es:List (List D)}:tY (some (.eT z es))=false:=rfl
theorem RS:tY (some .dead)=false:=rfl
theorem Xx{m:List (List UInt8)}:tY (some (.mp m))=false:=rfl
theorem OV:tY (some (.seed 0))=false:=rfl
theorem OW:tY (some (.seed 1))=true:=rfl
attribute [go_sem] UR Xv UU RN UW Xw RO UY UZ RP RQ RS Xx OV OW
theorem Xy{P:Program}{t:TypeId}{n:Nat}{parts:List (Nat×V)}:oo P none t n parts=qo P t n parts:=rfl
def Y3(m:Nat):R→R
 |(p,.c (.bC es))=>(p,.c (.kg m es))
 |_=>no
theorem Xz{m:Nat}{p:Prop}{es:List (List D)}:Y3 m (p,.c (.bC es))=(p,.c (.kg m es)):=rfl
theorem XA{P:Program}{m:Nat}{t:TypeId}{n:Nat}{parts:List (Nat×V)}:oo P (some m) t n parts=Y3 m (qo P t n parts):=rfl
attribute [go_sem_proc] Nat.reduceEqDiff Nat.reduceAdd Nat.reduceLeDiff Nat.reduceSub Nat.reduceMul Nat.reduceBEq Int.reduceEq Int.reduceLT Int.reduceLE Int.reduceGT Int.reduceGE Int.reduceNeg Int.reduceToNat
attribute [go_sem_proc ↓] reduceIte
attribute [wf_preprocess] decide_eq_true_eq decide_eq_false_iff_not Bool.not_eq_true Bool.not_eq_false Bool.not_eq_eq_eq_not Bool.not_true Bool.not_false Classical.not_not
attribute [go_sem ↓] Xa Un Uo Rp Xb Uq Ur Rq OA OB Ms Mt ZC WW Ui aa9 UD ZE ZF Xd ZG abb ZH ZI MG UE RH MH UF RI Xg OP UH OC Mv Uk Ul Um UA UC Rs Xc Rt Us Mw Ic OD Kq FM Mx Ut Uu OE Uv Uw Ie Ru Ig Rv Rw Ux MB MC Kr Kt Rx Ry FN OG Uy OH Rz ME RA MF RB RD FP OI FQ OJ OL RF Ku Kv Ih Ii OM OO En Uz RG
attribute [go_sem] xX Rn Oz WX ZK ZJ Dc FL Xh abe UG V.lT C.lT Obj.lT WY WZ W9 xY
 Rl Rm ZA WR WS WU ZB WV ev RJ OQ RL OT zu Xi Xj look abf abg OU abh Xk qM qN tX qy Q0
 wV CV wD headD QF pz zw yI vP pE zx QI QJ Hw P9 CX uR zZ zy tO sM capOf sN
 Lj su uT qw qx rT bL cu C.up V.up wL fC nV V.oI C.oI acL Xm UK abj Xn Xo Xp UL
 List.map_cons List.map_nil List.append_nil List.nil_append List.length_nil List.length_cons List.cons_append Option.map_some Option.map_none Option.bind_some Option.bind_none
 List.getElem?_cons_zero List.getElem?_cons_succ List.set_cons_zero List.set_cons_succ List.drop_zero List.drop_succ_cons List.drop_nil List.take_zero List.take_succ_cons List.take_nil
 if_true if_false true_and and_true Int.toNat_natCast List.getElem?_toArray List.size_toArray Nat.zero_add Nat.add_zero Bool.false_eq_true Bool.true_eq_false Bool.not_true Bool.not_false reduceCtorEq
 decide_true decide_false List.all_cons List.all_nil Bool.and_true Bool.true_and Option.isSome_some Option.isSome_none Qi getD_map Xl UJ Jj splice List.length_map z8 zA uS qo List.size_toArray Xr Xt Xu UM ZL UN UO UQ Xy XA Xz Xq
section
variable {P:Program} {S S':Store} {N:Nat} {s:St}
def fH:List Nat→List V→List (Nat×V)
 |t::ts,v::vs=>(t,v)::fH ts vs
 |_,_=>[]
theorem xZ(f:Nat→V):∀(ts:List Nat) (t:Nat),look (fH ts (ts.map f)) t=f t∨look (fH ts (ts.map f)) t=.any
 |[],t=>.inr rfl
 |u::us,t=>by
  show(if u=t then f u else look (fH us (us.map f)) t)=f t∨(if u=t then f u else look (fH us (us.map f)) t)=.any
  by_cases e:u=t
  ·left;rw[if_pos e,e]
  ·rw[if_neg e];exact xZ f us t
def Inv{ι:Type}(N:Nat)(ts:List Nat)(f:ι→List V)(g:ι→Store)(p:ι→Prop)(μ:ι→Nat)(i:ι)(s':St):Prop:=∃j s0,μ j<μ i∧gJ N s' s0∧ts.map (look s0.tm)=f j∧s0.st=g j∧p j
theorem bF{ι:Type}{ts:List Nat}{f:ι→List V}{g:ι→Store}{p:ι→Prop}{μ:ι→Nat}{i:ι}(j:ι)(h1:μ j<μ i)(h2:ts.map (look s.tm)=f j)(h3:s.st=g j)(h4:p j):Inv N ts f g p μ i s:=
 ⟨j,s,h1,gJ.refl _ _,h2,h3,h4⟩
theorem x9:∀(ts:List Nat) (vs:List V),ts.Nodup→ts.length=vs.length→ts.map (look (fH ts vs))=vs
 |[],[],_,_=>rfl
 |t::ts,v::vs,hn,hl=>by
  have hn':=List.nodup_cons.1 hn
  have ih:=x9 ts vs hn'.2 (by simpa using hl)
  simp only[fH,List.map_cons,look,if_true,List.cons.injEq,true_and]
  rw[←ih]
  refine List.map_congr_left fun u hu=> ?_
  have hne:t≠u:=fun e=>hn'.1 (e▸hu)
  rw[if_neg hne,ih]
theorem bX{ι:Type}{ts:List Nat}{f:ι→List V}{g:ι→Store}{p:ι→Prop}{μ:ι→Nat}{i:ι}{tm:List (Nat×V)}{own:List Obj}{Ω:Store}(n:Nat)(hnd:ts.Nodup)(j:ι)(h1:μ j<μ i)(h2:ts.map (look tm)=f j)(h3:own.take n::Ω=g j)
 (hr:gG n (fH ts (f j))=true) (ho:(own.take n).all (Obj.refs n)=true) (h4:p j):Inv N ts f g p μ i ⟨tm,own::Ω⟩:=by
 refine⟨j,⟨fH ts (f j),own.take n::Ω⟩,h1,?_,?_,h3,h4⟩
 ·have hg:gJ N ⟨tm,own::Ω⟩ ⟨fH ts (f j),own::Ω⟩:=by
   rw[←h2]
   exact Em fun t=>xZ _ ts t
  exact hg.trans (FI n hr ho)
 ·exact x9 ts (f j) hnd (by rw[←h2];simp)
theorem aR{ι:Type}{c:Code}{Q:Exit→St→Prop}(jv:P.follows .mixedOrders=true)(hok:codeOk N c=true)(ts:List Nat)(f:ι→List V)(g:ι→Store)(p:ι→Prop)(μ:ι→Nat)(i0:ι)
 (h1:ts.map (look s.tm)=f i0) (h2:s.st=g i0) (h3:p i0)
 (round:∀i,p i→CW P N c (lF (Inv N ts f g p μ i) Q) ⟨fH ts (f i),g i⟩):AW P N (.loop c) Q s:=by
 refine Zn (ι:=ι) (fun i s=>∃s0,gJ N s s0∧ts.map (look s0.tm)=f i∧s0.st=g i∧p i) μ i0 ⟨s,gJ.refl _ _,h1,h2,h3⟩ fun i s hI=> ?_
 obtain⟨s0,hg,h1,h2,h3⟩:=hI
 refine oq ?_ hg
 have hr:=(lN jv c _ _ hok (round i h3)).mono (Q':=lF (fun s'=>∃j,μ j<μ i∧∃s0,gJ N s' s0∧ts.map (look s0.tm)=f j∧s0.st=g j∧p j) Q) fun e s' h=>by
  cases e with
  |normal=>
   obtain⟨j,s0,a1,a2,a3,a4,a5⟩:=h
   exact⟨j,a1,s0,a2,a3,a4,a5⟩
  |_=>exact h
 obtain⟨tm,st⟩:=s0
 simp only at h1 h2
 subst h2
 rw[←h1] at hr
 exact acD hr fun t=>xZ _ ts t
theorem XB:qE P [] s=(True,.iE []):=rfl
theorem XC{x:ResultVar}:qE P [x] s=uf P s x:=rfl
theorem XD{x y:ResultVar}{z:List ResultVar}:qE P (x::y::z) s=(match(nH P s (x::y::z)).2 with
 |some ys=>((nH P s (x::y::z)).1,.iE ys)
 |none=>no):=rfl
end
attribute [go_sem] zY EY
attribute [go_sem] fH XB XC XD uf nH Fx fK V.ret CZ
end Go.Ab
namespace Go.Ab
section
variable {P:Program} {S S':Store} {N:Nat} {s:St}
theorem MJ{α:Type}{fr:List α}{S:List (List α)}{l j:Nat}:bL (fr::S) (1+l,j)=bL S (l,j):=by rw[Nat.add_comm,dn]
theorem XE{α:Type}{fr:List α}{S:List (List α)}{l j:Nat}{x:α}:cu (fr::S) (1+l,j) x=fr::cu S (l,j) x:=by rw[Nat.add_comm,cu]
theorem abk{n l j:Nat}:wL n (l,j)=(n+l,j):=rfl
theorem RU{l j:Nat}{es:List (List D)}:C.ret (.bI (1+l,j) es)=some (.bI (l,j) es):=by
 rw[Nat.add_comm]
 show C.down 1 (.bI (l+1,j) es)=_
 simp[C.down]
theorem ret_tsl_0{j:Nat}{es:List (List D)}:C.ret (.bI (0,j) es)=some (.d (.sl es)):=rfl
theorem acM{x:D}:C.ret (.d x)=some (.d x):=rfl
theorem ZM:C.ret .any=some .any:=rfl
theorem ZN{es:List (List D)}:C.ret (.bC es)=some (.bC es):=rfl
theorem ZO{n:Nat}{es:List (List D)}:C.ret (.kg n es)=some (.kg n es):=rfl
theorem XF{cs:List D}:C.ret (.kH cs)=some (.kH cs):=rfl
theorem ZP{l j off:Nat}:C.ret (.ptr (1+l,j) off)=some (.ptr (l,j) off):=by
 rw[Nat.add_comm]
 show C.down 1 (.ptr (l+1,j) off)=_
 simp[C.down]
theorem ZQ{j:Nat}{es es':List (List D)}{k:Key}:C.lT j es (.bI k es')=.bI k es':=rfl
theorem acN{x:D}:C.oI (.d x)=.d x:=rfl
theorem ZR:C.oI .any=.any:=rfl
theorem ZT{k:Key}{off:Nat}:C.oI (.ptr k off)=.ptr k off:=rfl
theorem abl{f:Nat}{caps:List (Key×Nat)}:C.oI (.fn f caps)=.fn f caps:=rfl
theorem ZU{k:Key}:C.oI (.jd k)=.jd k:=rfl
theorem XG{cs:List D}:C.oI (.kH cs)=.kH cs:=rfl
theorem acO{j:Nat}{es:List (List D)}{x:D}:C.lT j es (.d x)=.d x:=rfl
theorem ZV{j:Nat}{es:List (List D)}:C.lT j es .any=.any:=rfl
theorem ZW{j:Nat}{es es':List (List D)}:C.lT j es (.bC es')=.bC es':=rfl
theorem ZX{j:Nat}{es:List (List D)}{k:Key}{off:Nat}:C.lT j es (.ptr k off)=.ptr k off:=rfl
theorem abm{j:Nat}{es:List (List D)}{f:Nat}{caps:List (Key×Nat)}:C.lT j es (.fn f caps)=.fn f caps:=rfl
theorem ZY{j n:Nat}{es es':List (List D)}:C.lT j es (.kg n es')=.kg n es':=rfl
theorem Z0{n:Nat}{es:List (List D)}:C.oI (.kg n es)=.kg n es:=rfl
theorem XH{j:Nat}{es:List (List D)}{cs:List D}:C.lT j es (.kH cs)=.kH cs:=rfl
theorem Z4{j i:Nat}{es:List (List D)}:C.lT j es (.jd (0,i))=if i=j then .d (.sl es) else .jd (0,i):=rfl
theorem dG.XI{f:FuncId}(i:Nat){es:List (List D)}{bn:Nat}{args:List V}{post post':V→Store→Prop}(hi:args[i]? =some (.c (.bC es)))(hes:∀e∈es,e.length=bn)
 (h:dG P f ((args.map (V.up 1)).set i (.c (.bI (0,0) es))) ([.tok bn es]::S) post)
 (hp:∀r fr S',post r (fr::S')→∃r',r.ret=some r'∧post' r' S'):dG P f args S post':=by
 refine⟨h.1,fun w σ β vs hS hargs=> ?_⟩
 obtain⟨v,hv0,⟨hd,ad,n,hval⟩,hone⟩:=hargs.2 i _ hi
 ·have hn:n=es.length:=by rw[hval] at hd;cases hd<;>rfl
  have hg:Grow w σ w σ:=Grow.refl hS.live
  obtain⟨hS',hk,hst⟩:=hS.up1.push (o:=.tok bn es) (h:=v) hg rfl ⟨hd,hes,ad,n,by rw[hval,hn],by omega,.inl hn⟩ (fun b hb=>by
   rw[hval,hn] at hb
   cases ad<;>simp[owns,blk] at hb)
  have hargs':nN w σ ([.tok bn es]::S) ([v]::β) ((args.map (V.up 1)).set i (.c (.bI (0,0) es))) vs:=by
   refine⟨by have:=hargs.1;simpa using this,fun j x hx=> ?_⟩
   rw[List.getElem?_set] at hx
   by_cases e:i=j
   ·subst e
    rw[if_pos rfl] at hx
    split at hx
    ·cases hx
     refine⟨v,hv0,⟨hd,.tok bn es,rfl,fun a b e=> ?_⟩,hone⟩
     obtain⟨_,rfl⟩:=mQ (lab:=none) e
     exact⟨Nat.le_refl _,fun _=>rfl⟩
    ·cases hx
   ·rw[if_neg e,List.getElem?_map] at hx
    cases ha:args[j]? with
    |none=>rw[ha] at hx;cases hx
    |some y=>
     rw[ha] at hx;cases hx
     obtain⟨u,hu,hr⟩:=hargs.2 j y ha
     exact⟨u,hu,H8 (S:=[.tok bn es]::S) (β:=[v]::β) 1 hr⟩
  refine(h.2 w σ ([v]::β) vs hS' hargs').mono fun e w' ⟨v',r,S1,σ',β',he,hS1,hk1,yc,hr1,hpost⟩=> ?_
  have hO:∀b,Own ([.tok bn es]::S) ([v]::β) b→Own S β b:=by
   rintro b ⟨⟨l,j⟩,o,hv,h1,h2,h3⟩
   cases l with
   |zero=>
    rw[bP] at h1 h2
    cases j with
    |zero=>
     cases h1;cases h2
     rw[hval,hn] at h3
     cases ad<;>simp[owns,blk] at h3
    |succ j=>simp at h1
   |succ l=>rw[dn] at h1 h2;exact⟨(l,j),o,hv,h1,h2,h3⟩
  cases S1 with
  |nil=>
   obtain⟨o',h1,_⟩:=hk1 (0,0) _ rfl
   rw[mP] at h1;cases h1
  |cons fr S1=>
   cases β' with
   |nil=>have:=hS1.shape.1;simp at this
   |cons bo bΩ=>
    obtain⟨r',hr',hp'⟩:=hp r fr S1 hpost
    refine⟨v',r',S1,σ',bΩ,he,hS1.YW,hk1.drop 1,⟨yc.size,yc.os,yc.output,fun b hb ho=>yc.far b hb (fun x=>ho (hO b x)),yc.near,fun b hb=>(yc.own b (Jz hb)).imp (hO b) id⟩,LX hr' hr1,hp'⟩
end
attribute [go_sem] MJ XE abk RU ret_tsl_0 acM ZM ZN XF ZP ZQ acN ZR ZT abl ZU XG acO ZV ZW ZX abm XH Z4 ZO ZY Z0
end Go.Ab
namespace Go.Ab
section
variable {P:Program} {S S':Store} {N:Nat} {s:St}
theorem BJ(S:Store)(β:Hs)(k:Key):Keep S β (cu S k .dead) β:=by
 intro k' o ho
 by_cases e:k=k'
 ·subst e
  exact⟨.dead,gq _ _ _ _ ho,.inl rfl⟩
 ·exact⟨o,by rw[gu _ _ _ _ e];exact ho,lD.refl _ _⟩
theorem vW{k k':Key}{o:Obj}(h:bL (cu S k .dead) k'=some o):(k=k'∧o=.dead)∨bL S k'=some o:=by
 by_cases e:k=k'
 ·subst e
  cases hg:bL S k with
  |none=>
   have:∀(S:Store) (k:Key),bL S k=none→cu S k .dead=S:=by
    intro S
    induction S with
    |nil=>intro k _;rfl
    |cons fr S ih=>
     rintro⟨l,j⟩ h
     cases l with
     |zero=>
      rw[bP] at h
      rw[cu,List.set_eq_of_length_le (List.getElem?_eq_none_iff.1 h)]
     |succ l=>rw[dn] at h;rw[cu,ih _ h]
   rw[this S k hg,hg] at h
   cases h
  |some y=>
   rw[gq _ _ _ _ hg] at h
   cases h
   exact .inl ⟨rfl,rfl⟩
 ·rw[gu _ _ _ _ e] at h
  exact .inr h
theorem MK(x:Obj):∀(S:Store) (k:Key),(cu S k x).length=S.length
 |[],k=>rfl
 |fr::S,(0,j)=>by rw[cu];simp
 |fr::S,(l+1,j)=>by rw[cu,List.length_cons,MK x S,List.length_cons]
theorem Qj(x:Obj):∀(S:Store) (k:Key) (l:Nat) (fr:List Obj),(cu S k x)[l]? =some fr→∃yL,S[l]? =some yL∧yL.length=fr.length
 |[],k,l,fr,h=>by simp[cu] at h
 |f::S,(0,j),0,fr,h=>by rw[cu] at h;simp at h;subst h;exact⟨f,rfl,by simp⟩
 |f::S,(0,j),l+1,fr,h=>by rw[cu] at h;exact⟨fr,by simpa using h,rfl⟩
 |f::S,(i+1,j),0,fr,h=>by rw[cu] at h;exact⟨fr,by simpa using h,rfl⟩
 |f::S,(i+1,j),l+1,fr,h=>by
  rw[cu] at h
  simpa using Qj x S (i,j) l fr (by simpa using h)
theorem XJ{w:World}{σ:Nat→Nat}{β:Hs}(k:Key)(hS:eF w σ S β):eF w σ (cu S k .dead) β:=by
 have hn:fG w σ w σ:=(Grow.refl hS.live).near
 refine⟨fun k' o ho=> ?_,fun k1 k2 o1 o2 h1 h2 b e1 e2 e3 e4 e5 e6=> ?_,⟨by rw[MK];exact hS.shape.1,fun l fr hl=> ?_⟩,hS.live,hS.rO⟩
 ·rcases vW ho with⟨rfl,rfl⟩|ho'
  ·cases hg:bL S k with
   |none=>
    exfalso
    have:=BJ S β k
    rcases vW (S:=S) (k:=k) (k':=k) ho with⟨_,_⟩|h
    ·
     have hne:bL (cu S k .dead) k=none:=by
      have:∀(S:Store) (k:Key),bL S k=none→bL (cu S k Obj.dead) k=none:=by
       intro S
       induction S with
       |nil=>intro k _;rw[cu,mP]
       |cons fr S ih=>
        rintro⟨l,j⟩ h
        cases l with
        |zero=>
         rw[bP] at h
         rw[cu,bP,List.set_eq_of_length_le (List.getElem?_eq_none_iff.1 h)]
         exact h
        |succ l=>rw[dn] at h;rw[cu,dn];exact ih _ h
      exact this S k hg
     rw[hne] at ho;cases ho
    ·rw[hg] at h;cases h
   |some y=>
    obtain⟨h,hh,_⟩:=hS.obj k y hg
    exact⟨h,hh,trivial⟩
  ·obtain⟨h,hh,hr⟩:=hS.obj k' o ho'
   exact⟨h,hh,hr.mono hn ((BJ S β k).drop k'.1) fun b _=>⟨rfl,rfl⟩⟩
 ·rcases vW e1 with⟨_,rfl⟩|e1'
  ·cases e3
  ·rcases vW e4 with⟨_,rfl⟩|e4'
   ·cases e6
   ·exact hS.apart k1 k2 o1 o2 h1 h2 b e1' e2 e3 e4' e5 e6
 ·obtain⟨yL,h1,h2⟩:=Qj _ S k l fr hl
  obtain⟨gr,h3,h4⟩:=hS.shape.2 l yL h1
  exact⟨gr,h3,by omega⟩
def Less(r r':V):Prop:=∀w σ S β v,dF w σ S β r v→dF w σ S β r' v
theorem Less.refl(r:V):Less r r:=fun _ _ _ _ _ h=>h
theorem dG.kill{f:FuncId}{args:List V}{post post':V→Store→Prop}(k:Key)(h:dG P f args S post)(hp:∀r S',post r S'→∃r',Less r r'∧(post' r' S'∨post' r' (cu S' k .dead))):dG P f args S post':=by
 refine⟨h.1,fun w σ β vs hS hv=>(h.2 w σ β vs hS hv).mono fun e w' ⟨v,r,S',σ',β',h1,h2,h3,h4,h5,h6⟩=> ?_⟩
 obtain⟨r',hl,hp|hp⟩:=hp r S' h6
 ·exact⟨v,r',S',σ',β',h1,h2,h3,h4,hl _ _ _ _ _ h5,hp⟩
 ·have hkeep:=BJ S' β' k
  refine⟨v,r',cu S' k .dead,σ',β',h1,XJ k h2,h3.trans hkeep,⟨h4.size,h4.os,h4.output,h4.far,h4.near,fun b hb=> ?_⟩,hl _ _ _ _ _ (h5.mono (Grow.refl h2.live).near hkeep),hp⟩
  obtain⟨k',o,hv,e1,e2,e3⟩:=hb
  rcases vW e1 with⟨_,rfl⟩|e1'
  ·cases e3
  ·exact h4.own b ⟨k',o,hv,e1',e2,e3⟩
theorem nW{x y:Obj}:∀(S:Store) (k:Key),cu (cu S k x) k y=cu S k y
 |[],k=>rfl
 |fr::S,(0,j)=>by rw[cu,cu,cu];simp
 |fr::S,(l+1,j)=>by rw[cu,cu,cu,nW S]
theorem yO{x:Obj}:∀(S:Store) (k:Key),bL S k=some x→cu S k x=S
 |[],k,_=>rfl
 |fr::S,(0,j),h=>by
  rw[bP] at h
  rw[cu]
  congr 1
  exact List.ext_getElem? fun i=>by
   rw[List.getElem?_set]
   split
   ·rename_i e;subst e
    obtain⟨h1,h2⟩:=List.getElem?_eq_some_iff.1 h
    simp[h1,h2]
   ·rfl
 |fr::S,(l+1,j),h=>by rw[dn] at h;rw[cu,yO S _ h]
def rQ:List Bool→List V→List V
 |true::m,v::vs=>v::rQ m vs
 |false::m,v::vs=>v.oI::rQ m vs
 |[],vs=>vs.map V.oI
 |_,[]=>[]
theorem Eo:∀(m:List Bool) (vs:List V),vs.length=(rQ m vs).length
 |true::m,v::vs=>by rw[rQ,List.length_cons,List.length_cons,Eo m vs]
 |false::m,v::vs=>by rw[rQ,List.length_cons,List.length_cons,Eo m vs]
 |[],vs=>by simp[rQ]
 |true::m,[]=>rfl
 |false::m,[]=>rfl
theorem Ij:∀(m:List Bool) (vs:List V) (j:Nat) (x y:V),vs[j]? =some x→(rQ m vs)[j]? =some y→y=x∨y=x.oI
 |true::m,v::vs,0,x,y,h1,h2=>by rw[rQ] at h2;cases h1;cases h2;exact .inl rfl
 |false::m,v::vs,0,x,y,h1,h2=>by rw[rQ] at h2;cases h1;cases h2;exact .inr rfl
 |true::m,v::vs,j+1,x,y,h1,h2=>by rw[rQ] at h2;exact Ij m vs j x y h1 h2
 |false::m,v::vs,j+1,x,y,h1,h2=>by rw[rQ] at h2;exact Ij m vs j x y h1 h2
 |[],vs,j,x,y,h1,h2=>by rw[rQ,List.getElem?_map,h1] at h2;cases h2;exact .inr rfl
 |true::m,[],j,x,y,h1,h2=>by simp at h1
 |false::m,[],j,x,y,h1,h2=>by simp at h1
theorem dG.rQ(m:List Bool){f:FuncId}{args:List V}{post:V→Store→Prop}(h:dG P f (Go.Ab.rQ m args) S post):dG P f args S post:=
 h.weaken (Eo m args) fun j x y hx hy w σ β v hr=>by
  rcases Ij m args j x y hx hy with e|e
  ·rw[e];exact hr
  ·rw[e];exact Mg hr
theorem kQ(m:List Bool){dr:Option Nat}{f:FuncId}{args:List V}{dst:Option Nat}{K:St→Prop}{r:V}{S1:Store}(hm:Y2 dr=true)(h:dG P f (rQ m args) s.st (fun r' S'=>r'=r∧S'=S1))(hK:K (St.put ⟨s.tm,S1⟩ dst r)):dX P dr f args s dst K:=
 dS hm (h.rQ m) hK
end
theorem aD.less{P:Program}{f:FuncId}{args:List V}{r r':V}(h:aD P f args r)(hl:Less r r'):aD P f args r':=
 fun S=>(h S).kill (0,0) fun r1 S' e=>⟨r',by rw[e.1];exact hl,.inl ⟨rfl,e.2⟩⟩
end Go.Ab
namespace Go.Ab
section
variable {P:Program} {S:Store}
def iJ(n:Nat)(caps:List (Key×Nat)):List (Key×Nat):=caps.map fun y=>(wL n y.1,y.2)
theorem RV{n:Nat}:iJ n []=[]:=rfl
theorem OX{n l j off:Nat}{caps:List (Key×Nat)}:iJ n (((l,j),off)::caps)=((n+l,j),off)::iJ n caps:=rfl
theorem JE{m n:Nat}{caps:List (Key×Nat)}:iJ m (iJ n caps)=iJ (m+n) caps:=by
 unfold iJ
 rw[List.map_map]
 refine List.map_congr_left fun y _=> ?_
 simp only[Function.comp,wL,Prod.mk.injEq,and_true]
 omega
theorem OY{n m g:Nat}{caps:List (Key×Nat)}:C.refs n (.fn g (iJ (m+1) caps))=true:=by
 simp only[C.refs,iJ,List.all_map,List.all_eq_true]
 intro x _
 have h:0<m+1+x.1.1:=by omega
 simp[Function.comp,iW,wL,h]
theorem ML{n:Nat}{caps:List (Key×Nat)}:((iJ 1 caps).all fun x=>iW n x.fst)=true:=OY (m:=0) (g:=0)
theorem MN:∀(F S:Store) (l j:Nat),bL (F++S) (F.length+l,j)=bL S (l,j)
 |[],S,l,j=>by simp
 |fr::F,S,l,j=>by
  rw[List.cons_append,List.length_cons,show F.length+1+l=(F.length+l)+1 from by omega,dn,MN F S l j]
theorem MO(x:Obj):∀(F S:Store) (l j:Nat),cu (F++S) (F.length+l,j) x=F++cu S (l,j) x
 |[],S,l,j=>by simp
 |fr::F,S,l,j=>by
  rw[List.cons_append,List.length_cons,show F.length+1+l=(F.length+l)+1 from by omega,cu,MO x F S l j,List.cons_append]
theorem U0{F S:Store}{j:Nat}:bL (F++S) (F.length,j)=bL S (0,j):=MN F S 0 j
theorem U1{F S:Store}{j:Nat}{x:Obj}:cu (F++S) (F.length,j) x=F++cu S (0,j) x:=MO x F S 0 j
attribute [go_sem] U0 U1 RV OX
def lV(P:Program)(g:Nat)(caps:List (Key×Nat))(S:Store)(xs:List V)(r:V):Prop:=
 ∀F:Store,dG P g (xs++xY (iJ F.length caps)) (F++S) (fun r' S'=>r'=r∧S'=F++S)
theorem lV.push{g:Nat}{caps:List (Key×Nat)}{xs:List V}{r:V}(h:lV P g caps S xs r)(fr:List Obj):lV P g (iJ 1 caps) (fr::S) xs r:=fun F=>by
 have:=h (F++[fr])
 rw[JE]
 simpa using this
theorem lV.Ik{g:Nat}{xs:List V}{r:V}(h:aD P g xs r):lV P g [] S xs r:=fun F=>by
 have:=h (F++S)
 simpa [iJ,xY] using this
def Ap(P:Program)(g:Nat)(caps:List (Key×Nat)){α X:Type}(st:α→Store)(I:Nat→α→Prop)(f:α→X→α)(xv:X→V)(ok:X→Prop):Prop:=
 ∀n a u,I (n+1) a→ok u→I n (f a u)∧∀F:Store,dG P g (xv u::xY (iJ F.length caps)) (F++st a) (fun r' S'=>r'=.iE []∧S'=F++st (f a u))
theorem Ap.push{g:Nat}{caps:List (Key×Nat)}{α X:Type}{st:α→Store}{I:Nat→α→Prop}{f:α→X→α}{xv:X→V}{ok:X→Prop}(h:Ap P g caps st I f xv ok)(fr:List Obj):
 Ap P g (iJ 1 caps) (fun a=>fr::st a) I f xv ok:=fun n a u ha hu=>⟨(h n a u ha hu).1,fun F=>by
 have:=(h n a u ha hu).2 (F++[fr])
 rw[JE]
 simpa using this⟩
theorem nX{N:Nat}{c:Code}{Q:Exit→St→Prop}{tm:List (Nat×V)}{own:List Obj}{Ω:Store}(j i bn:Nat)(es:List (List D))(cs:List C)(hj:own[j]? =some (.box cs))(hi:cs[i]? =some (.bC es))(hes:∀e∈es,e.length=bn)
 (h:AW P N c Q ⟨tm,(own.set j (.box (cs.set i (.bI (0,own.length) es)))++[.tok bn es])::Ω⟩):AW P N c Q ⟨tm,own::Ω⟩:=by
 refine oq h fun a w σ β hR=> ?_
 obtain⟨bo,bΩ,rfl,hlen⟩:=frames hR
 have hjl:=(List.getElem?_eq_some_iff.1 hj).1
 have hg0:bL (own::Ω) (0,j)=some (.box cs):=by rw[bP];exact hj
 obtain⟨hb,YR,hr⟩:=hR.S.obj (0,j) _ hg0
 obtain⟨b,cv,ty,rfl,hbc,hσ,hcs⟩:=hr
 have hcs:gy w σ (own::Ω) (bo::bΩ) cs cv.toList:=hcs
 obtain⟨v,hv,⟨hd,ad,n,hval⟩,hone⟩:=hcs.2 i _ hi
 have hn:n=es.length:=by rw[hval] at hd;cases hd<;>rfl
 have hg:Grow w σ w σ:=Grow.refl hR.S.live
 obtain⟨hS',hk,hst⟩:=hR.S.push (o:=.tok bn es) (h:=v) hg hlen ⟨hd,hes,ad,n,by rw[hval,hn],by omega,.inl hn⟩ (fun b hb=>by
  rw[hval,hn] at hb
  cases ad<;>simp[owns,blk] at hb)
 have hk1:bL ((own++[.tok bn es])::Ω) (0,j)=some (.box cs):=lY _ _ _ _ _ hg0
 have U2:bL ((bo++[v])::bΩ) (0,j)=some (.pointer (some ⟨b,0,none⟩)):=lY _ _ _ _ _ YR
 have hko:lD (.box cs) (some (Value.pointer (some ⟨b,0,none⟩))) (.box (cs.set i (.bI (0,own.length) es))) (some (Value.pointer (some ⟨b,0,none⟩))):=.inr ⟨⟨_,rfl⟩,rfl⟩
 have hK:Keep ((own++[.tok bn es])::Ω) ((bo++[v])::bΩ) (cu ((own++[.tok bn es])::Ω) (0,j) (.box (cs.set i (.bI (0,own.length) es)))) (cu ((bo++[v])::bΩ) (0,j) (.pointer (some ⟨b,0,none⟩))):=by
  intro k1 o1 e1
  by_cases e:k1=(0,j)
  ·subst e
   rw[hk1] at e1;cases e1
   exact⟨_,gq _ _ _ _ hk1,by rw[U2,gq _ _ _ _ U2];exact hko⟩
  ·exact⟨o1,(gu _ _ _ _ (Ne.symm e)).trans e1,by rw[gu _ _ _ _ (Ne.symm e)];exact .refl _ _⟩
 have hne:(0,own.length)≠(0,j):=fun e=>by injection e with _ e;omega
 obtain⟨hS2,hk2,Me⟩:=hS'.set (w':=w) (σ':=σ) (o':=.box (cs.set i (.bI (0,own.length) es))) (h':=.pointer (some ⟨b,0,none⟩)) hk1 U2 (Nat.le_refl _) rfl rfl (fG.refl _ _) hS'.live (fun _ _ _=>⟨rfl,rfl⟩) hko
  ⟨b,cv,ty,rfl,hbc,hσ,by
    refine⟨by rw[List.length_set];exact hcs.1,fun m x hm=> ?_⟩
    rw[List.getElem?_set] at hm
    by_cases e:i=m
    ·subst e
     rw[if_pos rfl] at hm
     split at hm
     ·cases hm
      refine⟨v,hv,⟨hd,.tok bn es,?_,fun a1 b1 e1=> ?_⟩,hone⟩
      ·show bL (cu _ (0,j) _) (0,own.length)=_
       rw[gu _ _ _ _ (Ne.symm hne),dz]
      ·obtain⟨_,rfl⟩:=mQ (lab:=none) e1
       refine⟨Nat.le_refl _,fun _=> ?_⟩
       show bL (cu _ (0,j) _) (0,own.length)=_
       rw[gu _ _ _ _ (Ne.symm hne),←hlen,dz]
     ·cases hm
    ·rw[if_neg e] at hm
     obtain⟨u,hu,hc,ho⟩:=hcs.2 m x hm
     exact⟨u,hu,(hc.mono (fG.refl _ _) hk).mono (fG.refl _ _) hK,ho⟩⟩ (fun _ e=>.inl e)
 have est:cu ((own++[.tok bn es])::Ω) (0,j) (.box (cs.set i (.bI (0,own.length) es)))=(own.set j (.box (cs.set i (.bI (0,own.length) es)))++[.tok bn es])::Ω:=by
  rw[cu,List.set_append_left _ _ hjl]
 rw[est] at hS2 hk2 Me
 exact⟨σ,_,⟨hR.size,hR.defers,hS2,fun u=>((hR.T u).mono (fG.refl _ _) hk).mono (fG.refl _ _) hk2⟩,hst.trans Me,by
  have:=hk.trans hk2
  exact this.tail⟩
end
end Go.Ab
namespace Go.Ab
inductive D.Fit:D→Prop
 |b (x):Fit (.b x)
 |i (k n):Fit (.i k n)
 |s (l) (h:l.length≤9223372036854775807):Fit (.s l)
 |sl (es) (h:es.length≤9223372036854775807) (hh:∀e∈es,∀d∈e,Fit d):Fit (.sl es)
 |o (v):Fit (.o v)
def kK(cs:List D):Prop:=∀d∈cs,d.Fit
theorem pK{l:List UInt8}(h:(D.s l).Fit):l.length≤9223372036854775807:=by cases h with|s _ h=>exact h
theorem nY{es:List (List D)}(h:(D.sl es).Fit):es.length≤9223372036854775807∧∀e∈es,kK e:=by
 cases h with
 |sl _ h hh=>exact⟨h,hh⟩
theorem uZ:kK []:=fun d h=>by cases h
theorem iq:kK []↔True:=⟨fun _=>trivial,fun _=>uZ⟩
theorem iG{d:D}{ds:List D}:kK (d::ds)↔d.Fit∧kK ds:=by simp[kK]
theorem iw{a b:List D}:kK (a++b)↔kK a∧kK b:=by
 simp only[kK,List.mem_append]
 exact⟨fun h=>⟨fun d hd=>h d (.inl hd),fun d hd=>h d (.inr hd)⟩,fun h d hd=>hd.elim (h.1 d) (h.2 d)⟩
def uh(P:Program)(W:TypeId→List D→Prop):List Field→List D→Prop
 |[],ds=>ds=[]
 |f::fs,ds=>∃a b,ds=a++b∧a.length=P.cellsOf f.type∧W f.type a∧uh P W fs b
def WT(P:Program):Nat→TypeId→List D→Prop
 |0,_,_=>False
 |n+1,t,ds=>
  match P.underlying t with
  |some .bool=>∃b,ds=[.b b]
  |some (.int k)=>∃x,ds=[.i k x]∧(Lit.int k x).wf=true
  |some .string=>∃l,ds=[.s l]∧l.length≤9223372036854775807
  |some (.slice e)=>∃es,ds=[.sl es]∧es.length≤9223372036854775807∧∀x∈es,x.length=P.cellsOf e∧WT P n e x
  |some (.struct fs)=>uh P (WT P n) fs.toList ds
  |_=>False
def wY(P:Program):List Field→Nat→Nat→Bool
 |[],a,b=>a==b
 |f::fs,a,b=>f.offset==a&&wY P fs (a+P.cellsOf f.type) b
def Il(P:Program)(L:List TypeId):Bool:=
 L.all fun t=>match P.underlying t with
  |some .bool|some (.int _)|some .string=>P.cellsOf t==1
  |some (.slice e)=>P.cellsOf t==1&&L.contains e&&decide (0<P.cellsOf e)
  |some (.struct fs)=>wY P fs.toList 0 (P.cellsOf t)&&fs.toList.all fun f=>L.contains f.type
  |_=>false
def jT(w:World)(b:Nat):Nat:=match w.heap[b]? with
 |some (.cells c _ _)=>c.size
 |_=>0
def qG(w:World)(ds:List D)(vs:List Value):Prop:=ds.length=vs.length∧∀(j:Nat) (d:D),ds[j]? =some d→∃v,vs[j]? =some v∧dK w (jT w) d v∧v.oneCell'=true
theorem qG.append{w:World}{a b:List D}{xs ys:List Value}(h1:qG w a xs)(h2:qG w b ys):qG w (a++b) (xs++ys):=by
 refine⟨by simp[h1.1,h2.1],fun j d hj=> ?_⟩
 rw[List.getElem?_append] at hj ⊢
 have:=h1.1
 split at hj
 ·rw[if_pos (by omega)];exact h1.2 j d hj
 ·rw[if_neg (by omega),←h1.1];exact h2.2 _ d hj
theorem qG.one{w:World}{d:D}{v:Value}(h:dK w (jT w) d v)(h1:v.oneCell'=true):qG w [d] [v]:=by
 refine⟨rfl,fun j x hj=> ?_⟩
 cases j with
 |zero=>cases hj;exact⟨v,rfl,h,h1⟩
 |succ j=>simp at hj
theorem MP{α β:Type}(f:α→Option β):∀(l:List α) (ys:List β),l.mapM f=some ys→ys.length=l.length∧∀(j:Nat) (x:α),l[j]? =some x→∃y,f x=some y∧ys[j]? =some y
 |[],ys,h=>by
  simp at h;subst h
  exact⟨rfl,fun j x hj=>by simp at hj⟩
 |a::l,ys,h=>by
  rw[List.mapM_cons] at h
  cases ha:f a with
  |none=>rw[ha] at h;cases h
  |some y=>
   cases hl:l.mapM f with
   |none=>rw[ha,hl] at h;cases h
   |some zs=>
    rw[ha,hl] at h
    cases h
    obtain⟨h1,h2⟩:=MP f l zs hl
    refine⟨by simp[h1],fun j x hj=> ?_⟩
    cases j with
    |zero=>cases hj;exact⟨y,ha,rfl⟩
    |succ j=>exact h2 j x hj
section
variable {H:Type} {enc:TypeId×Value→H} {P:Program} {w:World} {L:List TypeId}
theorem Aq{a:Addr}{n:Nat}{vs:List Value}(hn:0<n)(h:w.cells? 0 a n=some vs):a.spot=none∧vs.length=n∧∃c t fz,w.heap[a.block]? =some (.cells c t fz)∧∀j,j<n→∃v,vs[j]? =some v∧c[a.off+j]? =some v:=by
 unfold World.cells? at h
 rw[if_pos (Nat.zero_le _)] at h
 obtain⟨h1,h2⟩:=MP _ _ _ h
 rw[List.length_range] at h1
 obtain⟨v0,hv0,_⟩:=h2 0 0 (by simp[hn])
 have K7:a.add 0=a:=by simp[Addr.add]
 rw[K7] at hv0
 unfold World.cell? at hv0
 cases hb:w.heap[a.block]? with
 |none=>rw[hb] at hv0;cases hv0
 |some ob=>
  rw[hb] at hv0
  cases ob with
  |map _ _=>cases hv0
  |cells c t fz=>
   have hs:a.spot=none:=by
    cases hsp:a.spot with
    |none=>rfl
    |some x=>rw[hsp] at hv0;simp at hv0
   refine⟨hs,h1,c,t,fz,rfl,fun j hj=> ?_⟩
   obtain⟨v,hv,hvs⟩:=h2 j j (by simp[hj])
   refine⟨v,hvs,?_⟩
   unfold World.cell? at hv
   by_cases hj0:j=0
   ·subst hj0
    rw[K7,hb] at hv
    simp[hs] at hv
    simpa using hv
   ·simp[Addr.add,hj0,hb] at hv
    exact hv
  |_=>cases hv0
theorem DN{α:Type}{p:Nat→α→Prop}:∀n:Nat,(∀i,i<n→∃x,p i x)→∃l:List α,l.length=n∧∀(i:Nat) (x:α),l[i]? =some x→p i x
 |0,_=>⟨[],rfl,fun i x h=>by simp at h⟩
 |n+1,h=>by
  obtain⟨l,hl,hp⟩:=DN n fun i hi=>h i (by omega)
  obtain⟨x,hx⟩:=h n (by omega)
  refine⟨l++[x],by simp[hl],fun i y hy=> ?_⟩
  rw[List.getElem?_append] at hy
  split at hy
  ·exact hp i y hy
  ·rename_i hlt
   have hi:i-l.length<1:=by
    have:=(List.getElem?_eq_some_iff.1 hy).1
    simpa using this
   have:i=n:=by omega
   subst this
   rw[show i-l.length=0 from by omega] at hy
   cases hy
   exact hx
theorem U3(hc:Il P L=true){t:TypeId}(ht:t∈L):(match P.underlying t with
 |some .bool|some (.int _)|some .string=>P.cellsOf t==1
 |some (.slice e)=>P.cellsOf t==1&&L.contains e&&decide (0<P.cellsOf e)
 |some (.struct fs)=>wY P fs.toList 0 (P.cellsOf t)&&fs.toList.all fun f=>L.contains f.type
 |_=>false)=true:=List.all_eq_true.1 hc t ht
theorem OZ{n:Nat}{fs:List Field}{cs:List Value}:∀(off:Nat),off≤cs.length→wY P fs off cs.length=true→
 (∀f∈fs,∃ds,WT P n f.type ds∧qG w ds ((cs.drop f.offset).take (P.cellsOf f.type)))→∃ds,uh P (WT P n) fs ds∧qG w ds (cs.drop off):=by
 induction fs with
 |nil=>
  intro off _ ht _
  have:off=cs.length:=by simpa [wY] using ht
  exact⟨[],rfl,by simp[this,qG]⟩
 |cons f fs ih=>
  intro off ho ht h
  simp only[wY,Bool.and_eq_true,beq_iff_eq] at ht
  obtain⟨a,ha1,ha2⟩:=h f (by simp)
  have hle:∀(fs:List Field) (o:Nat),wY P fs o cs.length=true→o≤cs.length:=by
   intro fs
   induction fs with
   |nil=>intro o h;have:o=cs.length:=by simpa [wY] using h
         omega
   |cons g gs ih=>intro o h;simp only[wY,Bool.and_eq_true] at h;have:=ih _ h.2;omega
  have hle':=hle fs _ ht.2
  obtain⟨b,hb1,hb2⟩:=ih (off+P.cellsOf f.type) hle' ht.2 fun g hg=>h g (by simp[hg])
  rw[ht.1] at ha2
  refine⟨a++b,⟨a,b,rfl,?_,ha1,hb1⟩,?_⟩
  ·rw[ha2.1];simp;omega
  ·have:=ha2.append hb2
   rw[←List.drop_drop,List.take_append_drop] at this
   exact this
theorem BK(hc:Il P L=true){sp:Nat→Bool}{held:Bool}:∀(fuel:Nat) (t:TypeId) (cs:List Value) (x:DataW H×List MemPlace),t∈L→
 DataW.trod enc P w 0 sp held fuel t cs=some x→∃ds,WT P fuel t ds∧qG w ds cs
 |0,t,cs,x,_,h=>by simp[DataW.trod] at h
 |n+1,t,cs,x,ht,h=>by
  have hcl:=U3 hc ht
  cases hu:P.underlying t with
  |none=>rw[hu] at hcl;cases hcl
  |some u=>
   rw[hu] at hcl
   cases u with
   |bool=>
    obtain⟨b,rfl,_⟩:=DataW.trod_bool hu h
    exact⟨[.b b],by simp only[WT,hu];exact⟨b,rfl⟩,qG.one (.b b) rfl⟩
   |int k=>
    obtain⟨m,rfl,_,hw⟩:=DataW.trod_int hu h
    exact⟨[.i k m],by simp only[WT,hu];exact⟨m,rfl,hw⟩,qG.one (.i k m) rfl⟩
   |string=>
    obtain⟨s,rfl,_,hs⟩:=DataW.trod_string hu h
    have hl:s.data.toList.length≤9223372036854775807:=by
     have h1:s.data.toList.length=s.size:=by rw[Array.length_toList];rfl
     rw[h1];exact hs
    refine⟨[.s s.data.toList],?_,qG.one ?_ rfl⟩
    ·simp only[WT,hu];exact⟨_,rfl,hl⟩
    ·exact .s s.data.toList
   |slice e=>
    simp only[Bool.and_eq_true,beq_iff_eq,decide_eq_true_eq,List.contains_iff_mem] at hcl
    obtain⟨⟨h1,he⟩,hpos⟩:=hcl
    rcases DataW.trod_slice hu h with⟨rfl,_⟩|⟨a,len,cap,elems,rest,m,hm,rfl,_,_,hlc,hcm,hel,hget,_,_⟩
    ·exact⟨[.sl []],by simp only[WT,hu];exact⟨[],rfl,by simp,fun x hx=>by cases hx⟩,qG.one (.nil _ _) rfl⟩
    ·cases hm
     have hall:∀i,i<len→∃ds:List D,ds.length=P.cellsOf e∧WT P n e ds∧∃vs,w.cells? 0 (a.add (i*P.cellsOf e)) (P.cellsOf e)=some vs∧qG w ds vs:=by
      intro i hi
      have hg:=hget i hi
      cases hcs:w.cells? 0 (a.add (i*P.cellsOf e)) (P.cellsOf e) with
      |none=>
       rw[hcs] at hg
       have:i<elems.length:=by omega
       rw[List.getElem?_eq_getElem this] at hg
       cases hg
      |some vs=>
       rw[hcs] at hg
       have hlt:i<elems.length:=by omega
       rw[List.getElem?_eq_getElem hlt] at hg
       obtain⟨ds,hd1,hd2⟩:=BK hc n e vs _ he hg
       have hv:=(Aq hpos hcs).2.1
       exact⟨ds,by rw[hd2.1,hv],hd1,vs,rfl,hd2⟩
     obtain⟨es,hes,hp⟩:=DN len hall
     have hwt:WT P (n+1) t [.sl es]:=by
      simp only[WT,hu]
      refine⟨es,rfl,by have:cap≤9223372036854775807:=hcm
                       omega,fun x hx=> ?_⟩
      obtain⟨i,hi⟩:=List.getElem?_of_mem hx
      exact⟨(hp i x hi).1,(hp i x hi).2.1⟩
     refine⟨[.sl es],hwt,?_⟩
     cases Ef:es with
     |nil=>
      have h0:len=0:=by rw[←hes,Ef];rfl
      subst h0
      exact qG.one (.nil _ _) rfl
     |cons e0 es0=>
      have acP:0<len:=by rw[←hes,Ef];simp
      have hlen:∀x∈es,x.length=P.cellsOf e:=fun x hx=>by
       obtain⟨i,hi⟩:=List.getElem?_of_mem hx
       exact(hp i x hi).1
      obtain⟨ds0,_,_,vs0,abo,_⟩:=hall 0 acP
      have K7:a.add (0*P.cellsOf e)=a:=by simp[Addr.add]
      rw[K7] at abo
      obtain⟨hsp,_,c,tt,fz,hblk,_⟩:=Aq hpos abo
      have hcell:∀i r,i<len→r<P.cellsOf e→∃(x:List D) (v:Value) (d:D),es[i]? =some x∧x[r]? =some d∧c[a.off+(i*P.cellsOf e+r)]? =some v∧dK w (jT w) d v:=by
       intro i r hi hr
       have hlt:i<es.length:=by omega
       obtain⟨hx1,hx2,vs,hvs,hrep⟩:=hp i es[i] (List.getElem?_eq_getElem hlt)
       obtain⟨_,hvl,c',t',LJ,hblk',hcc⟩:=Aq hpos hvs
       have hb':(a.add (i*P.cellsOf e)).block=a.block:=by unfold Addr.add;split<;>rfl
       have ho':(a.add (i*P.cellsOf e)).off=a.off+i*P.cellsOf e:=by unfold Addr.add;split<;>simp_all
       rw[hb',hblk] at hblk'
       cases hblk'
       obtain⟨v,hv1,hv2⟩:=hcc r hr
       have hdr:r<es[i].length:=by omega
       obtain⟨v',hv',hd',_⟩:=hrep.2 r es[i][r] (List.getElem?_eq_getElem hdr)
       rw[hv1] at hv';cases hv'
       refine⟨es[i],v,es[i][r],List.getElem?_eq_getElem hlt,List.getElem?_eq_getElem hdr,?_,hd'⟩
       rw[ho'] at hv2
       rw[←Nat.add_assoc];exact hv2
      have hbound:a.off+len*P.cellsOf e≤c.size:=by
       obtain⟨_,v,_,_,_,hv,_⟩:=hcell (len-1) (P.cellsOf e-1) (by omega) (by omega)
       have:=(Array.getElem?_eq_some_iff.1 hv).1
       have e1:(len-1)*P.cellsOf e+P.cellsOf e=len*P.cellsOf e:=by
        rw[←Nat.succ_mul];congr 1;omega
       omega
      have key:dK w (jT w) (.sl es) (.slice (some ⟨a.block,a.off,none⟩) es.length cap):=by
       refine .sl a.block a.off cap (P.cellsOf e) es (fun j=>(c[a.off+j]?).getD undef) c tt fz (by omega) hlen hblk ?_ (fun j hj=> ?_) (fun j d hj=> ?_)
       ·unfold jT;rw[hblk,hes];exact hbound
       ·have:a.off+j<c.size:=by rw[hes] at hj;omega
        rw[Array.getElem?_eq_getElem this];rfl
       ·have hfl:es.flatten.length=es.length*P.cellsOf e:=kN es _ hlen
        have hjl:j<es.length*P.cellsOf e:=by rw[←hfl];exact(List.getElem?_eq_some_iff.1 hj).1
        have hi:j/P.cellsOf e<len:=by rw[←hes];exact(Nat.div_lt_iff_lt_mul hpos).2 hjl
        obtain⟨x,v,d',hx,hd',hv,hr⟩:=hcell (j/P.cellsOf e) (j % P.cellsOf e) hi (Nat.mod_lt _ hpos)
        have hlt':j/P.cellsOf e<es.length:=by omega
        have hfg:=flat_get es (P.cellsOf e) hlen (j/P.cellsOf e) (j % P.cellsOf e) hlt' (Nat.mod_lt _ hpos)
        have hj':j/P.cellsOf e*P.cellsOf e+j % P.cellsOf e=j:=by rw[Nat.mul_comm];exact Nat.div_add_mod j _
        rw[hj',hj] at hfg
        rw[List.getElem?_eq_getElem hlt'] at hx
        cases hx
        rw[hd'] at hfg
        cases hfg
        rw[hj'] at hv
        rw[hv]
        exact hr
      rw[←Ef]
      refine qG.one ?_ rfl
      have ha:a=⟨a.block,a.off,none⟩:=by cases a;simp at hsp;simp[hsp]
      rw[ha,←hes]
      exact key
   |struct fs=>
    simp only[Bool.and_eq_true] at hcl
    obtain⟨htl,hfs⟩:=hcl
    obtain⟨xs,m,hm,rfl,hlen,hxs,aeB⟩:=DataW.trod_struct hu h
    cases hm
    rw[←hlen] at htl
    obtain⟨ds,h1,h2⟩:=OZ (w:=w) (n:=n) (cs:=cs) 0 (Nat.zero_le _) htl fun f hf=>by
     obtain⟨i,hi⟩:=List.getElem?_of_mem hf
     have hi':fs[i]? =some f:=by simpa using hi
     have hg:=aeB i f hi'
     have hlt:i<xs.length:=by
      rw[hxs];exact(Array.getElem?_eq_some_iff.1 hi').1
     rw[List.getElem?_eq_getElem hlt] at hg
     have hfL:f.type∈L:=by
      have:=List.all_eq_true.1 hfs f hf
      simpa using this
     exact BK hc n f.type _ _ hfL hg
    refine⟨ds,by simp only[WT,hu];exact h1,?_⟩
    rw[List.drop_zero] at h2
    exact h2
   |_=>cases hcl
end
end Go.Ab
namespace Go.Ab
open Go.ChangeShapes Go.WideShapes Go.ChangeAt Go.RowKit
section
variable {H:Type} {enc:TypeId×Value→H} {P:Program} {W W':World} {L:List TypeId} {t:TypeId} {v:Value} {base:Nat}
theorem RX{fs:Array Field}{ds:List D}(ht:P.underlying t=some (.struct fs))(hok:Value.okWide P W .any base t v)(hL:qG W ds v.cells.toList):dF W (jT W) [] [] (.agg (ds.map .d)) v:=by
 obtain⟨cs,rfl,_⟩:=okWide_struct ht hok
 refine⟨cs,rfl,by rw[List.length_map,hL.1];rfl,fun j x hj=> ?_⟩
 rw[List.getElem?_map] at hj
 cases hd:ds[j]? with
 |none=>rw[hd] at hj;cases hj
 |some d=>
  rw[hd] at hj
  cases hj
  obtain⟨u,h1,h2,h3⟩:=hL.2 j d hd
  exact⟨u,h1,h2,h3⟩
theorem U4:nN W (jT W) [] [] [] []:=⟨rfl,fun j x h=>by simp at h⟩
theorem RY{x:V}{xs:List V}{vs:List Value}(h1:dF W (jT W) [] [] x v)(h2:nN W (jT W) [] [] xs vs):nN W (jT W) [] [] (x::xs) (v::vs):=by
 refine⟨by simp[h2.1],fun j y hj=> ?_⟩
 cases j with
 |zero=>cases hj;exact⟨v,rfl,h1⟩
 |succ j=>exact h2.2 j y hj
theorem XK(W:World)(hg:sj W (jT W)):eF W (jT W) [] [] where
 rO:=hg
 obj:=fun k o h=>by rw[mP] at h;cases h
 apart:=fun k k' o o' h h' b h1=>by rw[mP] at h1;cases h1
 shape:=⟨rfl,fun l fr h=>by simp at h⟩
 live:=fun b=>by
  by_cases h:b<W.heap.size
  ·exact .inl h
  ·right
   unfold jT
   rw[Array.getElem?_eq_none (by omega)]
theorem abp{b:Nat}:¬Own [] [] b:=fun⟨k,o,h,h1,_⟩=>by rw[mP] at h1;cases h1
theorem Bf(hl:laidOutB P=true)(hsame:∀b,b<W.heap.size→W'.heap[b]? =W.heap[b]?)(sp:Nat→Bool):∀(ts:List TypeId) (vs:List Value) (ds:List (DataW H)) (ps:List MemPlace),
 (ts.all fun t=>P.readableRec t&&decide (t<P.types.size))=true→(∀p∈ps,p.block<W.heap.size∧sp p.block=true)→
   DataW.TrodAll enc P W 0 (fun _=>true) true ts vs ds ps→DataW.TrodAll enc P W' 0 sp true ts vs ds ps
 |[],[],[],ps,_,_,h=>h
 |t::ts,v::vs,d::ds,ps,hr,hlt,h=>by
  simp only[List.all_cons,Bool.and_eq_true,decide_eq_true_eq] at hr
  obtain⟨p,q,h1,h2,rfl⟩:=h
  refine⟨p,q,WideElems.Trod_stays hl hr.1.1 hr.1.2 h1 (fun x hx=> ?_) (fun x hx=>(hlt x (by simp[hx])).2),Bf hl hsame sp ts vs ds q hr.2 (fun x hx=>hlt x (by simp[hx])) h2,rfl⟩
  have hb:=(hlt x (by simp[hx])).1
  cases x with
  |cell b o=>exact World.cell?_of_block (w:=W) (hsame b hb)
  |map b=>exact hsame b hb
 |[],[],_::_,ps,_,_,h=>h.elim
 |[],_::_,_,ps,_,_,h=>h.elim
 |_::_,[],_,ps,_,_,h=>h.elim
 |_::_,_::_,[],ps,_,_,h=>h.elim
theorem XL{f:FuncId}{fn:Func}{s:ChangeSpec}{args:Array Value}{ds gs:List (DataW H)}{before:List MemPlace}{vs:List V}{tb:TypeId}(hl:laidOutB P=true)
 (hr:(fn.params.toList.all fun t=>P.readableRec t&&decide (t<P.types.size))=true) (hvars:s.vars=[]) (hres:fn.resultTypes= #[tb]) (htb:P.underlying tb=some .bool)
 (hs1:(s.fn H (ds++gs)).results=[.lit (.bool true)]) (hs2:(s.fn H (ds++gs)).args=ds) (hs3:(s.fn H (ds++gs)).vars=[])
 (hW:DataW.Whole enc P fn.params.toList s.vars false W args.toList ds gs before) (hargs:nN W (jT W) [] [] vs args.toList)
 (hcall:dG P f vs [] fun r _=>r=.c (.d (.b true))) (acQ:sj W (jT W):=by(intro g p hm;exact absurd hm List.not_mem_nil)):
 Calls P f args W fun e W'=>∃v,e=.returned v∧s.post enc P fn false true false false W args v W':=by
 have hc:=hcall.2 W (jT W) [] args.toList (XK W acQ) hargs
 have e1:args.toList.toArray=args:=by simp
 rw[e1] at hc
 refine hc.mono fun e W' ⟨v,r,S',σ',β',he,hS',hk,hst,hv,hp⟩=> ?_
 subst hp
 obtain⟨hv,_⟩:=hv
 cases hv
 refine⟨_,he,?_⟩
 have hsame:∀b,b<W.heap.size→W'.heap[b]? =W.heap[b]? :=fun b hb=>(hst.far b hb abp).1
 have hlt:=fun p hp=>hW.lt p hp
 have hW0:=hW
 obtain⟨pa,q,hA,hV,rfl,hz,hn⟩:=hW
 rw[hvars] at hV
 have hq:gs=[]∧q=[]:=by
  obtain⟨h1,h2⟩:=trodVars_none hV
  exact⟨h1,h2⟩
 obtain⟨rfl,rfl⟩:=hq
 rw[List.append_nil] at *
 refine⟨ds,[],pa,[],pa,[],?_,?_,?_,?_,?_,fun h=>by cases h⟩
 ·simpa using hW0
 ·rw[List.append_nil,hs1,hres]
  exact trodAll_cons_mk (shut_bool htb _) trodAll_mk0
 ·rw[List.append_nil,hs2]
  exact Bf hl hsame _ _ _ _ _ hr (fun p hp=>⟨hlt p hp,by simpa using hlt p hp⟩) hA
 ·rw[List.append_nil,hs3,hvars]
  rfl
 ·refine⟨hst.os,hst.output,fun i hi=> ?_⟩
  rw[hsame i hi]
  split<;>simp_all
end
end Go.Ab
namespace Go.Ab
structure Hq (p:Prop):Prop where
 out:p
theorem W1{G K:Prop}(k:K)(e:Hq K→G:=by intro k;simp -implicitDefEqProofs (disch:=omega) only[go_sem];exact k.out):G:=e ⟨k⟩
theorem Z1{G:Prop}(e:G:=by simp -implicitDefEqProofs (disch:=omega) only[go_sem];done):G:=e
theorem W3{G K:Prop}(k:K)(e:Hq K→G:=by intro k;(repeat(with_reducible refine And.intro ?_ ?_;focus first|omega|rfl|assumption|exact⟨_,rfl,rfl⟩|(simp;omega)|(simp;done)));exact k.out):G:=e ⟨k⟩
theorem S0{c:Bool}{s:St}{A B:St→Prop}{P Q:Prop}{A':P→Prop}{B':Q→Prop}(k:c=true→(h:P)→A' h)(k2:c=false→(h:Q)→B' h)(e:Hq (c=true→(h:P)→A' h)→c=true→A s:=by intro k hb;have h:=hb;(try simp only[wf_preprocess] at h);simp -implicitDefEqProofs (disch:=omega) only[go_sem,hb]<;>(repeat(with_reducible refine And.intro ?_ ?_;focus first|omega|rfl|assumption|exact⟨_,rfl,rfl⟩|(simp;omega)|(simp;done)));exact k.out hb h)
 (e2:Hq (c=false→(h:Q)→B' h)→c=false→B s:=by intro k hb;have h:=hb;(try simp only[wf_preprocess] at h);simp -implicitDefEqProofs (disch:=omega) only[go_sem,hb]<;>(repeat(with_reducible refine And.intro ?_ ?_;focus first|omega|rfl|assumption|exact⟨_,rfl,rfl⟩|(simp;omega)|(simp;done)));exact k.out hb h):Split c A B s:=eY (e ⟨k⟩) (e2 ⟨k2⟩)
theorem S1{c:Bool}{s:St}{A B:St→Prop}{Q:Prop}{B':Q→Prop}(k2:c=false→(h:Q)→B' h)(e:c=true→A s:=by intro hb;have h:=hb;(try simp only[wf_preprocess] at h);simp -implicitDefEqProofs (disch:=omega) only[go_sem,hb]<;>(repeat(with_reducible refine And.intro ?_ ?_;focus first|omega|rfl|assumption|exact⟨_,rfl,rfl⟩|(simp;omega)|(simp;done)));done)
 (e2:Hq (c=false→(h:Q)→B' h)→c=false→B s:=by intro k hb;have h:=hb;(try simp only[wf_preprocess] at h);simp -implicitDefEqProofs (disch:=omega) only[go_sem,hb]<;>(repeat(with_reducible refine And.intro ?_ ?_;focus first|omega|rfl|assumption|exact⟨_,rfl,rfl⟩|(simp;omega)|(simp;done)));exact k.out hb h):Split c A B s:=eY e (e2 ⟨k2⟩)
theorem S2{c:Bool}{s:St}{A B:St→Prop}{P:Prop}{A':P→Prop}(k:c=true→(h:P)→A' h)(e:Hq (c=true→(h:P)→A' h)→c=true→A s:=by intro k hb;have h:=hb;(try simp only[wf_preprocess] at h);simp -implicitDefEqProofs (disch:=omega) only[go_sem,hb]<;>(repeat(with_reducible refine And.intro ?_ ?_;focus first|omega|rfl|assumption|exact⟨_,rfl,rfl⟩|(simp;omega)|(simp;done)));exact k.out hb h)
 (e2:c=false→B s:=by intro hb;have h:=hb;(try simp only[wf_preprocess] at h);simp -implicitDefEqProofs (disch:=omega) only[go_sem,hb]<;>(repeat(with_reducible refine And.intro ?_ ?_;focus first|omega|rfl|assumption|exact⟨_,rfl,rfl⟩|(simp;omega)|(simp;done)));done):Split c A B s:=eY (e ⟨k⟩) e2
theorem S3{c:Bool}{s:St}{A B:St→Prop}(e:c=true→A s:=by intro hb;have h:=hb;(try simp only[wf_preprocess] at h);simp -implicitDefEqProofs (disch:=omega) only[go_sem,hb]<;>(repeat(with_reducible refine And.intro ?_ ?_;focus first|omega|rfl|assumption|exact⟨_,rfl,rfl⟩|(simp;omega)|(simp;done)));done)(e2:c=false→B s:=by intro hb;have h:=hb;(try simp only[wf_preprocess] at h);simp -implicitDefEqProofs (disch:=omega) only[go_sem,hb]<;>(repeat(with_reducible refine And.intro ?_ ?_;focus first|omega|rfl|assumption|exact⟨_,rfl,rfl⟩|(simp;omega)|(simp;done)));done):Split c A B s:=eY e e2
section
variable {P:Program} {s:St} {dr:Option Nat} {f:FuncId} {args:List V} {dst:Option Nat} {K:St→Prop} {r:V}
theorem C1{Q:Prop}(h:aD P f (args.map V.oI) r)(k:Q)(e:Hq Q→K (s.put dst r):=by intro k;simp -implicitDefEqProofs (disch:=omega) only[go_sem];exact k.out):dX P dr f args s dst K:=bN h (e ⟨k⟩)
theorem C2{Q:Prop}(h:aD P f (args.map V.oI) r)(k:Q)(e:Hq Q→K (s.put dst r):=by intro k;simp -implicitDefEqProofs (disch:=omega) only[go_sem]<;>(repeat(with_reducible refine And.intro ?_ ?_;focus first|omega|rfl|assumption|exact⟨_,rfl,rfl⟩|(simp;omega)|(simp;done)));exact k.out):dX P dr f args s dst K:=bN h (e ⟨k⟩)
theorem C3(h:aD P f (args.map V.oI) r)(e:K (s.put dst r):=by simp -implicitDefEqProofs (disch:=omega) only[go_sem];done):dX P dr f args s dst K:=bN h e
theorem C4(h:aD P f (args.map V.oI) r)(e:K (s.put dst r):=by simp -implicitDefEqProofs (disch:=omega) only[go_sem]<;>(repeat(with_reducible refine And.intro ?_ ?_;focus first|omega|rfl|assumption|exact⟨_,rfl,rfl⟩|(simp;omega)|(simp;done)));done):dX P dr f args s dst K:=bN h e
end
end Go.Ab
