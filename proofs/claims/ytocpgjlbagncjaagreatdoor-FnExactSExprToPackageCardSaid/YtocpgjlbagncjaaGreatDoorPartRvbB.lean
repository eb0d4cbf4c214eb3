/-
  SEVERAL TEXTS IN ONE (merged by program): contracts and models, each with its own heading.
-/
import Derived.Test.YtocpgjlbagncjaaGreatDoorPartRvbA
import Derived.StillTail
import Derived.Carry
import Derived.WideKeyArgs
import Derived.ProofKit
import Derived.OpenShut
import Derived.WalkKit
set_option linter.unusedSimpArgs false
set_option linter.unusedVariables false
namespace Go.Ab
def rM:List V→Nat→List (Nat×V)
 |[],_=>[]
 |v::vs,i=>(i,v)::rM vs (i+1)
def C.ret:C→Option C
 | .bS (0,_) es=>some (.d (.sl es))
 |c=>c.down 1
def Iz(y:Bool×List C):Option (Bool×List C):=(y.2.mapM C.ret).map fun cs=>(y.1,cs)
def V.ret:V→Option V
 | .c x=>(x.ret).map .c
 | .agg cs=>(cs.mapM C.ret).map .agg
 | .dY xs=>(xs.mapM Iz).map .dY
 | .any=>some .any
def yI(P:Program)(s:St):ResultVar→R
 | .tmp t=>(True,look s.tm t)
 | .cell a t=>Bl P s.st t (look s.tm a)
def KV:V→Option (Bool×List C)
 | .c x=>some (false,[x])
 | .agg cs=>some (true,cs)
 |_=>none
def qX(P:Program)(s:St):List ResultVar→Prop×Option (List (Bool×List C))
 |[]=>(True,some [])
 |x::xs=>((yI P s x).1∧(qX P s xs).1,(KV (yI P s x).2).bind fun y=>(qX P s xs).2.map fun ys=>y::ys)
def uY(P:Program)(rs:List ResultVar)(s:St):R:=
 match rs with
 |[x]=>yI P s x
 |xs=>match(qX P s xs).2 with
  |some ys=>((qX P s xs).1,.dY ys)
  |none=>no
def abX(P:Program)(rs:List ResultVar)(post:V→Store→Prop)(e:Exit)(s:St):Prop:=
 match e with
 | .normal| .ret=>(uY P rs s).1∧match(uY P rs s).2.ret with
   |some r=>post r (gY s.st)
   |none=>False
 |_=>False
section
variable {P:Program} {w w':World} {σ σ':Nat→Nat} {S:Store} {β β':Hs} {N:Nat} {s:St} {a:Act}
theorem Ra{cs:List C}{vs:List Value}(n:Nat)(h:gK w σ (S.drop n) (β.drop n) cs vs):gK w σ S β (cs.map (C.up n)) vs:=
 ⟨by simpa using h.1,fun j x hx=>by
   rw[List.getElem?_map] at hx
   cases hc:cs[j]? with
   |none=>rw[hc] at hx;cases hx
   |some y=>
    rw[hc] at hx;cases hx
    obtain⟨v,hv,hr,ho⟩:=h.2 j y hc
    exact⟨v,hv,hr.up n,ho⟩⟩
theorem Na{x:V}{v:Value}(n:Nat)(h:dV w σ (S.drop n) (β.drop n) x v):dV w σ S β (x.up n) v:=by
 cases x with
 |c x=>exact⟨h.1.up n,h.2⟩
 |agg cs=>obtain⟨ar,ha,hc⟩:=h;exact⟨ar,ha,Ra n hc⟩
 |dY xs=>
  obtain⟨ar,ha,hl,h2⟩:=h
  refine⟨ar,ha,by simpa using hl,fun j y hy=> ?_⟩
  rw[List.getElem?_map] at hy
  cases hc:xs[j]? with
  |none=>rw[hc] at hy;cases hy
  |some z=>
   rw[hc] at hy;cases hy
   obtain⟨u,hu,h3⟩:=h2 j z hc
   refine⟨u,hu,?_⟩
   obtain⟨b,cs⟩:=z
   cases b with
   |true=>obtain⟨a',e,hcs⟩:=h3;exact⟨a',e,Ra n hcs⟩
   |false=>obtain⟨x,e,hx,ho⟩:=h3;subst e;exact⟨_,rfl,hx.up n,ho⟩
 |any=>exact trivial
theorem JO{c c':C}{v:Value}(h:c.ret=some c')(hc:jf w σ S β c v):jf w σ (S.drop 1) (β.drop 1) c' v:=by
 unfold C.ret at h
 split at h
 ·cases h;exact hc.1
 ·exact QT h hc
theorem Ou{xs ys:List C}{vs:List Value}(h:xs.mapM C.ret=some ys)(hc:gK w σ S β xs vs):gK w σ (S.drop 1) (β.drop 1) ys vs:=by
 induction xs generalizing ys vs with
 |nil=>simp at h;subst h;exact⟨hc.1,fun j d hd=>by simp at hd⟩
 |cons x xs ih=>
  rw[List.mapM_cons] at h
  cases hd:C.ret x with
  |none=>rw[hd] at h;simp at h
  |some y=>
   cases hm:xs.mapM C.ret with
   |none=>rw[hd,hm] at h;simp at h
   |some ys'=>
    rw[hd,hm] at h
    simp at h
    subst h
    cases vs with
    |nil=>have:=hc.1;simp at this
    |cons v vs=>
     obtain⟨l,r⟩:=ih hm (vs:=vs) ⟨by have:=hc.1;simpa using this,fun j y hy=>hc.2 (j+1) y hy⟩
     refine⟨by simp[l],fun j e he=> ?_⟩
     cases j with
     |zero=>
      simp at he;subst he
      obtain⟨u,hu,hr,ho⟩:=hc.2 0 x rfl
      simp at hu;subst hu
      exact⟨v,rfl,JO hd hr,ho⟩
     |succ j=>exact r j e he
theorem Rb{α γ:Type}(f:α→Option γ):∀(xs:List α) (ys:List γ),xs.mapM f=some ys→ys.length=xs.length∧∀(j:Nat) (y:γ),ys[j]? =some y→∃x,xs[j]? =some x∧f x=some y
 |[],ys,h=>by simp at h;subst h;exact⟨rfl,fun j y hy=>by simp at hy⟩
 |x::xs,ys,h=>by
  rw[List.mapM_cons] at h
  cases hd:f x with
  |none=>rw[hd] at h;simp at h
  |some y=>
   cases hm:xs.mapM f with
   |none=>rw[hd,hm] at h;simp at h
   |some ys'=>
    rw[hd,hm] at h
    simp at h
    subst h
    obtain⟨l,r⟩:=Rb f xs ys' hm
    refine⟨by simp[l],fun j e he=> ?_⟩
    cases j with
    |zero=>simp at he;subst he;exact⟨x,rfl,hd⟩
    |succ j=>exact r j e he
theorem Rc{x y:V}{v:Value}(h:x.ret=some y)(hx:dV w σ S β x v):dV w σ (S.drop 1) (β.drop 1) y v:=by
 cases x with
 |c x=>
  simp only[V.ret] at h
  cases hc:x.ret with
  |none=>rw[hc] at h;cases h
  |some c=>rw[hc] at h;cases h;exact⟨JO hc hx.1,hx.2⟩
 |agg cs=>
  simp only[V.ret] at h
  cases hc:cs.mapM C.ret with
  |none=>rw[hc] at h;cases h
  |some c=>rw[hc] at h;cases h;obtain⟨ar,ha,h2⟩:=hx;exact⟨ar,ha,Ou hc h2⟩
 |dY xs=>
  simp only[V.ret] at h
  cases hc:xs.mapM Iz with
  |none=>rw[hc] at h;cases h
  |some ys=>
   rw[hc] at h;cases h
   obtain⟨ar,ha,hl,h2⟩:=hx
   obtain⟨l,r⟩:=Rb _ _ _ hc
   refine⟨ar,ha,by rw[l];exact hl,fun j y hy=> ?_⟩
   obtain⟨z,hz,hzy⟩:=r j y hy
   obtain⟨u,hu,h3⟩:=h2 j z hz
   refine⟨u,hu,?_⟩
   obtain⟨b,cs⟩:=z
   simp only[Iz] at hzy
   cases hm:cs.mapM C.ret with
   |none=>rw[hm] at hzy;cases hzy
   |some cs'=>
    rw[hm] at hzy;cases hzy
    cases b with
    |true=>obtain⟨a',e,hcs⟩:=h3;exact⟨a',e,Ou hm hcs⟩
    |false=>
     obtain⟨x,e,hx,ho⟩:=h3
     subst e
     rw[List.mapM_cons] at hm
     cases hx':C.ret x with
     |none=>rw[hx'] at hm;simp at hm
     |some x'=>
      rw[hx'] at hm
      simp at hm
      exact⟨x',hm.symm,JO hx' hx,ho⟩
 |any=>cases h;exact trivial
theorem VU{x:ResultVar}(hR:lS N s a w σ β)(h:(yI P s x).1):
 ∃v,(match x with| .tmp t=>pure (a.tmps.getD t undef)| .cell b t=>do loadVar t (←asAddr (a.tmps.getD b undef)):Sem Value).run P w=.ok v w∧dV w σ s.st β (yI P s x).2 v:=by
 cases x with
 |tmp t=>exact⟨_,rfl,hR.T t⟩
 |cell b t=>
  obtain⟨v,hrun,hv⟩:=Oh (P:=P) (t:=t) hR.S (hR.T b) h
  refine⟨v,?_,hv⟩
  show(do loadVar t (←asAddr (a.tmps.getD b undef)):Sem Value).run P w=.ok v w
  generalize a.tmps.getD b undef=bv at hrun ⊢
  cases bv with
  |pointer o=>
   cases o with
   |none=>simp[Instr.loadAt,Instr.sureAddr] at hrun
   |some ad=>simpa [Instr.loadAt,Instr.sureAddr,asAddr] using hrun
  |_=>simp[Instr.loadAt,Instr.sureAddr] at hrun
theorem abY{x:V}{y:Bool×List C}{v:Value}(h:KV x=some y)(hx:dV w σ S β x v):MX w σ S β y v:=by
 cases x with
 |c x=>cases h;exact⟨x,rfl,hx.1,hx.2⟩
 |agg cs=>cases h;exact hx
 |dY=>cases h
 |any=>cases h
theorem VW(hR:lS N s a w σ β):∀(xs:List ResultVar) (ys:List (Bool×List C)),(qX P s xs).1→(qX P s xs).2=some ys→
 ∃vs:List Value,(xs.mapM fun x=>(match x with| .tmp t=>pure (a.tmps.getD t undef)| .cell b t=>do loadVar t (←asAddr (a.tmps.getD b undef)):Sem Value)).run P w=.ok vs w∧ys.length=vs.length∧
  ∀(j:Nat) (y:Bool×List C),ys[j]? =some y→∃u,vs[j]? =some u∧MX w σ s.st β y u
 |[],ys,_,h=>by simp only[qX] at h;cases h;exact⟨[],by simp,rfl,fun j y hy=>by simp at hy⟩
 |x::xs,ys,h1,h2=>by
  simp only[qX] at h1 h2
  cases hc:KV (yI P s x).2 with
  |none=>rw[hc] at h2;cases h2
  |some y=>
   cases hr:(qX P s xs).2 with
   |none=>rw[hc,hr] at h2;cases h2
   |some ys'=>
    rw[hc,hr] at h2;cases h2
    obtain⟨v,hv,hrep⟩:=VU (P:=P) (x:=x) hR h1.1
    obtain⟨vs,hvs,hl,hj⟩:=VW hR xs ys' h1.2 hr
    refine⟨v::vs,?_,by simp[hl],fun j z hz=> ?_⟩
    ·rw[List.mapM_cons]
     simp only[Sem.run_bind,Result.andThen_ok,Sem.run_pure]
     rw[hv]
     simp only[Result.andThen_ok]
     rw[hvs];rfl
    ·cases j with
     |zero=>simp at hz;subst hz;exact⟨v,rfl,abY hc hrep⟩
     |succ j=>exact hj j z hz
theorem Ov{fn:Func}(hR:lS N s a w σ β)(h:(uY P fn.results.toList s).1):∃v,(results fn a.tmps).run P w=.ok v w∧dV w σ s.st β (uY P fn.results.toList s).2 v:=by
 have hres:fn.results=fn.results.toList.toArray:=by simp
 have hrun:∀vs:List Value,(fn.results.toList.mapM fun x=>(match x with| .tmp t=>pure (a.tmps.getD t undef)| .cell b t=>do loadVar t (←asAddr (a.tmps.getD b undef)):Sem Value)).run P w=.ok vs w→
  (results fn a.tmps).run P w=.ok (if h:vs.toArray.size=1 then vs.toArray[0] else .tuple vs.toArray) w:=by
  intro vs hvs
  unfold results
  rw[hres,List.mapM_toArray]
  simp only[Sem.run_bind,Sem.run_map]
  have:(fun x=>(match x with| .tmp t=>pure (a.tmps.getD t undef)| .cell b t=>do loadVar t (←asAddr (a.tmps.getD b undef)):Sem Value))=fun(x:ResultVar)=>(match x with| .tmp t=>pure (a.tmps.getD t undef)| .cell b t=>do loadVar t (←asAddr (a.tmps.getD b undef)):Sem Value):=rfl
  erw [hvs]
  rfl
 unfold uY at h ⊢
 split at h
 ·rename_i x hx
  rw[hx] at hrun
  obtain⟨v,hv,hrep⟩:=VU (P:=P) (x:=x) hR h
  refine⟨v,?_,hrep⟩
  have:=hrun [v] (by
   rw[List.mapM_cons]
   simp only[Sem.run_bind,List.mapM_nil,Result.andThen_ok,Sem.run_pure]
   rw[hv];rfl)
  simpa using this
 ·rename_i hne
  split at h
  ·rename_i ys hys
   obtain⟨vs,hvs,hl,hj⟩:=VW (P:=P) hR _ ys h hys
   have h1:=hrun vs hvs
   have hlen:¬(vs.toArray.size=1):=by
    intro e
    have hl2:ys.length=fn.results.toList.length:=by
     clear hj hvs h1 hrun hne e hl h
     generalize fn.results.toList=l at hys
     induction l generalizing ys with
     |nil=>simp only[qX] at hys;cases hys;rfl
     |cons x xs ih=>
      simp only[qX] at hys
      cases hc:KV (yI P s x).2 with
      |none=>rw[hc] at hys;cases hys
      |some y=>
       cases hr:(qX P s xs).2 with
       |none=>rw[hc,hr] at hys;cases hys
       |some ys'=>rw[hc,hr] at hys;cases hys;simp[ih ys' hr]
    simp at e
    have:fn.results.toList.length=1:=by omega
    obtain⟨x,hx⟩:=List.length_eq_one_iff.1 this
    exact hne x hx
   rw[dif_neg hlen] at h1
   exact⟨_,h1,vs.toArray,rfl,by simpa using hl,fun j y hy=>by simpa using hj j y hy⟩
  ·exact h.elim
theorem fK.aeI{own:List Obj}{Ω:Store}{bo:List Value}{bΩ:Hs}(h:fK w σ (own::Ω) (bo::bΩ)):fK w σ Ω bΩ:=by
 refine⟨fun k o ho=> ?_,fun k k' o o' h1 h2 b e1 e2 e3 e4 e5 e6=> ?_,⟨by have:=h.shape.1;simpa using this,fun l fr hl=>h.shape.2 (l+1) fr hl⟩,h.live,h.uW⟩
 ·obtain⟨l,j⟩:=k
  obtain⟨hv,hh,hr⟩:=h.obj (l+1,j) o (by rw[dD];exact ho)
  rw[dD] at hh
  exact⟨hv,hh,hr⟩
 ·obtain⟨l,j⟩:=k
  obtain⟨l',j'⟩:=k'
  have:=h.apart (l+1,j) (l'+1,j') o o' h1 h2 b (by rw[dD];exact e1) (by rw[dD];exact e2) e3 (by rw[dD];exact e4) (by rw[dD];exact e5) e6
  cases this;rfl
theorem fK.up1(h:fK w σ S β):fK w σ ([]::S) ([]::β):=by
 refine⟨fun k o ho=> ?_,fun k k' o o' h1 h2 b e1 e2 e3 e4 e5 e6=> ?_,⟨by simp[h.shape.1],fun l fr hl=> ?_⟩,h.live,h.uW⟩
 ·obtain⟨l,j⟩:=k
  cases l with
  |zero=>rw[cO] at ho;simp at ho
  |succ l=>
   rw[dD] at ho
   obtain⟨hv,hh,hr⟩:=h.obj (l,j) o ho
   exact⟨hv,by rw[dD];exact hh,hr⟩
 ·obtain⟨l,j⟩:=k
  obtain⟨l',j'⟩:=k'
  cases l with
  |zero=>rw[cO] at e1;simp at e1
  |succ l=>
   cases l' with
   |zero=>rw[cO] at e4;simp at e4
   |succ l'=>
    rw[dD] at e1 e2 e4 e5
    have:=h.apart (l,j) (l',j') o o' h1 h2 b e1 e2 e3 e4 e5 e6
    cases this;rfl
 ·cases l with
  |zero=>simp at hl;subst hl;exact⟨[],rfl,rfl⟩
  |succ l=>exact h.shape.2 l fr hl
theorem IB{b:Nat}(h:Own ([]::S) ([]::β) b):Own S β b:=by
 obtain⟨⟨l,j⟩,o,hv,h1,h2,h3⟩:=h
 cases l with
 |zero=>rw[cO] at h1;simp at h1
 |succ l=>rw[dD] at h1 h2;exact⟨(l,j),o,hv,h1,h2,h3⟩
theorem Ow{own:List Obj}{Ω:Store}{bo:List Value}{bΩ:Hs}{b:Nat}(h:Own Ω bΩ b):Own (own::Ω) (bo::bΩ) b:=by
 obtain⟨⟨l,j⟩,o,hv,h1,h2,h3⟩:=h
 exact⟨(l+1,j),o,hv,by rw[dD];exact h1,by rw[dD];exact h2,h3⟩
theorem EU:∀(args:List V) (i t:Nat),look (rM args i) t=if i≤t then(args[t-i]?).getD .any else .any
 |[],i,t=>by simp[rM,look]
 |v::args,i,t=>by
  rw[rM,look,EU args (i+1) t]
  by_cases h1:i=t
  ·subst h1;simp
  ·rw[if_neg h1]
   by_cases h2:i+1≤t
   ·rw[if_pos h2,if_pos (by omega)]
    rw[show t-i=(t-(i+1))+1 from by omega]
    rfl
   ·rw[if_neg h2,if_neg (by omega)]
theorem zN{f:FuncId}{fn:Func}{c:Code}{args:List V}{post:V→Store→Prop}(hf:P.funcs[f]? =some fn)(hb:fn.body=some c)(hn:(fn.name== "runtime.NumGoroutine")=false)
 (hl:args.length≤fn.ntmps) (h:AW P fn.ntmps c (abX P fn.results.toList post) ⟨rM (args.map (V.up 1)) 0,[]::S⟩):cB P f args S post:=by
 refine⟨⟨fn,hf,hn,by simp[hb]⟩,fun w σ β vs hS hargs=> ?_⟩
 refine calls_of_wp hf hb ?_
 have hlen:vs.length=args.length:=hargs.1.symm
 have abZ:lS fn.ntmps ⟨rM (args.map (V.up 1)) 0,[]::S⟩ {tmps:=vs.toArray++Array.replicate (fn.ntmps-vs.toArray.size) undef,defers:=[]} w σ ([]::β):=by
  refine⟨by simp;omega,rfl,hS.up1,fun t=> ?_⟩
  show dV w σ ([]::S) ([]::β) (look (rM (args.map (V.up 1)) 0) t) _
  rw[EU,if_pos (Nat.zero_le _),Nat.sub_zero,List.getElem?_map]
  cases ha:args[t]? with
  |none=>exact trivial
  |some x=>
   obtain⟨v,hv,hr⟩:=hargs.2 t x ha
   have ht:=(List.getElem?_eq_some_iff.1 hv).1
   have:(vs.toArray++Array.replicate (fn.ntmps-vs.toArray.size) undef).getD t undef=v:=by
    rw[Array.getD_eq_getD_getElem?,Array.getElem?_append_left (by simpa using ht)]
    simp[hv]
   rw[this]
   exact Na (S:=[]::S) (β:=[]::β) 1 hr
 refine wp_mono (h _ w σ ([]::β) abZ) ?_
 rintro e a' w' ⟨s',σ',β',hR,hst,hkp,hq⟩
 have main:(uY P fn.results.toList s').1∧(match(uY P fn.results.toList s').2.ret with|some r=>post r (gY s'.st)|none=>False)→
  a'.defers=[]∧∃v,(results fn a'.tmps).run P w'=.ok v w'∧∃v_1 r S' σ' β',Ending.returned v=Ending.returned v_1∧fK w' σ' S' β'∧Keep S β S' β'∧Step S β σ w S' β' σ' w'∧dV w' σ' S' β' r v_1∧post r S':=by
  rintro⟨q1,q2⟩
  obtain⟨v,hv,hrep⟩:=Ov (fn:=fn) hR q1
  split at q2
  ·rename_i r hr
   obtain⟨tm,st⟩:=s'
   have aiH:=Rc hr hrep
   refine⟨hR.defers,v,hv,v,r,gY st,σ',gY β',rfl,?_,hkp,?_,aiH,q2⟩
   ·cases st with
    |nil=>
     cases β' with
     |nil=>exact hR.S
     |cons=>have:=hR.S.shape.1;simp at this
    |cons own Ω=>
     cases β' with
     |nil=>have:=hR.S.shape.1;simp at this
     |cons bo bΩ=>exact hR.S.aeI
   ·refine⟨hst.size,hst.os,hst.output,fun b hb ho=>hst.far b hb (fun x=>ho (IB x)),hst.near,fun b hb=> ?_⟩
    cases st with
    |nil=>obtain⟨k,o,hv,h1,_⟩:=hb;simp[gY,qx] at h1
    |cons own Ω=>
     cases β' with
     |nil=>obtain⟨k,o,hv,h1,h2,_⟩:=hb;simp[gY,qx] at h2
     |cons bo bΩ=>exact(hst.own b (Ow hb)).imp IB id
  ·exact q2.elim
 cases e with
 |normal=>exact main hq
 |ret=>exact main hq
 |_=>exact hq.elim
end
end Go.Ab
namespace Go.Ab
def sQ:Op→Bool
 | .alloc _=>true
 | .box _ _=>true
 | .store _ _ _=>true
 | .makeSlice _ _ _=>true
 | .makeMap _ none=>true
 | .mapUpdate _ _ _ _=>true
 | .call {callee:=.builtin .append,args:=_,argTypes:=_}=>true
 |_=>false
def BD:Op→Bool
 | .store _ _ _=>true
 | .mapUpdate _ _ _ _=>true
 |_=>false
def mQ:Op→Bool
 | .call {callee:=.value _,args:=_,argTypes:=_}=>true
 |_=>false
abbrev Md:=Op→Nat
def gJ(E:Md)(op:Op):Bool:=sQ op||(decide (1≤E op)&&mQ op)
def oJ(E:Md)(op:Op):Bool:=BD op||(decide (2≤E op)&&mQ op)
theorem ab0{E:Md}{op:Op}(h:sQ op=true):gJ E op=true:=by simp[gJ,h]
theorem Zr{E:Md}{op:Op}(h:oJ E op=true):gJ E op=true:=by
 unfold oJ gJ at *
 rw[Bool.or_eq_true] at h ⊢
 refine h.imp (fun hs=> ?_) (fun h=> ?_)
 ·cases op<;>first|rfl|simp[BD] at hs
 ·rw[Bool.and_eq_true,decide_eq_true_eq] at h ⊢
  exact⟨by omega,h.2⟩
def DS(S S':Store):Prop:=∀k o,bI S k=some o→bI S' k=some o∨((∃z es,tK o z es)∧∃o' z es,bI S' k=some o'∧tK o' z es)
def EW(P:Program)(tm:List (Nat×V))(c:Call)(r:V):Prop:=
 match c.callee with
 | .value x=>match ev tm x with
   | .c (.fn f caps)=>aI P f (c.args.toList.map (ev tm)++caps.map fun y=>.c (.ptr y.1 y.2)) r
   |_=>False
 |_=>False
def gG(P:Program)(E:Md)(o:Oper)(s:St)(K:St→Prop):Prop:=
 if sQ o.op then eF P o s K else
 match o.op with
 | .call {callee:=.value x,args,argTypes}=>match E (.call {callee:=.value x,args,argTypes}) with
   |0=>∃r,EW P s.tm {callee:=.value x,args,argTypes} r∧K (s.put o.dst r)
   |1=>∃S' v,DS s.st S'∧eF P o s (fun t=>t=St.put ⟨s.tm,S'⟩ o.dst v)∧K (St.put ⟨s.tm,S'⟩ o.dst v)
   |_=>∃S' v,eF P o s (fun t=>t=St.put ⟨s.tm,S'⟩ o.dst v)∧K (St.put ⟨s.tm,S'⟩ o.dst v)
 |op=>(nval P s.st s.tm op).1∧K (s.put o.dst (nval P s.st s.tm op).2)
def uQ(P:Program)(E:Md)(R:Array Oper)(o:Oper)(s:St)(K:St→Prop):Prop:=
 match o.guard with
 |none=>gG P E o s K
 |some (j,want)=>
  match(gU R j).map (look s.tm) with
  |some (.c (.d (.b x)))=>(x=want→gG P E o s K)∧(x= !want→K (s.put o.dst (.dY [])))
  |some (.dY [])=>K (s.put o.dst (.dY []))
  |_=>False
def uZ(P:Program)(E:Md)(R:Array Oper):List Oper→St→(St→Prop)→Prop
 |[],s,K=>K s
 |o::os,s,K=>uQ P E R o s fun s'=>uZ P E R os s' K
def NV(P:Program)(S:Store)(tm:List (Nat×V))(op:Op)(v:V):Prop:=
 (∃c,op=.call c∧EW P tm c v)∨((nval P S tm op).1∧v=(nval P S tm op).2)
def gd(R:Array Oper)(o:Oper)(tm:List (Nat×V)):Option Bool:=
 match o.guard with
 |none=>some true
 |some (j,want)=>
  match(gU R j).map (look tm) with
  |some (.c (.d (.b x)))=>some (x==want)
  |some (.dY [])=>some false
  |_=>none
def qH(P:Program)(E:Md)(R:Array Oper)(o:Oper)(s:St)(v:V)(s':St):Prop:=
 (gd R o s.tm=some false∧v=.dY []∧s'=s.put o.dst v)∨
 (gd R o s.tm=some true∧gJ E o.op=false∧NV P s.st s.tm o.op v∧s'=s.put o.dst v)∨
 (gd R o s.tm=some true∧gJ E o.op=true∧eF P o s (fun t=>t=s')∧s'=St.put ⟨s.tm,s'.st⟩ o.dst v∧(sQ o.op=false→oJ E o.op=false→DS s.st s'.st))
section
variable {P:Program} {w w':World} {σ σ':Nat→Nat} {S S':Store} {β β':Hs} {N:Nat} {s:St} {a:Act}
theorem vG{dst:Option Nat}{o:Obj}{mk:Key→V}{K:St→Prop}(h:newObj s dst o mk K):∃S' v,newObj s dst o mk (fun t=>t=St.put ⟨s.tm,S'⟩ dst v)∧K (St.put ⟨s.tm,S'⟩ dst v):=by
 unfold newObj at h ⊢
 split at h
 ·rename_i own Ω hst
  exact⟨_,_,rfl,h⟩
 ·exact h.elim
theorem afg{l:Option Nat}{es x:List (List D)}{z:Nat}{dst:Option Nat}{K:St→Prop}(h:BQ l es s dst z x K):∃S' v,BQ l es s dst z x (fun t=>t=St.put ⟨s.tm,S'⟩ dst v)∧K (St.put ⟨s.tm,S'⟩ dst v):=by
 cases l with
 |none=>exact vG (o:=.tok z x) (mk:=fun k=>.c (.bS k x)) h
 |some n=>
  cases es with
  |nil=>exact⟨s.st,_,rfl,h⟩
  |cons y es=>exact vG (o:=.tok z x) (mk:=fun k=>.c (.bS k x)) h
theorem afh{b:Bool}{n:Nat}{x:List (List D)}{z:Nat}{dst:Option Nat}{K:St→Prop}(h:DI b n s dst z x K):∃S' v,DI b n s dst z x (fun t=>t=St.put ⟨s.tm,S'⟩ dst v)∧K (St.put ⟨s.tm,S'⟩ dst v):=by
 cases b with
 |false=>exact vG (o:=.fF n z x) (mk:=fun k=>.c (.bS k x)) h
 |true=>exact⟨s.st,_,rfl,h⟩
theorem ab1{o:Oper}{K:St→Prop}(hD:sQ o.op=true)(h:eF P o s K):∃S' v,eF P o s (fun t=>t=St.put ⟨s.tm,S'⟩ o.dst v)∧K (St.put ⟨s.tm,S'⟩ o.dst v):=by
 obtain⟨dst,op,ty,pos,after,guard⟩:=o
 cases op with
 |alloc t=>
  simp only[eF,vD] at h ⊢
  split at h
  ·exact vG h
  ·exact h.elim
 |box t x=>
  simp only[eF,BP] at h ⊢
  split at h
  ·exact vG h
  ·exact h.elim
 |makeSlice t l c=>
  simp only[eF,yF] at h ⊢
  split at h
  ·split at h
   ·obtain⟨h1,h2,h3,h4,h5,h6⟩:=h
    obtain⟨S',v,k1,k2⟩:=vG h6
    exact⟨S',v,⟨h1,h2,h3,h4,h5,k1⟩,k2⟩
   ·exact h.elim
  ·exact h.elim
 |store t x y=>
  simp only[eF,vE] at h ⊢
  split at h
  ·split at h
   ·obtain⟨h1,h2,h3,h4⟩:=h
    exact⟨_,_,⟨h1,h2,h3,rfl⟩,h4⟩
   ·exact h.elim
  ·split at h
   ·obtain⟨h1,h2,h3,h4,h5⟩:=h
    exact⟨_,_,⟨h1,h2,h3,h4,rfl⟩,h5⟩
   ·exact h.elim
  ·split at h
   ·split at h
    ·split at h
     ·obtain⟨h1,h2,h3,h4,h5,h6⟩:=h
      exact⟨_,_,⟨h1,h2,h3,h4,h5,rfl⟩,h6⟩
     ·exact h.elim
    ·exact h.elim
   ·exact h.elim
  ·exact h.elim
 |makeMap t r=>
  cases r with
  |none=>
   simp only[eF,uN] at h ⊢
   exact vG h
  |some r=>simp[sQ] at hD
 |mapUpdate t x y z=>
  simp only[eF,uO] at h ⊢
  split at h
  ·split at h
   ·exact⟨_,_,rfl,h⟩
   ·exact h.elim
  ·exact h.elim
 |call c=>
  obtain⟨BR,args,yH⟩:=c
  cases BR with
  |builtin b=>
   cases b with
   |append=>
    simp only[eF,qb] at h ⊢
    split at h
    ·simp only[uP] at h ⊢
     split at h
     ·obtain⟨h1,h2,h3,h4⟩:=h
      split at h4
      ·split at h4
       ·obtain⟨k1,k2,k3,k4⟩:=h4
        exact⟨_,_,⟨h1,h2,h3,k1,k2,k3,rfl⟩,k4⟩
       ·obtain⟨k1,k2,k3,k4⟩:=h4
        exact⟨_,_,⟨h1,h2,h3,k1,k2,k3,rfl⟩,k4⟩
       ·exact h4.elim
      ·obtain⟨k1,k2,k3⟩:=h4
       obtain⟨S',v,l1,l2⟩:=afg k3
       exact⟨S',v,⟨h1,h2,h3,k1,k2,l1⟩,l2⟩
      ·obtain⟨k1,k2,k3⟩:=h4
       obtain⟨S',v,l1,l2⟩:=afh k3
       exact⟨S',v,⟨h1,h2,h3,k1,k2,l1⟩,l2⟩
      ·exact h4.elim
     ·exact h.elim
    ·exact h.elim
   |_=>simp[sQ] at hD
  |_=>simp[sQ] at hD
 |_=>simp[sQ] at hD
theorem Zt{tm tm':List (Nat×V)}{dst:Option Nat}{o:Obj}{mk:Key→V}{v:V}(h:newObj ⟨tm,S⟩ dst o mk (fun t=>t=St.put ⟨tm,S'⟩ dst v))(hd:dst≠none):
 newObj ⟨tm',S⟩ dst o mk (fun t=>t=St.put ⟨tm',S'⟩ dst v):=by
 unfold newObj at h ⊢
 cases S with
 |nil=>exact h
 |cons own Ω=>
  cases dst with
  |none=>exact absurd rfl hd
  |some d=>
   simp only[St.put,St.mk.injEq,List.cons.injEq,Prod.mk.injEq,and_true,true_and] at h ⊢
   exact h
theorem Xm{tm tm':List (Nat×V)}{o:Obj}{mk:Key→V}{v:V}(h:newObj ⟨tm,S⟩ none o mk (fun t=>t=St.put ⟨tm,S'⟩ none v)):
 newObj ⟨tm',S⟩ none o mk (fun t=>t=St.put ⟨tm',S'⟩ none v):=by
 unfold newObj at h ⊢
 cases S with
 |nil=>exact h
 |cons own Ω=>
  simp only[St.put,St.mk.injEq,true_and] at h ⊢
  exact h
theorem tX{tm tm':List (Nat×V)}{dst:Option Nat}{o:Obj}{mk:Key→V}{v:V}(h:newObj ⟨tm,S⟩ dst o mk (fun t=>t=St.put ⟨tm,S'⟩ dst v)):
 newObj ⟨tm',S⟩ dst o mk (fun t=>t=St.put ⟨tm',S'⟩ dst v):=by
 cases dst with
 |none=>exact Xm h
 |some d=>exact Zt h (by simp)
theorem wR{tm tm':List (Nat×V)}{dst:Option Nat}{S1 S2:Store}{v v':V}(h:St.put ⟨tm,S1⟩ dst v=St.put ⟨tm,S2⟩ dst v'):St.put ⟨tm',S1⟩ dst v=St.put ⟨tm',S2⟩ dst v':=by
 cases dst with
 |none=>simp only[St.put,St.mk.injEq,true_and] at h ⊢;exact h
 |some d=>simp only[St.put,St.mk.injEq,List.cons.injEq,Prod.mk.injEq,and_true,true_and] at h ⊢;exact h
theorem ab2{l:Option Nat}{es x:List (List D)}{z:Nat}{tm tm':List (Nat×V)}{dst:Option Nat}{v:V}(h:BQ l es ⟨tm,S⟩ dst z x (fun t=>t=St.put ⟨tm,S'⟩ dst v)):
 BQ l es ⟨tm',S⟩ dst z x (fun t=>t=St.put ⟨tm',S'⟩ dst v):=by
 cases l with
 |none=>exact tX (o:=.tok z x) (mk:=fun k=>.c (.bS k x)) h
 |some n=>
  cases es with
  |nil=>exact wR h
  |cons y es=>exact tX (o:=.tok z x) (mk:=fun k=>.c (.bS k x)) h
theorem ab3{b:Bool}{n:Nat}{x:List (List D)}{z:Nat}{tm tm':List (Nat×V)}{dst:Option Nat}{v:V}(h:DI b n ⟨tm,S⟩ dst z x (fun t=>t=St.put ⟨tm,S'⟩ dst v)):
 DI b n ⟨tm',S⟩ dst z x (fun t=>t=St.put ⟨tm',S'⟩ dst v):=by
 cases b with
 |false=>exact tX (o:=.fF n z x) (mk:=fun k=>.c (.bS k x)) h
 |true=>exact wR h
theorem ab4{o:Oper}{tm tm':List (Nat×V)}{v:V}(hD:sQ o.op=true)(he:∀x∈o.op.operands,ev tm x=ev tm' x)(h:eF P o ⟨tm,S⟩ (fun t=>t=St.put ⟨tm,S'⟩ o.dst v)):
 eF P o ⟨tm',S⟩ (fun t=>t=St.put ⟨tm',S'⟩ o.dst v):=by
 obtain⟨dst,op,ty,pos,after,guard⟩:=o
 cases op with
 |alloc t=>
  simp only[eF,vD] at h ⊢
  split at h
  ·exact tX h
  ·exact h.elim
 |box t x=>
  have e1:=he x (by simp[Op.operands])
  simp only[eF,BP,e1] at h ⊢
  split at h
  ·exact tX h
  ·exact h.elim
 |makeSlice t l c=>
  have e1:=he l (by simp[Op.operands])
  have e2:=he c (by simp[Op.operands])
  simp only[eF,yF,e1,e2] at h ⊢
  split at h
  ·split at h
   ·obtain⟨h1,h2,h3,h4,h5,h6⟩:=h
    exact⟨h1,h2,h3,h4,h5,tX h6⟩
   ·exact h.elim
  ·exact h.elim
 |store t x y=>
  have e1:=he x (by simp[Op.operands])
  have e2:=he y (by simp[Op.operands])
  simp only[eF,vE,e1,e2] at h ⊢
  split at h
  ·split at h
   ·obtain⟨h1,h2,h3,h4⟩:=h
    exact⟨h1,h2,h3,wR h4⟩
   ·exact h.elim
  ·split at h
   ·obtain⟨h1,h2,h3,h4,h5⟩:=h
    exact⟨h1,h2,h3,h4,wR h5⟩
   ·exact h.elim
  ·split at h
   ·split at h
    ·split at h
     ·obtain⟨h1,h2,h3,h4,h5,h6⟩:=h
      exact⟨h1,h2,h3,h4,h5,wR h6⟩
     ·exact h.elim
    ·exact h.elim
   ·exact h.elim
  ·exact h.elim
 |makeMap t r=>
  cases r with
  |none=>
   simp only[eF,uN] at h ⊢
   exact tX h
  |some r=>simp[sQ] at hD
 |mapUpdate t x y z=>
  have e1:=he x (by simp[Op.operands])
  have e2:=he y (by simp[Op.operands])
  have e3:=he z (by simp[Op.operands])
  simp only[eF,uO,e1,e2,e3] at h ⊢
  split at h
  ·split at h
   ·exact wR h
   ·exact h.elim
  ·exact h.elim
 |call c=>
  obtain⟨BR,args,yH⟩:=c
  cases BR with
  |builtin b=>
   cases b with
   |append=>
    simp only[eF,qb] at h ⊢
    split at h
    ·rename_i x y t u hxy htu
     have hargs:args= #[x,y]:=by rw[←Array.toArray_toList (xs:=args),hxy]
     have e1:=he x (by simp[Op.operands,Call.operands,hargs])
     have e2:=he y (by simp[Op.operands,Call.operands,hargs])
     simp only[uP,e1,e2] at h ⊢
     split at h
     ·obtain⟨h1,h2,h3,h4⟩:=h
      refine⟨h1,h2,h3,?_⟩
      split at h4
      ·split at h4
       ·obtain⟨k1,k2,k3,k4⟩:=h4
        exact⟨k1,k2,k3,wR k4⟩
       ·obtain⟨k1,k2,k3,k4⟩:=h4
        exact⟨k1,k2,k3,wR k4⟩
       ·exact h4.elim
      ·obtain⟨k1,k2,k3⟩:=h4
       exact⟨k1,k2,ab2 k3⟩
      ·obtain⟨k1,k2,k3⟩:=h4
       exact⟨k1,k2,ab3 k3⟩
      ·exact h4.elim
     ·exact h.elim
    ·exact h.elim
   |_=>simp[sQ] at hD
  |_=>simp[sQ] at hD
 |_=>simp[sQ] at hD
theorem ab5{f:FuncId}{args:List V}{tm tm':List (Nat×V)}{dst:Option Nat}{v:V}(h:zM P f args ⟨tm,S⟩ dst (fun t=>t=St.put ⟨tm,S'⟩ dst v)):zM P f args ⟨tm',S⟩ dst (fun t=>t=St.put ⟨tm',S'⟩ dst v):=by
 rcases h with⟨post,h1,h2⟩|⟨r,h1,h2⟩
 ·exact .inl ⟨post,h1,fun r FX hp=>wR (h2 r FX hp)⟩
 ·exact .inr ⟨r,h1,wR h2⟩
theorem ab6{E:Md}{o:Oper}{tm tm':List (Nat×V)}{v:V}(hD:gJ E o.op=true)(he:∀x∈o.op.operands,ev tm x=ev tm' x)(h:eF P o ⟨tm,S⟩ (fun t=>t=St.put ⟨tm,S'⟩ o.dst v)):
 eF P o ⟨tm',S⟩ (fun t=>t=St.put ⟨tm',S'⟩ o.dst v):=by
 by_cases hd:sQ o.op=true
 ·exact ab4 hd he h
 ·have hc:mQ o.op=true:=by
   unfold gJ at hD
   rw[Bool.or_eq_true,Bool.and_eq_true] at hD
   rcases hD with h|h
   ·exact absurd h hd
   ·exact h.2
  obtain⟨dst,op,ty,pos,after,guard⟩:=o
  cases op with
  |call c=>
   obtain⟨BR,args,yH⟩:=c
   cases BR with
   |value x=>
    have h1:args.toList.map (ev tm)=args.toList.map (ev tm'):=List.map_congr_left fun y hy=>he y (by simp[Op.operands,Call.operands];exact .inr (by simpa using hy))
    have h2:ev tm x=ev tm' x:=he x (by simp[Op.operands,Call.operands])
    simp only[eF,qb,h1,h2] at h ⊢
    split at h
    ·exact ab5 h
    ·exact h.elim
   |_=>simp[mQ] at hc
  |_=>simp[mQ] at hc
theorem afi{tm tm':List (Nat×V)}{op:Op}(he:∀x∈op.operands,ev tm x=ev tm' x):nval P S tm op=nval P S tm' op:=by
 unfold nval tQ
 split<;>try rfl
 ·rw[he _ (by simp[Op.operands])]
 ·rw[he _ (by simp[Op.operands])]
 ·rename_i c x y;rw[he c (by simp[Op.operands]),he x (by simp[Op.operands]),he y (by simp[Op.operands])]
 ·rw[he _ (by simp[Op.operands])]
 ·rw[he _ (by simp[Op.operands])]
 ·rw[he _ (by simp[Op.operands])]
 ·rename_i t x i;rw[he x (by simp[Op.operands]),he i (by simp[Op.operands])]
 ·rename_i t x i;rw[he x (by simp[Op.operands]),he i (by simp[Op.operands])]
 ·rename_i op t x y _;rw[he x (by simp[Op.operands]),he y (by simp[Op.operands])]
 ·rw[he _ (by simp[Op.operands])]
 ·rw[he _ (by simp[Op.operands])]
 ·rw[he _ (by simp[Op.operands])]
 ·rename_i fn first caps
  have h1:first.toList.map (ev tm)=first.toList.map (ev tm'):=List.map_congr_left fun x hx=>he x (by simp[Op.operands];exact .inl (by simpa using hx))
  have h2:caps.toList.map (ev tm)=caps.toList.map (ev tm'):=List.map_congr_left fun x hx=>he x (by simp[Op.operands];exact .inr (by simpa using hx))
  rw[h1,h2]
 ·rw[he _ (by simp[Op.operands])]
 ·rename_i t x lo hi mx
  rw[he x (by simp[Op.operands])]
  have h1:lo.map (ev tm)=lo.map (ev tm'):=by
   cases lo with
   |none=>rfl
   |some y=>simp[he y (by simp[Op.operands])]
  have h2:hi.map (ev tm)=hi.map (ev tm'):=by
   cases hi with
   |none=>rfl
   |some y=>simp[he y (by simp[Op.operands])]
  have h3:mx.map (ev tm)=mx.map (ev tm'):=by
   cases mx with
   |none=>rfl
   |some y=>simp[he y (by simp[Op.operands])]
  rw[h1,h2,h3]
 ·rename_i t parts
  have h1:(parts.toList.map fun x=>(x.1,ev tm x.2))=parts.toList.map fun x=>(x.1,ev tm' x.2):=List.map_congr_left fun x hx=>by
   rw[he x.2 (by simp only[Op.operands,List.mem_toArray,List.mem_map];exact⟨x,hx,rfl⟩)]
  rw[h1]
 ·rename_i t n parts
  have h1:(parts.toList.map fun x=>(x.1,ev tm x.2))=parts.toList.map fun x=>(x.1,ev tm' x.2):=List.map_congr_left fun x hx=>by
   rw[he x.2 (by simp only[Op.operands,List.mem_toArray,List.mem_map];exact⟨x,hx,rfl⟩)]
  rw[h1]
 ·rename_i t x i;rw[he x (by simp[Op.operands]),he i (by simp[Op.operands])]
 ·rename_i args yH
  split
  ·rename_i x t hx ht
   have hargs:args= #[x]:=by rw[←Array.toArray_toList (xs:=args),hx]
   rw[he x (by simp[Op.operands,Call.operands,hargs])]
  ·rfl
 ·rename_i args yH
  split
  ·rename_i x y hx
   have hargs:args= #[x,y]:=by rw[←Array.toArray_toList (xs:=args),hx]
   rw[he x (by simp[Op.operands,Call.operands,hargs]),he y (by simp[Op.operands,Call.operands,hargs])]
  ·rfl
 ·rename_i args yH
  split
  ·rename_i x y hx
   have hargs:args= #[x,y]:=by rw[←Array.toArray_toList (xs:=args),hx]
   rw[he x (by simp[Op.operands,Call.operands,hargs]),he y (by simp[Op.operands,Call.operands,hargs])]
  ·rfl
theorem ab7{tm tm':List (Nat×V)}{c:Call}{v:V}(he:∀x∈c.operands,ev tm x=ev tm' x)(h:EW P tm c v):EW P tm' c v:=by
 unfold EW at h ⊢
 obtain⟨BR,args,yH⟩:=c
 cases BR with
 |value x=>
  simp only at h ⊢
  rw[←he x (by simp[Call.operands])]
  have h1:args.toList.map (ev tm)=args.toList.map (ev tm'):=List.map_congr_left fun y hy=>he y (by simp[Call.operands];exact .inr (by simpa using hy))
  rw[←h1]
  exact h
 |_=>exact h
def Rf:Obj→Prop
 | .box _=>True
 | .iH _ _=>True
 | .mp _=>True
 | .xf _=>True
 |_=>False
def Xn(v:V)(k:Key):Prop:=(∃off,v=.c (.ptr k off))∨(∃i off,v=.c (.ou k i off))∨v=.c (.og k)∨v=.c (.mp k)∨(∃r p,v=.c (.xp k r p))∨∃r p z i off,v=.c (.xq k r p z i off)
def Fix(S S':Store):Prop:=∀k o,bI S k=some o→Rf o→bI S' k=some o
theorem Fix.refl(S:Store):Fix S S:=fun _ _ h _=>h
theorem iM{q:Prop}(h:no.1):q:=h.elim
theorem ab8{l:Option Nat}{tm:List (Nat×V)}{op:Op}(h:(tQ P l S tm op).1)
 (hf:∀x∈op.operands,∀k,Xn (ev tm x) k→
   ∀o,bI S k=some o→Rf o→bI S' k=some o):tQ P l S' tm op=tQ P l S tm op:=by
 unfold tQ at h ⊢
 split at h<;>try rfl
 ·rename_i t x
  have hf:=hf x (by simp[Op.operands])
  unfold Bl at h ⊢
  split at h
  ·rfl
  ·split at h
   ·rename_i hx;simp only[hx]
   ·rename_i k off hx
    split at h
    ·rename_i cs hk;rw[hf k (.inl ⟨off,hx⟩) _ hk trivial]
    ·exact iM h
   ·rename_i k i off hx
    split at h
    ·rename_i bE es hk;rw[hf k (.inr (.inl ⟨i,off,hx⟩)) _ hk trivial]
    ·exact iM h
   ·rename_i k r p z i off hx
    split at h
    ·rename_i rs hk;rw[hf k (.inr (.inr (.inr (.inr (.inr ⟨r,p,z,i,off,hx⟩))))) _ hk trivial]
    ·exact iM h
   ·exact iM h
 ·rename_i t x f
  have hf:=hf x (by simp[Op.operands])
  unfold tL at h ⊢
  split at h
  ·split at h
   ·split at h
    ·exact iM h
    ·rename_i fs hs _ fd hfd hne
     split at h
     ·rename_i hx;simp[hs,hfd,hne,hx]
     ·rename_i k off hx
      split at h
      ·rename_i cs hk
       simp only[hs,hfd,hne,if_false,hx,hf k (.inl ⟨off,hx⟩) _ hk trivial,hk]
      ·exact iM h
     ·rename_i k i off hx
      split at h
      ·rename_i bE es hk
       simp only[hs,hfd,hne,if_false,hx,hf k (.inr (.inl ⟨i,off,hx⟩)) _ hk trivial,hk]
      ·exact iM h
     ·rename_i k r p z i off hx
      split at h
      ·rename_i rs hk
       simp only[hs,hfd,hne,if_false,hx,hf k (.inr (.inr (.inr (.inr (.inr ⟨r,p,z,i,off,hx⟩))))) _ hk trivial,hk]
      ·exact iM h
     ·exact iM h
   ·exact iM h
  ·exact iM h
 ·rename_i t x i
  have hf:=hf x (by simp[Op.operands])
  unfold tO at h ⊢
  split at h
  ·rename_i e k n' n ht hx hi
   split at h
   ·rename_i bE es hk
    simp only[ht,hx,hi,hf k (.inr (.inr (.inl hx))) _ hk trivial,hk]
   ·exact iM h
  ·rename_i len e k off n' n ht hx hi
   split at h
   ·rename_i cs hk
    simp only[ht,hx,hi,hf k (.inl ⟨off,hx⟩) _ hk trivial,hk]
   ·exact iM h
  ·rename_i e k r p n' n ht hx hi
   split at h
   ·rename_i rs hk
    simp only[ht,hx,hi,hf k (.inr (.inr (.inr (.inr (.inl ⟨r,p,hx⟩))))) _ hk trivial,hk]
   ·exact iM h
  ·rename_i e y n' n hy hy2 ht hx hi
   simp only[ht,hx,hi]
  ·exact iM h
 ·rename_i x
  have hf:=hf x (by simp[Op.operands])
  unfold xO at h ⊢
  split at h
  ·rename_i k off hx
   split at h
   ·rename_i cs hk
    simp only[hx,hf k (.inl ⟨off,hx⟩) _ hk trivial,hk]
   ·exact iM h
  ·rename_i hx;simp only[hx]
  ·exact iM h
 ·rename_i t x i
  have hf:=hf x (by simp[Op.operands])
  unfold za at h ⊢
  split at h
  ·rename_i kt et k l ht Aa hi
   split at h
   ·rename_i m hk hkt hz
    simp only[ht,Aa,hi,hf k (.inr (.inr (.inr (.inl Aa)))) _ hk trivial,hk,hkt,hz]
   ·exact iM h
  ·exact iM h
 ·rename_i args yH
  split at h
  ·rename_i x t hx ht
   have hargs:args= #[x]:=by rw[←Array.toArray_toList (xs:=args),hx]
   have hf:=hf x (by simp[Op.operands,Call.operands,hargs])
   unfold EM at h ⊢
   split at h
   ·rename_i l KW Aa;simp only[KW,Aa]
   ·rename_i n e KW;simp only[KW]
   ·rename_i e k KW Aa
    split at h
    ·rename_i bE es hk
     simp only[KW,Aa,hf k (.inr (.inr (.inl Aa))) _ hk trivial,hk]
    ·exact iM h
   ·rename_i e k r p KW Aa
    split at h
    ·rename_i rs hk
     simp only[KW,Aa,hf k (.inr (.inr (.inr (.inr (.inl ⟨r,p,Aa⟩))))) _ hk trivial,hk]
    ·exact iM h
   ·rename_i e y hy hy2 KW Aa
    simp only[KW,Aa]
   ·exact iM h
  ·exact iM h
end
end Go.Ab
namespace Go.Ab
def xD(acc:List Nat):List Edge→Nat
 |[]=>0
 |e::es=>(if Region.binds .any e then 2^e.on ||| acc.getD e.on 0 else 0) ||| xD acc es
def masks:List Oper→List Nat→List Nat
 |[],acc=>acc
 |o::os,acc=>masks os (acc++[xD acc o.after.toList])
def clash(E:Md)(R:Array Oper)(x y:Oper):Bool:= !(x.apart R y)||(gJ E x.op&&gJ E y.op)||oJ E x.op||oJ E y.op
def Ad(E:Md)(R:Array Oper)(N:Nat):Bool:=
 (List.range R.size).all fun j=>
   (match R[j]? with
    |some o=>o.after.toList.all (fun e=> !Region.binds .any e||decide (e.on<j))&&(match o.dst with|some d=>decide (d<N)|none=>true)
    |none=>true)&&
   (List.range j).all fun i=>
     match R[i]?,R[j]? with
     |some x,some y=>((masks R.toList []).getD j 0).testBit i|| !(clash E R x y)
     |_,_=>true
def zO(R:Array Oper)(i j:Nat):Bool:=if i<j then((masks R.toList []).getD j 0).testBit i else((masks R.toList []).getD i 0).testBit j
def pE(E:Md)(R:Array Oper)(x y:Oper):Bool:= !(x.apart R y)||(gJ E x.op&&gJ E y.op)
def settled(R:Array Oper)(i:Nat):Operand→Bool
 | .tmp t=>(List.range R.size).all fun n=>decide (n<i)|| !(gU R n==some t)
 |_=>true
def wS(R:Array Oper)(i:Nat)(x:Oper)(j:Nat)(y:Oper):Bool:=mQ y.op||match x.op with
 | .store _ a _=>settled R i a&&y.op.operands.toList.all (settled R j)
 |_=>false
def IC(E:Md)(R:Array Oper)(N:Nat):Bool:=
 (List.range R.size).all fun j=>
   (match R[j]? with
    |some o=>o.after.toList.all (fun e=> !Region.binds .any e||decide (e.on<j))&&(match o.dst with|some d=>decide (d<N)|none=>true)
    |none=>true)&&
   (List.range j).all fun i=>
     match R[i]?,R[j]? with
     |some x,some y=>((masks R.toList []).getD j 0).testBit i|| !(pE E R x y||(oJ E x.op&& !(wS R i x j y))||(oJ E y.op&& !(wS R j y i x)))
     |_,_=>true
def Xo(v w:V):Bool:=
 match w with
 | .c (.ptr k _)=>(match v with| .c (.ptr k' _)=>k'.2 !=k.2| .c (.ou k' _ _)=>k'.2 !=k.2|_=>false)
 | .c (.ou k _ _)=>(match v with| .c (.ptr k' _)=>k'.2 !=k.2| .c (.ou k' _ _)=>k'.2 !=k.2|_=>false)
 | .c (.og k)=>(match v with| .c (.ptr k' _)=>k'.2 !=k.2| .c (.ou k' _ _)=>k'.2 !=k.2|_=>false)
 | .c (.mp k)=>(match v with| .c (.ptr k' _)=>k'.2 !=k.2| .c (.ou k' _ _)=>k'.2 !=k.2|_=>false)
 | .c (.xp _ _ _)=>false
 | .c (.xq _ _ _ _ _ _)=>false
 |_=>true
def Qu(E:Md)(R:Array Oper)(tm:List (Nat×V)):Bool:=
 (List.range R.size).all fun i=>match R[i]? with
   |some x=> !(oJ E x.op)||match x.op with
    | .store _ a _=>(List.range R.size).all fun j=>match R[j]? with
      |some y=>zO R i j||gJ E y.op||mQ y.op||y.op.operands.toList.all (fun z=>Xo (ev tm a) (ev tm z))
      |none=>true
    |_=>true
   |none=>true
def afj(R:Array Oper)(i:Nat):Bool:=
 (List.range R.size).all fun j=>decide (j=i)||(if j<i then((masks R.toList []).getD i 0).testBit j else((masks R.toList []).getD j 0).testBit i)
def KX:Op→Option FuncId
 | .call {callee:=.value (.func f),args:=_,argTypes:=_}=>some f
 |_=>none
def C8(R:Array Oper)(m:Nat):Md:=fun op=>if(List.range R.size).all (fun i=>match R[i]? with
 |some o=>(KX op !=KX o.op)||afj R i
 |none=>true) then 2 else m
def zi:Op→Bool
 | .alloc _=>true
 |_=>false
def KY(E:Md)(R:Array Oper)(p:Nat):Bool:=match R[p]? with
 |some o=>zi o.op&&o.guard.isNone&&o.dst.isSome&&(List.range R.size).all fun j=>match R[j]? with
  |some y=>decide (j=p)||y.apart R o||(List.range p).all fun i=>match R[i]? with
   |some x=> !(gJ E x.op)||(decide (i<j)&&((masks R.toList []).getD j 0).testBit i)
   |none=>true
  |none=>true
 |none=>true
def Zu(E:Md)(R:Array Oper)(p j:Nat)(x y:Oper):Bool:= !(x.apart R y)||(!(decide (j=p))&&((gJ E x.op&&gJ E y.op)||oJ E x.op||oJ E y.op))
def Ef(E:Md)(R:Array Oper)(N p:Nat):Bool:=
 KY E R p&&(List.range R.size).all fun j=>
  (match R[j]? with
   |some o=>o.after.toList.all (fun e=> !Region.binds .any e||decide (e.on<j))&&(match o.dst with|some d=>decide (d<N)|none=>true)
   |none=>true)&&
  (List.range j).all fun i=>
    match R[i]?,R[j]? with
    |some x,some y=>((masks R.toList []).getD j 0).testBit i|| !(Zu E R p j x y)
    |_,_=>true
def ab9(E:Md)(R:Array Oper)(N p:Nat):Bool:=
 KY E R p&&(List.range R.size).all fun j=>
  (match R[j]? with
   |some o=>o.after.toList.all (fun e=> !Region.binds .any e||decide (e.on<j))&&(match o.dst with|some d=>decide (d<N)|none=>true)
   |none=>true)&&
  (List.range j).all fun i=>
    match R[i]?,R[j]? with
    |some x,some y=>((masks R.toList []).getD j 0).testBit i|| !(!(x.apart R y)||(!(decide (j=p))&&((gJ E x.op&&gJ E y.op)||(oJ E x.op&& !(wS R i x j y))||(oJ E y.op&& !(wS R j y i x)))))
    |_,_=>true
def acd(R:Array Oper)(p i:Nat):Bool:=
 (List.range R.size).all fun j=>decide (j=i)||decide (j=p)||(if j<i then((masks R.toList []).getD i 0).testBit j else((masks R.toList []).getD j 0).testBit i)
def KZ(R:Array Oper)(p:Nat):Md:=fun op=>if(List.range R.size).all (fun i=>match R[i]? with
 |some o=>(KX op !=KX o.op)||acd R p i
 |none=>true) then 2 else 0
def Rh(R:Array Oper)(p:Nat):Bool:=match R[p]? with
 |some o=>zi o.op
 |none=>false
def pOf(R:Array Oper)(N:Nat):Option Nat:=(List.range R.size).find? fun p=>Rh R p&&Ef (KZ R p) R N p
def akq(R:Array Oper)(N:Nat):Option Nat:=(List.range R.size).find? fun p=>Rh R p&&ab9 (KZ R p) R N p
def K3(R:Array Oper)(N:Nat):Md:=if Ad (C8 R 1) R N then C8 R 1 else match pOf R N with
 |some p=>KZ R p
 |none=>if Ad (C8 R 0) R N then C8 R 0 else fun _=>0
def Nb(R:Array Oper)(N:Nat):Bool:=Ad (K3 R N) R N||match pOf R N with
 |some p=>Ef (K3 R N) R N p
 |none=>false
def Ae(R:Array Oper)(N:Nat):Md:=if IC (C8 R 1) R N then C8 R 1 else match akq R N with
 |some p=>KZ R p
 |none=>if IC (C8 R 0) R N then C8 R 0 else fun _=>0
section
variable {P:Program} {E:Md} {w w':World} {σ σ':Nat→Nat} {S S':Store} {β β':Hs} {N:Nat} {s:St} {a:Act} {R:Array Oper}
theorem Gx:∀(l:List Oper) (acc:List Nat) (i:Nat),i<acc.length→(masks l acc)[i]? =acc[i]?
 |[],acc,i,h=>rfl
 |o::os,acc,i,h=>by rw[masks,Gx os _ i (by simp;omega),List.getElem?_append_left h]
theorem Ri:∀(l:List Oper) (acc:List Nat) (i:Nat) (o:Oper),l[i]? =some o→
 ∃acc',(∀j,j<acc.length+i→acc'[j]? =(masks l acc)[j]?)∧acc'.length=acc.length+i∧(masks l acc)[acc.length+i]? =some (xD acc' o.after.toList)
 |[],acc,i,o,h=>by simp at h
 |x::os,acc,0,o,h=>by
  simp at h;subst h
  refine⟨acc,fun j hj=> ?_,by simp,?_⟩
  ·rw[masks,Gx os _ j (by simp;omega),List.getElem?_append_left (by omega)]
  ·rw[masks,Nat.add_zero,Gx os _ _ (by simp),List.getElem?_append_right (Nat.le_refl _)];simp
 |x::os,acc,i+1,o,h=>by
  obtain⟨acc',h1,h2,h3⟩:=Ri os (acc++[xD acc x.after.toList]) i o (by simpa using h)
  refine⟨acc',fun j hj=> ?_,by rw[h2];simp;omega,?_⟩
  ·rw[masks];exact h1 j (by simp;omega)
  ·rw[masks,←h3];congr 1;simp;omega
theorem Gy{acc:List Nat}{k:Nat}:∀(es:List Edge),(xD acc es).testBit k=true→∃e∈es,Region.binds .any e=true∧(e.on=k∨(acc.getD e.on 0).testBit k=true)
 |[],h=>by simp[xD] at h
 |e::es,h=>by
  rw[xD,Nat.testBit_or,Bool.or_eq_true] at h
  rcases h with h|h
  ·by_cases hb:Region.binds .any e=true
   ·rw[if_pos hb,Nat.testBit_or,Bool.or_eq_true] at h
    refine⟨e,by simp,hb,?_⟩
    rcases h with h|h
    ·left
     rw[Nat.testBit_two_pow] at h
     simpa using h
    ·exact .inr h
   ·rw[if_neg hb] at h;simp at h
  ·obtain⟨e',he',h'⟩:=Gy es h
   exact⟨e',by simp[he'],h'⟩
theorem Ox(E:Nat→Prop)(hE:∀i o e,R[i]? =some o→E i→e∈o.after→Region.binds .any e=true→E e.on)(hlt:∀i o e,R[i]? =some o→e∈o.after→Region.binds .any e=true→e.on<i):
 ∀(i:Nat) (o:Oper),R[i]? =some o→(∀e∈o.after,Region.binds .any e=true→E e.on)→∀k,((masks R.toList []).getD i 0).testBit k=true→E k:=by
 intro i
 induction i using Nat.strongRecOn with
 |_ i ih=>
  intro o ho hed k hk
  obtain⟨acc',h1,h2,h3⟩:=Ri R.toList [] i o (by simpa using ho)
  simp only[List.length_nil,Nat.zero_add] at h1 h2 h3
  rw[List.getD_eq_getElem?_getD,h3] at hk
  obtain⟨e,he,hb,hek⟩:=Gy _ hk
  have he':e∈o.after:=by simpa using he
  rcases hek with rfl|hek
  ·exact hed e he' hb
  ·have hon:=hlt i o e ho he' hb
   have akr:=hed e he' hb
   have hilt:i<R.size:=(Array.getElem?_eq_some_iff.1 ho).1
   have hsome:R[e.on]? =some R[e.on]:=Array.getElem?_eq_getElem (by omega)
   refine ih e.on hon _ hsome (fun e2 he2 hb2=>hE e.on _ e2 hsome akr he2 hb2) k ?_
   rw[List.getD_eq_getElem?_getD,h1 e.on (by omega)] at hek
   rw[List.getD_eq_getElem?_getD];exact hek
def mG(R:Array Oper)(vs:Nat→V)(E:Nat→Bool)(base:List (Nat×V)):Nat→Nat→V
 |0,t=>look base t
 |k+1,t=>if E k=true∧gU R k=some t then vs k else mG R vs E base k t
theorem DK{vs:Nat→V}{E:Nat→Bool}{base:List (Nat×V)}{t i:Nat}:∀(n:Nat),(∀j,j<n→gU R j=some t→(E j=true↔j<i))→
 mG R vs E base n t=mG R vs (fun _=>true) base (min n i) t
 |0,_=>by simp[mG]
 |n+1,h=>by
  have ih:=DK (vs:=vs) (base:=base) n (fun j hj hd=>h j (by omega) hd)
  rw[mG]
  by_cases hd:gU R n=some t
  ·by_cases hE:E n=true
   ·have hni:=(h n (by omega) hd).1 hE
    rw[if_pos ⟨hE,hd⟩,show min (n+1) i=n+1 from by omega,mG,if_pos ⟨rfl,hd⟩]
   ·have hni:¬n<i:=fun hn=>hE ((h n (by omega) hd).2 hn)
    rw[if_neg (fun x=>hE x.1),ih,show min (n+1) i=min n i from by omega]
  ·rw[if_neg (fun x=>hd x.2),ih]
   by_cases hni:n<i
   ·rw[show min (n+1) i=n+1 from by omega,show min n i=n from by omega,mG,if_neg (fun x=>hd x.2)]
   ·rw[show min (n+1) i=min n i from by omega]
theorem zP{vs:Nat→V}{E E':Nat→Bool}{base:List (Nat×V)}{t:Nat}:∀(n:Nat),(∀j,j<n→gU R j=some t→E j=E' j)→mG R vs E base n t=mG R vs E' base n t
 |0,_=>rfl
 |n+1,h=>by
  rw[mG,mG,zP n (fun j hj hd=>h j (by omega) hd)]
  by_cases hd:gU R n=some t
  ·rw[h n (by omega) hd]
  ·rw[if_neg (fun x=>hd x.2),if_neg (fun x=>hd x.2)]
theorem EX{vs:Nat→V}{E:Nat→Bool}{base:List (Nat×V)}{t i:Nat}(hi:E i=true)(hd:gU R i=some t):∀(n:Nat),i<n→(∀j,j<n→i<j→gU R j=some t→E j=false)→mG R vs E base n t=vs i
 |0,h,_=>by omega
 |n+1,h,hj=>by
  rw[mG]
  by_cases hin:i=n
  ·subst hin;rw[if_pos ⟨hi,hd⟩]
  ·have:¬(E n=true∧gU R n=some t):=fun x=>by
    have:=hj n (by omega) (by omega) x.2
    rw[this] at x;simp at x
   rw[if_neg this]
   exact EX hi hd n (by omega) (fun j hjn hij hdj=>hj j (by omega) hij hdj)
theorem Uo{o:Oper}{s:St}{K:St→Prop}(h:uQ P E R o s K):∃v s',qH P E R o s v s'∧K s':=by
 have hN:∀(hg:gd R o s.tm=some true),gG P E o s K→∃v s',qH P E R o s v s'∧K s':=by
  intro hg hx
  unfold gG at hx
  by_cases hD:sQ o.op=true
  ·rw[if_pos hD] at hx
   obtain⟨S',v,h1,h2⟩:=ab1 hD hx
   exact⟨v,_,.inr (.inr ⟨hg,ab0 hD,h1,by rw[mP],fun h=>by rw[hD] at h;cases h⟩),h2⟩
  ·rw[if_neg hD] at hx
   have hD':sQ o.op=false:=by simpa using hD
   split at hx
   ·rename_i x args yH hop
    have hcv:mQ o.op=true:=by rw[hop];rfl
    rw[←hop] at hx
    split at hx
    ·rename_i hE
     obtain⟨r,h1,h2⟩:=hx
     exact⟨r,_,.inr (.inl ⟨hg,by unfold gJ;rw[hD',hE];rfl,.inl ⟨_,hop,h1⟩,rfl⟩),h2⟩
    ·rename_i hE
     obtain⟨S',v,h0,h1,h2⟩:=hx
     exact⟨v,_,.inr (.inr ⟨hg,by unfold gJ;rw[hE,hcv];simp,h1,by rw[mP],fun _ _=>by rw[mP];exact h0⟩),h2⟩
    ·rename_i hE0 hE1
     obtain⟨S',v,h1,h2⟩:=hx
     have h3:2≤E o.op:=by
      rcases Nat.lt_or_ge (E o.op) 2 with h|h
      ·exfalso
       have:E o.op=0∨E o.op=1:=by omega
       exact this.elim hE0 hE1
      ·exact h
     exact⟨v,_,.inr (.inr ⟨hg,by unfold gJ;rw[hcv,Bool.and_true,Bool.or_eq_true,decide_eq_true_eq];exact .inr (by omega),h1,by rw[mP],fun _ h=>by
      unfold oJ at h
      rw[hcv,Bool.and_true,Bool.or_eq_false_iff,decide_eq_false_iff_not] at h
      exact absurd h3 h.2⟩),h2⟩
   ·rename_i hne
    refine⟨_,_,.inr (.inl ⟨hg,?_,.inr ⟨hx.1,rfl⟩,rfl⟩),hx.2⟩
    have:mQ o.op=false:=by
     cases hc:mQ o.op with
     |false=>rfl
     |true=>
      exfalso
      unfold mQ at hc
      split at hc
      ·rename_i x a b ho;exact hne _ _ _ ho
      ·cases hc
    unfold gJ;rw[hD',this];simp
 unfold uQ at h
 split at h
 ·rename_i hg;exact hN (by simp only[gd,hg]) h
 ·rename_i j want hg
  split at h
  ·rename_i x hx
   by_cases e:x=want
   ·exact hN (by simp only[gd,hg,hx,e,beq_self_eq_true]) (h.1 e)
   ·exact⟨.dY [],_,.inl ⟨by simp only[gd,hg,hx];simp[e],rfl,rfl⟩,h.2 (by cases x<;>cases want<;>simp_all)⟩
  ·rename_i hx
   exact⟨.dY [],_,.inl ⟨by simp only[gd,hg,hx],rfl,rfl⟩,h⟩
  ·exact h.elim
theorem Oy{F:Oper→St→St→Prop}{D:List Oper→St→Prop}{K:St→Prop}(hnil:∀s,D [] s→K s)(aeK:∀o os s,D (o::os) s→∃v s',qH P E R o s v s'∧F o s s'∧D os s'):∀(n k:Nat),k+n=R.size→∀s,D (R.toList.drop k) s→
 ∃(st:Nat→St) (vs:Nat→V),st k=s∧K (st R.size)∧∀i,k≤i→i<R.size→∃o,R[i]? =some o∧qH P E R o (st i) (vs i) (st (i+1))∧F o (st i) (st (i+1))
 |0,k,hk,s,h=>by
  have:R.toList.drop k=[]:=by apply List.drop_eq_nil_of_le;simp;omega
  rw[this] at h
  exact⟨fun _=>s,fun _=>.any,rfl,hnil s h,fun i h1 h2=>by omega⟩
 |n+1,k,hk,s,h=>by
  have hlt:k<R.toList.length:=by simp;omega
  rw[List.drop_eq_getElem_cons hlt] at h
  have hRk:R[k]? =some R.toList[k]:=by
   rw[Array.getElem?_eq_getElem (by omega)];simp
  obtain⟨v,s',ht,hf,hd⟩:=aeK _ _ s h
  obtain⟨st,vs,h1,h2,h3⟩:=Oy hnil aeK n (k+1) (by omega) s' hd
  refine⟨fun i=>if i=k then s else st i,fun i=>if i=k then v else vs i,by simp,?_,fun i hi1 hi2=> ?_⟩
  ·have:R.size≠k:=by omega
   simp only[if_neg this];exact h2
  ·by_cases e:i=k
   ·subst e
    refine⟨_,hRk,?_⟩
    simp only[if_true]
    have:i+1≠i:=by omega
    simp only[if_neg this,h1]
    exact⟨ht,hf⟩
   ·obtain⟨o,ho,ht'⟩:=h3 i (by omega) hi2
    refine⟨o,ho,?_⟩
    have:i+1≠k:=by omega
    simp only[if_neg e,if_neg this]
    exact ht'
theorem JQ{K:St→Prop}(n k:Nat)(hk:k+n=R.size)(s:St)(h:uZ P E R (R.toList.drop k) s K):
 ∃(st:Nat→St) (vs:Nat→V),st k=s∧K (st R.size)∧∀i,k≤i→i<R.size→∃o,R[i]? =some o∧qH P E R o (st i) (vs i) (st (i+1)):=by
 obtain⟨st,vs,h1,h2,h3⟩:=Oy (F:=fun _ _ _=>True) (D:=fun os s=>uZ P E R os s K) (fun _ h=>h) (fun o os s h=>by
  obtain⟨v,s',a,b⟩:=Uo h
  exact⟨v,s',a,trivial,b⟩) n k hk s h
 exact⟨st,vs,h1,h2,fun i a b=>by
  obtain⟨o,c,d,_⟩:=h3 i a b
  exact⟨o,c,d⟩⟩
theorem ace{o:Oper}{s s':St}{v:V}(h:qH P E R o s v s'):s'=St.put ⟨s.tm,s'.st⟩ o.dst v:=by
 rcases h with⟨_,_,h⟩|⟨_,_,_,h⟩|⟨_,_,_,h,_⟩
 ·rw[h];cases o.dst<;>rfl
 ·rw[h];cases o.dst<;>rfl
 ·exact h
theorem acf{o:Oper}{s s':St}{v:V}(h:qH P E R o s v s')(hD:gJ E o.op=false):s'.st=s.st:=by
 rcases h with⟨_,_,h⟩|⟨_,_,_,h⟩|⟨_,h,_,_⟩
 ·rw[h];cases o.dst<;>rfl
 ·rw[h];cases o.dst<;>rfl
 ·rw[hD] at h;cases h
theorem Af{st:Nat→St}{vs:Nat→V}(h:∀i,i<R.size→∃o,R[i]? =some o∧qH P E R o (st i) (vs i) (st (i+1)))(t:Nat):∀i,i≤R.size→look (st i).tm t=mG R vs (fun _=>true) (st 0).tm i t
 |0,_=>rfl
 |i+1,hi=>by
  obtain⟨o,ho,ht⟩:=h i (by omega)
  have e:=ace ht
  have ih:=Af h t i (by omega)
  rw[mG,←ih]
  have hdst:gU R i=o.dst:=by simp[gU,ho]
  rw[hdst,e]
  cases hd:o.dst with
  |none=>simp[St.put]
  |some d=>
   simp only[St.put,look,true_and,Option.some.injEq]
theorem DS.refl(S:Store):DS S S:=fun _ _ h=>.inl h
theorem DS.trans{S1 S2 S3:Store}(h:DS S1 S2)(k:DS S2 S3):DS S1 S3:=by
 intro x o hx
 rcases h x o hx with h1|⟨h1,o',z,es,h2,h2'⟩
 ·exact k x o h1
 ·rcases k x _ h2 with h3|⟨_,h3⟩
  ·exact .inr ⟨h1,o',z,es,h3,h2'⟩
  ·exact .inr ⟨h1,h3⟩
theorem DS.push{own:List Obj}{Ω:Store}{o:Obj}:DS (own::Ω) ((own++[o])::Ω):=fun k o' h=>.inl (mO _ _ _ _ _ h)
theorem vH{dst:Option Nat}{o:Obj}{mk:Key→V}{s':St}(h:newObj s dst o mk (fun t=>t=s')):DS s.st s'.st:=by
 unfold newObj at h
 split at h
 ·rename_i own Ω hst
  rw[←h,mP,hst]
  exact DS.push
 ·exact h.elim
theorem afk{l:Option Nat}{es x:List (List D)}{z:Nat}{dst:Option Nat}{s':St}(h:BQ l es s dst z x (fun t=>t=s')):DS s.st s'.st:=by
 cases l with
 |none=>exact vH (o:=.tok z x) (mk:=fun k=>.c (.bS k x)) h
 |some n=>
  cases es with
  |nil=>
   have h:St.put ⟨s.tm,s.st⟩ dst (.c (.d (.ol n x)))=s':=h
   rw[←h,mP]
   exact DS.refl _
  |cons y es=>exact vH (o:=.tok z x) (mk:=fun k=>.c (.bS k x)) h
theorem afl{b:Bool}{n:Nat}{x:List (List D)}{z:Nat}{dst:Option Nat}{s':St}(h:DI b n s dst z x (fun t=>t=s')):DS s.st s'.st:=by
 cases b with
 |false=>exact vH (o:=.fF n z x) (mk:=fun k=>.c (.bS k x)) h
 |true=>
  have h:St.put ⟨s.tm,s.st⟩ dst (.c (.d (.ol n x)))=s':=h
  rw[←h,mP]
  exact DS.refl _
theorem acg{o:Oper}{s s':St}(hD:sQ o.op=true)(hs:BD o.op=false)(h:eF P o s (fun t=>t=s')):DS s.st s'.st:=by
 obtain⟨dst,op,ty,pos,after,guard⟩:=o
 cases op with
 |alloc t=>
  simp only[eF,vD] at h
  split at h
  ·exact vH h
  ·exact h.elim
 |box t x=>
  simp only[eF,BP] at h
  split at h
  ·exact vH h
  ·exact h.elim
 |makeSlice t l c=>
  simp only[eF,yF] at h
  split at h
  ·split at h
   ·exact vH h.2.2.2.2.2
   ·exact h.elim
  ·exact h.elim
 |store t x y=>simp[BD] at hs
 |mapUpdate t x y z=>simp[BD] at hs
 |makeMap t r=>
  cases r with
  |none=>
   simp only[eF,uN] at h
   exact vH h
  |some r=>simp[sQ] at hD
 |call c=>
  obtain⟨BR,args,yH⟩:=c
  cases BR with
  |builtin b=>
   cases b with
   |append=>
    simp only[eF,qb] at h
    split at h
    ·simp only[uP] at h
     split at h
     ·obtain⟨h1,h2,h3,h4⟩:=h
      split at h4
      ·rename_i k es hex
       split at h4
       ·rename_i z es' hk
        obtain⟨k1,k2,k3,k4⟩:=h4
        rw[←k4,mP]
        intro k' o' ho'
        by_cases e:k'=k
        ·subst e
         rw[hk] at ho';cases ho'
         exact .inr ⟨⟨_,_,.inl rfl⟩,_,_,_,dK _ _ _ _ hk,.inl rfl⟩
        ·exact .inl ((fZ _ _ _ _ (Ne.symm e)).trans ho')
       ·rename_i n z es' hk
        obtain⟨k1,k2,k3,k4⟩:=h4
        rw[←k4,mP]
        intro k' o' ho'
        by_cases e:k'=k
        ·subst e
         rw[hk] at ho';cases ho'
         exact .inr ⟨⟨_,_,.inr ⟨_,rfl⟩⟩,_,_,_,dK _ _ _ _ hk,.inr ⟨_,rfl⟩⟩
        ·exact .inl ((fZ _ _ _ _ (Ne.symm e)).trans ho')
       ·exact h4.elim
      ·exact afk h4.2.2
      ·exact afl h4.2.2
      ·exact h4.elim
     ·exact h.elim
    ·exact h.elim
   |_=>simp[sQ] at hD
  |_=>simp[sQ] at hD
 |_=>simp[sQ] at hD
theorem ach{o:Oper}{s s':St}{v:V}(h:qH P E R o s v s')(hs:oJ E o.op=false):DS s.st s'.st:=by
 rcases h with⟨_,_,h⟩|⟨_,_,_,h⟩|⟨_,hD,h,_,hc⟩
 ·rw[h];cases o.dst<;>exact DS.refl _
 ·rw[h];cases o.dst<;>exact DS.refl _
 ·cases hd:sQ o.op with
  |true=>exact acg hd (by unfold oJ at hs;rw[Bool.or_eq_false_iff] at hs;exact hs.1) h
  |false=>exact hc hd hs
theorem Eh{st:Nat→St}{vs:Nat→V}(h:∀i,i<R.size→∃o,R[i]? =some o∧qH P E R o (st i) (vs i) (st (i+1))){i:Nat}:∀(m:Nat),i+m≤R.size→(∀j o,i≤j→j<i+m→R[j]? =some o→gJ E o.op=false)→(st (i+m)).st=(st i).st
 |0,_,_=>rfl
 |m+1,hm,hj=>by
  obtain⟨o,ho,ht⟩:=h (i+m) (by omega)
  rw[show i+(m+1)=i+m+1 from rfl,acf ht (hj _ o (by omega) (by omega) ho)]
  exact Eh h m (by omega) (fun j o h1 h2 h3=>hj j o h1 (by omega) h3)
def KS(k:Key)(S S':Store):Prop:=∀o,bI S k=some o→bI S' k=some o∨((∃z es,tK o z es)∧∃o' z es,bI S' k=some o'∧tK o' z es)
theorem KS.trans{k:Key}{S1 S2 S3:Store}(h:KS k S1 S2)(h':KS k S2 S3):KS k S1 S3:=by
 intro o hx
 rcases h o hx with h1|⟨h1,o',z,es,h2,h2'⟩
 ·exact h' o h1
 ·rcases h' _ h2 with h3|⟨_,h3⟩
  ·exact .inr ⟨h1,o',z,es,h3,h2'⟩
  ·exact .inr ⟨h1,h3⟩
theorem Xp{st:Nat→St}{vs:Nat→V}(h:∀i,i<R.size→∃o,R[i]? =some o∧qH P E R o (st i) (vs i) (st (i+1))){i:Nat}{k:Key}:∀(m:Nat),i+m≤R.size→
 (∀j o,i≤j→j<i+m→R[j]? =some o→oJ E o.op=false∨bI (st (j+1)).st k=bI (st j).st k)→KS k (st i).st (st (i+m)).st
 |0,_,_=>fun _ hx=>.inl hx
 |m+1,hm,hj=>by
  obtain⟨o,ho,ht⟩:=h (i+m) (by omega)
  refine(Xp h m (by omega) (fun j o h1 h2 h3=>hj j o h1 (by omega) h3)).trans ?_
  rcases hj _ o (by omega) (by omega) ho with hs|hs
  ·exact ach ht hs k
  ·intro x hx
   exact .inl (hs.trans hx)
theorem cnt_lt(p q:Nat→Bool):∀(l:List Nat) (i:Nat),(∀x,q x=true→p x=true)→i∈l→p i=true→q i=false→l.countP q<l.countP p
 |[],_,_,h,_,_=>by simp at h
 |x::l,i,h,hi,hp,hq=>by
  rw[List.countP_cons,List.countP_cons]
  have hle:l.countP q≤l.countP p:=List.countP_mono_left (fun y _ hy=>h y hy)
  rcases List.mem_cons.1 hi with rfl|hi
  ·rw[hp,hq];simp;omega
  ·have ih:=cnt_lt p q l i h hi hp hq
   by_cases hx:q x=true
   ·rw[hx,h x hx];simp;exact ih
   ·have:q x=false:=by simpa using hx
    rw[this];simp
    split<;>omega
end
end Go.Ab
namespace Go.Ab
section
variable {P:Program} {E:Md} {N:Nat} {R:Array Oper}
def pG(E:Md)(R:Array Oper)(p:Nat)(listed:Array Bool):Prop:=listed.getD p false=true∧p<R.size∧∃j x,j<p∧R[j]? =some x∧gJ E x.op=true∧listed.getD j false=false
def Raw(P:Program)(R:Array Oper)(p:Nat)(w0 w:World)(σ:Nat→Nat)(S:Store)(β:Hs)(v:Value):Prop:=
 ∃b c ty,v=.pointer (some ⟨b,0,none⟩)∧w.heap[b]? =some (.cells c ty (0,0))∧σ b=0∧w0.heap.size≤b∧¬Own S β b∧
  ∀o t zs,R[p]? =some o→o.op=.alloc t→lD P t=some zs→∀w σ S β,gK w σ S β zs c.toList
open Classical in
noncomputable def vk(E:Md)(R:Array Oper)(p:Nat)(vs:Nat→V)(listed:Array Bool)(base:List (Nat×V))(t:Nat):V:=
 if pG E R p listed∧gU R p=some t then .any else mG R vs (fun i=>listed.getD i false) base R.size t
structure Mid (P:Program) (N:Nat) (E:Md) (R:Array Oper) (p:Nat) (st:Nat→St) (vs:Nat→V) (β0:Hs) (σ0:Nat→Nat) (w0:World) (listed:Array Bool) (a:Act) (w:World):Prop where
 size:listed.size=R.size
 closed:∀i o e,R[i]? =some o→listed.getD i false=true→e∈o.after→Region.binds .any e=true→listed.getD e.on false=true
 rep:∃m,m≤R.size∧(∀i o,R[i]? =some o→gJ E o.op=true→(i=p→¬pG E R p listed)→(listed.getD i false=true↔i<m))∧∃σ β,a.tmps.size=N∧a.defers=[]∧fK w σ (st m).st β∧
  (∀t,dV w σ (st m).st β (vk E R p vs listed (st 0).tm t) (a.tmps.getD t undef))∧Step (st 0).st β0 σ0 w0 (st m).st β σ w∧Keep (st 0).st β0 (st m).st β∧
  (pG E R p listed→m≤p∧∀d,gU R p=some d→Raw P R p w0 w σ (st m).st β (a.tmps.getD d undef))
theorem PG{o:Oper}{x:Operand}{t:Nat}(hx:x∈o.op.operands)(e:x=.tmp t):t∈o.looksAt R:=by
 subst e
 exact List.mem_append_left _ (List.mem_filterMap.2 ⟨.tmp t,by simpa using hx,rfl⟩)
theorem Uq{o:Oper}{g d:Nat}{want:Bool}(hg:o.guard=some (g,want))(hd:gU R g=some d):d∈o.looksAt R:=by
 refine List.mem_append_right _ ?_
 rw[hg]
 show d∈((R[g]?).bind (·.dst)).toList
 unfold gU at hd
 rw[hd];simp
theorem BX(h:Ad E R N=true){i j:Nat}{x y:Oper}(hij:i<j)(hx:R[i]? =some x)(hy:R[j]? =some y)(hc:clash E R x y=true):((masks R.toList []).getD j 0).testBit i=true:=by
 have hj:j<R.size:=(Array.getElem?_eq_some_iff.1 hy).1
 have h1:=List.all_eq_true.1 h j (List.mem_range.2 hj)
 rw[Bool.and_eq_true] at h1
 have h2:=List.all_eq_true.1 h1.2 i (List.mem_range.2 hij)
 rw[hx,hy] at h2
 simp only[hc,Bool.not_true,Bool.or_false] at h2
 exact h2
theorem Rj(h:Ad E R N=true){i:Nat}{o:Oper}{e:Edge}(ho:R[i]? =some o)(he:e∈o.after)(hb:Region.binds .any e=true):e.on<i:=by
 have hj:i<R.size:=(Array.getElem?_eq_some_iff.1 ho).1
 have h1:=List.all_eq_true.1 h i (List.mem_range.2 hj)
 rw[Bool.and_eq_true,ho] at h1
 have h2:=h1.1
 simp only[Bool.and_eq_true] at h2
 have h3:=List.all_eq_true.1 h2.1 e (by simpa using he)
 simpa [hb] using h3
theorem Ur(h:Ad E R N=true){i:Nat}{o:Oper}(ho:R[i]? =some o):∀d,o.dst=some d→d<N:=by
 intro d hd
 have hj:i<R.size:=(Array.getElem?_eq_some_iff.1 ho).1
 have h1:=List.all_eq_true.1 h i (List.mem_range.2 hj)
 rw[Bool.and_eq_true,ho] at h1
 have h2:=h1.1
 simp only[Bool.and_eq_true,hd] at h2
 simpa using h2.2
theorem Xq{x y:Oper}:x.apart R y=y.apart R x:=by
 rw[Bool.eq_iff_iff]
 have key:∀x y:Oper,x.apart R y=true→y.apart R x=true:=fun x y h=>by
  obtain⟨h1,h2,h3⟩:=Oper.apart_spec h
  unfold Oper.apart
  cases hx:x.dst<;>cases hy:y.dst<;>simp
  ·rename_i d;exact h3 d hy
  ·rename_i d;exact h1 d hx
  ·rename_i d d'
   exact⟨⟨h3 d' hy,fun e=>h2 d hx (by rw[hy,e])⟩,h1 d hx⟩
 exact⟨key x y,key y x⟩
theorem Us{x y:Oper}:pE E R x y=pE E R y x:=by
 unfold pE
 rw[Xq,Bool.and_comm (gJ E x.op)]
def refs(tm:List (Nat×V))(o:Oper)(k:Key):Prop:=∃x∈o.op.operands,Xn (ev tm x) k
structure Rk (E:Md) (R:Array Oper) (N:Nat) (st:Nat→St) (p:Nat):Prop where
 edge:∀(i:Nat) (o:Oper) (e:Edge),R[i]? =some o→e∈o.after→Region.binds .any e=true→e.on<i
 dst:∀(i:Nat) (o:Oper),R[i]? =some o→∀d,o.dst=some d→d<N
 pair:∀(i j:Nat) (x y:Oper),i<j→R[i]? =some x→R[j]? =some y→pE E R x y=true→((masks R.toList []).getD j 0).testBit i=true∨(j=p∧gJ E x.op=true∧x.apart R y=true)
 store:∀(i j:Nat) (x o:Oper),i≠j→R[i]? =some x→R[j]? =some o→oJ E x.op=true→gJ E o.op=false→mQ o.op=false→
  zO R i j=true∨∀k,refs (st j).tm o k→bI (st (i+1)).st k=bI (st i).st k
 pend:∀o,R[p]? =some o→zi o.op=true∧o.guard=none∧(∃d,o.dst=some d)∧∀j y,j≠p→R[j]? =some y→y.apart R o=false→∀i x,i<p→R[i]? =some x→gJ E x.op=true→i<j∧((masks R.toList []).getD j 0).testBit i=true
theorem ag8{st:Nat→St}(h:Ad E R N=true):Rk E R N st R.size where
 edge:=fun i o e h1 h2 h3=>Rj h h1 h2 h3
 dst:=fun i o h1=>Ur h h1
 pair:=fun i j x y hij hx hy hc=>.inl (BX h hij hx hy (by
  unfold pE at hc
  unfold clash
  rw[hc];rfl))
 store:=fun i j x o hij hx ho hs hD hc=>.inl (by
  unfold zO
  by_cases e:i<j
  ·rw[if_pos e]
   exact BX h e hx ho (by unfold clash;rw[hs];simp)
  ·rw[if_neg e]
   exact BX h (show j<i by omega) ho hx (by unfold clash;rw[hs];simp))
 pend:=fun o ho=>by rw[Array.getElem?_eq_none (Nat.le_refl _)] at ho;cases ho
theorem afm{p:Nat}(h:KY E R p=true):∀o,R[p]? =some o→zi o.op=true∧o.guard=none∧(∃d,o.dst=some d)∧∀j y,j≠p→R[j]? =some y→y.apart R o=false→∀i x,i<p→R[i]? =some x→gJ E x.op=true→i<j∧((masks R.toList []).getD j 0).testBit i=true:=by
 intro o ho
 unfold KY at h
 rw[ho] at h
 simp only[Bool.and_eq_true] at h
 obtain⟨⟨⟨h1,h2⟩,h3⟩,h4⟩:=h
 refine⟨h1,by simpa using h2,Option.isSome_iff_exists.1 h3,fun j y hj hy hap i x hi hx hD=> ?_⟩
 have hjl:j<R.size:=(Array.getElem?_eq_some_iff.1 hy).1
 have h5:=List.all_eq_true.1 h4 j (List.mem_range.2 hjl)
 rw[hy] at h5
 simp only[hap,hj,decide_false,Bool.false_or] at h5
 have h6:=List.all_eq_true.1 h5 i (List.mem_range.2 hi)
 rw[hx] at h6
 simpa [hD] using h6
theorem zk{o:Oper}(h:zi o.op=true):gJ E o.op=true∧oJ E o.op=false∧mQ o.op=false:=by
 obtain⟨dst,op,ty,pos,after,guard⟩:=o
 cases op<;>simp_all[zi,gJ,sQ,oJ,BD,mQ]
theorem afn{st:Nat→St}{p:Nat}(h0:Ef E R N p=true):Rk E R N st p:=by
 unfold Ef at h0
 rw[Bool.and_eq_true] at h0
 obtain⟨hp,h⟩:=h0
 have C9:=afm hp
 have hpr:∀(i j:Nat) (x y:Oper),i<j→R[i]? =some x→R[j]? =some y→((masks R.toList []).getD j 0).testBit i=true∨(x.apart R y=true∧(j=p∨((gJ E x.op&&gJ E y.op)=false∧oJ E x.op=false∧oJ E y.op=false))):=by
  intro i j x y hij hx hy
  have hj:j<R.size:=(Array.getElem?_eq_some_iff.1 hy).1
  have h1:=List.all_eq_true.1 h j (List.mem_range.2 hj)
  rw[Bool.and_eq_true] at h1
  have h2:=List.all_eq_true.1 h1.2 i (List.mem_range.2 hij)
  rw[hx,hy] at h2
  simp only[Zu] at h2
  rw[Bool.or_eq_true] at h2
  rcases h2 with h2|h2
  ·exact .inl h2
  ·right
   rw[Bool.not_eq_true',Bool.or_eq_false_iff,Bool.not_eq_false'] at h2
   refine⟨h2.1,?_⟩
   by_cases e:j=p
   ·exact .inl e
   ·right
    have h3:=h2.2
    simp only[e,decide_false,Bool.not_false,Bool.true_and,Bool.or_eq_false_iff] at h3
    exact⟨h3.1.1,h3.1.2,h3.2⟩
 refine⟨?_,?_,?_,?_,C9⟩
 ·intro i o e ho he hb
  have hj:i<R.size:=(Array.getElem?_eq_some_iff.1 ho).1
  have h1:=List.all_eq_true.1 h i (List.mem_range.2 hj)
  rw[Bool.and_eq_true,ho] at h1
  have h2:=h1.1
  simp only[Bool.and_eq_true] at h2
  have h3:=List.all_eq_true.1 h2.1 e (by simpa using he)
  simpa [hb] using h3
 ·intro i o ho d hd
  have hj:i<R.size:=(Array.getElem?_eq_some_iff.1 ho).1
  have h1:=List.all_eq_true.1 h i (List.mem_range.2 hj)
  rw[Bool.and_eq_true,ho] at h1
  have h2:=h1.1
  simp only[Bool.and_eq_true,hd] at h2
  simpa using h2.2
 ·intro i j x y hij hx hy hc
  rcases hpr i j x y hij hx hy with h1|⟨h1,h2⟩
  ·exact .inl h1
  ·rcases h2 with h2|⟨h2,_,_⟩
   ·right
    unfold pE at hc
    rw[h1] at hc
    simp only[Bool.not_true,Bool.false_or,Bool.and_eq_true] at hc
    exact⟨h2,hc.1,h1⟩
   ·unfold pE at hc
    rw[h1,h2] at hc
    cases hc
 ·intro i j x o hij hx ho hs hD hc
  have hjp:j≠p:=fun e=>by
   subst e
   have:=(zk (E:=E) (C9 o ho).1).1
   rw[hD] at this;cases this
  have VX:i≠p:=fun e=>by
   subst e
   have:=(zk (E:=E) (C9 x hx).1).2.1
   rw[hs] at this;cases this
  left
  unfold zO
  by_cases e:i<j
  ·rw[if_pos e]
   rcases hpr i j x o e hx ho with h1|⟨_,h2⟩
   ·exact h1
   ·rcases h2 with h2|⟨_,h2,_⟩
    ·exact absurd h2 hjp
    ·rw[hs] at h2;cases h2
  ·rw[if_neg e]
   rcases hpr j i o x (by omega) ho hx with h1|⟨_,h2⟩
   ·exact h1
   ·rcases h2 with h2|⟨_,_,h2⟩
    ·exact absurd h2 VX
    ·rw[hs] at h2;cases h2
theorem Oper.Zv{o:Oper}{a:Act}{w:World}{K:Act→World→Prop}{Q:Exit→Act→World→Prop}(hh:o.wp P a w K Q):o.wp P a w (fun a' w'=>K a' w'∧∀d,o.dst≠some d→a'.tmps.getD d undef=a.tmps.getD d undef) Q:=by
 have key:∀(ds:List Deferred) (v:Value) (d:Nat),o.dst≠some d→(({a with defers:=ds}:Act).put o.dst v).tmps.getD d undef=a.tmps.getD d undef:=by
  intro ds v d hd
  cases ho:o.dst with
  |none=>rfl
  |some e=>
   have hne:e≠d:=fun x=>hd (by rw[ho,x])
   simp only[Act.put,Array.getD_eq_getD_getElem?]
   rw[Array.getElem?_setIfInBounds_ne hne]
 unfold Oper.wp at *
 generalize (execOp a.eval o).run P w=r at *
 cases r with
 |ok n w'=>
  cases n<;>simp only[Oper.upon] at hh ⊢ <;>
   first
    |exact⟨hh,fun d hd=>key _ _ d hd⟩
    |exact Calls.mono hh (fun e w'' he=>by cases e<;>first|exact⟨he,fun d hd=>key _ _ d hd⟩|exact he)
    |exact Rows.mono hh (fun _ _ he=>⟨he,fun d hd=>key _ _ d hd⟩)
 |halt x w'=>cases x<;>simp only[Oper.upon] at hh ⊢ <;>exact hh
theorem Gz{a:Act}{dst:Option Nat}{v:Value}{d:Nat}(h:dst≠some d):(a.put dst v).tmps.getD d undef=a.tmps.getD d undef:=by
 cases dst with
 |none=>rfl
 |some e=>
  have hne:e≠d:=fun x=>h (by rw[x])
  simp only[Act.put,Array.getD_eq_getD_getElem?]
  rw[Array.getElem?_setIfInBounds_ne hne]
theorem aci{t:TypeId}{zs:List C}(h:lD P t=some zs):∃z:Value,(∀w,(zeroValue t).run P w=.ok z w)∧∀w σ S β,gK w σ S β zs z.cells.toList:=by
 unfold lD at h
 cases hi:P.info? t with
 |none=>rw[hi] at h;cases h
 |some i=>
  rw[hi] at h
  cases hz:i.zero with
  |none=>simp[hz] at h
  |some z=>
   simp only[Option.bind_some,hz] at h
   split at h
   ·rename_i hall
    cases h
    refine⟨z,fun w=>by simp[zeroValue,typeInfo,hi,hz],fun w σ S β=>⟨by simp,fun j x hx=> ?_⟩⟩
    rw[List.getElem?_map] at hx
    cases hv:z.cells.toList[j]? with
    |none=>rw[hv] at hx;cases hx
    |some v=>
     rw[hv] at hx;cases hx
     exact⟨v,rfl,Bj _ _ _ _ _,List.all_eq_true.1 hall v (List.mem_of_getElem? hv)⟩
   ·cases h
theorem acj{w w0:World}{σ σ0:Nat→Nat}{S0:Store}{β0:Hs}{own:List Obj}{Ω:Store}{β:Hs}{zs:List C}{b:Nat}{c:Array Value}{ty:TypeId}(hS:fK w σ (own::Ω) β)(hst:Step S0 β0 σ0 w0 (own::Ω) β σ w)(hb:w.heap[b]? =some (.cells c ty (0,0)))(hσ:σ b=0)
 (h0:w0.heap.size≤b) (hno:¬Own (own::Ω) β b) (hz:∀w σ S β,gK w σ S β zs c.toList):
 ∃bo bΩ,β=bo::bΩ∧bo.length=own.length∧fK w σ ((own++[.box zs])::Ω) ((bo++[Value.pointer (some ⟨b,0,none⟩)])::bΩ)∧Keep (own::Ω) β ((own++[.box zs])::Ω) ((bo++[Value.pointer (some ⟨b,0,none⟩)])::bΩ)∧
  Step S0 β0 σ0 w0 ((own++[.box zs])::Ω) ((bo++[Value.pointer (some ⟨b,0,none⟩)])::bΩ) σ w:=by
 cases β with
 |nil=>have:=hS.shape.1;simp at this
 |cons bo bΩ=>
 have hlen:bo.length=own.length:=by
  obtain⟨gr,g1,g2⟩:=hS.shape.2 0 own rfl
  simp at g1;rw[g1];exact g2
 refine⟨bo,bΩ,rfl,hlen,?_⟩
 have hkeep:Keep (own::Ω) (bo::bΩ) ((own++[.box zs])::Ω) ((bo++[Value.pointer (some ⟨b,0,none⟩)])::bΩ):=by
  intro k o1 h1
  obtain⟨h2,AZ,_⟩:=hS.obj k o1 h1
  exact⟨o1,mO _ _ _ _ _ h1,by rw[mO _ _ _ _ _ AZ,AZ];exact .refl _ _⟩
 have hinv:∀k o1 h1,bI ((own++[Obj.box zs])::Ω) k=some o1→bI ((bo++[Value.pointer (some ⟨b,0,none⟩)])::bΩ) k=some h1→
  (bI (own::Ω) k=some o1∧bI (bo::bΩ) k=some h1)∨(k=(0,own.length)∧o1=.box zs∧h1=Value.pointer (some ⟨b,0,none⟩)):=by
  intro k o1 h1 e1 e2
  rcases rE _ _ _ _ _ e1 with e1|⟨rfl,rfl⟩
  ·left
   refine⟨e1,?_⟩
   rcases rE _ _ _ _ _ e2 with e2|⟨rfl,rfl⟩
   ·exact e2
   ·rw[cO,hlen] at e1
    have:=(List.getElem?_eq_some_iff.1 e1).1
    omega
  ·right
   rw[←hlen,dH] at e2
   exact⟨rfl,rfl,(Option.some.inj e2).symm⟩
 have hown:∀x,Own ((own++[Obj.box zs])::Ω) ((bo++[Value.pointer (some ⟨b,0,none⟩)])::bΩ) x→Own (own::Ω) (bo::bΩ) x∨x=b:=by
  rintro x ⟨k,o,h,e1,e2,e3⟩
  rcases hinv k o h e1 e2 with⟨f1,f2⟩|⟨rfl,rfl,rfl⟩
  ·exact .inl ⟨k,o,h,f1,f2,e3⟩
  ·right;cases e3;rfl
 have hmono:∀k o h,bI (own::Ω) k=some o→bI (bo::bΩ) k=some h→jm w σ ((own::Ω).drop k.1) ((bo::bΩ).drop k.1) o h→jm w σ (((own++[Obj.box zs])::Ω).drop k.1) (((bo++[Value.pointer (some ⟨b,0,none⟩)])::bΩ).drop k.1) o h:=
  fun k o h _ _ hr=>hr.mono (gD.refl _ _) (hkeep.drop _) fun x _=>⟨rfl,rfl⟩
 refine⟨⟨?_,?_,⟨?_,?_⟩,hS.live,hS.uW⟩,hkeep,⟨hst.size,hst.os,hst.output,fun x hx hn=>hst.far x hx hn,hst.near,fun x hx=> ?_⟩⟩
 ·intro k o1 h1
  rcases rE _ _ _ _ _ h1 with h1|⟨rfl,rfl⟩
  ·obtain⟨h2,AZ,hr⟩:=hS.obj k o1 h1
   exact⟨h2,mO _ _ _ _ _ AZ,hmono k o1 h2 h1 AZ hr⟩
  ·exact⟨Value.pointer (some ⟨b,0,none⟩),by rw[←hlen,dH],b,c,ty,rfl,hb,hσ,hz _ _ _ _⟩
 ·intro k k' o1 o2 h1 h2 x e1 e2 e3 e4 e5 e6
  rcases hinv k o1 h1 e1 e2 with⟨f1,f2⟩|⟨rfl,rfl,rfl⟩
  ·rcases hinv k' o2 h2 e4 e5 with⟨g1,g2⟩|⟨rfl,rfl,rfl⟩
   ·exact hS.apart _ _ _ _ _ _ _ f1 f2 e3 g1 g2 e6
   ·cases e6;exact absurd ⟨k,o1,h1,f1,f2,e3⟩ hno
  ·rcases hinv k' o2 h2 e4 e5 with⟨g1,g2⟩|⟨rfl,rfl,rfl⟩
   ·cases e3;exact absurd ⟨k',o2,h2,g1,g2,e6⟩ hno
   ·rfl
 ·have:=hS.shape.1;simpa using this
 ·intro l fr hl
  cases l with
  |zero=>simp at hl;subst hl;exact⟨_,rfl,by simp[hlen]⟩
  |succ l=>exact hS.shape.2 (l+1) fr (by simpa using hl)
 ·rcases hown x hx with h|h
  ·exact hst.own x h
  ·subst h;exact .inr h0
theorem K4{st:Nat→St}{vs:Nat→V}{p:Nat}{o:Oper}{d:Nat}{t:TypeId}(ht:qH P E R o (st p) (vs p) (st (p+1)))(hop:o.op=.alloc t)(hg:o.guard=none)(hd:o.dst=some d):
 ∃zs own Ω,lD P t=some zs∧(st p).st=own::Ω∧(st (p+1)).st=(own++[.box zs])::Ω∧vs p=.c (.ptr (0,own.length) 0):=by
 have hgd:gd R o (st p).tm=some true:=by unfold gd;rw[hg]
 rcases ht with⟨h1,_,_⟩|⟨_,hD,_,_⟩|⟨_,hD,hx,hs',_⟩
 ·rw[hgd] at h1;cases h1
 ·rw[(zk (E:=E) (o:=o) (by rw[hop];rfl)).1] at hD;cases hD
 ·obtain⟨dst,op,ty,pos,after,guard⟩:=o
  simp only at hop hd;subst hop;subst hd
  unfold eF vD at hx
  simp only at hx
  cases hz:lD P t with
  |none=>rw[hz] at hx;exact hx.elim
  |some zs=>
   rw[hz] at hx
   generalize st (p+1)=s1 at *
   generalize st p=s0 at *
   obtain⟨tm,S⟩:=s0
   simp only[newObj] at hx
   cases S with
   |nil=>exact hx.elim
   |cons own Ω=>
    subst hx
    refine⟨zs,own,Ω,rfl,rfl,rfl,?_⟩
    simp only[St.put,St.mk.injEq,List.cons.injEq,Prod.mk.injEq,and_true,true_and] at hs'
    exact hs'.symm
theorem mid_step{st:Nat→St}{vs:Nat→V}{β0:Hs}{σ0:Nat→Nat}{w0:World}{Q:Exit→Act→World→Prop}{p:Nat}(hok:Rk E R N st p)
 (hT:∀i,i<R.size→∃o,R[i]? =some o∧qH P E R o (st i) (vs i) (st (i+1))) {listed:Array Bool} {a:Act} {w:World} (hM:Mid P N E R p st vs β0 σ0 w0 listed a w) {i:Nat} (hi:i∈Region.ready .any R listed):
 wpOp P R Q i (fun a' w'=>Mid P N E R p st vs β0 σ0 w0 (listed.setIfInBounds i true) a' w') a w:=by
 obtain⟨hun,o,ho,Zw⟩:=mem_ready.1 hi
 have hlt:i<R.size:=(Array.getElem?_eq_some_iff.1 ho).1
 obtain⟨o',ho',ht⟩:=hT i hlt
 rw[ho] at ho';cases ho'
 have Nc:listed.getD i false=false:=by
  have hs:i<listed.size:=by rw[hM.size];exact hlt
  simp[hs] at hun ⊢;exact hun
 obtain⟨m,hm,hmD,σ,β,hsz,hdf,hS,hrT,hst,hkp,C9⟩:=hM.rep
 have hdn:=hok.dst i o ho
 have hset:(listed.setIfInBounds i true).getD i false=true:=by
  have hs:i<listed.size:=by rw[hM.size];exact hlt
  simp[hs]
 have Xr:∀j,(listed.setIfInBounds i true).getD j false=true→j=i∨listed.getD j false=true:=by
  intro j hj
  by_cases e:j=i
  ·exact .inl e
  ·rw[getD_set_ne false (Ne.symm e)] at hj;exact .inr hj
 have aiI:∀j,(listed.setIfInBounds i true).getD j false=false→j≠i∧listed.getD j false=false:=by
  intro j hj
  by_cases e:j=i
  ·subst e;rw[hset] at hj;cases hj
  ·rw[getD_set_ne false (Ne.symm e)] at hj;exact⟨e,hj⟩
 have Xt:∀j x k,R[j]? =some x→listed.getD j false=true→((masks R.toList []).getD j 0).testBit k=true→listed.getD k false=true:=fun j x k hx hE hb=>
  Ox (fun k=>listed.getD k false=true) hM.closed hok.edge j x hx (fun e he hb=>hM.closed j x e hx hE he hb) k hb
 have GA:∀k,((masks R.toList []).getD i 0).testBit k=true→listed.getD k false=true:=fun k hb=>
  Ox (fun k=>listed.getD k false=true) hM.closed hok.edge i o ho (fun e he hb=>Zw e he hb) k hb
 have aha:pG E R p listed→i≠p:=fun h e=>by have h1:=h.1;rw[←e,Nc] at h1;cases h1
 have EY:∀j x e,R[j]? =some x→(listed.setIfInBounds i true).getD j false=true→e∈x.after→Region.binds .any e=true→(listed.setIfInBounds i true).getD e.on false=true:=by
  intro j x e hx hE he hb
  by_cases hji:j=i
  ·subst hji
   rw[ho] at hx;cases hx
   exact getD_set_true (Zw e he hb)
  ·rw[getD_set_ne false (Ne.symm hji)] at hE
   exact getD_set_true (hM.closed j x e hx hE he hb)
 by_cases hA2:i=p∧∃j x,j<p∧R[j]? =some x∧gJ E x.op=true∧listed.getD j false=false
 ·
  obtain⟨rfl,j0,x0,hj0,hx0,hD0,hu0⟩:=hA2
  obtain⟨hal,hgn,⟨d,hd⟩,_⟩:=hok.pend o ho
  obtain⟨ty,hop⟩:∃ty,o.op=.alloc ty:=by
   cases h:o.op<;>rw[h] at hal<;>first|exact⟨_,rfl⟩|cases hal
  obtain⟨zs,own,Ω,hzs,_,_,_⟩:=K4 ht hop hgn hd
  obtain⟨z,Ac,hzc⟩:=aci hzs
  have hnp:¬pG E R i listed:=fun h=>by have h1:=h.1;rw[Nc] at h1;cases h1
  have hP':pG E R i (listed.setIfInBounds i true):=⟨hset,hlt,j0,x0,hj0,hx0,hD0,by rw[getD_set_ne false (by omega)];exact hu0⟩
  have hmp:m≤i:=by
   have h1:=hmD j0 x0 hx0 hD0 (fun _=>hnp)
   rcases Nat.lt_or_ge j0 m with h|h
   ·rw[h1.2 h] at hu0;cases hu0
   ·omega
  have hdi:gU R i=some d:=by simp[gU,ho,hd]
  have hg:=EP w σ hS.live z.cells ty 0
  unfold wpOp
  rw[ho]
  simp only
  rw[if_pos (by simp[Region.wanted,hgn])]
  left
  have hrun:(execOp a.eval o).run P w=.ok (.value (.pointer (some ⟨w.heap.size,0,none⟩))) {w with heap:=w.heap.push (.cells z.cells ty)}:=by
   have KR:(newVar ty z).run P w=.ok ⟨w.heap.size,0,none⟩ {w with heap:=w.heap.push (.cells z.cells ty)}:=rfl
   have Ac:=Ac w
   clear hS hrT hst hkp C9 hM hdn ht
   obtain⟨dst,op,ty',pos,after,guard⟩:=o
   simp only at hop;subst hop
   simp[execOp,Instr.alloc,Ac,KR]
  unfold Oper.wp
  rw[hrun]
  show Mid P N E R i st vs β0 σ0 w0 _ (a.put o.dst _) _
  rw[hd]
  have hdN:d<a.tmps.size:=by rw[hsz];exact hdn d hd
  refine⟨by simpa using hM.size,EY,m,hm,fun j x hx sG hjp=> ?_,fun b=>if b=w.heap.size then 0 else σ b,β,by simp[Act.put,hsz],hdf,hS.grow hg,fun t=> ?_,hst.trans (Step.oH hg),hkp,fun _=>⟨hmp,fun d' hd'=> ?_⟩⟩
  ·have hji:j≠i:=fun e=>hjp e hP'
   rw[getD_set_ne false (Ne.symm hji)]
   exact hmD j x hx sG fun _=>hnp
  ·unfold vk
   by_cases e:t=d
   ·subst e
    rw[if_pos ⟨hP',hdi⟩]
    exact trivial
   ·rw[if_neg (fun h=>e (by rw[hdi] at h;exact(Option.some.inj h.2).symm))]
    rw[zP (E':=fun i=>listed.getD i false) R.size (fun j hj hdj=>by
     have hji:j≠i:=fun x=>by rw[x,hdi] at hdj;exact e (Option.some.inj hdj).symm
     exact getD_set_ne false (Ne.symm hji))]
    have h1:=hrT t
    unfold vk at h1
    rw[if_neg (fun h=>hnp h.1)] at h1
    rw[Gz (by intro x;exact e (Option.some.inj x).symm)]
    exact h1.mono hg.near (Keep.refl _ _)
  ·rw[hdi] at hd';cases hd'
   refine⟨w.heap.size,z.cells,ty,by simp[Act.put,Array.getD,hdN],by simp,by simp,hst.size,fun h=> ?_,fun o2 t2 zs2 h1 h2 h3=> ?_⟩
   ·have:=hS.Gt h;omega
   ·rw[ho] at h1;cases h1
    rw[hop] at h2;cases h2
    rw[hzs] at h3;cases h3
    exact hzc
 have hA:i=p→∀j x,j<p→R[j]? =some x→gJ E x.op=true→listed.getD j false=true:=fun e j x hj hx hD=>by
  cases hl:listed.getD j false with
  |true=>rfl
  |false=>exact absurd ⟨e,j,x,hj,hx,hD,hl⟩ hA2
 have hPP:pG E R p (listed.setIfInBounds i true)→pG E R p listed:=by
  rintro⟨h1,h2,j,x,hj,hx,hD,hl⟩
  obtain⟨hji,hl⟩:=aiI j hl
  rcases Xr p h1 with e|h
  ·rw[hA e.symm j x hj hx hD] at hl;cases hl
  ·exact⟨h,h2,j,x,hj,hx,hD,hl⟩
 have hap:pG E R p listed→∀po d,R[p]? =some po→po.dst=some d→o.dst≠some d∧d∉o.looksAt R:=by
  rintro hP po d hpo C9
  have Rl:=hP
  obtain⟨_,_,j0,x0,hj0,hx0,hD0,hu0⟩:=Rl
  have:o.apart R po=true:=by
   cases hc:o.apart R po with
   |true=>rfl
   |false=>
    have:=(hok.pend po hpo).2.2.2 i o (aha hP) ho hc j0 x0 hj0 hx0 hD0
    rw[GA j0 this.2] at hu0;cases hu0
  obtain⟨q1,q2,q3⟩:=Oper.apart_spec this
  exact⟨fun e=>q2 d e C9,q3 d C9⟩
 have VX:pG E R p listed→gJ E o.op=true→i<p:=by
  rintro hP hD
  have Rl:=hP
  obtain⟨_,hpl,j0,x0,hj0,hx0,hD0,hu0⟩:=Rl
  have hne:=aha hP
  rcases Nat.lt_or_ge i p with h|h
  ·exact h
  ·exfalso
   rcases hok.pair j0 i x0 o (by omega) hx0 ho (by simp[pE,hD,hD0]) with hb|⟨e,_⟩
   ·rw[GA j0 hb] at hu0;cases hu0
   ·exact hne e
 have hbit:∀j x,R[j]? =some x→j≠i→zO R j i=true→(listed.getD j false=true↔j<i):=by
  intro j x hx hne hc
  unfold zO at hc
  constructor
  ·intro hE
   rcases Nat.lt_or_ge j i with h|h
   ·exact h
   ·exfalso
    rw[if_neg (by omega)] at hc
    have:=Xt j x i hx hE hc
    rw[Nc] at this;cases this
  ·intro hji
   rw[if_pos hji] at hc
   exact GA j hc
 have hdone:∀j x,R[j]? =some x→j≠i→(j=p→¬pG E R p listed)→pE E R x o=true→(listed.getD j false=true↔j<i):=by
  intro j x hx hne hjp hc
  by_cases e:j<i
  ·rcases hok.pair j i x o e hx ho hc with hb|⟨e1,hD,_⟩
   ·exact hbit j x hx hne (by unfold zO;rw[if_pos e];exact hb)
   ·exact⟨fun _=>e,fun _=>hA e1 j x (by omega) hx hD⟩
  ·rcases hok.pair i j o x (by omega) ho hx (by rw[Us];exact hc) with hb|⟨e1,hD,_⟩
   ·exact hbit j x hx hne (by unfold zO;rw[if_neg e];exact hb)
   ·refine⟨fun h=>absurd ⟨e1▸h,?_,i,o,by omega,ho,hD,Nc⟩ (hjp e1),fun h=>absurd h e⟩
    rw[←e1];exact(Array.getElem?_eq_some_iff.1 hx).1
 obtain⟨Rm,Rn⟩:∃Rm:List (Nat×V),∀t,look Rm t=mG R vs (fun i=>listed.getD i false) (st 0).tm R.size t:=by
  have:∀n,∃uz:List (Nat×V),∀t,look uz t=mG R vs (fun i=>listed.getD i false) (st 0).tm n t:=by
   intro n
   induction n with
   |zero=>exact⟨(st 0).tm,fun t=>rfl⟩
   |succ n ih=>
    obtain⟨tm,h⟩:=ih
    by_cases hE:listed.getD n false=true
    ·cases hd:gU R n with
     |none=>exact⟨tm,fun t=>by rw[mG,if_neg (fun x=>by rw[hd] at x;cases x.2)];exact h t⟩
     |some d=>
      refine⟨(n |> vs |> fun v=>(d,v))::tm,fun t=> ?_⟩
      rw[mG,look,hd,h t]
      by_cases e:d=t
      ·rw[if_pos e,if_pos ⟨hE,by rw[e]⟩]
      ·rw[if_neg e,if_neg (fun x=>e (Option.some.inj x.2))]
    ·exact⟨tm,fun t=>by rw[mG,if_neg (fun x=>hE x.1)];exact h t⟩
  exact this R.size
 obtain⟨uz,acn⟩:∃uz:List (Nat×V),∀t,look uz t=vk E R p vs listed (st 0).tm t:=by
  by_cases hP:pG E R p listed
  ·cases hd:gU R p with
   |none=>exact⟨Rm,fun t=>by unfold vk;rw[if_neg (fun h=>by rw[hd] at h;cases h.2)];exact Rn t⟩
   |some d=>
    refine⟨(d,.any)::Rm,fun t=> ?_⟩
    unfold vk
    rw[look,hd]
    by_cases e:d=t
    ·rw[if_pos e,if_pos ⟨hP,by rw[e]⟩]
    ·rw[if_neg e,if_neg (fun x=>e (Option.some.inj x.2))];exact Rn t
  ·exact⟨Rm,fun t=>by unfold vk;rw[if_neg (fun h=>hP h.1)];exact Rn t⟩
 have hPd:∀t,pG E R p listed→gU R p=some t→∃po,R[p]? =some po∧po.dst=some t:=by
  intro t _ h
  unfold gU at h
  cases hpo:R[p]? with
  |none=>rw[hpo] at h;cases h
  |some po=>rw[hpo] at h;exact⟨po,rfl,h⟩
 have aeL:∀t∈o.looksAt R,look uz t=look (st i).tm t:=by
  intro t htl
  rw[acn]
  unfold vk
  rw[if_neg (fun h=>by
   obtain⟨po,h1,h2⟩:=hPd t h.1 h.2
   exact(hap h.1 po t h1 h2).2 htl),Af hT t i (by omega)]
  have:=DK (R:=R) (vs:=vs) (E:=fun i=>listed.getD i false) (base:=(st 0).tm) (t:=t) (i:=i) R.size (fun j hj hd=>by
   by_cases e:j=i
   ·subst e;rw[Nc];simp
   ·obtain⟨x,hx⟩:∃x,R[j]? =some x:=⟨_,Array.getElem?_eq_getElem hj⟩
    have hxd:x.dst=some t:=by simpa [gU,hx] using hd
    refine hdone j x hx e (fun e2 hP=> ?_) ?_
    ·subst e2
     exact(hap hP x t hx hxd).2 htl
    ·have:x.apart R o=false:=by
      cases hap:x.apart R o with
      |false=>rfl
      |true=>exact absurd htl ((Oper.apart_spec hap).1 t hxd)
     simp[pE,this])
  rw[this,show min R.size i=i from by omega]
 have hR:lS N ⟨uz,(st m).st⟩ a w σ β:=⟨hsz,hdf,hS,fun t=>by show dV w σ (st m).st β (look uz t) _;rw[acn];exact hrT t⟩
 have hev:∀x∈o.op.operands,ev (st i).tm x=ev uz x:=by
  intro x hx
  cases x with
  |tmp t=>show look _ t=look _ t;rw[aeL t (PG hx rfl)]
  |_=>rfl
 have hgd:gd R o uz=gd R o (st i).tm:=by
  unfold gd
  cases hg:o.guard with
  |none=>rfl
  |some gw=>
   obtain⟨g,want⟩:=gw
   simp only
   cases hd:gU R g with
   |none=>rfl
   |some d=>
    simp only[Option.map_some]
    rw[aeL d (Uq hg hd)]
 have aks:∀(S':Store) (t:Nat),mG R vs (fun i_1=>(listed.setIfInBounds i true).getD i_1 false) (st 0).tm R.size t=look (St.put ⟨Rm,S'⟩ o.dst (vs i)).tm t:=by
  intro S' t
  by_cases hd:o.dst=some t
  ·have hdi:gU R i=some t:=by simp[gU,ho,hd]
   rw[EX (E:=fun i_1=>(listed.setIfInBounds i true).getD i_1 false) hset hdi R.size hlt (fun j hj hij hdj=>by
    obtain⟨x,hx⟩:∃x,R[j]? =some x:=⟨_,Array.getElem?_eq_getElem hj⟩
    have hxd:x.dst=some t:=by simpa [gU,hx] using hdj
    have aco:x.apart R o=false:=by
     cases hap:x.apart R o with
     |false=>rfl
     |true=>exact absurd hd ((Oper.apart_spec hap).2.1 t hxd)
    have:=hdone j x hx (by omega) (fun e hP=>by
     subst e
     exact(hap hP x t hx hxd).1 hd) (by simp[pE,aco])
    rw[getD_set_ne false (by omega)]
    cases hE:listed.getD j false with
    |false=>rfl
    |true=>exact absurd (this.1 hE) (by omega))]
   rw[hd]
   simp[St.put,look]
  ·have hdi:gU R i≠some t:=by simp only[gU,ho,Option.bind_some];exact hd
   rw[zP (E':=fun i=>listed.getD i false) R.size (fun j hj hdj=>by
    have hji:j≠i:=fun e=>hdi (e▸hdj)
    exact getD_set_ne false (Ne.symm hji)),←Rn t]
   cases hdd:o.dst with
   |none=>rfl
   |some d=>
    have hne:d≠t:=fun e=>hd (by rw[hdd,e])
    simp[St.put,look,hne]
 have acp:∀(S':Store) (t:Nat),¬(pG E R p listed∧gU R p=some t)→look (St.put ⟨uz,S'⟩ o.dst (vs i)).tm t=mG R vs (fun i_1=>(listed.setIfInBounds i true).getD i_1 false) (st 0).tm R.size t:=by
  intro S' t hn
  rw[aks S' t]
  have h1:look uz t=look Rm t:=by rw[acn,Rn];unfold vk;rw[if_neg hn]
  cases hdd:o.dst with
  |none=>exact h1
  |some d=>simp only[St.put,look,h1]
 have fin:∀(m':Nat) (a':Act) (w':World) (σ':Nat→Nat) (β':Hs),m'≤R.size→(∀j x,R[j]? =some x→gJ E x.op=true→(j=p→¬pG E R p listed)→((listed.setIfInBounds i true).getD j false=true↔j<m'))→
  (pG E R p listed→m'≤p)→(∀d,o.dst≠some d→a'.tmps.getD d undef=a.tmps.getD d undef)→
  lS N (St.put ⟨uz,(st m').st⟩ o.dst (vs i)) a' w' σ' β'→Step (st m).st β σ w (st m').st β' σ' w'→Keep (st m).st β (st m').st β'→Mid P N E R p st vs β0 σ0 w0 (listed.setIfInBounds i true) a' w':=by
  intro m' a' w' σ' β' hm' hD' hmp ha' hR' hst' zh
  have hS':=hR'.S
  have hT':=hR'.T
  rw[mP] at hS' hT'
  by_cases hP:pG E R p listed
  ·obtain⟨_,hraw⟩:=C9 hP
   have Rl:=hP
   obtain⟨hp1,hp2,j0,x0,hj0,hx0,hD0,hu0⟩:=Rl
   obtain⟨po,hpo⟩:∃po,R[p]? =some po:=⟨_,Array.getElem?_eq_getElem hp2⟩
   obtain⟨hal,hgn,⟨d,hd⟩,aiJ⟩:=hok.pend po hpo
   have hdp:gU R p=some d:=by simp[gU,hpo,hd]
   have hod:=hap hP po d hpo hd
   have hraw:=hraw d hdp
   obtain⟨b,c,ty',hv,hb,hσ,h0,hno,hzc⟩:=hraw
   have hbl:b<w.heap.size:=lt_of_some hb
   have hb':w'.heap[b]? =some (.cells c ty' (0,0)):=by rw[(hst'.far b hbl hno).1];exact hb
   have hσ':σ' b=0:=by rw[(hst'.far b hbl hno).2];exact hσ
   have hno':¬Own (st m').st β' b:=fun h=>(hst'.own b h).elim hno (fun h=>by omega)
   have hv':a'.tmps.getD d undef=.pointer (some ⟨b,0,none⟩):=(ha' d hod.1).trans hv
   have aiK:Raw P R p w0 w' σ' (st m').st β' (a'.tmps.getD d undef):=⟨b,c,ty',hv',hb',hσ',h0,hno',hzc⟩
   by_cases hP':pG E R p (listed.setIfInBounds i true)
   ·refine⟨by simpa using hM.size,EY,m',hm',fun j x hx sG hjp=>hD' j x hx sG (fun e=>absurd hP' (hjp e)),σ',β',hR'.size,hR'.defers,hS',fun t=> ?_,hst.trans hst',hkp.trans zh,fun _=>⟨hmp hP,fun d' hd'=>by rw[hdp] at hd';cases hd';exact aiK⟩⟩
    unfold vk
    by_cases e:gU R p=some t
    ·rw[if_pos ⟨hP',e⟩];exact trivial
    ·rw[if_neg (fun h=>e h.2),←acp (st m').st t (fun h=>e h.2)]
     exact hT' t
   ·
    have hpl:(listed.setIfInBounds i true).getD p false=true:=getD_set_true hp1
    have hall:∀j x,j<p→R[j]? =some x→gJ E x.op=true→(listed.setIfInBounds i true).getD j false=true:=fun j x hj hx hD=>by
     cases hl:(listed.setIfInBounds i true).getD j false with
     |true=>rfl
     |false=>exact absurd ⟨hpl,hp2,j,x,hj,hx,hD,hl⟩ hP'
    have ahb:∀j x,p<j→R[j]? =some x→gJ E x.op=true→(listed.setIfInBounds i true).getD j false=false:=fun j x hj hx hD=>by
     cases hl:(listed.setIfInBounds i true).getD j false with
     |false=>rfl
     |true=>
      exfalso
      rcases hok.pair j0 j x0 x (by omega) hx0 hx (by simp[pE,hD,hD0]) with hbt|⟨e,_⟩
      ·rcases Xr j hl with e|hl
       ·subst e
        rw[GA j0 hbt] at hu0;cases hu0
       ·rw[Xt j x j0 hx hl hbt] at hu0;cases hu0
      ·omega
    have ams:=hmp hP
    have hsm:(st p).st=(st m').st:=by
     have:=Eh hT (i:=m') (p-m') (by omega) (fun j x h1 h2 h3=>by
      cases sG:gJ E x.op with
      |false=>rfl
      |true=>
       have:=(hD' j x h3 sG (fun e=>by omega)).1 (hall j x (by omega) h3 sG)
       omega)
     rwa [show m'+(p-m')=p from by omega] at this
    obtain⟨po',ahc,htp⟩:=hT p hp2
    rw[hpo] at ahc;cases ahc
    obtain⟨ty,hop⟩:∃ty,po.op=.alloc ty:=by
     cases h:po.op<;>rw[h] at hal<;>first|exact⟨_,rfl⟩|cases hal
    obtain⟨zs,own,Ω,hzs,hs0,hs1,hvp⟩:=K4 htp hop hgn hd
    rw[hsm] at hs0
    have BZ:=hst.trans hst'
    have ahd:=hkp.trans zh
    rw[hs0] at hS' hT' BZ ahd hno'
    obtain⟨bo,bΩ,rfl,hlen,q1,q2,q3⟩:=acj hS' BZ hb' hσ' h0 hno' (hzc po ty zs hpo hop hzs)
    rw[←hs1] at q1 q2 q3
    refine⟨by simpa using hM.size,EY,p+1,by omega,fun j x hx sG _=> ?_,σ',_,hR'.size,hR'.defers,q1,fun t=> ?_,q3,ahd.trans q2,fun h=>absurd h hP'⟩
    ·rcases Nat.lt_trichotomy j p with h|h|h
     ·exact⟨fun _=>by omega,fun _=>hall j x h hx sG⟩
     ·subst h;exact⟨fun _=>by omega,fun _=>hpl⟩
     ·rw[ahb j x h hx sG];exact⟨fun h=>(by cases h),fun h=>by omega⟩
    ·unfold vk
     rw[if_neg (fun h=>hP' h.1)]
     by_cases e:t=d
     ·subst e
      rw[EX (E:=fun i_1=>(listed.setIfInBounds i true).getD i_1 false) hpl hdp R.size hp2 (fun j hj hpj hdj=>by
       obtain⟨x,hx⟩:∃x,R[j]? =some x:=⟨_,Array.getElem?_eq_getElem hj⟩
       have hxd:x.dst=some t:=by simpa [gU,hx] using hdj
       have aco:x.apart R po=false:=by
        cases hap:x.apart R po with
        |false=>rfl
        |true=>exact absurd hd ((Oper.apart_spec hap).2.1 t hxd)
       have hbt:=aiJ j x (by omega) hx aco j0 x0 hj0 hx0 hD0
       cases hl:(listed.setIfInBounds i true).getD j false with
       |false=>rfl
       |true=>
        exfalso
        rcases Xr j hl with e|hl
        ·subst e
         rw[GA j0 hbt.2] at hu0;cases hu0
        ·rw[Xt j x j0 hx hl hbt.2] at hu0;cases hu0),hvp,hv',hs1]
      exact VQ hlen
     ·rw[←acp (st m').st t (fun h=>e (by rw[hdp] at h;exact(Option.some.inj h.2).symm))]
      have h1:=hT' t
      rw[hs0]
      exact h1.mono (gD.refl _ _) q2
  ·have hP':¬pG E R p (listed.setIfInBounds i true):=fun h=>hP (hPP h)
   refine⟨by simpa using hM.size,EY,m',hm',fun j x hx sG _=>hD' j x hx sG (fun _=>hP),σ',β',hR'.size,hR'.defers,hS',fun t=> ?_,hst.trans hst',hkp.trans zh,fun h=>absurd h hP'⟩
   unfold vk
   rw[if_neg (fun h=>hP' h.1),←acp (st m').st t (fun h=>hP h.1)]
   exact hT' t
 have keepD:gJ E o.op=false→∀j x,R[j]? =some x→gJ E x.op=true→(j=p→¬pG E R p listed)→((listed.setIfInBounds i true).getD j false=true↔j<m):=by
  intro hD j x hx sG hjp
  have hji:j≠i:=fun e=>by rw[e,ho] at hx;cases hx;rw[hD] at sG;cases sG
  rw[getD_set_ne false (Ne.symm hji)]
  exact hmD j x hx sG hjp
 have hmP:pG E R p listed→m≤p:=fun h=>(C9 h).1
 have quiet:∀(w':World) (σ':Nat→Nat) (v:Value),gJ E o.op=false→Grow w σ w' σ'→dV w' σ' (st m).st β (vs i) v→Mid P N E R p st vs β0 σ0 w0 (listed.setIfInBounds i true) (a.put o.dst v) w':=by
  intro w' σ' v hD hg hv
  exact fin m _ w' σ' β hm (keepD hD) hmP (fun d hd=>Gz hd) (BA hdn hsz hdf (hS.grow hg) (hR.T.mono hg.near (Keep.refl _ _)) hv) (Step.oH hg) (Keep.refl _ _)
 have hDs:gJ E o.op=true→∀j x,R[j]? =some x→gJ E x.op=true→(j=p→¬pG E R p listed)→(listed.getD j false=true↔j<i):=by
  intro hD j x hx sG hjp
  by_cases e:j=i
  ·subst e;rw[Nc];simp
  ·exact hdone j x hx e hjp (by simp[pE,hD,sG])
 have hsame:gJ E o.op=true→(st m).st=(st i).st:=by
  intro hD
  have hno:∀j x,R[j]? =some x→(i≤j∧j<m∨m≤j∧j<i)→gJ E x.op=false:=by
   intro j x hx hj
   cases sG:gJ E x.op with
   |false=>rfl
   |true=>
    have hjp:j=p→¬pG E R p listed:=fun e hP=>by
     have:=VX hP hD
     have:=hmP hP
     omega
    have h1:=hDs hD j x hx sG hjp
    have h2:=hmD j x hx sG hjp
    rcases hj with hj|hj
    ·have:=h1.1 (h2.2 hj.2);omega
    ·have:=h2.1 (h1.2 hj.2);omega
  rcases Nat.le_total i m with h|h
  ·have:=Eh hT (i:=i) (m-i) (by omega) (fun j x h1 h2 h3=>hno j x h3 (.inl ⟨h1,by omega⟩))
   rwa [show i+(m-i)=m from by omega] at this
  ·have:=Eh hT (i:=m) (i-m) (by omega) (fun j x h1 h2 h3=>hno j x h3 (.inr ⟨h1,by omega⟩))
   rw[show m+(i-m)=i from by omega] at this
   exact this.symm
 have Zx:gJ E o.op=true→∀j x,R[j]? =some x→gJ E x.op=true→(j=p→¬pG E R p listed)→((listed.setIfInBounds i true).getD j false=true↔j<i+1):=by
  intro hD j x hx sG hjp
  by_cases e:j=i
  ·subst e;rw[hset];simp
  ·rw[getD_set_ne false (Ne.symm e),hDs hD j x hx sG hjp];omega
 have hiP:gJ E o.op=true→pG E R p listed→i+1≤p:=fun hD hP=>VX hP hD
 unfold wpOp
 rw[ho]
 simp only
 have hRR:lS N ⟨uz,(st m).st⟩ a w σ β:=hR
 rcases ht with⟨hg,hv,hs'⟩|⟨hg,hD,hv,hs'⟩|⟨hg,hD,hx,hs',_⟩
 ·
  have hw:Region.wanted o (yielded R a.tmps)=false:=by
   rw[←hgd] at hg
   unfold gd at hg
   split at hg
   ·cases hg
   ·rename_i j want hgu
    split at hg
    ·rename_i x hx
     have hy:=BU (s:=⟨uz,(st m).st⟩) hRR hx
     have hne:x≠want:=by
      intro e
      rw[e] at hg
      simp at hg
     simp[Region.wanted,hgu,hy,hne]
    ·rename_i hx
     have hy:=F4 (s:=⟨uz,(st m).st⟩) hRR hx
     simp[Region.wanted,hgu,hy]
    ·cases hg
  rw[if_neg (by rw[hw];simp)]
  have hvu:dV w σ (st m).st β (vs i) undef:=by rw[hv];exact xP
  by_cases hD:gJ E o.op=true
  ·have hsm:=hsame hD
   have hs1:(st (i+1)).st=(st m).st:=by rw[hsm,hs'];cases o.dst<;>rfl
   refine fin (i+1) _ w σ β hlt (Zx hD) (hiP hD) (fun d hd=>Gz hd) (by rw[hs1];exact BA hdn hsz hdf hS hR.T hvu) (by rw[hs1];exact Step.oH (Grow.refl hS.live)) (by rw[hs1];exact Keep.refl _ _)
  ·exact quiet w σ undef (by simpa using hD) (Grow.refl hS.live) hvu
 all_goals
  have hw:Region.wanted o (yielded R a.tmps)=true:=by
   rw[←hgd] at hg
   unfold gd at hg
   split at hg
   ·rename_i hgu;simp[Region.wanted,hgu]
   ·rename_i j want hgu
    split at hg
    ·rename_i x hx
     have hy:=BU (s:=⟨uz,(st m).st⟩) hRR hx
     simp at hg
     simp[Region.wanted,hgu,hy,hg]
    ·cases hg
    ·cases hg
  rw[if_pos hw]
  left
 ·
  rcases hv with⟨c,hc,hcn⟩|⟨hcond,hval⟩
  ·have hcn':=ab7 (tm':=uz) (fun x hx=>hev x (by rw[hc];exact hx)) hcn
   unfold EW at hcn'
   split at hcn'
   ·rename_i x hcx
    split at hcn'
    ·rename_i f caps hex
     have hcall:qb P c ⟨uz,(st m).st⟩ o.dst (fun t=>t=St.put ⟨uz,(st m).st⟩ o.dst (vs i)):=by
      unfold qb
      rw[hcx]
      simp only[hex]
      exact .inl ⟨_,hcn' (st m).st,fun r S' hp=>by rw[hp.1,hp.2]⟩
     refine Oper.wp_mono ?_ (Oper.Zv (KT (Q:=Q) hc hdn hRR hcall))
     rintro a' w' ⟨⟨s'',σ',β',hR',hst',zh,hK⟩,ha'⟩
     subst hK
     rw[mP] at hst' zh
     exact fin m a' w' σ' β' hm (keepD hD) hmP ha' hR' hst' zh
    ·exact hcn'.elim
   ·exact hcn'.elim
  ·have hcv:mQ o.op=false:=by
    cases hc:mQ o.op with
    |false=>rfl
    |true=>
     exfalso
     unfold mQ at hc
     split at hc
     ·rename_i x b c hop
      rw[hop] at hcond
      exact iM hcond
     ·cases hc
   have aeM:∀k,refs (st i).tm o k→∀j x,R[j]? =some x→(i≤j∧j<m∨m≤j∧j<i)→oJ E x.op=false∨bI (st (j+1)).st k=bI (st j).st k:=by
    intro k hk j x hx hj
    cases hs:oJ E x.op with
    |false=>exact .inl rfl
    |true=>
     have sG:gJ E x.op=true:=Zr hs
     have hji:j≠i:=fun e=>by rw[e,ho] at hx;cases hx;rw[hD] at sG;cases sG
     rcases hok.store j i x o hji hx ho hs hD hcv with hb|hb
     ·have h1:=hbit j x hx hji hb
      have h2:=hmD j x hx sG (fun e=>by
       subst e
       have:=(zk (E:=E) (hok.pend x hx).1).2.1
       rw[hs] at this;cases this)
      rcases hj with hj|hj
      ·have:=h1.1 (h2.2 hj.2);omega
      ·have:=h2.1 (h1.2 hj.2);omega
     ·exact .inr (hb k hk)
   have e1:=afi (P:=P) (S:=(st i).st) (tm:=(st i).tm) (tm':=uz) (op:=o.op) hev
   rw[e1] at hcond hval
   have e2:=ab8 (P:=P) (l:=vC (st i).st) (S:=(st i).st) (S':=(st m).st) (tm:=uz) (op:=o.op) hcond (by
    intro x hx k hk ob Zn hbr
    have hrf:refs (st i).tm o k:=⟨x,hx,by rw[hev x hx];exact hk⟩
    rcases Nat.le_total i m with h|h
    ·have hds:=Xp hT (i:=i) (k:=k) (m-i) (by omega) (fun j x h1 h2 h3=>aeM k hrf j x h3 (.inl ⟨h1,by omega⟩))
     rw[show i+(m-i)=m from by omega] at hds
     rcases hds ob Zn with h'|⟨⟨z,es,e⟩,_⟩
     ·exact h'
     ·rcases e with e|⟨_,e⟩<;>rw[e] at hbr<;>exact hbr.elim
    ·have hds:=Xp hT (i:=m) (k:=k) (i-m) (by omega) (fun j x h1 h2 h3=>aeM k hrf j x h3 (.inr ⟨h1,by omega⟩))
     rw[show m+(i-m)=i from by omega] at hds
     have hrx:=l8 (a:=a) hR.T x
     have hin:∃o',bI (st m).st k=some o':=by
      rcases hk with⟨off,e⟩|⟨i',off,e⟩|e|e|⟨r',p',e⟩|⟨r',p',z',i',off,e⟩<;>rw[show ev (⟨uz,(st m).st⟩:St).tm x=ev uz x from rfl,e] at hrx<;>obtain⟨⟨o',ho',_⟩,_⟩:=hrx<;>exact⟨o',ho'⟩
     obtain⟨o',ho'⟩:=hin
     rcases hds o' ho' with h'|⟨_,o2,z,es,h',e⟩
     ·rw[Zn] at h';cases h';exact ho'
     ·rw[Zn] at h';cases h'
      rcases e with e|⟨_,e⟩<;>rw[e] at hbr<;>exact hbr.elim)
   have ahf:(tQ P (vC (st i).st) (st m).st uz o.op).1:=by rw[e2];exact hcond
   have hval':vs i=(tQ P (vC (st i).st) (st m).st uz o.op).2:=by rw[e2];exact hval
   obtain⟨v,w',σ',hrun,hgr,F3⟩:=Jg (P:=P) _ o hS hR.T ahf
   unfold Oper.wp
   rw[hrun]
   exact quiet w' σ' v hD hgr (by rw[hval'];exact F3)
 ·have hsm:=hsame hD
  have hx':eF P o ⟨(st i).tm,(st i).st⟩ (fun t=>t=St.put ⟨(st i).tm,(st (i+1)).st⟩ o.dst (vs i)):=by
   rw[hs'] at hx
   exact hx
  have hx2:=ab6 hD hev hx'
  rw[←hsm] at hx2
  refine Oper.wp_mono ?_ (Oper.Zv (ES (Q:=Q) hdn hRR hx2))
  rintro a' w' ⟨⟨s'',σ',β',hR',hst',zh,hK⟩,ha'⟩
  subst hK
  rw[mP] at hst' zh
  exact fin (i+1) a' w' σ' β' hlt (Zx hD) (hiP hD) ha' hR' hst' zh
theorem afo{st:Nat→St}{vs:Nat→V}{β0:Hs}{σ0:Nat→Nat}{w0:World}{Q:Exit→Act→World→Prop}{p:Nat}(hok:Rk E R N st p)
 (hT:∀i,i<R.size→∃o,R[i]? =some o∧qH P E R o (st i) (vs i) (st (i+1))) (hQ:∀listed a w,Mid P N E R p st vs β0 σ0 w0 listed a w→(∀i,i<R.size→listed.getD i false=true)→Q .normal a w):
 ∀(fuel:Nat) (listed:Array Bool) (a:Act) (w:World),(List.range R.size).countP (fun i=> !listed.getD i false)≤fuel→Mid P N E R p st vs β0 σ0 w0 listed a w→wpAny P .any R Q fuel listed a w:=by
 have hend:∀listed a w,Mid P N E R p st vs β0 σ0 w0 listed a w→Region.ready .any R listed=[]→Q .normal a w:=by
  intro listed a w hM hr
  refine hQ listed a w hM ?_
  intro i
  induction i using Nat.strongRecOn with
  |_ i ih=>
   intro hi
   cases hE:listed.getD i false with
   |true=>rfl
   |false=>
    exfalso
    have ho:R[i]? =some R[i]:=Array.getElem?_eq_getElem hi
    have:i∈Region.ready .any R listed:=by
     rw[mem_ready]
     have hs:i<listed.size:=by rw[hM.size];exact hi
     refine⟨by simp[hs] at hE ⊢;exact hE,_,ho,fun e he hb=> ?_⟩
     have hon:=hok.edge i _ e ho he hb
     exact ih e.on hon (by omega)
    rw[hr] at this
    simp at this
 intro fuel
 induction fuel with
 |zero=>
  intro listed a w hc hM
  have hnone:Region.ready .any R listed=[]:=by
   cases hr:Region.ready .any R listed with
   |nil=>rfl
   |cons i l=>
    exfalso
    have hi:i∈Region.ready .any R listed:=by rw[hr];simp
    obtain⟨hun,o,ho,_⟩:=mem_ready.1 hi
    have hlt:=(Array.getElem?_eq_some_iff.1 ho).1
    have hs:i<listed.size:=by rw[hM.size];exact hlt
    have hz:(List.range R.size).countP (fun i=> !listed.getD i false)=0:=by omega
    rw[List.countP_eq_zero] at hz
    have:=hz i (List.mem_range.2 hlt)
    simp[hs] at hun this
    rw[hun] at this;cases this
  exact⟨hnone,hend listed a w hM hnone⟩
 |succ fuel ih=>
  intro listed a w hc hM
  refine⟨hend listed a w hM,fun i hi=> ?_⟩
  refine wpOp_mono (fun a' w' hM'=>ih _ a' w' ?_ hM') (mid_step hok hT hM hi)
  obtain⟨hun,o,ho,_⟩:=mem_ready.1 hi
  have hlt:=(Array.getElem?_eq_some_iff.1 ho).1
  have hs:i<listed.size:=by rw[hM.size];exact hlt
  have:=cnt_lt (fun j=> !listed.getD j false) (fun j=> !(listed.setIfInBounds i true).getD j false) (List.range R.size) i (fun x hx=>by
   by_cases e:x=i
   ·subst e;simp[hs] at hx
   ·rw[getD_set_ne false (Ne.symm e)] at hx;exact hx) (List.mem_range.2 hlt) (by simp[hs] at hun ⊢;exact hun) (by simp[hs])
  omega
theorem JR{id:Nat}{Q:Exit→St→Prop}{s:St}(kQ:P.follows .mixedOrders=true){st:Nat→St}{vs:Nat→V}(h0:st 0=s)(hK:Q .normal (st R.size))
 (hT':∀i,i<R.size→∃o,R[i]? =some o∧qH P E R o (st i) (vs i) (st (i+1))) {p:Nat} (hok:Rk E R N st p):AW P N (.region id R true) Q s:=by
 intro a w σ β hR
 refine wp_region_any kQ ?_
 have hgd:Grow w σ {w with drawn:=w.drawn+1} σ:=⟨Nat.le_refl _,rfl,rfl,fun _ _=>⟨rfl,rfl⟩,hR.S.live⟩
 refine afo (N:=N) (β0:=β) (σ0:=σ) (w0:=w) hok hT' (fun listed a' w' hM hall=> ?_) R.size _ a _ ?_ ?_
 ·obtain⟨m,hm,hmD,σ',β',hsz,hdf,hS,Ro,hst,hkp,_⟩:=hM.rep
  have hnP:¬pG E R p listed:=by
   rintro⟨_,_,j,x,hj,hx,_,hl⟩
   rw[hall j (Array.getElem?_eq_some_iff.1 hx).1] at hl;cases hl
  have hsm:(st R.size).st=(st m).st:=by
   have:=Eh hT' (i:=m) (R.size-m) (by omega) (fun j x h1 h2 h3=>by
    cases sG:gJ E x.op with
    |false=>rfl
    |true=>have:=(hmD j x h3 sG (fun _=>hnP)).1 (hall j (Array.getElem?_eq_some_iff.1 h3).1);omega)
   rwa [show m+(R.size-m)=R.size from by omega] at this
  rw[h0] at hst hkp
  refine⟨st R.size,σ',β',⟨hsz,hdf,by rw[hsm];exact hS,fun t=> ?_⟩,by rw[hsm];exact hst,by rw[hsm];exact hkp.tail,hK⟩
  rw[Af hT' t R.size (Nat.le_refl _),hsm]
  have:=Ro t
  unfold vk at this
  rw[if_neg (fun h=>hnP h.1)] at this
  rw[zP (E':=fun _=>true) R.size (fun j hj _=>hall j hj)] at this
  exact this
 ·calc (List.range R.size).countP _≤(List.range R.size).length:=List.countP_le_length
   _=R.size:=List.length_range
 ·refine⟨by simp,fun i o e ho hE _ _=> ?_,0,Nat.zero_le _,fun i o ho _=> ?_,σ,β,hR.size,hR.defers,by rw[h0];exact hR.S.grow hgd,fun t=> ?_,by rw[h0];exact Step.oH hgd,Keep.refl _ _,fun h=>by have h1:=h.1;rw[getD_replicate_false] at h1;cases h1⟩
  ·rw[getD_replicate_false] at hE;cases hE
  ·rw[getD_replicate_false];simp
  ·have:mG R vs (fun i=>(Array.replicate R.size false).getD i false) (st 0).tm R.size t=look (st 0).tm t:=by
    have:=DK (R:=R) (vs:=vs) (E:=fun i=>(Array.replicate R.size false).getD i false) (base:=(st 0).tm) (t:=t) (i:=0) R.size (fun j _ _=>by rw[getD_replicate_false];simp)
    rw[this,Nat.min_zero];rfl
   unfold vk
   rw[if_neg (fun h=>by have h1:=h.1.1;rw[getD_replicate_false] at h1;cases h1),this,h0]
   exact(hR.T t).mono hgd.near (Keep.refl _ _)
theorem afp{id:Nat}{Q:Exit→St→Prop}{s:St}(kQ:P.follows .mixedOrders=true)(hok:Ad E R N=true)(h:uZ P E R R.toList s (Q .normal)):AW P N (.region id R true) Q s:=by
 obtain⟨st,vs,h0,hK,hT⟩:=JQ R.size 0 (by omega) s h
 exact JR kQ h0 hK (fun i hi=>hT i (Nat.zero_le i) hi) (ag8 hok)
theorem acr{id p:Nat}{Q:Exit→St→Prop}{s:St}(kQ:P.follows .mixedOrders=true)(hok:Ef E R N p=true)(h:uZ P E R R.toList s (Q .normal)):AW P N (.region id R true) Q s:=by
 obtain⟨st,vs,h0,hK,hT⟩:=JQ R.size 0 (by omega) s h
 exact JR kQ h0 hK (fun i hi=>hT i (Nat.zero_le i) hi) (afn hok)
theorem Xu{id:Nat}{Q:Exit→St→Prop}{s:St}(kQ:P.follows .mixedOrders=true)(hok:Nb R N=true)(h:uZ P (K3 R N) R R.toList s (Q .normal)):AW P N (.region id R true) Q s:=by
 unfold Nb at hok
 rw[Bool.or_eq_true] at hok
 rcases hok with hok|hok
 ·exact afp kQ hok h
 ·split at hok
  ·exact acr kQ hok h
  ·cases hok
theorem Xv{v w:V}(h:Xo v w=true){k k':Key}(hv:(∃off,v=.c (.ptr k' off))∨(∃i off,v=.c (.ou k' i off))∨∃r p z i off,v=.c (.xq k' r p z i off))
 (hw:Xn w k):k'≠k:=by
 rintro rfl
 rcases hv with⟨_,rfl⟩|⟨_,_,rfl⟩|⟨_,_,_,_,_,rfl⟩<;>rcases hw with⟨_,rfl⟩|⟨_,_,rfl⟩|rfl|rfl|⟨_,_,rfl⟩|⟨_,_,_,_,_,rfl⟩<;>simp[Xo] at h
theorem Ut{o:Oper}{t:TypeId}{a y:Operand}{s s':St}{v:V}(hop:o.op=.store t a y)(h:qH P E R o s v s'){k:Key}
 (hk:∀k',((∃off,ev s.tm a=.c (.ptr k' off))∨(∃i off,ev s.tm a=.c (.ou k' i off))∨∃r p z i off,ev s.tm a=.c (.xq k' r p z i off))→k'≠k):bI s'.st k=bI s.st k:=by
 rcases h with⟨_,_,h⟩|⟨_,_,_,h⟩|⟨_,_,h,_,_⟩
 ·rw[h];cases o.dst<;>rfl
 ·rw[h];cases o.dst<;>rfl
 ·obtain⟨dst,op,ty,pos,after,guard⟩:=o
  subst hop
  simp only[eF,vE] at h
  split at h
  ·rename_i k' off he
   split at h
   ·obtain⟨_,_,_,h4⟩:=h
    rw[←h4,mP]
    exact fZ _ _ _ _ (hk k' (.inl ⟨_,he⟩))
   ·exact h.elim
  ·rename_i k' i off he
   split at h
   ·obtain⟨_,_,_,_,h5⟩:=h
    rw[←h5,mP]
    exact fZ _ _ _ _ (hk k' (.inr (.inl ⟨_,_,he⟩)))
   ·exact h.elim
  ·rename_i k' r p z i off he
   split at h
   ·split at h
    ·split at h
     ·obtain⟨_,_,_,_,_,h6⟩:=h
      rw[←h6,mP]
      exact fZ _ _ _ _ (hk k' (.inr (.inr ⟨_,_,_,_,_,he⟩)))
     ·exact h.elim
    ·exact h.elim
   ·exact h.elim
  ·exact h.elim
theorem K5{st:Nat→St}{vs:Nat→V}(hT:∀i,i<R.size→∃o,R[i]? =some o∧qH P E R o (st i) (vs i) (st (i+1))){i:Nat}(hi:i≤R.size){a:Operand}(h:settled R i a=true):
 ev (st R.size).tm a=ev (st i).tm a:=by
 cases a with
 |tmp t=>
  show look _ t=look _ t
  have key:∀n,i+n≤R.size→look (st (i+n)).tm t=look (st i).tm t:=by
   intro n
   induction n with
   |zero=>intro _;rfl
   |succ n ih=>
    intro hn
    rw[Af hT t (i+(n+1)) hn,show i+(n+1)=i+n+1 from rfl,mG,if_neg,←Af hT t (i+n) (by omega),ih (by omega)]
    rintro⟨_,hd⟩
    have:=List.all_eq_true.1 h (i+n) (List.mem_range.2 (by omega))
    rw[hd] at this
    simp at this
    omega
  have:=key (R.size-i) (by omega)
  rwa [show i+(R.size-i)=R.size from by omega] at this
 |_=>rfl
theorem Zy{st:Nat→St}{vs:Nat→V}{p:Nat}(hed:∀(i:Nat) (o:Oper),R[i]? =some o→(o.after.toList.all (fun e=> !Region.binds .any e||decide (e.on<i))&&(match o.dst with|some d=>decide (d<N)|none=>true))=true)
 (C9:∀o,R[p]? =some o→zi o.op=true∧o.guard=none∧(∃d,o.dst=some d)∧∀j y,j≠p→R[j]? =some y→y.apart R o=false→∀i x,i<p→R[i]? =some x→gJ E x.op=true→i<j∧((masks R.toList []).getD j 0).testBit i=true)
 (hp:∀(i j:Nat) (x y:Oper),i<j→R[i]? =some x→R[j]? =some y→((masks R.toList []).getD j 0).testBit i=true∨(x.apart R y=true∧(j=p∨((gJ E x.op&&gJ E y.op)=false∧(oJ E x.op=true→wS R i x j y=true)∧(oJ E y.op=true→wS R j y i x=true)))))
 (hT:∀i,i<R.size→∃o,R[i]? =some o∧qH P E R o (st i) (vs i) (st (i+1))) (hl:Qu E R (st R.size).tm=true):Rk E R N st p:=by
 refine⟨?_,?_,?_,?_,C9⟩
 ·intro i o e ho he hb
  have h2:=hed i o ho
  simp only[Bool.and_eq_true] at h2
  have h3:=List.all_eq_true.1 h2.1 e (by simpa using he)
  simpa [hb] using h3
 ·intro i o ho d hd
  have h2:=hed i o ho
  simp only[Bool.and_eq_true,hd] at h2
  simpa using h2.2
 ·intro i j x y hij hx hy hc
  rcases hp i j x y hij hx hy with h|⟨h1,h⟩
  ·exact .inl h
  ·unfold pE at hc
   rw[h1] at hc
   simp only[Bool.not_true,Bool.false_or] at hc
   rcases h with h|⟨h,_⟩
   ·rw[Bool.and_eq_true] at hc
    exact .inr ⟨h,hc.1,h1⟩
   ·rw[hc] at h;cases h
 ·intro i j x o hij hx ho hs hD hc
  have hjp:j≠p:=fun e=>by
   subst e
   have:=(zk (E:=E) (C9 o ho).1).1
   rw[hD] at this;cases this
  have VX:i≠p:=fun e=>by
   subst e
   have:=(zk (E:=E) (C9 x hx).1).2.1
   rw[hs] at this;cases this
  cases hb:zO R i j with
  |true=>exact .inl rfl
  |false=>
   refine .inr ?_
   rintro k ⟨z,hz,hk⟩
   have hi:i<R.size:=(Array.getElem?_eq_some_iff.1 hx).1
   have hj:j<R.size:=(Array.getElem?_eq_some_iff.1 ho).1
   have hlo:wS R i x j o=true:=by
    unfold zO at hb
    by_cases e:i<j
    ·rw[if_pos e] at hb
     rcases hp i j x o e hx ho with h|⟨_,h|⟨_,h,_⟩⟩
     ·rw[hb] at h;cases h
     ·exact absurd h hjp
     ·exact h hs
    ·rw[if_neg e] at hb
     rcases hp j i o x (by omega) ho hx with h|⟨_,h|⟨_,_,h⟩⟩
     ·rw[hb] at h;cases h
     ·exact absurd h VX
     ·exact h hs
   unfold wS at hlo
   rw[hc,Bool.false_or] at hlo
   split at hlo
   ·rename_i t a y hop
    rw[Bool.and_eq_true] at hlo
    have hz':z∈o.op.operands.toList:=by simpa using hz
    have hsz:=List.all_eq_true.1 hlo.2 z hz'
    have h1:=List.all_eq_true.1 hl i (List.mem_range.2 hi)
    rw[hx] at h1
    simp only[hs,Bool.not_true,Bool.false_or,hop] at h1
    have h2:=List.all_eq_true.1 h1 j (List.mem_range.2 hj)
    rw[ho] at h2
    simp only[hb,hD,hc,Bool.false_or] at h2
    have h3:=List.all_eq_true.1 h2 z hz'
    obtain⟨x',hx',ht⟩:=hT i hi
    rw[hx] at hx';cases hx'
    refine Ut hop ht fun k' hk'=> ?_
    rw[K5 hT (by omega) hlo.1,K5 hT (by omega) hsz] at h3
    exact Xv h3 hk' hk
   ·cases hlo
theorem Xw{f:Nat→Nat→Oper→Oper→Bool}(h:((List.range R.size).all fun j=>
 (match R[j]? with
  |some o=>o.after.toList.all (fun e=> !Region.binds .any e||decide (e.on<j))&&(match o.dst with|some d=>decide (d<N)|none=>true)
  |none=>true)&&
 (List.range j).all fun i=>
   match R[i]?,R[j]? with
   |some x,some y=>((masks R.toList []).getD j 0).testBit i|| !(f i j x y)
   |_,_=>true)=true):
 (∀(i:Nat) (o:Oper),R[i]? =some o→(o.after.toList.all (fun e=> !Region.binds .any e||decide (e.on<i))&&(match o.dst with|some d=>decide (d<N)|none=>true))=true)∧
 ∀(i j:Nat) (x y:Oper),i<j→R[i]? =some x→R[j]? =some y→((masks R.toList []).getD j 0).testBit i=true∨f i j x y=false:=by
 refine⟨fun i o ho=> ?_,fun i j x y hij hx hy=> ?_⟩
 ·have hj:i<R.size:=(Array.getElem?_eq_some_iff.1 ho).1
  have h1:=List.all_eq_true.1 h i (List.mem_range.2 hj)
  rw[Bool.and_eq_true,ho] at h1
  exact h1.1
 ·have hj:j<R.size:=(Array.getElem?_eq_some_iff.1 hy).1
  have h1:=List.all_eq_true.1 h j (List.mem_range.2 hj)
  rw[Bool.and_eq_true] at h1
  have h2:=List.all_eq_true.1 h1.2 i (List.mem_range.2 hij)
  rw[hx,hy] at h2
  simp only[Bool.or_eq_true,Bool.not_eq_true'] at h2
  exact h2
theorem acs{st:Nat→St}{vs:Nat→V}(hok:IC E R N=true)(hT:∀i,i<R.size→∃o,R[i]? =some o∧qH P E R o (st i) (vs i) (st (i+1)))(hl:Qu E R (st R.size).tm=true):Rk E R N st R.size:=by
 obtain⟨h1,h2⟩:=Xw (f:=fun i j x y=>pE E R x y||(oJ E x.op&& !(wS R i x j y))||(oJ E y.op&& !(wS R j y i x))) hok
 refine Zy h1 (fun o ho=>by rw[Array.getElem?_eq_none (Nat.le_refl _)] at ho;cases ho) (fun i j x y hij hx hy=>(h2 i j x y hij hx hy).imp id fun h=> ?_) hT hl
 simp only[pE,Bool.or_eq_false_iff,Bool.not_eq_false',Bool.and_eq_false_imp] at h
 obtain⟨⟨⟨q1,q2⟩,q3⟩,q4⟩:=h
 refine⟨q1,.inr ⟨?_,q3,q4⟩⟩
 cases hx:gJ E x.op with
 |false=>rfl
 |true=>rw[q2 hx];rfl
theorem ahg{id:Nat}{Q:Exit→St→Prop}{s:St}(kQ:P.follows .mixedOrders=true)(hok:IC E R N=true)(h:uZ P E R R.toList s (fun s'=>Qu E R s'.tm=true∧Q .normal s')):AW P N (.region id R true) Q s:=by
 obtain⟨st,vs,h0,hK,hT⟩:=JQ R.size 0 (by omega) s h
 have hT':=fun i hi=>hT i (Nat.zero_le i) hi
 exact JR kQ h0 hK.2 hT' (acs hok hT' hK.1)
end
end Go.Ab
namespace Go.Ab
section
variable {P:Program} {w w':World} {σ σ':Nat→Nat} {S S':Store} {β β':Hs} {N:Nat} {s:St} {a:Act}
theorem oK{c:Code}{Q:Exit→St→Prop}{s s':St}(h:AW P N c Q s')
 (hg:∀(a:Act) (w:World) (σ:Nat→Nat) (β:Hs),lS N s a w σ β→∃σ' β',lS N s' a w σ' β'∧Step s.st β σ w s'.st β' σ' w∧Keep (gY s.st) (gY β) (gY s'.st) (gY β')):AW P N c Q s:=by
 intro a w σ β hR
 obtain⟨σ',β',hR',hst,hk⟩:=hg a w σ β hR
 refine wp_mono (h a w σ' β' hR') ?_
 rintro e a' w' ⟨s'',BK,β'',k1,k2,k3,k4⟩
 exact⟨s'',BK,β'',k1,hst.trans k2,hk.trans k3,k4⟩
def iN(N:Nat)(s s':St):Prop:=∀(a:Act) (w:World) (σ:Nat→Nat) (β:Hs),lS N s a w σ β→∃σ' β',lS N s' a w σ' β'∧Step s.st β σ w s'.st β' σ' w∧Keep (gY s.st) (gY β) (gY s'.st) (gY β')
theorem iN.refl(N:Nat)(s:St):iN N s s:=fun a w σ β hR=>⟨σ,β,hR,Step.oH (Grow.refl hR.S.live),Keep.refl _ _⟩
theorem iN.trans{s s' s'':St}(h:iN N s s')(k:iN N s' s''):iN N s s'':=fun a w σ β hR=>by
 obtain⟨σ1,β1,r1,st1,k1⟩:=h a w σ β hR
 obtain⟨σ2,β2,r2,st2,k2⟩:=k a w σ1 β1 r1
 exact⟨σ2,β2,r2,st1.trans st2,k1.trans k2⟩
theorem JU{tm tm':List (Nat×V)}(hl:∀t,look tm' t=look tm t∨look tm' t=.any):iN N ⟨tm,S⟩ ⟨tm',S⟩:=
 fun a w σ β hR=>⟨σ,β,⟨hR.size,hR.defers,hR.S,fun t=>by
  rcases hl t with e|e
  ·show dV w σ S β (look tm' t) _;rw[e];exact hR.T t
  ·show dV w σ S β (look tm' t) _;rw[e];trivial⟩,Step.oH (Grow.refl hR.S.live),Keep.refl _ _⟩
theorem aiL{c:Code}{Q:Exit→St→Prop}{tm tm':List (Nat×V)}(h:AW P N c Q ⟨tm',S⟩)(hl:∀t,look tm' t=look tm t∨look tm' t=.any):AW P N c Q ⟨tm,S⟩:=
 oK h fun a w σ β hR=>⟨σ,β,⟨hR.size,hR.defers,hR.S,fun t=>by
  rcases hl t with e|e
  ·show dV w σ S β (look tm' t) _;rw[e];exact hR.T t
  ·show dV w σ S β (look tm' t) _;rw[e];trivial⟩,Step.oH (Grow.refl hR.S.live),Keep.refl _ _⟩
def C.sH:C→C
 | .bS _ es=>.d (.sl es)
 | .bO es=>.d (.sl es)
 |c=>c
def V.sH:V→V
 | .c x=>.c x.sH
 | .agg cs=>.agg (cs.map C.sH)
 |v=>v
theorem Rp{c:C}{v:Value}(h:jf w σ S β c v):jf w σ S β c.sH v:=by
 cases c with
 |bS k es=>exact h.1
 |bO es=>exact h.1
 |_=>exact h
theorem Rq{x:V}{v:Value}(h:dV w σ S β x v):dV w σ S β x.sH v:=by
 cases x with
 |c x=>exact⟨Rp h.1,h.2⟩
 |agg cs=>
  obtain⟨ar,ha,hl,hc⟩:=h
  refine⟨ar,ha,by simpa using hl,fun j x hx=> ?_⟩
  rw[List.getElem?_map] at hx
  cases hcj:cs[j]? with
  |none=>rw[hcj] at hx;cases hx
  |some y=>
   rw[hcj] at hx;cases hx
   obtain⟨v,hv,hr,ho⟩:=hc j y hcj
   exact⟨v,hv,Rp hr,ho⟩
 |_=>exact h
theorem cB.weaken{f:FuncId}{args args':List V}{post:V→Store→Prop}(h:cB P f args' S post)(hl:args.length=args'.length)
 (hw:∀(j:Nat) (x y:V),args[j]? =some x→args'[j]? =some y→∀w σ β v,dV w σ S β x v→dV w σ S β y v):cB P f args S post:=by
 refine⟨h.1,fun w σ β vs hS hv=>h.2 w σ β vs hS ⟨by rw[←hl];exact hv.1,fun j y hy=> ?_⟩⟩
 have hj:=(List.getElem?_eq_some_iff.1 hy).1
 have hx:args[j]? =some (args[j]'(by omega)):=List.getElem?_eq_getElem (by omega)
 obtain⟨v,h1,h2⟩:=hv.2 j _ hx
 exact⟨v,h1,hw j _ y hx hy w σ β v h2⟩
theorem cB.sH{f:FuncId}{args:List V}{post:V→Store→Prop}(h:cB P f (args.map V.sH) S post):cB P f args S post:=
 h.weaken (by simp) fun j x y hx hy w σ β v hr=>by
  rw[List.getElem?_map,hx] at hy
  cases hy
  exact Rq hr
theorem cB.mono{f:FuncId}{args:List V}{post post':V→Store→Prop}(h:cB P f args S post)(hp:∀r S',post r S'→post' r S'):cB P f args S post':=
 ⟨h.1,fun w σ β vs hS hv=>(h.2 w σ β vs hS hv).mono fun e w' ⟨v,r,S',σ',β',h1,h2,h3,h4,h5,h6⟩=>⟨v,r,S',σ',β',h1,h2,h3,h4,h5,hp _ _ h6⟩⟩
theorem EZ{f:FuncId}{args:List V}{s:St}{dst:Option Nat}{K:St→Prop}{r:V}(h:aI P f (args.map V.sH) r)(hK:K (St.put s dst r)):zM P f args s dst K:=
 .inl ⟨_,(h s.st).sH,fun r' S' hp=>by rw[hp.1,hp.2];exact hK⟩
theorem mR{c:Code}{Q:Exit→St→Prop}{tm:List (Nat×V)}{own:List Obj}{Ω:Store}(t bE:Nat)(es:List (List D))(hv:look tm t=.c (.bO es))(hes:∀e∈es,e.length=bE)
 (h:AW P N c Q ⟨(t,.c (.bS (0,own.length) es))::tm,(own++[.tok bE es])::Ω⟩):AW P N c Q ⟨tm,own::Ω⟩:=by
 refine oK h fun a w σ β hR=> ?_
 obtain⟨bo,bΩ,rfl,hlen⟩:=frames hR
 have ht:=hR.T t
 rw[hv] at ht
 obtain⟨⟨hd,ad,n,hval⟩,hone⟩:=ht
 have hn:n=es.length:=by rw[hval] at hd;cases hd<;>rfl
 have hg:Grow w σ w σ:=Grow.refl hR.S.live
 obtain⟨hS',hk,hst⟩:=hR.S.push (o:=.tok bE es) (h:=a.tmps.getD t undef) hg hlen ⟨hd,hes,ad,n,by rw[hval,hn],by omega,.inl hn⟩ (fun b hb=>by
  rw[hval,hn] at hb
  cases ad<;>simp[owns,blk] at hb)
 refine⟨σ,_,⟨hR.size,hR.defers,hS',fun u=> ?_⟩,hst,Keep.refl _ _⟩
 show dV w σ _ _ (if t=u then _ else look tm u) _
 by_cases e:t=u
 ·subst e
  rw[if_pos rfl]
  refine⟨⟨hd,_,dH _ _ _,fun a b e=> ?_⟩,hone⟩
  obtain⟨_,rfl⟩:=oI (lab:=none) e
  exact⟨Nat.le_refl _,fun _=>by rw[←hlen,dH]⟩
 ·rw[if_neg e]
  exact(hR.T u).mono (gD.refl _ _) hk
theorem l6{c:Code}{Q:Exit→St→Prop}{tm:List (Nat×V)}{own:List Obj}{Ω:Store}(n t bE:Nat)(es:List (List D))(hv:look tm t=.c (.kW n es)∨(look tm t=.c (.bO es)∧es=[]))(hes:∀e∈es,e.length=bE)
 (h:AW P N c Q ⟨(t,.c (.bS (0,own.length) es))::tm,(own++[.fF n bE es])::Ω⟩):AW P N c Q ⟨tm,own::Ω⟩:=by
 refine oK h fun a w σ β hR=> ?_
 obtain⟨bo,bΩ,rfl,hlen⟩:=frames hR
 have ht:=hR.T t
 have hl:∃ad,a.tmps.getD t undef=.slice ad es.length es.length∧d9 w σ (.ol n es) (a.tmps.getD t undef):=by
  rcases hv with hv|⟨hv,rfl⟩
  ·rw[hv] at ht
   obtain⟨⟨hd,ad,m,hval⟩,_⟩:=ht
   have hn:m=es.length:=by
    have:=sP hd
    rw[hval] at this
    cases this<;>rfl
   exact⟨ad,by rw[hval,hn],hd⟩
  ·rw[hv] at ht
   obtain⟨⟨hd,ad,m,hval⟩,_⟩:=ht
   have hn:m=0:=by rw[hval] at hd;cases hd<;>rfl
   subst hn
   exact⟨ad,hval,by rw[hval];exact .vw _ _ _⟩
 obtain⟨ad,hval,hol⟩:=hl
 have hd:=sP hol
 have hg:Grow w σ w σ:=Grow.refl hR.S.live
 obtain⟨hS',hk,hst⟩:=hR.S.push (o:=.fF n bE es) (h:=a.tmps.getD t undef) hg hlen ⟨hd,hes,ad,es.length,hval,Nat.le_refl _,.inl ⟨rfl,hol⟩⟩ (fun b hb=>by
  rw[hval] at hb
  cases ad<;>simp[owns,blk] at hb)
 refine⟨σ,_,⟨hR.size,hR.defers,hS',fun u=> ?_⟩,hst,Keep.refl _ _⟩
 show dV w σ _ _ (if t=u then _ else look tm u) _
 by_cases e:t=u
 ·subst e
  rw[if_pos rfl]
  refine⟨⟨hd,_,dH _ _ _,fun a b e=> ?_⟩,by rw[hval];rfl⟩
  obtain⟨_,rfl⟩:=oI (lab:=some n) e
  exact⟨Nat.le_refl _,fun _=>by rw[←hlen,dH]⟩
 ·rw[if_neg e]
  exact(hR.T u).mono (gD.refl _ _) hk
theorem Nf{c:Code}{Q:Exit→St→Prop}{tm:List (Nat×V)}{Ω:Store}(n:Nat)(h:AW P N c Q ⟨tm,[.seed n]::Ω⟩):AW P N c Q ⟨tm,[]::Ω⟩:=by
 refine oK h fun a w σ β hR=> ?_
 obtain⟨bo,bΩ,rfl,hlen⟩:=frames hR
 obtain⟨hS',hk,hst⟩:=hR.S.push (o:=.seed n) (h:=undef) (Grow.refl hR.S.live) hlen trivial (fun b hb=>by cases hb)
 exact⟨σ,_,⟨hR.size,hR.defers,hS',fun u=>(hR.T u).mono (gD.refl _ _) hk⟩,hst,Keep.refl _ _⟩
theorem Ca{tm:List (Nat×V)}{own:List Obj}{Ω:Store}{m:Nat}(n:Nat):iN N ⟨tm,(.seed m::own)::Ω⟩ ⟨tm,(.seed n::own)::Ω⟩:=by
 intro a w σ β hR
 obtain⟨bo,bΩ,rfl,hlen⟩:=frames hR
 have h0:bI ((Obj.seed m::own)::Ω) (0,0)=some (.seed m):=rfl
 obtain⟨h,hh,_⟩:=hR.S.obj (0,0) _ h0
 obtain⟨hS',hk,hst⟩:=hR.S.set (o':=.seed n) (h':=h) h0 hh (Nat.le_refl _) rfl rfl (gD.refl _ _) hR.S.live (fun _ _ _=>⟨rfl,rfl⟩) (.inr ⟨n,rfl⟩) trivial (fun b hb=>by cases hb)
 have e:bQ (bo::bΩ) (0,0) h=bo::bΩ:=Om h _ _ _ hh
 rw[e] at hS' hk hst
 exact⟨σ,_,⟨hR.size,hR.defers,hS',fun u=>(hR.T u).mono (gD.refl _ _) hk⟩,hst,Keep.refl _ _⟩
theorem qO{c:Code}{Q:Exit→St→Prop}{tm:List (Nat×V)}{own:List Obj}{Ω:Store}{m:Nat}(n:Nat)(h:AW P N c Q ⟨tm,(.seed n::own)::Ω⟩):AW P N c Q ⟨tm,(.seed m::own)::Ω⟩:=oK h (Ca n)
def nC(n:Nat)(k:Key):Bool:=decide (0<k.1)||decide (k.2<n)
def C.refs(n:Nat):C→Bool
 | .bS k _=>nC n k
 | .ptr k _=>nC n k
 | .ou k _ _=>nC n k
 | .og k=>nC n k
 | .mp k=>nC n k
 | .fn _ caps=>caps.all fun x=>nC n x.1
 | .xp k _ _=>nC n k
 | .xq k _ _ _ _ _=>nC n k
 |_=>true
def V.refs(n:Nat):V→Bool
 | .c x=>x.refs n
 | .agg cs=>cs.all (C.refs n)
 | .dY xs=>xs.all fun y=>y.2.all (C.refs n)
 | .any=>true
def Obj.refs(n:Nat):Obj→Bool
 | .box cs=>cs.all (C.refs n)
 |_=>true
theorem jT{α:Type}{own:List α}{Ω:List (List α)}{n:Nat}{k:Key}(h:nC n k=true):bI (own.take n::Ω) k=bI (own::Ω) k:=by
 obtain⟨l,j⟩:=k
 cases l with
 |zero=>
  simp[nC] at h
  rw[cO,cO,List.getElem?_take_of_lt h]
 |succ l=>rw[dD,dD]
theorem oL{α:Type}{own:List α}{Ω:List (List α)}{n:Nat}{k:Key}{o:α}(h:bI (own.take n::Ω) k=some o):bI (own::Ω) k=some o∧nC n k=true:=by
 obtain⟨l,j⟩:=k
 cases l with
 |zero=>
  rw[cO] at h ⊢
  have hj:=(List.getElem?_eq_some_iff.1 h).1
  simp at hj
  rw[List.getElem?_take_of_lt (by omega)] at h
  exact⟨h,by simp[nC];omega⟩
 |succ l=>rw[dD] at h ⊢;exact⟨h,by simp[nC]⟩
theorem GD{own:List Obj}{Ω:Store}{bo:List Value}{bΩ:Hs}{n:Nat}{c:C}{v:Value}(hr:c.refs n=true)(h:jf w σ (own::Ω) (bo::bΩ) c v):jf w σ (own.take n::Ω) (bo.take n::bΩ) c v:=by
 cases c with
 |d x=>exact h
 |any=>exact h
 |bO es=>exact h
 |ny cs=>exact h
 |bS k es=>
  obtain⟨h1,o,ho,h2⟩:=h
  exact⟨h1,o,(jT hr).trans ho,fun a b e=>by rw[jT hr];exact h2 a b e⟩
 |ptr k off=>
  obtain⟨o,ho,h2⟩:=h
  exact⟨o,(jT hr).trans ho,fun a e=>by rw[jT hr];exact h2 a e⟩
 |ou k i off=>
  obtain⟨o,ho,h2⟩:=h
  exact⟨o,(jT hr).trans ho,fun a b e=>by rw[jT hr];exact h2 a b e⟩
 |og k=>
  obtain⟨o,ho,h2⟩:=h
  exact⟨o,(jT hr).trans ho,fun a b e=>by rw[jT hr];exact h2 a b e⟩
 |mp k=>
  obtain⟨o,ho,h2⟩:=h
  exact⟨o,(jT hr).trans ho,fun a e=>by rw[jT hr];exact h2 a e⟩
 |fn f caps=>
  obtain⟨vs,hv,hl,h2⟩:=h
  refine⟨vs,hv,hl,fun j k off e=> ?_⟩
  obtain⟨u,hu,h1c,o,ho,h3⟩:=h2 j k off e
  have hk:nC n k=true:=List.all_eq_true.1 hr (k,off) (List.mem_of_getElem? e)
  exact⟨u,hu,h1c,o,(jT hk).trans ho,fun cs e=>by rw[jT hk];exact h3 cs e⟩
 |kW m es=>exact h
 |xp k r p=>
  obtain⟨o,ho,h2⟩:=h
  exact⟨o,(jT hr).trans ho,fun a e=>by rw[jT hr];exact h2 a e⟩
 |xq k r p z i off=>
  obtain⟨o,ho,h2⟩:=h
  exact⟨o,(jT hr).trans ho,fun a e=>by rw[jT hr];exact h2 a e⟩
theorem E5{own:List Obj}{Ω:Store}{bo:List Value}{bΩ:Hs}{n:Nat}{cs:List C}{vs:List Value}(hr:cs.all (C.refs n)=true)(h:gK w σ (own::Ω) (bo::bΩ) cs vs):gK w σ (own.take n::Ω) (bo.take n::bΩ) cs vs:=
 ⟨h.1,fun j x hx=>let⟨v,hv,hc,ho⟩:=h.2 j x hx;⟨v,hv,GD (List.all_eq_true.1 hr x (List.mem_of_getElem? hx)) hc,ho⟩⟩
theorem Zz{own:List Obj}{Ω:Store}{bo:List Value}{bΩ:Hs}{n:Nat}{x:V}{v:Value}(hr:x.refs n=true)(h:dV w σ (own::Ω) (bo::bΩ) x v):dV w σ (own.take n::Ω) (bo.take n::bΩ) x v:=by
 cases x with
 |c x=>exact⟨GD hr h.1,h.2⟩
 |agg cs=>obtain⟨ar,ha,hc⟩:=h;exact⟨ar,ha,E5 hr hc⟩
 |dY xs=>
  obtain⟨ar,ha,hl,h2⟩:=h
  refine⟨ar,ha,hl,fun j y hy=> ?_⟩
  obtain⟨u,hu,h3⟩:=h2 j y hy
  have hy':y.2.all (C.refs n)=true:=List.all_eq_true.1 hr y (List.mem_of_getElem? hy)
  refine⟨u,hu,?_⟩
  obtain⟨b,cs⟩:=y
  cases b with
  |true=>obtain⟨a',e,hcs⟩:=h3;exact⟨a',e,E5 hy' hcs⟩
  |false=>
   obtain⟨x,e,hx,ho⟩:=h3
   subst e
   simp at hy'
   exact⟨x,rfl,GD hy' hx,ho⟩
 |any=>trivial
def kF(n:Nat)(tm:List (Nat×V)):Bool:=tm.all fun x=>x.2.refs n
theorem Oz{n:Nat}:∀(tm:List (Nat×V)) (t:Nat),kF n tm=true→(look tm t).refs n=true
 |[],_,_=>rfl
 |(x,v)::tm,t,h=>by
  simp only[kF,List.all_cons,Bool.and_eq_true] at h
  rw[look]
  split
  ·exact h.1
  ·exact Oz tm t h.2
theorem K6{tm:List (Nat×V)}{own:List Obj}{Ω:Store}(n:Nat)(h1:kF n tm=true)(h2:(own.take n).all (Obj.refs n)=true):iN N ⟨tm,own::Ω⟩ ⟨tm,own.take n::Ω⟩:=by
 intro a w σ β hR
 obtain⟨bo,bΩ,rfl,hlen⟩:=frames hR
 have hown:∀b,Own (own.take n::Ω) (bo.take n::bΩ) b→Own (own::Ω) (bo::bΩ) b:=by
  rintro b ⟨k,o,hv,e1,e2,e3⟩
  exact⟨k,o,hv,(oL e1).1,(oL e2).1,e3⟩
 refine⟨σ,bo.take n::bΩ,⟨hR.size,hR.defers,⟨fun k o ho=> ?_,fun k k' o o' h1 h2 b e1 e2 e3 e4 e5 e6=> ?_,⟨by have:=hR.S.shape.1;simpa using this,fun l fr hl=> ?_⟩,hR.S.live,hR.S.uW⟩,fun t=>Zz (Oz tm t h1) (hR.T t)⟩,
  ⟨Nat.le_refl _,rfl,rfl,fun _ _ _=>⟨rfl,rfl⟩,gD.refl _ _,fun b hb=>.inl (hown b hb)⟩,Keep.refl _ _⟩
 ·obtain⟨ho',hk⟩:=oL ho
  obtain⟨hv,hh,hr⟩:=hR.S.obj k o ho'
  refine⟨hv,(jT hk).trans hh,?_⟩
  obtain⟨l,j⟩:=k
  cases l with
  |zero=>
   cases o with
   |dead=>trivial
   |box cs=>
    obtain⟨b,cc,t,e,hb,hs,hc⟩:=hr
    rw[cO] at ho
    have hcs:cs.all (C.refs n)=true:=List.all_eq_true.1 h2 (.box cs) (List.mem_of_getElem? ho)
    exact⟨b,cc,t,e,hb,hs,E5 hcs hc⟩
   |tok=>exact hr
   |iH=>exact hr
   |mp=>exact hr
   |fF=>exact hr
   |seed=>exact hr
   |xf=>exact hr
  |succ l=>exact hr
 ·exact hR.S.apart k k' o o' h1 h2 b (oL e1).1 (oL e2).1 e3 (oL e4).1 (oL e5).1 e6
 ·cases l with
  |zero=>
   simp at hl;subst hl
   exact⟨_,rfl,by simp[hlen]⟩
  |succ l=>exact hR.S.shape.2 (l+1) fr hl
def C.oQ(j:Nat)(es:List (List D)):C→C
 | .og (0,i)=>if i=j then .d (.sl es) else .og (0,i)
 |c=>c
def V.oQ(j:Nat)(es:List (List D)):V→V
 | .c x=>.c (x.oQ j es)
 | .agg cs=>.agg (cs.map (C.oQ j es))
 | .dY xs=>.dY (xs.map fun y=>(y.1,y.2.map (C.oQ j es)))
 | .any=>.any
def Obj.oQ(j:Nat)(es:List (List D)):Obj→Obj
 | .box cs=>.box (cs.map (C.oQ j es))
 |o=>o
theorem E8{f:V→V}(hf:f .any=.any):∀(tm:List (Nat×V)) (t:Nat),look (tm.map fun x=>(x.1,f x.2)) t=f (look tm t)
 |[],_=>hf.symm
 |(x,v)::tm,t=>by
  show(if x=t then f v else look (tm.map fun x=>(x.1,f x.2)) t)=f (if x=t then v else look tm t)
  split
  ·rfl
  ·exact E8 hf tm t
def V.l9(f:C→C):V→V
 | .c x=>.c (f x)
 | .agg cs=>.agg (cs.map f)
 | .dY xs=>.dY (xs.map fun y=>(y.1,y.2.map f))
 | .any=>.any
def Obj.l9(f:C→C):Obj→Obj
 | .box cs=>.box (cs.map f)
 |o=>o
theorem yJ{f:C→C}{own:List Obj}{j i:Nat}:((own.map (Obj.l9 f)).set j .dead)[i]? =if i=j then(if j<own.length then some .dead else none) else(own[i]?).map (Obj.l9 f):=by
 rw[List.getElem?_set]
 by_cases e:j=i
 ·subst e;simp
 ·rw[if_neg e,if_neg (Ne.symm e),List.getElem?_map]
theorem xQ{f:C→C}{own:List Obj}{Ω:Store}{j:Nat}{oj:Obj}(hj:own[j]? =some oj){k:Key}{o:Obj}(hk:bI (own::Ω) k=some o):
 ∃o',bI ((own.map (Obj.l9 f)).set j .dead::Ω) k=some o'∧((k=(0,j)∧o'=.dead)∨(k≠(0,j)∧(o'=o∨o'=o.l9 f))):=by
 obtain⟨l,i⟩:=k
 cases l with
 |zero=>
  rw[cO] at hk
  by_cases e:i=j
  ·subst e
   refine⟨.dead,?_,.inl ⟨rfl,rfl⟩⟩
   rw[cO,yJ,if_pos rfl,if_pos (List.getElem?_eq_some_iff.1 hj).1]
  ·refine⟨o.l9 f,?_,.inr ⟨fun x=>e (by cases x;rfl),.inr rfl⟩⟩
   rw[cO,yJ,if_neg e,hk];rfl
 |succ l=>exact⟨o,by rw[dD] at hk ⊢;exact hk,.inr ⟨by simp,.inl rfl⟩⟩
theorem tu{f:C→C}{o o':Obj}(h:o'=o∨o'=o.l9 f):(∀z es,tK o' z es→tK o z es)∧(∀z es,o'=.iH z es→o=.iH z es)∧(∀m,o'=.mp m→o=.mp m)∧(∀cs,o'=.box cs→∃cs',o=.box cs')∧(∀rs,o'=.xf rs→o=.xf rs):=by
 rcases h with rfl|rfl
 ·exact⟨fun _ _ h=>h,fun _ _ h=>h,fun _ h=>h,fun cs h=>⟨cs,h⟩,fun _ h=>h⟩
 ·cases o<;>simp[Obj.l9,tK]
theorem K7{f:C→C}{own:List Obj}{Ω:Store}{bo:List Value}{bΩ:Hs}{j:Nat}{oj:Obj}(hj:own[j]? =some oj)(hn:gD w σ w σ'){c:C}{v:Value}(hc:jf w σ (own::Ω) (bo::bΩ) c v):
 jf w σ' ((own.map (Obj.l9 f)).set j .dead::Ω) (bo::bΩ) c v:=by
 cases c with
 |d x=>exact d9.mono hn hc
 |any=>trivial
 |bO es'=>exact⟨d9.mono hn hc.1,hc.2⟩
 |kW n es'=>exact⟨d9.mono hn hc.1,hc.2⟩
 |ny cs=>obtain⟨ad,h1,h2⟩:=hc;exact⟨ad,h1,h2.mono hn⟩
 |bS k es'=>
  obtain⟨h1,o,ho,h2⟩:=hc
  obtain⟨o',ho',hcase⟩:=xQ hj ho
  refine⟨d9.mono hn h1,o',ho',fun z e4 e=> ?_⟩
  rcases hcase with⟨_,e'⟩|⟨_,e'⟩
  ·rw[e'] at e;rcases e with e|⟨_,e⟩<;>cases e
  ·exact h2 _ _ ((tu e').1 _ _ e)
 |ptr k off=>
  obtain⟨o,ho,h2⟩:=hc
  obtain⟨o',ho',hcase⟩:=xQ hj ho
  refine⟨o',ho',fun cs e=> ?_⟩
  rcases hcase with⟨_,e'⟩|⟨_,e'⟩
  ·rw[e'] at e;cases e
  ·obtain⟨cs',e''⟩:=(tu e').2.2.2.1 _ e
   exact h2 _ e''
 |ou k i off=>
  obtain⟨o,ho,h2⟩:=hc
  obtain⟨o',ho',hcase⟩:=xQ hj ho
  refine⟨o',ho',fun z e4 e=> ?_⟩
  rcases hcase with⟨_,e'⟩|⟨_,e'⟩
  ·rw[e'] at e;cases e
  ·exact h2 _ _ ((tu e').2.1 _ _ e)
 |og k=>
  obtain⟨o,ho,h2⟩:=hc
  obtain⟨o',ho',hcase⟩:=xQ hj ho
  refine⟨o',ho',fun z e4 e=> ?_⟩
  rcases hcase with⟨_,e'⟩|⟨_,e'⟩
  ·rw[e'] at e;cases e
  ·exact h2 _ _ ((tu e').2.1 _ _ e)
 |mp k=>
  obtain⟨o,ho,h2⟩:=hc
  obtain⟨o',ho',hcase⟩:=xQ hj ho
  refine⟨o',ho',fun m e=> ?_⟩
  rcases hcase with⟨_,e'⟩|⟨_,e'⟩
  ·rw[e'] at e;cases e
  ·exact h2 _ ((tu e').2.2.1 _ e)
 |fn f caps=>
  obtain⟨vs,hv,hl,h2⟩:=hc
  refine⟨vs,hv,hl,fun i k off e=> ?_⟩
  obtain⟨u,hu,h1c,o,ho,h3⟩:=h2 i k off e
  obtain⟨o',ho',hcase⟩:=xQ hj ho
  refine⟨u,hu,h1c,o',ho',fun cs e=> ?_⟩
  rcases hcase with⟨_,e'⟩|⟨_,e'⟩
  ·rw[e'] at e;cases e
  ·obtain⟨cs',e''⟩:=(tu e').2.2.2.1 _ e
   exact h3 _ e''
 |xp k r p=>
  obtain⟨o,ho,h2⟩:=hc
  obtain⟨o',ho',hcase⟩:=xQ hj ho
  refine⟨o',ho',fun rs e=> ?_⟩
  rcases hcase with⟨_,e'⟩|⟨_,e'⟩
  ·rw[e'] at e;cases e
  ·exact h2 _ ((tu e').2.2.2.2 _ e)
 |xq k r p z i off=>
  obtain⟨o,ho,h2⟩:=hc
  obtain⟨o',ho',hcase⟩:=xQ hj ho
  refine⟨o',ho',fun rs e=> ?_⟩
  rcases hcase with⟨_,e'⟩|⟨_,e'⟩
  ·rw[e'] at e;cases e
  ·exact h2 _ ((tu e').2.2.2.2 _ e)
theorem Rs{f:C→C}{tm:List (Nat×V)}{own:List Obj}{Ω:Store}{bo:List Value}{bΩ:Hs}(j:Nat){oj:Obj}{hj:Value}(hoj:own[j]? =some oj)(hbj:bo[j]? =some hj)(hR:lS N ⟨tm,own::Ω⟩ a w σ (bo::bΩ))(hlen:bo.length=own.length)
 (hn:gD w σ w σ') (hch:∀x,¬owns oj hj x→σ' x=σ x) (hlive:∀x,x<w.heap.size∨σ' x=0)
 (hC:∀(c:C) (v:Value),jf w σ (own::Ω) (bo::bΩ) c v→jf w σ' ((own.map (Obj.l9 f)).set j .dead::Ω) (bo::bΩ) (f c) v):
 lS N ⟨tm.map fun x=>(x.1,x.2.l9 f),(own.map (Obj.l9 f)).set j .dead::Ω⟩ a w σ' (bo::bΩ)∧Step (own::Ω) (bo::bΩ) σ w ((own.map (Obj.l9 f)).set j .dead::Ω) (bo::bΩ) σ' w:=by
 have Qv:∀k o,bI ((own.map (Obj.l9 f)).set j .dead::Ω) k=some o→(k=(0,j)∧o=.dead)∨(k≠(0,j)∧∃o0,bI (own::Ω) k=some o0∧(o=o0∨o=o0.l9 f)∧(0<k.1→o=o0)∧∀h b,owns o h b↔owns o0 h b):=by
  intro k o hk
  obtain⟨l,i⟩:=k
  cases l with
  |zero=>
   rw[cO,yJ] at hk
   by_cases e:i=j
   ·subst e
    rw[if_pos rfl,if_pos (List.getElem?_eq_some_iff.1 hoj).1] at hk
    cases hk;exact .inl ⟨rfl,rfl⟩
   ·rw[if_neg e] at hk
    cases ho:own[i]? with
    |none=>rw[ho] at hk;cases hk
    |some o0=>
     rw[ho] at hk;cases hk
     refine .inr ⟨fun x=>e (by cases x;rfl),o0,by rw[cO];exact ho,.inr rfl,fun h=>absurd h (by simp),fun h b=> ?_⟩
     cases o0 with
     |box cs=>cases h<;>first|exact Iff.rfl|(rename_i x;cases x<;>exact Iff.rfl)
     |_=>exact Iff.rfl
  |succ l=>rw[dD] at hk;exact .inr ⟨by simp,o,by rw[dD];exact hk,.inl rfl,fun _=>rfl,fun _ _=>Iff.rfl⟩
 have hCs:∀(cs:List C) (vs:List Value),gK w σ (own::Ω) (bo::bΩ) cs vs→gK w σ' ((own.map (Obj.l9 f)).set j .dead::Ω) (bo::bΩ) (cs.map f) vs:=by
  intro cs vs hc
  refine⟨by simpa using hc.1,fun i x hx=> ?_⟩
  rw[List.getElem?_map] at hx
  cases hci:cs[i]? with
  |none=>rw[hci] at hx;cases hx
  |some y=>
   rw[hci] at hx;cases hx
   obtain⟨v,hv,hr,ho⟩:=hc.2 i y hci
   exact⟨v,hv,hC y v hr,ho⟩
 have hother:∀k o h x,k≠(0,j)→bI (own::Ω) k=some o→bI (bo::bΩ) k=some h→owns o h x→σ' x=σ x:=by
  intro k o h x hk e1 e2 e3
  refine hch x fun e4=>hk ?_
  exact hR.S.apart k (0,j) o _ h _ x e1 e2 e3 (by rw[cO];exact hoj) (by rw[cO];exact hbj) e4
 refine⟨⟨hR.size,hR.defers,⟨fun k o ho=> ?_,fun k k' o o' h1 h2 b' e1 e2 e3 e4 e5 e6=> ?_,⟨by have:=hR.S.shape.1;simpa using this,fun l fr hl=> ?_⟩,hlive,hR.S.uW.near hn⟩,fun t=> ?_⟩,⟨Nat.le_refl _,rfl,rfl,fun x hx hno=>⟨rfl,?_⟩,hn,fun x hx=> ?_⟩⟩
 ·rcases Qv k o ho with⟨rfl,rfl⟩|⟨hk,o0,h0,hcase,hl0,how⟩
  ·exact⟨_,by rw[cO];exact hbj,trivial⟩
  ·obtain⟨hv,hhv,hr⟩:=hR.S.obj k o0 h0
   refine⟨hv,hhv,?_⟩
   have hbk:∀x,owns o0 hv x→w.heap[x]? =w.heap[x]? ∧σ' x=σ x:=fun x e=>⟨rfl,hother k o0 hv x hk h0 hhv e⟩
   obtain⟨l,i⟩:=k
   cases l with
   |succ l=>
    rw[hl0 (by simp)]
    exact jm.mono hn (Keep.refl _ _) hbk hr
   |zero=>
    cases o0 with
    |box cs=>
     obtain⟨b',cc',t',e',hb',hs',hc'⟩:=hr
     subst e'
     have he:o=.box (cs.map f):=by
      rw[cO,yJ] at ho
      rw[cO] at h0
      split at ho
      ·rename_i e;exact absurd (by rw[e]) hk
      ·rw[h0] at ho;cases ho;rfl
     rw[he]
     exact⟨b',cc',t',rfl,hb',(hbk b' rfl).2.trans hs',hCs _ _ hc'⟩
    |dead=>rcases hcase with rfl|rfl<;>trivial
    |tok z es'=>
     have:o=.tok z es':=by rcases hcase with rfl|rfl<;>rfl
     rw[this]
     exact jm.mono (S:=[]) (β:=[]) (o:=(.tok z es')) hn (Keep.refl [] []) hbk hr
    |iH z es'=>
     have:o=.iH z es':=by rcases hcase with rfl|rfl<;>rfl
     rw[this]
     exact jm.mono (S:=[]) (β:=[]) (o:=(.iH z es')) hn (Keep.refl [] []) hbk hr
    |mp m=>
     have:o=.mp m:=by rcases hcase with rfl|rfl<;>rfl
     rw[this]
     exact jm.mono (S:=[]) (β:=[]) (o:=(.mp m)) hn (Keep.refl [] []) hbk hr
    |fF n z es'=>
     have:o=.fF n z es':=by rcases hcase with rfl|rfl<;>rfl
     rw[this]
     exact jm.mono (S:=[]) (β:=[]) (o:=(.fF n z es')) hn (Keep.refl [] []) hbk hr
    |seed n=>rcases hcase with rfl|rfl<;>trivial
    |xf rs=>
     have:o=.xf rs:=by rcases hcase with rfl|rfl<;>rfl
     rw[this]
     exact jm.mono (S:=[]) (β:=[]) (o:=(.xf rs)) hn (Keep.refl [] []) hbk hr
 ·rcases Qv k o e1 with⟨rfl,rfl⟩|⟨hk,o0,f1,_,_,f2⟩
  ·cases e3
  ·rcases Qv k' o' e4 with⟨rfl,rfl⟩|⟨hk',o0',g1,_,_,g2⟩
   ·cases e6
   ·exact hR.S.apart k k' o0 o0' h1 h2 b' f1 e2 ((f2 _ _).1 e3) g1 e5 ((g2 _ _).1 e6)
 ·cases l with
  |zero=>
   simp at hl;subst hl
   exact⟨_,rfl,by simp[hlen]⟩
  |succ l=>exact hR.S.shape.2 (l+1) fr hl
 ·show dV w σ' ((own.map (Obj.l9 f)).set j .dead::Ω) (bo::bΩ) (look (tm.map fun x=>(x.1,x.2.l9 f)) t) _
  rw[E8 (f:=V.l9 f) rfl]
  have ht:=hR.T t
  cases hx:look tm t with
  |c x=>rw[hx] at ht;exact⟨hC x _ ht.1,ht.2⟩
  |agg cs=>rw[hx] at ht;obtain⟨ar,e,hc⟩:=ht;exact⟨ar,e,hCs _ _ hc⟩
  |dY xs=>
   rw[hx] at ht
   obtain⟨ar,e,hl,h2⟩:=ht
   refine⟨ar,e,by simpa using hl,fun i y hy=> ?_⟩
   rw[List.getElem?_map] at hy
   cases hxi:xs[i]? with
   |none=>rw[hxi] at hy;cases hy
   |some z=>
    rw[hxi] at hy;cases hy
    obtain⟨u,hu,h3⟩:=h2 i z hxi
    refine⟨u,hu,?_⟩
    obtain⟨bb,cs⟩:=z
    cases bb with
    |true=>obtain⟨a',e',hcs⟩:=h3;exact⟨a',e',hCs _ _ hcs⟩
    |false=>
     obtain⟨x,e',hxr,ho⟩:=h3
     subst e'
     exact⟨_,rfl,hC x _ hxr,ho⟩
  |any=>trivial
 ·exact hch x fun e=>hno ⟨(0,j),_,_,by rw[cO];exact hoj,by rw[cO];exact hbj,e⟩
 ·left
  obtain⟨k,o,h1,e1,e2,e3⟩:=hx
  rcases Qv k o e1 with⟨rfl,rfl⟩|⟨hk,o0,f1,_,_,f2⟩
  ·cases e3
  ·exact⟨k,o0,h1,f1,e2,(f2 _ _).1 e3⟩
theorem acu{j:Nat}{es:List (List D)}:Obj.oQ j es=Obj.l9 (C.oQ j es):=by funext o;cases o<;>rfl
theorem acv{j:Nat}{es:List (List D)}:V.oQ j es=V.l9 (C.oQ j es):=by funext v;cases v<;>rfl
theorem afr{tm:List (Nat×V)}{own:List Obj}{Ω:Store}(j:Nat)(bE:Nat)(es:List (List D))(hj:own[j]? =some (.iH bE es))(hR:lS N ⟨tm,own::Ω⟩ a w σ β):
 ∃σ' β',lS N ⟨tm.map fun x=>(x.1,x.2.oQ j es),(own.map (Obj.oQ j es)).set j .dead::Ω⟩ a w σ' β'∧Step (own::Ω) β σ w ((own.map (Obj.oQ j es)).set j .dead::Ω) β' σ' w∧
  Keep (gY (own::Ω)) (gY β) (gY ((own.map (Obj.oQ j es)).set j .dead::Ω)) (gY β'):=by
 obtain⟨bo,bΩ,rfl,hlen⟩:=frames hR
 obtain⟨hh,hb,hr⟩:=hR.S.obj (0,j) _ (by rw[cO];exact hj)
 obtain⟨b,cc,ty,cap,rfl,hcap,hbc,hσ,hle,hsz,hcells⟩:=hr
 rw[cO] at hb
 let σ':Nat→Nat:=fun x=>if x=b then es.length*bE else σ x
 have hn:gD w σ w σ':=by
  intro b1 c1 t1 Ji e1
  by_cases e:b1=b
  ·subst e
   rw[hbc] at e1;cases e1
   exact⟨by simp only[σ',if_true];omega,fun h=>by omega,cc,hbc,rfl,fun _ _=>rfl⟩
  ·exact⟨by simp only[σ',if_neg e];exact Nat.le_refl _,fun _=>if_neg e,c1,e1,rfl,fun _ _=>rfl⟩
 have hdata:d9 w σ' (.sl es) (.slice (some ⟨b,0,none⟩) es.length cap):=by
  have hfl:=nG es bE hle
  refine .sl b 0 cap bE es (fun i=>(cc[i]?).getD undef) cc ty (0,0) hcap hle hbc (by simp[σ']) (fun i hi=> ?_) (fun i d hd=> ?_)
  ·obtain⟨v,hv,_⟩:=hcells i _ (List.getElem?_eq_getElem (by omega))
   simp[hv]
  ·obtain⟨v,hv,hr⟩:=hcells i d hd
   simp only[hv,Option.getD_some]
   exact hr.mono hn
 rw[acu,acv]
 have:=Rs (f:=C.oQ j es) j hj hb hR hlen hn (fun x hx=>if_neg fun e=>hx (by subst e;rfl)) (fun x=>by
  by_cases e:x=b
  ·left;subst e;exact lt_of_some hbc
  ·simp only[σ',if_neg e];exact hR.S.live x) (fun c v hc=>by
  by_cases hm:c=.og (0,j)
  ·subst hm
   obtain⟨o,ho,h2⟩:=hc
   rw[cO,hj] at ho;cases ho
   have hv:=h2 _ _ rfl
   rw[cO,hb] at hv
   cases hv
   simp only[C.oQ,if_true]
   exact hdata
  ·have hfr:C.oQ j es c=c:=by
    cases c with
    |og k=>
     obtain⟨l,i⟩:=k
     cases l with
     |zero=>simp only[C.oQ];rw[if_neg (fun e=>hm (by rw[e]))]
     |succ l=>rfl
    |_=>rfl
   rw[hfr]
   exact K7 hj hn hc)
 exact⟨σ',_,this.1,this.2,Keep.refl _ _⟩
def C.lab(row:Bool)(j n:Nat)(es:List (List D)):C→C
 | .og (0,i)=>if i=j∧row=true then .d (.ol n es) else .og (0,i)
 | .bS (0,i) es'=>if i=j∧row=false∧es'.length=es.length then .d (.ol n es) else .bS (0,i) es'
 |c=>c
def Rt(row:Bool)(n bE:Nat)(es:List (List D)):Obj:=match row with|true=>.iH bE es|false=>.fF n bE es
theorem VY{tm:List (Nat×V)}{own:List Obj}{Ω:Store}(j n:Nat)(bE:Nat)(es:List (List D))(row:Bool)(hj:own[j]? =some (Rt row n bE es))(hR:lS N ⟨tm,own::Ω⟩ a w σ β):
 ∃σ' β',lS N ⟨tm.map fun x=>(x.1,x.2.l9 (C.lab row j n es)),(own.map (Obj.l9 (C.lab row j n es))).set j .dead::Ω⟩ a w σ' β'∧Step (own::Ω) β σ w ((own.map (Obj.l9 (C.lab row j n es))).set j .dead::Ω) β' σ' w∧
  Keep (gY (own::Ω)) (gY β) (gY ((own.map (Obj.l9 (C.lab row j n es))).set j .dead::Ω)) (gY β'):=by
 obtain⟨bo,bΩ,rfl,hlen⟩:=frames hR
 have key:∃hh σ',bo[j]? =some hh∧gD w σ w σ'∧(∀x,¬owns (Rt row n bE es) hh x→σ' x=σ x)∧(∀x,x<w.heap.size∨σ' x=0)∧d9 w σ' (.ol n es) hh:=by
  have ZA:∀(b off cap:Nat) (c:Array Value) (t:TypeId),w.heap[b]? =some (.cells c t (0,0))→σ b≤c.size→(∀e∈es,e.length=bE)→off+es.length*bE≤c.size→es.length≤cap→
   (∀(i:Nat) (d:D),es.flatten[i]? =some d→∃v,c[off+i]? =some v∧d9 w σ d v)→
   gD w σ w (fun x=>if x=b then c.size+1+n else σ x)∧(∀x,x<w.heap.size∨(fun x=>if x=b then c.size+1+n else σ x) x=0)∧d9 w (fun x=>if x=b then c.size+1+n else σ x) (.ol n es) (.slice (some ⟨b,off,none⟩) es.length cap):=by
   intro b off cap c t hb hσ hle hsz hcap hcells
   have hn:gD w σ w (fun x=>if x=b then c.size+1+n else σ x):=by
    intro b1 c1 t1 Ji e1
    by_cases e:b1=b
    ·subst e
     rw[hb] at e1;cases e1
     exact⟨by simp only[if_true];omega,fun h=>by omega,c,hb,rfl,fun _ _=>rfl⟩
    ·exact⟨by simp only[if_neg e];exact Nat.le_refl _,fun _=>if_neg e,c1,e1,rfl,fun _ _=>rfl⟩
   refine⟨hn,fun x=> ?_,?_⟩
   ·by_cases e:x=b
    ·left;subst e;exact lt_of_some hb
    ·simp only[if_neg e];exact hR.S.live x
   ·have hfl:=nG es bE hle
    refine .ol n b off cap bE es (fun i=>(c[off+i]?).getD undef) c t hcap hle hb (by simp) hsz (fun i hi=> ?_) (fun i d hd=> ?_)
    ·obtain⟨v,hv,_⟩:=hcells i _ (List.getElem?_eq_getElem (by omega))
     simp[hv]
    ·obtain⟨v,hv,hr⟩:=hcells i d hd
     simp only[hv,Option.getD_some]
     exact hr.mono hn
  cases row with
  |true=>
   obtain⟨hh,hb,hr⟩:=hR.S.obj (0,j) _ (by rw[cO];exact hj)
   obtain⟨b,cc,ty,cap,rfl,hcap,hbc,hσ,hle,hsz,hcells⟩:=hr
   rw[cO] at hb
   obtain⟨k1,k2,k3⟩:=ZA b 0 cap cc ty hbc (by omega) hle (by omega) hcap (fun i d hd=>by rw[Nat.zero_add];exact hcells i d hd)
   exact⟨_,_,hb,k1,fun x hx=>if_neg fun e=>hx (by subst e;rfl),k2,k3⟩
  |false=>
   obtain⟨hh,hb,hr⟩:=hR.S.obj (0,j) _ (by rw[cO];exact hj)
   obtain⟨h1,hle,ad,cap,rfl,hcap,hcase⟩:=hr
   rw[cO] at hb
   rcases hcase with⟨h4,h5⟩|⟨h4,b,off,c,t,rfl,hbc,hσ,hfit⟩
   ·exact⟨_,σ,hb,gD.refl _ _,fun _ _=>rfl,hR.S.live,h5⟩
   ·have hm:es.length*bE≤cap*bE:=Nat.mul_le_mul_right _ hcap
    obtain⟨k1,k2,k3⟩:=ZA b off cap c t hbc (by omega) hle (by omega) hcap (fun i d hd=>by
     cases h1 with
     |nil=>simp at hd
     |sl b' off' cap' uX es vals c' t' Q0 q1 q2 q3 q4 q5 q6=>
      rw[hbc] at q3;cases q3
      have hil:=(List.getElem?_eq_some_iff.1 hd).1
      rw[nG es bE hle] at hil
      have he:uX=bE:=by
       cases es with
       |nil=>simp at hil
       |cons y ys=>rw[←q2 y (by simp),hle y (by simp)]
      subst he
      exact⟨_,q5 i hil,q6 i d hd⟩)
    exact⟨_,_,hb,k1,fun x hx=>if_neg fun e=>hx (by subst e;simp[Rt,owns,blk,h4]),k2,k3⟩
 obtain⟨hh,σ',hb,hn,hch,hlive,hdata⟩:=key
 have:=Rs (f:=C.lab row j n es) j hj hb hR hlen hn hch hlive (fun c v hc=>by
  by_cases hm:c=.og (0,j)∧row=true
  ·obtain⟨rfl,rfl⟩:=hm
   simp only[C.lab,and_self,if_true]
   obtain⟨o,ho,h2⟩:=hc
   rw[cO,hj] at ho;cases ho
   have hv:=h2 _ _ rfl
   rw[cO,hb] at hv
   cases hv
   exact hdata
  ·by_cases ht:∃es',c=.bS (0,j) es'∧row=false∧es'.length=es.length
   ·obtain⟨es',rfl,rfl,hl⟩:=ht
    simp only[C.lab,hl,and_self,if_true]
    obtain⟨h1,o,ho,h2⟩:=hc
    rw[cO,hj] at ho;cases ho
    have hv:=(h2 _ _ (.inr ⟨n,rfl⟩)).2 hl
    rw[cO,hb] at hv
    cases hv
    exact hdata
   ·have hfr:C.lab row j n es c=c:=by
     cases c with
     |og k=>
      obtain⟨l,i⟩:=k
      cases l with
      |zero=>simp only[C.lab];rw[if_neg (fun e=>hm ⟨by rw[e.1],e.2⟩)]
      |succ l=>rfl
     |bS k es'=>
      obtain⟨l,i⟩:=k
      cases l with
      |zero=>simp only[C.lab];rw[if_neg (fun e=>ht ⟨es',by rw[e.1],e.2⟩)]
      |succ l=>rfl
     |_=>rfl
    rw[hfr]
    exact K7 hj hn hc)
 exact⟨σ',_,this.1,this.2,Keep.refl _ _⟩
def K8(j:Nat)(s:St):St:=
 match s.st with
 |own::Ω=>match own[j]? with
  |some (.iH _ es)=>⟨s.tm.map fun x=>(x.1,x.2.oQ j es),(own.map (Obj.oQ j es)).set j .dead::Ω⟩
  |_=>s
 |[]=>s
def K9:Nat→St→St
 |0,s=>s
 |n+1,s=>K9 n (K8 n s)
def Ei(s:St):St:=
 match s.st with
 |own::_=>K9 own.length s
 |[]=>s
theorem Uu(j:Nat)(s:St):iN N s (K8 j s):=by
 obtain⟨tm,st⟩:=s
 cases st with
 |nil=>exact iN.refl _ _
 |cons own Ω=>
  unfold K8
  simp only
  split
  ·rename_i z es hj
   exact fun a w σ β hR=>afr j z es hj hR
  ·exact iN.refl _ _
theorem Jk:∀(n:Nat) (s:St),iN N s (K9 n s)
 |0,s=>iN.refl _ _
 |n+1,s=>(Uu n s).trans (Jk n _)
theorem Ru(s:St):iN N s (Ei s):=by
 unfold Ei
 split
 ·exact Jk _ _
 ·exact iN.refl _ _
theorem GH{c:Code}{Q:Exit→St→Prop}{g:St→St}(hg:∀s,iN N s (g s))(h:AW P N c (fun e s'=>Q e (g s')) s):AW P N c Q s:=by
 intro a w σ β hR
 refine wp_mono (h a w σ β hR) ?_
 rintro e a' w' ⟨s',σ',β',k1,k2,k3,k4⟩
 obtain⟨σ2,β2,r2,st2,kk2⟩:=hg s' a' w' σ' β' k1
 exact⟨_,σ2,β2,r2,k2.trans st2,k3.trans kk2,k4⟩
end
end Go.Ab
namespace Go.Ab
section
variable {P:Program} {E:Md} {S S':Store} {N:Nat} {s:St}
def lookO(tm:List (Nat×V))(t:Option Nat):Option V:=t.map (look tm)
theorem Rv{tm:List (Nat×V)}{t:Option Nat}:lookO tm t=t.map (look tm):=rfl
theorem Xx{tm:List (Nat×V)}{t:Nat}:lookO tm (some t)=some (look tm t):=rfl
theorem Xy{tm:List (Nat×V)}:lookO tm none=none:=rfl
def F5(tm:List (Nat×V))(l:List Operand):List V:=l.map (ev tm)
theorem afs{tm:List (Nat×V)}:F5 tm []=[]:=rfl
theorem acw{tm:List (Nat×V)}{x:Operand}{l:List Operand}:F5 tm (x::l)=ev tm x::F5 tm l:=rfl
def OA(tm:List (Nat×V))(x:Option Operand):Option V:=x.map (ev tm)
theorem acy{tm:List (Nat×V)}{x:Operand}:OA tm (some x)=some (ev tm x):=rfl
theorem acz{tm:List (Nat×V)}:OA tm none=none:=rfl
def Rw(tm:List (Nat×V))(l:List (Nat×Operand)):List (Nat×V):=l.map fun x=>(x.1,ev tm x.2)
theorem aft{tm:List (Nat×V)}:Rw tm []=[]:=rfl
theorem acA{tm:List (Nat×V)}{i:Nat}{x:Operand}{l:List (Nat×Operand)}:Rw tm ((i,x)::l)=(i,ev tm x)::Rw tm l:=rfl
def Split(x:Bool)(A B:St→Prop)(s:St):Prop:=(x=true→A s)∧(x=false→B s)
theorem dU{x:Bool}{A B:St→Prop}(h1:x=true→A s)(h2:x=false→B s):Split x A B s:=⟨h1,h2⟩
theorem Xz{A B:St→Prop}:Split true A B s=A s:=by simp[Split]
theorem Uv{A B:St→Prop}:Split false A B s=B s:=by simp[Split]
def Rx(dst:Option Nat)(v:V)(K:St→Prop)(s:St):Prop:=K (s.put dst v)
theorem afu{dst:Option Nat}{v:V}{K:St→Prop}:Rx dst v K s=K (s.put dst v):=rfl
def XA(P:Program)(o:Oper)(K:St→Prop)(s:St):Prop:=eF P o s K
def Ry(P:Program)(E:Md)(o:Oper)(K:St→Prop)(s:St):Prop:=gG P E o s K
theorem acB{o:Oper}{K:St→Prop}:XA P o K s=eF P o s K:=rfl
theorem ZB{o:Oper}{K:St→Prop}:Ry P E o K s=gG P E o s K:=rfl
def Cb(dst:Option Nat)(want:Bool)(A K:St→Prop)(s:St):Option V→Prop
 |some (.c (.d (.b x)))=>match want with
  |true=>Split x A (Rx dst (.dY []) K) s
  |false=>Split x (Rx dst (.dY []) K) A s
 |some (.dY [])=>K (s.put dst (.dY []))
 |_=>False
theorem Uw{R:Array Oper}{dst op ty pos after}{K:St→Prop}:vF P R ⟨dst,op,ty,pos,after,none⟩ s K=eF P ⟨dst,op,ty,pos,after,none⟩ s K:=rfl
theorem Ux{R:Array Oper}{dst op ty pos after j want}{K:St→Prop}:vF P R ⟨dst,op,ty,pos,after,some (j,want)⟩ s K=
 Cb dst want (XA P ⟨dst,op,ty,pos,after,some (j,want)⟩ K) K s (lookO s.tm (gU R j)):=by
 show vF P R _ s K=_
 simp only[vF,←Rv]
 generalize lookO s.tm (gU R j)=v
 cases v with
 |none=>rfl
 |some v=>
  cases v with
  |c x=>cases x with
   |d x=>cases x with
    |b x=>cases want<;>simp[Cb,Split,Rx,XA,and_comm]
    |_=>rfl
   |_=>rfl
  |dY l=>cases l<;>rfl
  |_=>rfl
theorem Rz{R:Array Oper}{dst op ty pos after}{K:St→Prop}:uQ P E R ⟨dst,op,ty,pos,after,none⟩ s K=gG P E ⟨dst,op,ty,pos,after,none⟩ s K:=rfl
theorem RA{R:Array Oper}{dst op ty pos after j want}{K:St→Prop}:uQ P E R ⟨dst,op,ty,pos,after,some (j,want)⟩ s K=
 Cb dst want (Ry P E ⟨dst,op,ty,pos,after,some (j,want)⟩ K) K s (lookO s.tm (gU R j)):=by
 simp only[uQ,←Rv]
 generalize lookO s.tm (gU R j)=v
 cases v with
 |none=>rfl
 |some v=>
  cases v with
  |c x=>cases x with
   |d x=>cases x with
    |b x=>cases want<;>simp[Cb,Split,Rx,Ry,and_comm]
    |_=>rfl
   |_=>rfl
  |dY l=>cases l<;>rfl
  |_=>rfl
@[congr] theorem aiM {R:Array Oper} {os:List Oper} {s s':St} {K:St→Prop} (h2:s=s'):BS P R os s K=BS P R os s' K:=by rw[h2]
@[congr] theorem aiN {R:Array Oper} {os:List Oper} {s s':St} {K:St→Prop} (h2:s=s'):uZ P E R os s K=uZ P E R os s' K:=by rw[h2]
@[congr] theorem ahh {R:Array Oper} {o:Oper} {s s':St} {K:St→Prop} (h2:s=s'):vF P R o s K=vF P R o s' K:=by rw[h2]
@[congr] theorem agP {R:Array Oper} {o:Oper} {s s':St} {K:St→Prop} (h2:s=s'):uQ P E R o s K=uQ P E R o s' K:=by rw[h2]
@[congr] theorem ahi {dst:Option Nat} {want:Bool} {A K:St→Prop} {s s':St} {v v':Option V} (h2:s=s') (h3:v=v'):Cb dst want A K s v=Cb dst want A K s' v':=by rw[h2,h3]
@[congr] theorem aij {x x':Bool} {A B:St→Prop} {s s':St} (h:x=x') (h2:s=s'):Split x A B s=Split x' A B s':=by rw[h,h2]
@[congr] theorem aik {o:Oper} {s s':St} {K:St→Prop} (h2:s=s'):eF P o s K=eF P o s' K:=by rw[h2]
@[congr] theorem ahj {o:Oper} {s s':St} {K:St→Prop} (h2:s=s'):gG P E o s K=gG P E o s' K:=by rw[h2]
@[congr] theorem aiO {l l':Option Nat} {es es' x:List (List D)} {z:Nat} {s s':St} {dst:Option Nat} {K:St→Prop} (h1:l=l') (h2:es=es') (h3:s=s'):BQ l es s dst z x K=BQ l' es' s' dst z x K:=by rw[h1,h2,h3]
@[congr] theorem aiP {b b':Bool} {n:Nat} {x:List (List D)} {z:Nat} {s s':St} {dst:Option Nat} {K:St→Prop} (h1:b=b') (h3:s=s'):DI b n s dst z x K=DI b' n s' dst z x K:=by rw[h1,h3]
@[congr] theorem ahk {s s':St} {dst:Option Nat} {o o':Obj} {mk:Key→V} {K:St→Prop} (h1:s=s') (h2:o=o'):newObj s dst o mk K=newObj s' dst o' mk K:=by rw[h1,h2]
@[congr] theorem ahl {t:TypeId} {s s':St} {dst:Option Nat} {K:St→Prop} (h1:s=s'):vD P t s dst K=vD P t s' dst K:=by rw[h1]
@[congr] theorem aiQ {v v':V} {s s':St} {dst:Option Nat} {K:St→Prop} (h1:v=v') (h2:s=s'):BP v s dst K=BP v' s' dst K:=by rw[h1,h2]
@[congr] theorem ahm {t:TypeId} {a a' x x':V} {s s':St} {dst:Option Nat} {K:St→Prop} (h1:a=a') (h3:x=x') (h2:s=s'):vE P t a x s dst K=vE P t a' x' s' dst K:=by rw[h1,h2,h3]
@[congr] theorem ail {t:TypeId} {a a' x x':V} {s s':St} {dst:Option Nat} {K:St→Prop} (h1:a=a') (h3:x=x') (h2:s=s'):yF P t a x s dst K=yF P t a' x' s' dst K:=by rw[h1,h2,h3]
@[congr] theorem agQ {t u:TypeId} {a a' x x':V} {s s':St} {dst:Option Nat} {K:St→Prop} (h1:a=a') (h3:x=x') (h2:s=s'):uP P t u a x s dst K=uP P t u a' x' s' dst K:=by rw[h1,h2,h3]
@[congr] theorem agR {s s':St} {dst:Option Nat} {K:St→Prop} (h2:s=s'):uN s dst K=uN s' dst K:=by rw[h2]
@[congr] theorem agS {t:TypeId} {a a' x x' y y':V} {s s':St} {dst:Option Nat} {K:St→Prop} (h1:a=a') (h3:x=x') (h4:y=y') (h2:s=s'):uO P t a x y s dst K=uO P t a' x' y' s' dst K:=by rw[h1,h2,h3,h4]
@[congr] theorem ain {f:FuncId} {args args':List V} {s s':St} {dst:Option Nat} {K:St→Prop} (h1:args=args') (h2:s=s'):zM P f args s dst K=zM P f args' s' dst K:=by rw[h1,h2]
@[congr] theorem aio {c:Call} {s s':St} {dst:Option Nat} {K:St→Prop} (h2:s=s'):qb P c s dst K=qb P c s' dst K:=by rw[h2]
@[congr] theorem aip {K:St→Prop} {Q:Exit→St→Prop} {e:Exit} {s s':St} (h2:s=s'):oC K Q e s=oC K Q e s':=by rw[h2]
def iA(s:St)(dst:Option Nat)(K:St→Prop)(r:R):Prop:=r.1∧K (s.put dst r.2)
@[congr] theorem aiq {s s':St} {dst:Option Nat} {K:St→Prop} {r r':R} (h1:s=s') (h2:r=r'):iA s dst K r=iA s' dst K r':=by rw[h1,h2]
theorem acC{dst:Option Nat}{K:St→Prop}{p:Prop}{v:V}:iA s dst K (p,v)=(p∧K (s.put dst v)):=rfl
def Cc(caps:List (Key×Nat)):List V:=caps.map fun y=>.c (.ptr y.1 y.2)
def Qw(P:Program)(fv:V)(args:List V)(s:St)(dst:Option Nat)(K:St→Prop):Prop:=
 match fv with
 | .c (.fn f caps)=>zM P f (args++Cc caps) s dst K
 |_=>False
def E9(P:Program)(m:Nat)(f:FuncId)(args:List V)(s:St)(dst:Option Nat)(K:St→Prop):Prop:=
 match m with
 |0=>∃r,aI P f args r∧K (s.put dst r)
 |1=>∃S' v,DS s.st S'∧zM P f args s dst (fun t=>t=St.put ⟨s.tm,S'⟩ dst v)∧K (St.put ⟨s.tm,S'⟩ dst v)
 |_=>∃S' v,zM P f args s dst (fun t=>t=St.put ⟨s.tm,S'⟩ dst v)∧K (St.put ⟨s.tm,S'⟩ dst v)
def zQ(P:Program)(m:Nat)(fv:V)(args:List V)(s:St)(dst:Option Nat)(K:St→Prop):Prop:=
 match fv with
 | .c (.fn f caps)=>E9 P m f (args++Cc caps) s dst K
 |_=>False
@[congr] theorem air {fv ZC:V} {args args':List V} {s s':St} {dst:Option Nat} {K:St→Prop} (h1:fv=ZC) (h3:args=args') (h2:s=s'):Qw P fv args s dst K=Qw P ZC args' s' dst K:=by rw[h1,h2,h3]
@[congr] theorem ais {m:Nat} {fv ZC:V} {args args':List V} {s s':St} {dst:Option Nat} {K:St→Prop} (h1:fv=ZC) (h3:args=args') (h2:s=s'):zQ P m fv args s dst K=zQ P m ZC args' s' dst K:=by rw[h1,h2,h3]
@[congr] theorem ait {m:Nat} {f:FuncId} {args args':List V} {s s':St} {dst:Option Nat} {K:St→Prop} (h1:args=args') (h2:s=s'):E9 P m f args s dst K=E9 P m f args' s' dst K:=by rw[h1,h2]
theorem Uy{x:Operand}{args:Array Operand}{ts:Array TypeId}{dst:Option Nat}{K:St→Prop}:qb P ⟨.value x,args,ts⟩ s dst K=Qw P (ev s.tm x) (F5 s.tm args.toList) s dst K:=rfl
theorem RB{x y:Operand}{t u:TypeId}{dst:Option Nat}{K:St→Prop}:qb P ⟨.builtin .append,#[x,y],#[t,u]⟩ s dst K=uP P t u (ev s.tm x) (ev s.tm y) s dst K:=rfl
theorem ZE{x:Operand}{t:TypeId}{dst:Option Nat}{K:St→Prop}:qb P ⟨.builtin .len,#[x],#[t]⟩ s dst K=iA s dst K (EM P s.st t (ev s.tm x)):=rfl
theorem ZF{x y:Operand}{ts:Array TypeId}{dst:Option Nat}{K:St→Prop}:qb P ⟨.builtin .max,#[x,y],ts⟩ s dst K=iA s dst K (xB true (ev s.tm x) (ev s.tm y)):=rfl
theorem ZG{x y:Operand}{ts:Array TypeId}{dst:Option Nat}{K:St→Prop}:qb P ⟨.builtin .min,#[x,y],ts⟩ s dst K=iA s dst K (xB false (ev s.tm x) (ev s.tm y)):=rfl
theorem acD{x:Operand}{t:TypeId}{tm:List (Nat×V)}:nval P S tm (.call ⟨.builtin .len,#[x],#[t]⟩)=EM P S t (ev tm x):=rfl
def fE(P:Program)(mode:Option Nat)(f:FuncId)(args:List V)(s:St)(dst:Option Nat)(K:St→Prop):Prop:=
 match mode with
 |some m=>E9 P m f args s dst K
 |none=>zM P f args s dst K
@[congr] theorem aiu {dr:Option Nat} {f:FuncId} {args args':List V} {s s':St} {dst:Option Nat} {K:St→Prop} (h1:args=args') (h2:s=s'):fE P dr f args s dst K=fE P dr f args' s' dst K:=by rw[h1,h2]
theorem acE{f:Nat}{caps:List (Key×Nat)}{args:List V}{dst:Option Nat}{K:St→Prop}:Qw P (.c (.fn f caps)) args s dst K=fE P none f (args++Cc caps) s dst K:=rfl
theorem acF{m:Nat}{f:Nat}{caps:List (Key×Nat)}{args:List V}{dst:Option Nat}{K:St→Prop}:zQ P m (.c (.fn f caps)) args s dst K=fE P (some m) f (args++Cc caps) s dst K:=rfl
theorem aZ{dr:Option Nat}{f:FuncId}{args:List V}{dst:Option Nat}{K:St→Prop}{r:V}(h:aI P f (args.map V.sH) r)(hK:K (s.put dst r)):fE P dr f args s dst K:=by
 cases dr with
 |none=>exact EZ h hK
 |some m=>
  match m with
  |0=>exact⟨r,fun S=>(h S).sH,hK⟩
  |1=>exact⟨s.st,r,DS.refl _,EZ h rfl,hK⟩
  |m+2=>exact⟨s.st,r,EZ h rfl,hK⟩
def aeN:Option Nat→Bool
 |none=>true
 |some m=>decide (2≤m)
def aiR:Option Nat→Bool
 |none=>true
 |some m=>decide (1≤m)
theorem bJ{dr:Option Nat}{f:FuncId}{args:List V}{dst:Option Nat}{K:St→Prop}{r:V}{S1:Store}(hm:aeN dr=true)(h:cB P f args s.st (fun r' S'=>r'=r∧S'=S1))(hK:K (St.put ⟨s.tm,S1⟩ dst r)):fE P dr f args s dst K:=by
 cases dr with
 |none=>exact .inl ⟨_,h,fun r' S' e=>by rw[e.1,e.2];exact hK⟩
 |some m=>
  match m,hm with
  |0,hm=>cases hm
  |1,hm=>cases hm
  |m+2,_=>exact⟨S1,r,.inl ⟨_,h,fun r' S' e=>by rw[e.1,e.2]⟩,hK⟩
theorem ZH{dr:Option Nat}{f:FuncId}{args:List V}{dst:Option Nat}{K:St→Prop}{r:V}{S1:Store}(hm:aiR dr=true)(hd:DS s.st S1)(h:cB P f args s.st (fun r' S'=>r'=r∧S'=S1))(hK:K (St.put ⟨s.tm,S1⟩ dst r)):fE P dr f args s dst K:=by
 cases dr with
 |none=>exact .inl ⟨_,h,fun r' S' e=>by rw[e.1,e.2];exact hK⟩
 |some m=>
  match m,hm with
  |0,hm=>cases hm
  |1,_=>exact⟨S1,r,hd,.inl ⟨_,h,fun r' S' e=>by rw[e.1,e.2]⟩,hK⟩
  |m+2,_=>exact⟨S1,r,.inl ⟨_,h,fun r' S' e=>by rw[e.1,e.2]⟩,hK⟩
theorem ahn{f:FuncId}{args:List V}{dst:Option Nat}{K:St→Prop}{r:V}(h:Xk P f args r)(hK:K (St.put s dst r)):fE P none f args s dst K:=.inr ⟨r,h,hK⟩
def IE(P:Program)(R:Array Oper)(os:List Oper)(K:St→Prop)(s:St):Prop:=BS P R os s K
def IG(P:Program)(E:Md)(R:Array Oper)(os:List Oper)(K:St→Prop)(s:St):Prop:=uZ P E R os s K
@[congr] theorem aiv {R:Array Oper} {os:List Oper} {s s':St} {K:St→Prop} (h2:s=s'):IE P R os K s=IE P R os K s':=by rw[h2]
@[congr] theorem aiw {R:Array Oper} {os:List Oper} {s s':St} {K:St→Prop} (h2:s=s'):IG P E R os K s=IG P E R os K s':=by rw[h2]
section
variable {tm:List (Nat×V)} {R:Array Oper} {o:Oper} {os:List Oper} {K:St→Prop}
theorem acG:BS P R [] ⟨tm,S⟩ K=K ⟨tm,S⟩:=rfl
theorem ZI:BS P R (o::os) ⟨tm,S⟩ K=vF P R o ⟨tm,S⟩ (IE P R os K):=rfl
theorem ZJ:IE P R [] K ⟨tm,S⟩=K ⟨tm,S⟩:=rfl
theorem XB:IE P R (o::os) K ⟨tm,S⟩=vF P R o ⟨tm,S⟩ (IE P R os K):=rfl
theorem acH:uZ P E R [] ⟨tm,S⟩ K=K ⟨tm,S⟩:=rfl
theorem ZK:uZ P E R (o::os) ⟨tm,S⟩ K=uQ P E R o ⟨tm,S⟩ (IG P E R os K):=rfl
theorem ZL:IG P E R [] K ⟨tm,S⟩=K ⟨tm,S⟩:=rfl
theorem XC:IG P E R (o::os) K ⟨tm,S⟩=uQ P E R o ⟨tm,S⟩ (IG P E R os K):=rfl
end
section
variable {dst:Option Nat} {ty:TypeId} {pos:String} {after:Array Edge} {g:Option (Nat×Bool)} {K:St→Prop}
theorem XD{t:TypeId}:eF P ⟨dst,.alloc t,ty,pos,after,g⟩ s K=vD P t s dst K:=rfl
theorem acI{t:TypeId}{x:Operand}:eF P ⟨dst,.box t x,ty,pos,after,g⟩ s K=BP (ev s.tm x) s dst K:=rfl
theorem XE{t:TypeId}{a x:Operand}:eF P ⟨dst,.store t a x,ty,pos,after,g⟩ s K=vE P t (ev s.tm a) (ev s.tm x) s dst K:=rfl
theorem ZM{t:TypeId}{a x:Operand}:eF P ⟨dst,.makeSlice t a x,ty,pos,after,g⟩ s K=yF P t (ev s.tm a) (ev s.tm x) s dst K:=rfl
theorem RD{t:TypeId}:eF P ⟨dst,.makeMap t none,ty,pos,after,g⟩ s K=uN s dst K:=rfl
theorem Ng{t:TypeId}{x k v:Operand}:eF P ⟨dst,.mapUpdate t x k v,ty,pos,after,g⟩ s K=uO P t (ev s.tm x) (ev s.tm k) (ev s.tm v) s dst K:=rfl
theorem Uz{t:TypeId}{x i:Operand}:eF P ⟨dst,.lookup t x i false,ty,pos,after,g⟩ s K=iA s dst K (za P s.st t (ev s.tm x) (ev s.tm i)):=rfl
theorem PI{t:TypeId}:gG P E ⟨dst,.makeMap t none,ty,pos,after,g⟩ s K=uN s dst K:=rfl
theorem La{t:TypeId}{x k v:Operand}:gG P E ⟨dst,.mapUpdate t x k v,ty,pos,after,g⟩ s K=uO P t (ev s.tm x) (ev s.tm k) (ev s.tm v) s dst K:=rfl
theorem RF{t:TypeId}{x i:Operand}:gG P E ⟨dst,.lookup t x i false,ty,pos,after,g⟩ s K=iA s dst K (za P s.st t (ev s.tm x) (ev s.tm i)):=rfl
theorem ZN{c:Call}:eF P ⟨dst,.call c,ty,pos,after,g⟩ s K=qb P c s dst K:=rfl
theorem ZO{x:Operand}:eF P ⟨dst,.move x,ty,pos,after,g⟩ s K=K (s.put dst (ev s.tm x)):=by simp[eF,nval,tQ]
theorem UA{x:Operand}:eF P ⟨dst,.assign x,ty,pos,after,g⟩ s K=K (s.put dst (ev s.tm x)):=by simp[eF,nval,tQ]
theorem ZP{c a b:Operand}:eF P ⟨dst,.pick c a b,ty,pos,after,g⟩ s K=iA s dst K (Ir (ev s.tm c) (ev s.tm a) (ev s.tm b)):=rfl
theorem ZQ{t:TypeId}{a:Operand}:eF P ⟨dst,.load t a,ty,pos,after,g⟩ s K=iA s dst K (Bl P s.st t (ev s.tm a)):=rfl
theorem Nh{t:TypeId}{x:Operand}{f:Nat}:eF P ⟨dst,.fieldAddr t x f,ty,pos,after,g⟩ s K=iA s dst K (tL P s.st t (ev s.tm x) f):=rfl
theorem XF{t:TypeId}{x:Operand}{f:Nat}:eF P ⟨dst,.field t x f,ty,pos,after,g⟩ s K=iA s dst K (D9 P t (ev s.tm x) f):=rfl
theorem Ni{t:TypeId}{x i:Operand}:eF P ⟨dst,.indexAddr t x i,ty,pos,after,g⟩ s K=iA s dst K (tO P s.st t (ev s.tm x) (ev s.tm i)):=rfl
theorem XG{t:TypeId}{x i:Operand}:eF P ⟨dst,.index t x i,ty,pos,after,g⟩ s K=iA s dst K (Ea P t (ev s.tm x) (ev s.tm i)):=rfl
theorem XH{op:BinOp}{t u:TypeId}{x y:Operand}:eF P ⟨dst,.binOp op t x y u,ty,pos,after,g⟩ s K=iA s dst K (MZ P op t (ev s.tm x) (ev s.tm y)):=rfl
theorem ZR{op:UnOp}{t:TypeId}{x:Operand}:eF P ⟨dst,.unOp op t x,ty,pos,after,g⟩ s K=iA s dst K (VN op (ev s.tm x)):=rfl
theorem RG{a b:TypeId}{x:Operand}:eF P ⟨dst,.convert a b x,ty,pos,after,g⟩ s K=iA s dst K (Iw P a b (ev s.tm x)):=rfl
theorem RH{x:Operand}{i:Nat}:eF P ⟨dst,.extract x i,ty,pos,after,g⟩ s K=iA s dst K (y8 (ev s.tm x) i):=rfl
theorem PK{fn:Fn}{a b:Array Operand}:eF P ⟨dst,.makeFunc fn a b,ty,pos,after,g⟩ s K=iA s dst K (xM fn (F5 s.tm a.toList) (F5 s.tm b.toList)):=rfl
theorem PL{x:Operand}:eF P ⟨dst,.nilCheck x,ty,pos,after,g⟩ s K=iA s dst K (xO s.st (ev s.tm x)):=rfl
theorem XI{t:TypeId}{x:Operand}{lo hi mx:Option Operand}:eF P ⟨dst,.slice t x lo hi mx,ty,pos,after,g⟩ s K=iA s dst K (Eb P t (ev s.tm x) (OA s.tm lo) (OA s.tm hi) (OA s.tm mx)):=rfl
theorem XJ{t:TypeId}{parts:Array (Nat×Operand)}:eF P ⟨dst,.build t parts,ty,pos,after,g⟩ s K=iA s dst K (Ec P t (Rw s.tm parts.toList)):=rfl
theorem Lb{t:TypeId}{n:Nat}{parts:Array (Nat×Operand)}:eF P ⟨dst,.buildSlice t n parts,ty,pos,after,g⟩ s K=iA s dst K (r9 P (vC s.st) t n (Rw s.tm parts.toList)):=rfl
theorem UC{t:TypeId}:gG P E ⟨dst,.alloc t,ty,pos,after,g⟩ s K=vD P t s dst K:=rfl
theorem ZT{t:TypeId}{x:Operand}:gG P E ⟨dst,.box t x,ty,pos,after,g⟩ s K=BP (ev s.tm x) s dst K:=rfl
theorem UD{t:TypeId}{a x:Operand}:gG P E ⟨dst,.store t a x,ty,pos,after,g⟩ s K=vE P t (ev s.tm a) (ev s.tm x) s dst K:=rfl
theorem XK{t:TypeId}{a x:Operand}:gG P E ⟨dst,.makeSlice t a x,ty,pos,after,g⟩ s K=yF P t (ev s.tm a) (ev s.tm x) s dst K:=rfl
theorem RI{args:Array Operand}{ts:Array TypeId}:gG P E ⟨dst,.call ⟨.builtin .append,args,ts⟩,ty,pos,after,g⟩ s K=qb P ⟨.builtin .append,args,ts⟩ s dst K:=rfl
theorem XL{x:Operand}:gG P E ⟨dst,.move x,ty,pos,after,g⟩ s K=K (s.put dst (ev s.tm x)):=by simp[gG,sQ,nval,tQ]
theorem RJ{x:Operand}:gG P E ⟨dst,.assign x,ty,pos,after,g⟩ s K=K (s.put dst (ev s.tm x)):=by simp[gG,sQ,nval,tQ]
theorem XM{c a b:Operand}:gG P E ⟨dst,.pick c a b,ty,pos,after,g⟩ s K=iA s dst K (Ir (ev s.tm c) (ev s.tm a) (ev s.tm b)):=rfl
theorem XO{t:TypeId}{a:Operand}:gG P E ⟨dst,.load t a,ty,pos,after,g⟩ s K=iA s dst K (Bl P s.st t (ev s.tm a)):=rfl
theorem Lc{t:TypeId}{x:Operand}{f:Nat}:gG P E ⟨dst,.fieldAddr t x f,ty,pos,after,g⟩ s K=iA s dst K (tL P s.st t (ev s.tm x) f):=rfl
theorem UE{t:TypeId}{x:Operand}{f:Nat}:gG P E ⟨dst,.field t x f,ty,pos,after,g⟩ s K=iA s dst K (D9 P t (ev s.tm x) f):=rfl
theorem Ld{t:TypeId}{x i:Operand}:gG P E ⟨dst,.indexAddr t x i,ty,pos,after,g⟩ s K=iA s dst K (tO P s.st t (ev s.tm x) (ev s.tm i)):=rfl
theorem UF{t:TypeId}{x i:Operand}:gG P E ⟨dst,.index t x i,ty,pos,after,g⟩ s K=iA s dst K (Ea P t (ev s.tm x) (ev s.tm i)):=rfl
theorem UG{op:BinOp}{t u:TypeId}{x y:Operand}:gG P E ⟨dst,.binOp op t x y u,ty,pos,after,g⟩ s K=iA s dst K (MZ P op t (ev s.tm x) (ev s.tm y)):=rfl
theorem XP{op:UnOp}{t:TypeId}{x:Operand}:gG P E ⟨dst,.unOp op t x,ty,pos,after,g⟩ s K=iA s dst K (VN op (ev s.tm x)):=rfl
theorem PN{a b:TypeId}{x:Operand}:gG P E ⟨dst,.convert a b x,ty,pos,after,g⟩ s K=iA s dst K (Iw P a b (ev s.tm x)):=rfl
theorem PO{x:Operand}{i:Nat}:gG P E ⟨dst,.extract x i,ty,pos,after,g⟩ s K=iA s dst K (y8 (ev s.tm x) i):=rfl
theorem Nj{fn:Fn}{a b:Array Operand}:gG P E ⟨dst,.makeFunc fn a b,ty,pos,after,g⟩ s K=iA s dst K (xM fn (F5 s.tm a.toList) (F5 s.tm b.toList)):=rfl
theorem Nk{x:Operand}:gG P E ⟨dst,.nilCheck x,ty,pos,after,g⟩ s K=iA s dst K (xO s.st (ev s.tm x)):=rfl
theorem UH{t:TypeId}{x:Operand}{lo hi mx:Option Operand}:gG P E ⟨dst,.slice t x lo hi mx,ty,pos,after,g⟩ s K=iA s dst K (Eb P t (ev s.tm x) (OA s.tm lo) (OA s.tm hi) (OA s.tm mx)):=rfl
theorem UJ{t:TypeId}{parts:Array (Nat×Operand)}:gG P E ⟨dst,.build t parts,ty,pos,after,g⟩ s K=iA s dst K (Ec P t (Rw s.tm parts.toList)):=rfl
theorem JV{t:TypeId}{n:Nat}{parts:Array (Nat×Operand)}:gG P E ⟨dst,.buildSlice t n parts,ty,pos,after,g⟩ s K=iA s dst K (r9 P (vC s.st) t n (Rw s.tm parts.toList)):=rfl
theorem ZU{args:Array Operand}{ts:Array TypeId}:gG P E ⟨dst,.call ⟨.builtin .len,args,ts⟩,ty,pos,after,g⟩ s K=iA s dst K (nval P s.st s.tm (.call ⟨.builtin .len,args,ts⟩)):=rfl
theorem ZV{x y:Operand}{ts:Array TypeId}:gG P E ⟨dst,.call ⟨.builtin .max,#[x,y],ts⟩,ty,pos,after,g⟩ s K=iA s dst K (xB true (ev s.tm x) (ev s.tm y)):=rfl
theorem ZW{x y:Operand}{ts:Array TypeId}:gG P E ⟨dst,.call ⟨.builtin .min,#[x,y],ts⟩,ty,pos,after,g⟩ s K=iA s dst K (xB false (ev s.tm x) (ev s.tm y)):=rfl
theorem XQ{x:Operand}{args:Array Operand}{ts:Array TypeId}:gG P E ⟨dst,.call ⟨.value x,args,ts⟩,ty,pos,after,g⟩ s K=zQ P (E (.call ⟨.value x,args,ts⟩)) (ev s.tm x) (F5 s.tm args.toList) s dst K:=by
 simp only[gG,sQ]
 generalize E (.call ⟨.value x,args,ts⟩)=m
 match m with
 |0=>
  simp only[EW]
  generalize ev s.tm x=fv
  cases fv with
  |c x=>cases x<;>simp[zQ,E9,Cc,F5]
  |_=>simp[zQ]
 |1=>
  simp only[eF,qb]
  generalize ev s.tm x=fv
  cases fv with
  |c x=>cases x<;>simp[zQ,E9,Cc,F5]
  |_=>simp[zQ]
 |m+2=>
  simp only[eF,qb]
  generalize ev s.tm x=fv
  cases fv with
  |c x=>cases x<;>simp[zQ,E9,Cc,F5]
  |_=>simp[zQ]
end
def II(v:V)(A B:St→Prop)(s:St):Prop:=
 match v with
 | .c (.d (.b x))=>Split x A B s
 |_=>False
def CW(P:Program)(N:Nat):Code→(Exit→St→Prop)→St→Prop
 | .seq x y,Q,s=>CW P N x (oC (CW P N y Q) Q) s
 | .region _ R false,Q,s=>BS P R R.toList s (Q .normal)
 | .region _ R true,Q,s=>uZ P (K3 R N) R R.toList s (Q .normal)
 | .cond c x y,Q,s=>II (ev s.tm c) (CW P N x Q) (CW P N y Q) s
 | .block id c,Q,s=>CW P N c (Bo id Q) s
 | .exit id,Q,s=>Q (.exit id) s
 | .ret,Q,s=>Q .ret s
 | .skip,Q,s=>Q .normal s
 | .loop c,Q,s=>AW P N (.loop c) Q s
 |_,_,_=>False
def aiS(N:Nat)(R:Array Oper):Bool:=R.toList.all (fun o=>match o.dst with|some d=>decide (d<N)|none=>true)
def codeOk(N:Nat):Code→Bool
 | .seq x y=>codeOk N x&&codeOk N y
 | .region _ R false=>aiS N R
 | .region _ R true=>Nb R N
 | .cond _ x y=>codeOk N x&&codeOk N y
 | .block _ c=>codeOk N c
 | .loop c=>codeOk N c
 |_=>true
theorem oM(kQ:P.follows .mixedOrders=true):∀(c:Code) (Q:Exit→St→Prop) (s:St),codeOk N c=true→CW P N c Q s→AW P N c Q s
 | .seq x y,Q,s,ok,h=>by
   simp only[codeOk,Bool.and_eq_true] at ok
   refine Zp (AW.mono (oM kQ x _ s ok.1 h) fun e s' h'=> ?_)
   cases e with
   |normal=>exact oM kQ y Q s' ok.2 h'
   |_=>exact h'
 | .region _ R false,Q,s,ok,h=>Zq ok h
 | .region _ R true,Q,s,ok,h=>Xu kQ ok h
 | .cond c x y,Q,s,ok,h=>by
   simp only[codeOk,Bool.and_eq_true] at ok
   simp only[CW,II] at h
   split at h
   ·rename_i b hb
    exact afe hb (fun e=>oM kQ x Q s ok.1 (h.1 e)) (fun e=>oM kQ y Q s ok.2 (h.2 e))
   ·exact h.elim
 | .block id c,Q,s,ok,h=>abW (oM kQ c _ s ok h)
 | .exit id,Q,s,ok,h=>afd h
 | .ret,Q,s,ok,h=>ag5 h
 | .skip,Q,s,ok,h=>afc h
 | .loop c,Q,s,ok,h=>h
 | .rangeFunc _ _ _ _,Q,s,ok,h=>h.elim
 | .scope _,Q,s,ok,h=>h.elim
 | .label _,Q,s,ok,h=>h.elim
 | .goto _,Q,s,ok,h=>h.elim
 | .refuse _,Q,s,ok,h=>h.elim
theorem aho{x y:Code}{Q:Exit→St→Prop}:CW P N (.seq x y) Q s=CW P N x (oC (CW P N y Q) Q) s:=by rw[CW]
theorem ZX{id:Nat}{l:List Oper}{Q:Exit→St→Prop}:CW P N (.region id ⟨l⟩ false) Q s=BS P ⟨l⟩ l s (Q .normal):=by rw[CW]
theorem afv{id:Nat}{l:List Oper}{Q:Exit→St→Prop}:CW P N (.region id ⟨l⟩ true) Q s=uZ P (K3 ⟨l⟩ N) ⟨l⟩ l s (Q .normal):=by rw[CW]
theorem afw{c:Operand}{x y:Code}{Q:Exit→St→Prop}:CW P N (.cond c x y) Q s=II (ev s.tm c) (CW P N x Q) (CW P N y Q) s:=by rw[CW]
theorem acJ{id:Nat}{c:Code}{Q:Exit→St→Prop}:CW P N (.block id c) Q s=CW P N c (Bo id Q) s:=by rw[CW]
theorem afx{id:Nat}{Q:Exit→St→Prop}:CW P N (.exit id) Q s=Q (.exit id) s:=by rw[CW]
theorem ahp{Q:Exit→St→Prop}:CW P N .ret Q s=Q .ret s:=by rw[CW]
theorem afy{Q:Exit→St→Prop}:CW P N .skip Q s=Q .normal s:=by rw[CW]
theorem afz{c:Code}{Q:Exit→St→Prop}:CW P N (.loop c) Q s=AW P N (.loop c) Q s:=by rw[CW]
theorem RL{K:St→Prop}{Q:Exit→St→Prop}:oC K Q .normal s=K s:=rfl
theorem ZY{K:St→Prop}{Q:Exit→St→Prop}:oC K Q .ret s=Q .ret s:=rfl
theorem XR{K:St→Prop}{Q:Exit→St→Prop}{i:Nat}:oC K Q (.exit i) s=Q (.exit i) s:=rfl
theorem RN{id:Nat}{Q:Exit→St→Prop}:Bo id Q .normal s=Q .normal s:=rfl
theorem Z0{id:Nat}{Q:Exit→St→Prop}:Bo id Q .ret s=Q .ret s:=rfl
theorem XT{id i:Nat}{Q:Exit→St→Prop}:Bo id Q (.exit i) s=if i=id then Q .normal s else Q (.exit i) s:=rfl
def acK(post:V→Store→Prop)(s:St)(r:R):Prop:=r.1∧match r.2.ret with
 |some v=>post v (gY s.st)
 |none=>False
theorem afA{post:V→Store→Prop}{p:Prop}{v:V}:acK post s (p,v)=(p∧match v.ret with
 |some v=>post v (gY s.st)
 |none=>False):=rfl
def acL(P:Program)(rs:List ResultVar)(post:V→Store→Prop)(e:Exit)(s:St):Prop:=abX P rs post e (Ei s)
def RO(P:Program)(rs:List ResultVar)(post:V→Store→Prop)(s:St):Prop:=acK post s (uY P rs s)
theorem acM{rs:List ResultVar}{post:V→Store→Prop}:acL P rs post .ret s=RO P rs post (Ei s):=rfl
theorem UK{rs:List ResultVar}{post:V→Store→Prop}:acL P rs post .normal s=RO P rs post (Ei s):=rfl
theorem afB{rs:List ResultVar}{post:V→Store→Prop}{tm:List (Nat×V)}:RO P rs post ⟨tm,S⟩=acK post ⟨tm,S⟩ (uY P rs ⟨tm,S⟩):=rfl
def ahq(j:Nat)(es:List (List D))(tm:List (Nat×V)):List (Nat×V):=tm.map fun x=>(x.1,x.2.oQ j es)
theorem Z4{j:Nat}{es:List (List D)}{tm:List (Nat×V)}{t:Nat}:look (ahq j es tm) t=(look tm t).oQ j es:=E8 (f:=V.oQ j es) rfl tm t
def ahr(j:Nat)(tm:List (Nat×V))(own:List Obj)(Ω:Store):Option Obj→St
 |some (.iH _ es)=>⟨ahq j es tm,(own.map (Obj.oQ j es)).set j .dead::Ω⟩
 |_=>⟨tm,own::Ω⟩
theorem acN{j:Nat}{tm:List (Nat×V)}{own:List Obj}{Ω:Store}:K8 j ⟨tm,own::Ω⟩=ahr j tm own Ω (own[j]?):=by
 unfold K8
 simp only
 generalize own[j]? =o
 cases o with
 |none=>rfl
 |some o=>cases o<;>rfl
theorem Z5{tm:List (Nat×V)}{own:List Obj}{Ω:Store}:Ei ⟨tm,own::Ω⟩=K9 own.length ⟨tm,own::Ω⟩:=rfl
theorem aG{f:FuncId}{fn:Func}{c:Code}{args:List V}{post:V→Store→Prop}{rs:List ResultVar}(kQ:P.follows .mixedOrders=true)(hf:P.funcs[f]? =some fn)(hN:fn.ntmps=N)
 (hb:fn.body=some c) (hn:(fn.name== "runtime.NumGoroutine")=false) (hr:fn.results.toList=rs) (hl:Nat.ble args.length N=true) (hok:codeOk N c=true)
 (h:CW P N c (acL P rs post) ⟨rM (args.map (V.up 1)) 0,[]::S⟩):cB P f args S post:=by
 subst hN
 subst hr
 exact zN hf hb hn (Nat.le_of_ble_eq_true hl) (GH Ru (oM kQ c _ _ hok h))
end
end Go.Ab
namespace Go.Ab
theorem VZ(n:Int)(h: -9223372036854775808≤n∧n≤9223372036854775807):IntKind.i64.wrap n=n:=IntWalk.i64_in n h
theorem wrap_u8(n:Int)(h:0≤n∧n≤255):IntKind.u8.wrap n=n:=IntWalk.u8_in n h
theorem getD_map{α β:Type}(f:α→β)(l:List α)(i:Nat)(d:β)(h:i<l.length):(l.map f).getD i d=f l[i]:=by
 simp[List.getD,h]
theorem XU{k:IntKind}{n:Int}:BL (.int k n)=.c (.d (.i k n)):=rfl
theorem UL{b:Bool}:BL (.bool b)=.c (.d (.b b)):=rfl
theorem XV{l:List UInt8}:BL (.string ⟨⟨l⟩⟩)=.c (.d (.s l)):=rfl
theorem UM:BL (.slice none 0 0)=.c (.bO []):=rfl
theorem acO{tm:List (Nat×V)}{S:Store}{d:Nat}{v:V}:St.put ⟨tm,S⟩ (some d) v=⟨(d,v)::tm,S⟩:=rfl
theorem acP{tm:List (Nat×V)}{S:Store}{v:V}:St.put ⟨tm,S⟩ none v=⟨tm,S⟩:=rfl
theorem ahs{a b:V}:Ir (.c (.d (.b true))) a b=(True,a):=rfl
theorem aht{a b:V}:Ir (.c (.d (.b false))) a b=(True,b):=rfl
theorem UN{tm:List (Nat×V)}{own:List Obj}{Ω:Store}{dst:Option Nat}{o:Obj}{mk:Key→V}{K:St→Prop}:
 newObj ⟨tm,own::Ω⟩ dst o mk K=K (St.put ⟨tm,(own++[o])::Ω⟩ dst (mk (0,own.length))):=rfl
theorem ahu{x:C}{s:St}{dst:Option Nat}{K:St→Prop}:BP (.c x) s dst K=newObj s dst (.box [x]) (fun k=>.c (.ptr k 0)) K:=rfl
theorem acQ{x:List C}{s:St}{dst:Option Nat}{K:St→Prop}:BP (.agg x) s dst K=newObj s dst (.box x) (fun k=>.c (.ptr k 0)) K:=rfl
theorem acR{α β:Type}{f:α→Option β}:([]:List α).mapM f=some []:=by simp
theorem Z6{α β:Type}{f:α→Option β}{x:α}{xs:List α}:(x::xs).mapM f=(f x).bind fun y=>(xs.mapM f).bind fun ys=>some (y::ys):=by
 rw[List.mapM_cons];rfl
theorem aiT{c:C}:C.down 0 c=some c:=by cases c<;>simp[C.down]
theorem acS{n m j:Nat}{es:List (List D)}:C.down n (.bS (n+m,j) es)=some (.bS (m,j) es):=by simp[C.down]
theorem Z7{n j:Nat}{es:List (List D)}:C.down n (.bS (n,j) es)=some (.bS (0,j) es):=by simp[C.down]
theorem ahv{n:Nat}{x:D}:C.down n (.d x)=some (.d x):=rfl
theorem acT{n:Nat}:C.down n .any=some .any:=rfl
theorem acU{n:Nat}{es:List (List D)}:C.down n (.bO es)=some (.bO es):=rfl
theorem acV{n m j off:Nat}:C.down n (.ptr (n+m,j) off)=some (.ptr (m,j) off):=by simp[C.down]
theorem Z8{n j off:Nat}:C.down n (.ptr (n,j) off)=some (.ptr (0,j) off):=by simp[C.down]
theorem acW{n m:Nat}{es:List (List D)}:C.down n (.kW m es)=some (.kW m es):=rfl
theorem acX{Ω:Store}:vC ([]::Ω)=none:=rfl
theorem acY{cs:List C}{own:List Obj}{Ω:Store}:vC ((.box cs::own)::Ω)=none:=rfl
theorem acZ{z:Nat}{es:List (List D)}{own:List Obj}{Ω:Store}:vC ((.tok z es::own)::Ω)=none:=rfl
theorem Z9{z:Nat}{es:List (List D)}{own:List Obj}{Ω:Store}:vC ((.iH z es::own)::Ω)=none:=rfl
theorem afC{m:List (List UInt8)}{own:List Obj}{Ω:Store}:vC ((.mp m::own)::Ω)=none:=rfl
theorem aac{own:List Obj}{Ω:Store}:vC ((.dead::own)::Ω)=none:=rfl
theorem aad{n z:Nat}{es:List (List D)}{own:List Obj}{Ω:Store}:vC ((.fF n z es::own)::Ω)=none:=rfl
theorem aae{n:Nat}{own:List Obj}{Ω:Store}:vC ((.seed n::own)::Ω)=some n:=rfl
theorem aaf{es x:List (List D)}{z:Nat}{s:St}{dst:Option Nat}{K:St→Prop}:BQ none es s dst z x K=newObj s dst (.tok z x) (fun k=>.c (.bS k x)) K:=rfl
theorem ac0{n:Nat}{x:List (List D)}{z:Nat}{s:St}{dst:Option Nat}{K:St→Prop}:BQ (some n) [] s dst z x K=K (St.put ⟨s.tm,s.st⟩ dst (.c (.d (.ol n x)))):=rfl
theorem aag{n:Nat}{y:List D}{es x:List (List D)}{z:Nat}{s:St}{dst:Option Nat}{K:St→Prop}:BQ (some n) (y::es) s dst z x K=newObj s dst (.tok z x) (fun k=>.c (.bS k x)) K:=rfl
theorem XW{n:Nat}{x:List (List D)}{z:Nat}{s:St}{dst:Option Nat}{K:St→Prop}:DI false n s dst z x K=newObj s dst (.fF n z x) (fun k=>.c (.bS k x)) K:=rfl
theorem aah{n:Nat}{x:List (List D)}{z:Nat}{s:St}{dst:Option Nat}{K:St→Prop}:DI true n s dst z x K=K (St.put ⟨s.tm,s.st⟩ dst (.c (.d (.ol n x)))):=rfl
theorem ac1{own:List Obj}{Ω:Store}:Xj (own::Ω)=yG own[1]? :=rfl
theorem XY:yG none=false:=rfl
theorem aai{cs:List C}:yG (some (.box cs))=false:=rfl
theorem aaj{z:Nat}{es:List (List D)}:yG (some (.tok z es))=false:=rfl
theorem XZ{n z:Nat}{es:List (List D)}:yG (some (.fF n z es))=false:=rfl
theorem X0{z:Nat}{es:List (List D)}:yG (some (.iH z es))=false:=rfl
theorem X3:yG (some .dead)=false:=rfl
theorem ac2{m:List (List UInt8)}:yG (some (.mp m))=false:=rfl
theorem UO:yG (some (.seed 0))=false:=rfl
theorem UQ:yG (some (.seed 1))=true:=rfl
attribute [go_sem] aaf ac0 aag XW aah ac1 XY aai aaj XZ X0 X3 ac2 UO UQ
theorem ac3{P:Program}{t:TypeId}{n:Nat}{parts:List (Nat×V)}:r9 P none t n parts=uL P t n parts:=rfl
def aeO(m:Nat):R→R
 |(p,.c (.bO es))=>(p,.c (.kW m es))
 |_=>no
theorem ac4{m:Nat}{p:Prop}{es:List (List D)}:aeO m (p,.c (.bO es))=(p,.c (.kW m es)):=rfl
theorem ac5{P:Program}{m:Nat}{t:TypeId}{n:Nat}{parts:List (Nat×V)}:r9 P (some m) t n parts=aeO m (uL P t n parts):=rfl
attribute [go_sem_proc] Nat.reduceEqDiff Nat.reduceAdd Nat.reduceLeDiff Nat.reduceSub Nat.reduceMul Nat.reduceBEq Int.reduceEq Int.reduceLT Int.reduceLE Int.reduceGT Int.reduceGE Int.reduceNeg Int.reduceToNat
attribute [go_sem_proc ↓] reduceIte
attribute [wf_preprocess] decide_eq_true_eq decide_eq_false_iff_not Bool.not_eq_true Bool.not_eq_false Bool.not_eq_eq_eq_not Bool.not_true Bool.not_false Classical.not_not
attribute [go_sem ↓] acG ZI ZJ XB acH ZK ZL XC Uw Ux Rz RA afu acB ZB aho ZX afv afw acJ afx ahp afy afz RL ZY XR RN Z0 XT acM UK Z5 Uy RB ZE ZF ZG ZV ZW XD acI XE ZM RD Ng Uz PI La RF ZN ZO UA ZP ZQ Nh XF Ni XG XH ZR RG RH PK PL XI XJ Lb UC ZT UD XK RI XL RJ XM XO Lc UE Ld UF UG XP PN PO Nj Nk UH UJ JV ZU XQ
attribute [go_sem] Cb Xz Uv acC afB afA II K9 acN ahr Z4 V.oQ C.oQ Obj.oQ acD acE acF Cc
 Xx Xy afs acw acy acz aft acA ev XU UL XV UM D8 acO acP look ahs aht UN ahu acQ vD vE yF uP Xi
 Bl Iu AJ headD WQ tL D9 CV z8 tO Ea WU WV MZ VN Iw y8 EM Eb yB xM capOf xO
 QK xB za uN uO wQ bI bQ C.up V.up AY gU rM V.sH C.sH aiT acS Z7 ahv acT acU acV Z8
 List.map_cons List.map_nil List.append_nil List.nil_append List.length_nil List.length_cons List.cons_append Option.map_some Option.map_none Option.bind_some Option.bind_none
 List.getElem?_cons_zero List.getElem?_cons_succ List.set_cons_zero List.set_cons_succ List.drop_zero List.drop_succ_cons List.drop_nil List.take_zero List.take_succ_cons List.take_nil
 if_true if_false true_and and_true Int.toNat_natCast List.getElem?_toArray List.size_toArray Nat.zero_add Nat.add_zero Bool.false_eq_true Bool.true_eq_false Bool.not_true Bool.not_false reduceCtorEq
 decide_true decide_false List.all_cons List.all_nil Bool.and_true Bool.true_and Option.isSome_some Option.isSome_none VZ getD_map acR Z6 KD splice List.length_map EN Ec y9 uL List.size_toArray acX acY acZ Z9 afC aac aad aae ac3 ac5 ac4 acW
section
variable {P:Program} {S S':Store} {N:Nat} {s:St}
def jo:List Nat→List V→List (Nat×V)
 |t::ts,v::vs=>(t,v)::jo ts vs
 |_,_=>[]
theorem Ce(f:Nat→V):∀(ts:List Nat) (t:Nat),look (jo ts (ts.map f)) t=f t∨look (jo ts (ts.map f)) t=.any
 |[],t=>.inr rfl
 |u::us,t=>by
  show(if u=t then f u else look (jo us (us.map f)) t)=f t∨(if u=t then f u else look (jo us (us.map f)) t)=.any
  by_cases e:u=t
  ·left;rw[if_pos e,e]
  ·rw[if_neg e];exact Ce f us t
def Inv{ι:Type}(N:Nat)(ts:List Nat)(f:ι→List V)(g:ι→Store)(p:ι→Prop)(μ:ι→Nat)(i:ι)(s':St):Prop:=∃j s0,μ j<μ i∧iN N s' s0∧ts.map (look s0.tm)=f j∧s0.st=g j∧p j
theorem bP{ι:Type}{ts:List Nat}{f:ι→List V}{g:ι→Store}{p:ι→Prop}{μ:ι→Nat}{i:ι}(j:ι)(h1:μ j<μ i)(h2:ts.map (look s.tm)=f j)(h3:s.st=g j)(h4:p j):Inv N ts f g p μ i s:=
 ⟨j,s,h1,iN.refl _ _,h2,h3,h4⟩
theorem Cg:∀(ts:List Nat) (vs:List V),ts.Nodup→ts.length=vs.length→ts.map (look (jo ts vs))=vs
 |[],[],_,_=>rfl
 |t::ts,v::vs,hn,hl=>by
  have hn':=List.nodup_cons.1 hn
  have ih:=Cg ts vs hn'.2 (by simpa using hl)
  simp only[jo,List.map_cons,look,if_true,List.cons.injEq,true_and]
  rw[←ih]
  refine List.map_congr_left fun u hu=> ?_
  have hne:t≠u:=fun e=>hn'.1 (e▸hu)
  rw[if_neg hne,ih]
theorem dh{ι:Type}{ts:List Nat}{f:ι→List V}{g:ι→Store}{p:ι→Prop}{μ:ι→Nat}{i:ι}{tm:List (Nat×V)}{own:List Obj}{Ω:Store}(n:Nat)(hnd:ts.Nodup)(j:ι)(h1:μ j<μ i)(h2:ts.map (look tm)=f j)(h3:own.take n::Ω=g j)
 (hr:kF n (jo ts (f j))=true) (ho:(own.take n).all (Obj.refs n)=true) (h4:p j):Inv N ts f g p μ i ⟨tm,own::Ω⟩:=by
 refine⟨j,⟨jo ts (f j),own.take n::Ω⟩,h1,?_,?_,h3,h4⟩
 ·have hg:iN N ⟨tm,own::Ω⟩ ⟨jo ts (f j),own::Ω⟩:=by
   rw[←h2]
   exact JU fun t=>Ce _ ts t
  exact hg.trans (K6 n hr ho)
 ·exact Cg ts (f j) hnd (by rw[←h2];simp)
theorem aT{ι:Type}{c:Code}{Q:Exit→St→Prop}(kQ:P.follows .mixedOrders=true)(hok:codeOk N c=true)(ts:List Nat)(f:ι→List V)(g:ι→Store)(p:ι→Prop)(μ:ι→Nat)(i0:ι)
 (h1:ts.map (look s.tm)=f i0) (h2:s.st=g i0) (h3:p i0)
 (round:∀i,p i→CW P N c (oC (Inv N ts f g p μ i) Q) ⟨jo ts (f i),g i⟩):AW P N (.loop c) Q s:=by
 refine aff (ι:=ι) (fun i s=>∃s0,iN N s s0∧ts.map (look s0.tm)=f i∧s0.st=g i∧p i) μ i0 ⟨s,iN.refl _ _,h1,h2,h3⟩ fun i s hI=> ?_
 obtain⟨s0,hg,h1,h2,h3⟩:=hI
 refine oK ?_ hg
 have hr:=(oM kQ c _ _ hok (round i h3)).mono (Q':=oC (fun s'=>∃j,μ j<μ i∧∃s0,iN N s' s0∧ts.map (look s0.tm)=f j∧s0.st=g j∧p j) Q) fun e s' h=>by
  cases e with
  |normal=>
   obtain⟨j,s0,a1,a2,a3,a4,a5⟩:=h
   exact⟨j,a1,s0,a2,a3,a4,a5⟩
  |_=>exact h
 obtain⟨tm,st⟩:=s0
 simp only at h1 h2
 subst h2
 rw[←h1] at hr
 exact aiL hr fun t=>Ce _ ts t
theorem ac6:uY P [] s=(True,.dY []):=rfl
theorem ac7{x:ResultVar}:uY P [x] s=yI P s x:=rfl
theorem ac8{x y:ResultVar}{z:List ResultVar}:uY P (x::y::z) s=(match(qX P s (x::y::z)).2 with
 |some ys=>((qX P s (x::y::z)).1,.dY ys)
 |none=>no):=rfl
end
attribute [go_sem] Gu Qs
attribute [go_sem] jo ac6 ac7 ac8 yI qX KV gY V.ret Iz
end Go.Ab
namespace Go.Ab
section
variable {P:Program} {S S':Store} {N:Nat} {s:St}
theorem dR{α:Type}{fr:List α}{S:List (List α)}{l j:Nat}:bI (fr::S) (1+l,j)=bI S (l,j):=by rw[Nat.add_comm,dD]
theorem vI{α:Type}{fr:List α}{S:List (List α)}{l j:Nat}{x:α}:bQ (fr::S) (1+l,j) x=fr::bQ S (l,j) x:=by rw[Nat.add_comm,bQ]
theorem ahw{n l j:Nat}:AY n (l,j)=(n+l,j):=rfl
theorem X4{l j:Nat}{es:List (List D)}:C.ret (.bS (1+l,j) es)=some (.bS (l,j) es):=by
 rw[Nat.add_comm]
 show C.down 1 (.bS (l+1,j) es)=_
 simp[C.down]
theorem ret_tsl_0{j:Nat}{es:List (List D)}:C.ret (.bS (0,j) es)=some (.d (.sl es)):=rfl
theorem aiU{x:D}:C.ret (.d x)=some (.d x):=rfl
theorem afD:C.ret .any=some .any:=rfl
theorem afE{es:List (List D)}:C.ret (.bO es)=some (.bO es):=rfl
theorem afF{n:Nat}{es:List (List D)}:C.ret (.kW n es)=some (.kW n es):=rfl
theorem ac9{cs:List D}:C.ret (.ny cs)=some (.ny cs):=rfl
theorem afG{l j off:Nat}:C.ret (.ptr (1+l,j) off)=some (.ptr (l,j) off):=by
 rw[Nat.add_comm]
 show C.down 1 (.ptr (l+1,j) off)=_
 simp[C.down]
theorem afH{j:Nat}{es es':List (List D)}{k:Key}:C.oQ j es (.bS k es')=.bS k es':=rfl
theorem aiV{x:D}:C.sH (.d x)=.d x:=rfl
theorem afI:C.sH .any=.any:=rfl
theorem afJ{k:Key}{off:Nat}:C.sH (.ptr k off)=.ptr k off:=rfl
theorem ahx{f:Nat}{caps:List (Key×Nat)}:C.sH (.fn f caps)=.fn f caps:=rfl
theorem afK{k:Key}:C.sH (.og k)=.og k:=rfl
theorem ada{cs:List D}:C.sH (.ny cs)=.ny cs:=rfl
theorem aiW{j:Nat}{es:List (List D)}{x:D}:C.oQ j es (.d x)=.d x:=rfl
theorem afL{j:Nat}{es:List (List D)}:C.oQ j es .any=.any:=rfl
theorem afM{j:Nat}{es es':List (List D)}:C.oQ j es (.bO es')=.bO es':=rfl
theorem afN{j:Nat}{es:List (List D)}{k:Key}{off:Nat}:C.oQ j es (.ptr k off)=.ptr k off:=rfl
theorem ahy{j:Nat}{es:List (List D)}{f:Nat}{caps:List (Key×Nat)}:C.oQ j es (.fn f caps)=.fn f caps:=rfl
theorem afO{j n:Nat}{es es':List (List D)}:C.oQ j es (.kW n es')=.kW n es':=rfl
theorem afP{n:Nat}{es:List (List D)}:C.sH (.kW n es)=.kW n es:=rfl
theorem adb{j:Nat}{es:List (List D)}{cs:List D}:C.oQ j es (.ny cs)=.ny cs:=rfl
theorem afQ{j i:Nat}{es:List (List D)}:C.oQ j es (.og (0,i))=if i=j then .d (.sl es) else .og (0,i):=rfl
theorem cB.ade{f:FuncId}(i:Nat){es:List (List D)}{bE:Nat}{args:List V}{post post':V→Store→Prop}(hi:args[i]? =some (.c (.bO es)))(hes:∀e∈es,e.length=bE)
 (h:cB P f ((args.map (V.up 1)).set i (.c (.bS (0,0) es))) ([.tok bE es]::S) post)
 (hp:∀r fr S',post r (fr::S')→∃r',r.ret=some r'∧post' r' S'):cB P f args S post':=by
 refine⟨h.1,fun w σ β vs hS hargs=> ?_⟩
 obtain⟨v,hv0,⟨hd,ad,n,hval⟩,hone⟩:=hargs.2 i _ hi
 ·have hn:n=es.length:=by rw[hval] at hd;cases hd<;>rfl
  have hg:Grow w σ w σ:=Grow.refl hS.live
  obtain⟨hS',hk,hst⟩:=hS.up1.push (o:=.tok bE es) (h:=v) hg rfl ⟨hd,hes,ad,n,by rw[hval,hn],by omega,.inl hn⟩ (fun b hb=>by
   rw[hval,hn] at hb
   cases ad<;>simp[owns,blk] at hb)
  have hargs':p9 w σ ([.tok bE es]::S) ([v]::β) ((args.map (V.up 1)).set i (.c (.bS (0,0) es))) vs:=by
   refine⟨by have:=hargs.1;simpa using this,fun j x hx=> ?_⟩
   rw[List.getElem?_set] at hx
   by_cases e:i=j
   ·subst e
    rw[if_pos rfl] at hx
    split at hx
    ·cases hx
     refine⟨v,hv0,⟨hd,.tok bE es,rfl,fun a b e=> ?_⟩,hone⟩
     obtain⟨_,rfl⟩:=oI (lab:=none) e
     exact⟨Nat.le_refl _,fun _=>rfl⟩
    ·cases hx
   ·rw[if_neg e,List.getElem?_map] at hx
    cases ha:args[j]? with
    |none=>rw[ha] at hx;cases hx
    |some y=>
     rw[ha] at hx;cases hx
     obtain⟨u,hu,hr⟩:=hargs.2 j y ha
     exact⟨u,hu,Na (S:=[.tok bE es]::S) (β:=[v]::β) 1 hr⟩
  refine(h.2 w σ ([v]::β) vs hS' hargs').mono fun e w' ⟨v',r,S1,σ',β',he,hS1,hk1,Nl,hr1,hpost⟩=> ?_
  have hO:∀b,Own ([.tok bE es]::S) ([v]::β) b→Own S β b:=by
   rintro b ⟨⟨l,j⟩,o,hv,h1,h2,h3⟩
   cases l with
   |zero=>
    rw[cO] at h1 h2
    cases j with
    |zero=>
     cases h1;cases h2
     rw[hval,hn] at h3
     cases ad<;>simp[owns,blk] at h3
    |succ j=>simp at h1
   |succ l=>rw[dD] at h1 h2;exact⟨(l,j),o,hv,h1,h2,h3⟩
  cases S1 with
  |nil=>
   obtain⟨o',h1,_⟩:=hk1 (0,0) _ rfl
   rw[qx] at h1;cases h1
  |cons fr S1=>
   cases β' with
   |nil=>have:=hS1.shape.1;simp at this
   |cons bo bΩ=>
    obtain⟨r',hr',hp'⟩:=hp r fr S1 hpost
    refine⟨v',r',S1,σ',bΩ,he,hS1.aeI,hk1.drop 1,⟨Nl.size,Nl.os,Nl.output,fun b hb ho=>Nl.far b hb (fun x=>ho (hO b x)),Nl.near,fun b hb=>(Nl.own b (Ow hb)).imp (hO b) id⟩,Rc hr' hr1,hp'⟩
end
attribute [go_sem] dR vI ahw X4 ret_tsl_0 aiU afD afE ac9 afG afH aiV afI afJ ahx afK ada aiW afL afM afN ahy adb afQ afF afO afP
end Go.Ab
namespace Go.Ab
section
variable {P:Program} {S S':Store} {N:Nat} {s:St}
theorem GI(S:Store)(β:Hs)(k:Key):Keep S β (bQ S k .dead) β:=by
 intro k' o ho
 by_cases e:k=k'
 ·subst e
  exact⟨.dead,dK _ _ _ _ ho,.inl rfl⟩
 ·exact⟨o,by rw[fZ _ _ _ _ e];exact ho,ni.refl _ _⟩
theorem Ag{k k':Key}{o:Obj}(h:bI (bQ S k .dead) k'=some o):(k=k'∧o=.dead)∨bI S k'=some o:=by
 by_cases e:k=k'
 ·subst e
  cases hg:bI S k with
  |none=>
   have:∀(S:Store) (k:Key),bI S k=none→bQ S k .dead=S:=by
    intro S
    induction S with
    |nil=>intro k _;rfl
    |cons fr S ih=>
     rintro⟨l,j⟩ h
     cases l with
     |zero=>
      rw[cO] at h
      rw[bQ,List.set_eq_of_length_le (List.getElem?_eq_none_iff.1 h)]
     |succ l=>rw[dD] at h;rw[bQ,ih _ h]
   rw[this S k hg,hg] at h
   cases h
  |some y=>
   rw[dK _ _ _ _ hg] at h
   cases h
   exact .inl ⟨rfl,rfl⟩
 ·rw[fZ _ _ _ _ e] at h
  exact .inr h
theorem RP(x:Obj):∀(S:Store) (k:Key),(bQ S k x).length=S.length
 |[],k=>rfl
 |fr::S,(0,j)=>by rw[bQ];simp
 |fr::S,(l+1,j)=>by rw[bQ,List.length_cons,RP x S,List.length_cons]
theorem V3(x:Obj):∀(S:Store) (k:Key) (l:Nat) (fr:List Obj),(bQ S k x)[l]? =some fr→∃CZ,S[l]? =some CZ∧CZ.length=fr.length
 |[],k,l,fr,h=>by simp[bQ] at h
 |f::S,(0,j),0,fr,h=>by rw[bQ] at h;simp at h;subst h;exact⟨f,rfl,by simp⟩
 |f::S,(0,j),l+1,fr,h=>by rw[bQ] at h;exact⟨fr,by simpa using h,rfl⟩
 |f::S,(i+1,j),0,fr,h=>by rw[bQ] at h;exact⟨fr,by simpa using h,rfl⟩
 |f::S,(i+1,j),l+1,fr,h=>by
  rw[bQ] at h
  simpa using V3 x S (i,j) l fr (by simpa using h)
theorem adf{w:World}{σ:Nat→Nat}{β:Hs}(k:Key)(hS:fK w σ S β):fK w σ (bQ S k .dead) β:=by
 have hn:gD w σ w σ:=(Grow.refl hS.live).near
 refine⟨fun k' o ho=> ?_,fun k1 k2 o1 o2 h1 h2 b e1 e2 e3 e4 e5 e6=> ?_,⟨by rw[RP];exact hS.shape.1,fun l fr hl=> ?_⟩,hS.live,hS.uW⟩
 ·rcases Ag ho with⟨rfl,rfl⟩|ho'
  ·cases hg:bI S k with
   |none=>
    exfalso
    have:=GI S β k
    rcases Ag (S:=S) (k:=k) (k':=k) ho with⟨_,_⟩|h
    ·
     have hne:bI (bQ S k .dead) k=none:=by
      have:∀(S:Store) (k:Key),bI S k=none→bI (bQ S k Obj.dead) k=none:=by
       intro S
       induction S with
       |nil=>intro k _;rw[bQ,qx]
       |cons fr S ih=>
        rintro⟨l,j⟩ h
        cases l with
        |zero=>
         rw[cO] at h
         rw[bQ,cO,List.set_eq_of_length_le (List.getElem?_eq_none_iff.1 h)]
         exact h
        |succ l=>rw[dD] at h;rw[bQ,dD];exact ih _ h
      exact this S k hg
     rw[hne] at ho;cases ho
    ·rw[hg] at h;cases h
   |some y=>
    obtain⟨h,hh,_⟩:=hS.obj k y hg
    exact⟨h,hh,trivial⟩
  ·obtain⟨h,hh,hr⟩:=hS.obj k' o ho'
   exact⟨h,hh,hr.mono hn ((GI S β k).drop k'.1) fun b _=>⟨rfl,rfl⟩⟩
 ·rcases Ag e1 with⟨_,rfl⟩|e1'
  ·cases e3
  ·rcases Ag e4 with⟨_,rfl⟩|e4'
   ·cases e6
   ·exact hS.apart k1 k2 o1 o2 h1 h2 b e1' e2 e3 e4' e5 e6
 ·obtain⟨CZ,h1,h2⟩:=V3 _ S k l fr hl
  obtain⟨gr,h3,h4⟩:=hS.shape.2 l CZ h1
  exact⟨gr,h3,by omega⟩
def Less(r r':V):Prop:=∀w σ S β v,dV w σ S β r v→dV w σ S β r' v
theorem Less.refl(r:V):Less r r:=fun _ _ _ _ _ h=>h
theorem cB.kill{f:FuncId}{args:List V}{post post':V→Store→Prop}(k:Key)(h:cB P f args S post)(hp:∀r S',post r S'→∃r',Less r r'∧(post' r' S'∨post' r' (bQ S' k .dead))):cB P f args S post':=by
 refine⟨h.1,fun w σ β vs hS hv=>(h.2 w σ β vs hS hv).mono fun e w' ⟨v,r,S',σ',β',h1,h2,h3,h4,h5,h6⟩=> ?_⟩
 obtain⟨r',hl,hp|hp⟩:=hp r S' h6
 ·exact⟨v,r',S',σ',β',h1,h2,h3,h4,hl _ _ _ _ _ h5,hp⟩
 ·have hkeep:=GI S' β' k
  refine⟨v,r',bQ S' k .dead,σ',β',h1,adf k h2,h3.trans hkeep,⟨h4.size,h4.os,h4.output,h4.far,h4.near,fun b hb=> ?_⟩,hl _ _ _ _ _ (h5.mono (Grow.refl h2.live).near hkeep),hp⟩
  obtain⟨k',o,hv,e1,e2,e3⟩:=hb
  rcases Ag e1 with⟨_,rfl⟩|e1'
  ·cases e3
  ·exact h4.own b ⟨k',o,hv,e1',e2,e3⟩
theorem bq{x y:Obj}:∀(S:Store) (k:Key),bQ (bQ S k x) k y=bQ S k y
 |[],k=>rfl
 |fr::S,(0,j)=>by rw[bQ,bQ,bQ];simp
 |fr::S,(l+1,j)=>by rw[bQ,bQ,bQ,bq S]
theorem jG{x:Obj}:∀(S:Store) (k:Key),bI S k=some x→bQ S k x=S
 |[],k,_=>rfl
 |fr::S,(0,j),h=>by
  rw[cO] at h
  rw[bQ]
  congr 1
  exact List.ext_getElem? fun i=>by
   rw[List.getElem?_set]
   split
   ·rename_i e;subst e
    obtain⟨h1,h2⟩:=List.getElem?_eq_some_iff.1 h
    simp[h1,h2]
   ·rfl
 |fr::S,(l+1,j),h=>by rw[dD] at h;rw[bQ,jG S _ h]
def wN:List Bool→List V→List V
 |true::m,v::vs=>v::wN m vs
 |false::m,v::vs=>v.sH::wN m vs
 |[],vs=>vs.map V.sH
 |_,[]=>[]
theorem JW:∀(m:List Bool) (vs:List V),vs.length=(wN m vs).length
 |true::m,v::vs=>by rw[wN,List.length_cons,List.length_cons,JW m vs]
 |false::m,v::vs=>by rw[wN,List.length_cons,List.length_cons,JW m vs]
 |[],vs=>by simp[wN]
 |true::m,[]=>rfl
 |false::m,[]=>rfl
theorem Nn:∀(m:List Bool) (vs:List V) (j:Nat) (x y:V),vs[j]? =some x→(wN m vs)[j]? =some y→y=x∨y=x.sH
 |true::m,v::vs,0,x,y,h1,h2=>by rw[wN] at h2;cases h1;cases h2;exact .inl rfl
 |false::m,v::vs,0,x,y,h1,h2=>by rw[wN] at h2;cases h1;cases h2;exact .inr rfl
 |true::m,v::vs,j+1,x,y,h1,h2=>by rw[wN] at h2;exact Nn m vs j x y h1 h2
 |false::m,v::vs,j+1,x,y,h1,h2=>by rw[wN] at h2;exact Nn m vs j x y h1 h2
 |[],vs,j,x,y,h1,h2=>by rw[wN,List.getElem?_map,h1] at h2;cases h2;exact .inr rfl
 |true::m,[],j,x,y,h1,h2=>by simp at h1
 |false::m,[],j,x,y,h1,h2=>by simp at h1
theorem cB.wN(m:List Bool){f:FuncId}{args:List V}{post:V→Store→Prop}(h:cB P f (Go.Ab.wN m args) S post):cB P f args S post:=
 h.weaken (JW m args) fun j x y hx hy w σ β v hr=>by
  rcases Nn m args j x y hx hy with e|e
  ·rw[e];exact hr
  ·rw[e];exact Rq hr
theorem pJ(m:List Bool){dr:Option Nat}{f:FuncId}{args:List V}{dst:Option Nat}{K:St→Prop}{r:V}{S1:Store}(hm:aeN dr=true)(h:cB P f (wN m args) s.st (fun r' S'=>r'=r∧S'=S1))(hK:K (St.put ⟨s.tm,S1⟩ dst r)):fE P dr f args s dst K:=
 bJ hm (h.wN m) hK
end
theorem aI.less{P:Program}{f:FuncId}{args:List V}{r r':V}(h:aI P f args r)(hl:Less r r'):aI P f args r':=
 fun S=>(h S).kill (0,0) fun r1 S' e=>⟨r',by rw[e.1];exact hl,.inl ⟨rfl,e.2⟩⟩
end Go.Ab
namespace Go.Ab
section
variable {P:Program} {S:Store}
def jL(n:Nat)(caps:List (Key×Nat)):List (Key×Nat):=caps.map fun y=>(AY n y.1,y.2)
theorem X5{n:Nat}:jL n []=[]:=rfl
theorem UR{n l j off:Nat}{caps:List (Key×Nat)}:jL n (((l,j),off)::caps)=((n+l,j),off)::jL n caps:=rfl
theorem OB{m n:Nat}{caps:List (Key×Nat)}:jL m (jL n caps)=jL (m+n) caps:=by
 unfold jL
 rw[List.map_map]
 refine List.map_congr_left fun y _=> ?_
 simp only[Function.comp,AY,Prod.mk.injEq,and_true]
 omega
theorem UU{n m g:Nat}{caps:List (Key×Nat)}:C.refs n (.fn g (jL (m+1) caps))=true:=by
 simp only[C.refs,jL,List.all_map,List.all_eq_true]
 intro x _
 have h:0<m+1+x.1.1:=by omega
 simp[Function.comp,nC,AY,h]
theorem RQ{n:Nat}{caps:List (Key×Nat)}:((jL 1 caps).all fun x=>nC n x.fst)=true:=UU (m:=0) (g:=0)
theorem RS:∀(F S:Store) (l j:Nat),bI (F++S) (F.length+l,j)=bI S (l,j)
 |[],S,l,j=>by simp
 |fr::F,S,l,j=>by
  rw[List.cons_append,List.length_cons,show F.length+1+l=(F.length+l)+1 from by omega,dD,RS F S l j]
theorem RU(x:Obj):∀(F S:Store) (l j:Nat),bQ (F++S) (F.length+l,j) x=F++bQ S (l,j) x
 |[],S,l,j=>by simp
 |fr::F,S,l,j=>by
  rw[List.cons_append,List.length_cons,show F.length+1+l=(F.length+l)+1 from by omega,bQ,RU x F S l j,List.cons_append]
theorem aak{F S:Store}{j:Nat}:bI (F++S) (F.length,j)=bI S (0,j):=RS F S 0 j
theorem aal{F S:Store}{j:Nat}{x:Obj}:bQ (F++S) (F.length,j) x=F++bQ S (0,j) x:=RU x F S 0 j
attribute [go_sem] aak aal X5 UR
def oV(P:Program)(g:Nat)(caps:List (Key×Nat))(S:Store)(xs:List V)(r:V):Prop:=
 ∀F:Store,cB P g (xs++Cc (jL F.length caps)) (F++S) (fun r' S'=>r'=r∧S'=F++S)
theorem oV.push{g:Nat}{caps:List (Key×Nat)}{xs:List V}{r:V}(h:oV P g caps S xs r)(fr:List Obj):oV P g (jL 1 caps) (fr::S) xs r:=fun F=>by
 have:=h (F++[fr])
 rw[OB]
 simpa using this
theorem oV.Np{g:Nat}{xs:List V}{r:V}(h:aI P g xs r):oV P g [] S xs r:=fun F=>by
 have:=h (F++S)
 simpa [jL,Cc] using this
def Fb(P:Program)(g:Nat)(caps:List (Key×Nat)){α X:Type}(st:α→Store)(I:Nat→α→Prop)(f:α→X→α)(xv:X→V)(ok:X→Prop):Prop:=
 ∀n a u,I (n+1) a→ok u→I n (f a u)∧∀F:Store,cB P g (xv u::Cc (jL F.length caps)) (F++st a) (fun r' S'=>r'=.dY []∧S'=F++st (f a u))
theorem Fb.push{g:Nat}{caps:List (Key×Nat)}{α X:Type}{st:α→Store}{I:Nat→α→Prop}{f:α→X→α}{xv:X→V}{ok:X→Prop}(h:Fb P g caps st I f xv ok)(fr:List Obj):
 Fb P g (jL 1 caps) (fun a=>fr::st a) I f xv ok:=fun n a u ha hu=>⟨(h n a u ha hu).1,fun F=>by
 have:=(h n a u ha hu).2 (F++[fr])
 rw[OB]
 simpa using this⟩
theorem rO{N:Nat}{c:Code}{Q:Exit→St→Prop}{tm:List (Nat×V)}{own:List Obj}{Ω:Store}(j i bE:Nat)(es:List (List D))(cs:List C)(hj:own[j]? =some (.box cs))(hi:cs[i]? =some (.bO es))(hes:∀e∈es,e.length=bE)
 (h:AW P N c Q ⟨tm,(own.set j (.box (cs.set i (.bS (0,own.length) es)))++[.tok bE es])::Ω⟩):AW P N c Q ⟨tm,own::Ω⟩:=by
 refine oK h fun a w σ β hR=> ?_
 obtain⟨bo,bΩ,rfl,hlen⟩:=frames hR
 have hjl:=(List.getElem?_eq_some_iff.1 hj).1
 have hg0:bI (own::Ω) (0,j)=some (.box cs):=by rw[cO];exact hj
 obtain⟨hb,Jj,hr⟩:=hR.S.obj (0,j) _ hg0
 obtain⟨b,cv,ty,rfl,hbc,hσ,hcs⟩:=hr
 have hcs:gK w σ (own::Ω) (bo::bΩ) cs cv.toList:=hcs
 obtain⟨v,hv,⟨hd,ad,n,hval⟩,hone⟩:=hcs.2 i _ hi
 have hn:n=es.length:=by rw[hval] at hd;cases hd<;>rfl
 have hg:Grow w σ w σ:=Grow.refl hR.S.live
 obtain⟨hS',hk,hst⟩:=hR.S.push (o:=.tok bE es) (h:=v) hg hlen ⟨hd,hes,ad,n,by rw[hval,hn],by omega,.inl hn⟩ (fun b hb=>by
  rw[hval,hn] at hb
  cases ad<;>simp[owns,blk] at hb)
 have hk1:bI ((own++[.tok bE es])::Ω) (0,j)=some (.box cs):=mO _ _ _ _ _ hg0
 have F6:bI ((bo++[v])::bΩ) (0,j)=some (.pointer (some ⟨b,0,none⟩)):=mO _ _ _ _ _ Jj
 have hko:ni (.box cs) (some (Value.pointer (some ⟨b,0,none⟩))) (.box (cs.set i (.bS (0,own.length) es))) (some (Value.pointer (some ⟨b,0,none⟩))):=.inr ⟨⟨_,rfl⟩,rfl⟩
 have hK:Keep ((own++[.tok bE es])::Ω) ((bo++[v])::bΩ) (bQ ((own++[.tok bE es])::Ω) (0,j) (.box (cs.set i (.bS (0,own.length) es)))) (bQ ((bo++[v])::bΩ) (0,j) (.pointer (some ⟨b,0,none⟩))):=by
  intro k1 o1 e1
  by_cases e:k1=(0,j)
  ·subst e
   rw[hk1] at e1;cases e1
   exact⟨_,dK _ _ _ _ hk1,by rw[F6,dK _ _ _ _ F6];exact hko⟩
  ·exact⟨o1,(fZ _ _ _ _ (Ne.symm e)).trans e1,by rw[fZ _ _ _ _ (Ne.symm e)];exact .refl _ _⟩
 have hne:(0,own.length)≠(0,j):=fun e=>by injection e with _ e;omega
 obtain⟨hS2,hk2,BZ⟩:=hS'.set (w':=w) (σ':=σ) (o':=.box (cs.set i (.bS (0,own.length) es))) (h':=.pointer (some ⟨b,0,none⟩)) hk1 F6 (Nat.le_refl _) rfl rfl (gD.refl _ _) hS'.live (fun _ _ _=>⟨rfl,rfl⟩) hko
  ⟨b,cv,ty,rfl,hbc,hσ,by
    refine⟨by rw[List.length_set];exact hcs.1,fun m x hm=> ?_⟩
    rw[List.getElem?_set] at hm
    by_cases e:i=m
    ·subst e
     rw[if_pos rfl] at hm
     split at hm
     ·cases hm
      refine⟨v,hv,⟨hd,.tok bE es,?_,fun a1 b1 e1=> ?_⟩,hone⟩
      ·show bI (bQ _ (0,j) _) (0,own.length)=_
       rw[fZ _ _ _ _ (Ne.symm hne),dH]
      ·obtain⟨_,rfl⟩:=oI (lab:=none) e1
       refine⟨Nat.le_refl _,fun _=> ?_⟩
       show bI (bQ _ (0,j) _) (0,own.length)=_
       rw[fZ _ _ _ _ (Ne.symm hne),←hlen,dH]
     ·cases hm
    ·rw[if_neg e] at hm
     obtain⟨u,hu,hc,ho⟩:=hcs.2 m x hm
     exact⟨u,hu,(hc.mono (gD.refl _ _) hk).mono (gD.refl _ _) hK,ho⟩⟩ (fun _ e=>.inl e)
 have est:bQ ((own++[.tok bE es])::Ω) (0,j) (.box (cs.set i (.bS (0,own.length) es)))=(own.set j (.box (cs.set i (.bS (0,own.length) es)))++[.tok bE es])::Ω:=by
  rw[bQ,List.set_append_left _ _ hjl]
 rw[est] at hS2 hk2 BZ
 exact⟨σ,_,⟨hR.size,hR.defers,hS2,fun u=>((hR.T u).mono (gD.refl _ _) hk).mono (gD.refl _ _) hk2⟩,hst.trans BZ,by
  have:=hk.trans hk2
  exact this.tail⟩
end
end Go.Ab
namespace Go.Ab
inductive D.Fit:D→Prop
 |b (x):Fit (.b x)
 |i (k n):Fit (.i k n)
 |s (l) (h:l.length≤9223372036854775807):Fit (.s l)
 |sl (es) (h:es.length≤9223372036854775807) (hh:∀e∈es,∀d∈e,Fit d):Fit (.sl es)
 |o (v):Fit (.o v)
def wO(cs:List D):Prop:=∀d∈cs,d.Fit
theorem aiX{l:List UInt8}(h:(D.s l).Fit):l.length≤9223372036854775807:=by cases h with|s _ h=>exact h
theorem ahA{es:List (List D)}(h:(D.sl es).Fit):es.length≤9223372036854775807∧∀e∈es,wO e:=by
 cases h with
 |sl _ h hh=>exact⟨h,hh⟩
theorem zl:wO []:=fun d h=>by cases h
theorem RV:wO []↔True:=⟨fun _=>trivial,fun _=>zl⟩
theorem Ah{d:D}{ds:List D}:wO (d::ds)↔d.Fit∧wO ds:=by simp[wO]
theorem Jl{a b:List D}:wO (a++b)↔wO a∧wO b:=by
 simp only[wO,List.mem_append]
 exact⟨fun h=>⟨fun d hd=>h d (.inl hd),fun d hd=>h d (.inr hd)⟩,fun h d hd=>hd.elim (h.1 d) (h.2 d)⟩
def V4(P:Program)(W:TypeId→List D→Prop):List Field→List D→Prop
 |[],ds=>ds=[]
 |f::fs,ds=>∃a b,ds=a++b∧a.length=P.cellsOf f.type∧W f.type a∧V4 P W fs b
def WT(P:Program):Nat→TypeId→List D→Prop
 |0,_,_=>False
 |n+1,t,ds=>
  match P.underlying t with
  |some .bool=>∃b,ds=[.b b]
  |some (.int k)=>∃x,ds=[.i k x]∧(Lit.int k x).wf=true
  |some .string=>∃l,ds=[.s l]∧l.length≤9223372036854775807
  |some (.slice e)=>∃es,ds=[.sl es]∧es.length≤9223372036854775807∧∀x∈es,x.length=P.cellsOf e∧WT P n e x
  |some (.struct fs)=>V4 P (WT P n) fs.toList ds
  |_=>False
def Bp(P:Program):List Field→Nat→Nat→Bool
 |[],a,b=>a==b
 |f::fs,a,b=>f.offset==a&&Bp P fs (a+P.cellsOf f.type) b
def Nq(P:Program)(L:List TypeId):Bool:=
 L.all fun t=>match P.underlying t with
  |some .bool|some (.int _)|some .string=>P.cellsOf t==1
  |some (.slice e)=>P.cellsOf t==1&&L.contains e&&decide (0<P.cellsOf e)
  |some (.struct fs)=>Bp P fs.toList 0 (P.cellsOf t)&&fs.toList.all fun f=>L.contains f.type
  |_=>false
def kX(w:World)(b:Nat):Nat:=match w.heap[b]? with
 |some (.cells c _ _)=>c.size
 |_=>0
def u6(w:World)(ds:List D)(vs:List Value):Prop:=ds.length=vs.length∧∀(j:Nat) (d:D),ds[j]? =some d→∃v,vs[j]? =some v∧d9 w (kX w) d v∧v.oneCell'=true
theorem u6.append{w:World}{a b:List D}{xs ys:List Value}(h1:u6 w a xs)(h2:u6 w b ys):u6 w (a++b) (xs++ys):=by
 refine⟨by simp[h1.1,h2.1],fun j d hj=> ?_⟩
 rw[List.getElem?_append] at hj ⊢
 have:=h1.1
 split at hj
 ·rw[if_pos (by omega)];exact h1.2 j d hj
 ·rw[if_neg (by omega),←h1.1];exact h2.2 _ d hj
theorem u6.one{w:World}{d:D}{v:Value}(h:d9 w (kX w) d v)(h1:v.oneCell'=true):u6 w [d] [v]:=by
 refine⟨rfl,fun j x hj=> ?_⟩
 cases j with
 |zero=>cases hj;exact⟨v,rfl,h,h1⟩
 |succ j=>simp at hj
theorem RX{α β:Type}(f:α→Option β):∀(l:List α) (ys:List β),l.mapM f=some ys→ys.length=l.length∧∀(j:Nat) (x:α),l[j]? =some x→∃y,f x=some y∧ys[j]? =some y
 |[],ys,h=>by
  simp at h;subst h
  exact⟨rfl,fun j x hj=>by simp at hj⟩
 |a::l,ys,h=>by
  rw[List.mapM_cons] at h
  cases ha:f a with
  |none=>rw[ha] at h;cases h
  |some y=>
   cases hl:l.mapM f with
   |none=>rw[ha,hl] at h;cases h
   |some zs=>
    rw[ha,hl] at h
    cases h
    obtain⟨h1,h2⟩:=RX f l zs hl
    refine⟨by simp[h1],fun j x hj=> ?_⟩
    cases j with
    |zero=>cases hj;exact⟨y,ha,rfl⟩
    |succ j=>exact h2 j x hj
section
variable {H:Type} {enc:TypeId×Value→H} {P:Program} {w:World} {L:List TypeId}
theorem Fe{a:Addr}{n:Nat}{vs:List Value}(hn:0<n)(h:w.cells? 0 a n=some vs):a.spot=none∧vs.length=n∧∃c t fz,w.heap[a.block]? =some (.cells c t fz)∧∀j,j<n→∃v,vs[j]? =some v∧c[a.off+j]? =some v:=by
 unfold World.cells? at h
 rw[if_pos (Nat.zero_le _)] at h
 obtain⟨h1,h2⟩:=RX _ _ _ h
 rw[List.length_range] at h1
 obtain⟨v0,hv0,_⟩:=h2 0 0 (by simp[hn])
 have Qx:a.add 0=a:=by simp[Addr.add]
 rw[Qx] at hv0
 unfold World.cell? at hv0
 cases hb:w.heap[a.block]? with
 |none=>rw[hb] at hv0;cases hv0
 |some ob=>
  rw[hb] at hv0
  cases ob with
  |map _ _=>cases hv0
  |cells c t fz=>
   have hs:a.spot=none:=by
    cases hsp:a.spot with
    |none=>rfl
    |some x=>rw[hsp] at hv0;simp at hv0
   refine⟨hs,h1,c,t,fz,rfl,fun j hj=> ?_⟩
   obtain⟨v,hv,hvs⟩:=h2 j j (by simp[hj])
   refine⟨v,hvs,?_⟩
   unfold World.cell? at hv
   by_cases hj0:j=0
   ·subst hj0
    rw[Qx,hb] at hv
    simp[hs] at hv
    simpa using hv
   ·simp[Addr.add,hj0,hb] at hv
    exact hv
  |_=>cases hv0
theorem Jm{α:Type}{p:Nat→α→Prop}:∀n:Nat,(∀i,i<n→∃x,p i x)→∃l:List α,l.length=n∧∀(i:Nat) (x:α),l[i]? =some x→p i x
 |0,_=>⟨[],rfl,fun i x h=>by simp at h⟩
 |n+1,h=>by
  obtain⟨l,hl,hp⟩:=Jm n fun i hi=>h i (by omega)
  obtain⟨x,hx⟩:=h n (by omega)
  refine⟨l++[x],by simp[hl],fun i y hy=> ?_⟩
  rw[List.getElem?_append] at hy
  split at hy
  ·exact hp i y hy
  ·rename_i hlt
   have hi:i-l.length<1:=by
    have:=(List.getElem?_eq_some_iff.1 hy).1
    simpa using this
   have:i=n:=by omega
   subst this
   rw[show i-l.length=0 from by omega] at hy
   cases hy
   exact hx
theorem aam(hc:Nq P L=true){t:TypeId}(ht:t∈L):(match P.underlying t with
 |some .bool|some (.int _)|some .string=>P.cellsOf t==1
 |some (.slice e)=>P.cellsOf t==1&&L.contains e&&decide (0<P.cellsOf e)
 |some (.struct fs)=>Bp P fs.toList 0 (P.cellsOf t)&&fs.toList.all fun f=>L.contains f.type
 |_=>false)=true:=List.all_eq_true.1 hc t ht
theorem UW{n:Nat}{fs:List Field}{cs:List Value}:∀(off:Nat),off≤cs.length→Bp P fs off cs.length=true→
 (∀f∈fs,∃ds,WT P n f.type ds∧u6 w ds ((cs.drop f.offset).take (P.cellsOf f.type)))→∃ds,V4 P (WT P n) fs ds∧u6 w ds (cs.drop off):=by
 induction fs with
 |nil=>
  intro off _ ht _
  have:off=cs.length:=by simpa [Bp] using ht
  exact⟨[],rfl,by simp[this,u6]⟩
 |cons f fs ih=>
  intro off ho ht h
  simp only[Bp,Bool.and_eq_true,beq_iff_eq] at ht
  obtain⟨a,ha1,ha2⟩:=h f (by simp)
  have hle:∀(fs:List Field) (o:Nat),Bp P fs o cs.length=true→o≤cs.length:=by
   intro fs
   induction fs with
   |nil=>intro o h;have:o=cs.length:=by simpa [Bp] using h
         omega
   |cons g gs ih=>intro o h;simp only[Bp,Bool.and_eq_true] at h;have:=ih _ h.2;omega
  have hle':=hle fs _ ht.2
  obtain⟨b,hb1,hb2⟩:=ih (off+P.cellsOf f.type) hle' ht.2 fun g hg=>h g (by simp[hg])
  rw[ht.1] at ha2
  refine⟨a++b,⟨a,b,rfl,?_,ha1,hb1⟩,?_⟩
  ·rw[ha2.1];simp;omega
  ·have:=ha2.append hb2
   rw[←List.drop_drop,List.take_append_drop] at this
   exact this
theorem GJ(hc:Nq P L=true){sp:Nat→Bool}{held:Bool}:∀(fuel:Nat) (t:TypeId) (cs:List Value) (x:DataW H×List MemPlace),t∈L→
 DataW.trod enc P w 0 sp held fuel t cs=some x→∃ds,WT P fuel t ds∧u6 w ds cs
 |0,t,cs,x,_,h=>by simp[DataW.trod] at h
 |n+1,t,cs,x,ht,h=>by
  have hcl:=aam hc ht
  cases hu:P.underlying t with
  |none=>rw[hu] at hcl;cases hcl
  |some u=>
   rw[hu] at hcl
   cases u with
   |bool=>
    obtain⟨b,rfl,_⟩:=DataW.trod_bool hu h
    exact⟨[.b b],by simp only[WT,hu];exact⟨b,rfl⟩,u6.one (.b b) rfl⟩
   |int k=>
    obtain⟨m,rfl,_,hw⟩:=DataW.trod_int hu h
    exact⟨[.i k m],by simp only[WT,hu];exact⟨m,rfl,hw⟩,u6.one (.i k m) rfl⟩
   |string=>
    obtain⟨s,rfl,_,hs⟩:=DataW.trod_string hu h
    have hl:s.data.toList.length≤9223372036854775807:=by
     have h1:s.data.toList.length=s.size:=by rw[Array.length_toList];rfl
     rw[h1];exact hs
    refine⟨[.s s.data.toList],?_,u6.one ?_ rfl⟩
    ·simp only[WT,hu];exact⟨_,rfl,hl⟩
    ·exact .s s.data.toList
   |slice e=>
    simp only[Bool.and_eq_true,beq_iff_eq,decide_eq_true_eq,List.contains_iff_mem] at hcl
    obtain⟨⟨h1,he⟩,hpos⟩:=hcl
    rcases DataW.trod_slice hu h with⟨rfl,_⟩|⟨a,len,cap,elems,rest,m,hm,rfl,_,_,hlc,hcm,hel,hget,_,_⟩
    ·exact⟨[.sl []],by simp only[WT,hu];exact⟨[],rfl,by simp,fun x hx=>by cases hx⟩,u6.one (.nil _ _) rfl⟩
    ·cases hm
     have hall:∀i,i<len→∃ds:List D,ds.length=P.cellsOf e∧WT P n e ds∧∃vs,w.cells? 0 (a.add (i*P.cellsOf e)) (P.cellsOf e)=some vs∧u6 w ds vs:=by
      intro i hi
      have hg:=hget i hi
      cases hcs:w.cells? 0 (a.add (i*P.cellsOf e)) (P.cellsOf e) with
      |none=>
       rw[hcs] at hg
       have:i<elems.length:=by omega
       rw[List.getElem?_eq_getElem this] at hg
       cases hg
      |some vs=>
       rw[hcs] at hg
       have hlt:i<elems.length:=by omega
       rw[List.getElem?_eq_getElem hlt] at hg
       obtain⟨ds,hd1,hd2⟩:=GJ hc n e vs _ he hg
       have hv:=(Fe hpos hcs).2.1
       exact⟨ds,by rw[hd2.1,hv],hd1,vs,rfl,hd2⟩
     obtain⟨es,hes,hp⟩:=Jm len hall
     have hwt:WT P (n+1) t [.sl es]:=by
      simp only[WT,hu]
      refine⟨es,rfl,by have:cap≤9223372036854775807:=hcm
                       omega,fun x hx=> ?_⟩
      obtain⟨i,hi⟩:=List.getElem?_of_mem hx
      exact⟨(hp i x hi).1,(hp i x hi).2.1⟩
     refine⟨[.sl es],hwt,?_⟩
     cases JM:es with
     |nil=>
      have h0:len=0:=by rw[←hes,JM];rfl
      subst h0
      exact u6.one (.nil _ _) rfl
     |cons e0 es0=>
      have aiY:0<len:=by rw[←hes,JM];simp
      have hlen:∀x∈es,x.length=P.cellsOf e:=fun x hx=>by
       obtain⟨i,hi⟩:=List.getElem?_of_mem hx
       exact(hp i x hi).1
      obtain⟨ds0,_,_,vs0,ahB,_⟩:=hall 0 aiY
      have Qx:a.add (0*P.cellsOf e)=a:=by simp[Addr.add]
      rw[Qx] at ahB
      obtain⟨hsp,_,c,tt,fz,hblk,_⟩:=Fe hpos ahB
      have hcell:∀i r,i<len→r<P.cellsOf e→∃(x:List D) (v:Value) (d:D),es[i]? =some x∧x[r]? =some d∧c[a.off+(i*P.cellsOf e+r)]? =some v∧d9 w (kX w) d v:=by
       intro i r hi hr
       have hlt:i<es.length:=by omega
       obtain⟨hx1,hx2,vs,hvs,hrep⟩:=hp i es[i] (List.getElem?_eq_getElem hlt)
       obtain⟨_,hvl,c',t',Q0,hblk',hcc⟩:=Fe hpos hvs
       have hb':(a.add (i*P.cellsOf e)).block=a.block:=by unfold Addr.add;split<;>rfl
       have ho':(a.add (i*P.cellsOf e)).off=a.off+i*P.cellsOf e:=by unfold Addr.add;split<;>simp_all
       rw[hb',hblk] at hblk'
       cases hblk'
       obtain⟨v,hv1,hv2⟩:=hcc r hr
       have hdr:r<es[i].length:=by omega
       obtain⟨v',hv',hd',_⟩:=hrep.2 r es[i][r] (List.getElem?_eq_getElem hdr)
       rw[hv1] at hv';cases hv'
       refine⟨es[i],v,es[i][r],List.getElem?_eq_getElem hlt,List.getElem?_eq_getElem hdr,?_,hd'⟩
       rw[ho'] at hv2
       rw[←Nat.add_assoc];exact hv2
      have hbound:a.off+len*P.cellsOf e≤c.size:=by
       obtain⟨_,v,_,_,_,hv,_⟩:=hcell (len-1) (P.cellsOf e-1) (by omega) (by omega)
       have:=(Array.getElem?_eq_some_iff.1 hv).1
       have e1:(len-1)*P.cellsOf e+P.cellsOf e=len*P.cellsOf e:=by
        rw[←Nat.succ_mul];congr 1;omega
       omega
      have key:d9 w (kX w) (.sl es) (.slice (some ⟨a.block,a.off,none⟩) es.length cap):=by
       refine .sl a.block a.off cap (P.cellsOf e) es (fun j=>(c[a.off+j]?).getD undef) c tt fz (by omega) hlen hblk ?_ (fun j hj=> ?_) (fun j d hj=> ?_)
       ·unfold kX;rw[hblk,hes];exact hbound
       ·have:a.off+j<c.size:=by rw[hes] at hj;omega
        rw[Array.getElem?_eq_getElem this];rfl
       ·have hfl:es.flatten.length=es.length*P.cellsOf e:=nG es _ hlen
        have hjl:j<es.length*P.cellsOf e:=by rw[←hfl];exact(List.getElem?_eq_some_iff.1 hj).1
        have hi:j/P.cellsOf e<len:=by rw[←hes];exact(Nat.div_lt_iff_lt_mul hpos).2 hjl
        obtain⟨x,v,d',hx,hd',hv,hr⟩:=hcell (j/P.cellsOf e) (j % P.cellsOf e) hi (Nat.mod_lt _ hpos)
        have hlt':j/P.cellsOf e<es.length:=by omega
        have hfg:=flat_get es (P.cellsOf e) hlen (j/P.cellsOf e) (j % P.cellsOf e) hlt' (Nat.mod_lt _ hpos)
        have hj':j/P.cellsOf e*P.cellsOf e+j % P.cellsOf e=j:=by rw[Nat.mul_comm];exact Nat.div_add_mod j _
        rw[hj',hj] at hfg
        rw[List.getElem?_eq_getElem hlt'] at hx
        cases hx
        rw[hd'] at hfg
        cases hfg
        rw[hj'] at hv
        rw[hv]
        exact hr
      rw[←JM]
      refine u6.one ?_ rfl
      have ha:a=⟨a.block,a.off,none⟩:=by cases a;simp at hsp;simp[hsp]
      rw[ha,←hes]
      exact key
   |struct fs=>
    simp only[Bool.and_eq_true] at hcl
    obtain⟨htl,hfs⟩:=hcl
    obtain⟨xs,m,hm,rfl,hlen,hxs,akt⟩:=DataW.trod_struct hu h
    cases hm
    rw[←hlen] at htl
    obtain⟨ds,h1,h2⟩:=UW (w:=w) (n:=n) (cs:=cs) 0 (Nat.zero_le _) htl fun f hf=>by
     obtain⟨i,hi⟩:=List.getElem?_of_mem hf
     have hi':fs[i]? =some f:=by simpa using hi
     have hg:=akt i f hi'
     have hlt:i<xs.length:=by
      rw[hxs];exact(Array.getElem?_eq_some_iff.1 hi').1
     rw[List.getElem?_eq_getElem hlt] at hg
     have hfL:f.type∈L:=by
      have:=List.all_eq_true.1 hfs f hf
      simpa using this
     exact GJ hc n f.type _ _ hfL hg
    refine⟨ds,by simp only[WT,hu];exact h1,?_⟩
    rw[List.drop_zero] at h2
    exact h2
   |_=>cases hcl
end
end Go.Ab
namespace Go.Ab
open Go.ChangeShapes Go.WideShapes Go.ChangeAt Go.RowKit
section
variable {H:Type} {enc:TypeId×Value→H} {P:Program} {W W':World} {L:List TypeId} {t:TypeId} {v:Value} {base:Nat}
theorem X6{fs:Array Field}{ds:List D}(ht:P.underlying t=some (.struct fs))(hok:Value.okWide P W .any base t v)(hL:u6 W ds v.cells.toList):dV W (kX W) [] [] (.agg (ds.map .d)) v:=by
 obtain⟨cs,rfl,_⟩:=okWide_struct ht hok
 refine⟨cs,rfl,by rw[List.length_map,hL.1];rfl,fun j x hj=> ?_⟩
 rw[List.getElem?_map] at hj
 cases hd:ds[j]? with
 |none=>rw[hd] at hj;cases hj
 |some d=>
  rw[hd] at hj
  cases hj
  obtain⟨u,h1,h2,h3⟩:=hL.2 j d hd
  exact⟨u,h1,h2,h3⟩
theorem aan:p9 W (kX W) [] [] [] []:=⟨rfl,fun j x h=>by simp at h⟩
theorem X7{x:V}{xs:List V}{vs:List Value}(h1:dV W (kX W) [] [] x v)(h2:p9 W (kX W) [] [] xs vs):p9 W (kX W) [] [] (x::xs) (v::vs):=by
 refine⟨by simp[h2.1],fun j y hj=> ?_⟩
 cases j with
 |zero=>cases hj;exact⟨v,rfl,h1⟩
 |succ j=>exact h2.2 j y hj
theorem adg(W:World)(hg:DC W (kX W)):fK W (kX W) [] [] where
 uW:=hg
 obj:=fun k o h=>by rw[qx] at h;cases h
 apart:=fun k k' o o' h h' b h1=>by rw[qx] at h1;cases h1
 shape:=⟨rfl,fun l fr h=>by simp at h⟩
 live:=fun b=>by
  by_cases h:b<W.heap.size
  ·exact .inl h
  ·right
   unfold kX
   rw[Array.getElem?_eq_none (by omega)]
theorem ahC{b:Nat}:¬Own [] [] b:=fun⟨k,o,h,h1,_⟩=>by rw[qx] at h1;cases h1
theorem F7(hl:laidOutB P=true)(hsame:∀b,b<W.heap.size→W'.heap[b]? =W.heap[b]?)(sp:Nat→Bool):∀(ts:List TypeId) (vs:List Value) (ds:List (DataW H)) (ps:List MemPlace),
 (ts.all fun t=>P.readableRec t&&decide (t<P.types.size))=true→(∀p∈ps,p.block<W.heap.size∧sp p.block=true)→
   DataW.TrodAll enc P W 0 (fun _=>true) true ts vs ds ps→DataW.TrodAll enc P W' 0 sp true ts vs ds ps
 |[],[],[],ps,_,_,h=>h
 |t::ts,v::vs,d::ds,ps,hr,hlt,h=>by
  simp only[List.all_cons,Bool.and_eq_true,decide_eq_true_eq] at hr
  obtain⟨p,q,h1,h2,rfl⟩:=h
  refine⟨p,q,WideElems.Trod_stays hl hr.1.1 hr.1.2 h1 (fun x hx=> ?_) (fun x hx=>(hlt x (by simp[hx])).2),F7 hl hsame sp ts vs ds q hr.2 (fun x hx=>hlt x (by simp[hx])) h2,rfl⟩
  have hb:=(hlt x (by simp[hx])).1
  cases x with
  |cell b o=>exact World.cell?_of_block (w:=W) (hsame b hb)
  |map b=>exact hsame b hb
 |[],[],_::_,ps,_,_,h=>h.elim
 |[],_::_,_,ps,_,_,h=>h.elim
 |_::_,[],_,ps,_,_,h=>h.elim
 |_::_,_::_,[],ps,_,_,h=>h.elim
theorem adh{f:FuncId}{fn:Func}{s:ChangeSpec}{args:Array Value}{ds gs:List (DataW H)}{before:List MemPlace}{vs:List V}{tb:TypeId}(hl:laidOutB P=true)
 (hr:(fn.params.toList.all fun t=>P.readableRec t&&decide (t<P.types.size))=true) (hvars:s.vars=[]) (hres:fn.resultTypes= #[tb]) (htb:P.underlying tb=some .bool)
 (hs1:(s.fn H (ds++gs)).results=[.lit (.bool true)]) (hs2:(s.fn H (ds++gs)).args=ds) (hs3:(s.fn H (ds++gs)).vars=[])
 (hW:DataW.Whole enc P fn.params.toList s.vars false W args.toList ds gs before) (hargs:p9 W (kX W) [] [] vs args.toList)
 (hcall:cB P f vs [] fun r _=>r=.c (.d (.b true))) (aiZ:DC W (kX W):=by(intro g p hm;exact absurd hm List.not_mem_nil)):
 Calls P f args W fun e W'=>∃v,e=.returned v∧s.post enc P fn false true false false W args v W':=by
 have hc:=hcall.2 W (kX W) [] args.toList (adg W aiZ) hargs
 have e1:args.toList.toArray=args:=by simp
 rw[e1] at hc
 refine hc.mono fun e W' ⟨v,r,S',σ',β',he,hS',hk,hst,hv,hp⟩=> ?_
 subst hp
 obtain⟨hv,_⟩:=hv
 cases hv
 refine⟨_,he,?_⟩
 have hsame:∀b,b<W.heap.size→W'.heap[b]? =W.heap[b]? :=fun b hb=>(hst.far b hb ahC).1
 have hlt:=fun p hp=>hW.lt p hp
 have hW0:=hW
 obtain⟨pa,q,hA,hV,rfl,hz,hn⟩:=hW
 rw[hvars] at hV
 have hq:gs=[]∧q=[]:=by
  obtain⟨h1,h2⟩:=trodVars_none hV
  exact⟨h1,h2⟩
 obtain⟨rfl,rfl⟩:=hq
 rw[List.append_nil] at *
 refine⟨ds,[],pa,[],pa,[],?_,?_,?_,?_,?_,fun h=>by cases h⟩
 ·simpa using hW0
 ·rw[List.append_nil,hs1,hres]
  exact trodAll_cons_mk (shut_bool htb _) trodAll_mk0
 ·rw[List.append_nil,hs2]
  exact F7 hl hsame _ _ _ _ _ hr (fun p hp=>⟨hlt p hp,by simpa using hlt p hp⟩) hA
 ·rw[List.append_nil,hs3,hvars]
  rfl
 ·refine⟨hst.os,hst.output,fun i hi=> ?_⟩
  rw[hsame i hi]
  split<;>simp_all
end
end Go.Ab
namespace Go.Ab
structure Hq (p:Prop):Prop where
 out:p
theorem W1{G K:Prop}(k:K)(e:Hq K→G:=by intro k;simp -implicitDefEqProofs (disch:=omega) only[go_sem];exact k.out):G:=e ⟨k⟩
theorem Z1{G:Prop}(e:G:=by simp -implicitDefEqProofs (disch:=omega) only[go_sem];done):G:=e
theorem W2{G K:Prop}(k:K)(e:Hq K→G:=by intro k;simp -implicitDefEqProofs (disch:=omega) only[go_sem]<;>(repeat(with_reducible refine And.intro ?_ ?_;focus first|omega|rfl|assumption|exact⟨_,rfl,rfl⟩|(simp;omega)|(simp;done)));exact k.out):G:=e ⟨k⟩
theorem W3{G K:Prop}(k:K)(e:Hq K→G:=by intro k;(repeat(with_reducible refine And.intro ?_ ?_;focus first|omega|rfl|assumption|exact⟨_,rfl,rfl⟩|(simp;omega)|(simp;done)));exact k.out):G:=e ⟨k⟩
theorem S0{c:Bool}{s:St}{A B:St→Prop}{P Q:Prop}{A':P→Prop}{B':Q→Prop}(k:c=true→(h:P)→A' h)(k2:c=false→(h:Q)→B' h)(e:Hq (c=true→(h:P)→A' h)→c=true→A s:=by intro k hb;have h:=hb;(try simp only[wf_preprocess] at h);simp -implicitDefEqProofs (disch:=omega) only[go_sem,hb]<;>(repeat(with_reducible refine And.intro ?_ ?_;focus first|omega|rfl|assumption|exact⟨_,rfl,rfl⟩|(simp;omega)|(simp;done)));exact k.out hb h)
 (e2:Hq (c=false→(h:Q)→B' h)→c=false→B s:=by intro k hb;have h:=hb;(try simp only[wf_preprocess] at h);simp -implicitDefEqProofs (disch:=omega) only[go_sem,hb]<;>(repeat(with_reducible refine And.intro ?_ ?_;focus first|omega|rfl|assumption|exact⟨_,rfl,rfl⟩|(simp;omega)|(simp;done)));exact k.out hb h):Split c A B s:=dU (e ⟨k⟩) (e2 ⟨k2⟩)
theorem S1{c:Bool}{s:St}{A B:St→Prop}{Q:Prop}{B':Q→Prop}(k2:c=false→(h:Q)→B' h)(e:c=true→A s:=by intro hb;have h:=hb;(try simp only[wf_preprocess] at h);simp -implicitDefEqProofs (disch:=omega) only[go_sem,hb]<;>(repeat(with_reducible refine And.intro ?_ ?_;focus first|omega|rfl|assumption|exact⟨_,rfl,rfl⟩|(simp;omega)|(simp;done)));done)
 (e2:Hq (c=false→(h:Q)→B' h)→c=false→B s:=by intro k hb;have h:=hb;(try simp only[wf_preprocess] at h);simp -implicitDefEqProofs (disch:=omega) only[go_sem,hb]<;>(repeat(with_reducible refine And.intro ?_ ?_;focus first|omega|rfl|assumption|exact⟨_,rfl,rfl⟩|(simp;omega)|(simp;done)));exact k.out hb h):Split c A B s:=dU e (e2 ⟨k2⟩)
theorem S2{c:Bool}{s:St}{A B:St→Prop}{P:Prop}{A':P→Prop}(k:c=true→(h:P)→A' h)(e:Hq (c=true→(h:P)→A' h)→c=true→A s:=by intro k hb;have h:=hb;(try simp only[wf_preprocess] at h);simp -implicitDefEqProofs (disch:=omega) only[go_sem,hb]<;>(repeat(with_reducible refine And.intro ?_ ?_;focus first|omega|rfl|assumption|exact⟨_,rfl,rfl⟩|(simp;omega)|(simp;done)));exact k.out hb h)
 (e2:c=false→B s:=by intro hb;have h:=hb;(try simp only[wf_preprocess] at h);simp -implicitDefEqProofs (disch:=omega) only[go_sem,hb]<;>(repeat(with_reducible refine And.intro ?_ ?_;focus first|omega|rfl|assumption|exact⟨_,rfl,rfl⟩|(simp;omega)|(simp;done)));done):Split c A B s:=dU (e ⟨k⟩) e2
theorem S3{c:Bool}{s:St}{A B:St→Prop}(e:c=true→A s:=by intro hb;have h:=hb;(try simp only[wf_preprocess] at h);simp -implicitDefEqProofs (disch:=omega) only[go_sem,hb]<;>(repeat(with_reducible refine And.intro ?_ ?_;focus first|omega|rfl|assumption|exact⟨_,rfl,rfl⟩|(simp;omega)|(simp;done)));done)(e2:c=false→B s:=by intro hb;have h:=hb;(try simp only[wf_preprocess] at h);simp -implicitDefEqProofs (disch:=omega) only[go_sem,hb]<;>(repeat(with_reducible refine And.intro ?_ ?_;focus first|omega|rfl|assumption|exact⟨_,rfl,rfl⟩|(simp;omega)|(simp;done)));done):Split c A B s:=dU e e2
section
variable {P:Program} {s:St} {dr:Option Nat} {f:FuncId} {args:List V} {dst:Option Nat} {K:St→Prop} {r:V}
theorem C1{Q:Prop}(h:aI P f (args.map V.sH) r)(k:Q)(e:Hq Q→K (s.put dst r):=by intro k;simp -implicitDefEqProofs (disch:=omega) only[go_sem];exact k.out):fE P dr f args s dst K:=aZ h (e ⟨k⟩)
theorem C2{Q:Prop}(h:aI P f (args.map V.sH) r)(k:Q)(e:Hq Q→K (s.put dst r):=by intro k;simp -implicitDefEqProofs (disch:=omega) only[go_sem]<;>(repeat(with_reducible refine And.intro ?_ ?_;focus first|omega|rfl|assumption|exact⟨_,rfl,rfl⟩|(simp;omega)|(simp;done)));exact k.out):fE P dr f args s dst K:=aZ h (e ⟨k⟩)
theorem C3(h:aI P f (args.map V.sH) r)(e:K (s.put dst r):=by simp -implicitDefEqProofs (disch:=omega) only[go_sem];done):fE P dr f args s dst K:=aZ h e
theorem C4(h:aI P f (args.map V.sH) r)(e:K (s.put dst r):=by simp -implicitDefEqProofs (disch:=omega) only[go_sem]<;>(repeat(with_reducible refine And.intro ?_ ?_;focus first|omega|rfl|assumption|exact⟨_,rfl,rfl⟩|(simp;omega)|(simp;done)));done):fE P dr f args s dst K:=aZ h e
end
end Go.Ab
