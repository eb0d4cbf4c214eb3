/-
  SEVERAL TEXTS IN ONE (merged by program): contracts and models, each with its own heading.
-/
import Derived.Test.YtcfhnaohbaplhaaGreatDoorPartTgbA
import Derived.StillTail
import Derived.Carry
import Derived.WideKeyArgs
import Derived.ProofKit
import Derived.OpenShut
import Derived.WalkKit
set_option linter.unusedSimpArgs false
set_option linter.unusedVariables false
namespace Go.Ab
def nS:List V→Nat→List (Nat×V)
 |[],_=>[]
 |v::vs,i=>(i,v)::nS vs (i+1)
def C.ret:C→Option C
 | .bH (0,_) es=>some (.d (.sl es))
 |c=>c.down 1
def CS(y:Bool×List C):Option (Bool×List C):=(y.2.mapM C.ret).map fun cs=>(y.1,cs)
def V.ret:V→Option V
 | .c x=>(x.ret).map .c
 | .agg cs=>(cs.mapM C.ret).map .agg
 | .iB xs=>(xs.mapM CS).map .iB
 | .any=>some .any
def tX(P:Program)(s:St):ResultVar→R
 | .tmp t=>(True,look s.tm t)
 | .cell a t=>wQ P s.st t (look s.tm a)
def Fh:V→Option (Bool×List C)
 | .c x=>some (false,[x])
 | .agg cs=>some (true,cs)
 |_=>none
def nC(P:Program)(s:St):List ResultVar→Prop×Option (List (Bool×List C))
 |[]=>(True,some [])
 |x::xs=>((tX P s x).1∧(nC P s xs).1,(Fh (tX P s x).2).bind fun y=>(nC P s xs).2.map fun ys=>y::ys)
def qC(P:Program)(rs:List ResultVar)(s:St):R:=
 match rs with
 |[x]=>tX P s x
 |xs=>match(nC P s xs).2 with
  |some ys=>((nC P s xs).1,.iB ys)
  |none=>no
def VK(P:Program)(rs:List ResultVar)(post:V→Store→Prop)(e:Exit)(s:St):Prop:=
 match e with
 | .normal| .ret=>(qC P rs s).1∧match(qC P rs s).2.ret with
   |some r=>post r (fI s.st)
   |none=>False
 |_=>False
section
variable {P:Program} {w w':World} {σ σ':Nat→Nat} {S:Store} {β β':Hs} {N:Nat} {s:St} {a:Act}
theorem Lx{cs:List C}{vs:List Value}(n:Nat)(h:gu w σ (S.drop n) (β.drop n) cs vs):gu w σ S β (cs.map (C.up n)) vs:=
 ⟨by simpa using h.1,fun j x hx=>by
   rw[List.getElem?_map] at hx
   cases hc:cs[j]? with
   |none=>rw[hc] at hx;cases hx
   |some y=>
    rw[hc] at hx;cases hx
    obtain⟨v,hv,hr,ho⟩:=h.2 j y hc
    exact⟨v,hv,hr.up n,ho⟩⟩
theorem Hy{x:V}{v:Value}(n:Nat)(h:dD w σ (S.drop n) (β.drop n) x v):dD w σ S β (x.up n) v:=by
 cases x with
 |c x=>exact⟨h.1.up n,h.2⟩
 |agg cs=>obtain⟨ar,ha,hc⟩:=h;exact⟨ar,ha,Lx n hc⟩
 |iB xs=>
  obtain⟨ar,ha,hl,h2⟩:=h
  refine⟨ar,ha,by simpa using hl,fun j y hy=> ?_⟩
  rw[List.getElem?_map] at hy
  cases hc:xs[j]? with
  |none=>rw[hc] at hy;cases hy
  |some z=>
   rw[hc] at hy;cases hy
   obtain⟨u,hu,h3⟩:=h2 j z hc
   refine⟨u,hu,?_⟩
   obtain⟨b,cs⟩:=z
   cases b with
   |true=>obtain⟨a',e,hcs⟩:=h3;exact⟨a',e,Lx n hcs⟩
   |false=>obtain⟨x,e,hx,ho⟩:=h3;subst e;exact⟨_,rfl,hx.up n,ho⟩
 |any=>exact trivial
theorem Eb{c c':C}{v:Value}(h:c.ret=some c')(hc:jc w σ S β c v):jc w σ (S.drop 1) (β.drop 1) c' v:=by
 unfold C.ret at h
 split at h
 ·cases h;exact hc.1
 ·exact Le h hc
theorem Jo{xs ys:List C}{vs:List Value}(h:xs.mapM C.ret=some ys)(hc:gu w σ S β xs vs):gu w σ (S.drop 1) (β.drop 1) ys vs:=by
 induction xs generalizing ys vs with
 |nil=>simp at h;subst h;exact⟨hc.1,fun j d hd=>by simp at hd⟩
 |cons x xs ih=>
  rw[List.mapM_cons] at h
  cases hd:C.ret x with
  |none=>rw[hd] at h;simp at h
  |some y=>
   cases hm:xs.mapM C.ret with
   |none=>rw[hd,hm] at h;simp at h
   |some ys'=>
    rw[hd,hm] at h
    simp at h
    subst h
    cases vs with
    |nil=>have:=hc.1;simp at this
    |cons v vs=>
     obtain⟨l,r⟩:=ih hm (vs:=vs) ⟨by have:=hc.1;simpa using this,fun j y hy=>hc.2 (j+1) y hy⟩
     refine⟨by simp[l],fun j e he=> ?_⟩
     cases j with
     |zero=>
      simp at he;subst he
      obtain⟨u,hu,hr,ho⟩:=hc.2 0 x rfl
      simp at hu;subst hu
      exact⟨v,rfl,Eb hd hr,ho⟩
     |succ j=>exact r j e he
theorem LA{α γ:Type}(f:α→Option γ):∀(xs:List α) (ys:List γ),xs.mapM f=some ys→ys.length=xs.length∧∀(j:Nat) (y:γ),ys[j]? =some y→∃x,xs[j]? =some x∧f x=some y
 |[],ys,h=>by simp at h;subst h;exact⟨rfl,fun j y hy=>by simp at hy⟩
 |x::xs,ys,h=>by
  rw[List.mapM_cons] at h
  cases hd:f x with
  |none=>rw[hd] at h;simp at h
  |some y=>
   cases hm:xs.mapM f with
   |none=>rw[hd,hm] at h;simp at h
   |some ys'=>
    rw[hd,hm] at h
    simp at h
    subst h
    obtain⟨l,r⟩:=LA f xs ys' hm
    refine⟨by simp[l],fun j e he=> ?_⟩
    cases j with
    |zero=>simp at he;subst he;exact⟨x,rfl,hd⟩
    |succ j=>exact r j e he
theorem LB{x y:V}{v:Value}(h:x.ret=some y)(hx:dD w σ S β x v):dD w σ (S.drop 1) (β.drop 1) y v:=by
 cases x with
 |c x=>
  simp only[V.ret] at h
  cases hc:x.ret with
  |none=>rw[hc] at h;cases h
  |some c=>rw[hc] at h;cases h;exact⟨Eb hc hx.1,hx.2⟩
 |agg cs=>
  simp only[V.ret] at h
  cases hc:cs.mapM C.ret with
  |none=>rw[hc] at h;cases h
  |some c=>rw[hc] at h;cases h;obtain⟨ar,ha,h2⟩:=hx;exact⟨ar,ha,Jo hc h2⟩
 |iB xs=>
  simp only[V.ret] at h
  cases hc:xs.mapM CS with
  |none=>rw[hc] at h;cases h
  |some ys=>
   rw[hc] at h;cases h
   obtain⟨ar,ha,hl,h2⟩:=hx
   obtain⟨l,r⟩:=LA _ _ _ hc
   refine⟨ar,ha,by rw[l];exact hl,fun j y hy=> ?_⟩
   obtain⟨z,hz,hzy⟩:=r j y hy
   obtain⟨u,hu,h3⟩:=h2 j z hz
   refine⟨u,hu,?_⟩
   obtain⟨b,cs⟩:=z
   simp only[CS] at hzy
   cases hm:cs.mapM C.ret with
   |none=>rw[hm] at hzy;cases hzy
   |some cs'=>
    rw[hm] at hzy;cases hzy
    cases b with
    |true=>obtain⟨a',e,hcs⟩:=h3;exact⟨a',e,Jo hm hcs⟩
    |false=>
     obtain⟨x,e,hx,ho⟩:=h3
     subst e
     rw[List.mapM_cons] at hm
     cases hx':C.ret x with
     |none=>rw[hx'] at hm;simp at hm
     |some x'=>
      rw[hx'] at hm
      simp at hm
      exact⟨x',hm.symm,Eb hx' hx,ho⟩
 |any=>cases h;exact trivial
theorem PI{x:ResultVar}(hR:jL N s a w σ β)(h:(tX P s x).1):
 ∃v,(match x with| .tmp t=>pure (a.tmps.getD t undef)| .cell b t=>do loadVar t (←asAddr (a.tmps.getD b undef)):Sem Value).run P w=.ok v w∧dD w σ s.st β (tX P s x).2 v:=by
 cases x with
 |tmp t=>exact⟨_,rfl,hR.T t⟩
 |cell b t=>
  obtain⟨v,hrun,hv⟩:=Jd (P:=P) (t:=t) hR.S (hR.T b) h
  refine⟨v,?_,hv⟩
  show(do loadVar t (←asAddr (a.tmps.getD b undef)):Sem Value).run P w=.ok v w
  generalize a.tmps.getD b undef=bv at hrun ⊢
  cases bv with
  |pointer o=>
   cases o with
   |none=>simp[Instr.loadAt,Instr.sureAddr] at hrun
   |some ad=>simpa [Instr.loadAt,Instr.sureAddr,asAddr] using hrun
  |_=>simp[Instr.loadAt,Instr.sureAddr] at hrun
theorem VL{x:V}{y:Bool×List C}{v:Value}(h:Fh x=some y)(hx:dD w σ S β x v):G9 w σ S β y v:=by
 cases x with
 |c x=>cases h;exact⟨x,rfl,hx.1,hx.2⟩
 |agg cs=>cases h;exact hx
 |iB=>cases h
 |any=>cases h
theorem PK(hR:jL N s a w σ β):∀(xs:List ResultVar) (ys:List (Bool×List C)),(nC P s xs).1→(nC P s xs).2=some ys→
 ∃vs:List Value,(xs.mapM fun x=>(match x with| .tmp t=>pure (a.tmps.getD t undef)| .cell b t=>do loadVar t (←asAddr (a.tmps.getD b undef)):Sem Value)).run P w=.ok vs w∧ys.length=vs.length∧
  ∀(j:Nat) (y:Bool×List C),ys[j]? =some y→∃u,vs[j]? =some u∧G9 w σ s.st β y u
 |[],ys,_,h=>by simp only[nC] at h;cases h;exact⟨[],by simp,rfl,fun j y hy=>by simp at hy⟩
 |x::xs,ys,h1,h2=>by
  simp only[nC] at h1 h2
  cases hc:Fh (tX P s x).2 with
  |none=>rw[hc] at h2;cases h2
  |some y=>
   cases hr:(nC P s xs).2 with
   |none=>rw[hc,hr] at h2;cases h2
   |some ys'=>
    rw[hc,hr] at h2;cases h2
    obtain⟨v,hv,hrep⟩:=PI (P:=P) (x:=x) hR h1.1
    obtain⟨vs,hvs,hl,hj⟩:=PK hR xs ys' h1.2 hr
    refine⟨v::vs,?_,by simp[hl],fun j z hz=> ?_⟩
    ·rw[List.mapM_cons]
     simp only[Sem.run_bind,Result.andThen_ok,Sem.run_pure]
     rw[hv]
     simp only[Result.andThen_ok]
     rw[hvs];rfl
    ·cases j with
     |zero=>simp at hz;subst hz;exact⟨v,rfl,VL hc hrep⟩
     |succ j=>exact hj j z hz
theorem Jp{fn:Func}(hR:jL N s a w σ β)(h:(qC P fn.results.toList s).1):∃v,(results fn a.tmps).run P w=.ok v w∧dD w σ s.st β (qC P fn.results.toList s).2 v:=by
 have hres:fn.results=fn.results.toList.toArray:=by simp
 have hrun:∀vs:List Value,(fn.results.toList.mapM fun x=>(match x with| .tmp t=>pure (a.tmps.getD t undef)| .cell b t=>do loadVar t (←asAddr (a.tmps.getD b undef)):Sem Value)).run P w=.ok vs w→
  (results fn a.tmps).run P w=.ok (if h:vs.toArray.size=1 then vs.toArray[0] else .tuple vs.toArray) w:=by
  intro vs hvs
  unfold results
  rw[hres,List.mapM_toArray]
  simp only[Sem.run_bind,Sem.run_map]
  have:(fun x=>(match x with| .tmp t=>pure (a.tmps.getD t undef)| .cell b t=>do loadVar t (←asAddr (a.tmps.getD b undef)):Sem Value))=fun(x:ResultVar)=>(match x with| .tmp t=>pure (a.tmps.getD t undef)| .cell b t=>do loadVar t (←asAddr (a.tmps.getD b undef)):Sem Value):=rfl
  erw [hvs]
  rfl
 unfold qC at h ⊢
 split at h
 ·rename_i x hx
  rw[hx] at hrun
  obtain⟨v,hv,hrep⟩:=PI (P:=P) (x:=x) hR h
  refine⟨v,?_,hrep⟩
  have:=hrun [v] (by
   rw[List.mapM_cons]
   simp only[Sem.run_bind,List.mapM_nil,Result.andThen_ok,Sem.run_pure]
   rw[hv];rfl)
  simpa using this
 ·rename_i hne
  split at h
  ·rename_i ys hys
   obtain⟨vs,hvs,hl,hj⟩:=PK (P:=P) hR _ ys h hys
   have h1:=hrun vs hvs
   have hlen:¬(vs.toArray.size=1):=by
    intro e
    have hl2:ys.length=fn.results.toList.length:=by
     clear hj hvs h1 hrun hne e hl h
     generalize fn.results.toList=l at hys
     induction l generalizing ys with
     |nil=>simp only[nC] at hys;cases hys;rfl
     |cons x xs ih=>
      simp only[nC] at hys
      cases hc:Fh (tX P s x).2 with
      |none=>rw[hc] at hys;cases hys
      |some y=>
       cases hr:(nC P s xs).2 with
       |none=>rw[hc,hr] at hys;cases hys
       |some ys'=>rw[hc,hr] at hys;cases hys;simp[ih ys' hr]
    simp at e
    have:fn.results.toList.length=1:=by omega
    obtain⟨x,hx⟩:=List.length_eq_one_iff.1 this
    exact hne x hx
   rw[dif_neg hlen] at h1
   exact⟨_,h1,vs.toArray,rfl,by simpa using hl,fun j y hy=>by simpa using hj j y hy⟩
  ·exact h.elim
theorem eD.Yv{own:List Obj}{Ω:Store}{bo:List Value}{bΩ:Hs}(h:eD w σ (own::Ω) (bo::bΩ)):eD w σ Ω bΩ:=by
 refine⟨fun k o ho=> ?_,fun k k' o o' h1 h2 b e1 e2 e3 e4 e5 e6=> ?_,⟨by have:=h.shape.1;simpa using this,fun l fr hl=>h.shape.2 (l+1) fr hl⟩,h.live,h.rJ⟩
 ·obtain⟨l,j⟩:=k
  obtain⟨hv,hh,hr⟩:=h.obj (l+1,j) o (by rw[dh];exact ho)
  rw[dh] at hh
  exact⟨hv,hh,hr⟩
 ·obtain⟨l,j⟩:=k
  obtain⟨l',j'⟩:=k'
  have:=h.apart (l+1,j) (l'+1,j') o o' h1 h2 b (by rw[dh];exact e1) (by rw[dh];exact e2) e3 (by rw[dh];exact e4) (by rw[dh];exact e5) e6
  cases this;rfl
theorem eD.up1(h:eD w σ S β):eD w σ ([]::S) ([]::β):=by
 refine⟨fun k o ho=> ?_,fun k k' o o' h1 h2 b e1 e2 e3 e4 e5 e6=> ?_,⟨by simp[h.shape.1],fun l fr hl=> ?_⟩,h.live,h.rJ⟩
 ·obtain⟨l,j⟩:=k
  cases l with
  |zero=>rw[bP] at ho;simp at ho
  |succ l=>
   rw[dh] at ho
   obtain⟨hv,hh,hr⟩:=h.obj (l,j) o ho
   exact⟨hv,by rw[dh];exact hh,hr⟩
 ·obtain⟨l,j⟩:=k
  obtain⟨l',j'⟩:=k'
  cases l with
  |zero=>rw[bP] at e1;simp at e1
  |succ l=>
   cases l' with
   |zero=>rw[bP] at e4;simp at e4
   |succ l'=>
    rw[dh] at e1 e2 e4 e5
    have:=h.apart (l,j) (l',j') o o' h1 h2 b e1 e2 e3 e4 e5 e6
    cases this;rfl
 ·cases l with
  |zero=>simp at hl;subst hl;exact⟨[],rfl,rfl⟩
  |succ l=>exact h.shape.2 l fr hl
theorem CU{b:Nat}(h:Own ([]::S) ([]::β) b):Own S β b:=by
 obtain⟨⟨l,j⟩,o,hv,h1,h2,h3⟩:=h
 cases l with
 |zero=>rw[bP] at h1;simp at h1
 |succ l=>rw[dh] at h1 h2;exact⟨(l,j),o,hv,h1,h2,h3⟩
theorem Jq{own:List Obj}{Ω:Store}{bo:List Value}{bΩ:Hs}{b:Nat}(h:Own Ω bΩ b):Own (own::Ω) (bo::bΩ) b:=by
 obtain⟨⟨l,j⟩,o,hv,h1,h2,h3⟩:=h
 exact⟨(l+1,j),o,hv,by rw[dh];exact h1,by rw[dh];exact h2,h3⟩
theorem zZ:∀(args:List V) (i t:Nat),look (nS args i) t=if i≤t then(args[t-i]?).getD .any else .any
 |[],i,t=>by simp[nS,look]
 |v::args,i,t=>by
  rw[nS,look,zZ args (i+1) t]
  by_cases h1:i=t
  ·subst h1;simp
  ·rw[if_neg h1]
   by_cases h2:i+1≤t
   ·rw[if_pos h2,if_pos (by omega)]
    rw[show t-i=(t-(i+1))+1 from by omega]
    rfl
   ·rw[if_neg h2,if_neg (by omega)]
theorem vB{f:FuncId}{fn:Func}{c:Code}{args:List V}{post:V→Store→Prop}(hf:P.funcs[f]? =some fn)(hb:fn.body=some c)(hn:(fn.name== "runtime.NumGoroutine")=false)
 (hl:args.length≤fn.ntmps) (h:AW P fn.ntmps c (VK P fn.results.toList post) ⟨nS (args.map (V.up 1)) 0,[]::S⟩):dF P f args S post:=by
 refine⟨⟨fn,hf,hn,by simp[hb]⟩,fun w σ β vs hS hargs=> ?_⟩
 refine calls_of_wp hf hb ?_
 have hlen:vs.length=args.length:=hargs.1.symm
 have VN:jL fn.ntmps ⟨nS (args.map (V.up 1)) 0,[]::S⟩ {tmps:=vs.toArray++Array.replicate (fn.ntmps-vs.toArray.size) undef,defers:=[]} w σ ([]::β):=by
  refine⟨by simp;omega,rfl,hS.up1,fun t=> ?_⟩
  show dD w σ ([]::S) ([]::β) (look (nS (args.map (V.up 1)) 0) t) _
  rw[zZ,if_pos (Nat.zero_le _),Nat.sub_zero,List.getElem?_map]
  cases ha:args[t]? with
  |none=>exact trivial
  |some x=>
   obtain⟨v,hv,hr⟩:=hargs.2 t x ha
   have ht:=(List.getElem?_eq_some_iff.1 hv).1
   have:(vs.toArray++Array.replicate (fn.ntmps-vs.toArray.size) undef).getD t undef=v:=by
    rw[Array.getD_eq_getD_getElem?,Array.getElem?_append_left (by simpa using ht)]
    simp[hv]
   rw[this]
   exact Hy (S:=[]::S) (β:=[]::β) 1 hr
 refine wp_mono (h _ w σ ([]::β) VN) ?_
 rintro e a' w' ⟨s',σ',β',hR,hst,hkp,hq⟩
 have main:(qC P fn.results.toList s').1∧(match(qC P fn.results.toList s').2.ret with|some r=>post r (fI s'.st)|none=>False)→
  a'.defers=[]∧∃v,(results fn a'.tmps).run P w'=.ok v w'∧∃v_1 r S' σ' β',Ending.returned v=Ending.returned v_1∧eD w' σ' S' β'∧Keep S β S' β'∧Step S β σ w S' β' σ' w'∧dD w' σ' S' β' r v_1∧post r S':=by
  rintro⟨q1,q2⟩
  obtain⟨v,hv,hrep⟩:=Jp (fn:=fn) hR q1
  split at q2
  ·rename_i r hr
   obtain⟨tm,st⟩:=s'
   have abV:=LB hr hrep
   refine⟨hR.defers,v,hv,v,r,fI st,σ',fI β',rfl,?_,hkp,?_,abV,q2⟩
   ·cases st with
    |nil=>
     cases β' with
     |nil=>exact hR.S
     |cons=>have:=hR.S.shape.1;simp at this
    |cons own Ω=>
     cases β' with
     |nil=>have:=hR.S.shape.1;simp at this
     |cons bo bΩ=>exact hR.S.Yv
   ·refine⟨hst.size,hst.os,hst.output,fun b hb ho=>hst.far b hb (fun x=>ho (CU x)),hst.near,fun b hb=> ?_⟩
    cases st with
    |nil=>obtain⟨k,o,hv,h1,_⟩:=hb;simp[fI,mM] at h1
    |cons own Ω=>
     cases β' with
     |nil=>obtain⟨k,o,hv,h1,h2,_⟩:=hb;simp[fI,mM] at h2
     |cons bo bΩ=>exact(hst.own b (Jq hb)).imp CU id
  ·exact q2.elim
 cases e with
 |normal=>exact main hq
 |ret=>exact main hq
 |_=>exact hq.elim
end
end Go.Ab
namespace Go.Ab
def oL:Op→Bool
 | .alloc _=>true
 | .box _ _=>true
 | .store _ _ _=>true
 | .makeSlice _ _ _=>true
 | .makeMap _ none=>true
 | .mapUpdate _ _ _ _=>true
 | .call {callee:=.builtin .append,args:=_,argTypes:=_}=>true
 |_=>false
def w9:Op→Bool
 | .store _ _ _=>true
 | .mapUpdate _ _ _ _=>true
 |_=>false
def kg:Op→Bool
 | .call {callee:=.value _,args:=_,argTypes:=_}=>true
 |_=>false
abbrev Md:=Op→Nat
def eY(E:Md)(op:Op):Bool:=oL op||(decide (1≤E op)&&kg op)
def lI(E:Md)(op:Op):Bool:=w9 op||(decide (2≤E op)&&kg op)
theorem VO{E:Md}{op:Op}(h:oL op=true):eY E op=true:=by simp[eY,h]
theorem Tx{E:Md}{op:Op}(h:lI E op=true):eY E op=true:=by
 unfold lI eY at *
 rw[Bool.or_eq_true] at h ⊢
 refine h.imp (fun hs=> ?_) (fun h=> ?_)
 ·cases op<;>first|rfl|simp[w9] at hs
 ·rw[Bool.and_eq_true,decide_eq_true_eq] at h ⊢
  exact⟨by omega,h.2⟩
def DS(S S':Store):Prop:=∀k o,bK S k=some o→bK S' k=some o∨((∃z es,o9 o z es)∧∃o' z es,bK S' k=some o'∧o9 o' z es)
def z8(P:Program)(tm:List (Nat×V))(c:Call)(r:V):Prop:=
 match c.callee with
 | .value x=>match ev tm x with
   | .c (.fn f caps)=>aD P f (c.args.toList.map (ev tm)++caps.map fun y=>.c (.ptr y.1 y.2)) r
   |_=>False
 |_=>False
def eP(P:Program)(E:Md)(o:Oper)(s:St)(K:St→Prop):Prop:=
 if oL o.op then dO P o s K else
 match o.op with
 | .call {callee:=.value x,args,argTypes}=>match E (.call {callee:=.value x,args,argTypes}) with
   |0=>∃r,z8 P s.tm {callee:=.value x,args,argTypes} r∧K (s.put o.dst r)
   |1=>∃S' v,DS s.st S'∧dO P o s (fun t=>t=St.put ⟨s.tm,S'⟩ o.dst v)∧K (St.put ⟨s.tm,S'⟩ o.dst v)
   |_=>∃S' v,dO P o s (fun t=>t=St.put ⟨s.tm,S'⟩ o.dst v)∧K (St.put ⟨s.tm,S'⟩ o.dst v)
 |op=>(nval P s.st s.tm op).1∧K (s.put o.dst (nval P s.st s.tm op).2)
def qx(P:Program)(E:Md)(R:Array Oper)(o:Oper)(s:St)(K:St→Prop):Prop:=
 match o.guard with
 |none=>eP P E o s K
 |some (j,want)=>
  match(fB R j).map (look s.tm) with
  |some (.c (.d (.b x)))=>(x=want→eP P E o s K)∧(x= !want→K (s.put o.dst (.iB [])))
  |some (.iB [])=>K (s.put o.dst (.iB []))
  |_=>False
def om(P:Program)(E:Md)(R:Array Oper):List Oper→St→(St→Prop)→Prop
 |[],s,K=>K s
 |o::os,s,K=>qx P E R o s fun s'=>om P E R os s' K
def NV(P:Program)(S:Store)(tm:List (Nat×V))(op:Op)(v:V):Prop:=
 (∃c,op=.call c∧z8 P tm c v)∨((nval P S tm op).1∧v=(nval P S tm op).2)
def gd(R:Array Oper)(o:Oper)(tm:List (Nat×V)):Option Bool:=
 match o.guard with
 |none=>some true
 |some (j,want)=>
  match(fB R j).map (look tm) with
  |some (.c (.d (.b x)))=>some (x==want)
  |some (.iB [])=>some false
  |_=>none
def nT(P:Program)(E:Md)(R:Array Oper)(o:Oper)(s:St)(v:V)(s':St):Prop:=
 (gd R o s.tm=some false∧v=.iB []∧s'=s.put o.dst v)∨
 (gd R o s.tm=some true∧eY E o.op=false∧NV P s.st s.tm o.op v∧s'=s.put o.dst v)∨
 (gd R o s.tm=some true∧eY E o.op=true∧dO P o s (fun t=>t=s')∧s'=St.put ⟨s.tm,s'.st⟩ o.dst v∧(oL o.op=false→lI E o.op=false→DS s.st s'.st))
section
variable {P:Program} {w w':World} {σ σ':Nat→Nat} {S S':Store} {β β':Hs} {N:Nat} {s:St} {a:Act}
theorem qN{dst:Option Nat}{o:Obj}{mk:Key→V}{K:St→Prop}(h:newObj s dst o mk K):∃S' v,newObj s dst o mk (fun t=>t=St.put ⟨s.tm,S'⟩ dst v)∧K (St.put ⟨s.tm,S'⟩ dst v):=by
 unfold newObj at h ⊢
 split at h
 ·rename_i own Ω hst
  exact⟨_,_,rfl,h⟩
 ·exact h.elim
theorem YV{l:Option Nat}{es x:List (List D)}{z:Nat}{dst:Option Nat}{K:St→Prop}(h:xH l es s dst z x K):∃S' v,xH l es s dst z x (fun t=>t=St.put ⟨s.tm,S'⟩ dst v)∧K (St.put ⟨s.tm,S'⟩ dst v):=by
 cases l with
 |none=>exact qN (o:=.tok z x) (mk:=fun k=>.c (.bH k x)) h
 |some n=>
  cases es with
  |nil=>exact⟨s.st,_,rfl,h⟩
  |cons y es=>exact qN (o:=.tok z x) (mk:=fun k=>.c (.bH k x)) h
theorem YW{b:Bool}{n:Nat}{x:List (List D)}{z:Nat}{dst:Option Nat}{K:St→Prop}(h:yX b n s dst z x K):∃S' v,yX b n s dst z x (fun t=>t=St.put ⟨s.tm,S'⟩ dst v)∧K (St.put ⟨s.tm,S'⟩ dst v):=by
 cases b with
 |false=>exact qN (o:=.d9 n z x) (mk:=fun k=>.c (.bH k x)) h
 |true=>exact⟨s.st,_,rfl,h⟩
theorem VP{o:Oper}{K:St→Prop}(hD:oL o.op=true)(h:dO P o s K):∃S' v,dO P o s (fun t=>t=St.put ⟨s.tm,S'⟩ o.dst v)∧K (St.put ⟨s.tm,S'⟩ o.dst v):=by
 obtain⟨dst,op,ty,pos,after,guard⟩:=o
 cases op with
 |alloc t=>
  simp only[dO,qK] at h ⊢
  split at h
  ·exact qN h
  ·exact h.elim
 |box t x=>
  simp only[dO,xG] at h ⊢
  split at h
  ·exact qN h
  ·exact h.elim
 |makeSlice t l c=>
  simp only[dO,tQ] at h ⊢
  split at h
  ·split at h
   ·obtain⟨h1,h2,h3,h4,h5,h6⟩:=h
    obtain⟨S',v,k1,k2⟩:=qN h6
    exact⟨S',v,⟨h1,h2,h3,h4,h5,k1⟩,k2⟩
   ·exact h.elim
  ·exact h.elim
 |store t x y=>
  simp only[dO,qL] at h ⊢
  split at h
  ·split at h
   ·obtain⟨h1,h2,h3,h4⟩:=h
    exact⟨_,_,⟨h1,h2,h3,rfl⟩,h4⟩
   ·exact h.elim
  ·split at h
   ·obtain⟨h1,h2,h3,h4,h5⟩:=h
    exact⟨_,_,⟨h1,h2,h3,h4,rfl⟩,h5⟩
   ·exact h.elim
  ·split at h
   ·split at h
    ·split at h
     ·obtain⟨h1,h2,h3,h4,h5,h6⟩:=h
      exact⟨_,_,⟨h1,h2,h3,h4,h5,rfl⟩,h6⟩
     ·exact h.elim
    ·exact h.elim
   ·exact h.elim
  ·exact h.elim
 |makeMap t r=>
  cases r with
  |none=>
   simp only[dO,qo] at h ⊢
   exact qN h
  |some r=>simp[oL] at hD
 |mapUpdate t x y z=>
  simp only[dO,qp] at h ⊢
  split at h
  ·split at h
   ·exact⟨_,_,rfl,h⟩
   ·exact h.elim
  ·exact h.elim
 |call c=>
  obtain⟨xI,args,tV⟩:=c
  cases xI with
  |builtin b=>
   cases b with
   |append=>
    simp only[dO,mF] at h ⊢
    split at h
    ·simp only[qw] at h ⊢
     split at h
     ·obtain⟨h1,h2,h3,h4⟩:=h
      split at h4
      ·split at h4
       ·obtain⟨k1,k2,k3,k4⟩:=h4
        exact⟨_,_,⟨h1,h2,h3,k1,k2,k3,rfl⟩,k4⟩
       ·obtain⟨k1,k2,k3,k4⟩:=h4
        exact⟨_,_,⟨h1,h2,h3,k1,k2,k3,rfl⟩,k4⟩
       ·exact h4.elim
      ·obtain⟨k1,k2,k3⟩:=h4
       obtain⟨S',v,l1,l2⟩:=YV k3
       exact⟨S',v,⟨h1,h2,h3,k1,k2,l1⟩,l2⟩
      ·obtain⟨k1,k2,k3⟩:=h4
       obtain⟨S',v,l1,l2⟩:=YW k3
       exact⟨S',v,⟨h1,h2,h3,k1,k2,l1⟩,l2⟩
      ·exact h4.elim
     ·exact h.elim
    ·exact h.elim
   |_=>simp[oL] at hD
  |_=>simp[oL] at hD
 |_=>simp[oL] at hD
theorem Tz{tm tm':List (Nat×V)}{dst:Option Nat}{o:Obj}{mk:Key→V}{v:V}(h:newObj ⟨tm,S⟩ dst o mk (fun t=>t=St.put ⟨tm,S'⟩ dst v))(hd:dst≠none):
 newObj ⟨tm',S⟩ dst o mk (fun t=>t=St.put ⟨tm',S'⟩ dst v):=by
 unfold newObj at h ⊢
 cases S with
 |nil=>exact h
 |cons own Ω=>
  cases dst with
  |none=>exact absurd rfl hd
  |some d=>
   simp only[St.put,St.mk.injEq,List.cons.injEq,Prod.mk.injEq,and_true,true_and] at h ⊢
   exact h
theorem QG{tm tm':List (Nat×V)}{o:Obj}{mk:Key→V}{v:V}(h:newObj ⟨tm,S⟩ none o mk (fun t=>t=St.put ⟨tm,S'⟩ none v)):
 newObj ⟨tm',S⟩ none o mk (fun t=>t=St.put ⟨tm',S'⟩ none v):=by
 unfold newObj at h ⊢
 cases S with
 |nil=>exact h
 |cons own Ω=>
  simp only[St.put,St.mk.injEq,true_and] at h ⊢
  exact h
theorem pI{tm tm':List (Nat×V)}{dst:Option Nat}{o:Obj}{mk:Key→V}{v:V}(h:newObj ⟨tm,S⟩ dst o mk (fun t=>t=St.put ⟨tm,S'⟩ dst v)):
 newObj ⟨tm',S⟩ dst o mk (fun t=>t=St.put ⟨tm',S'⟩ dst v):=by
 cases dst with
 |none=>exact QG h
 |some d=>exact Tz h (by simp)
theorem rR{tm tm':List (Nat×V)}{dst:Option Nat}{S1 S2:Store}{v v':V}(h:St.put ⟨tm,S1⟩ dst v=St.put ⟨tm,S2⟩ dst v'):St.put ⟨tm',S1⟩ dst v=St.put ⟨tm',S2⟩ dst v':=by
 cases dst with
 |none=>simp only[St.put,St.mk.injEq,true_and] at h ⊢;exact h
 |some d=>simp only[St.put,St.mk.injEq,List.cons.injEq,Prod.mk.injEq,and_true,true_and] at h ⊢;exact h
theorem VQ{l:Option Nat}{es x:List (List D)}{z:Nat}{tm tm':List (Nat×V)}{dst:Option Nat}{v:V}(h:xH l es ⟨tm,S⟩ dst z x (fun t=>t=St.put ⟨tm,S'⟩ dst v)):
 xH l es ⟨tm',S⟩ dst z x (fun t=>t=St.put ⟨tm',S'⟩ dst v):=by
 cases l with
 |none=>exact pI (o:=.tok z x) (mk:=fun k=>.c (.bH k x)) h
 |some n=>
  cases es with
  |nil=>exact rR h
  |cons y es=>exact pI (o:=.tok z x) (mk:=fun k=>.c (.bH k x)) h
theorem VR{b:Bool}{n:Nat}{x:List (List D)}{z:Nat}{tm tm':List (Nat×V)}{dst:Option Nat}{v:V}(h:yX b n ⟨tm,S⟩ dst z x (fun t=>t=St.put ⟨tm,S'⟩ dst v)):
 yX b n ⟨tm',S⟩ dst z x (fun t=>t=St.put ⟨tm',S'⟩ dst v):=by
 cases b with
 |false=>exact pI (o:=.d9 n z x) (mk:=fun k=>.c (.bH k x)) h
 |true=>exact rR h
theorem VT{o:Oper}{tm tm':List (Nat×V)}{v:V}(hD:oL o.op=true)(he:∀x∈o.op.operands,ev tm x=ev tm' x)(h:dO P o ⟨tm,S⟩ (fun t=>t=St.put ⟨tm,S'⟩ o.dst v)):
 dO P o ⟨tm',S⟩ (fun t=>t=St.put ⟨tm',S'⟩ o.dst v):=by
 obtain⟨dst,op,ty,pos,after,guard⟩:=o
 cases op with
 |alloc t=>
  simp only[dO,qK] at h ⊢
  split at h
  ·exact pI h
  ·exact h.elim
 |box t x=>
  have e1:=he x (by simp[Op.operands])
  simp only[dO,xG,e1] at h ⊢
  split at h
  ·exact pI h
  ·exact h.elim
 |makeSlice t l c=>
  have e1:=he l (by simp[Op.operands])
  have e2:=he c (by simp[Op.operands])
  simp only[dO,tQ,e1,e2] at h ⊢
  split at h
  ·split at h
   ·obtain⟨h1,h2,h3,h4,h5,h6⟩:=h
    exact⟨h1,h2,h3,h4,h5,pI h6⟩
   ·exact h.elim
  ·exact h.elim
 |store t x y=>
  have e1:=he x (by simp[Op.operands])
  have e2:=he y (by simp[Op.operands])
  simp only[dO,qL,e1,e2] at h ⊢
  split at h
  ·split at h
   ·obtain⟨h1,h2,h3,h4⟩:=h
    exact⟨h1,h2,h3,rR h4⟩
   ·exact h.elim
  ·split at h
   ·obtain⟨h1,h2,h3,h4,h5⟩:=h
    exact⟨h1,h2,h3,h4,rR h5⟩
   ·exact h.elim
  ·split at h
   ·split at h
    ·split at h
     ·obtain⟨h1,h2,h3,h4,h5,h6⟩:=h
      exact⟨h1,h2,h3,h4,h5,rR h6⟩
     ·exact h.elim
    ·exact h.elim
   ·exact h.elim
  ·exact h.elim
 |makeMap t r=>
  cases r with
  |none=>
   simp only[dO,qo] at h ⊢
   exact pI h
  |some r=>simp[oL] at hD
 |mapUpdate t x y z=>
  have e1:=he x (by simp[Op.operands])
  have e2:=he y (by simp[Op.operands])
  have e3:=he z (by simp[Op.operands])
  simp only[dO,qp,e1,e2,e3] at h ⊢
  split at h
  ·split at h
   ·exact rR h
   ·exact h.elim
  ·exact h.elim
 |call c=>
  obtain⟨xI,args,tV⟩:=c
  cases xI with
  |builtin b=>
   cases b with
   |append=>
    simp only[dO,mF] at h ⊢
    split at h
    ·rename_i x y t u hxy htu
     have hargs:args= #[x,y]:=by rw[←Array.toArray_toList (xs:=args),hxy]
     have e1:=he x (by simp[Op.operands,Call.operands,hargs])
     have e2:=he y (by simp[Op.operands,Call.operands,hargs])
     simp only[qw,e1,e2] at h ⊢
     split at h
     ·obtain⟨h1,h2,h3,h4⟩:=h
      refine⟨h1,h2,h3,?_⟩
      split at h4
      ·split at h4
       ·obtain⟨k1,k2,k3,k4⟩:=h4
        exact⟨k1,k2,k3,rR k4⟩
       ·obtain⟨k1,k2,k3,k4⟩:=h4
        exact⟨k1,k2,k3,rR k4⟩
       ·exact h4.elim
      ·obtain⟨k1,k2,k3⟩:=h4
       exact⟨k1,k2,VQ k3⟩
      ·obtain⟨k1,k2,k3⟩:=h4
       exact⟨k1,k2,VR k3⟩
      ·exact h4.elim
     ·exact h.elim
    ·exact h.elim
   |_=>simp[oL] at hD
  |_=>simp[oL] at hD
 |_=>simp[oL] at hD
theorem VU{f:FuncId}{args:List V}{tm tm':List (Nat×V)}{dst:Option Nat}{v:V}(h:vw P f args ⟨tm,S⟩ dst (fun t=>t=St.put ⟨tm,S'⟩ dst v)):vw P f args ⟨tm',S⟩ dst (fun t=>t=St.put ⟨tm',S'⟩ dst v):=by
 rcases h with⟨post,h1,h2⟩|⟨r,h1,h2⟩
 ·exact .inl ⟨post,h1,fun r KY hp=>rR (h2 r KY hp)⟩
 ·exact .inr ⟨r,h1,rR h2⟩
theorem VW{E:Md}{o:Oper}{tm tm':List (Nat×V)}{v:V}(hD:eY E o.op=true)(he:∀x∈o.op.operands,ev tm x=ev tm' x)(h:dO P o ⟨tm,S⟩ (fun t=>t=St.put ⟨tm,S'⟩ o.dst v)):
 dO P o ⟨tm',S⟩ (fun t=>t=St.put ⟨tm',S'⟩ o.dst v):=by
 by_cases hd:oL o.op=true
 ·exact VT hd he h
 ·have hc:kg o.op=true:=by
   unfold eY at hD
   rw[Bool.or_eq_true,Bool.and_eq_true] at hD
   rcases hD with h|h
   ·exact absurd h hd
   ·exact h.2
  obtain⟨dst,op,ty,pos,after,guard⟩:=o
  cases op with
  |call c=>
   obtain⟨xI,args,tV⟩:=c
   cases xI with
   |value x=>
    have h1:args.toList.map (ev tm)=args.toList.map (ev tm'):=List.map_congr_left fun y hy=>he y (by simp[Op.operands,Call.operands];exact .inr (by simpa using hy))
    have h2:ev tm x=ev tm' x:=he x (by simp[Op.operands,Call.operands])
    simp only[dO,mF,h1,h2] at h ⊢
    split at h
    ·exact VU h
    ·exact h.elim
   |_=>simp[kg] at hc
  |_=>simp[kg] at hc
theorem YX{tm tm':List (Nat×V)}{op:Op}(he:∀x∈op.operands,ev tm x=ev tm' x):nval P S tm op=nval P S tm' op:=by
 unfold nval pE
 split<;>try rfl
 ·rw[he _ (by simp[Op.operands])]
 ·rw[he _ (by simp[Op.operands])]
 ·rename_i c x y;rw[he c (by simp[Op.operands]),he x (by simp[Op.operands]),he y (by simp[Op.operands])]
 ·rw[he _ (by simp[Op.operands])]
 ·rw[he _ (by simp[Op.operands])]
 ·rw[he _ (by simp[Op.operands])]
 ·rename_i t x i;rw[he x (by simp[Op.operands]),he i (by simp[Op.operands])]
 ·rename_i t x i;rw[he x (by simp[Op.operands]),he i (by simp[Op.operands])]
 ·rename_i op t x y _;rw[he x (by simp[Op.operands]),he y (by simp[Op.operands])]
 ·rw[he _ (by simp[Op.operands])]
 ·rw[he _ (by simp[Op.operands])]
 ·rw[he _ (by simp[Op.operands])]
 ·rename_i fn first caps
  have h1:first.toList.map (ev tm)=first.toList.map (ev tm'):=List.map_congr_left fun x hx=>he x (by simp[Op.operands];exact .inl (by simpa using hx))
  have h2:caps.toList.map (ev tm)=caps.toList.map (ev tm'):=List.map_congr_left fun x hx=>he x (by simp[Op.operands];exact .inr (by simpa using hx))
  rw[h1,h2]
 ·rw[he _ (by simp[Op.operands])]
 ·rename_i t x lo hi mx
  rw[he x (by simp[Op.operands])]
  have h1:lo.map (ev tm)=lo.map (ev tm'):=by
   cases lo with
   |none=>rfl
   |some y=>simp[he y (by simp[Op.operands])]
  have h2:hi.map (ev tm)=hi.map (ev tm'):=by
   cases hi with
   |none=>rfl
   |some y=>simp[he y (by simp[Op.operands])]
  have h3:mx.map (ev tm)=mx.map (ev tm'):=by
   cases mx with
   |none=>rfl
   |some y=>simp[he y (by simp[Op.operands])]
  rw[h1,h2,h3]
 ·rename_i t parts
  have h1:(parts.toList.map fun x=>(x.1,ev tm x.2))=parts.toList.map fun x=>(x.1,ev tm' x.2):=List.map_congr_left fun x hx=>by
   rw[he x.2 (by simp only[Op.operands,List.mem_toArray,List.mem_map];exact⟨x,hx,rfl⟩)]
  rw[h1]
 ·rename_i t n parts
  have h1:(parts.toList.map fun x=>(x.1,ev tm x.2))=parts.toList.map fun x=>(x.1,ev tm' x.2):=List.map_congr_left fun x hx=>by
   rw[he x.2 (by simp only[Op.operands,List.mem_toArray,List.mem_map];exact⟨x,hx,rfl⟩)]
  rw[h1]
 ·rename_i t x i;rw[he x (by simp[Op.operands]),he i (by simp[Op.operands])]
 ·rename_i args tV
  split
  ·rename_i x t hx ht
   have hargs:args= #[x]:=by rw[←Array.toArray_toList (xs:=args),hx]
   rw[he x (by simp[Op.operands,Call.operands,hargs])]
  ·rfl
 ·rename_i args tV
  split
  ·rename_i x y hx
   have hargs:args= #[x,y]:=by rw[←Array.toArray_toList (xs:=args),hx]
   rw[he x (by simp[Op.operands,Call.operands,hargs]),he y (by simp[Op.operands,Call.operands,hargs])]
  ·rfl
 ·rename_i args tV
  split
  ·rename_i x y hx
   have hargs:args= #[x,y]:=by rw[←Array.toArray_toList (xs:=args),hx]
   rw[he x (by simp[Op.operands,Call.operands,hargs]),he y (by simp[Op.operands,Call.operands,hargs])]
  ·rfl
theorem VX{tm tm':List (Nat×V)}{c:Call}{v:V}(he:∀x∈c.operands,ev tm x=ev tm' x)(h:z8 P tm c v):z8 P tm' c v:=by
 unfold z8 at h ⊢
 obtain⟨xI,args,tV⟩:=c
 cases xI with
 |value x=>
  simp only at h ⊢
  rw[←he x (by simp[Call.operands])]
  have h1:args.toList.map (ev tm)=args.toList.map (ev tm'):=List.map_congr_left fun y hy=>he y (by simp[Call.operands];exact .inr (by simpa using hy))
  rw[←h1]
  exact h
 |_=>exact h
def LC:Obj→Prop
 | .box _=>True
 | .eU _ _=>True
 | .mp _=>True
 | .xf _=>True
 |_=>False
def QH(v:V)(k:Key):Prop:=(∃off,v=.c (.ptr k off))∨(∃i off,v=.c (.lu k i off))∨v=.c (.ji k)∨v=.c (.mp k)∨(∃r p,v=.c (.xp k r p))∨∃r p z i off,v=.c (.xq k r p z i off)
def Fix(S S':Store):Prop:=∀k o,bK S k=some o→LC o→bK S' k=some o
theorem Fix.refl(S:Store):Fix S S:=fun _ _ h _=>h
theorem gy{q:Prop}(h:no.1):q:=h.elim
theorem VY{l:Option Nat}{tm:List (Nat×V)}{op:Op}(h:(pE P l S tm op).1)
 (hf:∀x∈op.operands,∀k,QH (ev tm x) k→
   ∀o,bK S k=some o→LC o→bK S' k=some o):pE P l S' tm op=pE P l S tm op:=by
 unfold pE at h ⊢
 split at h<;>try rfl
 ·rename_i t x
  have hf:=hf x (by simp[Op.operands])
  unfold wQ at h ⊢
  split at h
  ·rfl
  ·split at h
   ·rename_i hx;simp only[hx]
   ·rename_i k off hx
    split at h
    ·rename_i cs hk;rw[hf k (.inl ⟨off,hx⟩) _ hk trivial]
    ·exact gy h
   ·rename_i k i off hx
    split at h
    ·rename_i bn es hk;rw[hf k (.inr (.inl ⟨i,off,hx⟩)) _ hk trivial]
    ·exact gy h
   ·rename_i k r p z i off hx
    split at h
    ·rename_i rs hk;rw[hf k (.inr (.inr (.inr (.inr (.inr ⟨r,p,z,i,off,hx⟩))))) _ hk trivial]
    ·exact gy h
   ·exact gy h
 ·rename_i t x f
  have hf:=hf x (by simp[Op.operands])
  unfold pq at h ⊢
  split at h
  ·split at h
   ·split at h
    ·exact gy h
    ·rename_i fs hs _ fd Yw hne
     split at h
     ·rename_i hx;simp[hs,Yw,hne,hx]
     ·rename_i k off hx
      split at h
      ·rename_i cs hk
       simp only[hs,Yw,hne,if_false,hx,hf k (.inl ⟨off,hx⟩) _ hk trivial,hk]
      ·exact gy h
     ·rename_i k i off hx
      split at h
      ·rename_i bn es hk
       simp only[hs,Yw,hne,if_false,hx,hf k (.inr (.inl ⟨i,off,hx⟩)) _ hk trivial,hk]
      ·exact gy h
     ·rename_i k r p z i off hx
      split at h
      ·rename_i rs hk
       simp only[hs,Yw,hne,if_false,hx,hf k (.inr (.inr (.inr (.inr (.inr ⟨r,p,z,i,off,hx⟩))))) _ hk trivial,hk]
      ·exact gy h
     ·exact gy h
   ·exact gy h
  ·exact gy h
 ·rename_i t x i
  have hf:=hf x (by simp[Op.operands])
  unfold pz at h ⊢
  split at h
  ·rename_i e k n' n ht hx hi
   split at h
   ·rename_i bn es hk
    simp only[ht,hx,hi,hf k (.inr (.inr (.inl hx))) _ hk trivial,hk]
   ·exact gy h
  ·rename_i len e k off n' n ht hx hi
   split at h
   ·rename_i cs hk
    simp only[ht,hx,hi,hf k (.inl ⟨off,hx⟩) _ hk trivial,hk]
   ·exact gy h
  ·rename_i e k r p n' n ht hx hi
   split at h
   ·rename_i rs hk
    simp only[ht,hx,hi,hf k (.inr (.inr (.inr (.inr (.inl ⟨r,p,hx⟩))))) _ hk trivial,hk]
   ·exact gy h
  ·rename_i e y n' n hy hy2 ht hx hi
   simp only[ht,hx,hi]
  ·exact gy h
 ·rename_i x
  have hf:=hf x (by simp[Op.operands])
  unfold sJ at h ⊢
  split at h
  ·rename_i k off hx
   split at h
   ·rename_i cs hk
    simp only[hx,hf k (.inl ⟨off,hx⟩) _ hk trivial,hk]
   ·exact gy h
  ·rename_i hx;simp only[hx]
  ·exact gy h
 ·rename_i t x i
  have hf:=hf x (by simp[Op.operands])
  unfold uP at h ⊢
  split at h
  ·rename_i kt et k l ht vM hi
   split at h
   ·rename_i m hk hkt hz
    simp only[ht,vM,hi,hf k (.inr (.inr (.inr (.inl vM)))) _ hk trivial,hk,hkt,hz]
   ·exact gy h
  ·exact gy h
 ·rename_i args tV
  split at h
  ·rename_i x t hx ht
   have hargs:args= #[x]:=by rw[←Array.toArray_toList (xs:=args),hx]
   have hf:=hf x (by simp[Op.operands,Call.operands,hargs])
   unfold zS at h ⊢
   split at h
   ·rename_i l Fj vM;simp only[Fj,vM]
   ·rename_i n e Fj;simp only[Fj]
   ·rename_i e k Fj vM
    split at h
    ·rename_i bn es hk
     simp only[Fj,vM,hf k (.inr (.inr (.inl vM))) _ hk trivial,hk]
    ·exact gy h
   ·rename_i e k r p Fj vM
    split at h
    ·rename_i rs hk
     simp only[Fj,vM,hf k (.inr (.inr (.inr (.inr (.inl ⟨r,p,vM⟩))))) _ hk trivial,hk]
    ·exact gy h
   ·rename_i e y hy hy2 Fj vM
    simp only[Fj,vM]
   ·exact gy h
  ·exact gy h
end
end Go.Ab
namespace Go.Ab
def su(acc:List Nat):List Edge→Nat
 |[]=>0
 |e::es=>(if Region.binds .any e then 2^e.on ||| acc.getD e.on 0 else 0) ||| su acc es
def masks:List Oper→List Nat→List Nat
 |[],acc=>acc
 |o::os,acc=>masks os (acc++[su acc o.after.toList])
def clash(E:Md)(R:Array Oper)(x y:Oper):Bool:= !(x.apart R y)||(eY E x.op&&eY E y.op)||lI E x.op||lI E y.op
def vP(E:Md)(R:Array Oper)(N:Nat):Bool:=
 (List.range R.size).all fun j=>
   (match R[j]? with
    |some o=>o.after.toList.all (fun e=> !Region.binds .any e||decide (e.on<j))&&(match o.dst with|some d=>decide (d<N)|none=>true)
    |none=>true)&&
   (List.range j).all fun i=>
     match R[i]?,R[j]? with
     |some x,some y=>((masks R.toList []).getD j 0).testBit i|| !(clash E R x y)
     |_,_=>true
def vC(R:Array Oper)(i j:Nat):Bool:=if i<j then((masks R.toList []).getD j 0).testBit i else((masks R.toList []).getD i 0).testBit j
def lX(E:Md)(R:Array Oper)(x y:Oper):Bool:= !(x.apart R y)||(eY E x.op&&eY E y.op)
def settled(R:Array Oper)(i:Nat):Operand→Bool
 | .tmp t=>(List.range R.size).all fun n=>decide (n<i)|| !(fB R n==some t)
 |_=>true
def rT(R:Array Oper)(i:Nat)(x:Oper)(j:Nat)(y:Oper):Bool:=kg y.op||match x.op with
 | .store _ a _=>settled R i a&&y.op.operands.toList.all (settled R j)
 |_=>false
def CV(E:Md)(R:Array Oper)(N:Nat):Bool:=
 (List.range R.size).all fun j=>
   (match R[j]? with
    |some o=>o.after.toList.all (fun e=> !Region.binds .any e||decide (e.on<j))&&(match o.dst with|some d=>decide (d<N)|none=>true)
    |none=>true)&&
   (List.range j).all fun i=>
     match R[i]?,R[j]? with
     |some x,some y=>((masks R.toList []).getD j 0).testBit i|| !(lX E R x y||(lI E x.op&& !(rT R i x j y))||(lI E y.op&& !(rT R j y i x)))
     |_,_=>true
def QI(v w:V):Bool:=
 match w with
 | .c (.ptr k _)=>(match v with| .c (.ptr k' _)=>k'.2 !=k.2| .c (.lu k' _ _)=>k'.2 !=k.2|_=>false)
 | .c (.lu k _ _)=>(match v with| .c (.ptr k' _)=>k'.2 !=k.2| .c (.lu k' _ _)=>k'.2 !=k.2|_=>false)
 | .c (.ji k)=>(match v with| .c (.ptr k' _)=>k'.2 !=k.2| .c (.lu k' _ _)=>k'.2 !=k.2|_=>false)
 | .c (.mp k)=>(match v with| .c (.ptr k' _)=>k'.2 !=k.2| .c (.lu k' _ _)=>k'.2 !=k.2|_=>false)
 | .c (.xp _ _ _)=>false
 | .c (.xq _ _ _ _ _ _)=>false
 |_=>true
def KN(E:Md)(R:Array Oper)(tm:List (Nat×V)):Bool:=
 (List.range R.size).all fun i=>match R[i]? with
   |some x=> !(lI E x.op)||match x.op with
    | .store _ a _=>(List.range R.size).all fun j=>match R[j]? with
      |some y=>vC R i j||eY E y.op||kg y.op||y.op.operands.toList.all (fun z=>QI (ev tm a) (ev tm z))
      |none=>true
    |_=>true
   |none=>true
def YZ(R:Array Oper)(i:Nat):Bool:=
 (List.range R.size).all fun j=>decide (j=i)||(if j<i then((masks R.toList []).getD i 0).testBit j else((masks R.toList []).getD j 0).testBit i)
def Fp:Op→Option FuncId
 | .call {callee:=.value (.func f),args:=_,argTypes:=_}=>some f
 |_=>none
def yG(R:Array Oper)(m:Nat):Md:=fun op=>if(List.range R.size).all (fun i=>match R[i]? with
 |some o=>(Fp op !=Fp o.op)||YZ R i
 |none=>true) then 2 else m
def uT:Op→Bool
 | .alloc _=>true
 |_=>false
def Fq(E:Md)(R:Array Oper)(p:Nat):Bool:=match R[p]? with
 |some o=>uT o.op&&o.guard.isNone&&o.dst.isSome&&(List.range R.size).all fun j=>match R[j]? with
  |some y=>decide (j=p)||y.apart R o||(List.range p).all fun i=>match R[i]? with
   |some x=> !(eY E x.op)||(decide (i<j)&&((masks R.toList []).getD j 0).testBit i)
   |none=>true
  |none=>true
 |none=>true
def TA(E:Md)(R:Array Oper)(p j:Nat)(x y:Oper):Bool:= !(x.apart R y)||(!(decide (j=p))&&((eY E x.op&&eY E y.op)||lI E x.op||lI E y.op))
def zw(E:Md)(R:Array Oper)(N p:Nat):Bool:=
 Fq E R p&&(List.range R.size).all fun j=>
  (match R[j]? with
   |some o=>o.after.toList.all (fun e=> !Region.binds .any e||decide (e.on<j))&&(match o.dst with|some d=>decide (d<N)|none=>true)
   |none=>true)&&
  (List.range j).all fun i=>
    match R[i]?,R[j]? with
    |some x,some y=>((masks R.toList []).getD j 0).testBit i|| !(TA E R p j x y)
    |_,_=>true
def VZ(E:Md)(R:Array Oper)(N p:Nat):Bool:=
 Fq E R p&&(List.range R.size).all fun j=>
  (match R[j]? with
   |some o=>o.after.toList.all (fun e=> !Region.binds .any e||decide (e.on<j))&&(match o.dst with|some d=>decide (d<N)|none=>true)
   |none=>true)&&
  (List.range j).all fun i=>
    match R[i]?,R[j]? with
    |some x,some y=>((masks R.toList []).getD j 0).testBit i|| !(!(x.apart R y)||(!(decide (j=p))&&((eY E x.op&&eY E y.op)||(lI E x.op&& !(rT R i x j y))||(lI E y.op&& !(rT R j y i x)))))
    |_,_=>true
def V3(R:Array Oper)(p i:Nat):Bool:=
 (List.range R.size).all fun j=>decide (j=i)||decide (j=p)||(if j<i then((masks R.toList []).getD i 0).testBit j else((masks R.toList []).getD j 0).testBit i)
def Fu(R:Array Oper)(p:Nat):Md:=fun op=>if(List.range R.size).all (fun i=>match R[i]? with
 |some o=>(Fp op !=Fp o.op)||V3 R p i
 |none=>true) then 2 else 0
def LD(R:Array Oper)(p:Nat):Bool:=match R[p]? with
 |some o=>uT o.op
 |none=>false
def pOf(R:Array Oper)(N:Nat):Option Nat:=(List.range R.size).find? fun p=>LD R p&&zw (Fu R p) R N p
def adZ(R:Array Oper)(N:Nat):Option Nat:=(List.range R.size).find? fun p=>LD R p&&VZ (Fu R p) R N p
def Fv(R:Array Oper)(N:Nat):Md:=if vP (yG R 1) R N then yG R 1 else match pOf R N with
 |some p=>Fu R p
 |none=>if vP (yG R 0) R N then yG R 0 else fun _=>0
def Hz(R:Array Oper)(N:Nat):Bool:=vP (Fv R N) R N||match pOf R N with
 |some p=>zw (Fv R N) R N p
 |none=>false
def vQ(R:Array Oper)(N:Nat):Md:=if CV (yG R 1) R N then yG R 1 else match adZ R N with
 |some p=>Fu R p
 |none=>if CV (yG R 0) R N then yG R 0 else fun _=>0
section
variable {P:Program} {E:Md} {w w':World} {σ σ':Nat→Nat} {S S':Store} {β β':Hs} {N:Nat} {s:St} {a:Act} {R:Array Oper}
theorem Bt:∀(l:List Oper) (acc:List Nat) (i:Nat),i<acc.length→(masks l acc)[i]? =acc[i]?
 |[],acc,i,h=>rfl
 |o::os,acc,i,h=>by rw[masks,Bt os _ i (by simp;omega),List.getElem?_append_left h]
theorem LG:∀(l:List Oper) (acc:List Nat) (i:Nat) (o:Oper),l[i]? =some o→
 ∃acc',(∀j,j<acc.length+i→acc'[j]? =(masks l acc)[j]?)∧acc'.length=acc.length+i∧(masks l acc)[acc.length+i]? =some (su acc' o.after.toList)
 |[],acc,i,o,h=>by simp at h
 |x::os,acc,0,o,h=>by
  simp at h;subst h
  refine⟨acc,fun j hj=> ?_,by simp,?_⟩
  ·rw[masks,Bt os _ j (by simp;omega),List.getElem?_append_left (by omega)]
  ·rw[masks,Nat.add_zero,Bt os _ _ (by simp),List.getElem?_append_right (Nat.le_refl _)];simp
 |x::os,acc,i+1,o,h=>by
  obtain⟨acc',h1,h2,h3⟩:=LG os (acc++[su acc x.after.toList]) i o (by simpa using h)
  refine⟨acc',fun j hj=> ?_,by rw[h2];simp;omega,?_⟩
  ·rw[masks];exact h1 j (by simp;omega)
  ·rw[masks,←h3];congr 1;simp;omega
theorem Bu{acc:List Nat}{k:Nat}:∀(es:List Edge),(su acc es).testBit k=true→∃e∈es,Region.binds .any e=true∧(e.on=k∨(acc.getD e.on 0).testBit k=true)
 |[],h=>by simp[su] at h
 |e::es,h=>by
  rw[su,Nat.testBit_or,Bool.or_eq_true] at h
  rcases h with h|h
  ·by_cases hb:Region.binds .any e=true
   ·rw[if_pos hb,Nat.testBit_or,Bool.or_eq_true] at h
    refine⟨e,by simp,hb,?_⟩
    rcases h with h|h
    ·left
     rw[Nat.testBit_two_pow] at h
     simpa using h
    ·exact .inr h
   ·rw[if_neg hb] at h;simp at h
  ·obtain⟨e',he',h'⟩:=Bu es h
   exact⟨e',by simp[he'],h'⟩
theorem Jr(E:Nat→Prop)(hE:∀i o e,R[i]? =some o→E i→e∈o.after→Region.binds .any e=true→E e.on)(hlt:∀i o e,R[i]? =some o→e∈o.after→Region.binds .any e=true→e.on<i):
 ∀(i:Nat) (o:Oper),R[i]? =some o→(∀e∈o.after,Region.binds .any e=true→E e.on)→∀k,((masks R.toList []).getD i 0).testBit k=true→E k:=by
 intro i
 induction i using Nat.strongRecOn with
 |_ i ih=>
  intro o ho hed k hk
  obtain⟨acc',h1,h2,h3⟩:=LG R.toList [] i o (by simpa using ho)
  simp only[List.length_nil,Nat.zero_add] at h1 h2 h3
  rw[List.getD_eq_getElem?_getD,h3] at hk
  obtain⟨e,he,hb,hek⟩:=Bu _ hk
  have he':e∈o.after:=by simpa using he
  rcases hek with rfl|hek
  ·exact hed e he' hb
  ·have hon:=hlt i o e ho he' hb
   have ad1:=hed e he' hb
   have hilt:i<R.size:=(Array.getElem?_eq_some_iff.1 ho).1
   have hsome:R[e.on]? =some R[e.on]:=Array.getElem?_eq_getElem (by omega)
   refine ih e.on hon _ hsome (fun e2 he2 hb2=>hE e.on _ e2 hsome ad1 he2 hb2) k ?_
   rw[List.getD_eq_getElem?_getD,h1 e.on (by omega)] at hek
   rw[List.getD_eq_getElem?_getD];exact hek
def jY(R:Array Oper)(vs:Nat→V)(E:Nat→Bool)(base:List (Nat×V)):Nat→Nat→V
 |0,t=>look base t
 |k+1,t=>if E k=true∧fB R k=some t then vs k else jY R vs E base k t
theorem yZ{vs:Nat→V}{E:Nat→Bool}{base:List (Nat×V)}{t i:Nat}:∀(n:Nat),(∀j,j<n→fB R j=some t→(E j=true↔j<i))→
 jY R vs E base n t=jY R vs (fun _=>true) base (min n i) t
 |0,_=>by simp[jY]
 |n+1,h=>by
  have ih:=yZ (vs:=vs) (base:=base) n (fun j hj hd=>h j (by omega) hd)
  rw[jY]
  by_cases hd:fB R n=some t
  ·by_cases hE:E n=true
   ·have hni:=(h n (by omega) hd).1 hE
    rw[if_pos ⟨hE,hd⟩,show min (n+1) i=n+1 from by omega,jY,if_pos ⟨rfl,hd⟩]
   ·have hni:¬n<i:=fun hn=>hE ((h n (by omega) hd).2 hn)
    rw[if_neg (fun x=>hE x.1),ih,show min (n+1) i=min n i from by omega]
  ·rw[if_neg (fun x=>hd x.2),ih]
   by_cases hni:n<i
   ·rw[show min (n+1) i=n+1 from by omega,show min n i=n from by omega,jY,if_neg (fun x=>hd x.2)]
   ·rw[show min (n+1) i=min n i from by omega]
theorem vD{vs:Nat→V}{E E':Nat→Bool}{base:List (Nat×V)}{t:Nat}:∀(n:Nat),(∀j,j<n→fB R j=some t→E j=E' j)→jY R vs E base n t=jY R vs E' base n t
 |0,_=>rfl
 |n+1,h=>by
  rw[jY,jY,vD n (fun j hj hd=>h j (by omega) hd)]
  by_cases hd:fB R n=some t
  ·rw[h n (by omega) hd]
  ·rw[if_neg (fun x=>hd x.2),if_neg (fun x=>hd x.2)]
theorem Aa{vs:Nat→V}{E:Nat→Bool}{base:List (Nat×V)}{t i:Nat}(hi:E i=true)(hd:fB R i=some t):∀(n:Nat),i<n→(∀j,j<n→i<j→fB R j=some t→E j=false)→jY R vs E base n t=vs i
 |0,h,_=>by omega
 |n+1,h,hj=>by
  rw[jY]
  by_cases hin:i=n
  ·subst hin;rw[if_pos ⟨hi,hd⟩]
  ·have:¬(E n=true∧fB R n=some t):=fun x=>by
    have:=hj n (by omega) (by omega) x.2
    rw[this] at x;simp at x
   rw[if_neg this]
   exact Aa hi hd n (by omega) (fun j hjn hij hdj=>hj j (by omega) hij hdj)
theorem Ac{K:St→Prop}:∀(n k:Nat),k+n=R.size→∀s,om P E R (R.toList.drop k) s K→
 ∃(st:Nat→St) (vs:Nat→V),st k=s∧K (st R.size)∧∀i,k≤i→i<R.size→∃o,R[i]? =some o∧nT P E R o (st i) (vs i) (st (i+1))
 |0,k,hk,s,h=>by
  have:R.toList.drop k=[]:=by apply List.drop_eq_nil_of_le;simp;omega
  rw[this] at h
  exact⟨fun _=>s,fun _=>.any,rfl,h,fun i h1 h2=>by omega⟩
 |n+1,k,hk,s,h=>by
  have hlt:k<R.toList.length:=by simp;omega
  rw[List.drop_eq_getElem_cons hlt] at h
  have hRk:R[k]? =some R.toList[k]:=by
   rw[Array.getElem?_eq_getElem (by omega)];simp
  have key:∃v s',nT P E R R.toList[k] s v s'∧om P E R (R.toList.drop (k+1)) s' K:=by
   have hN:∀(hg:gd R R.toList[k] s.tm=some true),eP P E R.toList[k] s (fun s'=>om P E R (R.toList.drop (k+1)) s' K)→∃v s',nT P E R R.toList[k] s v s'∧om P E R (R.toList.drop (k+1)) s' K:=by
    intro hg hx
    unfold eP at hx
    by_cases hD:oL R.toList[k].op=true
    ·rw[if_pos hD] at hx
     obtain⟨S',v,h1,h2⟩:=VP hD hx
     exact⟨v,_,.inr (.inr ⟨hg,VO hD,h1,by rw[j6],fun h=>by rw[hD] at h;cases h⟩),h2⟩
    ·rw[if_neg hD] at hx
     have hD':oL R.toList[k].op=false:=by simpa using hD
     split at hx
     ·rename_i x args tV hop
      have hcv:kg R.toList[k].op=true:=by rw[hop];rfl
      rw[←hop] at hx
      split at hx
      ·rename_i hE
       obtain⟨r,h1,h2⟩:=hx
       exact⟨r,_,.inr (.inl ⟨hg,by unfold eY;rw[hD',hE];rfl,.inl ⟨_,hop,h1⟩,rfl⟩),h2⟩
      ·rename_i hE
       obtain⟨S',v,h0,h1,h2⟩:=hx
       exact⟨v,_,.inr (.inr ⟨hg,by unfold eY;rw[hE,hcv];simp,h1,by rw[j6],fun _ _=>by rw[j6];exact h0⟩),h2⟩
      ·rename_i hE0 hE1
       obtain⟨S',v,h1,h2⟩:=hx
       have h3:2≤E R.toList[k].op:=by
        rcases Nat.lt_or_ge (E R.toList[k].op) 2 with h|h
        ·exfalso
         have:E R.toList[k].op=0∨E R.toList[k].op=1:=by omega
         exact this.elim hE0 hE1
        ·exact h
       exact⟨v,_,.inr (.inr ⟨hg,by unfold eY;rw[hcv,Bool.and_true,Bool.or_eq_true,decide_eq_true_eq];exact .inr (by omega),h1,by rw[j6],fun _ h=>by
        unfold lI at h
        rw[hcv,Bool.and_true,Bool.or_eq_false_iff,decide_eq_false_iff_not] at h
        exact absurd h3 h.2⟩),h2⟩
     ·rename_i hne
      refine⟨_,_,.inr (.inl ⟨hg,?_,.inr ⟨hx.1,rfl⟩,rfl⟩),hx.2⟩
      have:kg R.toList[k].op=false:=by
       cases hc:kg R.toList[k].op with
       |false=>rfl
       |true=>
        exfalso
        unfold kg at hc
        split at hc
        ·rename_i x a b ho;exact hne _ _ _ ho
        ·cases hc
      unfold eY;rw[hD',this];simp
   change qx P E R R.toList[k] s (fun s'=>om P E R (R.toList.drop (k+1)) s' K) at h
   unfold qx at h
   split at h
   ·rename_i hg;exact hN (by simp only[gd,hg]) h
   ·rename_i j want hg
    split at h
    ·rename_i x hx
     by_cases e:x=want
     ·exact hN (by simp only[gd,hg,hx,e,beq_self_eq_true]) (h.1 e)
     ·exact⟨.iB [],_,.inl ⟨by simp only[gd,hg,hx];simp[e],rfl,rfl⟩,h.2 (by cases x<;>cases want<;>simp_all)⟩
    ·rename_i hx
     exact⟨.iB [],_,.inl ⟨by simp only[gd,hg,hx],rfl,rfl⟩,h⟩
    ·exact h.elim
  obtain⟨v,s',ht,hd⟩:=key
  obtain⟨st,vs,h1,h2,h3⟩:=Ac n (k+1) (by omega) s' hd
  refine⟨fun i=>if i=k then s else st i,fun i=>if i=k then v else vs i,by simp,?_,fun i hi1 hi2=> ?_⟩
  ·have:R.size≠k:=by omega
   simp only[if_neg this];exact h2
  ·by_cases e:i=k
   ·subst e
    refine⟨_,hRk,?_⟩
    simp only[if_true]
    have:i+1≠i:=by omega
    simp only[if_neg this,h1]
    exact ht
   ·obtain⟨o,ho,ht'⟩:=h3 i (by omega) hi2
    refine⟨o,ho,?_⟩
    have:i+1≠k:=by omega
    simp only[if_neg e,if_neg this]
    exact ht'
theorem V4{o:Oper}{s s':St}{v:V}(h:nT P E R o s v s'):s'=St.put ⟨s.tm,s'.st⟩ o.dst v:=by
 rcases h with⟨_,_,h⟩|⟨_,_,_,h⟩|⟨_,_,_,h,_⟩
 ·rw[h];cases o.dst<;>rfl
 ·rw[h];cases o.dst<;>rfl
 ·exact h
theorem V5{o:Oper}{s s':St}{v:V}(h:nT P E R o s v s')(hD:eY E o.op=false):s'.st=s.st:=by
 rcases h with⟨_,_,h⟩|⟨_,_,_,h⟩|⟨_,h,_,_⟩
 ·rw[h];cases o.dst<;>rfl
 ·rw[h];cases o.dst<;>rfl
 ·rw[hD] at h;cases h
theorem vR{st:Nat→St}{vs:Nat→V}(h:∀i,i<R.size→∃o,R[i]? =some o∧nT P E R o (st i) (vs i) (st (i+1)))(t:Nat):∀i,i≤R.size→look (st i).tm t=jY R vs (fun _=>true) (st 0).tm i t
 |0,_=>rfl
 |i+1,hi=>by
  obtain⟨o,ho,ht⟩:=h i (by omega)
  have e:=V4 ht
  have ih:=vR h t i (by omega)
  rw[jY,←ih]
  have hdst:fB R i=o.dst:=by simp[fB,ho]
  rw[hdst,e]
  cases hd:o.dst with
  |none=>simp[St.put]
  |some d=>
   simp only[St.put,look,true_and,Option.some.injEq]
theorem DS.refl(S:Store):DS S S:=fun _ _ h=>.inl h
theorem DS.trans{S1 S2 S3:Store}(h:DS S1 S2)(k:DS S2 S3):DS S1 S3:=by
 intro x o hx
 rcases h x o hx with h1|⟨h1,o',z,es,h2,h2'⟩
 ·exact k x o h1
 ·rcases k x _ h2 with h3|⟨_,h3⟩
  ·exact .inr ⟨h1,o',z,es,h3,h2'⟩
  ·exact .inr ⟨h1,h3⟩
theorem DS.push{own:List Obj}{Ω:Store}{o:Obj}:DS (own::Ω) ((own++[o])::Ω):=fun k o' h=>.inl (lW _ _ _ _ _ h)
theorem qO{dst:Option Nat}{o:Obj}{mk:Key→V}{s':St}(h:newObj s dst o mk (fun t=>t=s')):DS s.st s'.st:=by
 unfold newObj at h
 split at h
 ·rename_i own Ω hst
  rw[←h,j6,hst]
  exact DS.push
 ·exact h.elim
theorem Y0{l:Option Nat}{es x:List (List D)}{z:Nat}{dst:Option Nat}{s':St}(h:xH l es s dst z x (fun t=>t=s')):DS s.st s'.st:=by
 cases l with
 |none=>exact qO (o:=.tok z x) (mk:=fun k=>.c (.bH k x)) h
 |some n=>
  cases es with
  |nil=>
   have h:St.put ⟨s.tm,s.st⟩ dst (.c (.d (.ol n x)))=s':=h
   rw[←h,j6]
   exact DS.refl _
  |cons y es=>exact qO (o:=.tok z x) (mk:=fun k=>.c (.bH k x)) h
theorem Y1{b:Bool}{n:Nat}{x:List (List D)}{z:Nat}{dst:Option Nat}{s':St}(h:yX b n s dst z x (fun t=>t=s')):DS s.st s'.st:=by
 cases b with
 |false=>exact qO (o:=.d9 n z x) (mk:=fun k=>.c (.bH k x)) h
 |true=>
  have h:St.put ⟨s.tm,s.st⟩ dst (.c (.d (.ol n x)))=s':=h
  rw[←h,j6]
  exact DS.refl _
theorem V6{o:Oper}{s s':St}(hD:oL o.op=true)(hs:w9 o.op=false)(h:dO P o s (fun t=>t=s')):DS s.st s'.st:=by
 obtain⟨dst,op,ty,pos,after,guard⟩:=o
 cases op with
 |alloc t=>
  simp only[dO,qK] at h
  split at h
  ·exact qO h
  ·exact h.elim
 |box t x=>
  simp only[dO,xG] at h
  split at h
  ·exact qO h
  ·exact h.elim
 |makeSlice t l c=>
  simp only[dO,tQ] at h
  split at h
  ·split at h
   ·exact qO h.2.2.2.2.2
   ·exact h.elim
  ·exact h.elim
 |store t x y=>simp[w9] at hs
 |mapUpdate t x y z=>simp[w9] at hs
 |makeMap t r=>
  cases r with
  |none=>
   simp only[dO,qo] at h
   exact qO h
  |some r=>simp[oL] at hD
 |call c=>
  obtain⟨xI,args,tV⟩:=c
  cases xI with
  |builtin b=>
   cases b with
   |append=>
    simp only[dO,mF] at h
    split at h
    ·simp only[qw] at h
     split at h
     ·obtain⟨h1,h2,h3,h4⟩:=h
      split at h4
      ·rename_i k es hex
       split at h4
       ·rename_i z es' hk
        obtain⟨k1,k2,k3,k4⟩:=h4
        rw[←k4,j6]
        intro k' o' ho'
        by_cases e:k'=k
        ·subst e
         rw[hk] at ho';cases ho'
         exact .inr ⟨⟨_,_,.inl rfl⟩,_,_,_,fV _ _ _ _ hk,.inl rfl⟩
        ·exact .inl ((fZ _ _ _ _ (Ne.symm e)).trans ho')
       ·rename_i n z es' hk
        obtain⟨k1,k2,k3,k4⟩:=h4
        rw[←k4,j6]
        intro k' o' ho'
        by_cases e:k'=k
        ·subst e
         rw[hk] at ho';cases ho'
         exact .inr ⟨⟨_,_,.inr ⟨_,rfl⟩⟩,_,_,_,fV _ _ _ _ hk,.inr ⟨_,rfl⟩⟩
        ·exact .inl ((fZ _ _ _ _ (Ne.symm e)).trans ho')
       ·exact h4.elim
      ·exact Y0 h4.2.2
      ·exact Y1 h4.2.2
      ·exact h4.elim
     ·exact h.elim
    ·exact h.elim
   |_=>simp[oL] at hD
  |_=>simp[oL] at hD
 |_=>simp[oL] at hD
theorem V7{o:Oper}{s s':St}{v:V}(h:nT P E R o s v s')(hs:lI E o.op=false):DS s.st s'.st:=by
 rcases h with⟨_,_,h⟩|⟨_,_,_,h⟩|⟨_,hD,h,_,hc⟩
 ·rw[h];cases o.dst<;>exact DS.refl _
 ·rw[h];cases o.dst<;>exact DS.refl _
 ·cases hd:oL o.op with
  |true=>exact V6 hd (by unfold lI at hs;rw[Bool.or_eq_false_iff] at hs;exact hs.1) h
  |false=>exact hc hd hs
theorem zx{st:Nat→St}{vs:Nat→V}(h:∀i,i<R.size→∃o,R[i]? =some o∧nT P E R o (st i) (vs i) (st (i+1))){i:Nat}:∀(m:Nat),i+m≤R.size→(∀j o,i≤j→j<i+m→R[j]? =some o→eY E o.op=false)→(st (i+m)).st=(st i).st
 |0,_,_=>rfl
 |m+1,hm,hj=>by
  obtain⟨o,ho,ht⟩:=h (i+m) (by omega)
  rw[show i+(m+1)=i+m+1 from rfl,V5 ht (hj _ o (by omega) (by omega) ho)]
  exact zx h m (by omega) (fun j o h1 h2 h3=>hj j o h1 (by omega) h3)
def KS(k:Key)(S S':Store):Prop:=∀o,bK S k=some o→bK S' k=some o∨((∃z es,o9 o z es)∧∃o' z es,bK S' k=some o'∧o9 o' z es)
theorem KS.trans{k:Key}{S1 S2 S3:Store}(h:KS k S1 S2)(h':KS k S2 S3):KS k S1 S3:=by
 intro o hx
 rcases h o hx with h1|⟨h1,o',z,es,h2,h2'⟩
 ·exact h' o h1
 ·rcases h' _ h2 with h3|⟨_,h3⟩
  ·exact .inr ⟨h1,o',z,es,h3,h2'⟩
  ·exact .inr ⟨h1,h3⟩
theorem QJ{st:Nat→St}{vs:Nat→V}(h:∀i,i<R.size→∃o,R[i]? =some o∧nT P E R o (st i) (vs i) (st (i+1))){i:Nat}{k:Key}:∀(m:Nat),i+m≤R.size→
 (∀j o,i≤j→j<i+m→R[j]? =some o→lI E o.op=false∨bK (st (j+1)).st k=bK (st j).st k)→KS k (st i).st (st (i+m)).st
 |0,_,_=>fun _ hx=>.inl hx
 |m+1,hm,hj=>by
  obtain⟨o,ho,ht⟩:=h (i+m) (by omega)
  refine(QJ h m (by omega) (fun j o h1 h2 h3=>hj j o h1 (by omega) h3)).trans ?_
  rcases hj _ o (by omega) (by omega) ho with hs|hs
  ·exact V7 ht hs k
  ·intro x hx
   exact .inl (hs.trans hx)
theorem cnt_lt(p q:Nat→Bool):∀(l:List Nat) (i:Nat),(∀x,q x=true→p x=true)→i∈l→p i=true→q i=false→l.countP q<l.countP p
 |[],_,_,h,_,_=>by simp at h
 |x::l,i,h,hi,hp,hq=>by
  rw[List.countP_cons,List.countP_cons]
  have hle:l.countP q≤l.countP p:=List.countP_mono_left (fun y _ hy=>h y hy)
  rcases List.mem_cons.1 hi with rfl|hi
  ·rw[hp,hq];simp;omega
  ·have ih:=cnt_lt p q l i h hi hp hq
   by_cases hx:q x=true
   ·rw[hx,h x hx];simp;exact ih
   ·have:q x=false:=by simpa using hx
    rw[this];simp
    split<;>omega
end
end Go.Ab
namespace Go.Ab
section
variable {P:Program} {E:Md} {N:Nat} {R:Array Oper}
def lY(E:Md)(R:Array Oper)(p:Nat)(listed:Array Bool):Prop:=listed.getD p false=true∧p<R.size∧∃j x,j<p∧R[j]? =some x∧eY E x.op=true∧listed.getD j false=false
def Raw(P:Program)(R:Array Oper)(p:Nat)(w0 w:World)(σ:Nat→Nat)(S:Store)(β:Hs)(v:Value):Prop:=
 ∃b c ty,v=.pointer (some ⟨b,0,none⟩)∧w.heap[b]? =some (.cells c ty (0,0))∧σ b=0∧w0.heap.size≤b∧¬Own S β b∧
  ∀o t zs,R[p]? =some o→o.op=.alloc t→jE P t=some zs→∀w σ S β,gu w σ S β zs c.toList
open Classical in
noncomputable def qH(E:Md)(R:Array Oper)(p:Nat)(vs:Nat→V)(listed:Array Bool)(base:List (Nat×V))(t:Nat):V:=
 if lY E R p listed∧fB R p=some t then .any else jY R vs (fun i=>listed.getD i false) base R.size t
structure Mid (P:Program) (N:Nat) (E:Md) (R:Array Oper) (p:Nat) (st:Nat→St) (vs:Nat→V) (β0:Hs) (σ0:Nat→Nat) (w0:World) (listed:Array Bool) (a:Act) (w:World):Prop where
 size:listed.size=R.size
 closed:∀i o e,R[i]? =some o→listed.getD i false=true→e∈o.after→Region.binds .any e=true→listed.getD e.on false=true
 rep:∃m,m≤R.size∧(∀i o,R[i]? =some o→eY E o.op=true→(i=p→¬lY E R p listed)→(listed.getD i false=true↔i<m))∧∃σ β,a.tmps.size=N∧a.defers=[]∧eD w σ (st m).st β∧
  (∀t,dD w σ (st m).st β (qH E R p vs listed (st 0).tm t) (a.tmps.getD t undef))∧Step (st 0).st β0 σ0 w0 (st m).st β σ w∧Keep (st 0).st β0 (st m).st β∧
  (lY E R p listed→m≤p∧∀d,fB R p=some d→Raw P R p w0 w σ (st m).st β (a.tmps.getD d undef))
theorem Ka{o:Oper}{x:Operand}{t:Nat}(hx:x∈o.op.operands)(e:x=.tmp t):t∈o.looksAt R:=by
 subst e
 exact List.mem_append_left _ (List.mem_filterMap.2 ⟨.tmp t,by simpa using hx,rfl⟩)
theorem NY{o:Oper}{g d:Nat}{want:Bool}(hg:o.guard=some (g,want))(hd:fB R g=some d):d∈o.looksAt R:=by
 refine List.mem_append_right _ ?_
 rw[hg]
 show d∈((R[g]?).bind (·.dst)).toList
 unfold fB at hd
 rw[hd];simp
theorem xL(h:vP E R N=true){i j:Nat}{x y:Oper}(hij:i<j)(hx:R[i]? =some x)(hy:R[j]? =some y)(hc:clash E R x y=true):((masks R.toList []).getD j 0).testBit i=true:=by
 have hj:j<R.size:=(Array.getElem?_eq_some_iff.1 hy).1
 have h1:=List.all_eq_true.1 h j (List.mem_range.2 hj)
 rw[Bool.and_eq_true] at h1
 have h2:=List.all_eq_true.1 h1.2 i (List.mem_range.2 hij)
 rw[hx,hy] at h2
 simp only[hc,Bool.not_true,Bool.or_false] at h2
 exact h2
theorem LH(h:vP E R N=true){i:Nat}{o:Oper}{e:Edge}(ho:R[i]? =some o)(he:e∈o.after)(hb:Region.binds .any e=true):e.on<i:=by
 have hj:i<R.size:=(Array.getElem?_eq_some_iff.1 ho).1
 have h1:=List.all_eq_true.1 h i (List.mem_range.2 hj)
 rw[Bool.and_eq_true,ho] at h1
 have h2:=h1.1
 simp only[Bool.and_eq_true] at h2
 have h3:=List.all_eq_true.1 h2.1 e (by simpa using he)
 simpa [hb] using h3
theorem NZ(h:vP E R N=true){i:Nat}{o:Oper}(ho:R[i]? =some o):∀d,o.dst=some d→d<N:=by
 intro d hd
 have hj:i<R.size:=(Array.getElem?_eq_some_iff.1 ho).1
 have h1:=List.all_eq_true.1 h i (List.mem_range.2 hj)
 rw[Bool.and_eq_true,ho] at h1
 have h2:=h1.1
 simp only[Bool.and_eq_true,hd] at h2
 simpa using h2.2
theorem QK{x y:Oper}:x.apart R y=y.apart R x:=by
 rw[Bool.eq_iff_iff]
 have key:∀x y:Oper,x.apart R y=true→y.apart R x=true:=fun x y h=>by
  obtain⟨h1,h2,h3⟩:=Oper.apart_spec h
  unfold Oper.apart
  cases hx:x.dst<;>cases hy:y.dst<;>simp
  ·rename_i d;exact h3 d hy
  ·rename_i d;exact h1 d hx
  ·rename_i d d'
   exact⟨⟨h3 d' hy,fun e=>h2 d hx (by rw[hy,e])⟩,h1 d hx⟩
 exact⟨key x y,key y x⟩
theorem N7{x y:Oper}:lX E R x y=lX E R y x:=by
 unfold lX
 rw[QK,Bool.and_comm (eY E x.op)]
def refs(tm:List (Nat×V))(o:Oper)(k:Key):Prop:=∃x∈o.op.operands,QH (ev tm x) k
structure LJ (E:Md) (R:Array Oper) (N:Nat) (st:Nat→St) (p:Nat):Prop where
 edge:∀(i:Nat) (o:Oper) (e:Edge),R[i]? =some o→e∈o.after→Region.binds .any e=true→e.on<i
 dst:∀(i:Nat) (o:Oper),R[i]? =some o→∀d,o.dst=some d→d<N
 pair:∀(i j:Nat) (x y:Oper),i<j→R[i]? =some x→R[j]? =some y→lX E R x y=true→((masks R.toList []).getD j 0).testBit i=true∨(j=p∧eY E x.op=true∧x.apart R y=true)
 store:∀(i j:Nat) (x o:Oper),i≠j→R[i]? =some x→R[j]? =some o→lI E x.op=true→eY E o.op=false→kg o.op=false→
  vC R i j=true∨∀k,refs (st j).tm o k→bK (st (i+1)).st k=bK (st i).st k
 pend:∀o,R[p]? =some o→uT o.op=true∧o.guard=none∧(∃d,o.dst=some d)∧∀j y,j≠p→R[j]? =some y→y.apart R o=false→∀i x,i<p→R[i]? =some x→eY E x.op=true→i<j∧((masks R.toList []).getD j 0).testBit i=true
theorem aao{st:Nat→St}(h:vP E R N=true):LJ E R N st R.size where
 edge:=fun i o e h1 h2 h3=>LH h h1 h2 h3
 dst:=fun i o h1=>NZ h h1
 pair:=fun i j x y hij hx hy hc=>.inl (xL h hij hx hy (by
  unfold lX at hc
  unfold clash
  rw[hc];rfl))
 store:=fun i j x o hij hx ho hs hD hc=>.inl (by
  unfold vC
  by_cases e:i<j
  ·rw[if_pos e]
   exact xL h e hx ho (by unfold clash;rw[hs];simp)
  ·rw[if_neg e]
   exact xL h (show j<i by omega) ho hx (by unfold clash;rw[hs];simp))
 pend:=fun o ho=>by rw[Array.getElem?_eq_none (Nat.le_refl _)] at ho;cases ho
theorem Y2{p:Nat}(h:Fq E R p=true):∀o,R[p]? =some o→uT o.op=true∧o.guard=none∧(∃d,o.dst=some d)∧∀j y,j≠p→R[j]? =some y→y.apart R o=false→∀i x,i<p→R[i]? =some x→eY E x.op=true→i<j∧((masks R.toList []).getD j 0).testBit i=true:=by
 intro o ho
 unfold Fq at h
 rw[ho] at h
 simp only[Bool.and_eq_true] at h
 obtain⟨⟨⟨h1,h2⟩,h3⟩,h4⟩:=h
 refine⟨h1,by simpa using h2,Option.isSome_iff_exists.1 h3,fun j y hj hy hap i x hi hx hD=> ?_⟩
 have hjl:j<R.size:=(Array.getElem?_eq_some_iff.1 hy).1
 have h5:=List.all_eq_true.1 h4 j (List.mem_range.2 hjl)
 rw[hy] at h5
 simp only[hap,hj,decide_false,Bool.false_or] at h5
 have h6:=List.all_eq_true.1 h5 i (List.mem_range.2 hi)
 rw[hx] at h6
 simpa [hD] using h6
theorem uU{o:Oper}(h:uT o.op=true):eY E o.op=true∧lI E o.op=false∧kg o.op=false:=by
 obtain⟨dst,op,ty,pos,after,guard⟩:=o
 cases op<;>simp_all[uT,eY,oL,lI,w9,kg]
theorem Y3{st:Nat→St}{p:Nat}(h0:zw E R N p=true):LJ E R N st p:=by
 unfold zw at h0
 rw[Bool.and_eq_true] at h0
 obtain⟨hp,h⟩:=h0
 have yH:=Y2 hp
 have hpr:∀(i j:Nat) (x y:Oper),i<j→R[i]? =some x→R[j]? =some y→((masks R.toList []).getD j 0).testBit i=true∨(x.apart R y=true∧(j=p∨((eY E x.op&&eY E y.op)=false∧lI E x.op=false∧lI E y.op=false))):=by
  intro i j x y hij hx hy
  have hj:j<R.size:=(Array.getElem?_eq_some_iff.1 hy).1
  have h1:=List.all_eq_true.1 h j (List.mem_range.2 hj)
  rw[Bool.and_eq_true] at h1
  have h2:=List.all_eq_true.1 h1.2 i (List.mem_range.2 hij)
  rw[hx,hy] at h2
  simp only[TA] at h2
  rw[Bool.or_eq_true] at h2
  rcases h2 with h2|h2
  ·exact .inl h2
  ·right
   rw[Bool.not_eq_true',Bool.or_eq_false_iff,Bool.not_eq_false'] at h2
   refine⟨h2.1,?_⟩
   by_cases e:j=p
   ·exact .inl e
   ·right
    have h3:=h2.2
    simp only[e,decide_false,Bool.not_false,Bool.true_and,Bool.or_eq_false_iff] at h3
    exact⟨h3.1.1,h3.1.2,h3.2⟩
 refine⟨?_,?_,?_,?_,yH⟩
 ·intro i o e ho he hb
  have hj:i<R.size:=(Array.getElem?_eq_some_iff.1 ho).1
  have h1:=List.all_eq_true.1 h i (List.mem_range.2 hj)
  rw[Bool.and_eq_true,ho] at h1
  have h2:=h1.1
  simp only[Bool.and_eq_true] at h2
  have h3:=List.all_eq_true.1 h2.1 e (by simpa using he)
  simpa [hb] using h3
 ·intro i o ho d hd
  have hj:i<R.size:=(Array.getElem?_eq_some_iff.1 ho).1
  have h1:=List.all_eq_true.1 h i (List.mem_range.2 hj)
  rw[Bool.and_eq_true,ho] at h1
  have h2:=h1.1
  simp only[Bool.and_eq_true,hd] at h2
  simpa using h2.2
 ·intro i j x y hij hx hy hc
  rcases hpr i j x y hij hx hy with h1|⟨h1,h2⟩
  ·exact .inl h1
  ·rcases h2 with h2|⟨h2,_,_⟩
   ·right
    unfold lX at hc
    rw[h1] at hc
    simp only[Bool.not_true,Bool.false_or,Bool.and_eq_true] at hc
    exact⟨h2,hc.1,h1⟩
   ·unfold lX at hc
    rw[h1,h2] at hc
    cases hc
 ·intro i j x o hij hx ho hs hD hc
  have hjp:j≠p:=fun e=>by
   subst e
   have:=(uU (E:=E) (yH o ho).1).1
   rw[hD] at this;cases this
  have PN:i≠p:=fun e=>by
   subst e
   have:=(uU (E:=E) (yH x hx).1).2.1
   rw[hs] at this;cases this
  left
  unfold vC
  by_cases e:i<j
  ·rw[if_pos e]
   rcases hpr i j x o e hx ho with h1|⟨_,h2⟩
   ·exact h1
   ·rcases h2 with h2|⟨_,h2,_⟩
    ·exact absurd h2 hjp
    ·rw[hs] at h2;cases h2
  ·rw[if_neg e]
   rcases hpr j i o x (by omega) ho hx with h1|⟨_,h2⟩
   ·exact h1
   ·rcases h2 with h2|⟨_,_,h2⟩
    ·exact absurd h2 PN
    ·rw[hs] at h2;cases h2
theorem Oper.TB{o:Oper}{a:Act}{w:World}{K:Act→World→Prop}{Q:Exit→Act→World→Prop}(hh:o.wp P a w K Q):o.wp P a w (fun a' w'=>K a' w'∧∀d,o.dst≠some d→a'.tmps.getD d undef=a.tmps.getD d undef) Q:=by
 have key:∀(ds:List Deferred) (v:Value) (d:Nat),o.dst≠some d→(({a with defers:=ds}:Act).put o.dst v).tmps.getD d undef=a.tmps.getD d undef:=by
  intro ds v d hd
  cases ho:o.dst with
  |none=>rfl
  |some e=>
   have hne:e≠d:=fun x=>hd (by rw[ho,x])
   simp only[Act.put,Array.getD_eq_getD_getElem?]
   rw[Array.getElem?_setIfInBounds_ne hne]
 unfold Oper.wp at *
 generalize (execOp a.eval o).run P w=r at *
 cases r with
 |ok n w'=>
  cases n<;>simp only[Oper.upon] at hh ⊢ <;>
   first
    |exact⟨hh,fun d hd=>key _ _ d hd⟩
    |exact Calls.mono hh (fun e w'' he=>by cases e<;>first|exact⟨he,fun d hd=>key _ _ d hd⟩|exact he)
    |exact Rows.mono hh (fun _ _ he=>⟨he,fun d hd=>key _ _ d hd⟩)
 |halt x w'=>cases x<;>simp only[Oper.upon] at hh ⊢ <;>exact hh
theorem Bv{a:Act}{dst:Option Nat}{v:Value}{d:Nat}(h:dst≠some d):(a.put dst v).tmps.getD d undef=a.tmps.getD d undef:=by
 cases dst with
 |none=>rfl
 |some e=>
  have hne:e≠d:=fun x=>h (by rw[x])
  simp only[Act.put,Array.getD_eq_getD_getElem?]
  rw[Array.getElem?_setIfInBounds_ne hne]
theorem V8{t:TypeId}{zs:List C}(h:jE P t=some zs):∃z:Value,(∀w,(zeroValue t).run P w=.ok z w)∧∀w σ S β,gu w σ S β zs z.cells.toList:=by
 unfold jE at h
 cases hi:P.info? t with
 |none=>rw[hi] at h;cases h
 |some i=>
  rw[hi] at h
  cases hz:i.zero with
  |none=>simp[hz] at h
  |some z=>
   simp only[Option.bind_some,hz] at h
   split at h
   ·rename_i hall
    cases h
    refine⟨z,fun w=>by simp[zeroValue,typeInfo,hi,hz],fun w σ S β=>⟨by simp,fun j x hx=> ?_⟩⟩
    rw[List.getElem?_map] at hx
    cases hv:z.cells.toList[j]? with
    |none=>rw[hv] at hx;cases hx
    |some v=>
     rw[hv] at hx;cases hx
     exact⟨v,rfl,wP _ _ _ _ _,List.all_eq_true.1 hall v (List.mem_of_getElem? hv)⟩
   ·cases h
theorem V9{w w0:World}{σ σ0:Nat→Nat}{S0:Store}{β0:Hs}{own:List Obj}{Ω:Store}{β:Hs}{zs:List C}{b:Nat}{c:Array Value}{ty:TypeId}(hS:eD w σ (own::Ω) β)(hst:Step S0 β0 σ0 w0 (own::Ω) β σ w)(hb:w.heap[b]? =some (.cells c ty (0,0)))(hσ:σ b=0)
 (h0:w0.heap.size≤b) (hno:¬Own (own::Ω) β b) (hz:∀w σ S β,gu w σ S β zs c.toList):
 ∃bo bΩ,β=bo::bΩ∧bo.length=own.length∧eD w σ ((own++[.box zs])::Ω) ((bo++[Value.pointer (some ⟨b,0,none⟩)])::bΩ)∧Keep (own::Ω) β ((own++[.box zs])::Ω) ((bo++[Value.pointer (some ⟨b,0,none⟩)])::bΩ)∧
  Step S0 β0 σ0 w0 ((own++[.box zs])::Ω) ((bo++[Value.pointer (some ⟨b,0,none⟩)])::bΩ) σ w:=by
 cases β with
 |nil=>have:=hS.shape.1;simp at this
 |cons bo bΩ=>
 have hlen:bo.length=own.length:=by
  obtain⟨gr,g1,g2⟩:=hS.shape.2 0 own rfl
  simp at g1;rw[g1];exact g2
 refine⟨bo,bΩ,rfl,hlen,?_⟩
 have hkeep:Keep (own::Ω) (bo::bΩ) ((own++[.box zs])::Ω) ((bo++[Value.pointer (some ⟨b,0,none⟩)])::bΩ):=by
  intro k o1 h1
  obtain⟨h2,zq,_⟩:=hS.obj k o1 h1
  exact⟨o1,lW _ _ _ _ _ h1,by rw[lW _ _ _ _ _ zq,zq];exact .refl _ _⟩
 have hinv:∀k o1 h1,bK ((own++[Obj.box zs])::Ω) k=some o1→bK ((bo++[Value.pointer (some ⟨b,0,none⟩)])::bΩ) k=some h1→
  (bK (own::Ω) k=some o1∧bK (bo::bΩ) k=some h1)∨(k=(0,own.length)∧o1=.box zs∧h1=Value.pointer (some ⟨b,0,none⟩)):=by
  intro k o1 h1 e1 e2
  rcases nO _ _ _ _ _ e1 with e1|⟨rfl,rfl⟩
  ·left
   refine⟨e1,?_⟩
   rcases nO _ _ _ _ _ e2 with e2|⟨rfl,rfl⟩
   ·exact e2
   ·rw[bP,hlen] at e1
    have:=(List.getElem?_eq_some_iff.1 e1).1
    omega
  ·right
   rw[←hlen,dx] at e2
   exact⟨rfl,rfl,(Option.some.inj e2).symm⟩
 have hown:∀x,Own ((own++[Obj.box zs])::Ω) ((bo++[Value.pointer (some ⟨b,0,none⟩)])::bΩ) x→Own (own::Ω) (bo::bΩ) x∨x=b:=by
  rintro x ⟨k,o,h,e1,e2,e3⟩
  rcases hinv k o h e1 e2 with⟨f1,f2⟩|⟨rfl,rfl,rfl⟩
  ·exact .inl ⟨k,o,h,f1,f2,e3⟩
  ·right;cases e3;rfl
 have hmono:∀k o h,bK (own::Ω) k=some o→bK (bo::bΩ) k=some h→gZ w σ ((own::Ω).drop k.1) ((bo::bΩ).drop k.1) o h→gZ w σ (((own++[Obj.box zs])::Ω).drop k.1) (((bo++[Value.pointer (some ⟨b,0,none⟩)])::bΩ).drop k.1) o h:=
  fun k o h _ _ hr=>hr.mono (fF.refl _ _) (hkeep.drop _) fun x _=>⟨rfl,rfl⟩
 refine⟨⟨?_,?_,⟨?_,?_⟩,hS.live,hS.rJ⟩,hkeep,⟨hst.size,hst.os,hst.output,fun x hx hn=>hst.far x hx hn,hst.near,fun x hx=> ?_⟩⟩
 ·intro k o1 h1
  rcases nO _ _ _ _ _ h1 with h1|⟨rfl,rfl⟩
  ·obtain⟨h2,zq,hr⟩:=hS.obj k o1 h1
   exact⟨h2,lW _ _ _ _ _ zq,hmono k o1 h2 h1 zq hr⟩
  ·exact⟨Value.pointer (some ⟨b,0,none⟩),by rw[←hlen,dx],b,c,ty,rfl,hb,hσ,hz _ _ _ _⟩
 ·intro k k' o1 o2 h1 h2 x e1 e2 e3 e4 e5 e6
  rcases hinv k o1 h1 e1 e2 with⟨f1,f2⟩|⟨rfl,rfl,rfl⟩
  ·rcases hinv k' o2 h2 e4 e5 with⟨g1,g2⟩|⟨rfl,rfl,rfl⟩
   ·exact hS.apart _ _ _ _ _ _ _ f1 f2 e3 g1 g2 e6
   ·cases e6;exact absurd ⟨k,o1,h1,f1,f2,e3⟩ hno
  ·rcases hinv k' o2 h2 e4 e5 with⟨g1,g2⟩|⟨rfl,rfl,rfl⟩
   ·cases e3;exact absurd ⟨k',o2,h2,g1,g2,e6⟩ hno
   ·rfl
 ·have:=hS.shape.1;simpa using this
 ·intro l fr hl
  cases l with
  |zero=>simp at hl;subst hl;exact⟨_,rfl,by simp[hlen]⟩
  |succ l=>exact hS.shape.2 (l+1) fr (by simpa using hl)
 ·rcases hown x hx with h|h
  ·exact hst.own x h
  ·subst h;exact .inr h0
theorem Fw{st:Nat→St}{vs:Nat→V}{p:Nat}{o:Oper}{d:Nat}{t:TypeId}(ht:nT P E R o (st p) (vs p) (st (p+1)))(hop:o.op=.alloc t)(hg:o.guard=none)(hd:o.dst=some d):
 ∃zs own Ω,jE P t=some zs∧(st p).st=own::Ω∧(st (p+1)).st=(own++[.box zs])::Ω∧vs p=.c (.ptr (0,own.length) 0):=by
 have hgd:gd R o (st p).tm=some true:=by unfold gd;rw[hg]
 rcases ht with⟨h1,_,_⟩|⟨_,hD,_,_⟩|⟨_,hD,hx,hs',_⟩
 ·rw[hgd] at h1;cases h1
 ·rw[(uU (E:=E) (o:=o) (by rw[hop];rfl)).1] at hD;cases hD
 ·obtain⟨dst,op,ty,pos,after,guard⟩:=o
  simp only at hop hd;subst hop;subst hd
  unfold dO qK at hx
  simp only at hx
  cases hz:jE P t with
  |none=>rw[hz] at hx;exact hx.elim
  |some zs=>
   rw[hz] at hx
   generalize st (p+1)=s1 at *
   generalize st p=s0 at *
   obtain⟨tm,S⟩:=s0
   simp only[newObj] at hx
   cases S with
   |nil=>exact hx.elim
   |cons own Ω=>
    subst hx
    refine⟨zs,own,Ω,rfl,rfl,rfl,?_⟩
    simp only[St.put,St.mk.injEq,List.cons.injEq,Prod.mk.injEq,and_true,true_and] at hs'
    exact hs'.symm
theorem mid_step{st:Nat→St}{vs:Nat→V}{β0:Hs}{σ0:Nat→Nat}{w0:World}{Q:Exit→Act→World→Prop}{p:Nat}(hok:LJ E R N st p)
 (hT:∀i,i<R.size→∃o,R[i]? =some o∧nT P E R o (st i) (vs i) (st (i+1))) {listed:Array Bool} {a:Act} {w:World} (hM:Mid P N E R p st vs β0 σ0 w0 listed a w) {i:Nat} (hi:i∈Region.ready .any R listed):
 wpOp P R Q i (fun a' w'=>Mid P N E R p st vs β0 σ0 w0 (listed.setIfInBounds i true) a' w') a w:=by
 obtain⟨hun,o,ho,TD⟩:=mem_ready.1 hi
 have hlt:i<R.size:=(Array.getElem?_eq_some_iff.1 ho).1
 obtain⟨o',ho',ht⟩:=hT i hlt
 rw[ho] at ho';cases ho'
 have HV:listed.getD i false=false:=by
  have hs:i<listed.size:=by rw[hM.size];exact hlt
  simp[hs] at hun ⊢;exact hun
 obtain⟨m,hm,hmD,σ,β,hsz,hdf,hS,hrT,hst,hkp,yH⟩:=hM.rep
 have hdn:=hok.dst i o ho
 have hset:(listed.setIfInBounds i true).getD i false=true:=by
  have hs:i<listed.size:=by rw[hM.size];exact hlt
  simp[hs]
 have QL:∀j,(listed.setIfInBounds i true).getD j false=true→j=i∨listed.getD j false=true:=by
  intro j hj
  by_cases e:j=i
  ·exact .inl e
  ·rw[getD_set_ne false (Ne.symm e)] at hj;exact .inr hj
 have abW:∀j,(listed.setIfInBounds i true).getD j false=false→j≠i∧listed.getD j false=false:=by
  intro j hj
  by_cases e:j=i
  ·subst e;rw[hset] at hj;cases hj
  ·rw[getD_set_ne false (Ne.symm e)] at hj;exact⟨e,hj⟩
 have QM:∀j x k,R[j]? =some x→listed.getD j false=true→((masks R.toList []).getD j 0).testBit k=true→listed.getD k false=true:=fun j x k hx hE hb=>
  Jr (fun k=>listed.getD k false=true) hM.closed hok.edge j x hx (fun e he hb=>hM.closed j x e hx hE he hb) k hb
 have Bw:∀k,((masks R.toList []).getD i 0).testBit k=true→listed.getD k false=true:=fun k hb=>
  Jr (fun k=>listed.getD k false=true) hM.closed hok.edge i o ho (fun e he hb=>TD e he hb) k hb
 have aaq:lY E R p listed→i≠p:=fun h e=>by have h1:=h.1;rw[←e,HV] at h1;cases h1
 have Ad:∀j x e,R[j]? =some x→(listed.setIfInBounds i true).getD j false=true→e∈x.after→Region.binds .any e=true→(listed.setIfInBounds i true).getD e.on false=true:=by
  intro j x e hx hE he hb
  by_cases hji:j=i
  ·subst hji
   rw[ho] at hx;cases hx
   exact getD_set_true (TD e he hb)
  ·rw[getD_set_ne false (Ne.symm hji)] at hE
   exact getD_set_true (hM.closed j x e hx hE he hb)
 by_cases hA2:i=p∧∃j x,j<p∧R[j]? =some x∧eY E x.op=true∧listed.getD j false=false
 ·
  obtain⟨rfl,j0,x0,hj0,hx0,hD0,hu0⟩:=hA2
  obtain⟨hal,hgn,⟨d,hd⟩,_⟩:=hok.pend o ho
  obtain⟨ty,hop⟩:∃ty,o.op=.alloc ty:=by
   cases h:o.op<;>rw[h] at hal<;>first|exact⟨_,rfl⟩|cases hal
  obtain⟨zs,own,Ω,hzs,_,_,_⟩:=Fw ht hop hgn hd
  obtain⟨z,vO,hzc⟩:=V8 hzs
  have hnp:¬lY E R i listed:=fun h=>by have h1:=h.1;rw[HV] at h1;cases h1
  have hP':lY E R i (listed.setIfInBounds i true):=⟨hset,hlt,j0,x0,hj0,hx0,hD0,by rw[getD_set_ne false (by omega)];exact hu0⟩
  have hmp:m≤i:=by
   have h1:=hmD j0 x0 hx0 hD0 (fun _=>hnp)
   rcases Nat.lt_or_ge j0 m with h|h
   ·rw[h1.2 h] at hu0;cases hu0
   ·omega
  have hdi:fB R i=some d:=by simp[fB,ho,hd]
  have hg:=zV w σ hS.live z.cells ty 0
  unfold wpOp
  rw[ho]
  simp only
  rw[if_pos (by simp[Region.wanted,hgn])]
  left
  have hrun:(execOp a.eval o).run P w=.ok (.value (.pointer (some ⟨w.heap.size,0,none⟩))) {w with heap:=w.heap.push (.cells z.cells ty)}:=by
   have Fb:(newVar ty z).run P w=.ok ⟨w.heap.size,0,none⟩ {w with heap:=w.heap.push (.cells z.cells ty)}:=rfl
   have vO:=vO w
   clear hS hrT hst hkp yH hM hdn ht
   obtain⟨dst,op,ty',pos,after,guard⟩:=o
   simp only at hop;subst hop
   simp[execOp,Instr.alloc,vO,Fb]
  unfold Oper.wp
  rw[hrun]
  show Mid P N E R i st vs β0 σ0 w0 _ (a.put o.dst _) _
  rw[hd]
  have hdN:d<a.tmps.size:=by rw[hsz];exact hdn d hd
  refine⟨by simpa using hM.size,Ad,m,hm,fun j x hx oD hjp=> ?_,fun b=>if b=w.heap.size then 0 else σ b,β,by simp[Act.put,hsz],hdf,hS.grow hg,fun t=> ?_,hst.trans (Step.mE hg),hkp,fun _=>⟨hmp,fun d' hd'=> ?_⟩⟩
  ·have hji:j≠i:=fun e=>hjp e hP'
   rw[getD_set_ne false (Ne.symm hji)]
   exact hmD j x hx oD fun _=>hnp
  ·unfold qH
   by_cases e:t=d
   ·subst e
    rw[if_pos ⟨hP',hdi⟩]
    exact trivial
   ·rw[if_neg (fun h=>e (by rw[hdi] at h;exact(Option.some.inj h.2).symm))]
    rw[vD (E':=fun i=>listed.getD i false) R.size (fun j hj hdj=>by
     have hji:j≠i:=fun x=>by rw[x,hdi] at hdj;exact e (Option.some.inj hdj).symm
     exact getD_set_ne false (Ne.symm hji))]
    have h1:=hrT t
    unfold qH at h1
    rw[if_neg (fun h=>hnp h.1)] at h1
    rw[Bv (by intro x;exact e (Option.some.inj x).symm)]
    exact h1.mono hg.near (Keep.refl _ _)
  ·rw[hdi] at hd';cases hd'
   refine⟨w.heap.size,z.cells,ty,by simp[Act.put,Array.getD,hdN],by simp,by simp,hst.size,fun h=> ?_,fun o2 t2 zs2 h1 h2 h3=> ?_⟩
   ·have:=hS.Bo h;omega
   ·rw[ho] at h1;cases h1
    rw[hop] at h2;cases h2
    rw[hzs] at h3;cases h3
    exact hzc
 have hA:i=p→∀j x,j<p→R[j]? =some x→eY E x.op=true→listed.getD j false=true:=fun e j x hj hx hD=>by
  cases hl:listed.getD j false with
  |true=>rfl
  |false=>exact absurd ⟨e,j,x,hj,hx,hD,hl⟩ hA2
 have hPP:lY E R p (listed.setIfInBounds i true)→lY E R p listed:=by
  rintro⟨h1,h2,j,x,hj,hx,hD,hl⟩
  obtain⟨hji,hl⟩:=abW j hl
  rcases QL p h1 with e|h
  ·rw[hA e.symm j x hj hx hD] at hl;cases hl
  ·exact⟨h,h2,j,x,hj,hx,hD,hl⟩
 have hap:lY E R p listed→∀po d,R[p]? =some po→po.dst=some d→o.dst≠some d∧d∉o.looksAt R:=by
  rintro hP po d hpo yH
  have TF:=hP
  obtain⟨_,_,j0,x0,hj0,hx0,hD0,hu0⟩:=TF
  have:o.apart R po=true:=by
   cases hc:o.apart R po with
   |true=>rfl
   |false=>
    have:=(hok.pend po hpo).2.2.2 i o (aaq hP) ho hc j0 x0 hj0 hx0 hD0
    rw[Bw j0 this.2] at hu0;cases hu0
  obtain⟨q1,q2,q3⟩:=Oper.apart_spec this
  exact⟨fun e=>q2 d e yH,q3 d yH⟩
 have PN:lY E R p listed→eY E o.op=true→i<p:=by
  rintro hP hD
  have TF:=hP
  obtain⟨_,hpl,j0,x0,hj0,hx0,hD0,hu0⟩:=TF
  have hne:=aaq hP
  rcases Nat.lt_or_ge i p with h|h
  ·exact h
  ·exfalso
   rcases hok.pair j0 i x0 o (by omega) hx0 ho (by simp[lX,hD,hD0]) with hb|⟨e,_⟩
   ·rw[Bw j0 hb] at hu0;cases hu0
   ·exact hne e
 have hbit:∀j x,R[j]? =some x→j≠i→vC R j i=true→(listed.getD j false=true↔j<i):=by
  intro j x hx hne hc
  unfold vC at hc
  constructor
  ·intro hE
   rcases Nat.lt_or_ge j i with h|h
   ·exact h
   ·exfalso
    rw[if_neg (by omega)] at hc
    have:=QM j x i hx hE hc
    rw[HV] at this;cases this
  ·intro hji
   rw[if_pos hji] at hc
   exact Bw j hc
 have hdone:∀j x,R[j]? =some x→j≠i→(j=p→¬lY E R p listed)→lX E R x o=true→(listed.getD j false=true↔j<i):=by
  intro j x hx hne hjp hc
  by_cases e:j<i
  ·rcases hok.pair j i x o e hx ho hc with hb|⟨e1,hD,_⟩
   ·exact hbit j x hx hne (by unfold vC;rw[if_pos e];exact hb)
   ·exact⟨fun _=>e,fun _=>hA e1 j x (by omega) hx hD⟩
  ·rcases hok.pair i j o x (by omega) ho hx (by rw[N7];exact hc) with hb|⟨e1,hD,_⟩
   ·exact hbit j x hx hne (by unfold vC;rw[if_neg e];exact hb)
   ·refine⟨fun h=>absurd ⟨e1▸h,?_,i,o,by omega,ho,hD,HV⟩ (hjp e1),fun h=>absurd h e⟩
    rw[←e1];exact(Array.getElem?_eq_some_iff.1 hx).1
 obtain⟨LK,LM⟩:∃LK:List (Nat×V),∀t,look LK t=jY R vs (fun i=>listed.getD i false) (st 0).tm R.size t:=by
  have:∀n,∃p8:List (Nat×V),∀t,look p8 t=jY R vs (fun i=>listed.getD i false) (st 0).tm n t:=by
   intro n
   induction n with
   |zero=>exact⟨(st 0).tm,fun t=>rfl⟩
   |succ n ih=>
    obtain⟨tm,h⟩:=ih
    by_cases hE:listed.getD n false=true
    ·cases hd:fB R n with
     |none=>exact⟨tm,fun t=>by rw[jY,if_neg (fun x=>by rw[hd] at x;cases x.2)];exact h t⟩
     |some d=>
      refine⟨(n |> vs |> fun v=>(d,v))::tm,fun t=> ?_⟩
      rw[jY,look,hd,h t]
      by_cases e:d=t
      ·rw[if_pos e,if_pos ⟨hE,by rw[e]⟩]
      ·rw[if_neg e,if_neg (fun x=>e (Option.some.inj x.2))]
    ·exact⟨tm,fun t=>by rw[jY,if_neg (fun x=>hE x.1)];exact h t⟩
  exact this R.size
 obtain⟨p8,Wd⟩:∃p8:List (Nat×V),∀t,look p8 t=qH E R p vs listed (st 0).tm t:=by
  by_cases hP:lY E R p listed
  ·cases hd:fB R p with
   |none=>exact⟨LK,fun t=>by unfold qH;rw[if_neg (fun h=>by rw[hd] at h;cases h.2)];exact LM t⟩
   |some d=>
    refine⟨(d,.any)::LK,fun t=> ?_⟩
    unfold qH
    rw[look,hd]
    by_cases e:d=t
    ·rw[if_pos e,if_pos ⟨hP,by rw[e]⟩]
    ·rw[if_neg e,if_neg (fun x=>e (Option.some.inj x.2))];exact LM t
  ·exact⟨LK,fun t=>by unfold qH;rw[if_neg (fun h=>hP h.1)];exact LM t⟩
 have hPd:∀t,lY E R p listed→fB R p=some t→∃po,R[p]? =some po∧po.dst=some t:=by
  intro t _ h
  unfold fB at h
  cases hpo:R[p]? with
  |none=>rw[hpo] at h;cases h
  |some po=>rw[hpo] at h;exact⟨po,rfl,h⟩
 have Yx:∀t∈o.looksAt R,look p8 t=look (st i).tm t:=by
  intro t htl
  rw[Wd]
  unfold qH
  rw[if_neg (fun h=>by
   obtain⟨po,h1,h2⟩:=hPd t h.1 h.2
   exact(hap h.1 po t h1 h2).2 htl),vR hT t i (by omega)]
  have:=yZ (R:=R) (vs:=vs) (E:=fun i=>listed.getD i false) (base:=(st 0).tm) (t:=t) (i:=i) R.size (fun j hj hd=>by
   by_cases e:j=i
   ·subst e;rw[HV];simp
   ·obtain⟨x,hx⟩:∃x,R[j]? =some x:=⟨_,Array.getElem?_eq_getElem hj⟩
    have hxd:x.dst=some t:=by simpa [fB,hx] using hd
    refine hdone j x hx e (fun e2 hP=> ?_) ?_
    ·subst e2
     exact(hap hP x t hx hxd).2 htl
    ·have:x.apart R o=false:=by
      cases hap:x.apart R o with
      |false=>rfl
      |true=>exact absurd htl ((Oper.apart_spec hap).1 t hxd)
     simp[lX,this])
  rw[this,show min R.size i=i from by omega]
 have hR:jL N ⟨p8,(st m).st⟩ a w σ β:=⟨hsz,hdf,hS,fun t=>by show dD w σ (st m).st β (look p8 t) _;rw[Wd];exact hrT t⟩
 have hev:∀x∈o.op.operands,ev (st i).tm x=ev p8 x:=by
  intro x hx
  cases x with
  |tmp t=>show look _ t=look _ t;rw[Yx t (Ka hx rfl)]
  |_=>rfl
 have hgd:gd R o p8=gd R o (st i).tm:=by
  unfold gd
  cases hg:o.guard with
  |none=>rfl
  |some gw=>
   obtain⟨g,want⟩:=gw
   simp only
   cases hd:fB R g with
   |none=>rfl
   |some d=>
    simp only[Option.map_some]
    rw[Yx d (NY hg hd)]
 have ad2:∀(S':Store) (t:Nat),jY R vs (fun i_1=>(listed.setIfInBounds i true).getD i_1 false) (st 0).tm R.size t=look (St.put ⟨LK,S'⟩ o.dst (vs i)).tm t:=by
  intro S' t
  by_cases hd:o.dst=some t
  ·have hdi:fB R i=some t:=by simp[fB,ho,hd]
   rw[Aa (E:=fun i_1=>(listed.setIfInBounds i true).getD i_1 false) hset hdi R.size hlt (fun j hj hij hdj=>by
    obtain⟨x,hx⟩:∃x,R[j]? =some x:=⟨_,Array.getElem?_eq_getElem hj⟩
    have hxd:x.dst=some t:=by simpa [fB,hx] using hdj
    have Wh:x.apart R o=false:=by
     cases hap:x.apart R o with
     |false=>rfl
     |true=>exact absurd hd ((Oper.apart_spec hap).2.1 t hxd)
    have:=hdone j x hx (by omega) (fun e hP=>by
     subst e
     exact(hap hP x t hx hxd).1 hd) (by simp[lX,Wh])
    rw[getD_set_ne false (by omega)]
    cases hE:listed.getD j false with
    |false=>rfl
    |true=>exact absurd (this.1 hE) (by omega))]
   rw[hd]
   simp[St.put,look]
  ·have hdi:fB R i≠some t:=by simp only[fB,ho,Option.bind_some];exact hd
   rw[vD (E':=fun i=>listed.getD i false) R.size (fun j hj hdj=>by
    have hji:j≠i:=fun e=>hdi (e▸hdj)
    exact getD_set_ne false (Ne.symm hji)),←LM t]
   cases hdd:o.dst with
   |none=>rfl
   |some d=>
    have hne:d≠t:=fun e=>hd (by rw[hdd,e])
    simp[St.put,look,hne]
 have Wi:∀(S':Store) (t:Nat),¬(lY E R p listed∧fB R p=some t)→look (St.put ⟨p8,S'⟩ o.dst (vs i)).tm t=jY R vs (fun i_1=>(listed.setIfInBounds i true).getD i_1 false) (st 0).tm R.size t:=by
  intro S' t hn
  rw[ad2 S' t]
  have h1:look p8 t=look LK t:=by rw[Wd,LM];unfold qH;rw[if_neg hn]
  cases hdd:o.dst with
  |none=>exact h1
  |some d=>simp only[St.put,look,h1]
 have fin:∀(m':Nat) (a':Act) (w':World) (σ':Nat→Nat) (β':Hs),m'≤R.size→(∀j x,R[j]? =some x→eY E x.op=true→(j=p→¬lY E R p listed)→((listed.setIfInBounds i true).getD j false=true↔j<m'))→
  (lY E R p listed→m'≤p)→(∀d,o.dst≠some d→a'.tmps.getD d undef=a.tmps.getD d undef)→
  jL N (St.put ⟨p8,(st m').st⟩ o.dst (vs i)) a' w' σ' β'→Step (st m).st β σ w (st m').st β' σ' w'→Keep (st m).st β (st m').st β'→Mid P N E R p st vs β0 σ0 w0 (listed.setIfInBounds i true) a' w':=by
  intro m' a' w' σ' β' hm' hD' hmp ha' hR' hst' uS
  have hS':=hR'.S
  have hT':=hR'.T
  rw[j6] at hS' hT'
  by_cases hP:lY E R p listed
  ·obtain⟨_,hraw⟩:=yH hP
   have TF:=hP
   obtain⟨hp1,hp2,j0,x0,hj0,hx0,hD0,hu0⟩:=TF
   obtain⟨po,hpo⟩:∃po,R[p]? =some po:=⟨_,Array.getElem?_eq_getElem hp2⟩
   obtain⟨hal,hgn,⟨d,hd⟩,abX⟩:=hok.pend po hpo
   have hdp:fB R p=some d:=by simp[fB,hpo,hd]
   have hod:=hap hP po d hpo hd
   have hraw:=hraw d hdp
   obtain⟨b,c,ty',hv,hb,hσ,h0,hno,hzc⟩:=hraw
   have hbl:b<w.heap.size:=lt_of_some hb
   have hb':w'.heap[b]? =some (.cells c ty' (0,0)):=by rw[(hst'.far b hbl hno).1];exact hb
   have hσ':σ' b=0:=by rw[(hst'.far b hbl hno).2];exact hσ
   have hno':¬Own (st m').st β' b:=fun h=>(hst'.own b h).elim hno (fun h=>by omega)
   have hv':a'.tmps.getD d undef=.pointer (some ⟨b,0,none⟩):=(ha' d hod.1).trans hv
   have abY:Raw P R p w0 w' σ' (st m').st β' (a'.tmps.getD d undef):=⟨b,c,ty',hv',hb',hσ',h0,hno',hzc⟩
   by_cases hP':lY E R p (listed.setIfInBounds i true)
   ·refine⟨by simpa using hM.size,Ad,m',hm',fun j x hx oD hjp=>hD' j x hx oD (fun e=>absurd hP' (hjp e)),σ',β',hR'.size,hR'.defers,hS',fun t=> ?_,hst.trans hst',hkp.trans uS,fun _=>⟨hmp hP,fun d' hd'=>by rw[hdp] at hd';cases hd';exact abY⟩⟩
    unfold qH
    by_cases e:fB R p=some t
    ·rw[if_pos ⟨hP',e⟩];exact trivial
    ·rw[if_neg (fun h=>e h.2),←Wi (st m').st t (fun h=>e h.2)]
     exact hT' t
   ·
    have hpl:(listed.setIfInBounds i true).getD p false=true:=getD_set_true hp1
    have hall:∀j x,j<p→R[j]? =some x→eY E x.op=true→(listed.setIfInBounds i true).getD j false=true:=fun j x hj hx hD=>by
     cases hl:(listed.setIfInBounds i true).getD j false with
     |true=>rfl
     |false=>exact absurd ⟨hpl,hp2,j,x,hj,hx,hD,hl⟩ hP'
    have aas:∀j x,p<j→R[j]? =some x→eY E x.op=true→(listed.setIfInBounds i true).getD j false=false:=fun j x hj hx hD=>by
     cases hl:(listed.setIfInBounds i true).getD j false with
     |false=>rfl
     |true=>
      exfalso
      rcases hok.pair j0 j x0 x (by omega) hx0 hx (by simp[lX,hD,hD0]) with hbt|⟨e,_⟩
      ·rcases QL j hl with e|hl
       ·subst e
        rw[Bw j0 hbt] at hu0;cases hu0
       ·rw[QM j x j0 hx hl hbt] at hu0;cases hu0
      ·omega
    have af0:=hmp hP
    have hsm:(st p).st=(st m').st:=by
     have:=zx hT (i:=m') (p-m') (by omega) (fun j x h1 h2 h3=>by
      cases oD:eY E x.op with
      |false=>rfl
      |true=>
       have:=(hD' j x h3 oD (fun e=>by omega)).1 (hall j x (by omega) h3 oD)
       omega)
     rwa [show m'+(p-m')=p from by omega] at this
    obtain⟨po',aat,htp⟩:=hT p hp2
    rw[hpo] at aat;cases aat
    obtain⟨ty,hop⟩:∃ty,po.op=.alloc ty:=by
     cases h:po.op<;>rw[h] at hal<;>first|exact⟨_,rfl⟩|cases hal
    obtain⟨zs,own,Ω,hzs,hs0,hs1,hvp⟩:=Fw htp hop hgn hd
    rw[hsm] at hs0
    have LP:=hst.trans hst'
    have aau:=hkp.trans uS
    rw[hs0] at hS' hT' LP aau hno'
    obtain⟨bo,bΩ,rfl,hlen,q1,q2,q3⟩:=V9 hS' LP hb' hσ' h0 hno' (hzc po ty zs hpo hop hzs)
    rw[←hs1] at q1 q2 q3
    refine⟨by simpa using hM.size,Ad,p+1,by omega,fun j x hx oD _=> ?_,σ',_,hR'.size,hR'.defers,q1,fun t=> ?_,q3,aau.trans q2,fun h=>absurd h hP'⟩
    ·rcases Nat.lt_trichotomy j p with h|h|h
     ·exact⟨fun _=>by omega,fun _=>hall j x h hx oD⟩
     ·subst h;exact⟨fun _=>by omega,fun _=>hpl⟩
     ·rw[aas j x h hx oD];exact⟨fun h=>(by cases h),fun h=>by omega⟩
    ·unfold qH
     rw[if_neg (fun h=>hP' h.1)]
     by_cases e:t=d
     ·subst e
      rw[Aa (E:=fun i_1=>(listed.setIfInBounds i true).getD i_1 false) hpl hdp R.size hp2 (fun j hj hpj hdj=>by
       obtain⟨x,hx⟩:∃x,R[j]? =some x:=⟨_,Array.getElem?_eq_getElem hj⟩
       have hxd:x.dst=some t:=by simpa [fB,hx] using hdj
       have Wh:x.apart R po=false:=by
        cases hap:x.apart R po with
        |false=>rfl
        |true=>exact absurd hd ((Oper.apart_spec hap).2.1 t hxd)
       have hbt:=abX j x (by omega) hx Wh j0 x0 hj0 hx0 hD0
       cases hl:(listed.setIfInBounds i true).getD j false with
       |false=>rfl
       |true=>
        exfalso
        rcases QL j hl with e|hl
        ·subst e
         rw[Bw j0 hbt.2] at hu0;cases hu0
        ·rw[QM j x j0 hx hl hbt.2] at hu0;cases hu0),hvp,hv',hs1]
      exact PE hlen
     ·rw[←Wi (st m').st t (fun h=>e (by rw[hdp] at h;exact(Option.some.inj h.2).symm))]
      have h1:=hT' t
      rw[hs0]
      exact h1.mono (fF.refl _ _) q2
  ·have hP':¬lY E R p (listed.setIfInBounds i true):=fun h=>hP (hPP h)
   refine⟨by simpa using hM.size,Ad,m',hm',fun j x hx oD _=>hD' j x hx oD (fun _=>hP),σ',β',hR'.size,hR'.defers,hS',fun t=> ?_,hst.trans hst',hkp.trans uS,fun h=>absurd h hP'⟩
   unfold qH
   rw[if_neg (fun h=>hP' h.1),←Wi (st m').st t (fun h=>hP h.1)]
   exact hT' t
 have keepD:eY E o.op=false→∀j x,R[j]? =some x→eY E x.op=true→(j=p→¬lY E R p listed)→((listed.setIfInBounds i true).getD j false=true↔j<m):=by
  intro hD j x hx oD hjp
  have hji:j≠i:=fun e=>by rw[e,ho] at hx;cases hx;rw[hD] at oD;cases oD
  rw[getD_set_ne false (Ne.symm hji)]
  exact hmD j x hx oD hjp
 have hmP:lY E R p listed→m≤p:=fun h=>(yH h).1
 have quiet:∀(w':World) (σ':Nat→Nat) (v:Value),eY E o.op=false→Grow w σ w' σ'→dD w' σ' (st m).st β (vs i) v→Mid P N E R p st vs β0 σ0 w0 (listed.setIfInBounds i true) (a.put o.dst v) w':=by
  intro w' σ' v hD hg hv
  exact fin m _ w' σ' β hm (keepD hD) hmP (fun d hd=>Bv hd) (wZ hdn hsz hdf (hS.grow hg) (hR.T.mono hg.near (Keep.refl _ _)) hv) (Step.mE hg) (Keep.refl _ _)
 have hDs:eY E o.op=true→∀j x,R[j]? =some x→eY E x.op=true→(j=p→¬lY E R p listed)→(listed.getD j false=true↔j<i):=by
  intro hD j x hx oD hjp
  by_cases e:j=i
  ·subst e;rw[HV];simp
  ·exact hdone j x hx e hjp (by simp[lX,hD,oD])
 have hsame:eY E o.op=true→(st m).st=(st i).st:=by
  intro hD
  have hno:∀j x,R[j]? =some x→(i≤j∧j<m∨m≤j∧j<i)→eY E x.op=false:=by
   intro j x hx hj
   cases oD:eY E x.op with
   |false=>rfl
   |true=>
    have hjp:j=p→¬lY E R p listed:=fun e hP=>by
     have:=PN hP hD
     have:=hmP hP
     omega
    have h1:=hDs hD j x hx oD hjp
    have h2:=hmD j x hx oD hjp
    rcases hj with hj|hj
    ·have:=h1.1 (h2.2 hj.2);omega
    ·have:=h2.1 (h1.2 hj.2);omega
  rcases Nat.le_total i m with h|h
  ·have:=zx hT (i:=i) (m-i) (by omega) (fun j x h1 h2 h3=>hno j x h3 (.inl ⟨h1,by omega⟩))
   rwa [show i+(m-i)=m from by omega] at this
  ·have:=zx hT (i:=m) (i-m) (by omega) (fun j x h1 h2 h3=>hno j x h3 (.inr ⟨h1,by omega⟩))
   rw[show m+(i-m)=i from by omega] at this
   exact this.symm
 have TG:eY E o.op=true→∀j x,R[j]? =some x→eY E x.op=true→(j=p→¬lY E R p listed)→((listed.setIfInBounds i true).getD j false=true↔j<i+1):=by
  intro hD j x hx oD hjp
  by_cases e:j=i
  ·subst e;rw[hset];simp
  ·rw[getD_set_ne false (Ne.symm e),hDs hD j x hx oD hjp];omega
 have hiP:eY E o.op=true→lY E R p listed→i+1≤p:=fun hD hP=>PN hP hD
 unfold wpOp
 rw[ho]
 simp only
 have hRR:jL N ⟨p8,(st m).st⟩ a w σ β:=hR
 rcases ht with⟨hg,hv,hs'⟩|⟨hg,hD,hv,hs'⟩|⟨hg,hD,hx,hs',_⟩
 ·
  have hw:Region.wanted o (yielded R a.tmps)=false:=by
   rw[←hgd] at hg
   unfold gd at hg
   split at hg
   ·cases hg
   ·rename_i j want hgu
    split at hg
    ·rename_i x hx
     have hy:=xK (s:=⟨p8,(st m).st⟩) hRR hx
     have hne:x≠want:=by
      intro e
      rw[e] at hg
      simp at hg
     simp[Region.wanted,hgu,hy,hne]
    ·rename_i hx
     have hy:=AZ (s:=⟨p8,(st m).st⟩) hRR hx
     simp[Region.wanted,hgu,hy]
    ·cases hg
  rw[if_neg (by rw[hw];simp)]
  have hvu:dD w σ (st m).st β (vs i) undef:=by rw[hv];exact sK
  by_cases hD:eY E o.op=true
  ·have hsm:=hsame hD
   have hs1:(st (i+1)).st=(st m).st:=by rw[hsm,hs'];cases o.dst<;>rfl
   refine fin (i+1) _ w σ β hlt (TG hD) (hiP hD) (fun d hd=>Bv hd) (by rw[hs1];exact wZ hdn hsz hdf hS hR.T hvu) (by rw[hs1];exact Step.mE (Grow.refl hS.live)) (by rw[hs1];exact Keep.refl _ _)
  ·exact quiet w σ undef (by simpa using hD) (Grow.refl hS.live) hvu
 all_goals
  have hw:Region.wanted o (yielded R a.tmps)=true:=by
   rw[←hgd] at hg
   unfold gd at hg
   split at hg
   ·rename_i hgu;simp[Region.wanted,hgu]
   ·rename_i j want hgu
    split at hg
    ·rename_i x hx
     have hy:=xK (s:=⟨p8,(st m).st⟩) hRR hx
     simp at hg
     simp[Region.wanted,hgu,hy,hg]
    ·cases hg
    ·cases hg
  rw[if_pos hw]
  left
 ·
  rcases hv with⟨c,hc,hcn⟩|⟨hcond,hval⟩
  ·have hcn':=VX (tm':=p8) (fun x hx=>hev x (by rw[hc];exact hx)) hcn
   unfold z8 at hcn'
   split at hcn'
   ·rename_i x hcx
    split at hcn'
    ·rename_i f caps hex
     have hcall:mF P c ⟨p8,(st m).st⟩ o.dst (fun t=>t=St.put ⟨p8,(st m).st⟩ o.dst (vs i)):=by
      unfold mF
      rw[hcx]
      simp only[hex]
      exact .inl ⟨_,hcn' (st m).st,fun r S' hp=>by rw[hp.1,hp.2]⟩
     refine Oper.wp_mono ?_ (Oper.TB (Fe (Q:=Q) hc hdn hRR hcall))
     rintro a' w' ⟨⟨s'',σ',β',hR',hst',uS,hK⟩,ha'⟩
     subst hK
     rw[j6] at hst' uS
     exact fin m a' w' σ' β' hm (keepD hD) hmP ha' hR' hst' uS
    ·exact hcn'.elim
   ·exact hcn'.elim
  ·have hcv:kg o.op=false:=by
    cases hc:kg o.op with
    |false=>rfl
    |true=>
     exfalso
     unfold kg at hc
     split at hc
     ·rename_i x b c hop
      rw[hop] at hcond
      exact gy hcond
     ·cases hc
   have Yy:∀k,refs (st i).tm o k→∀j x,R[j]? =some x→(i≤j∧j<m∨m≤j∧j<i)→lI E x.op=false∨bK (st (j+1)).st k=bK (st j).st k:=by
    intro k hk j x hx hj
    cases hs:lI E x.op with
    |false=>exact .inl rfl
    |true=>
     have oD:eY E x.op=true:=Tx hs
     have hji:j≠i:=fun e=>by rw[e,ho] at hx;cases hx;rw[hD] at oD;cases oD
     rcases hok.store j i x o hji hx ho hs hD hcv with hb|hb
     ·have h1:=hbit j x hx hji hb
      have h2:=hmD j x hx oD (fun e=>by
       subst e
       have:=(uU (E:=E) (hok.pend x hx).1).2.1
       rw[hs] at this;cases this)
      rcases hj with hj|hj
      ·have:=h1.1 (h2.2 hj.2);omega
      ·have:=h2.1 (h1.2 hj.2);omega
     ·exact .inr (hb k hk)
   have e1:=YX (P:=P) (S:=(st i).st) (tm:=(st i).tm) (tm':=p8) (op:=o.op) hev
   rw[e1] at hcond hval
   have e2:=VY (P:=P) (l:=qJ (st i).st) (S:=(st i).st) (S':=(st m).st) (tm:=p8) (op:=o.op) hcond (by
    intro x hx k hk ob Tq hbr
    have hrf:refs (st i).tm o k:=⟨x,hx,by rw[hev x hx];exact hk⟩
    rcases Nat.le_total i m with h|h
    ·have hds:=QJ hT (i:=i) (k:=k) (m-i) (by omega) (fun j x h1 h2 h3=>Yy k hrf j x h3 (.inl ⟨h1,by omega⟩))
     rw[show i+(m-i)=m from by omega] at hds
     rcases hds ob Tq with h'|⟨⟨z,es,e⟩,_⟩
     ·exact h'
     ·rcases e with e|⟨_,e⟩<;>rw[e] at hbr<;>exact hbr.elim
    ·have hds:=QJ hT (i:=m) (k:=k) (i-m) (by omega) (fun j x h1 h2 h3=>Yy k hrf j x h3 (.inr ⟨h1,by omega⟩))
     rw[show m+(i-m)=i from by omega] at hds
     have hrx:=jS (a:=a) hR.T x
     have hin:∃o',bK (st m).st k=some o':=by
      rcases hk with⟨off,e⟩|⟨i',off,e⟩|e|e|⟨r',p',e⟩|⟨r',p',z',i',off,e⟩<;>rw[show ev (⟨p8,(st m).st⟩:St).tm x=ev p8 x from rfl,e] at hrx<;>obtain⟨⟨o',ho',_⟩,_⟩:=hrx<;>exact⟨o',ho'⟩
     obtain⟨o',ho'⟩:=hin
     rcases hds o' ho' with h'|⟨_,o2,z,es,h',e⟩
     ·rw[Tq] at h';cases h';exact ho'
     ·rw[Tq] at h';cases h'
      rcases e with e|⟨_,e⟩<;>rw[e] at hbr<;>exact hbr.elim)
   have aaw:(pE P (qJ (st i).st) (st m).st p8 o.op).1:=by rw[e2];exact hcond
   have hval':vs i=(pE P (qJ (st i).st) (st m).st p8 o.op).2:=by rw[e2];exact hval
   obtain⟨v,w',σ',hrun,hgr,Jl⟩:=Dx (P:=P) _ o hS hR.T aaw
   unfold Oper.wp
   rw[hrun]
   exact quiet w' σ' v hD hgr (by rw[hval'];exact Jl)
 ·have hsm:=hsame hD
  have hx':dO P o ⟨(st i).tm,(st i).st⟩ (fun t=>t=St.put ⟨(st i).tm,(st (i+1)).st⟩ o.dst (vs i)):=by
   rw[hs'] at hx
   exact hx
  have hx2:=VW hD hev hx'
  rw[←hsm] at hx2
  refine Oper.wp_mono ?_ (Oper.TB (zX (Q:=Q) hdn hRR hx2))
  rintro a' w' ⟨⟨s'',σ',β',hR',hst',uS,hK⟩,ha'⟩
  subst hK
  rw[j6] at hst' uS
  exact fin (i+1) a' w' σ' β' hlt (TG hD) (hiP hD) ha' hR' hst' uS
theorem Y4{st:Nat→St}{vs:Nat→V}{β0:Hs}{σ0:Nat→Nat}{w0:World}{Q:Exit→Act→World→Prop}{p:Nat}(hok:LJ E R N st p)
 (hT:∀i,i<R.size→∃o,R[i]? =some o∧nT P E R o (st i) (vs i) (st (i+1))) (hQ:∀listed a w,Mid P N E R p st vs β0 σ0 w0 listed a w→(∀i,i<R.size→listed.getD i false=true)→Q .normal a w):
 ∀(fuel:Nat) (listed:Array Bool) (a:Act) (w:World),(List.range R.size).countP (fun i=> !listed.getD i false)≤fuel→Mid P N E R p st vs β0 σ0 w0 listed a w→wpAny P .any R Q fuel listed a w:=by
 have hend:∀listed a w,Mid P N E R p st vs β0 σ0 w0 listed a w→Region.ready .any R listed=[]→Q .normal a w:=by
  intro listed a w hM hr
  refine hQ listed a w hM ?_
  intro i
  induction i using Nat.strongRecOn with
  |_ i ih=>
   intro hi
   cases hE:listed.getD i false with
   |true=>rfl
   |false=>
    exfalso
    have ho:R[i]? =some R[i]:=Array.getElem?_eq_getElem hi
    have:i∈Region.ready .any R listed:=by
     rw[mem_ready]
     have hs:i<listed.size:=by rw[hM.size];exact hi
     refine⟨by simp[hs] at hE ⊢;exact hE,_,ho,fun e he hb=> ?_⟩
     have hon:=hok.edge i _ e ho he hb
     exact ih e.on hon (by omega)
    rw[hr] at this
    simp at this
 intro fuel
 induction fuel with
 |zero=>
  intro listed a w hc hM
  have hnone:Region.ready .any R listed=[]:=by
   cases hr:Region.ready .any R listed with
   |nil=>rfl
   |cons i l=>
    exfalso
    have hi:i∈Region.ready .any R listed:=by rw[hr];simp
    obtain⟨hun,o,ho,_⟩:=mem_ready.1 hi
    have hlt:=(Array.getElem?_eq_some_iff.1 ho).1
    have hs:i<listed.size:=by rw[hM.size];exact hlt
    have hz:(List.range R.size).countP (fun i=> !listed.getD i false)=0:=by omega
    rw[List.countP_eq_zero] at hz
    have:=hz i (List.mem_range.2 hlt)
    simp[hs] at hun this
    rw[hun] at this;cases this
  exact⟨hnone,hend listed a w hM hnone⟩
 |succ fuel ih=>
  intro listed a w hc hM
  refine⟨hend listed a w hM,fun i hi=> ?_⟩
  refine wpOp_mono (fun a' w' hM'=>ih _ a' w' ?_ hM') (mid_step hok hT hM hi)
  obtain⟨hun,o,ho,_⟩:=mem_ready.1 hi
  have hlt:=(Array.getElem?_eq_some_iff.1 ho).1
  have hs:i<listed.size:=by rw[hM.size];exact hlt
  have:=cnt_lt (fun j=> !listed.getD j false) (fun j=> !(listed.setIfInBounds i true).getD j false) (List.range R.size) i (fun x hx=>by
   by_cases e:x=i
   ·subst e;simp[hs] at hx
   ·rw[getD_set_ne false (Ne.symm e)] at hx;exact hx) (List.mem_range.2 hlt) (by simp[hs] at hun ⊢;exact hun) (by simp[hs])
  omega
theorem Ec{id:Nat}{Q:Exit→St→Prop}{s:St}(jr:P.follows .mixedOrders=true){st:Nat→St}{vs:Nat→V}(h0:st 0=s)(hK:Q .normal (st R.size))
 (hT':∀i,i<R.size→∃o,R[i]? =some o∧nT P E R o (st i) (vs i) (st (i+1))) {p:Nat} (hok:LJ E R N st p):AW P N (.region id R true) Q s:=by
 intro a w σ β hR
 refine wp_region_any jr ?_
 have hgd:Grow w σ {w with drawn:=w.drawn+1} σ:=⟨Nat.le_refl _,rfl,rfl,fun _ _=>⟨rfl,rfl⟩,hR.S.live⟩
 refine Y4 (N:=N) (β0:=β) (σ0:=σ) (w0:=w) hok hT' (fun listed a' w' hM hall=> ?_) R.size _ a _ ?_ ?_
 ·obtain⟨m,hm,hmD,σ',β',hsz,hdf,hS,hT2,hst,hkp,_⟩:=hM.rep
  have hnP:¬lY E R p listed:=by
   rintro⟨_,_,j,x,hj,hx,_,hl⟩
   rw[hall j (Array.getElem?_eq_some_iff.1 hx).1] at hl;cases hl
  have hsm:(st R.size).st=(st m).st:=by
   have:=zx hT' (i:=m) (R.size-m) (by omega) (fun j x h1 h2 h3=>by
    cases oD:eY E x.op with
    |false=>rfl
    |true=>have:=(hmD j x h3 oD (fun _=>hnP)).1 (hall j (Array.getElem?_eq_some_iff.1 h3).1);omega)
   rwa [show m+(R.size-m)=R.size from by omega] at this
  rw[h0] at hst hkp
  refine⟨st R.size,σ',β',⟨hsz,hdf,by rw[hsm];exact hS,fun t=> ?_⟩,by rw[hsm];exact hst,by rw[hsm];exact hkp.tail,hK⟩
  rw[vR hT' t R.size (Nat.le_refl _),hsm]
  have:=hT2 t
  unfold qH at this
  rw[if_neg (fun h=>hnP h.1)] at this
  rw[vD (E':=fun _=>true) R.size (fun j hj _=>hall j hj)] at this
  exact this
 ·calc (List.range R.size).countP _≤(List.range R.size).length:=List.countP_le_length
   _=R.size:=List.length_range
 ·refine⟨by simp,fun i o e ho hE _ _=> ?_,0,Nat.zero_le _,fun i o ho _=> ?_,σ,β,hR.size,hR.defers,by rw[h0];exact hR.S.grow hgd,fun t=> ?_,by rw[h0];exact Step.mE hgd,Keep.refl _ _,fun h=>by have h1:=h.1;rw[getD_replicate_false] at h1;cases h1⟩
  ·rw[getD_replicate_false] at hE;cases hE
  ·rw[getD_replicate_false];simp
  ·have:jY R vs (fun i=>(Array.replicate R.size false).getD i false) (st 0).tm R.size t=look (st 0).tm t:=by
    have:=yZ (R:=R) (vs:=vs) (E:=fun i=>(Array.replicate R.size false).getD i false) (base:=(st 0).tm) (t:=t) (i:=0) R.size (fun j _ _=>by rw[getD_replicate_false];simp)
    rw[this,Nat.min_zero];rfl
   unfold qH
   rw[if_neg (fun h=>by have h1:=h.1.1;rw[getD_replicate_false] at h1;cases h1),this,h0]
   exact(hR.T t).mono hgd.near (Keep.refl _ _)
theorem Y5{id:Nat}{Q:Exit→St→Prop}{s:St}(jr:P.follows .mixedOrders=true)(hok:vP E R N=true)(h:om P E R R.toList s (Q .normal)):AW P N (.region id R true) Q s:=by
 obtain⟨st,vs,h0,hK,hT⟩:=Ac R.size 0 (by omega) s h
 exact Ec jr h0 hK (fun i hi=>hT i (Nat.zero_le i) hi) (aao hok)
theorem Wj{id p:Nat}{Q:Exit→St→Prop}{s:St}(jr:P.follows .mixedOrders=true)(hok:zw E R N p=true)(h:om P E R R.toList s (Q .normal)):AW P N (.region id R true) Q s:=by
 obtain⟨st,vs,h0,hK,hT⟩:=Ac R.size 0 (by omega) s h
 exact Ec jr h0 hK (fun i hi=>hT i (Nat.zero_le i) hi) (Y3 hok)
theorem QN{id:Nat}{Q:Exit→St→Prop}{s:St}(jr:P.follows .mixedOrders=true)(hok:Hz R N=true)(h:om P (Fv R N) R R.toList s (Q .normal)):AW P N (.region id R true) Q s:=by
 unfold Hz at hok
 rw[Bool.or_eq_true] at hok
 rcases hok with hok|hok
 ·exact Y5 jr hok h
 ·split at hok
  ·exact Wj jr hok h
  ·cases hok
theorem QO{v w:V}(h:QI v w=true){k k':Key}(hv:(∃off,v=.c (.ptr k' off))∨(∃i off,v=.c (.lu k' i off))∨∃r p z i off,v=.c (.xq k' r p z i off))
 (hw:QH w k):k'≠k:=by
 rintro rfl
 rcases hv with⟨_,rfl⟩|⟨_,_,rfl⟩|⟨_,_,_,_,_,rfl⟩<;>rcases hw with⟨_,rfl⟩|⟨_,_,rfl⟩|rfl|rfl|⟨_,_,rfl⟩|⟨_,_,_,_,_,rfl⟩<;>simp[QI] at h
theorem N8{o:Oper}{t:TypeId}{a y:Operand}{s s':St}{v:V}(hop:o.op=.store t a y)(h:nT P E R o s v s'){k:Key}
 (hk:∀k',((∃off,ev s.tm a=.c (.ptr k' off))∨(∃i off,ev s.tm a=.c (.lu k' i off))∨∃r p z i off,ev s.tm a=.c (.xq k' r p z i off))→k'≠k):bK s'.st k=bK s.st k:=by
 rcases h with⟨_,_,h⟩|⟨_,_,_,h⟩|⟨_,_,h,_,_⟩
 ·rw[h];cases o.dst<;>rfl
 ·rw[h];cases o.dst<;>rfl
 ·obtain⟨dst,op,ty,pos,after,guard⟩:=o
  subst hop
  simp only[dO,qL] at h
  split at h
  ·rename_i k' off he
   split at h
   ·obtain⟨_,_,_,h4⟩:=h
    rw[←h4,j6]
    exact fZ _ _ _ _ (hk k' (.inl ⟨_,he⟩))
   ·exact h.elim
  ·rename_i k' i off he
   split at h
   ·obtain⟨_,_,_,_,h5⟩:=h
    rw[←h5,j6]
    exact fZ _ _ _ _ (hk k' (.inr (.inl ⟨_,_,he⟩)))
   ·exact h.elim
  ·rename_i k' r p z i off he
   split at h
   ·split at h
    ·split at h
     ·obtain⟨_,_,_,_,_,h6⟩:=h
      rw[←h6,j6]
      exact fZ _ _ _ _ (hk k' (.inr (.inr ⟨_,_,_,_,_,he⟩)))
     ·exact h.elim
    ·exact h.elim
   ·exact h.elim
  ·exact h.elim
theorem Fx{st:Nat→St}{vs:Nat→V}(hT:∀i,i<R.size→∃o,R[i]? =some o∧nT P E R o (st i) (vs i) (st (i+1))){i:Nat}(hi:i≤R.size){a:Operand}(h:settled R i a=true):
 ev (st R.size).tm a=ev (st i).tm a:=by
 cases a with
 |tmp t=>
  show look _ t=look _ t
  have key:∀n,i+n≤R.size→look (st (i+n)).tm t=look (st i).tm t:=by
   intro n
   induction n with
   |zero=>intro _;rfl
   |succ n ih=>
    intro hn
    rw[vR hT t (i+(n+1)) hn,show i+(n+1)=i+n+1 from rfl,jY,if_neg,←vR hT t (i+n) (by omega),ih (by omega)]
    rintro⟨_,hd⟩
    have:=List.all_eq_true.1 h (i+n) (List.mem_range.2 (by omega))
    rw[hd] at this
    simp at this
    omega
  have:=key (R.size-i) (by omega)
  rwa [show i+(R.size-i)=R.size from by omega] at this
 |_=>rfl
theorem TH{st:Nat→St}{vs:Nat→V}{p:Nat}(hed:∀(i:Nat) (o:Oper),R[i]? =some o→(o.after.toList.all (fun e=> !Region.binds .any e||decide (e.on<i))&&(match o.dst with|some d=>decide (d<N)|none=>true))=true)
 (yH:∀o,R[p]? =some o→uT o.op=true∧o.guard=none∧(∃d,o.dst=some d)∧∀j y,j≠p→R[j]? =some y→y.apart R o=false→∀i x,i<p→R[i]? =some x→eY E x.op=true→i<j∧((masks R.toList []).getD j 0).testBit i=true)
 (hp:∀(i j:Nat) (x y:Oper),i<j→R[i]? =some x→R[j]? =some y→((masks R.toList []).getD j 0).testBit i=true∨(x.apart R y=true∧(j=p∨((eY E x.op&&eY E y.op)=false∧(lI E x.op=true→rT R i x j y=true)∧(lI E y.op=true→rT R j y i x=true)))))
 (hT:∀i,i<R.size→∃o,R[i]? =some o∧nT P E R o (st i) (vs i) (st (i+1))) (hl:KN E R (st R.size).tm=true):LJ E R N st p:=by
 refine⟨?_,?_,?_,?_,yH⟩
 ·intro i o e ho he hb
  have h2:=hed i o ho
  simp only[Bool.and_eq_true] at h2
  have h3:=List.all_eq_true.1 h2.1 e (by simpa using he)
  simpa [hb] using h3
 ·intro i o ho d hd
  have h2:=hed i o ho
  simp only[Bool.and_eq_true,hd] at h2
  simpa using h2.2
 ·intro i j x y hij hx hy hc
  rcases hp i j x y hij hx hy with h|⟨h1,h⟩
  ·exact .inl h
  ·unfold lX at hc
   rw[h1] at hc
   simp only[Bool.not_true,Bool.false_or] at hc
   rcases h with h|⟨h,_⟩
   ·rw[Bool.and_eq_true] at hc
    exact .inr ⟨h,hc.1,h1⟩
   ·rw[hc] at h;cases h
 ·intro i j x o hij hx ho hs hD hc
  have hjp:j≠p:=fun e=>by
   subst e
   have:=(uU (E:=E) (yH o ho).1).1
   rw[hD] at this;cases this
  have PN:i≠p:=fun e=>by
   subst e
   have:=(uU (E:=E) (yH x hx).1).2.1
   rw[hs] at this;cases this
  cases hb:vC R i j with
  |true=>exact .inl rfl
  |false=>
   refine .inr ?_
   rintro k ⟨z,hz,hk⟩
   have hi:i<R.size:=(Array.getElem?_eq_some_iff.1 hx).1
   have hj:j<R.size:=(Array.getElem?_eq_some_iff.1 ho).1
   have hlo:rT R i x j o=true:=by
    unfold vC at hb
    by_cases e:i<j
    ·rw[if_pos e] at hb
     rcases hp i j x o e hx ho with h|⟨_,h|⟨_,h,_⟩⟩
     ·rw[hb] at h;cases h
     ·exact absurd h hjp
     ·exact h hs
    ·rw[if_neg e] at hb
     rcases hp j i o x (by omega) ho hx with h|⟨_,h|⟨_,_,h⟩⟩
     ·rw[hb] at h;cases h
     ·exact absurd h PN
     ·exact h hs
   unfold rT at hlo
   rw[hc,Bool.false_or] at hlo
   split at hlo
   ·rename_i t a y hop
    rw[Bool.and_eq_true] at hlo
    have hz':z∈o.op.operands.toList:=by simpa using hz
    have hsz:=List.all_eq_true.1 hlo.2 z hz'
    have h1:=List.all_eq_true.1 hl i (List.mem_range.2 hi)
    rw[hx] at h1
    simp only[hs,Bool.not_true,Bool.false_or,hop] at h1
    have h2:=List.all_eq_true.1 h1 j (List.mem_range.2 hj)
    rw[ho] at h2
    simp only[hb,hD,hc,Bool.false_or] at h2
    have h3:=List.all_eq_true.1 h2 z hz'
    obtain⟨x',hx',ht⟩:=hT i hi
    rw[hx] at hx';cases hx'
    refine N8 hop ht fun k' hk'=> ?_
    rw[Fx hT (by omega) hlo.1,Fx hT (by omega) hsz] at h3
    exact QO h3 hk' hk
   ·cases hlo
theorem QS{f:Nat→Nat→Oper→Oper→Bool}(h:((List.range R.size).all fun j=>
 (match R[j]? with
  |some o=>o.after.toList.all (fun e=> !Region.binds .any e||decide (e.on<j))&&(match o.dst with|some d=>decide (d<N)|none=>true)
  |none=>true)&&
 (List.range j).all fun i=>
   match R[i]?,R[j]? with
   |some x,some y=>((masks R.toList []).getD j 0).testBit i|| !(f i j x y)
   |_,_=>true)=true):
 (∀(i:Nat) (o:Oper),R[i]? =some o→(o.after.toList.all (fun e=> !Region.binds .any e||decide (e.on<i))&&(match o.dst with|some d=>decide (d<N)|none=>true))=true)∧
 ∀(i j:Nat) (x y:Oper),i<j→R[i]? =some x→R[j]? =some y→((masks R.toList []).getD j 0).testBit i=true∨f i j x y=false:=by
 refine⟨fun i o ho=> ?_,fun i j x y hij hx hy=> ?_⟩
 ·have hj:i<R.size:=(Array.getElem?_eq_some_iff.1 ho).1
  have h1:=List.all_eq_true.1 h i (List.mem_range.2 hj)
  rw[Bool.and_eq_true,ho] at h1
  exact h1.1
 ·have hj:j<R.size:=(Array.getElem?_eq_some_iff.1 hy).1
  have h1:=List.all_eq_true.1 h j (List.mem_range.2 hj)
  rw[Bool.and_eq_true] at h1
  have h2:=List.all_eq_true.1 h1.2 i (List.mem_range.2 hij)
  rw[hx,hy] at h2
  simp only[Bool.or_eq_true,Bool.not_eq_true'] at h2
  exact h2
theorem Wl{st:Nat→St}{vs:Nat→V}(hok:CV E R N=true)(hT:∀i,i<R.size→∃o,R[i]? =some o∧nT P E R o (st i) (vs i) (st (i+1)))(hl:KN E R (st R.size).tm=true):LJ E R N st R.size:=by
 obtain⟨h1,h2⟩:=QS (f:=fun i j x y=>lX E R x y||(lI E x.op&& !(rT R i x j y))||(lI E y.op&& !(rT R j y i x))) hok
 refine TH h1 (fun o ho=>by rw[Array.getElem?_eq_none (Nat.le_refl _)] at ho;cases ho) (fun i j x y hij hx hy=>(h2 i j x y hij hx hy).imp id fun h=> ?_) hT hl
 simp only[lX,Bool.or_eq_false_iff,Bool.not_eq_false',Bool.and_eq_false_imp] at h
 obtain⟨⟨⟨q1,q2⟩,q3⟩,q4⟩:=h
 refine⟨q1,.inr ⟨?_,q3,q4⟩⟩
 cases hx:eY E x.op with
 |false=>rfl
 |true=>rw[q2 hx];rfl
theorem aax{id:Nat}{Q:Exit→St→Prop}{s:St}(jr:P.follows .mixedOrders=true)(hok:CV E R N=true)(h:om P E R R.toList s (fun s'=>KN E R s'.tm=true∧Q .normal s')):AW P N (.region id R true) Q s:=by
 obtain⟨st,vs,h0,hK,hT⟩:=Ac R.size 0 (by omega) s h
 have hT':=fun i hi=>hT i (Nat.zero_le i) hi
 exact Ec jr h0 hK.2 hT' (Wl hok hT' hK.1)
end
end Go.Ab
namespace Go.Ab
section
variable {P:Program} {w w':World} {σ σ':Nat→Nat} {S S':Store} {β β':Hs} {N:Nat} {s:St} {a:Act}
theorem oo{c:Code}{Q:Exit→St→Prop}{s s':St}(h:AW P N c Q s')
 (hg:∀(a:Act) (w:World) (σ:Nat→Nat) (β:Hs),jL N s a w σ β→∃σ' β',jL N s' a w σ' β'∧Step s.st β σ w s'.st β' σ' w∧Keep (fI s.st) (fI β) (fI s'.st) (fI β')):AW P N c Q s:=by
 intro a w σ β hR
 obtain⟨σ',β',hR',hst,hk⟩:=hg a w σ β hR
 refine wp_mono (h a w σ' β' hR') ?_
 rintro e a' w' ⟨s'',xA,β'',k1,k2,k3,k4⟩
 exact⟨s'',xA,β'',k1,hst.trans k2,hk.trans k3,k4⟩
def gI(N:Nat)(s s':St):Prop:=∀(a:Act) (w:World) (σ:Nat→Nat) (β:Hs),jL N s a w σ β→∃σ' β',jL N s' a w σ' β'∧Step s.st β σ w s'.st β' σ' w∧Keep (fI s.st) (fI β) (fI s'.st) (fI β')
theorem gI.refl(N:Nat)(s:St):gI N s s:=fun a w σ β hR=>⟨σ,β,hR,Step.mE (Grow.refl hR.S.live),Keep.refl _ _⟩
theorem gI.trans{s s' s'':St}(h:gI N s s')(k:gI N s' s''):gI N s s'':=fun a w σ β hR=>by
 obtain⟨σ1,β1,r1,st1,k1⟩:=h a w σ β hR
 obtain⟨σ2,β2,r2,st2,k2⟩:=k a w σ1 β1 r1
 exact⟨σ2,β2,r2,st1.trans st2,k1.trans k2⟩
theorem Ed{tm tm':List (Nat×V)}(hl:∀t,look tm' t=look tm t∨look tm' t=.any):gI N ⟨tm,S⟩ ⟨tm',S⟩:=
 fun a w σ β hR=>⟨σ,β,⟨hR.size,hR.defers,hR.S,fun t=>by
  rcases hl t with e|e
  ·show dD w σ S β (look tm' t) _;rw[e];exact hR.T t
  ·show dD w σ S β (look tm' t) _;rw[e];trivial⟩,Step.mE (Grow.refl hR.S.live),Keep.refl _ _⟩
theorem abZ{c:Code}{Q:Exit→St→Prop}{tm tm':List (Nat×V)}(h:AW P N c Q ⟨tm',S⟩)(hl:∀t,look tm' t=look tm t∨look tm' t=.any):AW P N c Q ⟨tm,S⟩:=
 oo h fun a w σ β hR=>⟨σ,β,⟨hR.size,hR.defers,hR.S,fun t=>by
  rcases hl t with e|e
  ·show dD w σ S β (look tm' t) _;rw[e];exact hR.T t
  ·show dD w σ S β (look tm' t) _;rw[e];trivial⟩,Step.mE (Grow.refl hR.S.live),Keep.refl _ _⟩
def C.oF:C→C
 | .bH _ es=>.d (.sl es)
 | .bC es=>.d (.sl es)
 |c=>c
def V.oF:V→V
 | .c x=>.c x.oF
 | .agg cs=>.agg (cs.map C.oF)
 |v=>v
theorem LQ{c:C}{v:Value}(h:jc w σ S β c v):jc w σ S β c.oF v:=by
 cases c with
 |bH k es=>exact h.1
 |bC es=>exact h.1
 |_=>exact h
theorem LU{x:V}{v:Value}(h:dD w σ S β x v):dD w σ S β x.oF v:=by
 cases x with
 |c x=>exact⟨LQ h.1,h.2⟩
 |agg cs=>
  obtain⟨ar,ha,hl,hc⟩:=h
  refine⟨ar,ha,by simpa using hl,fun j x hx=> ?_⟩
  rw[List.getElem?_map] at hx
  cases hcj:cs[j]? with
  |none=>rw[hcj] at hx;cases hx
  |some y=>
   rw[hcj] at hx;cases hx
   obtain⟨v,hv,hr,ho⟩:=hc j y hcj
   exact⟨v,hv,LQ hr,ho⟩
 |_=>exact h
theorem dF.weaken{f:FuncId}{args args':List V}{post:V→Store→Prop}(h:dF P f args' S post)(hl:args.length=args'.length)
 (hw:∀(j:Nat) (x y:V),args[j]? =some x→args'[j]? =some y→∀w σ β v,dD w σ S β x v→dD w σ S β y v):dF P f args S post:=by
 refine⟨h.1,fun w σ β vs hS hv=>h.2 w σ β vs hS ⟨by rw[←hl];exact hv.1,fun j y hy=> ?_⟩⟩
 have hj:=(List.getElem?_eq_some_iff.1 hy).1
 have hx:args[j]? =some (args[j]'(by omega)):=List.getElem?_eq_getElem (by omega)
 obtain⟨v,h1,h2⟩:=hv.2 j _ hx
 exact⟨v,h1,hw j _ y hx hy w σ β v h2⟩
theorem dF.oF{f:FuncId}{args:List V}{post:V→Store→Prop}(h:dF P f (args.map V.oF) S post):dF P f args S post:=
 h.weaken (by simp) fun j x y hx hy w σ β v hr=>by
  rw[List.getElem?_map,hx] at hy
  cases hy
  exact LU hr
theorem dF.mono{f:FuncId}{args:List V}{post post':V→Store→Prop}(h:dF P f args S post)(hp:∀r S',post r S'→post' r S'):dF P f args S post':=
 ⟨h.1,fun w σ β vs hS hv=>(h.2 w σ β vs hS hv).mono fun e w' ⟨v,r,S',σ',β',h1,h2,h3,h4,h5,h6⟩=>⟨v,r,S',σ',β',h1,h2,h3,h4,h5,hp _ _ h6⟩⟩
theorem Ae{f:FuncId}{args:List V}{s:St}{dst:Option Nat}{K:St→Prop}{r:V}(h:aD P f (args.map V.oF) r)(hK:K (St.put s dst r)):vw P f args s dst K:=
 .inl ⟨_,(h s.st).oF,fun r' S' hp=>by rw[hp.1,hp.2];exact hK⟩
theorem nD{c:Code}{Q:Exit→St→Prop}{tm:List (Nat×V)}{own:List Obj}{Ω:Store}(t bn:Nat)(es:List (List D))(hv:look tm t=.c (.bC es))(hes:∀e∈es,e.length=bn)
 (h:AW P N c Q ⟨(t,.c (.bH (0,own.length) es))::tm,(own++[.tok bn es])::Ω⟩):AW P N c Q ⟨tm,own::Ω⟩:=by
 refine oo h fun a w σ β hR=> ?_
 obtain⟨bo,bΩ,rfl,hlen⟩:=frames hR
 have ht:=hR.T t
 rw[hv] at ht
 obtain⟨⟨hd,ad,n,hval⟩,hone⟩:=ht
 have hn:n=es.length:=by rw[hval] at hd;cases hd<;>rfl
 have hg:Grow w σ w σ:=Grow.refl hR.S.live
 obtain⟨hS',hk,hst⟩:=hR.S.push (o:=.tok bn es) (h:=a.tmps.getD t undef) hg hlen ⟨hd,hes,ad,n,by rw[hval,hn],by omega,.inl hn⟩ (fun b hb=>by
  rw[hval,hn] at hb
  cases ad<;>simp[owns,blk] at hb)
 refine⟨σ,_,⟨hR.size,hR.defers,hS',fun u=> ?_⟩,hst,Keep.refl _ _⟩
 show dD w σ _ _ (if t=u then _ else look tm u) _
 by_cases e:t=u
 ·subst e
  rw[if_pos rfl]
  refine⟨⟨hd,_,dx _ _ _,fun a b e=> ?_⟩,hone⟩
  obtain⟨_,rfl⟩:=mO (lab:=none) e
  exact⟨Nat.le_refl _,fun _=>by rw[←hlen,dx]⟩
 ·rw[if_neg e]
  exact(hR.T u).mono (fF.refl _ _) hk
theorem kV{c:Code}{Q:Exit→St→Prop}{tm:List (Nat×V)}{own:List Obj}{Ω:Store}(n t bn:Nat)(es:List (List D))(hv:look tm t=.c (.j5 n es)∨(look tm t=.c (.bC es)∧es=[]))(hes:∀e∈es,e.length=bn)
 (h:AW P N c Q ⟨(t,.c (.bH (0,own.length) es))::tm,(own++[.d9 n bn es])::Ω⟩):AW P N c Q ⟨tm,own::Ω⟩:=by
 refine oo h fun a w σ β hR=> ?_
 obtain⟨bo,bΩ,rfl,hlen⟩:=frames hR
 have ht:=hR.T t
 have hl:∃ad,a.tmps.getD t undef=.slice ad es.length es.length∧dL w σ (.ol n es) (a.tmps.getD t undef):=by
  rcases hv with hv|⟨hv,rfl⟩
  ·rw[hv] at ht
   obtain⟨⟨hd,ad,m,hval⟩,_⟩:=ht
   have hn:m=es.length:=by
    have:=vN hd
    rw[hval] at this
    cases this<;>rfl
   exact⟨ad,by rw[hval,hn],hd⟩
  ·rw[hv] at ht
   obtain⟨⟨hd,ad,m,hval⟩,_⟩:=ht
   have hn:m=0:=by rw[hval] at hd;cases hd<;>rfl
   subst hn
   exact⟨ad,hval,by rw[hval];exact .wo _ _ _⟩
 obtain⟨ad,hval,hol⟩:=hl
 have hd:=vN hol
 have hg:Grow w σ w σ:=Grow.refl hR.S.live
 obtain⟨hS',hk,hst⟩:=hR.S.push (o:=.d9 n bn es) (h:=a.tmps.getD t undef) hg hlen ⟨hd,hes,ad,es.length,hval,Nat.le_refl _,.inl ⟨rfl,hol⟩⟩ (fun b hb=>by
  rw[hval] at hb
  cases ad<;>simp[owns,blk] at hb)
 refine⟨σ,_,⟨hR.size,hR.defers,hS',fun u=> ?_⟩,hst,Keep.refl _ _⟩
 show dD w σ _ _ (if t=u then _ else look tm u) _
 by_cases e:t=u
 ·subst e
  rw[if_pos rfl]
  refine⟨⟨hd,_,dx _ _ _,fun a b e=> ?_⟩,by rw[hval];rfl⟩
  obtain⟨_,rfl⟩:=mO (lab:=some n) e
  exact⟨Nat.le_refl _,fun _=>by rw[←hlen,dx]⟩
 ·rw[if_neg e]
  exact(hR.T u).mono (fF.refl _ _) hk
theorem HY{c:Code}{Q:Exit→St→Prop}{tm:List (Nat×V)}{Ω:Store}(n:Nat)(h:AW P N c Q ⟨tm,[.seed n]::Ω⟩):AW P N c Q ⟨tm,[]::Ω⟩:=by
 refine oo h fun a w σ β hR=> ?_
 obtain⟨bo,bΩ,rfl,hlen⟩:=frames hR
 obtain⟨hS',hk,hst⟩:=hR.S.push (o:=.seed n) (h:=undef) (Grow.refl hR.S.live) hlen trivial (fun b hb=>by cases hb)
 exact⟨σ,_,⟨hR.size,hR.defers,hS',fun u=>(hR.T u).mono (fF.refl _ _) hk⟩,hst,Keep.refl _ _⟩
theorem xM{tm:List (Nat×V)}{own:List Obj}{Ω:Store}{m:Nat}(n:Nat):gI N ⟨tm,(.seed m::own)::Ω⟩ ⟨tm,(.seed n::own)::Ω⟩:=by
 intro a w σ β hR
 obtain⟨bo,bΩ,rfl,hlen⟩:=frames hR
 have h0:bK ((Obj.seed m::own)::Ω) (0,0)=some (.seed m):=rfl
 obtain⟨h,hh,_⟩:=hR.S.obj (0,0) _ h0
 obtain⟨hS',hk,hst⟩:=hR.S.set (o':=.seed n) (h':=h) h0 hh (Nat.le_refl _) rfl rfl (fF.refl _ _) hR.S.live (fun _ _ _=>⟨rfl,rfl⟩) (.inr ⟨n,rfl⟩) trivial (fun b hb=>by cases hb)
 have e:bZ (bo::bΩ) (0,0) h=bo::bΩ:=Jh h _ _ _ hh
 rw[e] at hS' hk hst
 exact⟨σ,_,⟨hR.size,hR.defers,hS',fun u=>(hR.T u).mono (fF.refl _ _) hk⟩,hst,Keep.refl _ _⟩
theorem kY{c:Code}{Q:Exit→St→Prop}{tm:List (Nat×V)}{own:List Obj}{Ω:Store}{m:Nat}(n:Nat)(h:AW P N c Q ⟨tm,(.seed n::own)::Ω⟩):AW P N c Q ⟨tm,(.seed m::own)::Ω⟩:=oo h (xM n)
def iV(n:Nat)(k:Key):Bool:=decide (0<k.1)||decide (k.2<n)
def C.refs(n:Nat):C→Bool
 | .bH k _=>iV n k
 | .ptr k _=>iV n k
 | .lu k _ _=>iV n k
 | .ji k=>iV n k
 | .mp k=>iV n k
 | .fn _ caps=>caps.all fun x=>iV n x.1
 | .xp k _ _=>iV n k
 | .xq k _ _ _ _ _=>iV n k
 |_=>true
def V.refs(n:Nat):V→Bool
 | .c x=>x.refs n
 | .agg cs=>cs.all (C.refs n)
 | .iB xs=>xs.all fun y=>y.2.all (C.refs n)
 | .any=>true
def Obj.refs(n:Nat):Obj→Bool
 | .box cs=>cs.all (C.refs n)
 |_=>true
theorem iL{α:Type}{own:List α}{Ω:List (List α)}{n:Nat}{k:Key}(h:iV n k=true):bK (own.take n::Ω) k=bK (own::Ω) k:=by
 obtain⟨l,j⟩:=k
 cases l with
 |zero=>
  simp[iV] at h
  rw[bP,bP,List.getElem?_take_of_lt h]
 |succ l=>rw[dh,dh]
theorem lJ{α:Type}{own:List α}{Ω:List (List α)}{n:Nat}{k:Key}{o:α}(h:bK (own.take n::Ω) k=some o):bK (own::Ω) k=some o∧iV n k=true:=by
 obtain⟨l,j⟩:=k
 cases l with
 |zero=>
  rw[bP] at h ⊢
  have hj:=(List.getElem?_eq_some_iff.1 h).1
  simp at hj
  rw[List.getElem?_take_of_lt (by omega)] at h
  exact⟨h,by simp[iV];omega⟩
 |succ l=>rw[dh] at h ⊢;exact⟨h,by simp[iV]⟩
theorem Bz{own:List Obj}{Ω:Store}{bo:List Value}{bΩ:Hs}{n:Nat}{c:C}{v:Value}(hr:c.refs n=true)(h:jc w σ (own::Ω) (bo::bΩ) c v):jc w σ (own.take n::Ω) (bo.take n::bΩ) c v:=by
 cases c with
 |d x=>exact h
 |any=>exact h
 |bC es=>exact h
 |kG cs=>exact h
 |bH k es=>
  obtain⟨h1,o,ho,h2⟩:=h
  exact⟨h1,o,(iL hr).trans ho,fun a b e=>by rw[iL hr];exact h2 a b e⟩
 |ptr k off=>
  obtain⟨o,ho,h2⟩:=h
  exact⟨o,(iL hr).trans ho,fun a e=>by rw[iL hr];exact h2 a e⟩
 |lu k i off=>
  obtain⟨o,ho,h2⟩:=h
  exact⟨o,(iL hr).trans ho,fun a b e=>by rw[iL hr];exact h2 a b e⟩
 |ji k=>
  obtain⟨o,ho,h2⟩:=h
  exact⟨o,(iL hr).trans ho,fun a b e=>by rw[iL hr];exact h2 a b e⟩
 |mp k=>
  obtain⟨o,ho,h2⟩:=h
  exact⟨o,(iL hr).trans ho,fun a e=>by rw[iL hr];exact h2 a e⟩
 |fn f caps=>
  obtain⟨vs,hv,hl,h2⟩:=h
  refine⟨vs,hv,hl,fun j k off e=> ?_⟩
  obtain⟨u,hu,h1c,o,ho,h3⟩:=h2 j k off e
  have hk:iV n k=true:=List.all_eq_true.1 hr (k,off) (List.mem_of_getElem? e)
  exact⟨u,hu,h1c,o,(iL hk).trans ho,fun cs e=>by rw[iL hk];exact h3 cs e⟩
 |j5 m es=>exact h
 |xp k r p=>
  obtain⟨o,ho,h2⟩:=h
  exact⟨o,(iL hr).trans ho,fun a e=>by rw[iL hr];exact h2 a e⟩
 |xq k r p z i off=>
  obtain⟨o,ho,h2⟩:=h
  exact⟨o,(iL hr).trans ho,fun a e=>by rw[iL hr];exact h2 a e⟩
theorem Af{own:List Obj}{Ω:Store}{bo:List Value}{bΩ:Hs}{n:Nat}{cs:List C}{vs:List Value}(hr:cs.all (C.refs n)=true)(h:gu w σ (own::Ω) (bo::bΩ) cs vs):gu w σ (own.take n::Ω) (bo.take n::bΩ) cs vs:=
 ⟨h.1,fun j x hx=>let⟨v,hv,hc,ho⟩:=h.2 j x hx;⟨v,hv,Bz (List.all_eq_true.1 hr x (List.mem_of_getElem? hx)) hc,ho⟩⟩
theorem TI{own:List Obj}{Ω:Store}{bo:List Value}{bΩ:Hs}{n:Nat}{x:V}{v:Value}(hr:x.refs n=true)(h:dD w σ (own::Ω) (bo::bΩ) x v):dD w σ (own.take n::Ω) (bo.take n::bΩ) x v:=by
 cases x with
 |c x=>exact⟨Bz hr h.1,h.2⟩
 |agg cs=>obtain⟨ar,ha,hc⟩:=h;exact⟨ar,ha,Af hr hc⟩
 |iB xs=>
  obtain⟨ar,ha,hl,h2⟩:=h
  refine⟨ar,ha,hl,fun j y hy=> ?_⟩
  obtain⟨u,hu,h3⟩:=h2 j y hy
  have hy':y.2.all (C.refs n)=true:=List.all_eq_true.1 hr y (List.mem_of_getElem? hy)
  refine⟨u,hu,?_⟩
  obtain⟨b,cs⟩:=y
  cases b with
  |true=>obtain⟨a',e,hcs⟩:=h3;exact⟨a',e,Af hy' hcs⟩
  |false=>
   obtain⟨x,e,hx,ho⟩:=h3
   subst e
   simp at hy'
   exact⟨x,rfl,Bz hy' hx,ho⟩
 |any=>trivial
def gF(n:Nat)(tm:List (Nat×V)):Bool:=tm.all fun x=>x.2.refs n
theorem Js{n:Nat}:∀(tm:List (Nat×V)) (t:Nat),gF n tm=true→(look tm t).refs n=true
 |[],_,_=>rfl
 |(x,v)::tm,t,h=>by
  simp only[gF,List.all_cons,Bool.and_eq_true] at h
  rw[look]
  split
  ·exact h.1
  ·exact Js tm t h.2
theorem Fy{tm:List (Nat×V)}{own:List Obj}{Ω:Store}(n:Nat)(h1:gF n tm=true)(h2:(own.take n).all (Obj.refs n)=true):gI N ⟨tm,own::Ω⟩ ⟨tm,own.take n::Ω⟩:=by
 intro a w σ β hR
 obtain⟨bo,bΩ,rfl,hlen⟩:=frames hR
 have hown:∀b,Own (own.take n::Ω) (bo.take n::bΩ) b→Own (own::Ω) (bo::bΩ) b:=by
  rintro b ⟨k,o,hv,e1,e2,e3⟩
  exact⟨k,o,hv,(lJ e1).1,(lJ e2).1,e3⟩
 refine⟨σ,bo.take n::bΩ,⟨hR.size,hR.defers,⟨fun k o ho=> ?_,fun k k' o o' h1 h2 b e1 e2 e3 e4 e5 e6=> ?_,⟨by have:=hR.S.shape.1;simpa using this,fun l fr hl=> ?_⟩,hR.S.live,hR.S.rJ⟩,fun t=>TI (Js tm t h1) (hR.T t)⟩,
  ⟨Nat.le_refl _,rfl,rfl,fun _ _ _=>⟨rfl,rfl⟩,fF.refl _ _,fun b hb=>.inl (hown b hb)⟩,Keep.refl _ _⟩
 ·obtain⟨ho',hk⟩:=lJ ho
  obtain⟨hv,hh,hr⟩:=hR.S.obj k o ho'
  refine⟨hv,(iL hk).trans hh,?_⟩
  obtain⟨l,j⟩:=k
  cases l with
  |zero=>
   cases o with
   |dead=>trivial
   |box cs=>
    obtain⟨b,cc,t,e,hb,hs,hc⟩:=hr
    rw[bP] at ho
    have hcs:cs.all (C.refs n)=true:=List.all_eq_true.1 h2 (.box cs) (List.mem_of_getElem? ho)
    exact⟨b,cc,t,e,hb,hs,Af hcs hc⟩
   |tok=>exact hr
   |eU=>exact hr
   |mp=>exact hr
   |d9=>exact hr
   |seed=>exact hr
   |xf=>exact hr
  |succ l=>exact hr
 ·exact hR.S.apart k k' o o' h1 h2 b (lJ e1).1 (lJ e2).1 e3 (lJ e4).1 (lJ e5).1 e6
 ·cases l with
  |zero=>
   simp at hl;subst hl
   exact⟨_,rfl,by simp[hlen]⟩
  |succ l=>exact hR.S.shape.2 (l+1) fr hl
def C.lQ(j:Nat)(es:List (List D)):C→C
 | .ji (0,i)=>if i=j then .d (.sl es) else .ji (0,i)
 |c=>c
def V.lQ(j:Nat)(es:List (List D)):V→V
 | .c x=>.c (x.lQ j es)
 | .agg cs=>.agg (cs.map (C.lQ j es))
 | .iB xs=>.iB (xs.map fun y=>(y.1,y.2.map (C.lQ j es)))
 | .any=>.any
def Obj.lQ(j:Nat)(es:List (List D)):Obj→Obj
 | .box cs=>.box (cs.map (C.lQ j es))
 |o=>o
theorem Ag{f:V→V}(hf:f .any=.any):∀(tm:List (Nat×V)) (t:Nat),look (tm.map fun x=>(x.1,f x.2)) t=f (look tm t)
 |[],_=>hf.symm
 |(x,v)::tm,t=>by
  show(if x=t then f v else look (tm.map fun x=>(x.1,f x.2)) t)=f (if x=t then v else look tm t)
  split
  ·rfl
  ·exact Ag hf tm t
def V.jT(f:C→C):V→V
 | .c x=>.c (f x)
 | .agg cs=>.agg (cs.map f)
 | .iB xs=>.iB (xs.map fun y=>(y.1,y.2.map f))
 | .any=>.any
def Obj.jT(f:C→C):Obj→Obj
 | .box cs=>.box (cs.map f)
 |o=>o
theorem tY{f:C→C}{own:List Obj}{j i:Nat}:((own.map (Obj.jT f)).set j .dead)[i]? =if i=j then(if j<own.length then some .dead else none) else(own[i]?).map (Obj.jT f):=by
 rw[List.getElem?_set]
 by_cases e:j=i
 ·subst e;simp
 ·rw[if_neg e,if_neg (Ne.symm e),List.getElem?_map]
theorem sM{f:C→C}{own:List Obj}{Ω:Store}{j:Nat}{oj:Obj}(hj:own[j]? =some oj){k:Key}{o:Obj}(hk:bK (own::Ω) k=some o):
 ∃o',bK ((own.map (Obj.jT f)).set j .dead::Ω) k=some o'∧((k=(0,j)∧o'=.dead)∨(k≠(0,j)∧(o'=o∨o'=o.jT f))):=by
 obtain⟨l,i⟩:=k
 cases l with
 |zero=>
  rw[bP] at hk
  by_cases e:i=j
  ·subst e
   refine⟨.dead,?_,.inl ⟨rfl,rfl⟩⟩
   rw[bP,tY,if_pos rfl,if_pos (List.getElem?_eq_some_iff.1 hj).1]
  ·refine⟨o.jT f,?_,.inr ⟨fun x=>e (by cases x;rfl),.inr rfl⟩⟩
   rw[bP,tY,if_neg e,hk];rfl
 |succ l=>exact⟨o,by rw[dh] at hk ⊢;exact hk,.inr ⟨by simp,.inl rfl⟩⟩
theorem oW{f:C→C}{o o':Obj}(h:o'=o∨o'=o.jT f):(∀z es,o9 o' z es→o9 o z es)∧(∀z es,o'=.eU z es→o=.eU z es)∧(∀m,o'=.mp m→o=.mp m)∧(∀cs,o'=.box cs→∃cs',o=.box cs')∧(∀rs,o'=.xf rs→o=.xf rs):=by
 rcases h with rfl|rfl
 ·exact⟨fun _ _ h=>h,fun _ _ h=>h,fun _ h=>h,fun cs h=>⟨cs,h⟩,fun _ h=>h⟩
 ·cases o<;>simp[Obj.jT,o9]
theorem Fz{f:C→C}{own:List Obj}{Ω:Store}{bo:List Value}{bΩ:Hs}{j:Nat}{oj:Obj}(hj:own[j]? =some oj)(hn:fF w σ w σ'){c:C}{v:Value}(hc:jc w σ (own::Ω) (bo::bΩ) c v):
 jc w σ' ((own.map (Obj.jT f)).set j .dead::Ω) (bo::bΩ) c v:=by
 cases c with
 |d x=>exact dL.mono hn hc
 |any=>trivial
 |bC es'=>exact⟨dL.mono hn hc.1,hc.2⟩
 |j5 n es'=>exact⟨dL.mono hn hc.1,hc.2⟩
 |kG cs=>obtain⟨ad,h1,h2⟩:=hc;exact⟨ad,h1,h2.mono hn⟩
 |bH k es'=>
  obtain⟨h1,o,ho,h2⟩:=hc
  obtain⟨o',ho',hcase⟩:=sM hj ho
  refine⟨dL.mono hn h1,o',ho',fun z e4 e=> ?_⟩
  rcases hcase with⟨_,e'⟩|⟨_,e'⟩
  ·rw[e'] at e;rcases e with e|⟨_,e⟩<;>cases e
  ·exact h2 _ _ ((oW e').1 _ _ e)
 |ptr k off=>
  obtain⟨o,ho,h2⟩:=hc
  obtain⟨o',ho',hcase⟩:=sM hj ho
  refine⟨o',ho',fun cs e=> ?_⟩
  rcases hcase with⟨_,e'⟩|⟨_,e'⟩
  ·rw[e'] at e;cases e
  ·obtain⟨cs',e''⟩:=(oW e').2.2.2.1 _ e
   exact h2 _ e''
 |lu k i off=>
  obtain⟨o,ho,h2⟩:=hc
  obtain⟨o',ho',hcase⟩:=sM hj ho
  refine⟨o',ho',fun z e4 e=> ?_⟩
  rcases hcase with⟨_,e'⟩|⟨_,e'⟩
  ·rw[e'] at e;cases e
  ·exact h2 _ _ ((oW e').2.1 _ _ e)
 |ji k=>
  obtain⟨o,ho,h2⟩:=hc
  obtain⟨o',ho',hcase⟩:=sM hj ho
  refine⟨o',ho',fun z e4 e=> ?_⟩
  rcases hcase with⟨_,e'⟩|⟨_,e'⟩
  ·rw[e'] at e;cases e
  ·exact h2 _ _ ((oW e').2.1 _ _ e)
 |mp k=>
  obtain⟨o,ho,h2⟩:=hc
  obtain⟨o',ho',hcase⟩:=sM hj ho
  refine⟨o',ho',fun m e=> ?_⟩
  rcases hcase with⟨_,e'⟩|⟨_,e'⟩
  ·rw[e'] at e;cases e
  ·exact h2 _ ((oW e').2.2.1 _ e)
 |fn f caps=>
  obtain⟨vs,hv,hl,h2⟩:=hc
  refine⟨vs,hv,hl,fun i k off e=> ?_⟩
  obtain⟨u,hu,h1c,o,ho,h3⟩:=h2 i k off e
  obtain⟨o',ho',hcase⟩:=sM hj ho
  refine⟨u,hu,h1c,o',ho',fun cs e=> ?_⟩
  rcases hcase with⟨_,e'⟩|⟨_,e'⟩
  ·rw[e'] at e;cases e
  ·obtain⟨cs',e''⟩:=(oW e').2.2.2.1 _ e
   exact h3 _ e''
 |xp k r p=>
  obtain⟨o,ho,h2⟩:=hc
  obtain⟨o',ho',hcase⟩:=sM hj ho
  refine⟨o',ho',fun rs e=> ?_⟩
  rcases hcase with⟨_,e'⟩|⟨_,e'⟩
  ·rw[e'] at e;cases e
  ·exact h2 _ ((oW e').2.2.2.2 _ e)
 |xq k r p z i off=>
  obtain⟨o,ho,h2⟩:=hc
  obtain⟨o',ho',hcase⟩:=sM hj ho
  refine⟨o',ho',fun rs e=> ?_⟩
  rcases hcase with⟨_,e'⟩|⟨_,e'⟩
  ·rw[e'] at e;cases e
  ·exact h2 _ ((oW e').2.2.2.2 _ e)
theorem LV{f:C→C}{tm:List (Nat×V)}{own:List Obj}{Ω:Store}{bo:List Value}{bΩ:Hs}(j:Nat){oj:Obj}{hj:Value}(hoj:own[j]? =some oj)(hbj:bo[j]? =some hj)(hR:jL N ⟨tm,own::Ω⟩ a w σ (bo::bΩ))(hlen:bo.length=own.length)
 (hn:fF w σ w σ') (hch:∀x,¬owns oj hj x→σ' x=σ x) (hlive:∀x,x<w.heap.size∨σ' x=0)
 (hC:∀(c:C) (v:Value),jc w σ (own::Ω) (bo::bΩ) c v→jc w σ' ((own.map (Obj.jT f)).set j .dead::Ω) (bo::bΩ) (f c) v):
 jL N ⟨tm.map fun x=>(x.1,x.2.jT f),(own.map (Obj.jT f)).set j .dead::Ω⟩ a w σ' (bo::bΩ)∧Step (own::Ω) (bo::bΩ) σ w ((own.map (Obj.jT f)).set j .dead::Ω) (bo::bΩ) σ' w:=by
 have KO:∀k o,bK ((own.map (Obj.jT f)).set j .dead::Ω) k=some o→(k=(0,j)∧o=.dead)∨(k≠(0,j)∧∃o0,bK (own::Ω) k=some o0∧(o=o0∨o=o0.jT f)∧(0<k.1→o=o0)∧∀h b,owns o h b↔owns o0 h b):=by
  intro k o hk
  obtain⟨l,i⟩:=k
  cases l with
  |zero=>
   rw[bP,tY] at hk
   by_cases e:i=j
   ·subst e
    rw[if_pos rfl,if_pos (List.getElem?_eq_some_iff.1 hoj).1] at hk
    cases hk;exact .inl ⟨rfl,rfl⟩
   ·rw[if_neg e] at hk
    cases ho:own[i]? with
    |none=>rw[ho] at hk;cases hk
    |some o0=>
     rw[ho] at hk;cases hk
     refine .inr ⟨fun x=>e (by cases x;rfl),o0,by rw[bP];exact ho,.inr rfl,fun h=>absurd h (by simp),fun h b=> ?_⟩
     cases o0 with
     |box cs=>cases h<;>first|exact Iff.rfl|(rename_i x;cases x<;>exact Iff.rfl)
     |_=>exact Iff.rfl
  |succ l=>rw[dh] at hk;exact .inr ⟨by simp,o,by rw[dh];exact hk,.inl rfl,fun _=>rfl,fun _ _=>Iff.rfl⟩
 have hCs:∀(cs:List C) (vs:List Value),gu w σ (own::Ω) (bo::bΩ) cs vs→gu w σ' ((own.map (Obj.jT f)).set j .dead::Ω) (bo::bΩ) (cs.map f) vs:=by
  intro cs vs hc
  refine⟨by simpa using hc.1,fun i x hx=> ?_⟩
  rw[List.getElem?_map] at hx
  cases hci:cs[i]? with
  |none=>rw[hci] at hx;cases hx
  |some y=>
   rw[hci] at hx;cases hx
   obtain⟨v,hv,hr,ho⟩:=hc.2 i y hci
   exact⟨v,hv,hC y v hr,ho⟩
 have hother:∀k o h x,k≠(0,j)→bK (own::Ω) k=some o→bK (bo::bΩ) k=some h→owns o h x→σ' x=σ x:=by
  intro k o h x hk e1 e2 e3
  refine hch x fun e4=>hk ?_
  exact hR.S.apart k (0,j) o _ h _ x e1 e2 e3 (by rw[bP];exact hoj) (by rw[bP];exact hbj) e4
 refine⟨⟨hR.size,hR.defers,⟨fun k o ho=> ?_,fun k k' o o' h1 h2 b' e1 e2 e3 e4 e5 e6=> ?_,⟨by have:=hR.S.shape.1;simpa using this,fun l fr hl=> ?_⟩,hlive,hR.S.rJ.near hn⟩,fun t=> ?_⟩,⟨Nat.le_refl _,rfl,rfl,fun x hx hno=>⟨rfl,?_⟩,hn,fun x hx=> ?_⟩⟩
 ·rcases KO k o ho with⟨rfl,rfl⟩|⟨hk,o0,h0,hcase,hl0,how⟩
  ·exact⟨_,by rw[bP];exact hbj,trivial⟩
  ·obtain⟨hv,hhv,hr⟩:=hR.S.obj k o0 h0
   refine⟨hv,hhv,?_⟩
   have hbk:∀x,owns o0 hv x→w.heap[x]? =w.heap[x]? ∧σ' x=σ x:=fun x e=>⟨rfl,hother k o0 hv x hk h0 hhv e⟩
   obtain⟨l,i⟩:=k
   cases l with
   |succ l=>
    rw[hl0 (by simp)]
    exact gZ.mono hn (Keep.refl _ _) hbk hr
   |zero=>
    cases o0 with
    |box cs=>
     obtain⟨b',cc',t',e',hb',hs',hc'⟩:=hr
     subst e'
     have he:o=.box (cs.map f):=by
      rw[bP,tY] at ho
      rw[bP] at h0
      split at ho
      ·rename_i e;exact absurd (by rw[e]) hk
      ·rw[h0] at ho;cases ho;rfl
     rw[he]
     exact⟨b',cc',t',rfl,hb',(hbk b' rfl).2.trans hs',hCs _ _ hc'⟩
    |dead=>rcases hcase with rfl|rfl<;>trivial
    |tok z es'=>
     have:o=.tok z es':=by rcases hcase with rfl|rfl<;>rfl
     rw[this]
     exact gZ.mono (S:=[]) (β:=[]) (o:=(.tok z es')) hn (Keep.refl [] []) hbk hr
    |eU z es'=>
     have:o=.eU z es':=by rcases hcase with rfl|rfl<;>rfl
     rw[this]
     exact gZ.mono (S:=[]) (β:=[]) (o:=(.eU z es')) hn (Keep.refl [] []) hbk hr
    |mp m=>
     have:o=.mp m:=by rcases hcase with rfl|rfl<;>rfl
     rw[this]
     exact gZ.mono (S:=[]) (β:=[]) (o:=(.mp m)) hn (Keep.refl [] []) hbk hr
    |d9 n z es'=>
     have:o=.d9 n z es':=by rcases hcase with rfl|rfl<;>rfl
     rw[this]
     exact gZ.mono (S:=[]) (β:=[]) (o:=(.d9 n z es')) hn (Keep.refl [] []) hbk hr
    |seed n=>rcases hcase with rfl|rfl<;>trivial
    |xf rs=>
     have:o=.xf rs:=by rcases hcase with rfl|rfl<;>rfl
     rw[this]
     exact gZ.mono (S:=[]) (β:=[]) (o:=(.xf rs)) hn (Keep.refl [] []) hbk hr
 ·rcases KO k o e1 with⟨rfl,rfl⟩|⟨hk,o0,f1,_,_,f2⟩
  ·cases e3
  ·rcases KO k' o' e4 with⟨rfl,rfl⟩|⟨hk',o0',g1,_,_,g2⟩
   ·cases e6
   ·exact hR.S.apart k k' o0 o0' h1 h2 b' f1 e2 ((f2 _ _).1 e3) g1 e5 ((g2 _ _).1 e6)
 ·cases l with
  |zero=>
   simp at hl;subst hl
   exact⟨_,rfl,by simp[hlen]⟩
  |succ l=>exact hR.S.shape.2 (l+1) fr hl
 ·show dD w σ' ((own.map (Obj.jT f)).set j .dead::Ω) (bo::bΩ) (look (tm.map fun x=>(x.1,x.2.jT f)) t) _
  rw[Ag (f:=V.jT f) rfl]
  have ht:=hR.T t
  cases hx:look tm t with
  |c x=>rw[hx] at ht;exact⟨hC x _ ht.1,ht.2⟩
  |agg cs=>rw[hx] at ht;obtain⟨ar,e,hc⟩:=ht;exact⟨ar,e,hCs _ _ hc⟩
  |iB xs=>
   rw[hx] at ht
   obtain⟨ar,e,hl,h2⟩:=ht
   refine⟨ar,e,by simpa using hl,fun i y hy=> ?_⟩
   rw[List.getElem?_map] at hy
   cases hxi:xs[i]? with
   |none=>rw[hxi] at hy;cases hy
   |some z=>
    rw[hxi] at hy;cases hy
    obtain⟨u,hu,h3⟩:=h2 i z hxi
    refine⟨u,hu,?_⟩
    obtain⟨bb,cs⟩:=z
    cases bb with
    |true=>obtain⟨a',e',hcs⟩:=h3;exact⟨a',e',hCs _ _ hcs⟩
    |false=>
     obtain⟨x,e',hxr,ho⟩:=h3
     subst e'
     exact⟨_,rfl,hC x _ hxr,ho⟩
  |any=>trivial
 ·exact hch x fun e=>hno ⟨(0,j),_,_,by rw[bP];exact hoj,by rw[bP];exact hbj,e⟩
 ·left
  obtain⟨k,o,h1,e1,e2,e3⟩:=hx
  rcases KO k o e1 with⟨rfl,rfl⟩|⟨hk,o0,f1,_,_,f2⟩
  ·cases e3
  ·exact⟨k,o0,h1,f1,e2,(f2 _ _).1 e3⟩
theorem Wm{j:Nat}{es:List (List D)}:Obj.lQ j es=Obj.jT (C.lQ j es):=by funext o;cases o<;>rfl
theorem Wn{j:Nat}{es:List (List D)}:V.lQ j es=V.jT (C.lQ j es):=by funext v;cases v<;>rfl
theorem Y6{tm:List (Nat×V)}{own:List Obj}{Ω:Store}(j:Nat)(bn:Nat)(es:List (List D))(hj:own[j]? =some (.eU bn es))(hR:jL N ⟨tm,own::Ω⟩ a w σ β):
 ∃σ' β',jL N ⟨tm.map fun x=>(x.1,x.2.lQ j es),(own.map (Obj.lQ j es)).set j .dead::Ω⟩ a w σ' β'∧Step (own::Ω) β σ w ((own.map (Obj.lQ j es)).set j .dead::Ω) β' σ' w∧
  Keep (fI (own::Ω)) (fI β) (fI ((own.map (Obj.lQ j es)).set j .dead::Ω)) (fI β'):=by
 obtain⟨bo,bΩ,rfl,hlen⟩:=frames hR
 obtain⟨hh,hb,hr⟩:=hR.S.obj (0,j) _ (by rw[bP];exact hj)
 obtain⟨b,cc,ty,cap,rfl,hcap,hbc,hσ,hle,hsz,hcells⟩:=hr
 rw[bP] at hb
 let σ':Nat→Nat:=fun x=>if x=b then es.length*bn else σ x
 have hn:fF w σ w σ':=by
  intro b1 c1 t1 Ji e1
  by_cases e:b1=b
  ·subst e
   rw[hbc] at e1;cases e1
   exact⟨by simp only[σ',if_true];omega,fun h=>by omega,cc,hbc,rfl,fun _ _=>rfl⟩
  ·exact⟨by simp only[σ',if_neg e];exact Nat.le_refl _,fun _=>if_neg e,c1,e1,rfl,fun _ _=>rfl⟩
 have hdata:dL w σ' (.sl es) (.slice (some ⟨b,0,none⟩) es.length cap):=by
  have hfl:=kL es bn hle
  refine .sl b 0 cap bn es (fun i=>(cc[i]?).getD undef) cc ty (0,0) hcap hle hbc (by simp[σ']) (fun i hi=> ?_) (fun i d hd=> ?_)
  ·obtain⟨v,hv,_⟩:=hcells i _ (List.getElem?_eq_getElem (by omega))
   simp[hv]
  ·obtain⟨v,hv,hr⟩:=hcells i d hd
   simp only[hv,Option.getD_some]
   exact hr.mono hn
 rw[Wm,Wn]
 have:=LV (f:=C.lQ j es) j hj hb hR hlen hn (fun x hx=>if_neg fun e=>hx (by subst e;rfl)) (fun x=>by
  by_cases e:x=b
  ·left;subst e;exact lt_of_some hbc
  ·simp only[σ',if_neg e];exact hR.S.live x) (fun c v hc=>by
  by_cases hm:c=.ji (0,j)
  ·subst hm
   obtain⟨o,ho,h2⟩:=hc
   rw[bP,hj] at ho;cases ho
   have hv:=h2 _ _ rfl
   rw[bP,hb] at hv
   cases hv
   simp only[C.lQ,if_true]
   exact hdata
  ·have hfr:C.lQ j es c=c:=by
    cases c with
    |ji k=>
     obtain⟨l,i⟩:=k
     cases l with
     |zero=>simp only[C.lQ];rw[if_neg (fun e=>hm (by rw[e]))]
     |succ l=>rfl
    |_=>rfl
   rw[hfr]
   exact Fz hj hn hc)
 exact⟨σ',_,this.1,this.2,Keep.refl _ _⟩
def C.lab(row:Bool)(j n:Nat)(es:List (List D)):C→C
 | .ji (0,i)=>if i=j∧row=true then .d (.ol n es) else .ji (0,i)
 | .bH (0,i) es'=>if i=j∧row=false∧es'.length=es.length then .d (.ol n es) else .bH (0,i) es'
 |c=>c
def LW(row:Bool)(n bn:Nat)(es:List (List D)):Obj:=match row with|true=>.eU bn es|false=>.d9 n bn es
theorem PO{tm:List (Nat×V)}{own:List Obj}{Ω:Store}(j n:Nat)(bn:Nat)(es:List (List D))(row:Bool)(hj:own[j]? =some (LW row n bn es))(hR:jL N ⟨tm,own::Ω⟩ a w σ β):
 ∃σ' β',jL N ⟨tm.map fun x=>(x.1,x.2.jT (C.lab row j n es)),(own.map (Obj.jT (C.lab row j n es))).set j .dead::Ω⟩ a w σ' β'∧Step (own::Ω) β σ w ((own.map (Obj.jT (C.lab row j n es))).set j .dead::Ω) β' σ' w∧
  Keep (fI (own::Ω)) (fI β) (fI ((own.map (Obj.jT (C.lab row j n es))).set j .dead::Ω)) (fI β'):=by
 obtain⟨bo,bΩ,rfl,hlen⟩:=frames hR
 have key:∃hh σ',bo[j]? =some hh∧fF w σ w σ'∧(∀x,¬owns (LW row n bn es) hh x→σ' x=σ x)∧(∀x,x<w.heap.size∨σ' x=0)∧dL w σ' (.ol n es) hh:=by
  have TJ:∀(b off cap:Nat) (c:Array Value) (t:TypeId),w.heap[b]? =some (.cells c t (0,0))→σ b≤c.size→(∀e∈es,e.length=bn)→off+es.length*bn≤c.size→es.length≤cap→
   (∀(i:Nat) (d:D),es.flatten[i]? =some d→∃v,c[off+i]? =some v∧dL w σ d v)→
   fF w σ w (fun x=>if x=b then c.size+1+n else σ x)∧(∀x,x<w.heap.size∨(fun x=>if x=b then c.size+1+n else σ x) x=0)∧dL w (fun x=>if x=b then c.size+1+n else σ x) (.ol n es) (.slice (some ⟨b,off,none⟩) es.length cap):=by
   intro b off cap c t hb hσ hle hsz hcap hcells
   have hn:fF w σ w (fun x=>if x=b then c.size+1+n else σ x):=by
    intro b1 c1 t1 Ji e1
    by_cases e:b1=b
    ·subst e
     rw[hb] at e1;cases e1
     exact⟨by simp only[if_true];omega,fun h=>by omega,c,hb,rfl,fun _ _=>rfl⟩
    ·exact⟨by simp only[if_neg e];exact Nat.le_refl _,fun _=>if_neg e,c1,e1,rfl,fun _ _=>rfl⟩
   refine⟨hn,fun x=> ?_,?_⟩
   ·by_cases e:x=b
    ·left;subst e;exact lt_of_some hb
    ·simp only[if_neg e];exact hR.S.live x
   ·have hfl:=kL es bn hle
    refine .ol n b off cap bn es (fun i=>(c[off+i]?).getD undef) c t hcap hle hb (by simp) hsz (fun i hi=> ?_) (fun i d hd=> ?_)
    ·obtain⟨v,hv,_⟩:=hcells i _ (List.getElem?_eq_getElem (by omega))
     simp[hv]
    ·obtain⟨v,hv,hr⟩:=hcells i d hd
     simp only[hv,Option.getD_some]
     exact hr.mono hn
  cases row with
  |true=>
   obtain⟨hh,hb,hr⟩:=hR.S.obj (0,j) _ (by rw[bP];exact hj)
   obtain⟨b,cc,ty,cap,rfl,hcap,hbc,hσ,hle,hsz,hcells⟩:=hr
   rw[bP] at hb
   obtain⟨k1,k2,k3⟩:=TJ b 0 cap cc ty hbc (by omega) hle (by omega) hcap (fun i d hd=>by rw[Nat.zero_add];exact hcells i d hd)
   exact⟨_,_,hb,k1,fun x hx=>if_neg fun e=>hx (by subst e;rfl),k2,k3⟩
  |false=>
   obtain⟨hh,hb,hr⟩:=hR.S.obj (0,j) _ (by rw[bP];exact hj)
   obtain⟨h1,hle,ad,cap,rfl,hcap,hcase⟩:=hr
   rw[bP] at hb
   rcases hcase with⟨h4,h5⟩|⟨h4,b,off,c,t,rfl,hbc,hσ,hfit⟩
   ·exact⟨_,σ,hb,fF.refl _ _,fun _ _=>rfl,hR.S.live,h5⟩
   ·have hm:es.length*bn≤cap*bn:=Nat.mul_le_mul_right _ hcap
    obtain⟨k1,k2,k3⟩:=TJ b off cap c t hbc (by omega) hle (by omega) hcap (fun i d hd=>by
     cases h1 with
     |nil=>simp at hd
     |sl b' off' cap' qB es vals c' t' Lm q1 q2 q3 q4 q5 q6=>
      rw[hbc] at q3;cases q3
      have hil:=(List.getElem?_eq_some_iff.1 hd).1
      rw[kL es bn hle] at hil
      have he:qB=bn:=by
       cases es with
       |nil=>simp at hil
       |cons y ys=>rw[←q2 y (by simp),hle y (by simp)]
      subst he
      exact⟨_,q5 i hil,q6 i d hd⟩)
    exact⟨_,_,hb,k1,fun x hx=>if_neg fun e=>hx (by subst e;simp[LW,owns,blk,h4]),k2,k3⟩
 obtain⟨hh,σ',hb,hn,hch,hlive,hdata⟩:=key
 have:=LV (f:=C.lab row j n es) j hj hb hR hlen hn hch hlive (fun c v hc=>by
  by_cases hm:c=.ji (0,j)∧row=true
  ·obtain⟨rfl,rfl⟩:=hm
   simp only[C.lab,and_self,if_true]
   obtain⟨o,ho,h2⟩:=hc
   rw[bP,hj] at ho;cases ho
   have hv:=h2 _ _ rfl
   rw[bP,hb] at hv
   cases hv
   exact hdata
  ·by_cases ht:∃es',c=.bH (0,j) es'∧row=false∧es'.length=es.length
   ·obtain⟨es',rfl,rfl,hl⟩:=ht
    simp only[C.lab,hl,and_self,if_true]
    obtain⟨h1,o,ho,h2⟩:=hc
    rw[bP,hj] at ho;cases ho
    have hv:=(h2 _ _ (.inr ⟨n,rfl⟩)).2 hl
    rw[bP,hb] at hv
    cases hv
    exact hdata
   ·have hfr:C.lab row j n es c=c:=by
     cases c with
     |ji k=>
      obtain⟨l,i⟩:=k
      cases l with
      |zero=>simp only[C.lab];rw[if_neg (fun e=>hm ⟨by rw[e.1],e.2⟩)]
      |succ l=>rfl
     |bH k es'=>
      obtain⟨l,i⟩:=k
      cases l with
      |zero=>simp only[C.lab];rw[if_neg (fun e=>ht ⟨es',by rw[e.1],e.2⟩)]
      |succ l=>rfl
     |_=>rfl
    rw[hfr]
    exact Fz hj hn hc)
 exact⟨σ',_,this.1,this.2,Keep.refl _ _⟩
def FB(j:Nat)(s:St):St:=
 match s.st with
 |own::Ω=>match own[j]? with
  |some (.eU _ es)=>⟨s.tm.map fun x=>(x.1,x.2.lQ j es),(own.map (Obj.lQ j es)).set j .dead::Ω⟩
  |_=>s
 |[]=>s
def FC:Nat→St→St
 |0,s=>s
 |n+1,s=>FC n (FB n s)
def zy(s:St):St:=
 match s.st with
 |own::_=>FC own.length s
 |[]=>s
theorem N9(j:Nat)(s:St):gI N s (FB j s):=by
 obtain⟨tm,st⟩:=s
 cases st with
 |nil=>exact gI.refl _ _
 |cons own Ω=>
  unfold FB
  simp only
  split
  ·rename_i z es hj
   exact fun a w σ β hR=>Y6 j z es hj hR
  ·exact gI.refl _ _
theorem Dz:∀(n:Nat) (s:St),gI N s (FC n s)
 |0,s=>gI.refl _ _
 |n+1,s=>(N9 n s).trans (Dz n _)
theorem LX(s:St):gI N s (zy s):=by
 unfold zy
 split
 ·exact Dz _ _
 ·exact gI.refl _ _
theorem xO{c:Code}{Q:Exit→St→Prop}{g:St→St}(hg:∀s,gI N s (g s))(h:AW P N c (fun e s'=>Q e (g s')) s):AW P N c Q s:=by
 intro a w σ β hR
 refine wp_mono (h a w σ β hR) ?_
 rintro e a' w' ⟨s',σ',β',k1,k2,k3,k4⟩
 obtain⟨σ2,β2,r2,st2,kk2⟩:=hg s' a' w' σ' β' k1
 exact⟨_,σ2,β2,r2,k2.trans st2,k3.trans kk2,k4⟩
end
end Go.Ab
namespace Go.Ab
section
variable {P:Program} {E:Md} {S S':Store} {N:Nat} {s:St}
def lookO(tm:List (Nat×V))(t:Option Nat):Option V:=t.map (look tm)
theorem LY{tm:List (Nat×V)}{t:Option Nat}:lookO tm t=t.map (look tm):=rfl
theorem QT{tm:List (Nat×V)}{t:Nat}:lookO tm (some t)=some (look tm t):=rfl
theorem QU{tm:List (Nat×V)}:lookO tm none=none:=rfl
def A8(tm:List (Nat×V))(l:List Operand):List V:=l.map (ev tm)
theorem Y7{tm:List (Nat×V)}:A8 tm []=[]:=rfl
theorem Wo{tm:List (Nat×V)}{x:Operand}{l:List Operand}:A8 tm (x::l)=ev tm x::A8 tm l:=rfl
def Jt(tm:List (Nat×V))(x:Option Operand):Option V:=x.map (ev tm)
theorem Wp{tm:List (Nat×V)}{x:Operand}:Jt tm (some x)=some (ev tm x):=rfl
theorem Wq{tm:List (Nat×V)}:Jt tm none=none:=rfl
def LZ(tm:List (Nat×V))(l:List (Nat×Operand)):List (Nat×V):=l.map fun x=>(x.1,ev tm x.2)
theorem Y8{tm:List (Nat×V)}:LZ tm []=[]:=rfl
theorem Ws{tm:List (Nat×V)}{i:Nat}{x:Operand}{l:List (Nat×Operand)}:LZ tm ((i,x)::l)=(i,ev tm x)::LZ tm l:=rfl
def Split(x:Bool)(A B:St→Prop)(s:St):Prop:=(x=true→A s)∧(x=false→B s)
theorem eX{x:Bool}{A B:St→Prop}(h1:x=true→A s)(h2:x=false→B s):Split x A B s:=⟨h1,h2⟩
theorem QV{A B:St→Prop}:Split true A B s=A s:=by simp[Split]
theorem Oa{A B:St→Prop}:Split false A B s=B s:=by simp[Split]
def L6(dst:Option Nat)(v:V)(K:St→Prop)(s:St):Prop:=K (s.put dst v)
theorem Y9{dst:Option Nat}{v:V}{K:St→Prop}:L6 dst v K s=K (s.put dst v):=rfl
def QW(P:Program)(o:Oper)(K:St→Prop)(s:St):Prop:=dO P o s K
def L8(P:Program)(E:Md)(o:Oper)(K:St→Prop)(s:St):Prop:=eP P E o s K
theorem Wt{o:Oper}{K:St→Prop}:QW P o K s=dO P o s K:=rfl
theorem TK{o:Oper}{K:St→Prop}:L8 P E o K s=eP P E o s K:=rfl
def xP(dst:Option Nat)(want:Bool)(A K:St→Prop)(s:St):Option V→Prop
 |some (.c (.d (.b x)))=>match want with
  |true=>Split x A (L6 dst (.iB []) K) s
  |false=>Split x (L6 dst (.iB []) K) A s
 |some (.iB [])=>K (s.put dst (.iB []))
 |_=>False
theorem Ob{R:Array Oper}{dst op ty pos after}{K:St→Prop}:qM P R ⟨dst,op,ty,pos,after,none⟩ s K=dO P ⟨dst,op,ty,pos,after,none⟩ s K:=rfl
theorem Oc{R:Array Oper}{dst op ty pos after j want}{K:St→Prop}:qM P R ⟨dst,op,ty,pos,after,some (j,want)⟩ s K=
 xP dst want (QW P ⟨dst,op,ty,pos,after,some (j,want)⟩ K) K s (lookO s.tm (fB R j)):=by
 show qM P R _ s K=_
 simp only[qM,←LY]
 generalize lookO s.tm (fB R j)=v
 cases v with
 |none=>rfl
 |some v=>
  cases v with
  |c x=>cases x with
   |d x=>cases x with
    |b x=>cases want<;>simp[xP,Split,L6,QW,and_comm]
    |_=>rfl
   |_=>rfl
  |iB l=>cases l<;>rfl
  |_=>rfl
theorem L9{R:Array Oper}{dst op ty pos after}{K:St→Prop}:qx P E R ⟨dst,op,ty,pos,after,none⟩ s K=eP P E ⟨dst,op,ty,pos,after,none⟩ s K:=rfl
theorem Ma{R:Array Oper}{dst op ty pos after j want}{K:St→Prop}:qx P E R ⟨dst,op,ty,pos,after,some (j,want)⟩ s K=
 xP dst want (L8 P E ⟨dst,op,ty,pos,after,some (j,want)⟩ K) K s (lookO s.tm (fB R j)):=by
 simp only[qx,←LY]
 generalize lookO s.tm (fB R j)=v
 cases v with
 |none=>rfl
 |some v=>
  cases v with
  |c x=>cases x with
   |d x=>cases x with
    |b x=>cases want<;>simp[xP,Split,L6,L8,and_comm]
    |_=>rfl
   |_=>rfl
  |iB l=>cases l<;>rfl
  |_=>rfl
@[congr] theorem ab0 {R:Array Oper} {os:List Oper} {s s':St} {K:St→Prop} (h2:s=s'):xJ P R os s K=xJ P R os s' K:=by rw[h2]
@[congr] theorem ab1 {R:Array Oper} {os:List Oper} {s s':St} {K:St→Prop} (h2:s=s'):om P E R os s K=om P E R os s' K:=by rw[h2]
@[congr] theorem aay {R:Array Oper} {o:Oper} {s s':St} {K:St→Prop} (h2:s=s'):qM P R o s K=qM P R o s' K:=by rw[h2]
@[congr] theorem Z4 {R:Array Oper} {o:Oper} {s s':St} {K:St→Prop} (h2:s=s'):qx P E R o s K=qx P E R o s' K:=by rw[h2]
@[congr] theorem aaz {dst:Option Nat} {want:Bool} {A K:St→Prop} {s s':St} {v v':Option V} (h2:s=s') (h3:v=v'):xP dst want A K s v=xP dst want A K s' v':=by rw[h2,h3]
@[congr] theorem aby {x x':Bool} {A B:St→Prop} {s s':St} (h:x=x') (h2:s=s'):Split x A B s=Split x' A B s':=by rw[h,h2]
@[congr] theorem abz {o:Oper} {s s':St} {K:St→Prop} (h2:s=s'):dO P o s K=dO P o s' K:=by rw[h2]
@[congr] theorem aaA {o:Oper} {s s':St} {K:St→Prop} (h2:s=s'):eP P E o s K=eP P E o s' K:=by rw[h2]
@[congr] theorem ab2 {l l':Option Nat} {es es' x:List (List D)} {z:Nat} {s s':St} {dst:Option Nat} {K:St→Prop} (h1:l=l') (h2:es=es') (h3:s=s'):xH l es s dst z x K=xH l' es' s' dst z x K:=by rw[h1,h2,h3]
@[congr] theorem ab3 {b b':Bool} {n:Nat} {x:List (List D)} {z:Nat} {s s':St} {dst:Option Nat} {K:St→Prop} (h1:b=b') (h3:s=s'):yX b n s dst z x K=yX b' n s' dst z x K:=by rw[h1,h3]
@[congr] theorem aaB {s s':St} {dst:Option Nat} {o o':Obj} {mk:Key→V} {K:St→Prop} (h1:s=s') (h2:o=o'):newObj s dst o mk K=newObj s' dst o' mk K:=by rw[h1,h2]
@[congr] theorem aaC {t:TypeId} {s s':St} {dst:Option Nat} {K:St→Prop} (h1:s=s'):qK P t s dst K=qK P t s' dst K:=by rw[h1]
@[congr] theorem ab4 {v v':V} {s s':St} {dst:Option Nat} {K:St→Prop} (h1:v=v') (h2:s=s'):xG v s dst K=xG v' s' dst K:=by rw[h1,h2]
@[congr] theorem aaD {t:TypeId} {a a' x x':V} {s s':St} {dst:Option Nat} {K:St→Prop} (h1:a=a') (h3:x=x') (h2:s=s'):qL P t a x s dst K=qL P t a' x' s' dst K:=by rw[h1,h2,h3]
@[congr] theorem abA {t:TypeId} {a a' x x':V} {s s':St} {dst:Option Nat} {K:St→Prop} (h1:a=a') (h3:x=x') (h2:s=s'):tQ P t a x s dst K=tQ P t a' x' s' dst K:=by rw[h1,h2,h3]
@[congr] theorem Z5 {t u:TypeId} {a a' x x':V} {s s':St} {dst:Option Nat} {K:St→Prop} (h1:a=a') (h3:x=x') (h2:s=s'):qw P t u a x s dst K=qw P t u a' x' s' dst K:=by rw[h1,h2,h3]
@[congr] theorem Z6 {s s':St} {dst:Option Nat} {K:St→Prop} (h2:s=s'):qo s dst K=qo s' dst K:=by rw[h2]
@[congr] theorem Z7 {t:TypeId} {a a' x x' y y':V} {s s':St} {dst:Option Nat} {K:St→Prop} (h1:a=a') (h3:x=x') (h4:y=y') (h2:s=s'):qp P t a x y s dst K=qp P t a' x' y' s' dst K:=by rw[h1,h2,h3,h4]
@[congr] theorem abB {f:FuncId} {args args':List V} {s s':St} {dst:Option Nat} {K:St→Prop} (h1:args=args') (h2:s=s'):vw P f args s dst K=vw P f args' s' dst K:=by rw[h1,h2]
@[congr] theorem abC {c:Call} {s s':St} {dst:Option Nat} {K:St→Prop} (h2:s=s'):mF P c s dst K=mF P c s' dst K:=by rw[h2]
@[congr] theorem abD {K:St→Prop} {Q:Exit→St→Prop} {e:Exit} {s s':St} (h2:s=s'):lD K Q e s=lD K Q e s':=by rw[h2]
def fJ(s:St)(dst:Option Nat)(K:St→Prop)(r:R):Prop:=r.1∧K (s.put dst r.2)
@[congr] theorem abE {s s':St} {dst:Option Nat} {K:St→Prop} {r r':R} (h1:s=s') (h2:r=r'):fJ s dst K r=fJ s' dst K r':=by rw[h1,h2]
theorem Wu{dst:Option Nat}{K:St→Prop}{p:Prop}{v:V}:fJ s dst K (p,v)=(p∧K (s.put dst v)):=rfl
def xQ(caps:List (Key×Nat)):List V:=caps.map fun y=>.c (.ptr y.1 y.2)
def KP(P:Program)(fv:V)(args:List V)(s:St)(dst:Option Nat)(K:St→Prop):Prop:=
 match fv with
 | .c (.fn f caps)=>vw P f (args++xQ caps) s dst K
 |_=>False
def Ah(P:Program)(m:Nat)(f:FuncId)(args:List V)(s:St)(dst:Option Nat)(K:St→Prop):Prop:=
 match m with
 |0=>∃r,aD P f args r∧K (s.put dst r)
 |1=>∃S' v,DS s.st S'∧vw P f args s dst (fun t=>t=St.put ⟨s.tm,S'⟩ dst v)∧K (St.put ⟨s.tm,S'⟩ dst v)
 |_=>∃S' v,vw P f args s dst (fun t=>t=St.put ⟨s.tm,S'⟩ dst v)∧K (St.put ⟨s.tm,S'⟩ dst v)
def vE(P:Program)(m:Nat)(fv:V)(args:List V)(s:St)(dst:Option Nat)(K:St→Prop):Prop:=
 match fv with
 | .c (.fn f caps)=>Ah P m f (args++xQ caps) s dst K
 |_=>False
@[congr] theorem abF {fv TL:V} {args args':List V} {s s':St} {dst:Option Nat} {K:St→Prop} (h1:fv=TL) (h3:args=args') (h2:s=s'):KP P fv args s dst K=KP P TL args' s' dst K:=by rw[h1,h2,h3]
@[congr] theorem abG {m:Nat} {fv TL:V} {args args':List V} {s s':St} {dst:Option Nat} {K:St→Prop} (h1:fv=TL) (h3:args=args') (h2:s=s'):vE P m fv args s dst K=vE P m TL args' s' dst K:=by rw[h1,h2,h3]
@[congr] theorem abH {m:Nat} {f:FuncId} {args args':List V} {s s':St} {dst:Option Nat} {K:St→Prop} (h1:args=args') (h2:s=s'):Ah P m f args s dst K=Ah P m f args' s' dst K:=by rw[h1,h2]
theorem Od{x:Operand}{args:Array Operand}{ts:Array TypeId}{dst:Option Nat}{K:St→Prop}:mF P ⟨.value x,args,ts⟩ s dst K=KP P (ev s.tm x) (A8 s.tm args.toList) s dst K:=rfl
theorem Mc{x y:Operand}{t u:TypeId}{dst:Option Nat}{K:St→Prop}:mF P ⟨.builtin .append,#[x,y],#[t,u]⟩ s dst K=qw P t u (ev s.tm x) (ev s.tm y) s dst K:=rfl
theorem TM{x:Operand}{t:TypeId}{dst:Option Nat}{K:St→Prop}:mF P ⟨.builtin .len,#[x],#[t]⟩ s dst K=fJ s dst K (zS P s.st t (ev s.tm x)):=rfl
theorem TN{x y:Operand}{ts:Array TypeId}{dst:Option Nat}{K:St→Prop}:mF P ⟨.builtin .max,#[x,y],ts⟩ s dst K=fJ s dst K (r9 true (ev s.tm x) (ev s.tm y)):=rfl
theorem TP{x y:Operand}{ts:Array TypeId}{dst:Option Nat}{K:St→Prop}:mF P ⟨.builtin .min,#[x,y],ts⟩ s dst K=fJ s dst K (r9 false (ev s.tm x) (ev s.tm y)):=rfl
theorem Wv{x:Operand}{t:TypeId}{tm:List (Nat×V)}:nval P S tm (.call ⟨.builtin .len,#[x],#[t]⟩)=zS P S t (ev tm x):=rfl
def dW(P:Program)(mode:Option Nat)(f:FuncId)(args:List V)(s:St)(dst:Option Nat)(K:St→Prop):Prop:=
 match mode with
 |some m=>Ah P m f args s dst K
 |none=>vw P f args s dst K
@[congr] theorem abI {dr:Option Nat} {f:FuncId} {args args':List V} {s s':St} {dst:Option Nat} {K:St→Prop} (h1:args=args') (h2:s=s'):dW P dr f args s dst K=dW P dr f args' s' dst K:=by rw[h1,h2]
theorem Ww{f:Nat}{caps:List (Key×Nat)}{args:List V}{dst:Option Nat}{K:St→Prop}:KP P (.c (.fn f caps)) args s dst K=dW P none f (args++xQ caps) s dst K:=rfl
theorem Wx{m:Nat}{f:Nat}{caps:List (Key×Nat)}{args:List V}{dst:Option Nat}{K:St→Prop}:vE P m (.c (.fn f caps)) args s dst K=dW P (some m) f (args++xQ caps) s dst K:=rfl
theorem bN{dr:Option Nat}{f:FuncId}{args:List V}{dst:Option Nat}{K:St→Prop}{r:V}(h:aD P f (args.map V.oF) r)(hK:K (s.put dst r)):dW P dr f args s dst K:=by
 cases dr with
 |none=>exact Ae h hK
 |some m=>
  match m with
  |0=>exact⟨r,fun S=>(h S).oF,hK⟩
  |1=>exact⟨s.st,r,DS.refl _,Ae h rfl,hK⟩
  |m+2=>exact⟨s.st,r,Ae h rfl,hK⟩
def Yz:Option Nat→Bool
 |none=>true
 |some m=>decide (2≤m)
def ab5:Option Nat→Bool
 |none=>true
 |some m=>decide (1≤m)
theorem dR{dr:Option Nat}{f:FuncId}{args:List V}{dst:Option Nat}{K:St→Prop}{r:V}{S1:Store}(hm:Yz dr=true)(h:dF P f args s.st (fun r' S'=>r'=r∧S'=S1))(hK:K (St.put ⟨s.tm,S1⟩ dst r)):dW P dr f args s dst K:=by
 cases dr with
 |none=>exact .inl ⟨_,h,fun r' S' e=>by rw[e.1,e.2];exact hK⟩
 |some m=>
  match m,hm with
  |0,hm=>cases hm
  |1,hm=>cases hm
  |m+2,_=>exact⟨S1,r,.inl ⟨_,h,fun r' S' e=>by rw[e.1,e.2]⟩,hK⟩
theorem aaE{dr:Option Nat}{f:FuncId}{args:List V}{dst:Option Nat}{K:St→Prop}{r:V}{S1:Store}(hm:ab5 dr=true)(hd:DS s.st S1)(h:dF P f args s.st (fun r' S'=>r'=r∧S'=S1))(hK:K (St.put ⟨s.tm,S1⟩ dst r)):dW P dr f args s dst K:=by
 cases dr with
 |none=>exact .inl ⟨_,h,fun r' S' e=>by rw[e.1,e.2];exact hK⟩
 |some m=>
  match m,hm with
  |0,hm=>cases hm
  |1,_=>exact⟨S1,r,hd,.inl ⟨_,h,fun r' S' e=>by rw[e.1,e.2]⟩,hK⟩
  |m+2,_=>exact⟨S1,r,.inl ⟨_,h,fun r' S' e=>by rw[e.1,e.2]⟩,hK⟩
theorem aaF{f:FuncId}{args:List V}{dst:Option Nat}{K:St→Prop}{r:V}(h:QE P f args r)(hK:K (St.put s dst r)):dW P none f args s dst K:=.inr ⟨r,h,hK⟩
def CX(P:Program)(R:Array Oper)(os:List Oper)(K:St→Prop)(s:St):Prop:=xJ P R os s K
def CY(P:Program)(E:Md)(R:Array Oper)(os:List Oper)(K:St→Prop)(s:St):Prop:=om P E R os s K
@[congr] theorem abJ {R:Array Oper} {os:List Oper} {s s':St} {K:St→Prop} (h2:s=s'):CX P R os K s=CX P R os K s':=by rw[h2]
@[congr] theorem abK {R:Array Oper} {os:List Oper} {s s':St} {K:St→Prop} (h2:s=s'):CY P E R os K s=CY P E R os K s':=by rw[h2]
section
variable {tm:List (Nat×V)} {R:Array Oper} {o:Oper} {os:List Oper} {K:St→Prop}
theorem Wy:xJ P R [] ⟨tm,S⟩ K=K ⟨tm,S⟩:=rfl
theorem TQ:xJ P R (o::os) ⟨tm,S⟩ K=qM P R o ⟨tm,S⟩ (CX P R os K):=rfl
theorem TR:CX P R [] K ⟨tm,S⟩=K ⟨tm,S⟩:=rfl
theorem QX:CX P R (o::os) K ⟨tm,S⟩=qM P R o ⟨tm,S⟩ (CX P R os K):=rfl
theorem Wz:om P E R [] ⟨tm,S⟩ K=K ⟨tm,S⟩:=rfl
theorem TS:om P E R (o::os) ⟨tm,S⟩ K=qx P E R o ⟨tm,S⟩ (CY P E R os K):=rfl
theorem TT:CY P E R [] K ⟨tm,S⟩=K ⟨tm,S⟩:=rfl
theorem QY:CY P E R (o::os) K ⟨tm,S⟩=qx P E R o ⟨tm,S⟩ (CY P E R os K):=rfl
end
section
variable {dst:Option Nat} {ty:TypeId} {pos:String} {after:Array Edge} {g:Option (Nat×Bool)} {K:St→Prop}
theorem QZ{t:TypeId}:dO P ⟨dst,.alloc t,ty,pos,after,g⟩ s K=qK P t s dst K:=rfl
theorem WA{t:TypeId}{x:Operand}:dO P ⟨dst,.box t x,ty,pos,after,g⟩ s K=xG (ev s.tm x) s dst K:=rfl
theorem Q0{t:TypeId}{a x:Operand}:dO P ⟨dst,.store t a x,ty,pos,after,g⟩ s K=qL P t (ev s.tm a) (ev s.tm x) s dst K:=rfl
theorem TU{t:TypeId}{a x:Operand}:dO P ⟨dst,.makeSlice t a x,ty,pos,after,g⟩ s K=tQ P t (ev s.tm a) (ev s.tm x) s dst K:=rfl
theorem Me{t:TypeId}:dO P ⟨dst,.makeMap t none,ty,pos,after,g⟩ s K=qo s dst K:=rfl
theorem HZ{t:TypeId}{x k v:Operand}:dO P ⟨dst,.mapUpdate t x k v,ty,pos,after,g⟩ s K=qp P t (ev s.tm x) (ev s.tm k) (ev s.tm v) s dst K:=rfl
theorem Oe{t:TypeId}{x i:Operand}:dO P ⟨dst,.lookup t x i false,ty,pos,after,g⟩ s K=fJ s dst K (uP P s.st t (ev s.tm x) (ev s.tm i)):=rfl
theorem Kc{t:TypeId}:eP P E ⟨dst,.makeMap t none,ty,pos,after,g⟩ s K=qo s dst K:=rfl
theorem FD{t:TypeId}{x k v:Operand}:eP P E ⟨dst,.mapUpdate t x k v,ty,pos,after,g⟩ s K=qp P t (ev s.tm x) (ev s.tm k) (ev s.tm v) s dst K:=rfl
theorem Mf{t:TypeId}{x i:Operand}:eP P E ⟨dst,.lookup t x i false,ty,pos,after,g⟩ s K=fJ s dst K (uP P s.st t (ev s.tm x) (ev s.tm i)):=rfl
theorem TV{c:Call}:dO P ⟨dst,.call c,ty,pos,after,g⟩ s K=mF P c s dst K:=rfl
theorem TW{x:Operand}:dO P ⟨dst,.move x,ty,pos,after,g⟩ s K=K (s.put dst (ev s.tm x)):=by simp[dO,nval,pE]
theorem Og{x:Operand}:dO P ⟨dst,.assign x,ty,pos,after,g⟩ s K=K (s.put dst (ev s.tm x)):=by simp[dO,nval,pE]
theorem TY{c a b:Operand}:dO P ⟨dst,.pick c a b,ty,pos,after,g⟩ s K=fJ s dst K (CO (ev s.tm c) (ev s.tm a) (ev s.tm b)):=rfl
theorem T9{t:TypeId}{a:Operand}:dO P ⟨dst,.load t a,ty,pos,after,g⟩ s K=fJ s dst K (wQ P s.st t (ev s.tm a)):=rfl
theorem H6{t:TypeId}{x:Operand}{f:Nat}:dO P ⟨dst,.fieldAddr t x f,ty,pos,after,g⟩ s K=fJ s dst K (pq P s.st t (ev s.tm x) f):=rfl
theorem Q5{t:TypeId}{x:Operand}{f:Nat}:dO P ⟨dst,.field t x f,ty,pos,after,g⟩ s K=fJ s dst K (zk P t (ev s.tm x) f):=rfl
theorem H7{t:TypeId}{x i:Operand}:dO P ⟨dst,.indexAddr t x i,ty,pos,after,g⟩ s K=fJ s dst K (pz P s.st t (ev s.tm x) (ev s.tm i)):=rfl
theorem Q6{t:TypeId}{x i:Operand}:dO P ⟨dst,.index t x i,ty,pos,after,g⟩ s K=fJ s dst K (zl P t (ev s.tm x) (ev s.tm i)):=rfl
theorem Q7{op:BinOp}{t u:TypeId}{x y:Operand}:dO P ⟨dst,.binOp op t x y u,ty,pos,after,g⟩ s K=fJ s dst K (Hf P op t (ev s.tm x) (ev s.tm y)):=rfl
theorem Ua{op:UnOp}{t:TypeId}{x:Operand}:dO P ⟨dst,.unOp op t x,ty,pos,after,g⟩ s K=fJ s dst K (Py op (ev s.tm x)):=rfl
theorem Mg{a b:TypeId}{x:Operand}:dO P ⟨dst,.convert a b x,ty,pos,after,g⟩ s K=fJ s dst K (CQ P a b (ev s.tm x)):=rfl
theorem Mh{x:Operand}{i:Nat}:dO P ⟨dst,.extract x i,ty,pos,after,g⟩ s K=fJ s dst K (uN (ev s.tm x) i):=rfl
theorem Ke{fn:Fn}{a b:Array Operand}:dO P ⟨dst,.makeFunc fn a b,ty,pos,after,g⟩ s K=fJ s dst K (sI fn (A8 s.tm a.toList) (A8 s.tm b.toList)):=rfl
theorem Kg{x:Operand}:dO P ⟨dst,.nilCheck x,ty,pos,after,g⟩ s K=fJ s dst K (sJ s.st (ev s.tm x)):=rfl
theorem Q8{t:TypeId}{x:Operand}{lo hi mx:Option Operand}:dO P ⟨dst,.slice t x lo hi mx,ty,pos,after,g⟩ s K=fJ s dst K (zm P t (ev s.tm x) (Jt s.tm lo) (Jt s.tm hi) (Jt s.tm mx)):=rfl
theorem Q9{t:TypeId}{parts:Array (Nat×Operand)}:dO P ⟨dst,.build t parts,ty,pos,after,g⟩ s K=fJ s dst K (zn P t (LZ s.tm parts.toList)):=rfl
theorem FE{t:TypeId}{n:Nat}{parts:Array (Nat×Operand)}:dO P ⟨dst,.buildSlice t n parts,ty,pos,after,g⟩ s K=fJ s dst K (oh P (qJ s.st) t n (LZ s.tm parts.toList)):=rfl
theorem Oh{t:TypeId}:eP P E ⟨dst,.alloc t,ty,pos,after,g⟩ s K=qK P t s dst K:=rfl
theorem Ub{t:TypeId}{x:Operand}:eP P E ⟨dst,.box t x,ty,pos,after,g⟩ s K=xG (ev s.tm x) s dst K:=rfl
theorem Oi{t:TypeId}{a x:Operand}:eP P E ⟨dst,.store t a x,ty,pos,after,g⟩ s K=qL P t (ev s.tm a) (ev s.tm x) s dst K:=rfl
theorem Ra{t:TypeId}{a x:Operand}:eP P E ⟨dst,.makeSlice t a x,ty,pos,after,g⟩ s K=tQ P t (ev s.tm a) (ev s.tm x) s dst K:=rfl
theorem Mi{args:Array Operand}{ts:Array TypeId}:eP P E ⟨dst,.call ⟨.builtin .append,args,ts⟩,ty,pos,after,g⟩ s K=mF P ⟨.builtin .append,args,ts⟩ s dst K:=rfl
theorem Rb{x:Operand}:eP P E ⟨dst,.move x,ty,pos,after,g⟩ s K=K (s.put dst (ev s.tm x)):=by simp[eP,oL,nval,pE]
theorem Mj{x:Operand}:eP P E ⟨dst,.assign x,ty,pos,after,g⟩ s K=K (s.put dst (ev s.tm x)):=by simp[eP,oL,nval,pE]
theorem Rc{c a b:Operand}:eP P E ⟨dst,.pick c a b,ty,pos,after,g⟩ s K=fJ s dst K (CO (ev s.tm c) (ev s.tm a) (ev s.tm b)):=rfl
theorem Rf{t:TypeId}{a:Operand}:eP P E ⟨dst,.load t a,ty,pos,after,g⟩ s K=fJ s dst K (wQ P s.st t (ev s.tm a)):=rfl
theorem FH{t:TypeId}{x:Operand}{f:Nat}:eP P E ⟨dst,.fieldAddr t x f,ty,pos,after,g⟩ s K=fJ s dst K (pq P s.st t (ev s.tm x) f):=rfl
theorem Oj{t:TypeId}{x:Operand}{f:Nat}:eP P E ⟨dst,.field t x f,ty,pos,after,g⟩ s K=fJ s dst K (zk P t (ev s.tm x) f):=rfl
theorem FI{t:TypeId}{x i:Operand}:eP P E ⟨dst,.indexAddr t x i,ty,pos,after,g⟩ s K=fJ s dst K (pz P s.st t (ev s.tm x) (ev s.tm i)):=rfl
theorem Ol{t:TypeId}{x i:Operand}:eP P E ⟨dst,.index t x i,ty,pos,after,g⟩ s K=fJ s dst K (zl P t (ev s.tm x) (ev s.tm i)):=rfl
theorem Om{op:BinOp}{t u:TypeId}{x y:Operand}:eP P E ⟨dst,.binOp op t x y u,ty,pos,after,g⟩ s K=fJ s dst K (Hf P op t (ev s.tm x) (ev s.tm y)):=rfl
theorem Rh{op:UnOp}{t:TypeId}{x:Operand}:eP P E ⟨dst,.unOp op t x,ty,pos,after,g⟩ s K=fJ s dst K (Py op (ev s.tm x)):=rfl
theorem Kh{a b:TypeId}{x:Operand}:eP P E ⟨dst,.convert a b x,ty,pos,after,g⟩ s K=fJ s dst K (CQ P a b (ev s.tm x)):=rfl
theorem Ki{x:Operand}{i:Nat}:eP P E ⟨dst,.extract x i,ty,pos,after,g⟩ s K=fJ s dst K (uN (ev s.tm x) i):=rfl
theorem H8{fn:Fn}{a b:Array Operand}:eP P E ⟨dst,.makeFunc fn a b,ty,pos,after,g⟩ s K=fJ s dst K (sI fn (A8 s.tm a.toList) (A8 s.tm b.toList)):=rfl
theorem H9{x:Operand}:eP P E ⟨dst,.nilCheck x,ty,pos,after,g⟩ s K=fJ s dst K (sJ s.st (ev s.tm x)):=rfl
theorem Oo{t:TypeId}{x:Operand}{lo hi mx:Option Operand}:eP P E ⟨dst,.slice t x lo hi mx,ty,pos,after,g⟩ s K=fJ s dst K (zm P t (ev s.tm x) (Jt s.tm lo) (Jt s.tm hi) (Jt s.tm mx)):=rfl
theorem Oq{t:TypeId}{parts:Array (Nat×Operand)}:eP P E ⟨dst,.build t parts,ty,pos,after,g⟩ s K=fJ s dst K (zn P t (LZ s.tm parts.toList)):=rfl
theorem Ee{t:TypeId}{n:Nat}{parts:Array (Nat×Operand)}:eP P E ⟨dst,.buildSlice t n parts,ty,pos,after,g⟩ s K=fJ s dst K (oh P (qJ s.st) t n (LZ s.tm parts.toList)):=rfl
theorem Uc{args:Array Operand}{ts:Array TypeId}:eP P E ⟨dst,.call ⟨.builtin .len,args,ts⟩,ty,pos,after,g⟩ s K=fJ s dst K (nval P s.st s.tm (.call ⟨.builtin .len,args,ts⟩)):=rfl
theorem Ud{x y:Operand}{ts:Array TypeId}:eP P E ⟨dst,.call ⟨.builtin .max,#[x,y],ts⟩,ty,pos,after,g⟩ s K=fJ s dst K (r9 true (ev s.tm x) (ev s.tm y)):=rfl
theorem Ue{x y:Operand}{ts:Array TypeId}:eP P E ⟨dst,.call ⟨.builtin .min,#[x,y],ts⟩,ty,pos,after,g⟩ s K=fJ s dst K (r9 false (ev s.tm x) (ev s.tm y)):=rfl
theorem Ri{x:Operand}{args:Array Operand}{ts:Array TypeId}:eP P E ⟨dst,.call ⟨.value x,args,ts⟩,ty,pos,after,g⟩ s K=vE P (E (.call ⟨.value x,args,ts⟩)) (ev s.tm x) (A8 s.tm args.toList) s dst K:=by
 simp only[eP,oL]
 generalize E (.call ⟨.value x,args,ts⟩)=m
 match m with
 |0=>
  simp only[z8]
  generalize ev s.tm x=fv
  cases fv with
  |c x=>cases x<;>simp[vE,Ah,xQ,A8]
  |_=>simp[vE]
 |1=>
  simp only[dO,mF]
  generalize ev s.tm x=fv
  cases fv with
  |c x=>cases x<;>simp[vE,Ah,xQ,A8]
  |_=>simp[vE]
 |m+2=>
  simp only[dO,mF]
  generalize ev s.tm x=fv
  cases fv with
  |c x=>cases x<;>simp[vE,Ah,xQ,A8]
  |_=>simp[vE]
end
def CZ(v:V)(A B:St→Prop)(s:St):Prop:=
 match v with
 | .c (.d (.b x))=>Split x A B s
 |_=>False
def CW(P:Program)(N:Nat):Code→(Exit→St→Prop)→St→Prop
 | .seq x y,Q,s=>CW P N x (lD (CW P N y Q) Q) s
 | .region _ R false,Q,s=>xJ P R R.toList s (Q .normal)
 | .region _ R true,Q,s=>om P (Fv R N) R R.toList s (Q .normal)
 | .cond c x y,Q,s=>CZ (ev s.tm c) (CW P N x Q) (CW P N y Q) s
 | .block id c,Q,s=>CW P N c (wS id Q) s
 | .exit id,Q,s=>Q (.exit id) s
 | .ret,Q,s=>Q .ret s
 | .skip,Q,s=>Q .normal s
 | .loop c,Q,s=>AW P N (.loop c) Q s
 |_,_,_=>False
def ab6(N:Nat)(R:Array Oper):Bool:=R.toList.all (fun o=>match o.dst with|some d=>decide (d<N)|none=>true)
def codeOk(N:Nat):Code→Bool
 | .seq x y=>codeOk N x&&codeOk N y
 | .region _ R false=>ab6 N R
 | .region _ R true=>Hz R N
 | .cond _ x y=>codeOk N x&&codeOk N y
 | .block _ c=>codeOk N c
 | .loop c=>codeOk N c
 |_=>true
theorem lK(jr:P.follows .mixedOrders=true):∀(c:Code) (Q:Exit→St→Prop) (s:St),codeOk N c=true→CW P N c Q s→AW P N c Q s
 | .seq x y,Q,s,ok,h=>by
   simp only[codeOk,Bool.and_eq_true] at ok
   refine Tv (AW.mono (lK jr x _ s ok.1 h) fun e s' h'=> ?_)
   cases e with
   |normal=>exact lK jr y Q s' ok.2 h'
   |_=>exact h'
 | .region _ R false,Q,s,ok,h=>Tw ok h
 | .region _ R true,Q,s,ok,h=>QN jr ok h
 | .cond c x y,Q,s,ok,h=>by
   simp only[codeOk,Bool.and_eq_true] at ok
   simp only[CW,CZ] at h
   split at h
   ·rename_i b hb
    exact YT hb (fun e=>lK jr x Q s ok.1 (h.1 e)) (fun e=>lK jr y Q s ok.2 (h.2 e))
   ·exact h.elim
 | .block id c,Q,s,ok,h=>VJ (lK jr c _ s ok h)
 | .exit id,Q,s,ok,h=>YS h
 | .ret,Q,s,ok,h=>aal h
 | .skip,Q,s,ok,h=>YR h
 | .loop c,Q,s,ok,h=>h
 | .rangeFunc _ _ _ _,Q,s,ok,h=>h.elim
 | .scope _,Q,s,ok,h=>h.elim
 | .label _,Q,s,ok,h=>h.elim
 | .goto _,Q,s,ok,h=>h.elim
 | .refuse _,Q,s,ok,h=>h.elim
theorem aaG{x y:Code}{Q:Exit→St→Prop}:CW P N (.seq x y) Q s=CW P N x (lD (CW P N y Q) Q) s:=by rw[CW]
theorem Uf{id:Nat}{l:List Oper}{Q:Exit→St→Prop}:CW P N (.region id ⟨l⟩ false) Q s=xJ P ⟨l⟩ l s (Q .normal):=by rw[CW]
theorem Za{id:Nat}{l:List Oper}{Q:Exit→St→Prop}:CW P N (.region id ⟨l⟩ true) Q s=om P (Fv ⟨l⟩ N) ⟨l⟩ l s (Q .normal):=by rw[CW]
theorem Zb{c:Operand}{x y:Code}{Q:Exit→St→Prop}:CW P N (.cond c x y) Q s=CZ (ev s.tm c) (CW P N x Q) (CW P N y Q) s:=by rw[CW]
theorem WB{id:Nat}{c:Code}{Q:Exit→St→Prop}:CW P N (.block id c) Q s=CW P N c (wS id Q) s:=by rw[CW]
theorem Zc{id:Nat}{Q:Exit→St→Prop}:CW P N (.exit id) Q s=Q (.exit id) s:=by rw[CW]
theorem aaH{Q:Exit→St→Prop}:CW P N .ret Q s=Q .ret s:=by rw[CW]
theorem Zd{Q:Exit→St→Prop}:CW P N .skip Q s=Q .normal s:=by rw[CW]
theorem Ze{c:Code}{Q:Exit→St→Prop}:CW P N (.loop c) Q s=AW P N (.loop c) Q s:=by rw[CW]
theorem Mk{K:St→Prop}{Q:Exit→St→Prop}:lD K Q .normal s=K s:=rfl
theorem Ug{K:St→Prop}{Q:Exit→St→Prop}:lD K Q .ret s=Q .ret s:=rfl
theorem Rj{K:St→Prop}{Q:Exit→St→Prop}{i:Nat}:lD K Q (.exit i) s=Q (.exit i) s:=rfl
theorem Ml{id:Nat}{Q:Exit→St→Prop}:wS id Q .normal s=Q .normal s:=rfl
theorem Uh{id:Nat}{Q:Exit→St→Prop}:wS id Q .ret s=Q .ret s:=rfl
theorem Rk{id i:Nat}{Q:Exit→St→Prop}:wS id Q (.exit i) s=if i=id then Q .normal s else Q (.exit i) s:=rfl
def WC(post:V→Store→Prop)(s:St)(r:R):Prop:=r.1∧match r.2.ret with
 |some v=>post v (fI s.st)
 |none=>False
theorem Zf{post:V→Store→Prop}{p:Prop}{v:V}:WC post s (p,v)=(p∧match v.ret with
 |some v=>post v (fI s.st)
 |none=>False):=rfl
def WE(P:Program)(rs:List ResultVar)(post:V→Store→Prop)(e:Exit)(s:St):Prop:=VK P rs post e (zy s)
def Mq(P:Program)(rs:List ResultVar)(post:V→Store→Prop)(s:St):Prop:=WC post s (qC P rs s)
theorem WG{rs:List ResultVar}{post:V→Store→Prop}:WE P rs post .ret s=Mq P rs post (zy s):=rfl
theorem Ot{rs:List ResultVar}{post:V→Store→Prop}:WE P rs post .normal s=Mq P rs post (zy s):=rfl
theorem Zg{rs:List ResultVar}{post:V→Store→Prop}{tm:List (Nat×V)}:Mq P rs post ⟨tm,S⟩=WC post ⟨tm,S⟩ (qC P rs ⟨tm,S⟩):=rfl
def aaI(j:Nat)(es:List (List D))(tm:List (Nat×V)):List (Nat×V):=tm.map fun x=>(x.1,x.2.lQ j es)
theorem Ui{j:Nat}{es:List (List D)}{tm:List (Nat×V)}{t:Nat}:look (aaI j es tm) t=(look tm t).lQ j es:=Ag (f:=V.lQ j es) rfl tm t
def aaJ(j:Nat)(tm:List (Nat×V))(own:List Obj)(Ω:Store):Option Obj→St
 |some (.eU _ es)=>⟨aaI j es tm,(own.map (Obj.lQ j es)).set j .dead::Ω⟩
 |_=>⟨tm,own::Ω⟩
theorem WH{j:Nat}{tm:List (Nat×V)}{own:List Obj}{Ω:Store}:FB j ⟨tm,own::Ω⟩=aaJ j tm own Ω (own[j]?):=by
 unfold FB
 simp only
 generalize own[j]? =o
 cases o with
 |none=>rfl
 |some o=>cases o<;>rfl
theorem Uj{tm:List (Nat×V)}{own:List Obj}{Ω:Store}:zy ⟨tm,own::Ω⟩=FC own.length ⟨tm,own::Ω⟩:=rfl
theorem aB{f:FuncId}{fn:Func}{c:Code}{args:List V}{post:V→Store→Prop}{rs:List ResultVar}(jr:P.follows .mixedOrders=true)(hf:P.funcs[f]? =some fn)(hN:fn.ntmps=N)
 (hb:fn.body=some c) (hn:(fn.name== "runtime.NumGoroutine")=false) (hr:fn.results.toList=rs) (hl:Nat.ble args.length N=true) (hok:codeOk N c=true)
 (h:CW P N c (WE P rs post) ⟨nS (args.map (V.up 1)) 0,[]::S⟩):dF P f args S post:=by
 subst hN
 subst hr
 exact vB hf hb hn (Nat.le_of_ble_eq_true hl) (xO LX (lK jr c _ _ hok h))
end
end Go.Ab
namespace Go.Ab
theorem PS(n:Int)(h: -9223372036854775808≤n∧n≤9223372036854775807):IntKind.i64.wrap n=n:=IntWalk.i64_in n h
theorem wrap_u8(n:Int)(h:0≤n∧n≤255):IntKind.u8.wrap n=n:=IntWalk.u8_in n h
theorem getD_map{α β:Type}(f:α→β)(l:List α)(i:Nat)(d:β)(h:i<l.length):(l.map f).getD i d=f l[i]:=by
 simp[List.getD,h]
theorem Rl{k:IntKind}{n:Int}:xB (.int k n)=.c (.d (.i k n)):=rfl
theorem Ou{b:Bool}:xB (.bool b)=.c (.d (.b b)):=rfl
theorem Rm{l:List UInt8}:xB (.string ⟨⟨l⟩⟩)=.c (.d (.s l)):=rfl
theorem Ov:xB (.slice none 0 0)=.c (.bC []):=rfl
theorem WI{tm:List (Nat×V)}{S:Store}{d:Nat}{v:V}:St.put ⟨tm,S⟩ (some d) v=⟨(d,v)::tm,S⟩:=rfl
theorem WJ{tm:List (Nat×V)}{S:Store}{v:V}:St.put ⟨tm,S⟩ none v=⟨tm,S⟩:=rfl
theorem aaK{a b:V}:CO (.c (.d (.b true))) a b=(True,a):=rfl
theorem aaL{a b:V}:CO (.c (.d (.b false))) a b=(True,b):=rfl
theorem Ow{tm:List (Nat×V)}{own:List Obj}{Ω:Store}{dst:Option Nat}{o:Obj}{mk:Key→V}{K:St→Prop}:
 newObj ⟨tm,own::Ω⟩ dst o mk K=K (St.put ⟨tm,(own++[o])::Ω⟩ dst (mk (0,own.length))):=rfl
theorem aaM{x:C}{s:St}{dst:Option Nat}{K:St→Prop}:xG (.c x) s dst K=newObj s dst (.box [x]) (fun k=>.c (.ptr k 0)) K:=rfl
theorem WK{x:List C}{s:St}{dst:Option Nat}{K:St→Prop}:xG (.agg x) s dst K=newObj s dst (.box x) (fun k=>.c (.ptr k 0)) K:=rfl
theorem WL{α β:Type}{f:α→Option β}:([]:List α).mapM f=some []:=by simp
theorem Uk{α β:Type}{f:α→Option β}{x:α}{xs:List α}:(x::xs).mapM f=(f x).bind fun y=>(xs.mapM f).bind fun ys=>some (y::ys):=by
 rw[List.mapM_cons];rfl
theorem ab7{c:C}:C.down 0 c=some c:=by cases c<;>simp[C.down]
theorem WM{n m j:Nat}{es:List (List D)}:C.down n (.bH (n+m,j) es)=some (.bH (m,j) es):=by simp[C.down]
theorem Ul{n j:Nat}{es:List (List D)}:C.down n (.bH (n,j) es)=some (.bH (0,j) es):=by simp[C.down]
theorem aaN{n:Nat}{x:D}:C.down n (.d x)=some (.d x):=rfl
theorem WO{n:Nat}:C.down n .any=some .any:=rfl
theorem WQ{n:Nat}{es:List (List D)}:C.down n (.bC es)=some (.bC es):=rfl
theorem WR{n m j off:Nat}:C.down n (.ptr (n+m,j) off)=some (.ptr (m,j) off):=by simp[C.down]
theorem Um{n j off:Nat}:C.down n (.ptr (n,j) off)=some (.ptr (0,j) off):=by simp[C.down]
theorem WS{n m:Nat}{es:List (List D)}:C.down n (.j5 m es)=some (.j5 m es):=rfl
theorem WU{Ω:Store}:qJ ([]::Ω)=none:=rfl
theorem WV{cs:List C}{own:List Obj}{Ω:Store}:qJ ((.box cs::own)::Ω)=none:=rfl
theorem WW{z:Nat}{es:List (List D)}{own:List Obj}{Ω:Store}:qJ ((.tok z es::own)::Ω)=none:=rfl
theorem Un{z:Nat}{es:List (List D)}{own:List Obj}{Ω:Store}:qJ ((.eU z es::own)::Ω)=none:=rfl
theorem Zh{m:List (List UInt8)}{own:List Obj}{Ω:Store}:qJ ((.mp m::own)::Ω)=none:=rfl
theorem Uo{own:List Obj}{Ω:Store}:qJ ((.dead::own)::Ω)=none:=rfl
theorem Uq{n z:Nat}{es:List (List D)}{own:List Obj}{Ω:Store}:qJ ((.d9 n z es::own)::Ω)=none:=rfl
theorem Ur{n:Nat}{own:List Obj}{Ω:Store}:qJ ((.seed n::own)::Ω)=some n:=rfl
theorem Us{es x:List (List D)}{z:Nat}{s:St}{dst:Option Nat}{K:St→Prop}:xH none es s dst z x K=newObj s dst (.tok z x) (fun k=>.c (.bH k x)) K:=rfl
theorem WX{n:Nat}{x:List (List D)}{z:Nat}{s:St}{dst:Option Nat}{K:St→Prop}:xH (some n) [] s dst z x K=K (St.put ⟨s.tm,s.st⟩ dst (.c (.d (.ol n x)))):=rfl
theorem Ut{n:Nat}{y:List D}{es x:List (List D)}{z:Nat}{s:St}{dst:Option Nat}{K:St→Prop}:xH (some n) (y::es) s dst z x K=newObj s dst (.tok z x) (fun k=>.c (.bH k x)) K:=rfl
theorem Rn{n:Nat}{x:List (List D)}{z:Nat}{s:St}{dst:Option Nat}{K:St→Prop}:yX false n s dst z x K=newObj s dst (.d9 n z x) (fun k=>.c (.bH k x)) K:=rfl
theorem Uu{n:Nat}{x:List (List D)}{z:Nat}{s:St}{dst:Option Nat}{K:St→Prop}:yX true n s dst z x K=K (St.put ⟨s.tm,s.st⟩ dst (.c (.d (.ol n x)))):=rfl
theorem WY{own:List Obj}{Ω:Store}:QD (own::Ω)=tT own[1]? :=rfl
theorem Ro:tT none=false:=rfl
theorem Uv{cs:List C}:tT (some (.box cs))=false:=rfl
theorem Uw{z:Nat}{es:List (List D)}:tT (some (.tok z es))=false:=rfl
theorem Rp{n z:Nat}{es:List (List D)}:tT (some (.d9 n z es))=false:=rfl
theorem Rq{z:Nat}{es:List (List D)}:tT (some (.eU z es))=false:=rfl
theorem Rs:tT (some .dead)=false:=rfl
theorem WZ{m:List (List UInt8)}:tT (some (.mp m))=false:=rfl
theorem Ox:tT (some (.seed 0))=false:=rfl
theorem Oy:tT (some (.seed 1))=true:=rfl
attribute [go_sem] Us WX Ut Rn Uu WY Ro Uv Uw Rp Rq Rs WZ Ox Oy
theorem W9{P:Program}{t:TypeId}{n:Nat}{parts:List (Nat×V)}:oh P none t n parts=qj P t n parts:=rfl
def YA(m:Nat):R→R
 |(p,.c (.bC es))=>(p,.c (.j5 m es))
 |_=>no
theorem Xa{m:Nat}{p:Prop}{es:List (List D)}:YA m (p,.c (.bC es))=(p,.c (.j5 m es)):=rfl
theorem Xb{P:Program}{m:Nat}{t:TypeId}{n:Nat}{parts:List (Nat×V)}:oh P (some m) t n parts=YA m (qj P t n parts):=rfl
attribute [go_sem_proc] Nat.reduceEqDiff Nat.reduceAdd Nat.reduceLeDiff Nat.reduceSub Nat.reduceMul Nat.reduceBEq Int.reduceEq Int.reduceLT Int.reduceLE Int.reduceGT Int.reduceGE Int.reduceNeg Int.reduceToNat
attribute [go_sem_proc ↓] reduceIte
attribute [wf_preprocess] decide_eq_true_eq decide_eq_false_iff_not Bool.not_eq_true Bool.not_eq_false Bool.not_eq_eq_eq_not Bool.not_true Bool.not_false Classical.not_not
attribute [go_sem ↓] Wy TQ TR QX Wz TS TT QY Ob Oc L9 Ma Y9 Wt TK aaG Uf Za Zb WB Zc aaH Zd Ze Mk Ug Rj Ml Uh Rk WG Ot Uj Od Mc TM TN TP Ud Ue QZ WA Q0 TU Me HZ Oe Kc FD Mf TV TW Og TY T9 H6 Q5 H7 Q6 Q7 Ua Mg Mh Ke Kg Q8 Q9 FE Oh Ub Oi Ra Mi Rb Mj Rc Rf FH Oj FI Ol Om Rh Kh Ki H8 H9 Oo Oq Ee Uc Ri
attribute [go_sem] xP QV Oa Wu Zg Zf CZ FC WH aaJ Ui V.lQ C.lQ Obj.lQ Wv Ww Wx xQ
 QT QU Y7 Wo Wp Wq Y8 Ws ev Rl Ou Rm Ov zi WI WJ look aaK aaL Ow aaM WK qK qL tQ qw QC
 wQ CP wu headD Qk pq zk yC vL pz zl Qn Qo Hf Py CQ uN zS zm tK sI capOf sJ
 K6 r9 uP qo qp rQ bK bZ C.up V.up wG fB nS V.oF C.oF ab7 WM Ul aaN WO WQ WR Um
 List.map_cons List.map_nil List.append_nil List.nil_append List.length_nil List.length_cons List.cons_append Option.map_some Option.map_none Option.bind_some Option.bind_none
 List.getElem?_cons_zero List.getElem?_cons_succ List.set_cons_zero List.set_cons_succ List.drop_zero List.drop_succ_cons List.drop_nil List.take_zero List.take_succ_cons List.take_nil
 if_true if_false true_and and_true Int.toNat_natCast List.getElem?_toArray List.size_toArray Nat.zero_add Nat.add_zero Bool.false_eq_true Bool.true_eq_false Bool.not_true Bool.not_false reduceCtorEq
 decide_true decide_false List.all_cons List.all_nil Bool.and_true Bool.true_and Option.isSome_some Option.isSome_none PS getD_map WL Uk Jb splice List.length_map zT zn uO qj List.size_toArray WU WV WW Un Zh Uo Uq Ur W9 Xb Xa WS
section
variable {P:Program} {S S':Store} {N:Nat} {s:St}
def fG:List Nat→List V→List (Nat×V)
 |t::ts,v::vs=>(t,v)::fG ts vs
 |_,_=>[]
theorem xR(f:Nat→V):∀(ts:List Nat) (t:Nat),look (fG ts (ts.map f)) t=f t∨look (fG ts (ts.map f)) t=.any
 |[],t=>.inr rfl
 |u::us,t=>by
  show(if u=t then f u else look (fG us (us.map f)) t)=f t∨(if u=t then f u else look (fG us (us.map f)) t)=.any
  by_cases e:u=t
  ·left;rw[if_pos e,e]
  ·rw[if_neg e];exact xR f us t
def Inv{ι:Type}(N:Nat)(ts:List Nat)(f:ι→List V)(g:ι→Store)(p:ι→Prop)(μ:ι→Nat)(i:ι)(s':St):Prop:=∃j s0,μ j<μ i∧gI N s' s0∧ts.map (look s0.tm)=f j∧s0.st=g j∧p j
theorem bF{ι:Type}{ts:List Nat}{f:ι→List V}{g:ι→Store}{p:ι→Prop}{μ:ι→Nat}{i:ι}(j:ι)(h1:μ j<μ i)(h2:ts.map (look s.tm)=f j)(h3:s.st=g j)(h4:p j):Inv N ts f g p μ i s:=
 ⟨j,s,h1,gI.refl _ _,h2,h3,h4⟩
theorem xS:∀(ts:List Nat) (vs:List V),ts.Nodup→ts.length=vs.length→ts.map (look (fG ts vs))=vs
 |[],[],_,_=>rfl
 |t::ts,v::vs,hn,hl=>by
  have hn':=List.nodup_cons.1 hn
  have ih:=xS ts vs hn'.2 (by simpa using hl)
  simp only[fG,List.map_cons,look,if_true,List.cons.injEq,true_and]
  rw[←ih]
  refine List.map_congr_left fun u hu=> ?_
  have hne:t≠u:=fun e=>hn'.1 (e▸hu)
  rw[if_neg hne,ih]
theorem cu{ι:Type}{ts:List Nat}{f:ι→List V}{g:ι→Store}{p:ι→Prop}{μ:ι→Nat}{i:ι}{tm:List (Nat×V)}{own:List Obj}{Ω:Store}(n:Nat)(hnd:ts.Nodup)(j:ι)(h1:μ j<μ i)(h2:ts.map (look tm)=f j)(h3:own.take n::Ω=g j)
 (hr:gF n (fG ts (f j))=true) (ho:(own.take n).all (Obj.refs n)=true) (h4:p j):Inv N ts f g p μ i ⟨tm,own::Ω⟩:=by
 refine⟨j,⟨fG ts (f j),own.take n::Ω⟩,h1,?_,?_,h3,h4⟩
 ·have hg:gI N ⟨tm,own::Ω⟩ ⟨fG ts (f j),own::Ω⟩:=by
   rw[←h2]
   exact Ed fun t=>xR _ ts t
  exact hg.trans (Fy n hr ho)
 ·exact xS ts (f j) hnd (by rw[←h2];simp)
theorem aQ{ι:Type}{c:Code}{Q:Exit→St→Prop}(jr:P.follows .mixedOrders=true)(hok:codeOk N c=true)(ts:List Nat)(f:ι→List V)(g:ι→Store)(p:ι→Prop)(μ:ι→Nat)(i0:ι)
 (h1:ts.map (look s.tm)=f i0) (h2:s.st=g i0) (h3:p i0)
 (round:∀i,p i→CW P N c (lD (Inv N ts f g p μ i) Q) ⟨fG ts (f i),g i⟩):AW P N (.loop c) Q s:=by
 refine YU (ι:=ι) (fun i s=>∃s0,gI N s s0∧ts.map (look s0.tm)=f i∧s0.st=g i∧p i) μ i0 ⟨s,gI.refl _ _,h1,h2,h3⟩ fun i s hI=> ?_
 obtain⟨s0,hg,h1,h2,h3⟩:=hI
 refine oo ?_ hg
 have hr:=(lK jr c _ _ hok (round i h3)).mono (Q':=lD (fun s'=>∃j,μ j<μ i∧∃s0,gI N s' s0∧ts.map (look s0.tm)=f j∧s0.st=g j∧p j) Q) fun e s' h=>by
  cases e with
  |normal=>
   obtain⟨j,s0,a1,a2,a3,a4,a5⟩:=h
   exact⟨j,a1,s0,a2,a3,a4,a5⟩
  |_=>exact h
 obtain⟨tm,st⟩:=s0
 simp only at h1 h2
 subst h2
 rw[←h1] at hr
 exact abZ hr fun t=>xR _ ts t
theorem Xc:qC P [] s=(True,.iB []):=rfl
theorem Xd{x:ResultVar}:qC P [x] s=tX P s x:=rfl
theorem Xe{x y:ResultVar}{z:List ResultVar}:qC P (x::y::z) s=(match(nC P s (x::y::z)).2 with
 |some ys=>((nC P s (x::y::z)).1,.iB ys)
 |none=>no):=rfl
end
attribute [go_sem] zR EP
attribute [go_sem] fG Xc Xd Xe tX nC Fh fI V.ret CS
end Go.Ab
namespace Go.Ab
section
variable {P:Program} {S S':Store} {N:Nat} {s:St}
theorem Mr{α:Type}{fr:List α}{S:List (List α)}{l j:Nat}:bK (fr::S) (1+l,j)=bK S (l,j):=by rw[Nat.add_comm,dh]
theorem Xf{α:Type}{fr:List α}{S:List (List α)}{l j:Nat}{x:α}:bZ (fr::S) (1+l,j) x=fr::bZ S (l,j) x:=by rw[Nat.add_comm,bZ]
theorem aaO{n l j:Nat}:wG n (l,j)=(n+l,j):=rfl
theorem Rt{l j:Nat}{es:List (List D)}:C.ret (.bH (1+l,j) es)=some (.bH (l,j) es):=by
 rw[Nat.add_comm]
 show C.down 1 (.bH (l+1,j) es)=_
 simp[C.down]
theorem ret_tsl_0{j:Nat}{es:List (List D)}:C.ret (.bH (0,j) es)=some (.d (.sl es)):=rfl
theorem ab8{x:D}:C.ret (.d x)=some (.d x):=rfl
theorem Zi:C.ret .any=some .any:=rfl
theorem Zj{es:List (List D)}:C.ret (.bC es)=some (.bC es):=rfl
theorem Zk{n:Nat}{es:List (List D)}:C.ret (.j5 n es)=some (.j5 n es):=rfl
theorem Xg{cs:List D}:C.ret (.kG cs)=some (.kG cs):=rfl
theorem Zl{l j off:Nat}:C.ret (.ptr (1+l,j) off)=some (.ptr (l,j) off):=by
 rw[Nat.add_comm]
 show C.down 1 (.ptr (l+1,j) off)=_
 simp[C.down]
theorem Zm{j:Nat}{es es':List (List D)}{k:Key}:C.lQ j es (.bH k es')=.bH k es':=rfl
theorem ab9{x:D}:C.oF (.d x)=.d x:=rfl
theorem Zn:C.oF .any=.any:=rfl
theorem Zo{k:Key}{off:Nat}:C.oF (.ptr k off)=.ptr k off:=rfl
theorem aaP{f:Nat}{caps:List (Key×Nat)}:C.oF (.fn f caps)=.fn f caps:=rfl
theorem Zp{k:Key}:C.oF (.ji k)=.ji k:=rfl
theorem Xh{cs:List D}:C.oF (.kG cs)=.kG cs:=rfl
theorem acd{j:Nat}{es:List (List D)}{x:D}:C.lQ j es (.d x)=.d x:=rfl
theorem Zq{j:Nat}{es:List (List D)}:C.lQ j es .any=.any:=rfl
theorem Zr{j:Nat}{es es':List (List D)}:C.lQ j es (.bC es')=.bC es':=rfl
theorem Zt{j:Nat}{es:List (List D)}{k:Key}{off:Nat}:C.lQ j es (.ptr k off)=.ptr k off:=rfl
theorem aaQ{j:Nat}{es:List (List D)}{f:Nat}{caps:List (Key×Nat)}:C.lQ j es (.fn f caps)=.fn f caps:=rfl
theorem Zu{j n:Nat}{es es':List (List D)}:C.lQ j es (.j5 n es')=.j5 n es':=rfl
theorem Zv{n:Nat}{es:List (List D)}:C.oF (.j5 n es)=.j5 n es:=rfl
theorem Xi{j:Nat}{es:List (List D)}{cs:List D}:C.lQ j es (.kG cs)=.kG cs:=rfl
theorem Zw{j i:Nat}{es:List (List D)}:C.lQ j es (.ji (0,i))=if i=j then .d (.sl es) else .ji (0,i):=rfl
theorem dF.Xj{f:FuncId}(i:Nat){es:List (List D)}{bn:Nat}{args:List V}{post post':V→Store→Prop}(hi:args[i]? =some (.c (.bC es)))(hes:∀e∈es,e.length=bn)
 (h:dF P f ((args.map (V.up 1)).set i (.c (.bH (0,0) es))) ([.tok bn es]::S) post)
 (hp:∀r fr S',post r (fr::S')→∃r',r.ret=some r'∧post' r' S'):dF P f args S post':=by
 refine⟨h.1,fun w σ β vs hS hargs=> ?_⟩
 obtain⟨v,hv0,⟨hd,ad,n,hval⟩,hone⟩:=hargs.2 i _ hi
 ·have hn:n=es.length:=by rw[hval] at hd;cases hd<;>rfl
  have hg:Grow w σ w σ:=Grow.refl hS.live
  obtain⟨hS',hk,hst⟩:=hS.up1.push (o:=.tok bn es) (h:=v) hg rfl ⟨hd,hes,ad,n,by rw[hval,hn],by omega,.inl hn⟩ (fun b hb=>by
   rw[hval,hn] at hb
   cases ad<;>simp[owns,blk] at hb)
  have hargs':nK w σ ([.tok bn es]::S) ([v]::β) ((args.map (V.up 1)).set i (.c (.bH (0,0) es))) vs:=by
   refine⟨by have:=hargs.1;simpa using this,fun j x hx=> ?_⟩
   rw[List.getElem?_set] at hx
   by_cases e:i=j
   ·subst e
    rw[if_pos rfl] at hx
    split at hx
    ·cases hx
     refine⟨v,hv0,⟨hd,.tok bn es,rfl,fun a b e=> ?_⟩,hone⟩
     obtain⟨_,rfl⟩:=mO (lab:=none) e
     exact⟨Nat.le_refl _,fun _=>rfl⟩
    ·cases hx
   ·rw[if_neg e,List.getElem?_map] at hx
    cases ha:args[j]? with
    |none=>rw[ha] at hx;cases hx
    |some y=>
     rw[ha] at hx;cases hx
     obtain⟨u,hu,hr⟩:=hargs.2 j y ha
     exact⟨u,hu,Hy (S:=[.tok bn es]::S) (β:=[v]::β) 1 hr⟩
  refine(h.2 w σ ([v]::β) vs hS' hargs').mono fun e w' ⟨v',r,S1,σ',β',he,hS1,hk1,Ia,hr1,hpost⟩=> ?_
  have hO:∀b,Own ([.tok bn es]::S) ([v]::β) b→Own S β b:=by
   rintro b ⟨⟨l,j⟩,o,hv,h1,h2,h3⟩
   cases l with
   |zero=>
    rw[bP] at h1 h2
    cases j with
    |zero=>
     cases h1;cases h2
     rw[hval,hn] at h3
     cases ad<;>simp[owns,blk] at h3
    |succ j=>simp at h1
   |succ l=>rw[dh] at h1 h2;exact⟨(l,j),o,hv,h1,h2,h3⟩
  cases S1 with
  |nil=>
   obtain⟨o',h1,_⟩:=hk1 (0,0) _ rfl
   rw[mM] at h1;cases h1
  |cons fr S1=>
   cases β' with
   |nil=>have:=hS1.shape.1;simp at this
   |cons bo bΩ=>
    obtain⟨r',hr',hp'⟩:=hp r fr S1 hpost
    refine⟨v',r',S1,σ',bΩ,he,hS1.Yv,hk1.drop 1,⟨Ia.size,Ia.os,Ia.output,fun b hb ho=>Ia.far b hb (fun x=>ho (hO b x)),Ia.near,fun b hb=>(Ia.own b (Jq hb)).imp (hO b) id⟩,LB hr' hr1,hp'⟩
end
attribute [go_sem] Mr Xf aaO Rt ret_tsl_0 ab8 Zi Zj Xg Zl Zm ab9 Zn Zo aaP Zp Xh acd Zq Zr Zt aaQ Xi Zw Zk Zu Zv
end Go.Ab
namespace Go.Ab
section
variable {P:Program} {S S':Store} {N:Nat} {s:St}
theorem BA(S:Store)(β:Hs)(k:Key):Keep S β (bZ S k .dead) β:=by
 intro k' o ho
 by_cases e:k=k'
 ·subst e
  exact⟨.dead,fV _ _ _ _ ho,.inl rfl⟩
 ·exact⟨o,by rw[fZ _ _ _ _ e];exact ho,lC.refl _ _⟩
theorem vS{k k':Key}{o:Obj}(h:bK (bZ S k .dead) k'=some o):(k=k'∧o=.dead)∨bK S k'=some o:=by
 by_cases e:k=k'
 ·subst e
  cases hg:bK S k with
  |none=>
   have:∀(S:Store) (k:Key),bK S k=none→bZ S k .dead=S:=by
    intro S
    induction S with
    |nil=>intro k _;rfl
    |cons fr S ih=>
     rintro⟨l,j⟩ h
     cases l with
     |zero=>
      rw[bP] at h
      rw[bZ,List.set_eq_of_length_le (List.getElem?_eq_none_iff.1 h)]
     |succ l=>rw[dh] at h;rw[bZ,ih _ h]
   rw[this S k hg,hg] at h
   cases h
  |some y=>
   rw[fV _ _ _ _ hg] at h
   cases h
   exact .inl ⟨rfl,rfl⟩
 ·rw[fZ _ _ _ _ e] at h
  exact .inr h
theorem Ms(x:Obj):∀(S:Store) (k:Key),(bZ S k x).length=S.length
 |[],k=>rfl
 |fr::S,(0,j)=>by rw[bZ];simp
 |fr::S,(l+1,j)=>by rw[bZ,List.length_cons,Ms x S,List.length_cons]
theorem PU(x:Obj):∀(S:Store) (k:Key) (l:Nat) (fr:List Obj),(bZ S k x)[l]? =some fr→∃yF,S[l]? =some yF∧yF.length=fr.length
 |[],k,l,fr,h=>by simp[bZ] at h
 |f::S,(0,j),0,fr,h=>by rw[bZ] at h;simp at h;subst h;exact⟨f,rfl,by simp⟩
 |f::S,(0,j),l+1,fr,h=>by rw[bZ] at h;exact⟨fr,by simpa using h,rfl⟩
 |f::S,(i+1,j),0,fr,h=>by rw[bZ] at h;exact⟨fr,by simpa using h,rfl⟩
 |f::S,(i+1,j),l+1,fr,h=>by
  rw[bZ] at h
  simpa using PU x S (i,j) l fr (by simpa using h)
theorem Xk{w:World}{σ:Nat→Nat}{β:Hs}(k:Key)(hS:eD w σ S β):eD w σ (bZ S k .dead) β:=by
 have hn:fF w σ w σ:=(Grow.refl hS.live).near
 refine⟨fun k' o ho=> ?_,fun k1 k2 o1 o2 h1 h2 b e1 e2 e3 e4 e5 e6=> ?_,⟨by rw[Ms];exact hS.shape.1,fun l fr hl=> ?_⟩,hS.live,hS.rJ⟩
 ·rcases vS ho with⟨rfl,rfl⟩|ho'
  ·cases hg:bK S k with
   |none=>
    exfalso
    have:=BA S β k
    rcases vS (S:=S) (k:=k) (k':=k) ho with⟨_,_⟩|h
    ·
     have hne:bK (bZ S k .dead) k=none:=by
      have:∀(S:Store) (k:Key),bK S k=none→bK (bZ S k Obj.dead) k=none:=by
       intro S
       induction S with
       |nil=>intro k _;rw[bZ,mM]
       |cons fr S ih=>
        rintro⟨l,j⟩ h
        cases l with
        |zero=>
         rw[bP] at h
         rw[bZ,bP,List.set_eq_of_length_le (List.getElem?_eq_none_iff.1 h)]
         exact h
        |succ l=>rw[dh] at h;rw[bZ,dh];exact ih _ h
      exact this S k hg
     rw[hne] at ho;cases ho
    ·rw[hg] at h;cases h
   |some y=>
    obtain⟨h,hh,_⟩:=hS.obj k y hg
    exact⟨h,hh,trivial⟩
  ·obtain⟨h,hh,hr⟩:=hS.obj k' o ho'
   exact⟨h,hh,hr.mono hn ((BA S β k).drop k'.1) fun b _=>⟨rfl,rfl⟩⟩
 ·rcases vS e1 with⟨_,rfl⟩|e1'
  ·cases e3
  ·rcases vS e4 with⟨_,rfl⟩|e4'
   ·cases e6
   ·exact hS.apart k1 k2 o1 o2 h1 h2 b e1' e2 e3 e4' e5 e6
 ·obtain⟨yF,h1,h2⟩:=PU _ S k l fr hl
  obtain⟨gr,h3,h4⟩:=hS.shape.2 l yF h1
  exact⟨gr,h3,by omega⟩
def Less(r r':V):Prop:=∀w σ S β v,dD w σ S β r v→dD w σ S β r' v
theorem Less.refl(r:V):Less r r:=fun _ _ _ _ _ h=>h
theorem dF.kill{f:FuncId}{args:List V}{post post':V→Store→Prop}(k:Key)(h:dF P f args S post)(hp:∀r S',post r S'→∃r',Less r r'∧(post' r' S'∨post' r' (bZ S' k .dead))):dF P f args S post':=by
 refine⟨h.1,fun w σ β vs hS hv=>(h.2 w σ β vs hS hv).mono fun e w' ⟨v,r,S',σ',β',h1,h2,h3,h4,h5,h6⟩=> ?_⟩
 obtain⟨r',hl,hp|hp⟩:=hp r S' h6
 ·exact⟨v,r',S',σ',β',h1,h2,h3,h4,hl _ _ _ _ _ h5,hp⟩
 ·have hkeep:=BA S' β' k
  refine⟨v,r',bZ S' k .dead,σ',β',h1,Xk k h2,h3.trans hkeep,⟨h4.size,h4.os,h4.output,h4.far,h4.near,fun b hb=> ?_⟩,hl _ _ _ _ _ (h5.mono (Grow.refl h2.live).near hkeep),hp⟩
  obtain⟨k',o,hv,e1,e2,e3⟩:=hb
  rcases vS e1 with⟨_,rfl⟩|e1'
  ·cases e3
  ·exact h4.own b ⟨k',o,hv,e1',e2,e3⟩
theorem nU{x y:Obj}:∀(S:Store) (k:Key),bZ (bZ S k x) k y=bZ S k y
 |[],k=>rfl
 |fr::S,(0,j)=>by rw[bZ,bZ,bZ];simp
 |fr::S,(l+1,j)=>by rw[bZ,bZ,bZ,nU S]
theorem yI{x:Obj}:∀(S:Store) (k:Key),bK S k=some x→bZ S k x=S
 |[],k,_=>rfl
 |fr::S,(0,j),h=>by
  rw[bP] at h
  rw[bZ]
  congr 1
  exact List.ext_getElem? fun i=>by
   rw[List.getElem?_set]
   split
   ·rename_i e;subst e
    obtain⟨h1,h2⟩:=List.getElem?_eq_some_iff.1 h
    simp[h1,h2]
   ·rfl
 |fr::S,(l+1,j),h=>by rw[dh] at h;rw[bZ,yI S _ h]
def rO:List Bool→List V→List V
 |true::m,v::vs=>v::rO m vs
 |false::m,v::vs=>v.oF::rO m vs
 |[],vs=>vs.map V.oF
 |_,[]=>[]
theorem Ef:∀(m:List Bool) (vs:List V),vs.length=(rO m vs).length
 |true::m,v::vs=>by rw[rO,List.length_cons,List.length_cons,Ef m vs]
 |false::m,v::vs=>by rw[rO,List.length_cons,List.length_cons,Ef m vs]
 |[],vs=>by simp[rO]
 |true::m,[]=>rfl
 |false::m,[]=>rfl
theorem Ib:∀(m:List Bool) (vs:List V) (j:Nat) (x y:V),vs[j]? =some x→(rO m vs)[j]? =some y→y=x∨y=x.oF
 |true::m,v::vs,0,x,y,h1,h2=>by rw[rO] at h2;cases h1;cases h2;exact .inl rfl
 |false::m,v::vs,0,x,y,h1,h2=>by rw[rO] at h2;cases h1;cases h2;exact .inr rfl
 |true::m,v::vs,j+1,x,y,h1,h2=>by rw[rO] at h2;exact Ib m vs j x y h1 h2
 |false::m,v::vs,j+1,x,y,h1,h2=>by rw[rO] at h2;exact Ib m vs j x y h1 h2
 |[],vs,j,x,y,h1,h2=>by rw[rO,List.getElem?_map,h1] at h2;cases h2;exact .inr rfl
 |true::m,[],j,x,y,h1,h2=>by simp at h1
 |false::m,[],j,x,y,h1,h2=>by simp at h1
theorem dF.rO(m:List Bool){f:FuncId}{args:List V}{post:V→Store→Prop}(h:dF P f (Go.Ab.rO m args) S post):dF P f args S post:=
 h.weaken (Ef m args) fun j x y hx hy w σ β v hr=>by
  rcases Ib m args j x y hx hy with e|e
  ·rw[e];exact hr
  ·rw[e];exact LU hr
theorem kN(m:List Bool){dr:Option Nat}{f:FuncId}{args:List V}{dst:Option Nat}{K:St→Prop}{r:V}{S1:Store}(hm:Yz dr=true)(h:dF P f (rO m args) s.st (fun r' S'=>r'=r∧S'=S1))(hK:K (St.put ⟨s.tm,S1⟩ dst r)):dW P dr f args s dst K:=
 dR hm (h.rO m) hK
end
theorem aD.less{P:Program}{f:FuncId}{args:List V}{r r':V}(h:aD P f args r)(hl:Less r r'):aD P f args r':=
 fun S=>(h S).kill (0,0) fun r1 S' e=>⟨r',by rw[e.1];exact hl,.inl ⟨rfl,e.2⟩⟩
end Go.Ab
namespace Go.Ab
section
variable {P:Program} {S:Store}
def iF(n:Nat)(caps:List (Key×Nat)):List (Key×Nat):=caps.map fun y=>(wG n y.1,y.2)
theorem Ru{n:Nat}:iF n []=[]:=rfl
theorem Oz{n l j off:Nat}{caps:List (Key×Nat)}:iF n (((l,j),off)::caps)=((n+l,j),off)::iF n caps:=rfl
theorem Ju{m n:Nat}{caps:List (Key×Nat)}:iF m (iF n caps)=iF (m+n) caps:=by
 unfold iF
 rw[List.map_map]
 refine List.map_congr_left fun y _=> ?_
 simp only[Function.comp,wG,Prod.mk.injEq,and_true]
 omega
theorem OA{n m g:Nat}{caps:List (Key×Nat)}:C.refs n (.fn g (iF (m+1) caps))=true:=by
 simp only[C.refs,iF,List.all_map,List.all_eq_true]
 intro x _
 have h:0<m+1+x.1.1:=by omega
 simp[Function.comp,iV,wG,h]
theorem Mt{n:Nat}{caps:List (Key×Nat)}:((iF 1 caps).all fun x=>iV n x.fst)=true:=OA (m:=0) (g:=0)
theorem Mv:∀(F S:Store) (l j:Nat),bK (F++S) (F.length+l,j)=bK S (l,j)
 |[],S,l,j=>by simp
 |fr::F,S,l,j=>by
  rw[List.cons_append,List.length_cons,show F.length+1+l=(F.length+l)+1 from by omega,dh,Mv F S l j]
theorem Mw(x:Obj):∀(F S:Store) (l j:Nat),bZ (F++S) (F.length+l,j) x=F++bZ S (l,j) x
 |[],S,l,j=>by simp
 |fr::F,S,l,j=>by
  rw[List.cons_append,List.length_cons,show F.length+1+l=(F.length+l)+1 from by omega,bZ,Mw x F S l j,List.cons_append]
theorem Ux{F S:Store}{j:Nat}:bK (F++S) (F.length,j)=bK S (0,j):=Mv F S 0 j
theorem Uy{F S:Store}{j:Nat}{x:Obj}:bZ (F++S) (F.length,j) x=F++bZ S (0,j) x:=Mw x F S 0 j
attribute [go_sem] Ux Uy Ru Oz
def lT(P:Program)(g:Nat)(caps:List (Key×Nat))(S:Store)(xs:List V)(r:V):Prop:=
 ∀F:Store,dF P g (xs++xQ (iF F.length caps)) (F++S) (fun r' S'=>r'=r∧S'=F++S)
theorem lT.push{g:Nat}{caps:List (Key×Nat)}{xs:List V}{r:V}(h:lT P g caps S xs r)(fr:List Obj):lT P g (iF 1 caps) (fr::S) xs r:=fun F=>by
 have:=h (F++[fr])
 rw[Ju]
 simpa using this
theorem lT.Ic{g:Nat}{xs:List V}{r:V}(h:aD P g xs r):lT P g [] S xs r:=fun F=>by
 have:=h (F++S)
 simpa [iF,xQ] using this
def Ai(P:Program)(g:Nat)(caps:List (Key×Nat)){α X:Type}(st:α→Store)(I:Nat→α→Prop)(f:α→X→α)(xv:X→V)(ok:X→Prop):Prop:=
 ∀n a u,I (n+1) a→ok u→I n (f a u)∧∀F:Store,dF P g (xv u::xQ (iF F.length caps)) (F++st a) (fun r' S'=>r'=.iB []∧S'=F++st (f a u))
theorem Ai.push{g:Nat}{caps:List (Key×Nat)}{α X:Type}{st:α→Store}{I:Nat→α→Prop}{f:α→X→α}{xv:X→V}{ok:X→Prop}(h:Ai P g caps st I f xv ok)(fr:List Obj):
 Ai P g (iF 1 caps) (fun a=>fr::st a) I f xv ok:=fun n a u ha hu=>⟨(h n a u ha hu).1,fun F=>by
 have:=(h n a u ha hu).2 (F++[fr])
 rw[Ju]
 simpa using this⟩
theorem nV{N:Nat}{c:Code}{Q:Exit→St→Prop}{tm:List (Nat×V)}{own:List Obj}{Ω:Store}(j i bn:Nat)(es:List (List D))(cs:List C)(hj:own[j]? =some (.box cs))(hi:cs[i]? =some (.bC es))(hes:∀e∈es,e.length=bn)
 (h:AW P N c Q ⟨tm,(own.set j (.box (cs.set i (.bH (0,own.length) es)))++[.tok bn es])::Ω⟩):AW P N c Q ⟨tm,own::Ω⟩:=by
 refine oo h fun a w σ β hR=> ?_
 obtain⟨bo,bΩ,rfl,hlen⟩:=frames hR
 have hjl:=(List.getElem?_eq_some_iff.1 hj).1
 have hg0:bK (own::Ω) (0,j)=some (.box cs):=by rw[bP];exact hj
 obtain⟨hb,Yp,hr⟩:=hR.S.obj (0,j) _ hg0
 obtain⟨b,cv,ty,rfl,hbc,hσ,hcs⟩:=hr
 have hcs:gu w σ (own::Ω) (bo::bΩ) cs cv.toList:=hcs
 obtain⟨v,hv,⟨hd,ad,n,hval⟩,hone⟩:=hcs.2 i _ hi
 have hn:n=es.length:=by rw[hval] at hd;cases hd<;>rfl
 have hg:Grow w σ w σ:=Grow.refl hR.S.live
 obtain⟨hS',hk,hst⟩:=hR.S.push (o:=.tok bn es) (h:=v) hg hlen ⟨hd,hes,ad,n,by rw[hval,hn],by omega,.inl hn⟩ (fun b hb=>by
  rw[hval,hn] at hb
  cases ad<;>simp[owns,blk] at hb)
 have hk1:bK ((own++[.tok bn es])::Ω) (0,j)=some (.box cs):=lW _ _ _ _ _ hg0
 have Uz:bK ((bo++[v])::bΩ) (0,j)=some (.pointer (some ⟨b,0,none⟩)):=lW _ _ _ _ _ Yp
 have hko:lC (.box cs) (some (Value.pointer (some ⟨b,0,none⟩))) (.box (cs.set i (.bH (0,own.length) es))) (some (Value.pointer (some ⟨b,0,none⟩))):=.inr ⟨⟨_,rfl⟩,rfl⟩
 have hK:Keep ((own++[.tok bn es])::Ω) ((bo++[v])::bΩ) (bZ ((own++[.tok bn es])::Ω) (0,j) (.box (cs.set i (.bH (0,own.length) es)))) (bZ ((bo++[v])::bΩ) (0,j) (.pointer (some ⟨b,0,none⟩))):=by
  intro k1 o1 e1
  by_cases e:k1=(0,j)
  ·subst e
   rw[hk1] at e1;cases e1
   exact⟨_,fV _ _ _ _ hk1,by rw[Uz,fV _ _ _ _ Uz];exact hko⟩
  ·exact⟨o1,(fZ _ _ _ _ (Ne.symm e)).trans e1,by rw[fZ _ _ _ _ (Ne.symm e)];exact .refl _ _⟩
 have hne:(0,own.length)≠(0,j):=fun e=>by injection e with _ e;omega
 obtain⟨hS2,hk2,LP⟩:=hS'.set (w':=w) (σ':=σ) (o':=.box (cs.set i (.bH (0,own.length) es))) (h':=.pointer (some ⟨b,0,none⟩)) hk1 Uz (Nat.le_refl _) rfl rfl (fF.refl _ _) hS'.live (fun _ _ _=>⟨rfl,rfl⟩) hko
  ⟨b,cv,ty,rfl,hbc,hσ,by
    refine⟨by rw[List.length_set];exact hcs.1,fun m x hm=> ?_⟩
    rw[List.getElem?_set] at hm
    by_cases e:i=m
    ·subst e
     rw[if_pos rfl] at hm
     split at hm
     ·cases hm
      refine⟨v,hv,⟨hd,.tok bn es,?_,fun a1 b1 e1=> ?_⟩,hone⟩
      ·show bK (bZ _ (0,j) _) (0,own.length)=_
       rw[fZ _ _ _ _ (Ne.symm hne),dx]
      ·obtain⟨_,rfl⟩:=mO (lab:=none) e1
       refine⟨Nat.le_refl _,fun _=> ?_⟩
       show bK (bZ _ (0,j) _) (0,own.length)=_
       rw[fZ _ _ _ _ (Ne.symm hne),←hlen,dx]
     ·cases hm
    ·rw[if_neg e] at hm
     obtain⟨u,hu,hc,ho⟩:=hcs.2 m x hm
     exact⟨u,hu,(hc.mono (fF.refl _ _) hk).mono (fF.refl _ _) hK,ho⟩⟩ (fun _ e=>.inl e)
 have est:bZ ((own++[.tok bn es])::Ω) (0,j) (.box (cs.set i (.bH (0,own.length) es)))=(own.set j (.box (cs.set i (.bH (0,own.length) es)))++[.tok bn es])::Ω:=by
  rw[bZ,List.set_append_left _ _ hjl]
 rw[est] at hS2 hk2 LP
 exact⟨σ,_,⟨hR.size,hR.defers,hS2,fun u=>((hR.T u).mono (fF.refl _ _) hk).mono (fF.refl _ _) hk2⟩,hst.trans LP,by
  have:=hk.trans hk2
  exact this.tail⟩
end
end Go.Ab
namespace Go.Ab
inductive D.Fit:D→Prop
 |b (x):Fit (.b x)
 |i (k n):Fit (.i k n)
 |s (l) (h:l.length≤9223372036854775807):Fit (.s l)
 |sl (es) (h:es.length≤9223372036854775807) (hh:∀e∈es,∀d∈e,Fit d):Fit (.sl es)
 |o (v):Fit (.o v)
def kP(cs:List D):Prop:=∀d∈cs,d.Fit
theorem pJ{l:List UInt8}(h:(D.s l).Fit):l.length≤9223372036854775807:=by cases h with|s _ h=>exact h
theorem oM{es:List (List D)}(h:(D.sl es).Fit):es.length≤9223372036854775807∧∀e∈es,kP e:=by
 cases h with
 |sl _ h hh=>exact⟨h,hh⟩
theorem uV:kP []:=fun d h=>by cases h
theorem iG:kP []↔True:=⟨fun _=>trivial,fun _=>uV⟩
theorem iM{d:D}{ds:List D}:kP (d::ds)↔d.Fit∧kP ds:=by simp[kP]
theorem iK{a b:List D}:kP (a++b)↔kP a∧kP b:=by
 simp only[kP,List.mem_append]
 exact⟨fun h=>⟨fun d hd=>h d (.inl hd),fun d hd=>h d (.inr hd)⟩,fun h d hd=>hd.elim (h.1 d) (h.2 d)⟩
def uJ(P:Program)(W:TypeId→List D→Prop):List Field→List D→Prop
 |[],ds=>ds=[]
 |f::fs,ds=>∃a b,ds=a++b∧a.length=P.cellsOf f.type∧W f.type a∧uJ P W fs b
def WT(P:Program):Nat→TypeId→List D→Prop
 |0,_,_=>False
 |n+1,t,ds=>
  match P.underlying t with
  |some .bool=>∃b,ds=[.b b]
  |some (.int k)=>∃x,ds=[.i k x]∧(Lit.int k x).wf=true
  |some .string=>∃l,ds=[.s l]∧l.length≤9223372036854775807
  |some (.slice e)=>∃es,ds=[.sl es]∧es.length≤9223372036854775807∧∀x∈es,x.length=P.cellsOf e∧WT P n e x
  |some (.struct fs)=>uJ P (WT P n) fs.toList ds
  |_=>False
def wT(P:Program):List Field→Nat→Nat→Bool
 |[],a,b=>a==b
 |f::fs,a,b=>f.offset==a&&wT P fs (a+P.cellsOf f.type) b
def Ie(P:Program)(L:List TypeId):Bool:=
 L.all fun t=>match P.underlying t with
  |some .bool|some (.int _)|some .string=>P.cellsOf t==1
  |some (.slice e)=>P.cellsOf t==1&&L.contains e&&decide (0<P.cellsOf e)
  |some (.struct fs)=>wT P fs.toList 0 (P.cellsOf t)&&fs.toList.all fun f=>L.contains f.type
  |_=>false
def jR(w:World)(b:Nat):Nat:=match w.heap[b]? with
 |some (.cells c _ _)=>c.size
 |_=>0
def qD(w:World)(ds:List D)(vs:List Value):Prop:=ds.length=vs.length∧∀(j:Nat) (d:D),ds[j]? =some d→∃v,vs[j]? =some v∧dL w (jR w) d v∧v.oneCell'=true
theorem qD.append{w:World}{a b:List D}{xs ys:List Value}(h1:qD w a xs)(h2:qD w b ys):qD w (a++b) (xs++ys):=by
 refine⟨by simp[h1.1,h2.1],fun j d hj=> ?_⟩
 rw[List.getElem?_append] at hj ⊢
 have:=h1.1
 split at hj
 ·rw[if_pos (by omega)];exact h1.2 j d hj
 ·rw[if_neg (by omega),←h1.1];exact h2.2 _ d hj
theorem qD.one{w:World}{d:D}{v:Value}(h:dL w (jR w) d v)(h1:v.oneCell'=true):qD w [d] [v]:=by
 refine⟨rfl,fun j x hj=> ?_⟩
 cases j with
 |zero=>cases hj;exact⟨v,rfl,h,h1⟩
 |succ j=>simp at hj
theorem Mx{α β:Type}(f:α→Option β):∀(l:List α) (ys:List β),l.mapM f=some ys→ys.length=l.length∧∀(j:Nat) (x:α),l[j]? =some x→∃y,f x=some y∧ys[j]? =some y
 |[],ys,h=>by
  simp at h;subst h
  exact⟨rfl,fun j x hj=>by simp at hj⟩
 |a::l,ys,h=>by
  rw[List.mapM_cons] at h
  cases ha:f a with
  |none=>rw[ha] at h;cases h
  |some y=>
   cases hl:l.mapM f with
   |none=>rw[ha,hl] at h;cases h
   |some zs=>
    rw[ha,hl] at h
    cases h
    obtain⟨h1,h2⟩:=Mx f l zs hl
    refine⟨by simp[h1],fun j x hj=> ?_⟩
    cases j with
    |zero=>cases hj;exact⟨y,ha,rfl⟩
    |succ j=>exact h2 j x hj
section
variable {H:Type} {enc:TypeId×Value→H} {P:Program} {w:World} {L:List TypeId}
theorem Aj{a:Addr}{n:Nat}{vs:List Value}(hn:0<n)(h:w.cells? 0 a n=some vs):a.spot=none∧vs.length=n∧∃c t fz,w.heap[a.block]? =some (.cells c t fz)∧∀j,j<n→∃v,vs[j]? =some v∧c[a.off+j]? =some v:=by
 unfold World.cells? at h
 rw[if_pos (Nat.zero_le _)] at h
 obtain⟨h1,h2⟩:=Mx _ _ _ h
 rw[List.length_range] at h1
 obtain⟨v0,hv0,_⟩:=h2 0 0 (by simp[hn])
 have KQ:a.add 0=a:=by simp[Addr.add]
 rw[KQ] at hv0
 unfold World.cell? at hv0
 cases hb:w.heap[a.block]? with
 |none=>rw[hb] at hv0;cases hv0
 |some ob=>
  rw[hb] at hv0
  cases ob with
  |map _ _=>cases hv0
  |cells c t fz=>
   have hs:a.spot=none:=by
    cases hsp:a.spot with
    |none=>rfl
    |some x=>rw[hsp] at hv0;simp at hv0
   refine⟨hs,h1,c,t,fz,rfl,fun j hj=> ?_⟩
   obtain⟨v,hv,hvs⟩:=h2 j j (by simp[hj])
   refine⟨v,hvs,?_⟩
   unfold World.cell? at hv
   by_cases hj0:j=0
   ·subst hj0
    rw[KQ,hb] at hv
    simp[hs] at hv
    simpa using hv
   ·simp[Addr.add,hj0,hb] at hv
    exact hv
  |_=>cases hv0
theorem DC{α:Type}{p:Nat→α→Prop}:∀n:Nat,(∀i,i<n→∃x,p i x)→∃l:List α,l.length=n∧∀(i:Nat) (x:α),l[i]? =some x→p i x
 |0,_=>⟨[],rfl,fun i x h=>by simp at h⟩
 |n+1,h=>by
  obtain⟨l,hl,hp⟩:=DC n fun i hi=>h i (by omega)
  obtain⟨x,hx⟩:=h n (by omega)
  refine⟨l++[x],by simp[hl],fun i y hy=> ?_⟩
  rw[List.getElem?_append] at hy
  split at hy
  ·exact hp i y hy
  ·rename_i hlt
   have hi:i-l.length<1:=by
    have:=(List.getElem?_eq_some_iff.1 hy).1
    simpa using this
   have:i=n:=by omega
   subst this
   rw[show i-l.length=0 from by omega] at hy
   cases hy
   exact hx
theorem UA(hc:Ie P L=true){t:TypeId}(ht:t∈L):(match P.underlying t with
 |some .bool|some (.int _)|some .string=>P.cellsOf t==1
 |some (.slice e)=>P.cellsOf t==1&&L.contains e&&decide (0<P.cellsOf e)
 |some (.struct fs)=>wT P fs.toList 0 (P.cellsOf t)&&fs.toList.all fun f=>L.contains f.type
 |_=>false)=true:=List.all_eq_true.1 hc t ht
theorem OB{n:Nat}{fs:List Field}{cs:List Value}:∀(off:Nat),off≤cs.length→wT P fs off cs.length=true→
 (∀f∈fs,∃ds,WT P n f.type ds∧qD w ds ((cs.drop f.offset).take (P.cellsOf f.type)))→∃ds,uJ P (WT P n) fs ds∧qD w ds (cs.drop off):=by
 induction fs with
 |nil=>
  intro off _ ht _
  have:off=cs.length:=by simpa [wT] using ht
  exact⟨[],rfl,by simp[this,qD]⟩
 |cons f fs ih=>
  intro off ho ht h
  simp only[wT,Bool.and_eq_true,beq_iff_eq] at ht
  obtain⟨a,ha1,ha2⟩:=h f (by simp)
  have hle:∀(fs:List Field) (o:Nat),wT P fs o cs.length=true→o≤cs.length:=by
   intro fs
   induction fs with
   |nil=>intro o h;have:o=cs.length:=by simpa [wT] using h
         omega
   |cons g gs ih=>intro o h;simp only[wT,Bool.and_eq_true] at h;have:=ih _ h.2;omega
  have hle':=hle fs _ ht.2
  obtain⟨b,hb1,hb2⟩:=ih (off+P.cellsOf f.type) hle' ht.2 fun g hg=>h g (by simp[hg])
  rw[ht.1] at ha2
  refine⟨a++b,⟨a,b,rfl,?_,ha1,hb1⟩,?_⟩
  ·rw[ha2.1];simp;omega
  ·have:=ha2.append hb2
   rw[←List.drop_drop,List.take_append_drop] at this
   exact this
theorem BD(hc:Ie P L=true){sp:Nat→Bool}{held:Bool}:∀(fuel:Nat) (t:TypeId) (cs:List Value) (x:DataW H×List MemPlace),t∈L→
 DataW.trod enc P w 0 sp held fuel t cs=some x→∃ds,WT P fuel t ds∧qD w ds cs
 |0,t,cs,x,_,h=>by simp[DataW.trod] at h
 |n+1,t,cs,x,ht,h=>by
  have hcl:=UA hc ht
  cases hu:P.underlying t with
  |none=>rw[hu] at hcl;cases hcl
  |some u=>
   rw[hu] at hcl
   cases u with
   |bool=>
    obtain⟨b,rfl,_⟩:=DataW.trod_bool hu h
    exact⟨[.b b],by simp only[WT,hu];exact⟨b,rfl⟩,qD.one (.b b) rfl⟩
   |int k=>
    obtain⟨m,rfl,_,hw⟩:=DataW.trod_int hu h
    exact⟨[.i k m],by simp only[WT,hu];exact⟨m,rfl,hw⟩,qD.one (.i k m) rfl⟩
   |string=>
    obtain⟨s,rfl,_,hs⟩:=DataW.trod_string hu h
    have hl:s.data.toList.length≤9223372036854775807:=by
     have h1:s.data.toList.length=s.size:=by rw[Array.length_toList];rfl
     rw[h1];exact hs
    refine⟨[.s s.data.toList],?_,qD.one ?_ rfl⟩
    ·simp only[WT,hu];exact⟨_,rfl,hl⟩
    ·exact .s s.data.toList
   |slice e=>
    simp only[Bool.and_eq_true,beq_iff_eq,decide_eq_true_eq,List.contains_iff_mem] at hcl
    obtain⟨⟨h1,he⟩,hpos⟩:=hcl
    rcases DataW.trod_slice hu h with⟨rfl,_⟩|⟨a,len,cap,elems,rest,m,hm,rfl,_,_,hlc,hcm,hel,hget,_,_⟩
    ·exact⟨[.sl []],by simp only[WT,hu];exact⟨[],rfl,by simp,fun x hx=>by cases hx⟩,qD.one (.nil _ _) rfl⟩
    ·cases hm
     have hall:∀i,i<len→∃ds:List D,ds.length=P.cellsOf e∧WT P n e ds∧∃vs,w.cells? 0 (a.add (i*P.cellsOf e)) (P.cellsOf e)=some vs∧qD w ds vs:=by
      intro i hi
      have hg:=hget i hi
      cases hcs:w.cells? 0 (a.add (i*P.cellsOf e)) (P.cellsOf e) with
      |none=>
       rw[hcs] at hg
       have:i<elems.length:=by omega
       rw[List.getElem?_eq_getElem this] at hg
       cases hg
      |some vs=>
       rw[hcs] at hg
       have hlt:i<elems.length:=by omega
       rw[List.getElem?_eq_getElem hlt] at hg
       obtain⟨ds,hd1,hd2⟩:=BD hc n e vs _ he hg
       have hv:=(Aj hpos hcs).2.1
       exact⟨ds,by rw[hd2.1,hv],hd1,vs,rfl,hd2⟩
     obtain⟨es,hes,hp⟩:=DC len hall
     have hwt:WT P (n+1) t [.sl es]:=by
      simp only[WT,hu]
      refine⟨es,rfl,by have:cap≤9223372036854775807:=hcm
                       omega,fun x hx=> ?_⟩
      obtain⟨i,hi⟩:=List.getElem?_of_mem hx
      exact⟨(hp i x hi).1,(hp i x hi).2.1⟩
     refine⟨[.sl es],hwt,?_⟩
     cases D9:es with
     |nil=>
      have h0:len=0:=by rw[←hes,D9];rfl
      subst h0
      exact qD.one (.nil _ _) rfl
     |cons e0 es0=>
      have ace:0<len:=by rw[←hes,D9];simp
      have hlen:∀x∈es,x.length=P.cellsOf e:=fun x hx=>by
       obtain⟨i,hi⟩:=List.getElem?_of_mem hx
       exact(hp i x hi).1
      obtain⟨ds0,_,_,vs0,aaS,_⟩:=hall 0 ace
      have KQ:a.add (0*P.cellsOf e)=a:=by simp[Addr.add]
      rw[KQ] at aaS
      obtain⟨hsp,_,c,tt,fz,hblk,_⟩:=Aj hpos aaS
      have hcell:∀i r,i<len→r<P.cellsOf e→∃(x:List D) (v:Value) (d:D),es[i]? =some x∧x[r]? =some d∧c[a.off+(i*P.cellsOf e+r)]? =some v∧dL w (jR w) d v:=by
       intro i r hi hr
       have hlt:i<es.length:=by omega
       obtain⟨hx1,hx2,vs,hvs,hrep⟩:=hp i es[i] (List.getElem?_eq_getElem hlt)
       obtain⟨_,hvl,c',t',Lm,hblk',hcc⟩:=Aj hpos hvs
       have hb':(a.add (i*P.cellsOf e)).block=a.block:=by unfold Addr.add;split<;>rfl
       have ho':(a.add (i*P.cellsOf e)).off=a.off+i*P.cellsOf e:=by unfold Addr.add;split<;>simp_all
       rw[hb',hblk] at hblk'
       cases hblk'
       obtain⟨v,hv1,hv2⟩:=hcc r hr
       have hdr:r<es[i].length:=by omega
       obtain⟨v',hv',hd',_⟩:=hrep.2 r es[i][r] (List.getElem?_eq_getElem hdr)
       rw[hv1] at hv';cases hv'
       refine⟨es[i],v,es[i][r],List.getElem?_eq_getElem hlt,List.getElem?_eq_getElem hdr,?_,hd'⟩
       rw[ho'] at hv2
       rw[←Nat.add_assoc];exact hv2
      have hbound:a.off+len*P.cellsOf e≤c.size:=by
       obtain⟨_,v,_,_,_,hv,_⟩:=hcell (len-1) (P.cellsOf e-1) (by omega) (by omega)
       have:=(Array.getElem?_eq_some_iff.1 hv).1
       have e1:(len-1)*P.cellsOf e+P.cellsOf e=len*P.cellsOf e:=by
        rw[←Nat.succ_mul];congr 1;omega
       omega
      have key:dL w (jR w) (.sl es) (.slice (some ⟨a.block,a.off,none⟩) es.length cap):=by
       refine .sl a.block a.off cap (P.cellsOf e) es (fun j=>(c[a.off+j]?).getD undef) c tt fz (by omega) hlen hblk ?_ (fun j hj=> ?_) (fun j d hj=> ?_)
       ·unfold jR;rw[hblk,hes];exact hbound
       ·have:a.off+j<c.size:=by rw[hes] at hj;omega
        rw[Array.getElem?_eq_getElem this];rfl
       ·have hfl:es.flatten.length=es.length*P.cellsOf e:=kL es _ hlen
        have hjl:j<es.length*P.cellsOf e:=by rw[←hfl];exact(List.getElem?_eq_some_iff.1 hj).1
        have hi:j/P.cellsOf e<len:=by rw[←hes];exact(Nat.div_lt_iff_lt_mul hpos).2 hjl
        obtain⟨x,v,d',hx,hd',hv,hr⟩:=hcell (j/P.cellsOf e) (j % P.cellsOf e) hi (Nat.mod_lt _ hpos)
        have hlt':j/P.cellsOf e<es.length:=by omega
        have hfg:=flat_get es (P.cellsOf e) hlen (j/P.cellsOf e) (j % P.cellsOf e) hlt' (Nat.mod_lt _ hpos)
        have hj':j/P.cellsOf e*P.cellsOf e+j % P.cellsOf e=j:=by rw[Nat.mul_comm];exact Nat.div_add_mod j _
        rw[hj',hj] at hfg
        rw[List.getElem?_eq_getElem hlt'] at hx
        cases hx
        rw[hd'] at hfg
        cases hfg
        rw[hj'] at hv
        rw[hv]
        exact hr
      rw[←D9]
      refine qD.one ?_ rfl
      have ha:a=⟨a.block,a.off,none⟩:=by cases a;simp at hsp;simp[hsp]
      rw[ha,←hes]
      exact key
   |struct fs=>
    simp only[Bool.and_eq_true] at hcl
    obtain⟨htl,hfs⟩:=hcl
    obtain⟨xs,m,hm,rfl,hlen,hxs,ad4⟩:=DataW.trod_struct hu h
    cases hm
    rw[←hlen] at htl
    obtain⟨ds,h1,h2⟩:=OB (w:=w) (n:=n) (cs:=cs) 0 (Nat.zero_le _) htl fun f hf=>by
     obtain⟨i,hi⟩:=List.getElem?_of_mem hf
     have hi':fs[i]? =some f:=by simpa using hi
     have hg:=ad4 i f hi'
     have hlt:i<xs.length:=by
      rw[hxs];exact(Array.getElem?_eq_some_iff.1 hi').1
     rw[List.getElem?_eq_getElem hlt] at hg
     have hfL:f.type∈L:=by
      have:=List.all_eq_true.1 hfs f hf
      simpa using this
     exact BD hc n f.type _ _ hfL hg
    refine⟨ds,by simp only[WT,hu];exact h1,?_⟩
    rw[List.drop_zero] at h2
    exact h2
   |_=>cases hcl
end
end Go.Ab
namespace Go.Ab
open Go.ChangeShapes Go.WideShapes Go.ChangeAt Go.RowKit
section
variable {H:Type} {enc:TypeId×Value→H} {P:Program} {W W':World} {L:List TypeId} {t:TypeId} {v:Value} {base:Nat}
theorem Rv{fs:Array Field}{ds:List D}(ht:P.underlying t=some (.struct fs))(hok:Value.okWide P W .any base t v)(hL:qD W ds v.cells.toList):dD W (jR W) [] [] (.agg (ds.map .d)) v:=by
 obtain⟨cs,rfl,_⟩:=okWide_struct ht hok
 refine⟨cs,rfl,by rw[List.length_map,hL.1];rfl,fun j x hj=> ?_⟩
 rw[List.getElem?_map] at hj
 cases hd:ds[j]? with
 |none=>rw[hd] at hj;cases hj
 |some d=>
  rw[hd] at hj
  cases hj
  obtain⟨u,h1,h2,h3⟩:=hL.2 j d hd
  exact⟨u,h1,h2,h3⟩
theorem UC:nK W (jR W) [] [] [] []:=⟨rfl,fun j x h=>by simp at h⟩
theorem Rw{x:V}{xs:List V}{vs:List Value}(h1:dD W (jR W) [] [] x v)(h2:nK W (jR W) [] [] xs vs):nK W (jR W) [] [] (x::xs) (v::vs):=by
 refine⟨by simp[h2.1],fun j y hj=> ?_⟩
 cases j with
 |zero=>cases hj;exact⟨v,rfl,h1⟩
 |succ j=>exact h2.2 j y hj
theorem Xl(W:World)(hg:rZ W (jR W)):eD W (jR W) [] [] where
 rJ:=hg
 obj:=fun k o h=>by rw[mM] at h;cases h
 apart:=fun k k' o o' h h' b h1=>by rw[mM] at h1;cases h1
 shape:=⟨rfl,fun l fr h=>by simp at h⟩
 live:=fun b=>by
  by_cases h:b<W.heap.size
  ·exact .inl h
  ·right
   unfold jR
   rw[Array.getElem?_eq_none (by omega)]
theorem aaT{b:Nat}:¬Own [] [] b:=fun⟨k,o,h,h1,_⟩=>by rw[mM] at h1;cases h1
theorem A9(hl:laidOutB P=true)(hsame:∀b,b<W.heap.size→W'.heap[b]? =W.heap[b]?)(sp:Nat→Bool):∀(ts:List TypeId) (vs:List Value) (ds:List (DataW H)) (ps:List MemPlace),
 (ts.all fun t=>P.readableRec t&&decide (t<P.types.size))=true→(∀p∈ps,p.block<W.heap.size∧sp p.block=true)→
   DataW.TrodAll enc P W 0 (fun _=>true) true ts vs ds ps→DataW.TrodAll enc P W' 0 sp true ts vs ds ps
 |[],[],[],ps,_,_,h=>h
 |t::ts,v::vs,d::ds,ps,hr,hlt,h=>by
  simp only[List.all_cons,Bool.and_eq_true,decide_eq_true_eq] at hr
  obtain⟨p,q,h1,h2,rfl⟩:=h
  refine⟨p,q,WideElems.Trod_stays hl hr.1.1 hr.1.2 h1 (fun x hx=> ?_) (fun x hx=>(hlt x (by simp[hx])).2),A9 hl hsame sp ts vs ds q hr.2 (fun x hx=>hlt x (by simp[hx])) h2,rfl⟩
  have hb:=(hlt x (by simp[hx])).1
  cases x with
  |cell b o=>exact World.cell?_of_block (w:=W) (hsame b hb)
  |map b=>exact hsame b hb
 |[],[],_::_,ps,_,_,h=>h.elim
 |[],_::_,_,ps,_,_,h=>h.elim
 |_::_,[],_,ps,_,_,h=>h.elim
 |_::_,_::_,[],ps,_,_,h=>h.elim
theorem Xm{f:FuncId}{fn:Func}{s:ChangeSpec}{args:Array Value}{ds gs:List (DataW H)}{before:List MemPlace}{vs:List V}{tb:TypeId}(hl:laidOutB P=true)
 (hr:(fn.params.toList.all fun t=>P.readableRec t&&decide (t<P.types.size))=true) (hvars:s.vars=[]) (hres:fn.resultTypes= #[tb]) (htb:P.underlying tb=some .bool)
 (hs1:(s.fn H (ds++gs)).results=[.lit (.bool true)]) (hs2:(s.fn H (ds++gs)).args=ds) (hs3:(s.fn H (ds++gs)).vars=[])
 (hW:DataW.Whole enc P fn.params.toList s.vars false W args.toList ds gs before) (hargs:nK W (jR W) [] [] vs args.toList)
 (hcall:dF P f vs [] fun r _=>r=.c (.d (.b true))) (acf:rZ W (jR W):=by(intro g p hm;exact absurd hm List.not_mem_nil)):
 Calls P f args W fun e W'=>∃v,e=.returned v∧s.post enc P fn false true false false W args v W':=by
 have hc:=hcall.2 W (jR W) [] args.toList (Xl W acf) hargs
 have e1:args.toList.toArray=args:=by simp
 rw[e1] at hc
 refine hc.mono fun e W' ⟨v,r,S',σ',β',he,hS',hk,hst,hv,hp⟩=> ?_
 subst hp
 obtain⟨hv,_⟩:=hv
 cases hv
 refine⟨_,he,?_⟩
 have hsame:∀b,b<W.heap.size→W'.heap[b]? =W.heap[b]? :=fun b hb=>(hst.far b hb aaT).1
 have hlt:=fun p hp=>hW.lt p hp
 have hW0:=hW
 obtain⟨pa,q,hA,hV,rfl,hz,hn⟩:=hW
 rw[hvars] at hV
 have hq:gs=[]∧q=[]:=by
  obtain⟨h1,h2⟩:=trodVars_none hV
  exact⟨h1,h2⟩
 obtain⟨rfl,rfl⟩:=hq
 rw[List.append_nil] at *
 refine⟨ds,[],pa,[],pa,[],?_,?_,?_,?_,?_,fun h=>by cases h⟩
 ·simpa using hW0
 ·rw[List.append_nil,hs1,hres]
  exact trodAll_cons_mk (shut_bool htb _) trodAll_mk0
 ·rw[List.append_nil,hs2]
  exact A9 hl hsame _ _ _ _ _ hr (fun p hp=>⟨hlt p hp,by simpa using hlt p hp⟩) hA
 ·rw[List.append_nil,hs3,hvars]
  rfl
 ·refine⟨hst.os,hst.output,fun i hi=> ?_⟩
  rw[hsame i hi]
  split<;>simp_all
end
end Go.Ab
namespace Go.Ab
structure Hq (p:Prop):Prop where
 out:p
theorem W1{G K:Prop}(k:K)(e:Hq K→G:=by intro k;simp -implicitDefEqProofs (disch:=omega) only[go_sem];exact k.out):G:=e ⟨k⟩
theorem Z1{G:Prop}(e:G:=by simp -implicitDefEqProofs (disch:=omega) only[go_sem];done):G:=e
theorem W3{G K:Prop}(k:K)(e:Hq K→G:=by intro k;(repeat(with_reducible refine And.intro ?_ ?_;focus first|omega|rfl|assumption|exact⟨_,rfl,rfl⟩|(simp;omega)|(simp;done)));exact k.out):G:=e ⟨k⟩
theorem S0{c:Bool}{s:St}{A B:St→Prop}{P Q:Prop}{A':P→Prop}{B':Q→Prop}(k:c=true→(h:P)→A' h)(k2:c=false→(h:Q)→B' h)(e:Hq (c=true→(h:P)→A' h)→c=true→A s:=by intro k hb;have h:=hb;(try simp only[wf_preprocess] at h);simp -implicitDefEqProofs (disch:=omega) only[go_sem,hb]<;>(repeat(with_reducible refine And.intro ?_ ?_;focus first|omega|rfl|assumption|exact⟨_,rfl,rfl⟩|(simp;omega)|(simp;done)));exact k.out hb h)
 (e2:Hq (c=false→(h:Q)→B' h)→c=false→B s:=by intro k hb;have h:=hb;(try simp only[wf_preprocess] at h);simp -implicitDefEqProofs (disch:=omega) only[go_sem,hb]<;>(repeat(with_reducible refine And.intro ?_ ?_;focus first|omega|rfl|assumption|exact⟨_,rfl,rfl⟩|(simp;omega)|(simp;done)));exact k.out hb h):Split c A B s:=eX (e ⟨k⟩) (e2 ⟨k2⟩)
theorem S1{c:Bool}{s:St}{A B:St→Prop}{Q:Prop}{B':Q→Prop}(k2:c=false→(h:Q)→B' h)(e:c=true→A s:=by intro hb;have h:=hb;(try simp only[wf_preprocess] at h);simp -implicitDefEqProofs (disch:=omega) only[go_sem,hb]<;>(repeat(with_reducible refine And.intro ?_ ?_;focus first|omega|rfl|assumption|exact⟨_,rfl,rfl⟩|(simp;omega)|(simp;done)));done)
 (e2:Hq (c=false→(h:Q)→B' h)→c=false→B s:=by intro k hb;have h:=hb;(try simp only[wf_preprocess] at h);simp -implicitDefEqProofs (disch:=omega) only[go_sem,hb]<;>(repeat(with_reducible refine And.intro ?_ ?_;focus first|omega|rfl|assumption|exact⟨_,rfl,rfl⟩|(simp;omega)|(simp;done)));exact k.out hb h):Split c A B s:=eX e (e2 ⟨k2⟩)
theorem S2{c:Bool}{s:St}{A B:St→Prop}{P:Prop}{A':P→Prop}(k:c=true→(h:P)→A' h)(e:Hq (c=true→(h:P)→A' h)→c=true→A s:=by intro k hb;have h:=hb;(try simp only[wf_preprocess] at h);simp -implicitDefEqProofs (disch:=omega) only[go_sem,hb]<;>(repeat(with_reducible refine And.intro ?_ ?_;focus first|omega|rfl|assumption|exact⟨_,rfl,rfl⟩|(simp;omega)|(simp;done)));exact k.out hb h)
 (e2:c=false→B s:=by intro hb;have h:=hb;(try simp only[wf_preprocess] at h);simp -implicitDefEqProofs (disch:=omega) only[go_sem,hb]<;>(repeat(with_reducible refine And.intro ?_ ?_;focus first|omega|rfl|assumption|exact⟨_,rfl,rfl⟩|(simp;omega)|(simp;done)));done):Split c A B s:=eX (e ⟨k⟩) e2
theorem S3{c:Bool}{s:St}{A B:St→Prop}(e:c=true→A s:=by intro hb;have h:=hb;(try simp only[wf_preprocess] at h);simp -implicitDefEqProofs (disch:=omega) only[go_sem,hb]<;>(repeat(with_reducible refine And.intro ?_ ?_;focus first|omega|rfl|assumption|exact⟨_,rfl,rfl⟩|(simp;omega)|(simp;done)));done)(e2:c=false→B s:=by intro hb;have h:=hb;(try simp only[wf_preprocess] at h);simp -implicitDefEqProofs (disch:=omega) only[go_sem,hb]<;>(repeat(with_reducible refine And.intro ?_ ?_;focus first|omega|rfl|assumption|exact⟨_,rfl,rfl⟩|(simp;omega)|(simp;done)));done):Split c A B s:=eX e e2
section
variable {P:Program} {s:St} {dr:Option Nat} {f:FuncId} {args:List V} {dst:Option Nat} {K:St→Prop} {r:V}
theorem C1{Q:Prop}(h:aD P f (args.map V.oF) r)(k:Q)(e:Hq Q→K (s.put dst r):=by intro k;simp -implicitDefEqProofs (disch:=omega) only[go_sem];exact k.out):dW P dr f args s dst K:=bN h (e ⟨k⟩)
theorem C2{Q:Prop}(h:aD P f (args.map V.oF) r)(k:Q)(e:Hq Q→K (s.put dst r):=by intro k;simp -implicitDefEqProofs (disch:=omega) only[go_sem]<;>(repeat(with_reducible refine And.intro ?_ ?_;focus first|omega|rfl|assumption|exact⟨_,rfl,rfl⟩|(simp;omega)|(simp;done)));exact k.out):dW P dr f args s dst K:=bN h (e ⟨k⟩)
theorem C3(h:aD P f (args.map V.oF) r)(e:K (s.put dst r):=by simp -implicitDefEqProofs (disch:=omega) only[go_sem];done):dW P dr f args s dst K:=bN h e
theorem C4(h:aD P f (args.map V.oF) r)(e:K (s.put dst r):=by simp -implicitDefEqProofs (disch:=omega) only[go_sem]<;>(repeat(with_reducible refine And.intro ?_ ?_;focus first|omega|rfl|assumption|exact⟨_,rfl,rfl⟩|(simp;omega)|(simp;done)));done):dW P dr f args s dst K:=bN h e
end
end Go.Ab
