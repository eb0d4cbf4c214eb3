/-
  SEVERAL TEXTS IN ONE (merged by program): contracts and models, each with its own heading.
-/
import Derived.Test.YtokkjobjffhfjaaGreatDoorPartZfbB
import Derived.Carry
import Derived.WideKeyArgs
import Derived.ProofKit
import Derived.OpenShut
import Derived.WalkKit
import Derived.Test.YtokkjobjffhfjaaGreatDoorChecked
import Derived.Eval
import Derived.KernelRfl
import Derived.Lib.FrozenHead2
import Derived.Lib.OthersKept
import Derived.Lib.AppendStr
import Derived.Lib.UnsafeStr
import Derived.Lib.Builder
import Derived.Laws.Externs
import Derived.Deep.LoopGhost
set_option linter.unusedSimpArgs false
set_option linter.unusedVariables false
set_option maxRecDepth 4000
set_option maxRecDepth 100000
namespace Go.Ab
section
variable {P:Program} {S S':Store} {N:Nat} {s:St}
theorem BL(S:Store)(β:Hs)(k:Key):Keep S β (aP S k .dead) β:=by
 intro k' o ho
 by_cases e:k=k'
 ·subst e
  exact⟨.dead,bT _ _ _ _ ho,.inl rfl⟩
 ·exact⟨o,by rw[cO _ _ _ _ e];exact ho,jA.refl _ _⟩
theorem u7{k k':Key}{o:Obj}(h:aJ (aP S k .dead) k'=some o):(k=k'∧o=.dead)∨aJ S k'=some o:=by
 by_cases e:k=k'
 ·subst e
  cases hg:aJ S k with
  |none=>
   have:∀(S:Store) (k:Key),aJ S k=none→aP S k .dead=S:=by
    intro S
    induction S with
    |nil=>intro k _;rfl
    |cons fr S ih=>
     rintro⟨l,j⟩ h
     cases l with
     |zero=>
      rw[aR] at h
      rw[aP,List.set_eq_of_length_le (List.getElem?_eq_none_iff.1 h)]
     |succ l=>rw[bf] at h;rw[aP,ih _ h]
   rw[this S k hg,hg] at h
   cases h
  |some y=>
   rw[bT _ _ _ _ hg] at h
   cases h
   exact .inl ⟨rfl,rfl⟩
 ·rw[cO _ _ _ _ e] at h
  exact .inr h
theorem MH(x:Obj):∀(S:Store) (k:Key),(aP S k x).length=S.length
 |[],k=>rfl
 |fr::S,(0,j)=>by rw[aP];simp
 |fr::S,(l+1,j)=>by rw[aP,List.length_cons,MH x S,List.length_cons]
theorem Qs(x:Obj):∀(S:Store) (k:Key) (l:Nat) (fr:List Obj),(aP S k x)[l]? =some fr→∃yt,S[l]? =some yt∧yt.length=fr.length
 |[],k,l,fr,h=>by simp[aP] at h
 |f::S,(0,j),0,fr,h=>by rw[aP] at h;simp at h;subst h;exact⟨f,rfl,by simp⟩
 |f::S,(0,j),l+1,fr,h=>by rw[aP] at h;exact⟨fr,by simpa using h,rfl⟩
 |f::S,(i+1,j),0,fr,h=>by rw[aP] at h;exact⟨fr,by simpa using h,rfl⟩
 |f::S,(i+1,j),l+1,fr,h=>by
  rw[aP] at h
  simpa using Qs x S (i,j) l fr (by simpa using h)
theorem YV{w:World}{σ:Nat→Nat}{β:Hs}(k:Key)(hS:cB w σ S β):cB w σ (aP S k .dead) β:=by
 have hn:bR w σ w σ:=(Grow.refl hS.live).near
 refine⟨fun k' o ho=> ?_,fun k1 k2 o1 o2 h1 h2 b e1 e2 e3 e4 e5 e6=> ?_,⟨by rw[MH];exact hS.shape.1,fun l fr hl=> ?_⟩,hS.live,hS.mY⟩
 ·rcases u7 ho with⟨rfl,rfl⟩|ho'
  ·cases hg:aJ S k with
   |none=>
    exfalso
    have:=BL S β k
    rcases u7 (S:=S) (k:=k) (k':=k) ho with⟨_,_⟩|h
    ·
     have hne:aJ (aP S k .dead) k=none:=by
      have:∀(S:Store) (k:Key),aJ S k=none→aJ (aP S k Obj.dead) k=none:=by
       intro S
       induction S with
       |nil=>intro k _;rw[aP,lI]
       |cons fr S ih=>
        rintro⟨l,j⟩ h
        cases l with
        |zero=>
         rw[aR] at h
         rw[aP,aR,List.set_eq_of_length_le (List.getElem?_eq_none_iff.1 h)]
         exact h
        |succ l=>rw[bf] at h;rw[aP,bf];exact ih _ h
      exact this S k hg
     rw[hne] at ho;cases ho
    ·rw[hg] at h;cases h
   |some y=>
    obtain⟨h,hh,_⟩:=hS.obj k y hg
    exact⟨h,hh,trivial⟩
  ·obtain⟨h,hh,hr⟩:=hS.obj k' o ho'
   exact⟨h,hh,hr.mono hn ((BL S β k).drop k'.1) fun b _=>⟨rfl,rfl⟩⟩
 ·rcases u7 e1 with⟨_,rfl⟩|Ju
  ·cases e3
  ·rcases u7 e4 with⟨_,rfl⟩|e4'
   ·cases e6
   ·exact hS.apart k1 k2 o1 o2 h1 h2 b Ju e2 e3 e4' e5 e6
 ·obtain⟨yt,h1,h2⟩:=Qs _ S k l fr hl
  obtain⟨gr,h3,h4⟩:=hS.shape.2 l yt h1
  exact⟨gr,h3,by omega⟩
def Less(r r':V):Prop:=∀w σ S β v,bF w σ S β r v→bF w σ S β r' v
theorem Less.refl(r:V):Less r r:=fun _ _ _ _ _ h=>h
theorem bD.kill{f:FuncId}{args:List V}{post post':V→Store→Prop}(k:Key)(h:bD P f args S post)(hp:∀r S',post r S'→∃r',Less r r'∧(post' r' S'∨post' r' (aP S' k .dead))):bD P f args S post':=by
 refine⟨h.1,fun w σ β vs hS hv=>(h.2 w σ β vs hS hv).mono fun e w' ⟨v,r,S',σ',β',h1,h2,h3,h4,h5,h6⟩=> ?_⟩
 obtain⟨r',hl,hp|hp⟩:=hp r S' h6
 ·exact⟨v,r',S',σ',β',h1,h2,h3,h4,hl _ _ _ _ _ h5,hp⟩
 ·have hkeep:=BL S' β' k
  refine⟨v,r',aP S' k .dead,σ',β',h1,YV k h2,h3.trans hkeep,⟨h4.size,h4.os,h4.output,h4.far,h4.near,fun b hb=> ?_⟩,hl _ _ _ _ _ (h5.mono (Grow.refl h2.live).near hkeep),hp⟩
  obtain⟨k',o,hv,e1,e2,e3⟩:=hb
  rcases u7 e1 with⟨_,rfl⟩|Ju
  ·cases e3
  ·exact h4.own b ⟨k',o,hv,Ju,e2,e3⟩
theorem aL{x y:Obj}:∀(S:Store) (k:Key),aP (aP S k x) k y=aP S k y
 |[],k=>rfl
 |fr::S,(0,j)=>by rw[aP,aP,aP];simp
 |fr::S,(l+1,j)=>by rw[aP,aP,aP,aL S]
theorem rF{x:Obj}:∀(S:Store) (k:Key),aJ S k=some x→aP S k x=S
 |[],k,_=>rfl
 |fr::S,(0,j),h=>by
  rw[aR] at h
  rw[aP]
  congr 1
  exact List.ext_getElem? fun i=>by
   rw[List.getElem?_set]
   split
   ·rename_i e;subst e
    obtain⟨h1,h2⟩:=List.getElem?_eq_some_iff.1 h
    simp[h1,h2]
   ·rfl
 |fr::S,(l+1,j),h=>by rw[bf] at h;rw[aP,rF S _ h]
def sP:List Bool→List V→List V
 |true::m,v::vs=>v::sP m vs
 |false::m,v::vs=>v.mU::sP m vs
 |[],vs=>vs.map V.mU
 |_,[]=>[]
theorem EG:∀(m:List Bool) (vs:List V),vs.length=(sP m vs).length
 |true::m,v::vs=>by rw[sP,List.length_cons,List.length_cons,EG m vs]
 |false::m,v::vs=>by rw[sP,List.length_cons,List.length_cons,EG m vs]
 |[],vs=>by simp[sP]
 |true::m,[]=>rfl
 |false::m,[]=>rfl
theorem IU:∀(m:List Bool) (vs:List V) (j:Nat) (x y:V),vs[j]? =some x→(sP m vs)[j]? =some y→y=x∨y=x.mU
 |true::m,v::vs,0,x,y,h1,h2=>by rw[sP] at h2;cases h1;cases h2;exact .inl rfl
 |false::m,v::vs,0,x,y,h1,h2=>by rw[sP] at h2;cases h1;cases h2;exact .inr rfl
 |true::m,v::vs,j+1,x,y,h1,h2=>by rw[sP] at h2;exact IU m vs j x y h1 h2
 |false::m,v::vs,j+1,x,y,h1,h2=>by rw[sP] at h2;exact IU m vs j x y h1 h2
 |[],vs,j,x,y,h1,h2=>by rw[sP,List.getElem?_map,h1] at h2;cases h2;exact .inr rfl
 |true::m,[],j,x,y,h1,h2=>by simp at h1
 |false::m,[],j,x,y,h1,h2=>by simp at h1
theorem bD.sP(m:List Bool){f:FuncId}{args:List V}{post:V→Store→Prop}(h:bD P f (Go.Ab.sP m args) S post):bD P f args S post:=
 h.weaken (EG m args) fun j x y hx hy w σ β v hr=>by
  rcases IU m args j x y hx hy with e|e
  ·rw[e];exact hr
  ·rw[e];exact Me hr
end
theorem aD.less{P:Program}{f:FuncId}{args:List V}{r r':V}(h:aD P f args r)(hl:Less r r'):aD P f args r':=
 fun S=>(h S).kill (0,0) fun r1 S' e=>⟨r',by rw[e.1];exact hl,.inl ⟨rfl,e.2⟩⟩
end Go.Ab
namespace Go.Ab
section
variable {P:Program} {S:Store}
def jY(n:Nat)(caps:List (Key×Nat)):List (Key×Nat):=caps.map fun y=>(wQ n y.1,y.2)
theorem SC{n:Nat}:jY n []=[]:=rfl
theorem Pf{n l j off:Nat}{caps:List (Key×Nat)}:jY n (((l,j),off)::caps)=((n+l,j),off)::jY n caps:=rfl
theorem JE{m n:Nat}{caps:List (Key×Nat)}:jY m (jY n caps)=jY (m+n) caps:=by
 unfold jY
 rw[List.map_map]
 refine List.map_congr_left fun y _=> ?_
 simp only[Function.comp,wQ,Prod.mk.injEq,and_true]
 omega
theorem MI:∀(F S:Store) (l j:Nat),aJ (F++S) (F.length+l,j)=aJ S (l,j)
 |[],S,l,j=>by simp
 |fr::F,S,l,j=>by
  rw[List.cons_append,List.length_cons,show F.length+1+l=(F.length+l)+1 from by omega,bf,MI F S l j]
theorem MJ(x:Obj):∀(F S:Store) (l j:Nat),aP (F++S) (F.length+l,j) x=F++aP S (l,j) x
 |[],S,l,j=>by simp
 |fr::F,S,l,j=>by
  rw[List.cons_append,List.length_cons,show F.length+1+l=(F.length+l)+1 from by omega,aP,MJ x F S l j,List.cons_append]
theorem VQ{F S:Store}{j:Nat}:aJ (F++S) (F.length,j)=aJ S (0,j):=MI F S 0 j
theorem VR{F S:Store}{j:Nat}{x:Obj}:aP (F++S) (F.length,j) x=F++aP S (0,j) x:=MJ x F S 0 j
attribute [go_sem] VQ VR SC Pf
def pI(P:Program)(g:Nat)(caps:List (Key×Nat))(S:Store)(xs:List V)(r:V):Prop:=
 ∀F:Store,bD P g (xs++xA (jY F.length caps)) (F++S) (fun r' S'=>r'=r∧S'=F++S)
theorem pI.push{g:Nat}{caps:List (Key×Nat)}{xs:List V}{r:V}(h:pI P g caps S xs r)(fr:List Obj):pI P g (jY 1 caps) (fr::S) xs r:=fun F=>by
 have:=h (F++[fr])
 rw[JE]
 simpa using this
theorem pI.IV{g:Nat}{xs:List V}{r:V}(h:aD P g xs r):pI P g [] S xs r:=fun F=>by
 have:=h (F++S)
 simpa [jY,xA] using this
def SE(P:Program)(g:Nat)(caps:List (Key×Nat)){α X:Type}(st:α→Store)(I:Nat→α→Prop)(f:α→X→α)(xv:X→V)(ok:X→Prop):Prop:=
 ∀n a u,I (n+1) a→ok u→I n (f a u)∧∀F:Store,bD P g (xv u::xA (jY F.length caps)) (F++st a) (fun r' S'=>r'=.dw []∧S'=F++st (f a u))
theorem SE.push{g:Nat}{caps:List (Key×Nat)}{α X:Type}{st:α→Store}{I:Nat→α→Prop}{f:α→X→α}{xv:X→V}{ok:X→Prop}(h:SE P g caps st I f xv ok)(fr:List Obj):
 SE P g (jY 1 caps) (fun a=>fr::st a) I f xv ok:=fun n a u ha hu=>⟨(h n a u ha hu).1,fun F=>by
 have:=(h n a u ha hu).2 (F++[fr])
 rw[JE]
 simpa using this⟩
theorem JF{N:Nat}{c:Code}{Q:Exit→St→Prop}{tm:List (Nat×V)}{own:List Obj}{Ω:Store}(j i aF:Nat)(es:List (List D))(cs:List C)(hj:own[j]? =some (.box cs))(hi:cs[i]? =some (.aY es))(hes:∀e∈es,e.length=aF)
 (h:AW P N c Q ⟨tm,(own.set j (.box (cs.set i (.bQ (0,own.length) es)))++[.tok aF es])::Ω⟩):AW P N c Q ⟨tm,own::Ω⟩:=by
 refine kR h fun a w σ β hR=> ?_
 obtain⟨bo,bΩ,rfl,hlen⟩:=frames hR
 have hjl:=(List.getElem?_eq_some_iff.1 hj).1
 have hg0:aJ (own::Ω) (0,j)=some (.box cs):=by rw[aR];exact hj
 obtain⟨hb,D7,hr⟩:=hR.S.obj (0,j) _ hg0
 obtain⟨b,cv,ty,rfl,hbc,hσ,hcs⟩:=hr
 have hcs:dR w σ (own::Ω) (bo::bΩ) cs cv.toList:=hcs
 obtain⟨v,hv,⟨hd,ad,n,hval⟩,hone⟩:=hcs.2 i _ hi
 have hn:n=es.length:=by rw[hval] at hd;cases hd<;>rfl
 have hg:Grow w σ w σ:=Grow.refl hR.S.live
 obtain⟨hS',hk,hst⟩:=hR.S.push (o:=.tok aF es) (h:=v) hg hlen ⟨hd,hes,ad,n,by rw[hval,hn],by omega,.inl hn⟩ (fun b hb=>by
  rw[hval,hn] at hb
  cases ad<;>simp[owns,blk] at hb)
 have hk1:aJ ((own++[.tok aF es])::Ω) (0,j)=some (.box cs):=gV _ _ _ _ _ hg0
 have AZ:aJ ((bo++[v])::bΩ) (0,j)=some (.pointer (some ⟨b,0,none⟩)):=gV _ _ _ _ _ D7
 have hko:jA (.box cs) (some (Value.pointer (some ⟨b,0,none⟩))) (.box (cs.set i (.bQ (0,own.length) es))) (some (Value.pointer (some ⟨b,0,none⟩))):=.inr ⟨⟨_,rfl⟩,rfl⟩
 have hK:Keep ((own++[.tok aF es])::Ω) ((bo++[v])::bΩ) (aP ((own++[.tok aF es])::Ω) (0,j) (.box (cs.set i (.bQ (0,own.length) es)))) (aP ((bo++[v])::bΩ) (0,j) (.pointer (some ⟨b,0,none⟩))):=by
  intro k1 o1 e1
  by_cases e:k1=(0,j)
  ·subst e
   rw[hk1] at e1;cases e1
   exact⟨_,bT _ _ _ _ hk1,by rw[AZ,bT _ _ _ _ AZ];exact hko⟩
  ·exact⟨o1,(cO _ _ _ _ (Ne.symm e)).trans e1,by rw[cO _ _ _ _ (Ne.symm e)];exact .refl _ _⟩
 have hne:(0,own.length)≠(0,j):=fun e=>by injection e with _ e;omega
 obtain⟨hS2,hk2,pY⟩:=hS'.set (w':=w) (σ':=σ) (o':=.box (cs.set i (.bQ (0,own.length) es))) (h':=.pointer (some ⟨b,0,none⟩)) hk1 AZ (Nat.le_refl _) rfl rfl (bR.refl _ _) hS'.live (fun _ _ _=>⟨rfl,rfl⟩) hko
  ⟨b,cv,ty,rfl,hbc,hσ,by
    refine⟨by rw[List.length_set];exact hcs.1,fun m x hm=> ?_⟩
    rw[List.getElem?_set] at hm
    by_cases e:i=m
    ·subst e
     rw[if_pos rfl] at hm
     split at hm
     ·cases hm
      refine⟨v,hv,⟨hd,.tok aF es,?_,fun a1 b1 e1=> ?_⟩,hone⟩
      ·show aJ (aP _ (0,j) _) (0,own.length)=_
       rw[cO _ _ _ _ (Ne.symm hne),bE]
      ·obtain⟨_,rfl⟩:=pK (lab:=none) e1
       refine⟨Nat.le_refl _,fun _=> ?_⟩
       show aJ (aP _ (0,j) _) (0,own.length)=_
       rw[cO _ _ _ _ (Ne.symm hne),←hlen,bE]
     ·cases hm
    ·rw[if_neg e] at hm
     obtain⟨u,hu,hc,ho⟩:=hcs.2 m x hm
     exact⟨u,hu,(hc.mono (bR.refl _ _) hk).mono (bR.refl _ _) hK,ho⟩⟩ (fun _ e=>.inl e)
 have est:aP ((own++[.tok aF es])::Ω) (0,j) (.box (cs.set i (.bQ (0,own.length) es)))=(own.set j (.box (cs.set i (.bQ (0,own.length) es)))++[.tok aF es])::Ω:=by
  rw[aP,List.set_append_left _ _ hjl]
 rw[est] at hS2 hk2 pY
 exact⟨σ,_,⟨hR.size,hR.defers,hS2,fun u=>((hR.T u).mono (bR.refl _ _) hk).mono (bR.refl _ _) hk2⟩,hst.trans pY,by
  have:=hk.trans hk2
  exact this.tail⟩
end
end Go.Ab
namespace Go.Ab
inductive D.Fit:D→Prop
 |b (x):Fit (.b x)
 |i (k n):Fit (.i k n)
 |s (l) (h:l.length≤9223372036854775807):Fit (.s l)
 |sl (es) (h:es.length≤9223372036854775807) (hh:∀e∈es,∀d∈e,Fit d):Fit (.sl es)
 |o (v):Fit (.o v)
def vR(cs:List D):Prop:=∀d∈cs,d.Fit
theorem xC:vR []:=fun d h=>by cases h
theorem yw{d:D}{ds:List D}:vR (d::ds)↔d.Fit∧vR ds:=by simp[vR]
theorem Pg{a b:List D}:vR (a++b)↔vR a∧vR b:=by
 simp only[vR,List.mem_append]
 exact⟨fun h=>⟨fun d hd=>h d (.inl hd),fun d hd=>h d (.inr hd)⟩,fun h d hd=>hd.elim (h.1 d) (h.2 d)⟩
def WTF(P:Program)(W:TypeId→List D→Prop):List Field→List D→Prop
 |[],ds=>ds=[]
 |f::fs,ds=>∃a b,ds=a++b∧a.length=P.cellsOf f.type∧W f.type a∧WTF P W fs b
def WT(P:Program):Nat→TypeId→List D→Prop
 |0,_,_=>False
 |n+1,t,ds=>
  match P.underlying t with
  |some .bool=>∃b,ds=[.b b]
  |some (.int k)=>∃x,ds=[.i k x]∧(Lit.int k x).wf=true
  |some .string=>∃l,ds=[.s l]∧l.length≤9223372036854775807
  |some (.slice e)=>∃es,ds=[.sl es]∧es.length≤9223372036854775807∧∀x∈es,x.length=P.cellsOf e∧WT P n e x
  |some (.struct fs)=>WTF P (WT P n) fs.toList ds
  |_=>False
def wF(P:Program):List Field→Nat→Nat→Bool
 |[],a,b=>a==b
 |f::fs,a,b=>f.offset==a&&wF P fs (a+P.cellsOf f.type) b
def IW(P:Program)(L:List TypeId):Bool:=
 L.all fun t=>match P.underlying t with
  |some .bool|some (.int _)|some .string=>P.cellsOf t==1
  |some (.slice e)=>P.cellsOf t==1&&L.contains e&&decide (0<P.cellsOf e)
  |some (.struct fs)=>wF P fs.toList 0 (P.cellsOf t)&&fs.toList.all fun f=>L.contains f.type
  |_=>false
def ig(w:World)(b:Nat):Nat:=match w.heap[b]? with
 |some (.cells c _ _)=>c.size
 |_=>0
def nU(w:World)(ds:List D)(vs:List Value):Prop:=ds.length=vs.length∧∀(j:Nat) (d:D),ds[j]? =some d→∃v,vs[j]? =some v∧bB w (ig w) d v∧v.oneCell'=true
theorem nU.append{w:World}{a b:List D}{xs ys:List Value}(h1:nU w a xs)(h2:nU w b ys):nU w (a++b) (xs++ys):=by
 refine⟨by simp[h1.1,h2.1],fun j d hj=> ?_⟩
 rw[List.getElem?_append] at hj ⊢
 have:=h1.1
 split at hj
 ·rw[if_pos (by omega)];exact h1.2 j d hj
 ·rw[if_neg (by omega),←h1.1];exact h2.2 _ d hj
theorem nU.one{w:World}{d:D}{v:Value}(h:bB w (ig w) d v)(h1:v.oneCell'=true):nU w [d] [v]:=by
 refine⟨rfl,fun j x hj=> ?_⟩
 cases j with
 |zero=>cases hj;exact⟨v,rfl,h,h1⟩
 |succ j=>simp at hj
theorem MK{α β:Type}(f:α→Option β):∀(l:List α) (ys:List β),l.mapM f=some ys→ys.length=l.length∧∀(j:Nat) (x:α),l[j]? =some x→∃y,f x=some y∧ys[j]? =some y
 |[],ys,h=>by
  simp at h;subst h
  exact⟨rfl,fun j x hj=>by simp at hj⟩
 |a::l,ys,h=>by
  rw[List.mapM_cons] at h
  cases ha:f a with
  |none=>rw[ha] at h;cases h
  |some y=>
   cases hl:l.mapM f with
   |none=>rw[ha,hl] at h;cases h
   |some zs=>
    rw[ha,hl] at h
    cases h
    obtain⟨h1,h2⟩:=MK f l zs hl
    refine⟨by simp[h1],fun j x hj=> ?_⟩
    cases j with
    |zero=>cases hj;exact⟨y,ha,rfl⟩
    |succ j=>exact h2 j x hj
section
variable {H:Type} {enc:TypeId×Value→H} {P:Program} {w:World} {L:List TypeId}
theorem Ad{a:Addr}{n:Nat}{vs:List Value}(hn:0<n)(h:w.cells? 0 a n=some vs):a.spot=none∧vs.length=n∧∃c t fz,w.heap[a.block]? =some (.cells c t fz)∧∀j,j<n→∃v,vs[j]? =some v∧c[a.off+j]? =some v:=by
 unfold World.cells? at h
 rw[if_pos (Nat.zero_le _)] at h
 obtain⟨h1,h2⟩:=MK _ _ _ h
 rw[List.length_range] at h1
 obtain⟨v0,hv0,_⟩:=h2 0 0 (by simp[hn])
 have K3:a.add 0=a:=by simp[Addr.add]
 rw[K3] at hv0
 unfold World.cell? at hv0
 cases hb:w.heap[a.block]? with
 |none=>rw[hb] at hv0;cases hv0
 |some ob=>
  rw[hb] at hv0
  cases ob with
  |map _ _=>cases hv0
  |cells c t fz=>
   have hs:a.spot=none:=by
    cases hsp:a.spot with
    |none=>rfl
    |some x=>rw[hsp] at hv0;simp at hv0
   refine⟨hs,h1,c,t,fz,rfl,fun j hj=> ?_⟩
   obtain⟨v,hv,hvs⟩:=h2 j j (by simp[hj])
   refine⟨v,hvs,?_⟩
   unfold World.cell? at hv
   by_cases hj0:j=0
   ·subst hj0
    rw[K3,hb] at hv
    simp[hs] at hv
    simpa using hv
   ·simp[Addr.add,hj0,hb] at hv
    exact hv
  |_=>cases hv0
theorem Ec{α:Type}{p:Nat→α→Prop}:∀n:Nat,(∀i,i<n→∃x,p i x)→∃l:List α,l.length=n∧∀(i:Nat) (x:α),l[i]? =some x→p i x
 |0,_=>⟨[],rfl,fun i x h=>by simp at h⟩
 |n+1,h=>by
  obtain⟨l,hl,hp⟩:=Ec n fun i hi=>h i (by omega)
  obtain⟨x,hx⟩:=h n (by omega)
  refine⟨l++[x],by simp[hl],fun i y hy=> ?_⟩
  rw[List.getElem?_append] at hy
  split at hy
  ·exact hp i y hy
  ·rename_i hlt
   have hi:i-l.length<1:=by
    have:=(List.getElem?_eq_some_iff.1 hy).1
    simpa using this
   have:i=n:=by omega
   subst this
   rw[show i-l.length=0 from by omega] at hy
   cases hy
   exact hx
theorem VT(hc:IW P L=true){t:TypeId}(ht:t∈L):(match P.underlying t with
 |some .bool|some (.int _)|some .string=>P.cellsOf t==1
 |some (.slice e)=>P.cellsOf t==1&&L.contains e&&decide (0<P.cellsOf e)
 |some (.struct fs)=>wF P fs.toList 0 (P.cellsOf t)&&fs.toList.all fun f=>L.contains f.type
 |_=>false)=true:=List.all_eq_true.1 hc t ht
theorem Ph{n:Nat}{fs:List Field}{cs:List Value}:∀(off:Nat),off≤cs.length→wF P fs off cs.length=true→
 (∀f∈fs,∃ds,WT P n f.type ds∧nU w ds ((cs.drop f.offset).take (P.cellsOf f.type)))→∃ds,WTF P (WT P n) fs ds∧nU w ds (cs.drop off):=by
 induction fs with
 |nil=>
  intro off _ ht _
  have:off=cs.length:=by simpa [wF] using ht
  exact⟨[],rfl,by simp[this,nU]⟩
 |cons f fs ih=>
  intro off ho ht h
  simp only[wF,Bool.and_eq_true,beq_iff_eq] at ht
  obtain⟨a,ha1,ha2⟩:=h f (by simp)
  have hle:∀(fs:List Field) (o:Nat),wF P fs o cs.length=true→o≤cs.length:=by
   intro fs
   induction fs with
   |nil=>intro o h;have:o=cs.length:=by simpa [wF] using h
         omega
   |cons g gs ih=>intro o h;simp only[wF,Bool.and_eq_true] at h;have:=ih _ h.2;omega
  have hle':=hle fs _ ht.2
  obtain⟨b,hb1,hb2⟩:=ih (off+P.cellsOf f.type) hle' ht.2 fun g hg=>h g (by simp[hg])
  rw[ht.1] at ha2
  refine⟨a++b,⟨a,b,rfl,?_,ha1,hb1⟩,?_⟩
  ·rw[ha2.1];simp;omega
  ·have:=ha2.append hb2
   rw[←List.drop_drop,List.take_append_drop] at this
   exact this
theorem BM(hc:IW P L=true){sp:Nat→Bool}{held:Bool}:∀(fuel:Nat) (t:TypeId) (cs:List Value) (x:DataW H×List MemPlace),t∈L→
 DataW.trod enc P w 0 sp held fuel t cs=some x→∃ds,WT P fuel t ds∧nU w ds cs
 |0,t,cs,x,_,h=>by simp[DataW.trod] at h
 |n+1,t,cs,x,ht,h=>by
  have hcl:=VT hc ht
  cases hu:P.underlying t with
  |none=>rw[hu] at hcl;cases hcl
  |some u=>
   rw[hu] at hcl
   cases u with
   |bool=>
    obtain⟨b,rfl,_⟩:=DataW.trod_bool hu h
    exact⟨[.b b],by simp only[WT,hu];exact⟨b,rfl⟩,nU.one (.b b) rfl⟩
   |int k=>
    obtain⟨m,rfl,_,hw⟩:=DataW.trod_int hu h
    exact⟨[.i k m],by simp only[WT,hu];exact⟨m,rfl,hw⟩,nU.one (.i k m) rfl⟩
   |string=>
    obtain⟨s,rfl,_,hs⟩:=DataW.trod_string hu h
    have hl:s.data.toList.length≤9223372036854775807:=by
     have h1:s.data.toList.length=s.size:=by rw[Array.length_toList];rfl
     rw[h1];exact hs
    refine⟨[.s s.data.toList],?_,nU.one ?_ rfl⟩
    ·simp only[WT,hu];exact⟨_,rfl,hl⟩
    ·exact .s s.data.toList
   |slice e=>
    simp only[Bool.and_eq_true,beq_iff_eq,decide_eq_true_eq,List.contains_iff_mem] at hcl
    obtain⟨⟨h1,he⟩,hpos⟩:=hcl
    rcases DataW.trod_slice hu h with⟨rfl,_⟩|⟨a,len,cap,elems,rest,m,hm,rfl,_,_,hlc,hcm,hel,hget,_,_⟩
    ·exact⟨[.sl []],by simp only[WT,hu];exact⟨[],rfl,by simp,fun x hx=>by cases hx⟩,nU.one (.nil _ _) rfl⟩
    ·cases hm
     have hall:∀i,i<len→∃ds:List D,ds.length=P.cellsOf e∧WT P n e ds∧∃vs,w.cells? 0 (a.add (i*P.cellsOf e)) (P.cellsOf e)=some vs∧nU w ds vs:=by
      intro i hi
      have hg:=hget i hi
      cases hcs:w.cells? 0 (a.add (i*P.cellsOf e)) (P.cellsOf e) with
      |none=>
       rw[hcs] at hg
       have:i<elems.length:=by omega
       rw[List.getElem?_eq_getElem this] at hg
       cases hg
      |some vs=>
       rw[hcs] at hg
       have hlt:i<elems.length:=by omega
       rw[List.getElem?_eq_getElem hlt] at hg
       obtain⟨ds,hd1,hd2⟩:=BM hc n e vs _ he hg
       have hv:=(Ad hpos hcs).2.1
       exact⟨ds,by rw[hd2.1,hv],hd1,vs,rfl,hd2⟩
     obtain⟨es,hes,hp⟩:=Ec len hall
     have hwt:WT P (n+1) t [.sl es]:=by
      simp only[WT,hu]
      refine⟨es,rfl,by have:cap≤9223372036854775807:=hcm
                       omega,fun x hx=> ?_⟩
      obtain⟨i,hi⟩:=List.getElem?_of_mem hx
      exact⟨(hp i x hi).1,(hp i x hi).2.1⟩
     refine⟨[.sl es],hwt,?_⟩
     cases Ey:es with
     |nil=>
      have h0:len=0:=by rw[←hes,Ey];rfl
      subst h0
      exact nU.one (.nil _ _) rfl
     |cons e0 es0=>
      have aeC:0<len:=by rw[←hes,Ey];simp
      have hlen:∀x∈es,x.length=P.cellsOf e:=fun x hx=>by
       obtain⟨i,hi⟩:=List.getElem?_of_mem hx
       exact(hp i x hi).1
      obtain⟨ds0,_,_,vs0,ac6,_⟩:=hall 0 aeC
      have K3:a.add (0*P.cellsOf e)=a:=by simp[Addr.add]
      rw[K3] at ac6
      obtain⟨hsp,_,c,tt,fz,hblk,_⟩:=Ad hpos ac6
      have hcell:∀i r,i<len→r<P.cellsOf e→∃(x:List D) (v:Value) (d:D),es[i]? =some x∧x[r]? =some d∧c[a.off+(i*P.cellsOf e+r)]? =some v∧bB w (ig w) d v:=by
       intro i r hi hr
       have hlt:i<es.length:=by omega
       obtain⟨hx1,hx2,vs,hvs,hrep⟩:=hp i es[i] (List.getElem?_eq_getElem hlt)
       obtain⟨_,hvl,c',t',LB,hblk',hcc⟩:=Ad hpos hvs
       have hb':(a.add (i*P.cellsOf e)).block=a.block:=by unfold Addr.add;split<;>rfl
       have ho':(a.add (i*P.cellsOf e)).off=a.off+i*P.cellsOf e:=by unfold Addr.add;split<;>simp_all
       rw[hb',hblk] at hblk'
       cases hblk'
       obtain⟨v,hv1,hv2⟩:=hcc r hr
       have hdr:r<es[i].length:=by omega
       obtain⟨v',hv',hd',_⟩:=hrep.2 r es[i][r] (List.getElem?_eq_getElem hdr)
       rw[hv1] at hv';cases hv'
       refine⟨es[i],v,es[i][r],List.getElem?_eq_getElem hlt,List.getElem?_eq_getElem hdr,?_,hd'⟩
       rw[ho'] at hv2
       rw[←Nat.add_assoc];exact hv2
      have hbound:a.off+len*P.cellsOf e≤c.size:=by
       obtain⟨_,v,_,_,_,hv,_⟩:=hcell (len-1) (P.cellsOf e-1) (by omega) (by omega)
       have:=(Array.getElem?_eq_some_iff.1 hv).1
       have e1:(len-1)*P.cellsOf e+P.cellsOf e=len*P.cellsOf e:=by
        rw[←Nat.succ_mul];congr 1;omega
       omega
      have key:bB w (ig w) (.sl es) (.slice (some ⟨a.block,a.off,none⟩) es.length cap):=by
       refine .sl a.block a.off cap (P.cellsOf e) es (fun j=>(c[a.off+j]?).getD undef) c tt fz (by omega) hlen hblk ?_ (fun j hj=> ?_) (fun j d hj=> ?_)
       ·unfold ig;rw[hblk,hes];exact hbound
       ·have:a.off+j<c.size:=by rw[hes] at hj;omega
        rw[Array.getElem?_eq_getElem this];rfl
       ·have hfl:es.flatten.length=es.length*P.cellsOf e:=gM es _ hlen
        have hjl:j<es.length*P.cellsOf e:=by rw[←hfl];exact(List.getElem?_eq_some_iff.1 hj).1
        have hi:j/P.cellsOf e<len:=by rw[←hes];exact(Nat.div_lt_iff_lt_mul hpos).2 hjl
        obtain⟨x,v,d',hx,hd',hv,hr⟩:=hcell (j/P.cellsOf e) (j % P.cellsOf e) hi (Nat.mod_lt _ hpos)
        have hlt':j/P.cellsOf e<es.length:=by omega
        have hfg:=flat_get es (P.cellsOf e) hlen (j/P.cellsOf e) (j % P.cellsOf e) hlt' (Nat.mod_lt _ hpos)
        have hj':j/P.cellsOf e*P.cellsOf e+j % P.cellsOf e=j:=by rw[Nat.mul_comm];exact Nat.div_add_mod j _
        rw[hj',hj] at hfg
        rw[List.getElem?_eq_getElem hlt'] at hx
        cases hx
        rw[hd'] at hfg
        cases hfg
        rw[hj'] at hv
        rw[hv]
        exact hr
      rw[←Ey]
      refine nU.one ?_ rfl
      have ha:a=⟨a.block,a.off,none⟩:=by cases a;simp at hsp;simp[hsp]
      rw[ha,←hes]
      exact key
   |struct fs=>
    simp only[Bool.and_eq_true] at hcl
    obtain⟨htl,hfs⟩:=hcl
    obtain⟨xs,m,hm,rfl,hlen,hxs,afY⟩:=DataW.trod_struct hu h
    cases hm
    rw[←hlen] at htl
    obtain⟨ds,h1,h2⟩:=Ph (w:=w) (n:=n) (cs:=cs) 0 (Nat.zero_le _) htl fun f hf=>by
     obtain⟨i,hi⟩:=List.getElem?_of_mem hf
     have hi':fs[i]? =some f:=by simpa using hi
     have hg:=afY i f hi'
     have hlt:i<xs.length:=by
      rw[hxs];exact(Array.getElem?_eq_some_iff.1 hi').1
     rw[List.getElem?_eq_getElem hlt] at hg
     have hfL:f.type∈L:=by
      have:=List.all_eq_true.1 hfs f hf
      simpa using this
     exact BM hc n f.type _ _ hfL hg
    refine⟨ds,by simp only[WT,hu];exact h1,?_⟩
    rw[List.drop_zero] at h2
    exact h2
   |_=>cases hcl
end
end Go.Ab
namespace Go.Ab
open Go.ChangeShapes Go.WideShapes Go.ChangeAt Go.RowKit
section
variable {H:Type} {enc:TypeId×Value→H} {P:Program} {W W':World} {L:List TypeId} {t:TypeId} {v:Value} {base:Nat}
theorem YW{d:D}(hv:v.cells.toList=[v])(hL:nU W [d] v.cells.toList):bF W (ig W) [] [] (.c (.d d)) v:=by
 obtain⟨u,h1,h2,h3⟩:=hL.2 0 d rfl
 rw[hv] at h1
 cases h1
 exact⟨h2,h3⟩
theorem SF{d:D}(ht:P.underlying t=some .string)(hok:Value.okWide P W .any base t v)(hL:nU W [d] v.cells.toList):bF W (ig W) [] [] (.c (.d d)) v:=by
 obtain⟨s,rfl⟩:=okWide_string ht hok
 exact YW rfl hL
theorem VU:kM W (ig W) [] [] [] []:=⟨rfl,fun j x h=>by simp at h⟩
theorem SG{x:V}{xs:List V}{vs:List Value}(h1:bF W (ig W) [] [] x v)(h2:kM W (ig W) [] [] xs vs):kM W (ig W) [] [] (x::xs) (v::vs):=by
 refine⟨by simp[h2.1],fun j y hj=> ?_⟩
 cases j with
 |zero=>cases hj;exact⟨v,rfl,h1⟩
 |succ j=>exact h2.2 j y hj
theorem YX(W:World)(hg:iN W (ig W)):cB W (ig W) [] [] where
 mY:=hg
 obj:=fun k o h=>by rw[lI] at h;cases h
 apart:=fun k k' o o' h h' b h1=>by rw[lI] at h1;cases h1
 shape:=⟨rfl,fun l fr h=>by simp at h⟩
 live:=fun b=>by
  by_cases h:b<W.heap.size
  ·exact .inl h
  ·right
   unfold ig
   rw[Array.getElem?_eq_none (by omega)]
theorem ac7{b:Nat}:¬Own [] [] b:=fun⟨k,o,h,h1,_⟩=>by rw[lI] at h1;cases h1
theorem A8(hl:laidOutB P=true)(hsame:∀b,b<W.heap.size→W'.heap[b]? =W.heap[b]?)(sp:Nat→Bool):∀(ts:List TypeId) (vs:List Value) (ds:List (DataW H)) (ps:List MemPlace),
 (ts.all fun t=>P.readableRec t&&decide (t<P.types.size))=true→(∀p∈ps,p.block<W.heap.size∧sp p.block=true)→
   DataW.TrodAll enc P W 0 (fun _=>true) true ts vs ds ps→DataW.TrodAll enc P W' 0 sp true ts vs ds ps
 |[],[],[],ps,_,_,h=>h
 |t::ts,v::vs,d::ds,ps,hr,hlt,h=>by
  simp only[List.all_cons,Bool.and_eq_true,decide_eq_true_eq] at hr
  obtain⟨p,q,h1,h2,rfl⟩:=h
  refine⟨p,q,WideElems.Trod_stays hl hr.1.1 hr.1.2 h1 (fun x hx=> ?_) (fun x hx=>(hlt x (by simp[hx])).2),A8 hl hsame sp ts vs ds q hr.2 (fun x hx=>hlt x (by simp[hx])) h2,rfl⟩
  have hb:=(hlt x (by simp[hx])).1
  cases x with
  |cell b o=>exact World.cell?_of_block (w:=W) (hsame b hb)
  |map b=>exact hsame b hb
 |[],[],_::_,ps,_,_,h=>h.elim
 |[],_::_,_,ps,_,_,h=>h.elim
 |_::_,[],_,ps,_,_,h=>h.elim
 |_::_,_::_,[],ps,_,_,h=>h.elim
theorem YZ{f:FuncId}{fn:Func}{s:ChangeSpec}{args:Array Value}{ds gs:List (DataW H)}{before:List MemPlace}{vs:List V}{tb:TypeId}(hl:laidOutB P=true)
 (hr:(fn.params.toList.all fun t=>P.readableRec t&&decide (t<P.types.size))=true) (hvars:s.vars=[]) (hres:fn.resultTypes= #[tb]) (htb:P.underlying tb=some .bool)
 (hs1:(s.fn H (ds++gs)).results=[.lit (.bool true)]) (hs2:(s.fn H (ds++gs)).args=ds) (hs3:(s.fn H (ds++gs)).vars=[])
 (hW:DataW.Whole enc P fn.params.toList s.vars false W args.toList ds gs before) (hargs:kM W (ig W) [] [] vs args.toList)
 (hcall:bD P f vs [] fun r _=>r=.c (.d (.b true))) (aeD:iN W (ig W):=by(intro g p hm;exact absurd hm List.not_mem_nil)):
 Calls P f args W fun e W'=>∃v,e=.returned v∧s.post enc P fn false true false false W args v W':=by
 have hc:=hcall.2 W (ig W) [] args.toList (YX W aeD) hargs
 have e1:args.toList.toArray=args:=by simp
 rw[e1] at hc
 refine hc.mono fun e W' ⟨v,r,S',σ',β',he,hS',hk,hst,hv,hp⟩=> ?_
 subst hp
 obtain⟨hv,_⟩:=hv
 cases hv
 refine⟨_,he,?_⟩
 have hsame:∀b,b<W.heap.size→W'.heap[b]? =W.heap[b]? :=fun b hb=>(hst.far b hb ac7).1
 have hlt:=fun p hp=>hW.lt p hp
 have hW0:=hW
 obtain⟨pa,q,hA,hV,rfl,hz,hn⟩:=hW
 rw[hvars] at hV
 have hq:gs=[]∧q=[]:=by
  obtain⟨h1,h2⟩:=trodVars_none hV
  exact⟨h1,h2⟩
 obtain⟨rfl,rfl⟩:=hq
 rw[List.append_nil] at *
 refine⟨ds,[],pa,[],pa,[],?_,?_,?_,?_,?_,fun h=>by cases h⟩
 ·simpa using hW0
 ·rw[List.append_nil,hs1,hres]
  exact trodAll_cons_mk (shut_bool htb _) trodAll_mk0
 ·rw[List.append_nil,hs2]
  exact A8 hl hsame _ _ _ _ _ hr (fun p hp=>⟨hlt p hp,by simpa using hlt p hp⟩) hA
 ·rw[List.append_nil,hs3,hvars]
  rfl
 ·refine⟨hst.os,hst.output,fun i hi=> ?_⟩
  rw[hsame i hi]
  split<;>simp_all
end
end Go.Ab
namespace Go.Ab
structure Hq (p:Prop):Prop where
 out:p
theorem W1{G K:Prop}(k:K)(e:Hq K→G:=by intro k;simp -implicitDefEqProofs (disch:=omega) only[go_sem];exact k.out):G:=e ⟨k⟩
theorem Z1{G:Prop}(e:G:=by simp -implicitDefEqProofs (disch:=omega) only[go_sem];done):G:=e
theorem W2{G K:Prop}(k:K)(e:Hq K→G:=by intro k;simp -implicitDefEqProofs (disch:=omega) only[go_sem]<;>(repeat(with_reducible refine And.intro ?_ ?_;focus first|omega|rfl|assumption|exact⟨_,rfl,rfl⟩|(simp;omega)|(simp;done)));exact k.out):G:=e ⟨k⟩
theorem W3{G K:Prop}(k:K)(e:Hq K→G:=by intro k;(repeat(with_reducible refine And.intro ?_ ?_;focus first|omega|rfl|assumption|exact⟨_,rfl,rfl⟩|(simp;omega)|(simp;done)));exact k.out):G:=e ⟨k⟩
theorem S0{c:Bool}{s:St}{A B:St→Prop}{P Q:Prop}{A':P→Prop}{B':Q→Prop}(k:c=true→(h:P)→A' h)(k2:c=false→(h:Q)→B' h)(e:Hq (c=true→(h:P)→A' h)→c=true→A s:=by intro k hb;have h:=hb;(try simp only[wf_preprocess] at h);simp -implicitDefEqProofs (disch:=omega) only[go_sem,hb]<;>(repeat(with_reducible refine And.intro ?_ ?_;focus first|omega|rfl|assumption|exact⟨_,rfl,rfl⟩|(simp;omega)|(simp;done)));exact k.out hb h)
 (e2:Hq (c=false→(h:Q)→B' h)→c=false→B s:=by intro k hb;have h:=hb;(try simp only[wf_preprocess] at h);simp -implicitDefEqProofs (disch:=omega) only[go_sem,hb]<;>(repeat(with_reducible refine And.intro ?_ ?_;focus first|omega|rfl|assumption|exact⟨_,rfl,rfl⟩|(simp;omega)|(simp;done)));exact k.out hb h):Split c A B s:=dP (e ⟨k⟩) (e2 ⟨k2⟩)
theorem S1{c:Bool}{s:St}{A B:St→Prop}{Q:Prop}{B':Q→Prop}(k2:c=false→(h:Q)→B' h)(e:c=true→A s:=by intro hb;have h:=hb;(try simp only[wf_preprocess] at h);simp -implicitDefEqProofs (disch:=omega) only[go_sem,hb]<;>(repeat(with_reducible refine And.intro ?_ ?_;focus first|omega|rfl|assumption|exact⟨_,rfl,rfl⟩|(simp;omega)|(simp;done)));done)
 (e2:Hq (c=false→(h:Q)→B' h)→c=false→B s:=by intro k hb;have h:=hb;(try simp only[wf_preprocess] at h);simp -implicitDefEqProofs (disch:=omega) only[go_sem,hb]<;>(repeat(with_reducible refine And.intro ?_ ?_;focus first|omega|rfl|assumption|exact⟨_,rfl,rfl⟩|(simp;omega)|(simp;done)));exact k.out hb h):Split c A B s:=dP e (e2 ⟨k2⟩)
theorem S2{c:Bool}{s:St}{A B:St→Prop}{P:Prop}{A':P→Prop}(k:c=true→(h:P)→A' h)(e:Hq (c=true→(h:P)→A' h)→c=true→A s:=by intro k hb;have h:=hb;(try simp only[wf_preprocess] at h);simp -implicitDefEqProofs (disch:=omega) only[go_sem,hb]<;>(repeat(with_reducible refine And.intro ?_ ?_;focus first|omega|rfl|assumption|exact⟨_,rfl,rfl⟩|(simp;omega)|(simp;done)));exact k.out hb h)
 (e2:c=false→B s:=by intro hb;have h:=hb;(try simp only[wf_preprocess] at h);simp -implicitDefEqProofs (disch:=omega) only[go_sem,hb]<;>(repeat(with_reducible refine And.intro ?_ ?_;focus first|omega|rfl|assumption|exact⟨_,rfl,rfl⟩|(simp;omega)|(simp;done)));done):Split c A B s:=dP (e ⟨k⟩) e2
theorem S3{c:Bool}{s:St}{A B:St→Prop}(e:c=true→A s:=by intro hb;have h:=hb;(try simp only[wf_preprocess] at h);simp -implicitDefEqProofs (disch:=omega) only[go_sem,hb]<;>(repeat(with_reducible refine And.intro ?_ ?_;focus first|omega|rfl|assumption|exact⟨_,rfl,rfl⟩|(simp;omega)|(simp;done)));done)(e2:c=false→B s:=by intro hb;have h:=hb;(try simp only[wf_preprocess] at h);simp -implicitDefEqProofs (disch:=omega) only[go_sem,hb]<;>(repeat(with_reducible refine And.intro ?_ ?_;focus first|omega|rfl|assumption|exact⟨_,rfl,rfl⟩|(simp;omega)|(simp;done)));done):Split c A B s:=dP e e2
section
variable {P:Program} {s:St} {dr:Option Nat} {f:FuncId} {args:List V} {dst:Option Nat} {K:St→Prop} {r:V}
theorem C1{Q:Prop}(h:aD P f (args.map V.mU) r)(k:Q)(e:Hq Q→K (s.put dst r):=by intro k;simp -implicitDefEqProofs (disch:=omega) only[go_sem];exact k.out):jJ P dr f args s dst K:=bH h (e ⟨k⟩)
theorem C2{Q:Prop}(h:aD P f (args.map V.mU) r)(k:Q)(e:Hq Q→K (s.put dst r):=by intro k;simp -implicitDefEqProofs (disch:=omega) only[go_sem]<;>(repeat(with_reducible refine And.intro ?_ ?_;focus first|omega|rfl|assumption|exact⟨_,rfl,rfl⟩|(simp;omega)|(simp;done)));exact k.out):jJ P dr f args s dst K:=bH h (e ⟨k⟩)
theorem C3(h:aD P f (args.map V.mU) r)(e:K (s.put dst r):=by simp -implicitDefEqProofs (disch:=omega) only[go_sem];done):jJ P dr f args s dst K:=bH h e
theorem C4(h:aD P f (args.map V.mU) r)(e:K (s.put dst r):=by simp -implicitDefEqProofs (disch:=omega) only[go_sem]<;>(repeat(with_reducible refine And.intro ?_ ?_;focus first|omega|rfl|assumption|exact⟨_,rfl,rfl⟩|(simp;omega)|(simp;done)));done):jJ P dr f args s dst K:=bH h e
end
end Go.Ab
namespace Go.Ab
mutual
def D.sz:D→Nat
 | .s l=>l.length
 | .sl es=>es.length+dz es
 | .b _=>0
 | .i _ _=>0
 | .o _=>0
 | .ol _ es=>es.length+dz es
def bS:List D→Nat
 |[]=>0
 |d::ds=>d.sz+bS ds
def dz:List (List D)→Nat
 |[]=>0
 |r::rs=>bS r+dz rs
end
theorem eT:∀(a b:List D),bS (a++b)=bS a+bS b
 |[],b=>by simp[bS]
 |d::ds,b=>by rw[List.cons_append,bS,eT ds b,bS];omega
def j4(left:Int)(n:Nat):Int:=if left-n<0 then -1 else left-n
theorem Du{l:Int}{a:Nat}(h:¬j4 l a<0):j4 l a=l-a∧0≤l-a:=by
 unfold j4 at *
 split at h
 ·omega
 ·rename_i h';exact⟨if_neg h',by omega⟩
theorem Ae{l:Int}{a:Nat}(h:j4 l a<0):l-a<0:=by
 unfold j4 at *
 split at h<;>omega
theorem Dv{l:Int}{a:Nat}(h:l-a<0):j4 l a= -1:=if_pos h
theorem ML{l:Int}{a:Nat}(h:0≤l-a):j4 l a=l-a:=if_neg (by omega)
theorem int_eq{k:IntKind}{a b:Int}(h:a=b):V.c (.d (.i k a))=V.c (.d (.i k b)):=by rw[h]
theorem aK{a b:Bool}(h:a=b):V.c (.d (.b a))=V.c (.d (.b b)):=by rw[h]
noncomputable def dec(p:Prop):Bool:= @decide p (Classical.propDecidable p)
theorem cK{p:Prop}(h:p):dec p=true:=by simp[dec,h]
theorem aN{p:Prop}(h:¬p):dec p=false:=by simp[dec,h]
theorem iK{p:Prop}(h:dec p=true):p:=by simpa [dec] using h
theorem lN{p:Prop}(h:dec p=false):¬p:=by simpa [dec] using h
theorem uJ{p:Prop}:(dec p=true)=p:=by simp[dec]
theorem BN{p:Prop}:(dec p=false)=¬p:=by simp[dec]
attribute [wf_preprocess] uJ BN
theorem mh{p q:Prop}(h:p↔q):dec p=dec q:=by rw[propext h]
theorem Y0:dec True=true:=cK trivial
theorem VW:dec False=false:=aN id
attribute [go_sem] Y0 VW
theorem mo{p:Prop}[Decidable p]:decide p=dec p:=by by_cases h:p<;>simp[dec,h]
theorem gY{r:List D}:∀{rs:List (List D)},r∈rs→bS r≤dz rs
 |a::rs,h=>by
  rw[dz]
  rcases List.mem_cons.1 h with rfl|h
  ·omega
  ·have:=gY h;omega
def BO(z i:Nat)(R rows:List (List D)):Prop:=R.length=rows.length∧(∀r∈R,r.length=z)∧∀j,j<i→R[j]? =rows[j]?
theorem BO.step{z i:Nat}{R rows:List (List D)}{row:List D}(h:BO z i R rows)(hi:rows[i]? =some row)(hr:row.length=z):BO z (i+1) (R.set i (oJ (R.getD i []) 0 row)) rows:=by
 obtain⟨h1,h2,h3⟩:=h
 have hlt:i<rows.length:=(List.getElem?_eq_some_iff.1 hi).1
 have hs:oJ (R.getD i []) 0 row=row:=by
  have hm:R.getD i []∈R:=by
   rw[List.getD_eq_getElem?_getD,List.getElem?_eq_getElem (by omega)]
   exact List.getElem_mem _
  have:=h2 _ hm
  unfold oJ
  rw[List.take_zero,List.nil_append,Nat.zero_add,hr,List.drop_eq_nil_of_le (by omega),List.append_nil]
 rw[hs]
 refine⟨by simpa using h1,fun r hr'=> ?_,fun j hj=> ?_⟩
 ·rcases List.mem_or_eq_of_mem_set hr' with h|h
  ·exact h2 r h
  ·rw[h];exact hr
 ·by_cases e:j=i
  ·subst e
   rw[hi,List.getElem?_set_self (by omega)]
  ·rw[List.getElem?_set_ne (by omega)]
   exact h3 j (by omega)
theorem BO.done{z i:Nat}{R rows:List (List D)}(h:BO z i R rows)(hi:rows.length≤i):R=rows:=by
 obtain⟨h1,h2,h3⟩:=h
 refine List.ext_getElem? fun j=> ?_
 by_cases hj:j<i
 ·exact h3 j hj
 ·rw[List.getElem?_eq_none (by omega),List.getElem?_eq_none (by omega)]
end Go.Ab
namespace Go.Ab
def encS(s:List UInt8):List D:=[.s s]
def encI(n:Int):List D:=[.i .i64 n]
inductive ak where
 |mk (aH:Int) (fName:List UInt8) (fArgs:List ak)
def ak.aH:ak→Int| .mk x _ _=>x
def ak.fName:ak→List UInt8| .mk _ x _=>x
def ak.fArgs:ak→List ak| .mk _ _ x=>x
theorem ak.eta(x:ak):ak.mk x.aH x.fName x.fArgs=x:=by cases x;rfl
theorem ak.ext{x y:ak}(h0:x.aH=y.aH)(h1:x.fName=y.fName)(h2:x.fArgs=y.fArgs):x=y:=by
 rw[←ak.eta x,←ak.eta y,h0,h1,h2]
mutual
def ak.enc:ak→List D
 | .mk a0 a1 a2=>[.i .i64 a0,.s a1,.sl (ak.encs a2)]
def ak.encs:List ak→List (List D)
 |[]=>[]
 |x::xs=>x.enc::ak.encs xs
end
theorem ak.iE:∀l,ak.encs l=l.map ak.enc
 |[]=>rfl
 |x::xs=>by rw[ak.encs,List.map_cons,ak.iE xs]
theorem ak.aC(x:ak):x.enc=[.i .i64 x.aH,.s x.fName,.sl (x.fArgs.map ak.enc)]:=by
 cases x;simp only[ak.enc,ak.iE,ak.aH,ak.fName,ak.fArgs]
abbrev ak.v (x:ak):V:=.agg [.d (.i .i64 x.aH),.d (.s x.fName),.d (.sl (x.fArgs.map ak.enc))]
theorem ak.nV(x:ak): .agg (x.enc.map .d)=x.v:=by
 simp only[ak.aC,List.map_cons,List.map_nil,List.cons_append,List.nil_append,List.map_append]
theorem ak.bA(x:ak):x.enc.length=3:=by
 simp only[ak.aC,List.length_append,List.length_cons,List.length_nil]
def ak.sz(x:ak):Nat:=bS x.enc
theorem ak.gJ(x:ak):bS x.enc=x.sz:=rfl
theorem ak.gF(x:ak):SizeOf.sizeOf x.fArgs<SizeOf.sizeOf x:=by cases x;simp[ak.fArgs];omega
structure bP where
 fVar:List UInt8
 fType:ak
def bP.enc(x:bP):List D:=[.s x.fVar]++(x.fType.enc)
theorem bP.aC(x:bP):x.enc=[.s x.fVar]++(x.fType.enc):=rfl
theorem bP.eta(x:bP):bP.mk x.fVar x.fType=x:=rfl
theorem bP.ext'{x y:bP}(h0:x.fVar=y.fVar)(h1:x.fType=y.fType):x=y:=by
 cases x;cases y;simp_all
abbrev bP.v (x:bP):V:=.agg [.d (.s x.fVar),.d (.i .i64 x.fType.aH),.d (.s x.fType.fName),.d (.sl (x.fType.fArgs.map ak.enc))]
theorem bP.nV(x:bP): .agg (x.enc.map .d)=x.v:=by
 simp only[bP.aC,ak.aC,List.map_cons,List.map_nil,List.cons_append,List.nil_append,List.map_append]
theorem bP.bA(x:bP):x.enc.length=4:=by
 simp only[bP.aC,ak.bA,List.length_append,List.length_cons,List.length_nil]
def bP.sz(x:bP):Nat:=bS x.enc
theorem bP.gJ(x:bP):bS x.enc=x.sz:=rfl
structure dI where
 aU:List UInt8
 fType:ak
def dI.enc(x:dI):List D:=[.s x.aU]++(x.fType.enc)
theorem dI.aC(x:dI):x.enc=[.s x.aU]++(x.fType.enc):=rfl
theorem dI.eta(x:dI):dI.mk x.aU x.fType=x:=rfl
theorem dI.ext'{x y:dI}(h0:x.aU=y.aU)(h1:x.fType=y.fType):x=y:=by
 cases x;cases y;simp_all
abbrev dI.v (x:dI):V:=.agg [.d (.s x.aU),.d (.i .i64 x.fType.aH),.d (.s x.fType.fName),.d (.sl (x.fType.fArgs.map ak.enc))]
theorem dI.nV(x:dI): .agg (x.enc.map .d)=x.v:=by
 simp only[dI.aC,ak.aC,List.map_cons,List.map_nil,List.cons_append,List.nil_append,List.map_append]
theorem dI.bA(x:dI):x.enc.length=4:=by
 simp only[dI.aC,ak.bA,List.length_append,List.length_cons,List.length_nil]
def dI.sz(x:dI):Nat:=bS x.enc
theorem dI.gJ(x:dI):bS x.enc=x.sz:=rfl
mutual
inductive aj where
 |mk (aH:Int) (aU:List UInt8) (fName:List UInt8) (fN:Int) (fType:ak) (fArgs:List aj) (aG:List aA)
inductive aA where
 |mk (bC:List UInt8) (aS:List (List UInt8)) (fBody:aj)
end
def aj.aH:aj→Int| .mk x _ _ _ _ _ _=>x
def aj.aU:aj→List UInt8| .mk _ x _ _ _ _ _=>x
def aj.fName:aj→List UInt8| .mk _ _ x _ _ _ _=>x
def aj.fN:aj→Int| .mk _ _ _ x _ _ _=>x
def aj.fType:aj→ak| .mk _ _ _ _ x _ _=>x
def aj.fArgs:aj→List aj| .mk _ _ _ _ _ x _=>x
def aj.aG:aj→List aA| .mk _ _ _ _ _ _ x=>x
theorem aj.eta(x:aj):aj.mk x.aH x.aU x.fName x.fN x.fType x.fArgs x.aG=x:=by cases x;rfl
theorem aj.ext{x y:aj}(h0:x.aH=y.aH)(h1:x.aU=y.aU)(h2:x.fName=y.fName)(h3:x.fN=y.fN)(h4:x.fType=y.fType)(h5:x.fArgs=y.fArgs)(h6:x.aG=y.aG):x=y:=by
 rw[←aj.eta x,←aj.eta y,h0,h1,h2,h3,h4,h5,h6]
def aA.bC:aA→List UInt8| .mk x _ _=>x
def aA.aS:aA→List (List UInt8)| .mk _ x _=>x
def aA.fBody:aA→aj| .mk _ _ x=>x
theorem aA.eta(x:aA):aA.mk x.bC x.aS x.fBody=x:=by cases x;rfl
theorem aA.ext{x y:aA}(h0:x.bC=y.bC)(h1:x.aS=y.aS)(h2:x.fBody=y.fBody):x=y:=by
 rw[←aA.eta x,←aA.eta y,h0,h1,h2]
mutual
def aj.enc:aj→List D
 | .mk a0 a1 a2 a3 a4 a5 a6=>[.i .i64 a0,.s a1,.s a2,.i .i64 a3]++(a4.enc++([.sl (aj.encs a5),.sl (aA.encs a6)]))
def aj.encs:List aj→List (List D)
 |[]=>[]
 |x::xs=>x.enc::aj.encs xs
def aA.enc:aA→List D
 | .mk a0 a1 a2=>[.s a0,.sl (a1.map encS)]++(aj.enc a2)
def aA.encs:List aA→List (List D)
 |[]=>[]
 |x::xs=>x.enc::aA.encs xs
end
theorem aj.iE:∀l,aj.encs l=l.map aj.enc
 |[]=>rfl
 |x::xs=>by rw[aj.encs,List.map_cons,aj.iE xs]
theorem aA.iE:∀l,aA.encs l=l.map aA.enc
 |[]=>rfl
 |x::xs=>by rw[aA.encs,List.map_cons,aA.iE xs]
theorem aj.aC(x:aj):x.enc=[.i .i64 x.aH,.s x.aU,.s x.fName,.i .i64 x.fN]++(x.fType.enc++([.sl (x.fArgs.map aj.enc),.sl (x.aG.map aA.enc)])):=by
 cases x;simp only[aj.enc,aj.iE,aA.iE,aj.aH,aj.aU,aj.fName,aj.fN,aj.fType,aj.fArgs,aj.aG]
theorem aA.aC(x:aA):x.enc=[.s x.bC,.sl (x.aS.map encS)]++(x.fBody.enc):=by
 cases x;simp only[aA.enc,aj.iE,aA.iE,aA.bC,aA.aS,aA.fBody]
abbrev aj.v (x:aj):V:=.agg [.d (.i .i64 x.aH),.d (.s x.aU),.d (.s x.fName),.d (.i .i64 x.fN),.d (.i .i64 x.fType.aH),.d (.s x.fType.fName),.d (.sl (x.fType.fArgs.map ak.enc)),.d (.sl (x.fArgs.map aj.enc)),.d (.sl (x.aG.map aA.enc))]
theorem aj.nV(x:aj): .agg (x.enc.map .d)=x.v:=by
 simp only[aj.aC,ak.aC,List.map_cons,List.map_nil,List.cons_append,List.nil_append,List.map_append]
theorem aj.bA(x:aj):x.enc.length=9:=by
 simp only[aj.aC,ak.bA,List.length_append,List.length_cons,List.length_nil]
def aj.sz(x:aj):Nat:=bS x.enc
theorem aj.gJ(x:aj):bS x.enc=x.sz:=rfl
theorem aj.gF(x:aj):SizeOf.sizeOf x.fArgs<SizeOf.sizeOf x:=by cases x;simp[aj.fArgs];omega
theorem aj.nk(x:aj):SizeOf.sizeOf x.aG<SizeOf.sizeOf x:=by cases x;simp[aj.aG];omega
abbrev aA.v (x:aA):V:=.agg [.d (.s x.bC),.d (.sl (x.aS.map encS)),.d (.i .i64 x.fBody.aH),.d (.s x.fBody.aU),.d (.s x.fBody.fName),.d (.i .i64 x.fBody.fN),.d (.i .i64 x.fBody.fType.aH),.d (.s x.fBody.fType.fName),.d (.sl (x.fBody.fType.fArgs.map ak.enc)),.d (.sl (x.fBody.fArgs.map aj.enc)),.d (.sl (x.fBody.aG.map aA.enc))]
theorem aA.nV(x:aA): .agg (x.enc.map .d)=x.v:=by
 simp only[aA.aC,aj.aC,ak.aC,List.map_cons,List.map_nil,List.cons_append,List.nil_append,List.map_append]
theorem aA.bA(x:aA):x.enc.length=11:=by
 simp only[aA.aC,aj.bA,List.length_append,List.length_cons,List.length_nil]
def aA.sz(x:aA):Nat:=bS x.enc
theorem aA.gJ(x:aA):bS x.enc=x.sz:=rfl
theorem aA.l5(x:aA):SizeOf.sizeOf x.fBody<SizeOf.sizeOf x:=by cases x;simp[aA.fBody];omega
inductive ah where
 |mk (aI:List UInt8) (au:List ah)
def ah.aI:ah→List UInt8| .mk x _=>x
def ah.au:ah→List ah| .mk _ x=>x
theorem ah.eta(x:ah):ah.mk x.aI x.au=x:=by cases x;rfl
theorem ah.ext{x y:ah}(h0:x.aI=y.aI)(h1:x.au=y.au):x=y:=by
 rw[←ah.eta x,←ah.eta y,h0,h1]
mutual
def ah.enc:ah→List D
 | .mk a0 a1=>[.s a0,.sl (ah.encs a1)]
def ah.encs:List ah→List (List D)
 |[]=>[]
 |x::xs=>x.enc::ah.encs xs
end
theorem ah.iE:∀l,ah.encs l=l.map ah.enc
 |[]=>rfl
 |x::xs=>by rw[ah.encs,List.map_cons,ah.iE xs]
theorem ah.aC(x:ah):x.enc=[.s x.aI,.sl (x.au.map ah.enc)]:=by
 cases x;simp only[ah.enc,ah.iE,ah.aI,ah.au]
abbrev ah.v (x:ah):V:=.agg [.d (.s x.aI),.d (.sl (x.au.map ah.enc))]
theorem ah.nV(x:ah): .agg (x.enc.map .d)=x.v:=by
 simp only[ah.aC,List.map_cons,List.map_nil,List.cons_append,List.nil_append,List.map_append]
theorem ah.bA(x:ah):x.enc.length=2:=by
 simp only[ah.aC,List.length_append,List.length_cons,List.length_nil]
def ah.sz(x:ah):Nat:=bS x.enc
theorem ah.gJ(x:ah):bS x.enc=x.sz:=rfl
theorem ah.oM(x:ah):SizeOf.sizeOf x.au<SizeOf.sizeOf x:=by cases x;simp[ah.au];omega
structure bN where
 fName:List UInt8
 jr:List ak
 gU:ak
 oN:Bool
 aS:List (List UInt8)
 fBody:aj
def bN.enc(x:bN):List D:=[.s x.fName,.sl (x.jr.map ak.enc)]++(x.gU.enc++([.b x.oN,.sl (x.aS.map encS)]++(x.fBody.enc)))
theorem bN.aC(x:bN):x.enc=[.s x.fName,.sl (x.jr.map ak.enc)]++(x.gU.enc++([.b x.oN,.sl (x.aS.map encS)]++(x.fBody.enc))):=rfl
theorem bN.eta(x:bN):bN.mk x.fName x.jr x.gU x.oN x.aS x.fBody=x:=rfl
theorem bN.ext'{x y:bN}(h0:x.fName=y.fName)(h1:x.jr=y.jr)(h2:x.gU=y.gU)(h3:x.oN=y.oN)(h4:x.aS=y.aS)(h5:x.fBody=y.fBody):x=y:=by
 cases x;cases y;simp_all
abbrev bN.v (x:bN):V:=.agg [.d (.s x.fName),.d (.sl (x.jr.map ak.enc)),.d (.i .i64 x.gU.aH),.d (.s x.gU.fName),.d (.sl (x.gU.fArgs.map ak.enc)),.d (.b x.oN),.d (.sl (x.aS.map encS)),.d (.i .i64 x.fBody.aH),.d (.s x.fBody.aU),.d (.s x.fBody.fName),.d (.i .i64 x.fBody.fN),.d (.i .i64 x.fBody.fType.aH),.d (.s x.fBody.fType.fName),.d (.sl (x.fBody.fType.fArgs.map ak.enc)),.d (.sl (x.fBody.fArgs.map aj.enc)),.d (.sl (x.fBody.aG.map aA.enc))]
theorem bN.nV(x:bN): .agg (x.enc.map .d)=x.v:=by
 simp only[bN.aC,aj.aC,ak.aC,List.map_cons,List.map_nil,List.cons_append,List.nil_append,List.map_append]
theorem bN.bA(x:bN):x.enc.length=16:=by
 simp only[bN.aC,aj.bA,ak.bA,List.length_append,List.length_cons,List.length_nil]
def bN.sz(x:bN):Nat:=bS x.enc
theorem bN.gJ(x:bN):bS x.enc=x.sz:=rfl
structure d9 where
 fName:List UInt8
 kE:List (List UInt8)
 Dw:Bool
 kF:Bool
 lq:List bN
def d9.enc(x:d9):List D:=[.s x.fName,.sl (x.kE.map encS),.b x.Dw,.b x.kF,.sl (x.lq.map bN.enc)]
theorem d9.aC(x:d9):x.enc=[.s x.fName,.sl (x.kE.map encS),.b x.Dw,.b x.kF,.sl (x.lq.map bN.enc)]:=rfl
theorem d9.eta(x:d9):d9.mk x.fName x.kE x.Dw x.kF x.lq=x:=rfl
theorem d9.ext'{x y:d9}(h0:x.fName=y.fName)(h1:x.kE=y.kE)(h2:x.Dw=y.Dw)(h3:x.kF=y.kF)(h4:x.lq=y.lq):x=y:=by
 cases x;cases y;simp_all
abbrev d9.v (x:d9):V:=.agg [.d (.s x.fName),.d (.sl (x.kE.map encS)),.d (.b x.Dw),.d (.b x.kF),.d (.sl (x.lq.map bN.enc))]
theorem d9.nV(x:d9): .agg (x.enc.map .d)=x.v:=by
 simp only[d9.aC,List.map_cons,List.map_nil,List.cons_append,List.nil_append,List.map_append]
theorem d9.bA(x:d9):x.enc.length=5:=by
 simp only[d9.aC,List.length_append,List.length_cons,List.length_nil]
def d9.sz(x:d9):Nat:=bS x.enc
theorem d9.gJ(x:d9):bS x.enc=x.sz:=rfl
structure bg where
 fName:List UInt8
 nu:List ak
def bg.enc(x:bg):List D:=[.s x.fName,.sl (x.nu.map ak.enc)]
theorem bg.aC(x:bg):x.enc=[.s x.fName,.sl (x.nu.map ak.enc)]:=rfl
theorem bg.eta(x:bg):bg.mk x.fName x.nu=x:=rfl
theorem bg.ext'{x y:bg}(h0:x.fName=y.fName)(h1:x.nu=y.nu):x=y:=by
 cases x;cases y;simp_all
abbrev bg.v (x:bg):V:=.agg [.d (.s x.fName),.d (.sl (x.nu.map ak.enc))]
theorem bg.nV(x:bg): .agg (x.enc.map .d)=x.v:=by
 simp only[bg.aC,List.map_cons,List.map_nil,List.cons_append,List.nil_append,List.map_append]
theorem bg.bA(x:bg):x.enc.length=2:=by
 simp only[bg.aC,List.length_append,List.length_cons,List.length_nil]
def bg.sz(x:bg):Nat:=bS x.enc
theorem bg.gJ(x:bg):bS x.enc=x.sz:=rfl
structure bO where
 fName:List UInt8
 aS:List (List UInt8)
 je:List bg
def bO.enc(x:bO):List D:=[.s x.fName,.sl (x.aS.map encS),.sl (x.je.map bg.enc)]
theorem bO.aC(x:bO):x.enc=[.s x.fName,.sl (x.aS.map encS),.sl (x.je.map bg.enc)]:=rfl
theorem bO.eta(x:bO):bO.mk x.fName x.aS x.je=x:=rfl
theorem bO.ext'{x y:bO}(h0:x.fName=y.fName)(h1:x.aS=y.aS)(h2:x.je=y.je):x=y:=by
 cases x;cases y;simp_all
abbrev bO.v (x:bO):V:=.agg [.d (.s x.fName),.d (.sl (x.aS.map encS)),.d (.sl (x.je.map bg.enc))]
theorem bO.nV(x:bO): .agg (x.enc.map .d)=x.v:=by
 simp only[bO.aC,List.map_cons,List.map_nil,List.cons_append,List.nil_append,List.map_append]
theorem bO.bA(x:bO):x.enc.length=3:=by
 simp only[bO.aC,List.length_append,List.length_cons,List.length_nil]
def bO.sz(x:bO):Nat:=bS x.enc
theorem bO.gJ(x:bO):bS x.enc=x.sz:=rfl
structure dG where
 fName:List UInt8
 aS:List (List UInt8)
 fBody:aj
def dG.enc(x:dG):List D:=[.s x.fName,.sl (x.aS.map encS)]++(x.fBody.enc)
theorem dG.aC(x:dG):x.enc=[.s x.fName,.sl (x.aS.map encS)]++(x.fBody.enc):=rfl
theorem dG.eta(x:dG):dG.mk x.fName x.aS x.fBody=x:=rfl
theorem dG.ext'{x y:dG}(h0:x.fName=y.fName)(h1:x.aS=y.aS)(h2:x.fBody=y.fBody):x=y:=by
 cases x;cases y;simp_all
abbrev dG.v (x:dG):V:=.agg [.d (.s x.fName),.d (.sl (x.aS.map encS)),.d (.i .i64 x.fBody.aH),.d (.s x.fBody.aU),.d (.s x.fBody.fName),.d (.i .i64 x.fBody.fN),.d (.i .i64 x.fBody.fType.aH),.d (.s x.fBody.fType.fName),.d (.sl (x.fBody.fType.fArgs.map ak.enc)),.d (.sl (x.fBody.fArgs.map aj.enc)),.d (.sl (x.fBody.aG.map aA.enc))]
theorem dG.nV(x:dG): .agg (x.enc.map .d)=x.v:=by
 simp only[dG.aC,aj.aC,ak.aC,List.map_cons,List.map_nil,List.cons_append,List.nil_append,List.map_append]
theorem dG.bA(x:dG):x.enc.length=11:=by
 simp only[dG.aC,aj.bA,List.length_append,List.length_cons,List.length_nil]
def dG.sz(x:dG):Nat:=bS x.enc
theorem dG.gJ(x:dG):bS x.enc=x.sz:=rfl
structure bU where
 aU:List UInt8
 aS:List (List UInt8)
 uK:ak
 kG:List dI
 tZ:Bool
 rG:Bool
 kF:ak
 p9:List dG
def bU.enc(x:bU):List D:=[.s x.aU,.sl (x.aS.map encS)]++(x.uK.enc++([.sl (x.kG.map dI.enc),.b x.tZ,.b x.rG]++(x.kF.enc++([.sl (x.p9.map dG.enc)]))))
theorem bU.aC(x:bU):x.enc=[.s x.aU,.sl (x.aS.map encS)]++(x.uK.enc++([.sl (x.kG.map dI.enc),.b x.tZ,.b x.rG]++(x.kF.enc++([.sl (x.p9.map dG.enc)])))):=rfl
theorem bU.eta(x:bU):bU.mk x.aU x.aS x.uK x.kG x.tZ x.rG x.kF x.p9=x:=rfl
theorem bU.ext'{x y:bU}(h0:x.aU=y.aU)(h1:x.aS=y.aS)(h2:x.uK=y.uK)(h3:x.kG=y.kG)(h4:x.tZ=y.tZ)(h5:x.rG=y.rG)(h6:x.kF=y.kF)(h7:x.p9=y.p9):x=y:=by
 cases x;cases y;simp_all
abbrev bU.v (x:bU):V:=.agg [.d (.s x.aU),.d (.sl (x.aS.map encS)),.d (.i .i64 x.uK.aH),.d (.s x.uK.fName),.d (.sl (x.uK.fArgs.map ak.enc)),.d (.sl (x.kG.map dI.enc)),.d (.b x.tZ),.d (.b x.rG),.d (.i .i64 x.kF.aH),.d (.s x.kF.fName),.d (.sl (x.kF.fArgs.map ak.enc)),.d (.sl (x.p9.map dG.enc))]
theorem bU.nV(x:bU): .agg (x.enc.map .d)=x.v:=by
 simp only[bU.aC,ak.aC,List.map_cons,List.map_nil,List.cons_append,List.nil_append,List.map_append]
theorem bU.bA(x:bU):x.enc.length=12:=by
 simp only[bU.aC,ak.bA,List.length_append,List.length_cons,List.length_nil]
def bU.sz(x:bU):Nat:=bS x.enc
theorem bU.gJ(x:bU):bS x.enc=x.sz:=rfl
structure eu where
 fName:List UInt8
 fType:ak
def eu.enc(x:eu):List D:=[.s x.fName]++(x.fType.enc)
theorem eu.aC(x:eu):x.enc=[.s x.fName]++(x.fType.enc):=rfl
theorem eu.eta(x:eu):eu.mk x.fName x.fType=x:=rfl
theorem eu.ext'{x y:eu}(h0:x.fName=y.fName)(h1:x.fType=y.fType):x=y:=by
 cases x;cases y;simp_all
abbrev eu.v (x:eu):V:=.agg [.d (.s x.fName),.d (.i .i64 x.fType.aH),.d (.s x.fType.fName),.d (.sl (x.fType.fArgs.map ak.enc))]
theorem eu.nV(x:eu): .agg (x.enc.map .d)=x.v:=by
 simp only[eu.aC,ak.aC,List.map_cons,List.map_nil,List.cons_append,List.nil_append,List.map_append]
theorem eu.bA(x:eu):x.enc.length=4:=by
 simp only[eu.aC,ak.bA,List.length_append,List.length_cons,List.length_nil]
def eu.sz(x:eu):Nat:=bS x.enc
theorem eu.gJ(x:eu):bS x.enc=x.sz:=rfl
structure bV where
 fName:List UInt8
 aS:List (List UInt8)
 kG:List dI
 jr:List eu
 gU:ak
 fBody:aj
def bV.enc(x:bV):List D:=[.s x.fName,.sl (x.aS.map encS),.sl (x.kG.map dI.enc),.sl (x.jr.map eu.enc)]++(x.gU.enc++(x.fBody.enc))
theorem bV.aC(x:bV):x.enc=[.s x.fName,.sl (x.aS.map encS),.sl (x.kG.map dI.enc),.sl (x.jr.map eu.enc)]++(x.gU.enc++(x.fBody.enc)):=rfl
theorem bV.eta(x:bV):bV.mk x.fName x.aS x.kG x.jr x.gU x.fBody=x:=rfl
theorem bV.ext'{x y:bV}(h0:x.fName=y.fName)(h1:x.aS=y.aS)(h2:x.kG=y.kG)(h3:x.jr=y.jr)(h4:x.gU=y.gU)(h5:x.fBody=y.fBody):x=y:=by
 cases x;cases y;simp_all
abbrev bV.v (x:bV):V:=.agg [.d (.s x.fName),.d (.sl (x.aS.map encS)),.d (.sl (x.kG.map dI.enc)),.d (.sl (x.jr.map eu.enc)),.d (.i .i64 x.gU.aH),.d (.s x.gU.fName),.d (.sl (x.gU.fArgs.map ak.enc)),.d (.i .i64 x.fBody.aH),.d (.s x.fBody.aU),.d (.s x.fBody.fName),.d (.i .i64 x.fBody.fN),.d (.i .i64 x.fBody.fType.aH),.d (.s x.fBody.fType.fName),.d (.sl (x.fBody.fType.fArgs.map ak.enc)),.d (.sl (x.fBody.fArgs.map aj.enc)),.d (.sl (x.fBody.aG.map aA.enc))]
theorem bV.nV(x:bV): .agg (x.enc.map .d)=x.v:=by
 simp only[bV.aC,aj.aC,ak.aC,List.map_cons,List.map_nil,List.cons_append,List.nil_append,List.map_append]
theorem bV.bA(x:bV):x.enc.length=16:=by
 simp only[bV.aC,aj.bA,ak.bA,List.length_append,List.length_cons,List.length_nil]
def bV.sz(x:bV):Nat:=bS x.enc
theorem bV.gJ(x:bV):bS x.enc=x.sz:=rfl
structure cZ where
 fName:List UInt8
 yx:List (List UInt8)
 rH:List d9
 mq:List bO
 mD:List bU
 mE:List bV
def cZ.enc(x:cZ):List D:=[.s x.fName,.sl (x.yx.map encS),.sl (x.rH.map d9.enc),.sl (x.mq.map bO.enc),.sl (x.mD.map bU.enc),.sl (x.mE.map bV.enc)]
theorem cZ.aC(x:cZ):x.enc=[.s x.fName,.sl (x.yx.map encS),.sl (x.rH.map d9.enc),.sl (x.mq.map bO.enc),.sl (x.mD.map bU.enc),.sl (x.mE.map bV.enc)]:=rfl
theorem cZ.eta(x:cZ):cZ.mk x.fName x.yx x.rH x.mq x.mD x.mE=x:=rfl
theorem cZ.ext'{x y:cZ}(h0:x.fName=y.fName)(h1:x.yx=y.yx)(h2:x.rH=y.rH)(h3:x.mq=y.mq)(h4:x.mD=y.mD)(h5:x.mE=y.mE):x=y:=by
 cases x;cases y;simp_all
abbrev cZ.v (x:cZ):V:=.agg [.d (.s x.fName),.d (.sl (x.yx.map encS)),.d (.sl (x.rH.map d9.enc)),.d (.sl (x.mq.map bO.enc)),.d (.sl (x.mD.map bU.enc)),.d (.sl (x.mE.map bV.enc))]
theorem cZ.nV(x:cZ): .agg (x.enc.map .d)=x.v:=by
 simp only[cZ.aC,List.map_cons,List.map_nil,List.cons_append,List.nil_append,List.map_append]
theorem cZ.bA(x:cZ):x.enc.length=6:=by
 simp only[cZ.aC,List.length_append,List.length_cons,List.length_nil]
def cZ.sz(x:cZ):Nat:=bS x.enc
theorem cZ.gJ(x:cZ):bS x.enc=x.sz:=rfl
structure dO where
 nI:List cZ
def dO.enc(x:dO):List D:=[.sl (x.nI.map cZ.enc)]
theorem dO.aC(x:dO):x.enc=[.sl (x.nI.map cZ.enc)]:=rfl
theorem dO.eta(x:dO):dO.mk x.nI=x:=rfl
theorem dO.ext'{x y:dO}(h0:x.nI=y.nI):x=y:=by
 cases x;cases y;simp_all
abbrev dO.v (x:dO):V:=.agg [.d (.sl (x.nI.map cZ.enc))]
theorem dO.nV(x:dO): .agg (x.enc.map .d)=x.v:=by
 simp only[dO.aC,List.map_cons,List.map_nil,List.cons_append,List.nil_append,List.map_append]
theorem dO.bA(x:dO):x.enc.length=1:=by
 simp only[dO.aC,List.length_append,List.length_cons,List.length_nil]
def dO.sz(x:dO):Nat:=bS x.enc
theorem dO.gJ(x:dO):bS x.enc=x.sz:=rfl
structure bL where
 uf:Int
 Qt:Int
def bL.enc(x:bL):List D:=[.i .i64 x.uf,.i .i64 x.Qt]
theorem bL.aC(x:bL):x.enc=[.i .i64 x.uf,.i .i64 x.Qt]:=rfl
theorem bL.eta(x:bL):bL.mk x.uf x.Qt=x:=rfl
theorem bL.ext'{x y:bL}(h0:x.uf=y.uf)(h1:x.Qt=y.Qt):x=y:=by
 cases x;cases y;simp_all
abbrev bL.v (x:bL):V:=.agg [.d (.i .i64 x.uf),.d (.i .i64 x.Qt)]
theorem bL.nV(x:bL): .agg (x.enc.map .d)=x.v:=by
 simp only[bL.aC,List.map_cons,List.map_nil,List.cons_append,List.nil_append,List.map_append]
theorem bL.bA(x:bL):x.enc.length=2:=by
 simp only[bL.aC,List.length_append,List.length_cons,List.length_nil]
def bL.sz(x:bL):Nat:=bS x.enc
theorem bL.gJ(x:bL):bS x.enc=x.sz:=rfl
attribute [go_sem] ak.aC bP.aC dI.aC aj.aC aA.aC ah.aC bN.aC d9.aC bg.aC bO.aC dG.aC bU.aC eu.aC bV.aC cZ.aC dO.aC bL.aC encS encI
end Go.Ab
namespace Go.Ab
def Qu:List bP→List UInt8→Option ak
 |[],_=>none
 |b::bs,v=>if b.fVar=v then some b.fType else Qu bs v
mutual
noncomputable def xD(s:List bP):ak→ak→Option (List bP)
 | .mk k n a,t=>
   if k=1 then
    match Qu s n with
    |some u=>if dec (u=t)=true then some s else none
    |none=>some (s++[⟨n,t⟩])
   else if k=t.aH∧n=t.fName∧a.length=t.fArgs.length then qF s a t.fArgs else none
noncomputable def qF(s:List bP):List ak→List ak→Option (List bP)
 |[],_=>some s
 |_::_,[]=>none
 |p::ps,t::ts=>
  match xD s p t with
  |some s'=>qF s' ps ts
  |none=>none
end
mutual
def ak.cnt:ak→Nat
 | .mk _ _ a=>1+ak.dS a
def ak.dS:List ak→Nat
 |[]=>0
 |t::ts=>t.cnt+ak.dS ts
end
theorem ak.oz(t:ak):t.cnt=1+ak.dS t.fArgs:=by cases t;rw[ak.cnt];rfl
mutual
theorem oC:∀t:ak,t.cnt≤1+t.sz
 | .mk k n a=>by
   have h:=rJ a
   rw[ak.cnt]
   have e:(ak.mk k n a).sz=n.length+(a.length+dz (a.map ak.enc)):=by
    simp only[ak.sz,ak.aC,bS,D.sz,List.length_map,ak.fName,ak.fArgs,Nat.add_zero,Nat.zero_add]
   omega
theorem rJ:∀ts:List ak,ak.dS ts≤ts.length+dz (ts.map ak.enc)
 |[]=>by simp[ak.dS]
 |t::ts=>by
  have h1:=oC t
  have h2:=rJ ts
  rw[ak.dS,List.length_cons,List.map_cons,dz,ak.gJ]
  omega
end
mutual
theorem SI:∀(p:ak) (s:List bP) (t:ak) (s':List bP),xD s p t=some s'→s'.length≤s.length+p.cnt
 | .mk k n a,s,t,s',h=>by
   rw[xD] at h
   rw[ak.cnt]
   split at h
   ·split at h
    ·split at h
     ·cases h;omega
     ·cases h
    ·cases h;simp
   ·split at h
    ·have:=F7 a s t.fArgs s' h;omega
    ·cases h
theorem F7:∀(ps:List ak) (s:List bP) (ts:List ak) (s':List bP),qF s ps ts=some s'→s'.length≤s.length+ak.dS ps
 |[],s,ts,s',h=>by rw[qF] at h;cases h;omega
 |p::ps,s,[],s',h=>by rw[qF] at h;cases h
 |p::ps,s,t::ts,s',h=>by
  rw[qF] at h
  rw[ak.dS]
  cases hm:xD s p t with
  |none=>rw[hm] at h;cases h
  |some s1=>
   rw[hm] at h
   have h1:=SI p s t s1 hm
   have h2:=F7 ps s1 ts s' h
   omega
end
def Small(s:List bP):Prop:=∀b∈s,b.fType.sz≤4194304
mutual
theorem MN:∀(p:ak) (s:List bP) (t:ak) (s':List bP),t.sz≤4194304→Small s→xD s p t=some s'→Small s'
 | .mk k n a,s,t,s',ht,hs,h=>by
   rw[xD] at h
   split at h
   ·split at h
    ·split at h
     ·cases h;exact hs
     ·cases h
    ·cases h
     intro b hb
     rcases List.mem_append.1 hb with hb|hb
     ·exact hs b hb
     ·simp at hb;subst hb;exact ht
   ·split at h
    ·refine BP a s t.fArgs s' ?_ hs h
     intro x hx
     have h1:=gY (List.mem_map_of_mem (f:=ak.enc) hx)
     have h2:t.sz=t.fName.length+(t.fArgs.length+dz (t.fArgs.map ak.enc)):=by
      simp only[ak.sz,ak.aC,bS,eT,D.sz,List.length_map,Nat.add_zero,Nat.zero_add]
     rw[ak.gJ] at h1
     omega
    ·cases h
theorem BP:∀(ps:List ak) (s:List bP) (ts:List ak) (s':List bP),(∀t∈ts,t.sz≤4194304)→Small s→qF s ps ts=some s'→Small s'
 |[],s,ts,s',ht,hs,h=>by rw[qF] at h;cases h;exact hs
 |p::ps,s,[],s',ht,hs,h=>by rw[qF] at h;cases h
 |p::ps,s,t::ts,s',ht,hs,h=>by
  rw[qF] at h
  cases hm:xD s p t with
  |none=>rw[hm] at h;cases h
  |some s1=>
   rw[hm] at h
   exact BP ps s1 ts s' (fun x hx=>ht x (by simp[hx])) (MN p s t s1 (ht t (by simp)) hs hm) h
end
end Go.Ab
namespace Go.Ab
def lowerB(b:UInt8):Prop:=97≤b.toNat∧b.toNat≤122
def mF(b:UInt8):Prop:=48≤b.toNat∧b.toNat≤57
def MO(s:List UInt8):Prop:=∀i,i<s.length→lowerB (s.getD i 0)∨(i≠0∧mF (s.getD i 0))
def reserved:List (List UInt8):=[[105,110,116],[98,111,111,108],[97,115,115,111,99],[100,121,110],[105,102],[108,101,116],[99,97,115,101],[110,101,119],[109,101,116,104,111,100],[112,97,99,107],[116,114,117,101],[102,97,108,115,101]]
noncomputable def validName(s:List UInt8):Bool:=dec ((1≤s.length∧s.length≤8)∧s∉reserved∧MO s)
noncomputable def qU(s:List UInt8):Bool:=dec (s=[105,110,116]∨s=[98,111,111,108])
noncomputable def xE(xs:List (List UInt8))(s:List UInt8):Int:=if s∈xs then((xs.findIdx fun x=>dec (x=s):Nat):Int) else -1
theorem Pj{xs:List (List UInt8)}{s:List UInt8}{i:Nat}(hi:i<xs.length)(hj:∀j,j<i→xs.getD j []≠s)(h:xs.getD i []=s):xE xs s=i:=by
 have e:∀j,∀hj:j<xs.length,xs.getD j []=xs[j]:=fun j hj=>by simp[List.getD,hj]
 have hm:s∈xs:=by rw[←h,e i hi];exact List.getElem_mem hi
 unfold xE
 rw[if_pos hm]
 congr 1
 rw[List.findIdx_eq hi]
 exact⟨cK (by rw[←e i hi];exact h),fun j hji=>aN (by rw[←e j (by omega)];exact hj j hji)⟩
theorem VX{xs:List (List UInt8)}{s:List UInt8}(hj:∀j,j<xs.length→xs.getD j []≠s):xE xs s= -1:=by
 unfold xE
 refine if_neg fun hm=> ?_
 obtain⟨j,h1,h2⟩:=List.getElem_of_mem hm
 exact hj j h1 (by simp[List.getD,h1,h2])
theorem SK{xs:List (List UInt8)}{s:List UInt8}:decide (xE xs s≥0)=dec (s∈xs):=by
 rw[mo]
 refine mh ?_
 unfold xE
 split
 ·rename_i h;exact⟨fun _=>h,fun _=>by omega⟩
 ·rename_i h;exact⟨fun x=>by omega,fun x=>absurd x h⟩
def qb{α:Type}(p:α→Bool)(xs:List α):Int:=if xs.any p then((xs.findIdx p:Nat):Int) else -1
theorem qG{α:Type}{p:α→Bool}{xs:List α}{i:Nat}(hi:i<xs.length)(hj:∀j,∀hj:j<xs.length,j<i→p xs[j]=false)(h:p xs[i]=true):qb p xs=i:=by
 unfold qb
 rw[if_pos (List.any_eq_true.2 ⟨xs[i],List.getElem_mem hi,h⟩)]
 congr 1
 rw[List.findIdx_eq hi]
 exact⟨h,fun j hji=>hj j (by omega) hji⟩
theorem vg{α:Type}{p:α→Bool}{xs:List α}(hj:∀j,∀hj:j<xs.length,p xs[j]=false):qb p xs= -1:=by
 unfold qb
 refine if_neg fun h=> ?_
 obtain⟨x,hx,hp⟩:=List.any_eq_true.1 h
 obtain⟨j,h1,h2⟩:=List.getElem_of_mem hx
 rw[←h2,hj j h1] at hp
 cases hp
theorem sQ{α:Type}{p:α→Bool}{xs:List α}:decide (qb p xs≥0)=xs.any p:=by
 unfold qb
 cases h:xs.any p with
 |true=>simp
 |false=>simp
noncomputable def wG(k:Int)(n:List UInt8)(len:Nat):Bool:=
 dec ((k=1∨k=4)∧validName n=true∧len=0∨k=3∧validName n=true∧len=1∨k=2∧(validName n=true∧len≤3∨qU n=true∧len=0))
mutual
noncomputable def formed:ak→Bool
 | .mk k n a=>wG k n a.length&&iq a
noncomputable def iq:List ak→Bool
 |[]=>true
 |t::ts=>formed t&&iq ts
end
theorem vk(t:ak):formed t=(wG t.aH t.fName t.fArgs.length&&iq t.fArgs):=by cases t;rw[formed];rfl
theorem yR:∀{ts:List ak},iq ts=true↔∀t∈ts,formed t=true
 |[]=>by simp[iq]
 |t::ts=>by simp[iq,yR (ts:=ts)]
theorem Ed:∀{ts:List ak},(ts.any fun t=> !formed t)= !iq ts
 |[]=>rfl
 |t::ts=>by rw[List.any_cons,Ed (ts:=ts),iq];simp
mutual
def jK:ak→Nat
 | .mk _ _ a=>depths a
def depths:List ak→Nat
 |[]=>0
 |t::ts=>max (jK t+1) (depths ts)
end
theorem JG(t:ak):jK t=depths t.fArgs:=by cases t;rw[jK];rfl
mutual
theorem vo:∀t:ak,jK t+1≤t.cnt
 | .mk k n a=>by
   have:=JH a
   rw[jK,ak.cnt];omega
theorem JH:∀ts:List ak,depths ts≤ak.dS ts
 |[]=>by simp[depths]
 |t::ts=>by
  have h1:=vo t
  have h2:=JH ts
  rw[depths,ak.dS]
  omega
end
noncomputable def rM(t:ak):Bool:=dec (formed t=true∧jK t≤6∧t.cnt≤60)
end Go.Ab
namespace Go.Ab
def aM(s:List UInt8):ah:=.mk s []
def dh(l:List ah):ah:=.mk [] l
def aQ(l:List (List UInt8)):List ah:=l.map aM
def gq:ah:=.mk [] []
theorem Af(s:List UInt8):(aM s).aI=s:=rfl
theorem Ag(s:List UInt8):(aM s).au=[]:=rfl
theorem fO(l:List ah):(dh l).aI=[]:=rfl
theorem fP(l:List ah):(dh l).au=l:=rfl
def Ah:List UInt8:=[100,121,110]
def kU:List UInt8:=[97,115,115,111,99]
mutual
def fK:ak→ah
 | .mk k n zs=>if k=1 then aM ([39]++n) else if k=4 then dh [aM Ah,aM n] else if k=2∧zs.length=0 then aM n else
   dh ((if k=3 then [aM kU] else [])++[aM n]++xG zs)
def xG:List ak→List ah
 |[]=>[]
 |t::ts=>fK t::xG ts
end
theorem ug:∀l,xG l=l.map fK
 |[]=>rfl
 |t::ts=>by rw[xG,List.map_cons,ug ts]
theorem VY(x:ak):fK x=if x.aH=1 then aM ([39]++x.fName) else if x.aH=4 then dh [aM Ah,aM x.fName] else if x.aH=2∧x.fArgs.length=0 then aM x.fName else
 dh ((if x.aH=3 then [aM kU] else [])++[aM x.fName]++x.fArgs.map fK):=by
 cases x;rw[fK,ug];rfl
theorem BQ{t:ak}(h:rM t=true):formed t=true:=(iK h).1
theorem jB(x:ah):x.sz=x.aI.length+(x.au.length+dz (x.au.map ah.enc)):=by
 simp only[ah.sz,ah.aC,bS,D.sz,List.length_map];omega
def dn:List ah→Nat
 |[]=>0
 |x::xs=>x.sz+dn xs
theorem kS:∀l,dz (l.map ah.enc)=dn l
 |[]=>rfl
 |x::xs=>by rw[List.map_cons,dz,dn,kS xs];rfl
theorem jf:∀a b,dn (a++b)=dn a+dn b
 |[],b=>by simp[dn]
 |x::a,b=>by rw[List.cons_append,dn,dn,jf a b];omega
theorem ny{x:ah}:∀{l:List ah},x∈l→x.sz≤dn l
 |y::l,h=>by
  rw[dn]
  rcases List.mem_cons.1 h with rfl|h
  ·omega
  ·have:=ny h;omega
theorem kN(s:List UInt8):(aM s).sz=s.length:=by rw[jB];simp[aM,ah.aI,ah.au,dz]
theorem uh(l:List ah):(dh l).sz=l.length+dn l:=by rw[jB,kS];simp[dh,ah.aI,ah.au]
theorem JI:∀l:List (List UInt8),dn (aQ l)=(l.map List.length).sum
 |[]=>rfl
 |s::l=>by rw[aQ,List.map_cons,dn,kN,←aQ,JI l,List.map_cons,List.sum_cons]
theorem lu(l:List (List UInt8)):(aQ l).length=l.length:=by simp[aQ]
theorem Ee:∀l:List (List UInt8),dz (l.map encS)=(l.map List.length).sum
 |[]=>rfl
 |s::l=>by rw[List.map_cons,dz,Ee l,List.map_cons,List.sum_cons];simp[encS,bS,D.sz]
def qc:List ak→Nat
 |[]=>0
 |x::xs=>x.sz+qc xs
theorem MP:∀l,dz (l.map ak.enc)=qc l
 |[]=>rfl
 |x::xs=>by rw[List.map_cons,dz,qc,MP xs];rfl
theorem qd(x:ak):x.sz=x.fName.length+(x.fArgs.length+qc x.fArgs):=by
 rw[←MP];simp only[ak.sz,ak.aC,bS,D.sz,List.length_map];omega
mutual
theorem VZ:∀x:ak,(fK x).sz≤12+16*x.sz
 | .mk k n zs=>by
   have h:=Qv zs
   rw[qd]
   simp only[ak.fName,ak.fArgs]
   rw[fK]
   split
   ·rw[kN];simp;omega
   ·split
    ·rw[uh];simp[dn,kN,Ah];omega
    ·split
     ·rw[kN];omega
     ·rw[uh,jf,jf,List.length_append,List.length_append,ug,List.length_map,←ug]
      split<;>simp[dn,kN,kU]<;>omega
theorem Qv:∀xs:List ak,dn (xG xs)≤12*xs.length+16*qc xs
 |[]=>by simp[xG,dn]
 |x::xs=>by
  have h1:=VZ x
  have h2:=Qv xs
  rw[xG,dn,qc,List.length_cons];omega
end
def aO(b:UInt8):Bool:=decide (97≤b.toNat∧b.toNat≤122)||decide (48≤b.toNat∧b.toNat≤57)||decide (b∈([39,45,43,42,60,61,46]:List UInt8))
def validAtom(s:List UInt8):Bool:=s.all aO&&decide (1≤s.length∧s.length≤12)
mutual
def gD:ah→Bool
 | .mk a l=>if a=[] then fQ l else validAtom a&&decide (l.length=0)
def fQ:List ah→Bool
 |[]=>true
 |x::xs=>gD x&&fQ xs
end
mutual
def gZ:ah→Nat
 | .mk a l=>if a=[] then iU l+1 else 0
def iU:List ah→Nat
 |[]=>0
 |x::xs=>max (gZ x) (iU xs)
end
mutual
def fA:ah→Nat
 | .mk _ l=>gK l+1
def gK:List ah→Nat
 |[]=>0
 |x::xs=>fA x+gK xs
end
theorem xH(x:ah):gD x=if x.aI=[] then fQ x.au else validAtom x.aI&&decide (x.au.length=0):=by cases x;rw[gD];rfl
theorem JJ(x:ah):gZ x=if x.aI=[] then iU x.au+1 else 0:=by cases x;rw[gZ];rfl
theorem MQ(x:ah):fA x=gK x.au+1:=by cases x;rw[fA];rfl
theorem F8:∀{l:List ah},(l.any fun t=> !gD t)= !fQ l
 |[]=>rfl
 |t::ts=>by rw[List.any_cons,F8 (l:=ts),fQ];simp
theorem wH:∀{l:List ah},fQ l=true↔∀t∈l,gD t=true
 |[]=>by simp[fQ]
 |t::ts=>by simp[fQ,wH (l:=ts)]
mutual
theorem yS:∀x:ah,gZ x≤fA x
 | .mk a l=>by
   have:=BR l
   rw[gZ,fA];split<;>omega
theorem BR:∀l:List ah,iU l≤gK l
 |[]=>by simp[iU]
 |x::xs=>by
  have h1:=yS x
  have h2:=BR xs
  rw[iU,gK];omega
end
mutual
theorem MR:∀x:ah,fA x≤x.sz+1
 | .mk a l=>by
   have:=JK l
   rw[jB,fA,kS];simp only[ah.aI,ah.au];omega
theorem JK:∀l:List ah,gK l≤l.length+dn l
 |[]=>by simp[gK]
 |x::xs=>by
  have h1:=MR x
  have h2:=JK xs
  rw[gK,dn,List.length_cons];omega
end
def fT(x:ah):Bool:=gD x&&decide (gZ x≤14∧fA x≤900)
mutual
theorem MS:∀x:ah,gD x=true→x.sz+1≤13*fA x
 | .mk a l=>fun h=>by
   rw[gD] at h
   rw[jB,fA,kS]
   simp only[ah.aI,ah.au]
   split at h
   ·rename_i ha
    have:=JL l h
    subst ha
    simp only[List.length_nil];omega
   ·rw[Bool.and_eq_true,decide_eq_true_eq] at h
    have h1:=h.1
    unfold validAtom at h1
    rw[Bool.and_eq_true,decide_eq_true_eq] at h1
    have:l=[]:=List.eq_nil_of_length_eq_zero h.2
    subst this
    simp[dn];omega
theorem JL:∀l:List ah,fQ l=true→l.length+dn l≤13*gK l
 |[],_=>by simp[dn]
 |x::xs,h=>by
  rw[fQ,Bool.and_eq_true] at h
  have h1:=MS x h.1
  have h2:=JL xs h.2
  rw[dn,gK,List.length_cons];omega
end
theorem BS{x:ah}(h:fT x=true):x.sz≤11700:=by
 unfold fT at h
 rw[Bool.and_eq_true,decide_eq_true_eq] at h
 have:=MS x h.1
 omega
end Go.Ab
namespace Go.Ab
def iF(b:UInt8):Bool:=decide (b.toNat=32)||decide (b.toNat=10)
def dD(l:List UInt8):List UInt8:=l.dropWhile iF
theorem sS(l:List UInt8):dD l <:+ l:=List.dropWhile_suffix _
theorem vv(l:List UInt8):(dD l).length≤l.length:=(sS l).length_le
theorem SL{l u:List UInt8}{b:UInt8}(h:dD l=b::u):iF b=false:=by
 induction l with
 |nil=>cases h
 |cons a l ih=>
  unfold dD at h ih
  rw[List.dropWhile_cons] at h
  split at h
  ·exact ih h
  ·rename_i h1
   injection h with h2 h3
   subst h2
   simpa using h1
theorem qg{b:UInt8}{u:List UInt8}(h:iF b=false):dD (b::u)=b::u:=by
 unfold dD;rw[List.dropWhile_cons,h];rfl
theorem Ai{b:UInt8}{u:List UInt8}(h:iF b=true):dD (b::u)=dD u:=by
 unfold dD;rw[List.dropWhile_cons,h];rfl
theorem MU{b:UInt8}(h:aO b=true):iF b=false∧b≠40∧b≠41:=by
 refine⟨?_,fun e=> ?_,fun e=> ?_⟩
 ·cases hb:iF b with
  |false=>rfl
  |true=>
   unfold iF at hb
   unfold aO at h
   simp only[Bool.or_eq_true,decide_eq_true_eq] at hb h
   rcases hb with hb|hb
   ·obtain rfl:b=32:=UInt8.toNat_inj.1 hb
    revert h;decide
   ·obtain rfl:b=10:=UInt8.toNat_inj.1 hb
    revert h;decide
 ·subst e;revert h;decide
 ·subst e;revert h;decide
structure RS where
 t:List UInt8
 deep:Nat
 size:Nat
 bad:Bool
mutual
def iA:Nat→RS→ah×RS
 |0,r=>(gq,⟨r.t,r.deep,r.size+1,true⟩)
 |n+1,r=>match dD r.t with
  |[]=>(gq,⟨[],r.deep,r.size+1,true⟩)
  |b::u=>if 900<r.size+1 then(gq,⟨b::u,r.deep,r.size+1,true⟩) else
   if aO b=true then(aM (b::u.takeWhile aO),⟨u.dropWhile aO,r.deep,r.size+1,false⟩) else
   if b≠40∨r.deep=14 then(gq,⟨b::u,r.deep,r.size+1,true⟩) else kX n ⟨u,r.deep+1,r.size+1,false⟩ []
def kX:Nat→RS→List ah→ah×RS
 |0,r,acc=>(dh acc,⟨r.t,r.deep,r.size,true⟩)
 |n+1,r,acc=>if r.bad=true then(dh acc,r) else
  if(dD r.t).head? =some 41 then(dh acc,⟨(dD r.t).tail,r.deep-1,r.size,false⟩) else
  kX n (iA n ⟨dD r.t,r.deep,r.size,false⟩).2 (acc++[(iA n ⟨dD r.t,r.deep,r.size,false⟩).1])
end
structure afZ (x:ah) (r r':RS):Prop where
 suf:r'.t <:+ r.t
 deep:r'.bad=false→r'.deep=r.deep
 low:r'.deep≤14
 size:r.size+1≤r'.size∧r'.size≤901
 sz:x.sz+1≤(r.t.length-r'.t.length)+(r'.size-r.size)
 go:r'.bad=false→r'.t.length<r.t.length∧r'.size≤900
structure af0 (acc:List ah) (x:ah) (r r':RS):Prop where
 suf:r'.t <:+ r.t
 deep:r'.bad=false→r'.deep=r.deep-1∧r.bad=false∧r'.size≤900
 low:r'.deep≤14
 size:r.size≤r'.size∧r'.size≤901
 sz:∃l,x=dh (acc++l)∧l.length+dn l≤(r.t.length-r'.t.length)+(r'.size-r.size)∧l.length≤r'.size-r.size
theorem IX:∀n:Nat,(∀r:RS,r.deep≤14→r.size≤900→afZ (iA n r).1 r (iA n r).2)∧
 (∀(r:RS) (acc:List ah),r.deep≤14→r.size≤901→(r.bad=false→1≤r.deep∧r.size≤900)→af0 acc (kX n r acc).1 r (kX n r acc).2)
 |0=>by
  refine⟨fun r h1 h2=> ?_,fun r acc h1 h2 h3=> ?_⟩
  ·rw[iA]
   exact⟨List.suffix_refl _,(fun h=>by cases h),h1,⟨Nat.le_refl _,by simp only;omega⟩,by simp[gq,jB,ah.aI,ah.au,dz],(fun h=>by cases h)⟩
  ·rw[kX]
   exact⟨List.suffix_refl _,(fun h=>by cases h),h1,⟨Nat.le_refl _,h2⟩,[],by rw[List.append_nil],by simp[dn],by simp⟩
 |n+1=>by
  obtain⟨ih1,ih2⟩:=IX n
  have z0:gq.sz=0:=by simp[gq,jB,ah.aI,ah.au,dz]
  refine⟨fun r h1 h2=> ?_,fun r acc h1 h2 h3=> ?_⟩
  ·rw[iA]
   have hs:=sS r.t
   split
   ·rename_i e
    rw[e] at hs
    exact⟨hs,(fun h=>by cases h),h1,⟨Nat.le_refl _,by simp only;omega⟩,by simp only[z0];omega,(fun h=>by cases h)⟩
   ·rename_i b u e
    rw[e] at hs
    have hl:=hs.length_le
    rw[List.length_cons] at hl
    split
    ·exact⟨hs,(fun h=>by cases h),h1,⟨Nat.le_refl _,by simp only;omega⟩,by simp only[z0];omega,(fun h=>by cases h)⟩
    ·split
     ·have hd:u.dropWhile aO <:+ u:=List.dropWhile_suffix _
      have hdl:=hd.length_le
      have htd:(u.takeWhile aO).length+(u.dropWhile aO).length=u.length:=by
       rw[←List.length_append,List.takeWhile_append_dropWhile]
      refine⟨(hd.trans (List.suffix_cons b u)).trans hs,fun _=>rfl,h1,⟨Nat.le_refl _,by simp only;omega⟩,?_,fun _=> ?_⟩
      ·rw[kN,List.length_cons];simp only;omega
      ·simp only;omega
     ·split
      ·exact⟨hs,(fun h=>by cases h),h1,⟨Nat.le_refl _,by simp only;omega⟩,by simp only[z0];omega,(fun h=>by cases h)⟩
      ·have hc:=ih2 ⟨u,r.deep+1,r.size+1,false⟩ [] (by simp only;omega) (by simp only;omega) (fun _=>by simp only;omega)
       obtain⟨c1,c2,c3,c4,l,c5,c6,c7⟩:=hc
       have c8:=c1.length_le
       simp only at c1 c2 c4 c6 c7 c8
       refine⟨(c1.trans (List.suffix_cons b u)).trans hs,fun h=>by rw[(c2 h).1];omega,c3,⟨by omega,c4.2⟩,?_,fun h=>⟨by omega,(c2 h).2.2⟩⟩
       rw[c5,List.nil_append,uh]
       omega
  ·rw[kX]
   have hs:=sS r.t
   have hl:=hs.length_le
   split
   ·exact⟨List.suffix_refl _,(fun h=>by rename_i hb;rw[hb] at h;cases h),h1,⟨Nat.le_refl _,h2⟩,[],by rw[List.append_nil],by simp[dn],by simp⟩
   ·rename_i hb
    have hb':r.bad=false:=by simpa using hb
    have h3':=h3 hb'
    split
    ·have ht:(dD r.t).tail <:+ dD r.t:=List.tail_suffix _
     refine⟨ht.trans hs,fun _=>⟨rfl,hb',h3'.2⟩,by simp only;omega,⟨Nat.le_refl _,h2⟩,[],by rw[List.append_nil],by simp[dn],by simp⟩
    ·have hc:=ih1 ⟨dD r.t,r.deep,r.size,false⟩ h1 h3'.2
     obtain⟨x,hx⟩:∃x,x=iA n ⟨dD r.t,r.deep,r.size,false⟩:=⟨_,rfl⟩
     rw[←hx] at hc ⊢
     clear hx
     obtain⟨c1,c2,c3,c4,c5,c6⟩:=hc
     simp only at c1 c2 c4 c5 c6
     have c7:=c1.length_le
     obtain⟨d1,d2,d3,d4,l,d5,d6,d7⟩:=ih2 x.2 (acc++[x.1]) c3 c4.2 (fun hq=>⟨by rw[c2 hq];exact h3'.1,(c6 hq).2⟩)
     have d8:=d1.length_le
     refine⟨(d1.trans c1).trans hs,fun hq=>⟨by rw[(d2 hq).1,c2 (d2 hq).2.1],hb',(d2 hq).2.2⟩,d3,⟨by omega,d4.2⟩,x.1::l,by rw[d5,List.append_assoc];rfl,?_,?_⟩
     ·rw[List.length_cons,dn];omega
     ·rw[List.length_cons];omega
inductive Tok where
 |op
 |cl
 |wd (b:UInt8) (u:List UInt8)
 |no
def yT:Nat→List UInt8→List Tok
 |0,_=>[]
 |n+1,l=>match dD l with
  |[]=>[]
  |b::u=>if aO b=true then .wd b (u.takeWhile aO)::yT n (u.dropWhile aO) else if b=40 then .op::yT n u else if b=41 then .cl::yT n u else [.no]
theorem Dx:∀(n m:Nat) (l:List UInt8),l.length<n→l.length<m→yT n l=yT m l
 |0,m,l,h,_=>by omega
 |n+1,0,l,_,h=>by omega
 |n+1,m+1,l,h1,h2=>by
  rw[yT,yT]
  have hs:=vv l
  split
  ·rfl
  ·rename_i b u e
   rw[e,List.length_cons] at hs
   have hd:(u.dropWhile aO).length≤u.length:=(List.dropWhile_suffix aO).length_le
   rw[Dx n m u (by omega) (by omega),Dx n m (u.dropWhile aO) (by omega) (by omega)]
def lex(l:List UInt8):List Tok:=yT (l.length+1) l
theorem lex_nil{l:List UInt8}(h:dD l=[]):lex l=[]:=by
 unfold lex;rw[yT,h]
theorem jk{l u:List UInt8}{b:UInt8}(h:dD l=b::u):lex l=if aO b=true then .wd b (u.takeWhile aO)::lex (u.dropWhile aO) else if b=40 then .op::lex u else if b=41 then .cl::lex u else [.no]:=by
 have hs:=vv l
 rw[h,List.length_cons] at hs
 have hd:(u.dropWhile aO).length≤u.length:=(List.dropWhile_suffix aO).length_le
 unfold lex
 rw[yT,h]
 simp only
 rw[Dx _ (u.length+1) u (by omega) (by omega),Dx _ ((u.dropWhile aO).length+1) (u.dropWhile aO) (by omega) (by omega)]
theorem uj(l:List UInt8):lex (dD l)=lex l:=by
 cases h:dD l with
 |nil=>rw[lex_nil h];rfl
 |cons b u=>rw[jk h,jk (l:=b::u) (qg (SL h))]
theorem abu{l:List UInt8}(h:lex l=[]):dD l=[]:=by
 cases e:dD l with
 |nil=>rfl
 |cons b u=>
  rw[jk e] at h
  split at h
  ·cases h
  ·split at h
   ·cases h
   ·split at h<;>cases h
mutual
def mW:ah→List Tok
 | .mk [] l=>.op::gP l++[.cl]
 | .mk (b::u) _=>[.wd b u]
def gP:List ah→List Tok
 |[]=>[]
 |x::xs=>mW x++gP xs
end
theorem vS:∀a b,gP (a++b)=gP a++gP b
 |[],b=>rfl
 |x::a,b=>by rw[List.cons_append,gP,gP,vS a b,List.append_assoc]
theorem F9(l:List ah):mW (dh l)=.op::gP l++[.cl]:=by unfold dh;rw[mW]
theorem Ga(b:UInt8)(u:List UInt8):mW (aM (b::u))=[.wd b u]:=by unfold aM;rw[mW]
theorem Gb:∀n:Nat,(∀r:RS,(iA n r).2.bad=false→lex r.t=mW (iA n r).1++lex (iA n r).2.t)∧
 (∀(r:RS) (acc:List ah),(kX n r acc).2.bad=false→∃l,(kX n r acc).1=dh (acc++l)∧lex r.t=gP l++ .cl::lex (kX n r acc).2.t)
 |0=>⟨fun r h=>(by rw[iA] at h;cases h),fun r acc h=>(by rw[kX] at h;cases h)⟩
 |n+1=>by
  obtain⟨ih1,ih2⟩:=Gb n
  refine⟨fun r h=> ?_,fun r acc h=> ?_⟩
  ·rw[iA] at h ⊢
   split at h
   ·cases h
   ·rename_i b u e
    split at h
    ·cases h
    ·rename_i h1
     rw[jk e]
     simp only[h1,if_false]
     split at h
     ·rename_i h2
      rw[if_pos h2]
      simp only[h2,if_true]
      rw[Ga]
      rfl
     ·rename_i h2
      split at h
      ·cases h
      ·rename_i h3
       have hb:b=40:=Classical.byContradiction fun hb=>h3 (.inl hb)
       simp only[if_neg h2,if_neg h3,if_pos hb]
       obtain⟨l,q1,q2⟩:=ih2 _ [] h
       rw[q1,List.nil_append,F9]
       simp only at q2
       rw[q2]
       simp
  ·rw[kX] at h ⊢
   split at h
   ·rename_i hb
    rw[hb] at h;cases h
   ·rename_i hb
    rw[if_neg hb]
    split at h
    ·rename_i h1
     rw[if_pos h1]
     refine⟨[],by rw[List.append_nil],?_⟩
     cases e:dD r.t with
     |nil=>rw[e] at h1;cases h1
     |cons b u=>
      rw[e] at h1
      have hb:b=41:=by simpa using h1
      subst hb
      rw[jk e]
      rfl
    ·rename_i h1
     rw[if_neg h1]
     obtain⟨l,q1,q2⟩:=ih2 _ _ h
     have hx:(iA n ⟨dD r.t,r.deep,r.size,false⟩).2.bad=false:=by
      cases hq:(iA n ⟨dD r.t,r.deep,r.size,false⟩).2.bad with
      |false=>rfl
      |true=>
       exfalso
       revert h
       cases n with
       |zero=>rw[kX];simp
       |succ n=>rw[kX,if_pos hq,hq];simp
     have h2:=ih1 _ hx
     simp only at h2
     rw[uj] at h2
     refine⟨(iA n ⟨dD r.t,r.deep,r.size,false⟩).1::l,by rw[q1,List.append_assoc];rfl,?_⟩
     rw[h2,q2,gP,List.append_assoc]
mutual
theorem JM:∀(x:ah),gD x=true→∀(r:RS) (k:List Tok),lex r.t=mW x++k→r.size+fA x≤900→r.deep+gZ x≤14→
 ∃(N:Nat) (u:List UInt8),lex u=k∧∀n,N≤n→iA n r=(x,⟨u,r.deep,r.size+fA x,false⟩)
 | .mk a l=>fun hf r k hk hn hd=>by
   cases a with
   |nil=>
    rw[mW] at hk
    have hf':fQ l=true:=by rw[gD,if_pos rfl] at hf;exact hf
    have hn':r.size+(gK l+1)≤900:=by rw[fA] at hn;exact hn
    have hd':r.deep+(iU l+1)≤14:=by rw[gZ,if_pos rfl] at hd;exact hd
    cases e:dD r.t with
    |nil=>rw[lex_nil e] at hk;simp at hk
    |cons b u=>
     rw[jk e] at hk
     have hb:aO b=false∧b=40∧lex u=gP l++ .cl::k:=by
      split at hk
      ·simp at hk
      ·rename_i h1
       split at hk
       ·rename_i h2
        exact⟨by simpa using h1,h2,by simpa using hk⟩
       ·split at hk<;>simp at hk
     obtain⟨N,v,h1,h2⟩:=Gc l hf' ⟨u,r.deep+1,r.size+1,false⟩ [] k hb.2.2 rfl (by simp only;omega) (by simp only;omega)
     refine⟨N+1,v,h1,fun n hN=> ?_⟩
     cases n with
     |zero=>omega
     |succ n=>
      rw[iA,e]
      simp only
      rw[if_neg (by omega),if_neg (by rw[hb.1];decide),if_neg (by rw[hb.2.1];simp;omega),h2 n (by omega)]
      simp only[List.nil_append,Nat.add_sub_cancel,dh,fA]
      congr 2;omega
   |cons c v=>
    rw[mW] at hk
    have hf':validAtom (c::v)=true∧l=[]:=by
     rw[gD,if_neg (by simp)] at hf
     simp only[Bool.and_eq_true,decide_eq_true_eq,List.length_eq_zero_iff] at hf
     exact hf
    obtain⟨-,rfl⟩:=hf'
    cases e:dD r.t with
    |nil=>rw[lex_nil e] at hk;simp at hk
    |cons b u=>
     rw[jk e] at hk
     split at hk
     ·rename_i h1
      simp only[List.cons_append,List.nil_append,List.cons.injEq,Tok.wd.injEq] at hk
      refine⟨1,u.dropWhile aO,hk.2,fun n hN=> ?_⟩
      cases n with
      |zero=>omega
      |succ n=>
       have hz:fA (.mk (c::v) [])=1:=rfl
       rw[hz] at hn
       rw[iA,e]
       simp only
       rw[if_neg (by omega),if_pos h1,hk.1.1,hk.1.2,hz]
       rfl
     ·split at hk
      ·simp at hk
      ·split at hk<;>simp at hk
theorem Gc:∀(l:List ah),fQ l=true→∀(r:RS) (acc:List ah) (k:List Tok),lex r.t=gP l++ .cl::k→r.bad=false→r.size+gK l≤900→r.deep+iU l≤14→
 ∃(N:Nat) (u:List UInt8),lex u=k∧∀n,N≤n→kX n r acc=(dh (acc++l),⟨u,r.deep-1,r.size+gK l,false⟩)
 |[]=>fun hf r acc k hk hb hn hd=>by
  rw[gP,List.nil_append] at hk
  cases e:dD r.t with
  |nil=>rw[lex_nil e] at hk;simp at hk
  |cons b u=>
   rw[jk e] at hk
   have hb':b=41∧lex u=k:=by
    split at hk
    ·simp at hk
    ·split at hk
     ·simp at hk
     ·split at hk
      ·rename_i h3
       exact⟨h3,by simpa using hk⟩
      ·simp at hk
   refine⟨1,u,hb'.2,fun n hN=> ?_⟩
   cases n with
   |zero=>omega
   |succ n=>
    rw[kX,if_neg (by rw[hb];decide),if_pos (by rw[e,hb'.1];rfl),e,List.append_nil]
    rfl
 |x::l=>fun hf r acc k hk hb hn hd=>by
  rw[gP,List.append_assoc] at hk
  rw[fQ,Bool.and_eq_true] at hf
  rw[gK] at hn
  rw[iU] at hd
  obtain⟨N,u,h1,h2⟩:=JM x hf.1 ⟨dD r.t,r.deep,r.size,false⟩ _ (by rw[uj];exact hk) (by simp only;omega) (by simp only;omega)
  obtain⟨M,v,h3,h4⟩:=Gc l hf.2 ⟨u,r.deep,r.size+fA x,false⟩ (acc++[x]) k h1 rfl (by simp only;omega) (by simp only;omega)
  refine⟨N+M+1,v,h3,fun n hN=> ?_⟩
  cases n with
  |zero=>omega
  |succ n=>
   have hne:(dD r.t).head? ≠some 41:=fun hq=>by
    cases e:dD r.t with
    |nil=>rw[e] at hq;cases hq
    |cons b w=>
     rw[e] at hq
     have af2:b=41:=by simpa using hq
     rw[jk e,af2] at hk
     cases x with|mk a l'=> ?_
     cases a with
     |nil=>rw[mW] at hk;revert hk;simp[show aO 41=false from by decide]
     |cons c v=>rw[mW] at hk;revert hk;simp[show aO 41=false from by decide]
   rw[kX,if_neg (by rw[hb];decide),if_neg hne,h2 n (by omega)]
   simp only
   rw[h4 n (by omega),List.append_assoc,gK]
   simp only[List.cons_append,List.nil_append]
   congr 2;omega
end
def qV:Nat→List UInt8→List (List ah)→Nat→Option (List (List ah))
 |0,_,_,_=>none
 |_+1,[],rows,_=>some rows
 |n+1,b::u,rows,c=>if iF b=true then qV n u rows c else
  if b=40 then(if 15<rows.length+1∨1800<c+1 then none else qV n u ([]::rows) (c+1)) else
  if b=41 then(match rows with
   |x::y::z=>if 1800<c+1 then none else qV n u ((y++[dh x])::z) (c+1)
   |_=>none) else
  if aO b=true then(match rows with
   |x::z=>if 1800<c+1 then none else qV n (u.dropWhile aO) ((x++[aM (b::u.takeWhile aO)])::z) (c+1)
   |[]=>none) else none
def runT:List Tok→List (List ah)→Nat→Option (List (List ah))
 |[],rows,_=>some rows
 | .op::k,rows,c=>if 15<rows.length+1∨1800<c+1 then none else runT k ([]::rows) (c+1)
 | .cl::k,x::y::z,c=>if 1800<c+1 then none else runT k ((y++[dh x])::z) (c+1)
 | .wd b u::k,x::z,c=>if 1800<c+1 then none else runT k ((x++[aM (b::u)])::z) (c+1)
 |_,_,_=>none
theorem qW:∀(n:Nat) (l:List UInt8) (rows:List (List ah)) (c:Nat),l.length<n→qV n l rows c=runT (lex l) rows c
 |0,l,rows,c,h=>by omega
 |n+1,[],rows,c,h=>by rw[qV,lex_nil rfl];rfl
 |n+1,b::u,rows,c,h=>by
  rw[List.length_cons] at h
  have hd:(u.dropWhile aO).length≤u.length:=(List.dropWhile_suffix aO).length_le
  rw[qV.eq_def]
  simp only
  by_cases hb:iF b=true
  ·rw[if_pos hb,qW n u rows c (by omega),←uj (b::u),Ai hb,uj]
  ·rw[if_neg hb]
   have hb':iF b=false:=by simpa using hb
   rw[jk (qg hb')]
   by_cases Gd:b=40
   ·subst Gd
    rw[if_pos rfl,if_neg (show ¬aO 40=true by decide),if_pos rfl,runT,qW n u _ _ (by omega)]
   ·rw[if_neg Gd]
    by_cases JN:b=41
    ·subst JN
     rw[if_pos rfl,if_neg (show ¬aO 41=true by decide),if_neg (show ¬(41:UInt8)=40 by decide),if_pos rfl]
     match rows with
     |[]=>simp[runT]
     |[x]=>simp[runT]
     |x::y::z=>simp only[runT];rw[qW n u _ _ (by omega)]
    ·rw[if_neg JN]
     by_cases ha:aO b=true
     ·rw[if_pos ha,if_pos ha]
      match rows with
      |[]=>simp[runT]
      |x::z=>simp only[runT];rw[qW n _ _ _ (by omega)]
     ·rw[if_neg ha,if_neg ha,if_neg Gd,if_neg JN]
      cases rows with
      |nil=>simp[runT]
      |cons x z=>simp[runT]
def uL:List (List ah)→List Tok
 |[]=>[]
 |x::z=>(if z=[] then [] else uL z++[.op])++gP x
theorem wI:∀(k:List Tok) (rows:List (List ah)) (c:Nat) (out:List (List ah)),rows≠[]→runT k rows c=some out→out≠[]∧uL out=uL rows++k
 |[],rows,c,out,h0,h=>by
  rw[runT] at h
  cases h
  exact⟨h0,by rw[List.append_nil]⟩
 | .op::k,rows,c,out,h0,h=>by
   rw[runT] at h
   split at h
   ·cases h
   ·obtain⟨a,b⟩:=wI k _ _ out (by simp) h
    refine⟨a,?_⟩
    rw[b,uL,if_neg h0,gP,List.append_nil,List.append_assoc]
    rfl
 | .cl::k,[],c,out,h0,h=>absurd rfl h0
 | .cl::k,[x],c,out,h0,h=>by simp[runT] at h
 | .cl::k,x::y::z,c,out,h0,h=>by
   rw[runT] at h
   split at h
   ·cases h
   ·obtain⟨a,b⟩:=wI k _ _ out (by simp) h
    refine⟨a,?_⟩
    rw[b,uL,uL,uL,if_neg (by simp:¬y::z=[]),vS,gP,gP,List.append_nil,F9]
    simp only[List.append_assoc,List.cons_append,List.nil_append]
 | .wd b u::k,[],c,out,h0,h=>absurd rfl h0
 | .wd b u::k,x::z,c,out,h0,h=>by
   rw[runT] at h
   split at h
   ·cases h
   ·obtain⟨a,e⟩:=wI k _ _ out (by simp) h
    refine⟨a,?_⟩
    rw[e,uL,uL,vS,gP,gP,List.append_nil,Ga]
    simp only[List.append_assoc,List.cons_append,List.nil_append]
 | .no::k,rows,c,out,h0,h=>by simp[runT] at h
mutual
theorem JO:∀(x:ah),gD x=true→∀(k:List Tok) (r:List ah) (z:List (List ah)) (c:Nat),z.length+1+gZ x≤15→c+2*fA x≤1800→
 ∃d,d≤c+2*fA x∧runT (mW x++k) (r::z) c=runT k ((r++[x])::z) d
 | .mk [] l=>fun hf k r z c hd hc=>by
   rw[gD,if_pos rfl] at hf
   rw[gZ,if_pos rfl] at hd
   rw[fA] at hc
   obtain⟨d,h1,h2⟩:=Gf l hf (.cl::k) [] (r::z) (c+1) (by rw[List.length_cons];omega) (by omega)
   refine⟨d+1,by rw[fA];omega,?_⟩
   rw[mW,List.cons_append,List.cons_append,List.append_assoc]
   simp only[List.cons_append,List.nil_append]
   rw[runT,if_neg (by rw[List.length_cons];omega),h2,runT,if_neg (by omega)]
   rfl
 | .mk (b::u) l=>fun hf k r z c hd hc=>by
   rw[gD,if_neg (by simp)] at hf
   simp only[Bool.and_eq_true,decide_eq_true_eq,List.length_eq_zero_iff] at hf
   obtain⟨-,rfl⟩:=hf
   have hz:fA (.mk (b::u) [])=1:=rfl
   rw[hz] at hc ⊢
   refine⟨c+1,by omega,?_⟩
   rw[mW,List.cons_append,List.nil_append,runT,if_neg (by omega)]
   rfl
theorem Gf:∀(l:List ah),fQ l=true→∀(k:List Tok) (r:List ah) (z:List (List ah)) (c:Nat),z.length+1+iU l≤15→c+2*gK l≤1800→
 ∃d,d≤c+2*gK l∧runT (gP l++k) (r::z) c=runT k ((r++l)::z) d
 |[]=>fun hf k r z c hd hc=>⟨c,by omega,by rw[gP,List.append_nil];rfl⟩
 |x::l=>fun hf k r z c hd hc=>by
  rw[fQ,Bool.and_eq_true] at hf
  rw[iU] at hd
  rw[gK] at hc
  obtain⟨d,h1,h2⟩:=JO x hf.1 (gP l++k) r z c (by omega) (by omega)
  obtain⟨e,h3,h4⟩:=Gf l hf.2 k (r++[x]) z d (by omega) (by omega)
  refine⟨e,by rw[gK];omega,?_⟩
  rw[gP,List.append_assoc,h2,h4,List.append_assoc]
  rfl
end
def Denotes(s:List UInt8)(x:ah):Prop:=fT x=true∧lex s=mW x
theorem BU{x:ah}(h:fT x=true):gD x=true∧gZ x≤14∧fA x≤900:=by
 unfold fT at h
 simpa using h
theorem uM{s:List UInt8}{x:ah}(h:Denotes s x):qV (s.length+1) s [[]] 0=some [[x]]:=by
 obtain⟨h1,h2,h3⟩:=BU h.1
 obtain⟨d,_,h4⟩:=JO x h1 [] [] [] 0 (by simp;omega) (by omega)
 rw[qW _ _ _ _ (Nat.lt_succ_self _),h.2,←List.append_nil (mW x),h4]
 rfl
theorem Pk{s:List UInt8}{x y:ah}(h:Denotes s x)(h':Denotes s y):x=y:=by
 have:=(uM h).symm.trans (uM h')
 simpa using this
theorem Ef{s:List UInt8}{x:ah}(h:qV (s.length+1) s [[]] 0=some [[x]])(hv:fT x=true):Denotes s x:=by
 rw[qW _ _ _ _ (Nat.lt_succ_self _)] at h
 obtain⟨_,h⟩:=wI _ _ _ _ (by simp) h
 simp only[uL,if_true,List.nil_append,gP,List.append_nil] at h
 exact⟨hv,h.symm⟩
open Classical in
noncomputable def iw(s:List UInt8):Bool:=dec (∃x,Denotes s x)
open Classical in
noncomputable def gu(s:List UInt8):ah:=if h:∃x,Denotes s x then h.choose else gq
theorem vw{s:List UInt8}{x:ah}(h:Denotes s x):iw s=true∧gu s=x:=by
 have h':∃x,Denotes s x:=⟨x,h⟩
 refine⟨cK h',?_⟩
 unfold gu
 rw[dif_pos h']
 exact Pk h'.choose_spec h
theorem MV{s:List UInt8}(h:∀x,¬Denotes s x):iw s=false∧gu s=gq:=by
 have h':¬∃x,Denotes s x:=fun⟨x,hx⟩=>h x hx
 refine⟨aN h',?_⟩
 unfold gu
 rw[dif_neg h']
theorem Pm{s:List UInt8}(h:iw s=true):fT (gu s)=true:=by
 obtain⟨x,hx⟩:=iK h
 rw[(vw hx).2]
 exact hx.1
def Gg(s:List UInt8):Nat:=2*s.length+2
theorem MW(s:List UInt8):∃n,Gg s≤n∧dec ((iA n ⟨s,0,0,false⟩).2.bad=false∧dD (iA n ⟨s,0,0,false⟩).2.t=[]∧fT (iA n ⟨s,0,0,false⟩).1=true)=iw s∧(iw s=true→(iA n ⟨s,0,0,false⟩).1=gu s):=by
 by_cases h:∃x,Denotes s x
 ·obtain⟨x,hx⟩:=h
  obtain⟨h1,h2,h3⟩:=BU hx.1
  obtain⟨N,u,hu,hN⟩:=JM x h1 ⟨s,0,0,false⟩ [] (by rw[List.append_nil];exact hx.2) (by simp only;omega) (by simp only;omega)
  refine⟨N+Gg s,by omega,?_,fun _=> ?_⟩
  ·rw[hN _ (by omega),(vw hx).1]
   exact cK ⟨rfl,abu hu,hx.1⟩
  ·rw[hN _ (by omega),(vw hx).2]
 ·have hno:=MV (s:=s) fun x hx=>h ⟨x,hx⟩
  refine⟨Gg s,Nat.le_refl _,?_,fun e=>by rw[hno.1] at e;cases e⟩
  rw[hno.1]
  refine aN fun hq=>h ⟨_,hq.2.2,?_⟩
  have:=(Gb (Gg s)).1 ⟨s,0,0,false⟩ hq.1
  simp only at this
  rw[this,lex_nil hq.2.1,List.append_nil]
theorem BX(s:List UInt8):((∃x,qV (s.length+1) s [[]] 0=some [[x]]∧fT x=true)↔iw s=true)∧∀x,qV (s.length+1) s [[]] 0=some [[x]]→fT x=true→gu s=x:=
 ⟨⟨fun⟨x,h1,h2⟩=>(vw (Ef h1 h2)).1,fun h=>by
   obtain⟨x,hx⟩:=iK h
   exact⟨x,uM hx,hx.1⟩⟩,fun x h1 h2=>(vw (Ef h1 h2)).2⟩
end Go.Ab
namespace Go.Ab
mutual
def MX:ak→List ak
 | .mk k n a=>.mk k n a::Gh a
def Gh:List ak→List ak
 |[]=>[]
 |t::ts=>MX t++Gh ts
end
mutual
theorem V3:∀t:ak,(MX t).length=t.cnt
 | .mk k n a=>by rw[MX,List.length_cons,ak.cnt,Gi a];omega
theorem Gi:∀ts:List ak,(Gh ts).length=ak.dS ts
 |[]=>rfl
 |t::ts=>by rw[Gh,List.length_append,ak.dS,V3 t,Gi ts]
end
end Go.Ab
namespace Go.Proofs.YtokkjobjffhfjaaGreatDoor.Fa
open Go Go.Ab
abbrev dV (t c b:Nat) (z:List C):Prop:=Tryz.prog.cellsOf t=c∧Tryz.prog.bytesOf t=b∧(Tryz.prog.info? t).isSome=true∧gH Tryz.prog t=some z
theorem dX{t c b:Nat}{z:List C}(h1:Tryz.prog.cellsOf t=c:=by kernel_rfl)(h2:Tryz.prog.bytesOf t=b:=by kernel_rfl)(h3:(Tryz.prog.info? t).isSome=true:=by kernel_rfl)(h4:gH Tryz.prog t=some z:=by kernel_rfl):dV t c b z:=⟨h1,h2,h3,h4⟩
theorem ty1:dV 1 1 8 [.d (.o .nilFunc)]:=dX
theorem ty2:dV 2 1 8 [.d (.i .i64 0)]:=dX
theorem ty3:dV 3 1 8 [.d (.i .i64 0)]:=dX
theorem ty4:dV 4 1 1 [.d (.b false)]:=dX
theorem aeE:zeroV Tryz.prog 4=some (.bool false):=by kernel_rfl
theorem ty5:dV 5 1 1 [.d (.i .u8 0)]:=dX
theorem ty9:dV 9 1 16 [.d (.s [])]:=dX
theorem af3:dV 12 1 8 [.d (.i .u64 0)]:=dX
theorem af4:dV 20 1 16 [.d (.o .nilIface)]:=dX
theorem af5:dV 21 1 4 [.d (.i .i32 0)]:=dX
theorem af6:dV 22 1 24 [.aY []]:=dX
theorem af7:dV 23 3 48 [.d (.i .i64 0),.d (.s []),.aY []]:=dX
theorem af8:dV 24 3 48 [.d (.i .i64 0),.d (.s []),.aY []]:=dX
theorem af9:dV 25 1 24 [.aY []]:=dX
theorem aga:dV 26 1 24 [.aY []]:=dX
theorem agb:dV 27 9 144 [.d (.i .i64 0),.d (.s []),.d (.s []),.d (.i .i64 0),.d (.i .i64 0),.d (.s []),.aY [],.aY [],.aY []]:=dX
theorem agc:dV 28 9 144 [.d (.i .i64 0),.d (.s []),.d (.s []),.d (.i .i64 0),.d (.i .i64 0),.d (.s []),.aY [],.aY [],.aY []]:=dX
theorem agd:dV 31 1 8 [.d (.o .nilFunc)]:=dX
theorem agf:dV 33 1 8 [.d (.o .nilFunc)]:=dX
theorem agh:dV 34 1 24 [.aY []]:=dX
theorem agi:dV 35 1 24 [.aY []]:=dX
theorem agj:dV 36 1 24 [.aY []]:=dX
theorem agk:dV 37 1 24 [.aY []]:=dX
theorem agl:dV 38 1 24 [.aY []]:=dX
theorem agm:dV 40 6 136 [.d (.s []),.aY [],.aY [],.aY [],.aY [],.aY []]:=dX
theorem agn:dV 47 1 24 [.aY []]:=dX
theorem agp:dV 49 1 8 [.d (.o .nilFunc)]:=dX
theorem agq:dV 52 1 24 [.aY []]:=dX
theorem agr:dV 54 2 40 [.d (.s []),.aY []]:=dX
theorem agt:dV 58 1 8 [.d (.o .nilFunc)]:=dX
theorem agu:dV 69 1 8 [.d (.o .nilFunc)]:=dX
theorem agv:dV 70 1 8 [.d (.o .nilFunc)]:=dX
theorem agw:dV 71 1 8 [.d (.o .nilFunc)]:=dX
theorem agx:dV 79 1 8 [.d (.o (.pointer none))]:=dX
theorem agy:dV 81 5 48 [.d (.s []),.d (.i .i64 0),.d (.i .i64 0),.d (.i .i64 0),.d (.b false)]:=dX
theorem agz:dV 84 1 8 [.d (.o .nilFunc)]:=dX
theorem agA:dV 86 1 8 [.d (.o .nilFunc)]:=dX
theorem agB:dV 87 1 8 [.d (.o .nilFunc)]:=dX
theorem agC:dV 89 1 24 [.aY []]:=dX
theorem agD:dV 92 1 8 [.d (.o .nilFunc)]:=dX
theorem agE:dV 94 11 184 [.d (.s []),.aY [],.d (.i .i64 0),.d (.s []),.d (.s []),.d (.i .i64 0),.d (.i .i64 0),.d (.s []),.aY [],.aY [],.aY []]:=dX
theorem agF:dV 99 1 8 [.d (.o .nilFunc)]:=dX
theorem aeF:dV 100 1 8 [.d (.o .nilFunc)]:=dX
theorem aeG:dV 101 1 8 [.d (.o (.pointer none))]:=dX
theorem aeH:dV 105 1 24 [.aY []]:=dX
theorem aeI:dV 107 5 72 [.d (.s []),.aY [],.d (.b false),.d (.b false),.aY []]:=dX
theorem aeJ:dV 109 1 24 [.aY []]:=dX
theorem aeK:dV 111 3 64 [.d (.s []),.aY [],.aY []]:=dX
theorem aeL:dV 113 1 24 [.aY []]:=dX
theorem aeM:dV 116 12 192 [.d (.s []),.aY [],.d (.i .i64 0),.d (.s []),.aY [],.aY [],.d (.b false),.d (.b false),.d (.i .i64 0),.d (.s []),.aY [],.aY []]:=dX
theorem aeN:dV 120 16 280 [.d (.s []),.aY [],.aY [],.aY [],.d (.i .i64 0),.d (.s []),.aY [],.d (.i .i64 0),.d (.s []),.d (.s []),.d (.i .i64 0),.d (.i .i64 0),.d (.s []),.aY [],.aY [],.aY []]:=dX
theorem aeO:dV 127 1 24 [.aY []]:=dX
theorem aeP:dV 128 1 8 [.d (.o .nilFunc)]:=dX
theorem aeQ:dV 129 256 256 [.d (.b false),.d (.b false),.d (.b false),.d (.b false),.d (.b false),.d (.b false),.d (.b false),.d (.b false),.d (.b false),.d (.b false),.d (.b false),.d (.b false),.d (.b false),.d (.b false),.d (.b false),.d (.b false),.d (.b false),.d (.b false),.d (.b false),.d (.b false),.d (.b false),.d (.b false),.d (.b false),.d (.b false),.d (.b false),.d (.b false),.d (.b false),.d (.b false),.d (.b false),.d (.b false),.d (.b false),.d (.b false),.d (.b false),.d (.b false),.d (.b false),.d (.b false),.d (.b false),.d (.b false),.d (.b false),.d (.b false),.d (.b false),.d (.b false),.d (.b false),.d (.b false),.d (.b false),.d (.b false),.d (.b false),.d (.b false),.d (.b false),.d (.b false),.d (.b false),.d (.b false),.d (.b false),.d (.b false),.d (.b false),.d (.b false),.d (.b false),.d (.b false),.d (.b false),.d (.b false),.d (.b false),.d (.b false),.d (.b false),.d (.b false),.d (.b false),.d (.b false),.d (.b false),.d (.b false),.d (.b false),.d (.b false),.d (.b false),.d (.b false),.d (.b false),.d (.b false),.d (.b false),.d (.b false),.d (.b false),.d (.b false),.d (.b false),.d (.b false),.d (.b false),.d (.b false),.d (.b false),.d (.b false),.d (.b false),.d (.b false),.d (.b false),.d (.b false),.d (.b false),.d (.b false),.d (.b false),.d (.b false),.d (.b false),.d (.b false),.d (.b false),.d (.b false),.d (.b false),.d (.b false),.d (.b false),.d (.b false),.d (.b false),.d (.b false),.d (.b false),.d (.b false),.d (.b false),.d (.b false),.d (.b false),.d (.b false),.d (.b false),.d (.b false),.d (.b false),.d (.b false),.d (.b false),.d (.b false),.d (.b false),.d (.b false),.d (.b false),.d (.b false),.d (.b false),.d (.b false),.d (.b false),.d (.b false),.d (.b false),.d (.b false),.d (.b false),.d (.b false),.d (.b false),.d (.b false),.d (.b false),.d (.b false),.d (.b false),.d (.b false),.d (.b false),.d (.b false),.d (.b false),.d (.b false),.d (.b false),.d (.b false),.d (.b false),.d (.b false),.d (.b false),.d (.b false),.d (.b false),.d (.b false),.d (.b false),.d (.b false),.d (.b false),.d (.b false),.d (.b false),.d (.b false),.d (.b false),.d (.b false),.d (.b false),.d (.b false),.d (.b false),.d (.b false),.d (.b false),.d (.b false),.d (.b false),.d (.b false),.d (.b false),.d (.b false),.d (.b false),.d (.b false),.d (.b false),.d (.b false),.d (.b false),.d (.b false),.d (.b false),.d (.b false),.d (.b false),.d (.b false),.d (.b false),.d (.b false),.d (.b false),.d (.b false),.d (.b false),.d (.b false),.d (.b false),.d (.b false),.d (.b false),.d (.b false),.d (.b false),.d (.b false),.d (.b false),.d (.b false),.d (.b false),.d (.b false),.d (.b false),.d (.b false),.d (.b false),.d (.b false),.d (.b false),.d (.b false),.d (.b false),.d (.b false),.d (.b false),.d (.b false),.d (.b false),.d (.b false),.d (.b false),.d (.b false),.d (.b false),.d (.b false),.d (.b false),.d (.b false),.d (.b false),.d (.b false),.d (.b false),.d (.b false),.d (.b false),.d (.b false),.d (.b false),.d (.b false),.d (.b false),.d (.b false),.d (.b false),.d (.b false),.d (.b false),.d (.b false),.d (.b false),.d (.b false),.d (.b false),.d (.b false),.d (.b false),.d (.b false),.d (.b false),.d (.b false),.d (.b false),.d (.b false),.d (.b false),.d (.b false),.d (.b false),.d (.b false),.d (.b false),.d (.b false),.d (.b false),.d (.b false),.d (.b false),.d (.b false),.d (.b false),.d (.b false),.d (.b false),.d (.b false),.d (.b false),.d (.b false),.d (.b false),.d (.b false),.d (.b false),.d (.b false),.d (.b false),.d (.b false),.d (.b false),.d (.b false),.d (.b false),.d (.b false)]:=dX
theorem aeR:dV 179 16 264 [.d (.s []),.aY [],.d (.i .i64 0),.d (.s []),.aY [],.d (.b false),.aY [],.d (.i .i64 0),.d (.s []),.d (.s []),.d (.i .i64 0),.d (.i .i64 0),.d (.s []),.aY [],.aY [],.aY []]:=dX
theorem aeS:dV 181 2 40 [.d (.s []),.aY []]:=dX
theorem aeT:dV 183 4 64 [.d (.s []),.d (.i .i64 0),.d (.s []),.aY []]:=dX
theorem aeU:dV 198 1 8 [.d (.o .nilFunc)]:=dX
theorem aeV:dV 206 1 8 [.d (.o .nilFunc)]:=dX
theorem aeW:dV 239 1 16 [.d (.o .nilIface)]:=dX
theorem aeX:dV 251 1 8 [.d (.o (.map none))]:=dX
theorem aeY:dV 255 1 8 [.d (.o .nilFunc)]:=dX
theorem aeZ:dV 258 1 8 [.d (.o .nilFunc)]:=dX
theorem ae0:dV 262 1 8 [.d (.i .u64 0)]:=dX
theorem ae1:dV 278 1 8 [.d (.o (.pointer none))]:=dX
theorem ae2:dV 281 24 24 [.d (.i .u8 0),.d (.i .u8 0),.d (.i .u8 0),.d (.i .u8 0),.d (.i .u8 0),.d (.i .u8 0),.d (.i .u8 0),.d (.i .u8 0),.d (.i .u8 0),.d (.i .u8 0),.d (.i .u8 0),.d (.i .u8 0),.d (.i .u8 0),.d (.i .u8 0),.d (.i .u8 0),.d (.i .u8 0),.d (.i .u8 0),.d (.i .u8 0),.d (.i .u8 0),.d (.i .u8 0),.d (.i .u8 0),.d (.i .u8 0),.d (.i .u8 0),.d (.i .u8 0)]:=dX
theorem ae3:dV 282 1 8 [.d (.i .u64 0)]:=dX
theorem ae4:dV 293 1 4 [.d (.i .u32 0)]:=dX
theorem ae5:dV 300 3 48 [.d (.s []),.d (.s []),.d (.o .nilIface)]:=dX
theorem ae6:dV 303 20 160 [.d (.i .u64 0),.d (.i .u64 0),.d (.i .u64 0),.d (.i .u64 0),.d (.i .u64 0),.d (.i .u64 0),.d (.i .u64 0),.d (.i .u64 0),.d (.i .u64 0),.d (.i .u64 0),.d (.i .u64 0),.d (.i .u64 0),.d (.i .u64 0),.d (.i .u64 0),.d (.i .u64 0),.d (.i .u64 0),.d (.i .u64 0),.d (.i .u64 0),.d (.i .u64 0),.d (.i .u64 0)]:=dX
theorem ae7:dV 304 65 65 [.d (.i .u8 0),.d (.i .u8 0),.d (.i .u8 0),.d (.i .u8 0),.d (.i .u8 0),.d (.i .u8 0),.d (.i .u8 0),.d (.i .u8 0),.d (.i .u8 0),.d (.i .u8 0),.d (.i .u8 0),.d (.i .u8 0),.d (.i .u8 0),.d (.i .u8 0),.d (.i .u8 0),.d (.i .u8 0),.d (.i .u8 0),.d (.i .u8 0),.d (.i .u8 0),.d (.i .u8 0),.d (.i .u8 0),.d (.i .u8 0),.d (.i .u8 0),.d (.i .u8 0),.d (.i .u8 0),.d (.i .u8 0),.d (.i .u8 0),.d (.i .u8 0),.d (.i .u8 0),.d (.i .u8 0),.d (.i .u8 0),.d (.i .u8 0),.d (.i .u8 0),.d (.i .u8 0),.d (.i .u8 0),.d (.i .u8 0),.d (.i .u8 0),.d (.i .u8 0),.d (.i .u8 0),.d (.i .u8 0),.d (.i .u8 0),.d (.i .u8 0),.d (.i .u8 0),.d (.i .u8 0),.d (.i .u8 0),.d (.i .u8 0),.d (.i .u8 0),.d (.i .u8 0),.d (.i .u8 0),.d (.i .u8 0),.d (.i .u8 0),.d (.i .u8 0),.d (.i .u8 0),.d (.i .u8 0),.d (.i .u8 0),.d (.i .u8 0),.d (.i .u8 0),.d (.i .u8 0),.d (.i .u8 0),.d (.i .u8 0),.d (.i .u8 0),.d (.i .u8 0),.d (.i .u8 0),.d (.i .u8 0),.d (.i .u8 0)]:=dX
theorem ae8:dV 308 1 24 [.aY []]:=dX
theorem ae9:dV 311 1 8 [.d (.o (.pointer none))]:=dX
theorem afa:dV 312 1 8 [.d (.o (.pointer none))]:=dX
theorem afb:dV 314 1 16 [.d (.s [])]:=dX
theorem afc:dV 316 32 32 [.d (.i .u8 0),.d (.i .u8 0),.d (.i .u8 0),.d (.i .u8 0),.d (.i .u8 0),.d (.i .u8 0),.d (.i .u8 0),.d (.i .u8 0),.d (.i .u8 0),.d (.i .u8 0),.d (.i .u8 0),.d (.i .u8 0),.d (.i .u8 0),.d (.i .u8 0),.d (.i .u8 0),.d (.i .u8 0),.d (.i .u8 0),.d (.i .u8 0),.d (.i .u8 0),.d (.i .u8 0),.d (.i .u8 0),.d (.i .u8 0),.d (.i .u8 0),.d (.i .u8 0),.d (.i .u8 0),.d (.i .u8 0),.d (.i .u8 0),.d (.i .u8 0),.d (.i .u8 0),.d (.i .u8 0),.d (.i .u8 0),.d (.i .u8 0)]:=dX
theorem afd:dV 317 64 64 [.d (.i .u8 0),.d (.i .u8 0),.d (.i .u8 0),.d (.i .u8 0),.d (.i .u8 0),.d (.i .u8 0),.d (.i .u8 0),.d (.i .u8 0),.d (.i .u8 0),.d (.i .u8 0),.d (.i .u8 0),.d (.i .u8 0),.d (.i .u8 0),.d (.i .u8 0),.d (.i .u8 0),.d (.i .u8 0),.d (.i .u8 0),.d (.i .u8 0),.d (.i .u8 0),.d (.i .u8 0),.d (.i .u8 0),.d (.i .u8 0),.d (.i .u8 0),.d (.i .u8 0),.d (.i .u8 0),.d (.i .u8 0),.d (.i .u8 0),.d (.i .u8 0),.d (.i .u8 0),.d (.i .u8 0),.d (.i .u8 0),.d (.i .u8 0),.d (.i .u8 0),.d (.i .u8 0),.d (.i .u8 0),.d (.i .u8 0),.d (.i .u8 0),.d (.i .u8 0),.d (.i .u8 0),.d (.i .u8 0),.d (.i .u8 0),.d (.i .u8 0),.d (.i .u8 0),.d (.i .u8 0),.d (.i .u8 0),.d (.i .u8 0),.d (.i .u8 0),.d (.i .u8 0),.d (.i .u8 0),.d (.i .u8 0),.d (.i .u8 0),.d (.i .u8 0),.d (.i .u8 0),.d (.i .u8 0),.d (.i .u8 0),.d (.i .u8 0),.d (.i .u8 0),.d (.i .u8 0),.d (.i .u8 0),.d (.i .u8 0),.d (.i .u8 0),.d (.i .u8 0),.d (.i .u8 0),.d (.i .u8 0)]:=dX
theorem laidOut:laidOutB Tryz.prog=true:=by kernel_rfl
theorem own:ownKnob Tryz.prog.godebug=none:=by kernel_rfl
attribute [go_sem] ty1 Tryz.underlying1 ty2 Tryz.underlying2 ty3 Tryz.underlying3 ty4 Tryz.underlying4 aeE ty5 Tryz.underlying5 ty9 Tryz.underlying9 af3 Tryz.underlying12 af4 Tryz.underlying20 af5 Tryz.underlying21 af6 Tryz.underlying22 af7 Tryz.underlying23 af8 Tryz.underlying24 af9 Tryz.underlying25 aga Tryz.underlying26 agb Tryz.underlying27 agc Tryz.underlying28 agd Tryz.underlying31 agf Tryz.underlying33 agh Tryz.underlying34 agi Tryz.underlying35 agj Tryz.underlying36 agk Tryz.underlying37 agl Tryz.underlying38 agm Tryz.underlying40 agn Tryz.underlying47 agp Tryz.underlying49 agq Tryz.underlying52 agr Tryz.underlying54 agt Tryz.underlying58 agu Tryz.underlying69 agv Tryz.underlying70 agw Tryz.underlying71 agx Tryz.underlying79 agy Tryz.underlying81 agz Tryz.underlying84 agA Tryz.underlying86 agB Tryz.underlying87 agC Tryz.underlying89 agD Tryz.underlying92 agE Tryz.underlying94 agF Tryz.underlying99 aeF Tryz.underlying100 aeG Tryz.underlying101 aeH Tryz.underlying105 aeI Tryz.underlying107 aeJ Tryz.underlying109 aeK Tryz.underlying111 aeL Tryz.underlying113 aeM Tryz.underlying116 aeN Tryz.underlying120 aeO Tryz.underlying127 aeP Tryz.underlying128 aeQ Tryz.underlying129 aeR Tryz.underlying179 aeS Tryz.underlying181 aeT Tryz.underlying183 aeU Tryz.underlying198 aeV Tryz.underlying206 aeW Tryz.underlying239 aeX Tryz.underlying251 aeY Tryz.underlying255 aeZ Tryz.underlying258 ae0 Tryz.underlying262 ae1 Tryz.underlying278 ae2 Tryz.underlying281 ae3 Tryz.underlying282 ae4 Tryz.underlying293 ae5 Tryz.underlying300 ae6 Tryz.underlying303 ae7 Tryz.underlying304 ae8 Tryz.underlying308 ae9 Tryz.underlying311 afa Tryz.underlying312 afb Tryz.underlying314 afc Tryz.underlying316 afd Tryz.underlying317
end Go.Proofs.YtokkjobjffhfjaaGreatDoor.Fa
namespace Go.Proofs.YtokkjobjffhfjaaGreatDoor
open Go Go.Ab
theorem MZ(xs ys:List (List UInt8))(hsz:xs.length≤1073741824):aD Tryz.prog 36 [.c (.d (.sl (xs.map encS))),.c (.d (.sl (ys.map encS)))] (.c (.d (.b (dec (xs=ys))))):=by
 intro S
 refine aB (rs:=[.tmp 4]) Tryz.checked.mixed Tryz.func36 Tryz.ntmps36 rfl rfl rfl rfl rfl ?_
 refine W1 ?_
 refine S0 (fun hb h=>?_) fun hb h=>?_
 ·exact aK (aN (fun e=>h (by rw[e]))).symm
 have hl:xs.length=ys.length:=by omega
 refine aW (ι:=Nat) Tryz.checked.mixed rfl [0,1,5] (fun y=>[.c (.d (.sl (xs.map encS))),.c (.d (.sl (ys.map encS))),.c (.d (.i .i64 y))]) (fun y=>[]::S)
  (fun i=>i≤xs.length∧∀j,j<i→xs[j]? =ys[j]?) (fun y=>xs.length-y) 0 rfl rfl ⟨Nat.zero_le _,fun j h=>by omega⟩ ?_
 rintro i ⟨p1,p2⟩
 refine W1 ?_
 refine S0 (fun hb h=>?_) fun hb h=>?_
 ·have hi:i<xs.length:=by omega
  have hi':i<ys.length:=by omega
  refine W3 ?_
  refine S0 (fun hb h=>?_) fun hb h=>?_
  ·exact aK (aN (fun e=>h (by simp only[e]))).symm
  refine bK (i+1) (by omega) rfl rfl ⟨by omega,fun j hj=> ?_⟩
  by_cases e:j=i
  ·subst e
   rw[List.getElem?_eq_getElem hi,List.getElem?_eq_getElem hi',h]
  ·exact p2 j (by omega)
 ·have hi:i=xs.length:=by omega
  refine aK (cK (List.ext_getElem? fun j=> ?_)).symm
  by_cases hj:j<i
  ·exact p2 j hj
  ·rw[List.getElem?_eq_none (by omega),List.getElem?_eq_none (by omega)]
end Go.Proofs.YtokkjobjffhfjaaGreatDoor
namespace Go.Proofs.YtokkjobjffhfjaaGreatDoor
open Go Go.Ab
theorem zo(n a b:Int):aD Tryz.prog 181 [.c (.d (.i .i64 n)),.c (.d (.i .i64 a)),.c (.d (.i .i64 b))] (.c (.d (.b (dec (a≤n∧n≤b))))):=fun S=>by
 refine aB (rs:=[.tmp 6]) Tryz.checked.mixed Tryz.func181 Tryz.ntmps181 rfl rfl rfl rfl rfl ?_
 refine W1 ?_
 refine S0 (fun hb h=>?_) fun hb h=>?_
 ·exact aK (by rw[mo];exact mh ⟨fun x=>⟨by omega,x⟩,fun x=>x.2⟩)
 ·exact aK (aN (by omega)).symm
theorem EH(xs:List (List UInt8))(s:List UInt8)(hl:xs.length≤1073741824):aD Tryz.prog 150 [.c (.d (.sl (xs.map encS))),.c (.d (.s s))] (.c (.d (.b (dec (s∈xs))))):=fun S=>by
 refine aB (rs:=[.tmp 4]) Tryz.checked.mixed Tryz.func150 Tryz.ntmps150 rfl rfl rfl rfl rfl ?_
 simp -implicitDefEqProofs (disch:=omega) only[go_sem,encS]
 refine aW (ι:=Nat) Tryz.checked.mixed rfl [0,1,5] (fun i=>[.c (.d (.sl (xs.map encS))),.c (.d (.s s)),.c (.d (.i .i64 i))]) (fun _=>[]::S)
  (fun i=>i≤xs.length∧∀j,j<i→∀h:j<xs.length,xs[j]≠s) (fun i=>xs.length-i) 0 rfl rfl ⟨Nat.zero_le _,fun j h=>by omega⟩ ?_
 rintro i ⟨p1,p2⟩
 simp -implicitDefEqProofs (disch:=omega) only[go_sem,encS]
 with_reducible refine dP (fun hb=> ?_) (fun hb=> ?_)<;>have h:=hb<;>(try simp only[wf_preprocess] at h)<;>simp -implicitDefEqProofs (disch:=omega) only[go_sem,hb,encS]<;>refine W3 ?_
 ·have hi:i<xs.length:=by omega
  with_reducible refine dP (fun hb=> ?_) (fun hb=> ?_)<;>have h:=hb<;>(try simp only[wf_preprocess] at h)<;>simp -implicitDefEqProofs (disch:=omega) only[go_sem,hb,encS]<;>refine W3 ?_
  ·exact aK (cK (by rw[←h];exact List.getElem_mem hi)).symm
  ·refine bK (i+1) (by omega) rfl rfl ⟨by omega,fun j hj hl=> ?_⟩
   by_cases e:j=i
   ·subst e;exact h
   ·exact p2 j (by omega) hl
 ·refine aK (aN fun hm=> ?_).symm
  obtain⟨j,h1,h2⟩:=List.getElem_of_mem hm
  exact p2 j (by omega) h1 h2
theorem V4(xs:List (List UInt8))(s:List UInt8)(hl:xs.length≤1073741824):aD Tryz.prog 228 [.c (.d (.sl (xs.map encS))),.c (.d (.s s))] (.c (.d (.i .i64 (xE xs s)))):=fun S=>by
 refine aB (rs:=[.tmp 4]) Tryz.checked.mixed Tryz.func228 Tryz.ntmps228 rfl rfl rfl rfl rfl ?_
 simp -implicitDefEqProofs (disch:=omega) only[go_sem,encS]
 refine aW (ι:=Nat) Tryz.checked.mixed rfl [0,1,7,8] (fun i=>[.c (.d (.sl (xs.map encS))),.c (.d (.s s)),.c (.d (.i .i64 xs.length)),.c (.d (.i .i64 i))]) (fun _=>[]::S)
  (fun i=>i≤xs.length∧∀j,j<i→xs.getD j []≠s) (fun i=>xs.length-i) 0 rfl rfl ⟨Nat.zero_le _,fun j h=>by omega⟩ ?_
 rintro i ⟨p1,p2⟩
 simp -implicitDefEqProofs (disch:=omega) only[go_sem,encS]
 with_reducible refine dP (fun hb=> ?_) (fun hb=> ?_)<;>have h:=hb<;>(try simp only[wf_preprocess] at h)<;>simp -implicitDefEqProofs (disch:=omega) only[go_sem,hb,encS]<;>refine W3 ?_
 ·have hi:i<xs.length:=by omega
  have e:xs.getD i []=xs[i]:=by simp[List.getD,hi]
  with_reducible refine dP (fun hb=> ?_) (fun hb=> ?_)<;>have h:=hb<;>(try simp only[wf_preprocess] at h)<;>simp -implicitDefEqProofs (disch:=omega) only[go_sem,hb,encS]<;>refine W3 ?_
  ·rw[Pj hi p2 (by rw[e];exact h.symm)]
  ·refine bK (i+1) (by omega) rfl rfl ⟨by omega,fun j hj=> ?_⟩
   by_cases e':j=i
   ·subst e';rw[e];exact fun x=>h x.symm
   ·exact p2 j (by omega)
 ·rw[VX (fun j hj=>p2 j (by omega))]
theorem M0(xs:List (List UInt8))(s:List UInt8)(hl:xs.length≤1073741824):aD Tryz.prog 276 [.c (.d (.sl (xs.map encS))),.c (.d (.s s))] (.c (.d (.b (dec (s∈xs))))):=fun S=>by
 refine aB (rs:=[.tmp 4]) Tryz.checked.mixed Tryz.func276 Tryz.ntmps276 rfl rfl rfl rfl rfl ?_
 refine W1 ?_
 refine C2 (V4 xs s hl) ?_
 exact aK SK
theorem Gj(s:List UInt8):aD Tryz.prog 212 [.c (.d (.s s))] (.c (.d (.b (dec (s∈reserved))))):=fun S=>by
 refine aB (rs:=[.tmp 2]) Tryz.checked.mixed Tryz.func212 Tryz.ntmps212 rfl rfl rfl rfl rfl ?_
 refine W1 ?_
 refine W3 ?_
 exact C4 (EH reserved s (by decide))
theorem Gl(s:List UInt8):aD Tryz.prog 224 [.c (.d (.s s))] (.c (.d (.b (dec (s∈reserved))))):=fun S=>by
 refine aB (rs:=[.tmp 2]) Tryz.checked.mixed Tryz.func224 Tryz.ntmps224 rfl rfl rfl rfl rfl ?_
 refine W1 ?_
 refine W3 ?_
 exact C4 (M0 reserved s (by decide))
theorem Gm(b:UInt8):aD Tryz.prog 124 [.c (.d (.i .u8 b.toNat))] (.c (.d (.b (dec (lowerB b))))):=fun S=>by
 refine aB (rs:=[.tmp 2]) Tryz.checked.mixed Tryz.func124 Tryz.ntmps124 rfl rfl rfl rfl rfl ?_
 refine W1 ?_
 refine S0 (fun hb h=>?_) fun hb h=>?_
 ·exact aK (by rw[mo];exact mh ⟨fun x=>⟨by omega,by omega⟩,fun x=>by have:=x.2;omega⟩)
 ·exact aK (aN fun x=>by have:=x.1;omega).symm
theorem Gn(b:UInt8):aD Tryz.prog 125 [.c (.d (.i .u8 b.toNat))] (.c (.d (.b (dec (mF b))))):=fun S=>by
 refine aB (rs:=[.tmp 2]) Tryz.checked.mixed Tryz.func125 Tryz.ntmps125 rfl rfl rfl rfl rfl ?_
 refine W1 ?_
 refine S0 (fun hb h=>?_) fun hb h=>?_
 ·exact aK (by rw[mo];exact mh ⟨fun x=>⟨by omega,by omega⟩,fun x=>by have:=x.2;omega⟩)
 ·exact aK (aN fun x=>by have:=x.1;omega).symm
theorem lQ(s:List UInt8)(hl:s.length≤1073741824):aD Tryz.prog 157 [.c (.d (.s s))] (.c (.d (.b (validName s)))):=fun S=>by
 refine aB (rs:=[.tmp 2]) Tryz.checked.mixed Tryz.func157 Tryz.ntmps157 rfl rfl rfl rfl rfl ?_
 refine W1 ?_
 refine aW (ι:=Nat) Tryz.checked.mixed rfl [0,5,6] (fun i=>[.c (.d (.s s)),.c (.d (.i .i64 s.length)),.c (.d (.i .i64 i))]) (fun _=>[]::S)
  (fun i=>i≤s.length∧∀j,j<i→lowerB (s.getD j 0)∨(j≠0∧mF (s.getD j 0))) (fun i=>s.length-i) 0 rfl rfl ⟨Nat.zero_le _,fun j h=>by omega⟩ ?_
 rintro i ⟨p1,p2⟩
 have next:i<s.length→(lowerB (s.getD i 0)∨(i≠0∧mF (s.getD i 0)))→∀j,j<i+1→lowerB (s.getD j 0)∨(j≠0∧mF (s.getD j 0)):=fun hi h j hj=>by
  by_cases e:j=i
  ·subst e;exact h
  ·exact p2 j (by omega)
 have bad:i<s.length→¬(lowerB (s.getD i 0)∨(i≠0∧mF (s.getD i 0)))→validName s=false:=fun hi h=>aN fun x=>h (x.2.2 i hi)
 refine W1 ?_
 refine S0 (fun hb h=>?_) fun hb h=>?_
 ·have hi:i<s.length:=by omega
  refine W3 ?_
  refine C2 (Gm (s.getD i 0)) ?_
  refine S0 (fun hb h=>?_) fun hb h=>?_
  ·have nl:=h
   refine S0 (fun hb h=>?_) fun hb h=>?_
   ·have i0:i=0:=by omega
    rw[bad hi (fun x=>x.elim nl fun y=>y.1 i0)]
   ·have ne:=h
    refine W3 ?_
    refine C2 (Gn (s.getD i 0)) ?_
    refine S0 (fun hb h=>?_) fun hb h=>?_
    ·rw[bad hi (fun x=>x.elim nl fun y=>h y.2)]
    ·exact bK (i+1) (by omega) rfl rfl ⟨by omega,next hi (.inr ⟨by omega,h⟩)⟩
  ·exact bK (i+1) (by omega) rfl rfl ⟨by omega,next hi (.inl h)⟩
 ·have hn:MO s:=fun j hj=>p2 j (by omega)
  have h0:∀b,dec (s∈reserved)=b→∀c,decide ((s.length:Int)≥1)=c→∀d,decide ((s.length:Int)≤8)=d→validName s=(c&&d&& !b):=by
   rintro b rfl c rfl d rfl
   unfold validName
   rw[Bool.eq_iff_iff]
   simp only[uJ,Bool.and_eq_true,decide_eq_true_eq,Bool.not_eq_true',BN]
   exact⟨fun x=>⟨⟨by omega,by omega⟩,x.2.1⟩,fun x=>⟨⟨by omega,by omega⟩,x.2,hn⟩⟩
  refine S0 (fun hb h=>?_) fun hb h=>?_
  ·have c1:=hb
   refine S0 (fun hb h=>?_) fun hb h=>?_
   ·refine C2 (Gl s) ?_
    exact aK (by rw[h0 _ rfl _ c1 _ hb];simp)
   ·exact aK (by rw[h0 _ rfl _ c1 _ hb];simp)
  ·exact aK (by rw[h0 _ rfl _ hb _ rfl];simp)
theorem lS(s:List UInt8)(hl:s.length≤1073741824):aD Tryz.prog 148 [.c (.d (.s s))] (.c (.d (.b (validName s)))):=fun S=>by
 have bad:¬MO s→validName s=false:=fun h=>aN fun x=>h x.2.2
 refine aB (rs:=[.tmp 2]) Tryz.checked.mixed Tryz.func148 Tryz.ntmps148 rfl rfl rfl rfl rfl ?_
 refine W1 ?_
 refine C2 (zo s.length 1 8) ?_
 refine S0 (fun hb h=>?_) fun hb h=>?_
 ·rw[show validName s=false from aN fun x=>h (by omega)]
 have hlen:=h
 refine C2 (Gj s) ?_
 refine S0 (fun hb h=>?_) fun hb h=>?_
 ·rw[show validName s=false from aN fun x=>x.2.1 h]
 have hres:=h
 refine aW (ι:=Nat) Tryz.checked.mixed rfl [0,3] (fun i=>[.c (.d (.s s)),.c (.d (.i .i64 i))]) (fun _=>[]::S)
  (fun i=>i≤s.length∧∀j,j<i→lowerB (s.getD j 0)∨(j≠0∧mF (s.getD j 0))) (fun i=>s.length-i) 0 rfl rfl ⟨Nat.zero_le _,fun j h=>by omega⟩ ?_
 rintro i ⟨p1,p2⟩
 have next:i<s.length→(lowerB (s.getD i 0)∨(i≠0∧mF (s.getD i 0)))→∀j,j<i+1→lowerB (s.getD j 0)∨(j≠0∧mF (s.getD j 0)):=fun hi h j hj=>by
  by_cases e:j=i
  ·subst e;exact h
  ·exact p2 j (by omega)
 refine W1 ?_
 refine S0 (fun hb h=>?_) fun hb h=>?_
 ·have hi:i<s.length:=by omega
  have bad':¬(lowerB (s.getD i 0)∨(i≠0∧mF (s.getD i 0)))→validName s=false:=fun h=>bad fun x=>h (x i hi)
  have next:=next hi
  unfold lowerB mF at bad' next
  all_goals try(refine S0 (fun hb h=>?_) fun hb h=>?_)
  all_goals try(refine S0 (fun hb h=>?_) fun hb h=>?_)
  all_goals try(refine S0 (fun hb h=>?_) fun hb h=>?_)
  all_goals try(refine S0 (fun hb h=>?_) fun hb h=>?_)
  all_goals try(refine S0 (fun hb h=>?_) fun hb h=>?_)
  all_goals try(with_reducible refine dP (fun hb=> ?_) (fun hb=> ?_)<;>have h:=hb<;>(try simp only[wf_preprocess] at h)<;>simp -implicitDefEqProofs (disch:=omega) only[go_sem,hb]<;>(repeat(with_reducible refine And.intro ?_ ?_;focus first|omega|rfl|assumption|exact⟨_,rfl,rfl⟩|(simp;omega)|(simp;done))))
  all_goals first
   |exact bK (i+1) (by omega) rfl rfl ⟨by omega,next (by omega)⟩
   |exact aK (bad' (by omega)).symm
 ·rw[show validName s=true from cK ⟨by omega,hres,fun j hj=>p2 j (by omega)⟩]
theorem V5(s:List UInt8):aD Tryz.prog 297 [.c (.d (.s s))] (.c (.d (.b (qU s)))):=fun S=>by
 refine aB (rs:=[.tmp 2]) Tryz.checked.mixed Tryz.func297 Tryz.ntmps297 rfl rfl rfl rfl rfl ?_
 refine W1 ?_
 refine S0 (fun hb h=>?_) fun hb h=>?_
 ·exact aK (cK (.inl h)).symm
 ·exact aK (by rw[mo];exact mh ⟨fun x=>.inr x,fun x=>x.resolve_left h⟩)
theorem M4(s:List UInt8):aD Tryz.prog 322 [.c (.d (.s s))] (.c (.d (.b (qU s)))):=fun S=>by
 refine aB (rs:=[.tmp 2]) Tryz.checked.mixed Tryz.func322 Tryz.ntmps322 rfl rfl rfl rfl rfl ?_
 refine W1 ?_
 refine S0 (fun hb h=>?_) fun hb h=>?_
 ·exact aK (cK (.inl h)).symm
 ·exact aK (by rw[mo];exact mh ⟨fun x=>.inr x,fun x=>x.resolve_left h⟩)
end Go.Proofs.YtokkjobjffhfjaaGreatDoor
namespace Go.Proofs.YtokkjobjffhfjaaGreatDoor
open Go Go.Ab
end Go.Proofs.YtokkjobjffhfjaaGreatDoor
namespace Go.Proofs.YtokkjobjffhfjaaGreatDoor
open Go Go.Ab
theorem vB{x:ak}{i:Nat}(hi:i<x.fArgs.length)(h:x.sz≤4194304):x.fArgs[i].sz≤4194304∧x.fArgs.length≤4194304∧x.fName.length≤4194304:=by
 have hx:x.fArgs[i].sz≤dz (x.fArgs.map ak.enc):=gY (List.mem_map_of_mem (List.getElem_mem hi))
 simp only[ak.sz,ak.aC,bS,D.sz,List.length_map] at h
 omega
theorem yA{x:ak}(h:x.sz≤4194304):x.fArgs.length≤4194304∧x.fName.length≤4194304:=by
 simp only[ak.sz,ak.aC,bS,D.sz,List.length_map] at h
 omega
theorem mG:∀{ts:List ak} {i:Nat} (hi:i<ts.length),ak.dS (ts.drop i)=ts[i].cnt+ak.dS (ts.drop (i+1)):=fun {ts} {i} hi=>by
 rw[List.drop_eq_getElem_cons hi,ak.dS]
theorem Eh:∀{ts:List ak} {i:Nat} (hi:i<ts.length),depths (ts.drop i)=max (jK ts[i]+1) (depths (ts.drop (i+1))):=fun {ts} {i} hi=>by
 rw[List.drop_eq_getElem_cons hi,depths]
theorem M5:∀{ts:List ak} {i:Nat} (hi:i<ts.length),iq (ts.drop i)=(formed ts[i]&&iq (ts.drop (i+1))):=fun {ts} {i} hi=>by
 rw[List.drop_eq_getElem_cons hi,iq]
theorem Gp:∀n:Nat,∀x:ak,SizeOf.sizeOf x<n→∀l:Int,0≤l→l≤1073741824→x.sz≤4194304→aD Tryz.prog 252 [x.v,.c (.d (.i .i64 l))] (.c (.d (.i .i64 (j4 l x.cnt))))
 |0=>fun x h=>by omega
 |n+1=>by
  have ih:=Gp n
  intro x hn l h0 h1 hsz S
  have jS:=ak.gF x
  have hts:=yA hsz
  have hcn:=ak.oz x
  refine aB (rs:=[.tmp 4]) Tryz.checked.mixed Tryz.func252 Tryz.ntmps252 rfl rfl rfl rfl rfl ?_
  refine W1 ?_
  refine aW (ι:=Nat×Int) Tryz.checked.mixed rfl [1,2,5] (fun y=>[.c (.d (.i .i64 y.2)),.c (.ptr (0,0) 0),.c (.d (.i .i64 y.1))]) (fun y=>[.box [.d (.i .i64 x.aH),.d (.s x.fName),.d (.sl (x.fArgs.map ak.enc))]]::S)
   (fun y=>y.1≤x.fArgs.length∧ -1≤y.2∧y.2≤1073741824∧(0≤y.2→j4 l x.cnt=j4 y.2 (ak.dS (x.fArgs.drop y.1)))∧(y.2<0→j4 l x.cnt= -1)) (fun y=>x.fArgs.length-y.1) (0,l-1) rfl rfl ⟨Nat.zero_le _,by simp only;omega,by simp only;omega,fun h=> ?_,fun h=> ?_⟩ ?_
  ·simp only[List.drop_zero] at h ⊢
   unfold j4
   rw[hcn]
   split<;>split<;>omega
  ·simp only at h
   exact Dv (by omega)
  rintro⟨i,c⟩ ⟨p1,p2,p3,p4,p5⟩
  simp only at p1 p2 p3 p4 p5
  refine W1 ?_
  refine S0 (fun hb h=>?_) fun hb h=>?_
  ·have hi:i<x.fArgs.length:=by omega
   refine S0 (fun hb h=>?_) fun hb h=>?_
   ·have hsz':=vB hi hsz
    have p6:=p4 h
    rw[mG hi] at p6
    refine W3 ?_
    refine C2 (ih x.fArgs[i] (by have:=List.sizeOf_lt_of_mem (List.getElem_mem hi);omega) c (by omega) (by omega) (by omega)) ?_
    refine bK (i+1,j4 c _) (by simp only;omega) rfl rfl ⟨by simp only;omega,?_,?_,fun h=> ?_,fun h=> ?_⟩
    ·simp only;unfold j4;split<;>omega
    ·simp only;unfold j4;split<;>omega
    ·simp only at h ⊢
     rw[p6]
     have:=Du (l:=c) (a:=x.fArgs[i].cnt) (by omega)
     rw[this.1]
     unfold j4
     split<;>split<;>omega
    ·simp only at h ⊢
     rw[p6]
     have:=Ae h
     exact Dv (by omega)
   ·have hc:c= -1:=by omega
    rw[p5 (by omega),hc]
  ·have hi:i=x.fArgs.length:=by omega
   by_cases hc:0≤c
   ·rw[p4 hc,hi,List.drop_length,ak.dS,ML (by omega)]
    exact int_eq (by simp)
   ·rw[p5 (by omega)]
    exact int_eq (by omega)
theorem V6(x:ak)(l:Int)(h0:0≤l)(h1:l≤1073741824)(hsz:x.sz≤4194304):aD Tryz.prog 252 [x.v,.c (.d (.i .i64 l))] (.c (.d (.i .i64 (j4 l x.cnt)))):=Gp _ x (Nat.lt_succ_self _) l h0 h1 hsz
theorem M6(a b:Int):aD Tryz.prog 176 [.c (.d (.i .i64 a)),.c (.d (.i .i64 b))] (.c (.d (.i .i64 (max a b)))):=fun S=>by
 refine aB (rs:=[.tmp 4]) Tryz.checked.mixed Tryz.func176 Tryz.ntmps176 rfl rfl rfl rfl rfl ?_
 refine W1 ?_
 refine S0 (fun hb h=>?_) fun hb h=>?_
 ·exact int_eq (by omega)
 ·exact int_eq (by omega)
theorem A9:∀n:Nat,∀x:ak,SizeOf.sizeOf x<n→x.sz≤4194304→aD Tryz.prog 253 [x.v] (.c (.d (.i .i64 (jK x))))
 |0=>fun x h=>by omega
 |n+1=>by
  have ih:=A9 n
  intro x hn hsz S
  have jS:=ak.gF x
  have hts:=yA hsz
  have hd1:=vo x
  have hd2:=oC x
  refine aB (rs:=[.tmp 2]) Tryz.checked.mixed Tryz.func253 Tryz.ntmps253 rfl rfl rfl rfl rfl ?_
  refine W1 ?_
  refine aW (ι:=Nat×Nat) Tryz.checked.mixed rfl [1,3,4] (fun y=>[.c (.ptr (0,0) 0),.c (.d (.i .i64 y.2)),.c (.d (.i .i64 y.1))]) (fun y=>[.box [.d (.i .i64 x.aH),.d (.s x.fName),.d (.sl (x.fArgs.map ak.enc))]]::S)
   (fun y=>y.1≤x.fArgs.length∧jK x=max y.2 (depths (x.fArgs.drop y.1))) (fun y=>x.fArgs.length-y.1) (0,0) rfl rfl ⟨Nat.zero_le _,by simp[JG]⟩ ?_
  rintro⟨i,c⟩ ⟨p1,p2⟩
  simp only at p1 p2
  refine W1 ?_
  refine S0 (fun hb h=>?_) fun hb h=>?_
  ·have hi:i<x.fArgs.length:=by omega
   have hsz':=vB hi hsz
   rw[Eh hi] at p2
   have hd3:=vo x.fArgs[i]
   have hd4:=oC x.fArgs[i]
   refine W3 ?_
   refine C2 (ih x.fArgs[i] (by have:=List.sizeOf_lt_of_mem (List.getElem_mem hi);omega) (by omega)) ?_
   refine C2 (M6 _ _) ?_
   rw[show max (c:Int) (1+(jK x.fArgs[i]:Int))=((max c (1+jK x.fArgs[i]):Nat):Int) by omega]
   exact bK (i+1,max c (1+jK x.fArgs[i])) (by simp only;omega) rfl rfl ⟨by simp only;omega,by simp only;omega⟩
  ·have hi:i=x.fArgs.length:=by omega
   rw[hi,List.drop_length,depths] at p2
   exact int_eq (by omega)
theorem M7(x:ak)(hsz:x.sz≤4194304):aD Tryz.prog 253 [x.v] (.c (.d (.i .i64 (jK x)))):=A9 _ x (Nat.lt_succ_self _) hsz
theorem Ba:∀n:Nat,∀x:ak,SizeOf.sizeOf x<n→x.sz≤4194304→aD Tryz.prog 303 [x.v] (.c (.d (.i .i64 (jK x))))
 |0=>fun x h=>by omega
 |n+1=>by
  have ih:=Ba n
  intro x hn hsz S
  have jS:=ak.gF x
  have hts:=yA hsz
  have hd1:=vo x
  have hd2:=oC x
  refine aB (rs:=[.tmp 2]) Tryz.checked.mixed Tryz.func303 Tryz.ntmps303 rfl rfl rfl rfl rfl ?_
  refine W1 ?_
  refine aW (ι:=Nat×Nat) Tryz.checked.mixed rfl [3,7,8,9] (fun y=>[.c (.d (.i .i64 y.2)),.c (.d (.sl (x.fArgs.map ak.enc))),.c (.d (.i .i64 x.fArgs.length)),.c (.d (.i .i64 y.1))]) (fun y=>[.box [.d (.i .i64 x.aH),.d (.s x.fName),.d (.sl (x.fArgs.map ak.enc))]]::S)
   (fun y=>y.1≤x.fArgs.length∧jK x=max y.2 (depths (x.fArgs.drop y.1))) (fun y=>x.fArgs.length-y.1) (0,0) rfl rfl ⟨Nat.zero_le _,by simp[JG]⟩ ?_
  rintro⟨i,c⟩ ⟨p1,p2⟩
  simp only at p1 p2
  refine W1 ?_
  refine S0 (fun hb h=>?_) fun hb h=>?_
  ·have hi:i<x.fArgs.length:=by omega
   have hsz':=vB hi hsz
   rw[Eh hi] at p2
   have hd3:=vo x.fArgs[i]
   have hd4:=oC x.fArgs[i]
   refine W3 ?_
   refine C2 (ih x.fArgs[i] (by have:=List.sizeOf_lt_of_mem (List.getElem_mem hi);omega) (by omega)) ?_
   rw[show max (c:Int) ((jK x.fArgs[i]:Int)+1)=((max c (jK x.fArgs[i]+1):Nat):Int) by omega]
   exact iP 1 (by decide) (i+1,max c (jK x.fArgs[i]+1)) (by simp only;omega) rfl rfl rfl rfl ⟨by simp only;omega,by simp only;omega⟩
  ·have hi:i=x.fArgs.length:=by omega
   rw[hi,List.drop_length,depths] at p2
   exact int_eq (by omega)
theorem M8(x:ak)(hsz:x.sz≤4194304):aD Tryz.prog 303 [x.v] (.c (.d (.i .i64 (jK x)))):=Ba _ x (Nat.lt_succ_self _) hsz
theorem BZ:∀n:Nat,∀x:ak,SizeOf.sizeOf x<n→x.sz≤4194304→aD Tryz.prog 304 [x.v] (.c (.d (.i .i64 x.cnt)))
 |0=>fun x h=>by omega
 |n+1=>by
  have ih:=BZ n
  intro x hn hsz S
  have jS:=ak.gF x
  have hts:=yA hsz
  have hd2:=oC x
  refine aB (rs:=[.tmp 2]) Tryz.checked.mixed Tryz.func304 Tryz.ntmps304 rfl rfl rfl rfl rfl ?_
  refine W1 ?_
  refine aW (ι:=Nat×Nat) Tryz.checked.mixed rfl [3,7,8,9] (fun y=>[.c (.d (.i .i64 y.2)),.c (.d (.sl (x.fArgs.map ak.enc))),.c (.d (.i .i64 x.fArgs.length)),.c (.d (.i .i64 y.1))]) (fun y=>[.box [.d (.i .i64 x.aH),.d (.s x.fName),.d (.sl (x.fArgs.map ak.enc))]]::S)
   (fun y=>y.1≤x.fArgs.length∧x.cnt=y.2+ak.dS (x.fArgs.drop y.1)) (fun y=>x.fArgs.length-y.1) (0,1) rfl rfl ⟨Nat.zero_le _,by simp[ak.oz]⟩ ?_
  rintro⟨i,c⟩ ⟨p1,p2⟩
  simp only at p1 p2
  refine W1 ?_
  refine S0 (fun hb h=>?_) fun hb h=>?_
  ·have hi:i<x.fArgs.length:=by omega
   have hsz':=vB hi hsz
   rw[mG hi] at p2
   refine W3 ?_
   refine C2 (ih x.fArgs[i] (by have:=List.sizeOf_lt_of_mem (List.getElem_mem hi);omega) (by omega)) ?_
   rw[show(c:Int)+(x.fArgs[i].cnt:Int)=((c+x.fArgs[i].cnt:Nat):Int) by omega]
   exact iP 1 (by decide) (i+1,c+x.fArgs[i].cnt) (by simp only;omega) rfl rfl rfl rfl ⟨by simp only;omega,by simp only;omega⟩
  ·have hi:i=x.fArgs.length:=by omega
   rw[hi,List.drop_length,ak.dS] at p2
   exact int_eq (by omega)
theorem Pn(x:ak)(hsz:x.sz≤4194304):aD Tryz.prog 304 [x.v] (.c (.d (.i .i64 x.cnt))):=BZ _ x (Nat.lt_succ_self _) hsz
theorem Ca:∀n:Nat,(∀x:ak,SizeOf.sizeOf x<n→x.sz≤4194304→aD Tryz.prog 302 [x.v] (.c (.d (.b (formed x)))))∧
 (∀xs:List ak,SizeOf.sizeOf xs<n→xs.length≤4194304→(∀t∈xs,t.sz≤4194304)→aD Tryz.prog 281 [.c (.d (.sl (xs.map ak.enc))),.c (.fn 323 [])] (.c (.d (.b (!iq xs)))))
 |0=>⟨fun x h=>by omega,fun x h=>by omega⟩
 |n+1=>by
  obtain⟨ih,lZ⟩:=Ca n
  refine⟨fun x hn hsz S=> ?_,fun xs hn hlen hsz S=> ?_⟩
  ·have jS:=ak.gF x
   have hts:=yA hsz
   have fin:∀b,wG x.aH x.fName x.fArgs.length=b→formed x=(b&&iq x.fArgs):=fun b hb=>by rw[←hb];exact vk x
   have hall:∀t∈x.fArgs,t.sz≤4194304:=fun t ht=>by
    obtain⟨i,hi,e⟩:=List.getElem_of_mem ht
    rw[←e];exact(vB hi hsz).1
   have tail:=lZ x.fArgs (by omega) hts.1 hall
   have yes:wG x.aH x.fName x.fArgs.length=true→formed x= !(!iq x.fArgs):=fun h=>by rw[fin _ h];simp
   have no:wG x.aH x.fName x.fArgs.length=false→formed x=false:=fun h=>by rw[fin _ h];simp
   have shut:¬((x.aH=1∨x.aH=4)∧validName x.fName=true∧x.fArgs.length=0∨x.aH=3∧validName x.fName=true∧x.fArgs.length=1∨x.aH=2∧(validName x.fName=true∧x.fArgs.length≤3∨qU x.fName=true∧x.fArgs.length=0))→V.c (.d (.b false))=V.c (.d (.b (formed x))):=fun h=>aK (no (aN h)).symm
   have open_:((x.aH=1∨x.aH=4)∧validName x.fName=true∧x.fArgs.length=0∨x.aH=3∧validName x.fName=true∧x.fArgs.length=1∨x.aH=2∧(validName x.fName=true∧x.fArgs.length≤3∨qU x.fName=true∧x.fArgs.length=0))→V.c (.d (.b (!(!iq x.fArgs))))=V.c (.d (.b (formed x))):=fun h=>aK (yes (cK h)).symm
   clear yes no fin
   refine aB (rs:=[.tmp 2]) Tryz.checked.mixed Tryz.func302 Tryz.ntmps302 rfl rfl rfl rfl rfl ?_
   refine W1 ?_
   repeat' (first
    |(refine S0 (fun hb h=>?_) fun hb h=>?_)
    |(refine bH (lQ x.fName (by omega)) ?_;refine W1 ?_)
    |(refine bH (M4 x.fName) ?_;refine W1 ?_)
    |(refine bH tail ?_;refine W1 ?_))
   all_goals first
    |(refine shut (fun y=> ?_);rcases y with⟨_,_,_⟩|⟨_,_,_⟩|⟨_,⟨_,_⟩|⟨_,_⟩⟩<;>first|omega|(simp_all;done))
    |(refine open_ ?_;first
       |exact .inl ⟨by omega,by assumption,by omega⟩
       |exact .inr (.inl ⟨by omega,by assumption,by omega⟩)
       |exact .inr (.inr ⟨by omega,.inl ⟨by assumption,by omega⟩⟩)
       |exact .inr (.inr ⟨by omega,.inr ⟨by assumption,by omega⟩⟩))
  ·have hcl:∀y∈xs,aD Tryz.prog 323 [y.v] (.c (.d (.b (!formed y)))):=fun y hy S=>by
    have hys:=List.sizeOf_lt_of_mem hy
    refine aB (rs:=[.tmp 2]) Tryz.checked.mixed Tryz.func323 Tryz.ntmps323 rfl rfl rfl rfl rfl ?_
    refine W1 ?_
    exact C4 (ih y (by omega) (hsz y hy))
   have hidx:aD Tryz.prog 312 [.c (.d (.sl (xs.map ak.enc))),.c (.fn 323 [])] (.c (.d (.i .i64 (qb (fun y=> !formed y) xs)))):=fun S=>by
    refine aB (rs:=[.tmp 4]) Tryz.checked.mixed Tryz.func312 Tryz.ntmps312 rfl rfl rfl rfl rfl ?_
    refine W1 ?_
    refine aW (ι:=Nat) Tryz.checked.mixed rfl [0,1,7,8] (fun i=>[.c (.d (.sl (xs.map ak.enc))),.c (.fn 323 []),.c (.d (.i .i64 xs.length)),.c (.d (.i .i64 i))]) (fun _=>[]::S)
     (fun i=>i≤xs.length∧∀j,∀hj:j<xs.length,j<i→formed xs[j]=true) (fun i=>xs.length-i) 0 rfl rfl ⟨Nat.zero_le _,fun j _ h=>by omega⟩ ?_
    rintro i ⟨p1,p2⟩
    refine W1 ?_
    refine S0 (fun hb h=>?_) fun hb h=>?_
    ·have hi:i<xs.length:=by omega
     refine W3 ?_
     refine C2 (hcl xs[i] (List.getElem_mem hi)) ?_
     refine S0 (fun hb h=>?_) fun hb h=>?_
     ·rw[qG hi (fun j hj hji=>by rw[p2 j hj hji];rfl) (by rw[h];rfl)]
     ·refine bK (i+1) (by omega) rfl rfl ⟨by omega,fun j hj hji=> ?_⟩
      by_cases e:j=i
      ·subst e;exact h
      ·exact p2 j hj (by omega)
    ·rw[vg (fun j hj=>by rw[p2 j hj (by omega)];rfl)]
   refine aB (rs:=[.tmp 4]) Tryz.checked.mixed Tryz.func281 Tryz.ntmps281 rfl rfl rfl rfl rfl ?_
   refine W1 ?_
   refine C2 (hidx) ?_
   rw[←Ed]
   exact aK sQ
theorem Po(x:ak)(hsz:x.sz≤4194304):aD Tryz.prog 302 [x.v] (.c (.d (.b (formed x)))):=(Ca _).1 x (Nat.lt_succ_self _) hsz
theorem EI(x:ak)(hsz:x.sz≤4194304):aD Tryz.prog 261 [x.v] (.c (.d (.b (rM x)))):=fun S=>by
 refine aB (rs:=[.tmp 2]) Tryz.checked.mixed Tryz.func261 Tryz.ntmps261 rfl rfl rfl rfl rfl ?_
 refine W1 ?_
 refine C2 (Po x hsz) ?_
 refine S0 (fun hb h=>?_) fun hb h=>?_
 ·have h1:=h
  refine C2 (M8 x hsz) ?_
  refine S0 (fun hb h=>?_) fun hb h=>?_
  ·refine C2 (Pn x hsz) ?_
   exact aK (by rw[mo];exact mh ⟨fun y=>⟨h1,by omega,by omega⟩,fun y=>by have:=y.2.2;omega⟩)
  ·exact aK (aN fun y=>by have:=y.2.1;omega).symm
 ·exact aK (aN fun y=>by rw[y.1] at h;cases h).symm
set_option maxHeartbeats 1000000 in
theorem Gq:∀n:Nat,∀x:ak,SizeOf.sizeOf x<n→x.sz≤4194304→aD Tryz.prog 254 [x.v] (.c (.d (.b (formed x))))
 |0=>fun x h=>by omega
 |n+1=>by
  have ih:=Gq n
  intro x hn hsz S
  have jS:=ak.gF x
  have hts:=yA hsz
  have shut:¬((x.aH=1∨x.aH=4)∧validName x.fName=true∧x.fArgs.length=0∨x.aH=3∧validName x.fName=true∧x.fArgs.length=1∨x.aH=2∧(validName x.fName=true∧x.fArgs.length≤3∨qU x.fName=true∧x.fArgs.length=0))→V.c (.d (.b false))=V.c (.d (.b (formed x))):=fun h=>aK (by rw[vk,show wG x.aH x.fName x.fArgs.length=false from aN h];rfl)
  have afe:∀b:Bool,(b=true↔((x.aH=1∨x.aH=4)∧validName x.fName=true∧x.fArgs.length=0∨x.aH=3∧validName x.fName=true∧x.fArgs.length=1∨x.aH=2∧(validName x.fName=true∧x.fArgs.length≤3∨qU x.fName=true∧x.fArgs.length=0)))→b=wG x.aH x.fName x.fArgs.length:=fun b h=>by
   rw[Bool.eq_iff_iff,h]
   unfold wG
   rw[uJ]
  refine aB (rs:=[.tmp 2]) Tryz.checked.mixed Tryz.func254 Tryz.ntmps254 rfl rfl rfl rfl rfl ?_
  refine W1 ?_
  refine C2 (lS x.fName (by omega)) ?_
  repeat' (first
   |(refine S0 (fun hb h=>?_) fun hb h=>?_)
   |(refine bH (V5 x.fName) ?_;refine W1 ?_))
  all_goals first
   |(refine shut (fun y=> ?_);rcases y with⟨_,_,_⟩|⟨_,_,_⟩|⟨_,⟨_,_⟩|⟨_,_⟩⟩<;>first|omega|(simp_all;done))
   |skip
  all_goals
   refine aW (ι:=Nat×Bool) Tryz.checked.mixed rfl [1,3,4] (fun y=>[.c (.ptr (0,0) 0),.c (.d (.b y.2)),.c (.d (.i .i64 y.1))]) (fun y=>[.box [.d (.i .i64 x.aH),.d (.s x.fName),.d (.sl (x.fArgs.map ak.enc))]]::S)
    (fun y=>y.1≤x.fArgs.length∧(y.2&&iq (x.fArgs.drop y.1))=formed x) (fun y=>x.fArgs.length-y.1) (0,wG x.aH x.fName x.fArgs.length) ?_ rfl ⟨Nat.zero_le _,by rw[vk];rfl⟩ ?_
   ·simp only[List.map_cons,List.map_nil]
    simp -implicitDefEqProofs (disch:=omega) only[go_sem,List.cons.injEq,V.c.injEq,C.d.injEq,D.b.injEq,Int.natCast_zero]
    refine afe _ ⟨fun y=> ?_,fun y=> ?_⟩
    ·(try simp only[decide_eq_true_eq,Bool.false_eq_true] at y)<;>first
       |exact .inl ⟨by omega,by assumption,by omega⟩
       |exact .inr (.inl ⟨by omega,by assumption,by omega⟩)
       |exact .inr (.inr ⟨by omega,.inl ⟨by assumption,by omega⟩⟩)
       |exact .inr (.inr ⟨by omega,.inr ⟨by assumption,by omega⟩⟩)
    ·rcases y with⟨_,_,_⟩|⟨_,_,_⟩|⟨_,⟨_,_⟩|⟨_,_⟩⟩<;>first|omega|(simp only[decide_eq_true_eq];omega)|(simp_all;done)
   rintro⟨i,c⟩ ⟨p1,p2⟩
   simp only at p1 p2
   refine W1 ?_
   refine S0 (fun hb h=>?_) fun hb h=>?_
   ·have hi:i<x.fArgs.length:=by omega
    have hsz':=vB hi hsz
    rw[M5 hi] at p2
    refine S0 (fun hb h=>?_) fun hb h=>?_
    ·refine C1 (ih x.fArgs[i] (by have:=List.sizeOf_lt_of_mem (List.getElem_mem hi);omega) (by omega)) ?_
     exact bK (i+1,formed x.fArgs[i]) (by simp only;omega) rfl rfl ⟨by simp only;omega,by rw[←p2,h];rfl⟩
    ·exact bK (i+1,false) (by simp only;omega) rfl rfl ⟨by simp only;omega,by rw[←p2,h];rfl⟩
   ·have hi:i=x.fArgs.length:=by omega
    rw[hi,List.drop_length,iq,Bool.and_true] at p2
    rw[p2]
theorem V7(x:ak)(hsz:x.sz≤4194304):aD Tryz.prog 254 [x.v] (.c (.d (.b (formed x)))):=Gq _ x (Nat.lt_succ_self _) hsz
theorem EJ(x:ak)(hsz:x.sz≤4194304):aD Tryz.prog 183 [x.v] (.c (.d (.b (rM x)))):=fun S=>by
 refine aB (rs:=[.tmp 2]) Tryz.checked.mixed Tryz.func183 Tryz.ntmps183 rfl rfl rfl rfl rfl ?_
 refine W1 ?_
 refine C2 (V6 x 60 (by omega) (by omega) hsz) ?_
 refine S0 (fun hb h=>?_) fun hb h=>?_
 ·have h1:=(Du (l:=60) (a:=x.cnt) (by omega)).2
  refine C2 (M7 x hsz) ?_
  refine S0 (fun hb h=>?_) fun hb h=>?_
  ·refine C2 (V7 x hsz) ?_
   refine aK ?_
   cases hf:formed x with
   |false=>exact(aN fun y=>by rw[hf] at y;cases y.1).symm
   |true=>exact(cK ⟨hf,by omega,by omega⟩).symm
  ·exact aK (aN fun y=>by have:=y.2.1;omega).symm
 ·have h1:=Ae (l:=60) (a:=x.cnt) (by omega)
  exact aK (aN fun y=>by have:=y.2.2;omega).symm
end Go.Proofs.YtokkjobjffhfjaaGreatDoor
namespace Go.Proofs.YtokkjobjffhfjaaGreatDoor
open Go Go.Ab
theorem EK(g:Nat)(caps:List (Key×Nat))(S:Store)(xs:List aj)(p:aj→Bool)(hl:xs.length≤1073741824)(hp:∀x∈xs,pI Tryz.prog g caps S [x.v] (.c (.d (.b (p x))))):
 bD Tryz.prog 262 [.c (.d (.sl (xs.map aj.enc))),.c (.fn g caps)] S (fun r S'=>r=.c (.d (.i .i64 (qb p xs)))∧S'=S):=by
 refine aB (rs:=[.tmp 4]) Tryz.checked.mixed Tryz.func262 Tryz.ntmps262 rfl rfl rfl rfl rfl ?_
 refine W1 ?_
 refine aW (ι:=Nat) Tryz.checked.mixed rfl [0,1,7,8] (fun i=>[.c (.d (.sl (xs.map aj.enc))),.c (.fn g (jY 1 caps)),.c (.d (.i .i64 xs.length)),.c (.d (.i .i64 i))]) (fun _=>[]::S)
  (fun i=>i≤xs.length∧∀j,∀hj:j<xs.length,j<i→p xs[j]=false) (fun i=>xs.length-i) 0 rfl rfl ⟨Nat.zero_le _,fun j _ h=>by omega⟩ ?_
 rintro i ⟨p1,p2⟩
 refine W1 ?_
 refine S0 (fun hb h=>?_) fun hb h=>?_
 ·have hi:i<xs.length:=by omega
  refine W3 ?_
  refine bG rfl (hp xs[i] (List.getElem_mem hi) [_]) ?_
  refine W1 ?_
  refine S0 (fun hb h=>?_) fun hb h=>?_
  ·rw[qG hi p2 h]
  ·refine bK (i+1) (by omega) rfl rfl ⟨by omega,fun j hj hji=> ?_⟩
   by_cases e:j=i
   ·subst e;exact h
   ·exact p2 j hj (by omega)
 ·rw[vg (fun j hj=>p2 j hj (by omega))]
theorem Bp(g:Nat)(caps:List (Key×Nat))(S:Store)(xs:List aj)(p:aj→Bool)(hl:xs.length≤1073741824)(hp:∀x∈xs,pI Tryz.prog g caps S [x.v] (.c (.d (.b (p x))))):
 bD Tryz.prog 197 [.c (.d (.sl (xs.map aj.enc))),.c (.fn g caps)] S (fun r S'=>r=.c (.d (.b (xs.any p)))∧S'=S):=by
 refine aB (rs:=[.tmp 4]) Tryz.checked.mixed Tryz.func197 Tryz.ntmps197 rfl rfl rfl rfl rfl ?_
 refine W1 ?_
 refine bG rfl (EK g (jY 1 caps) _ xs p hl fun x hx=>(hp x hx).push _) ?_
 refine W1 ?_
 exact aK sQ
theorem Gs(g:Nat)(caps:List (Key×Nat))(S:Store)(xs:List aA)(p:aA→Bool)(hl:xs.length≤1073741824)(hp:∀x∈xs,pI Tryz.prog g caps S [x.v] (.c (.d (.b (p x))))):
 bD Tryz.prog 263 [.c (.d (.sl (xs.map aA.enc))),.c (.fn g caps)] S (fun r S'=>r=.c (.d (.i .i64 (qb p xs)))∧S'=S):=by
 refine aB (rs:=[.tmp 4]) Tryz.checked.mixed Tryz.func263 Tryz.ntmps263 rfl rfl rfl rfl rfl ?_
 refine W1 ?_
 refine aW (ι:=Nat) Tryz.checked.mixed rfl [0,1,7,8] (fun i=>[.c (.d (.sl (xs.map aA.enc))),.c (.fn g (jY 1 caps)),.c (.d (.i .i64 xs.length)),.c (.d (.i .i64 i))]) (fun _=>[]::S)
  (fun i=>i≤xs.length∧∀j,∀hj:j<xs.length,j<i→p xs[j]=false) (fun i=>xs.length-i) 0 rfl rfl ⟨Nat.zero_le _,fun j _ h=>by omega⟩ ?_
 rintro i ⟨p1,p2⟩
 refine W1 ?_
 refine S0 (fun hb h=>?_) fun hb h=>?_
 ·have hi:i<xs.length:=by omega
  refine W3 ?_
  refine bG rfl (hp xs[i] (List.getElem_mem hi) [_]) ?_
  refine W1 ?_
  refine S0 (fun hb h=>?_) fun hb h=>?_
  ·rw[qG hi p2 h]
  ·refine bK (i+1) (by omega) rfl rfl ⟨by omega,fun j hj hji=> ?_⟩
   by_cases e:j=i
   ·subst e;exact h
   ·exact p2 j hj (by omega)
 ·rw[vg (fun j hj=>p2 j hj (by omega))]
theorem Cb(g:Nat)(caps:List (Key×Nat))(S:Store)(xs:List aA)(p:aA→Bool)(hl:xs.length≤1073741824)(hp:∀x∈xs,pI Tryz.prog g caps S [x.v] (.c (.d (.b (p x))))):
 bD Tryz.prog 199 [.c (.d (.sl (xs.map aA.enc))),.c (.fn g caps)] S (fun r S'=>r=.c (.d (.b (xs.any p)))∧S'=S):=by
 refine aB (rs:=[.tmp 4]) Tryz.checked.mixed Tryz.func199 Tryz.ntmps199 rfl rfl rfl rfl rfl ?_
 refine W1 ?_
 refine bG rfl (Gs g (jY 1 caps) _ xs p hl fun x hx=>(hp x hx).push _) ?_
 refine W1 ?_
 exact aK sQ
theorem Cc(g:Nat)(caps:List (Key×Nat))(S:Store)(xs:List (List UInt8))(p:(List UInt8)→Bool)(hl:xs.length≤1073741824)(hp:∀x∈xs,pI Tryz.prog g caps S [.c (.d (.s x))] (.c (.d (.b (p x))))):
 bD Tryz.prog 279 [.c (.d (.sl (xs.map encS))),.c (.fn g caps)] S (fun r S'=>r=.c (.d (.i .i64 (qb p xs)))∧S'=S):=by
 refine aB (rs:=[.tmp 4]) Tryz.checked.mixed Tryz.func279 Tryz.ntmps279 rfl rfl rfl rfl rfl ?_
 simp -implicitDefEqProofs (disch:=omega) only[go_sem,encS]
 refine aW (ι:=Nat) Tryz.checked.mixed rfl [0,1,7,8] (fun i=>[.c (.d (.sl (xs.map encS))),.c (.fn g (jY 1 caps)),.c (.d (.i .i64 xs.length)),.c (.d (.i .i64 i))]) (fun _=>[]::S)
  (fun i=>i≤xs.length∧∀j,∀hj:j<xs.length,j<i→p xs[j]=false) (fun i=>xs.length-i) 0 rfl rfl ⟨Nat.zero_le _,fun j _ h=>by omega⟩ ?_
 rintro i ⟨p1,p2⟩
 simp -implicitDefEqProofs (disch:=omega) only[go_sem,encS]
 with_reducible refine dP (fun hb=> ?_) (fun hb=> ?_)<;>have h:=hb<;>(try simp only[wf_preprocess] at h)<;>simp -implicitDefEqProofs (disch:=omega) only[go_sem,hb,encS]<;>refine W3 ?_
 ·have hi:i<xs.length:=by omega
  refine W3 ?_
  refine bG rfl (hp xs[i] (List.getElem_mem hi) [_]) ?_
  simp -implicitDefEqProofs (disch:=omega) only[go_sem,encS]
  with_reducible refine dP (fun hb=> ?_) (fun hb=> ?_)<;>have h:=hb<;>(try simp only[wf_preprocess] at h)<;>simp -implicitDefEqProofs (disch:=omega) only[go_sem,hb,encS]<;>refine W3 ?_
  ·rw[qG hi p2 h]
  ·refine bK (i+1) (by omega) rfl rfl ⟨by omega,fun j hj hji=> ?_⟩
   by_cases e:j=i
   ·subst e;exact h
   ·exact p2 j hj (by omega)
 ·rw[vg (fun j hj=>p2 j hj (by omega))]
theorem zq(g:Nat)(caps:List (Key×Nat))(S:Store)(xs:List (List UInt8))(p:(List UInt8)→Bool)(hl:xs.length≤1073741824)(hp:∀x∈xs,pI Tryz.prog g caps S [.c (.d (.s x))] (.c (.d (.b (p x))))):
 bD Tryz.prog 226 [.c (.d (.sl (xs.map encS))),.c (.fn g caps)] S (fun r S'=>r=.c (.d (.b (xs.any p)))∧S'=S):=by
 refine aB (rs:=[.tmp 4]) Tryz.checked.mixed Tryz.func226 Tryz.ntmps226 rfl rfl rfl rfl rfl ?_
 simp -implicitDefEqProofs (disch:=omega) only[go_sem,encS]
 refine bG rfl (Cc g (jY 1 caps) _ xs p hl fun x hx=>(hp x hx).push _) ?_
 simp -implicitDefEqProofs (disch:=omega) only[go_sem,encS]
 exact aK sQ
end Go.Proofs.YtokkjobjffhfjaaGreatDoor
namespace Go.Ab
theorem V8{s:List UInt8}{xs:List (List UInt8)}(h:s∈xs):s.length≤dz (xs.map encS):=by
 have:=gY (List.mem_map_of_mem (f:=encS) h)
 simpa [encS,bS,D.sz] using this
noncomputable def oO(xs:List (List UInt8)):Bool:=dec xs.Nodup&&xs.all validName
noncomputable def among(xs ys:List (List UInt8)):Bool:=xs.all fun s=>dec (s∈ys)
theorem Y1{s l:List UInt8}{m:List (List UInt8)}:s∈Bw l m↔s=l∨s∈m:=by
 unfold Bw
 split
 ·rename_i h
  exact⟨.inr,fun x=>x.elim (fun e=>e▸h) id⟩
 ·rw[List.mem_append,List.mem_singleton];exact Or.comm
theorem yB{α:Type}{xs:List α}{i:Nat}(hi:i<xs.length):xs.take (i+1)=xs.take i++[xs[i]]:=List.take_succ_eq_append_getElem hi
theorem Aj{α:Type}{xs:List α}{x:α}:(xs++[x]).Nodup↔xs.Nodup∧x∉xs:=by
 rw[List.nodup_append]
 constructor
 ·rintro⟨h1,_,h3⟩
  exact⟨h1,fun hx=>h3 x hx x (by simp) rfl⟩
 ·rintro⟨h1,h2⟩
  exact⟨h1,by simp,fun a ha b hb e=>by simp at hb;subst hb;exact h2 (e▸ha)⟩
theorem JQ{α:Type}{xs:List α}{i:Nat}(hi:i<xs.length)(h:xs[i]∈xs.take i):¬xs.Nodup:=fun hn=>by
 have h1:(xs.take (i+1)).Nodup:=hn.sublist (List.take_sublist _ _)
 rw[yB hi] at h1
 exact(Aj.1 h1).2 h
end Go.Ab
namespace Go.Proofs.YtokkjobjffhfjaaGreatDoor
open Go Go.Ab
theorem Gt(xs:List (List UInt8))(hl:xs.length≤1073741824):aD Tryz.prog 225 [.c (.d (.sl (xs.map encS)))] (.c (.d (.b (dec xs.Nodup)))):=fun S=>by
 refine aB (rs:=[.tmp 2]) Tryz.checked.mixed Tryz.func225 Tryz.ntmps225 rfl rfl rfl rfl rfl ?_
 simp -implicitDefEqProofs (disch:=omega) only[go_sem,encS]
 refine W3 ?_
 refine aW (ι:=Nat×List (List UInt8)) Tryz.checked.mixed rfl [3,7,8,9] (fun y=>[.c (.mp (0,0)),.c (.d (.sl (xs.map encS))),.c (.d (.i .i64 xs.length)),.c (.d (.i .i64 y.1))]) (fun y=>[.mp y.2]::S)
  (fun y=>y.1≤xs.length∧(∀s,s∈y.2↔s∈xs.take y.1)∧(xs.take y.1).Nodup) (fun y=>xs.length-y.1) (0,[]) rfl rfl ⟨Nat.zero_le _,fun s=>by simp,by simp⟩ ?_
 rintro⟨i,m⟩ ⟨p1,p2,p3⟩
 simp only at p1 p2 p3
 simp -implicitDefEqProofs (disch:=omega) only[go_sem,encS]
 with_reducible refine dP (fun hb=> ?_) (fun hb=> ?_)<;>have h:=hb<;>(try simp only[wf_preprocess] at h)<;>simp -implicitDefEqProofs (disch:=omega) only[go_sem,hb,encS]<;>refine W3 ?_
 ·have hi:i<xs.length:=by omega
  refine W3 ?_
  with_reducible refine dP (fun hb=> ?_) (fun hb=> ?_)<;>have h:=hb<;>(try simp only[wf_preprocess] at h)<;>simp -implicitDefEqProofs (disch:=omega) only[go_sem,hb,encS]<;>refine W3 ?_
  ·exact aK (aN (JQ hi ((p2 _).1 h))).symm
  ·refine bK (i+1,Bw xs[i] m) (by simp only;omega) rfl rfl ⟨by simp only;omega,fun s=> ?_,?_⟩
   ·simp only
    rw[Y1,yB hi,List.mem_append,List.mem_singleton,p2]
    exact Or.comm
   ·simp only
    rw[yB hi,Aj]
    exact⟨p3,fun hx=>h ((p2 _).2 hx)⟩
 ·rw[List.take_of_length_le (by omega)] at p3
  exact aK (cK p3).symm
theorem Gu(xs:List (List UInt8))(hl:xs.length≤1073741824):aD Tryz.prog 151 [.c (.d (.sl (xs.map encS)))] (.c (.d (.b (dec xs.Nodup)))):=fun S=>by
 refine aB (rs:=[.tmp 2]) Tryz.checked.mixed Tryz.func151 Tryz.ntmps151 rfl rfl rfl rfl rfl ?_
 simp -implicitDefEqProofs (disch:=omega) only[go_sem,encS]
 refine aW (ι:=Nat) Tryz.checked.mixed rfl [0,3] (fun i=>[.c (.d (.sl (xs.map encS))),.c (.d (.i .i64 i))]) (fun _=>[]::S)
  (fun i=>i≤xs.length∧(xs.take i).Nodup) (fun i=>xs.length-i) 0 rfl rfl ⟨Nat.zero_le _,by simp⟩ ?_
 rintro i ⟨p1,p3⟩
 simp -implicitDefEqProofs (disch:=omega) only[go_sem,encS]
 with_reducible refine dP (fun hb=> ?_) (fun hb=> ?_)<;>have h:=hb<;>(try simp only[wf_preprocess] at h)<;>simp -implicitDefEqProofs (disch:=omega) only[go_sem,hb,encS]<;>refine W3 ?_
 ·have hi:i<xs.length:=by omega
  have hc:∀y∈xs.map encS,y.length=1:=fun y hy=>by
   obtain⟨s,_,rfl⟩:=List.mem_map.1 hy
   rfl
  have e:(xs.map encS).take i=(xs.take i).map encS:=List.map_take.symm
  refine And.intro ⟨by omega,by omega,hc⟩ ?_
  refine W3 ?_
  simp -implicitDefEqProofs (disch:=omega) only[go_sem,Int.toNat_zero,e]
  refine C2 (EH (xs.take i) xs[i] (by simp;omega)) ?_
  refine S0 (fun hb h=>?_) fun hb h=>?_
  ·exact aK (aN (JQ hi h)).symm
  ·refine bK (i+1) (by omega) rfl rfl ⟨by omega,?_⟩
   rw[yB hi,Aj]
   exact⟨p3,h⟩
 ·rw[List.take_of_length_le (by omega)] at p3
  exact aK (cK p3).symm
theorem SN(xs:List (List UInt8))(hl:xs.length≤1073741824)(hs:∀s∈xs,s.length≤4194304):aD Tryz.prog 185 [.c (.d (.sl (xs.map encS)))] (.c (.d (.b (xs.all validName)))):=fun S=>by
 refine aB (rs:=[.tmp 2]) Tryz.checked.mixed Tryz.func185 Tryz.ntmps185 rfl rfl rfl rfl rfl ?_
 simp -implicitDefEqProofs (disch:=omega) only[go_sem,encS]
 refine aW (ι:=Nat) Tryz.checked.mixed rfl [0,3] (fun i=>[.c (.d (.sl (xs.map encS))),.c (.d (.i .i64 i))]) (fun _=>[]::S)
  (fun i=>i≤xs.length∧(xs.drop i).all validName=xs.all validName) (fun i=>xs.length-i) 0 rfl rfl ⟨Nat.zero_le _,rfl⟩ ?_
 rintro i ⟨p1,p2⟩
 simp -implicitDefEqProofs (disch:=omega) only[go_sem,encS]
 with_reducible refine dP (fun hb=> ?_) (fun hb=> ?_)<;>have h:=hb<;>(try simp only[wf_preprocess] at h)<;>simp -implicitDefEqProofs (disch:=omega) only[go_sem,hb,encS]<;>refine W3 ?_
 ·have hi:i<xs.length:=by omega
  have hz:=hs _ (List.getElem_mem hi)
  rw[List.drop_eq_getElem_cons hi,List.all_cons] at p2
  refine W3 ?_
  refine C2 (lS xs[i] (by omega)) ?_
  refine S0 (fun hb h=>?_) fun hb h=>?_
  ·rw[←p2,h];rfl
  ·exact bK (i+1) (by omega) rfl rfl ⟨by omega,by rw[←p2,h];rfl⟩
 ·rw[List.drop_of_length_le (by omega)] at p2
  rw[←p2];rfl
theorem Pp(xs:List (List UInt8))(hl:xs.length≤1073741824)(hs:∀s∈xs,s.length≤4194304):aD Tryz.prog 158 [.c (.d (.sl (xs.map encS)))] (.c (.d (.b (oO xs)))):=fun S=>by
 have hcl:∀s∈xs,aD Tryz.prog 227 [.c (.d (.s s))] (.c (.d (.b (!validName s)))):=fun s hx S=>by
  have:=hs s hx
  refine aB (rs:=[.tmp 2]) Tryz.checked.mixed Tryz.func227 Tryz.ntmps227 rfl rfl rfl rfl rfl ?_
  refine W1 ?_
  exact C4 (lQ s (by omega))
 have ha:(xs.any fun s=> !validName s)= !xs.all validName:=by rw[List.not_all_eq_any_not]
 refine aB (rs:=[.tmp 2]) Tryz.checked.mixed Tryz.func158 Tryz.ntmps158 rfl rfl rfl rfl rfl ?_
 refine W1 ?_
 refine C2 (Gt xs hl) ?_
 refine S0 (fun hb h=>?_) fun hb h=>?_
 ·refine bG rfl (zq 227 [] _ xs (fun s=> !validName s) hl fun s hx=>pI.IV (hcl s hx)) ?_
  refine W1 ?_
  rw[ha]
  exact aK (by unfold oO;rw[hb];simp)
 ·exact aK (by unfold oO;rw[hb];rfl)
end Go.Proofs.YtokkjobjffhfjaaGreatDoor
namespace Go.Ab
def zu(n:Nat):Key→Key
 |(0,j)=>(0,n+j)
 |(l+1,j)=>(l,j)
def C.mg(n:Nat):C→C
 | .d x=>.d x
 | .any=>.any
 | .bQ k es=>.bQ (zu n k) es
 | .aY es=>.aY es
 | .ptr k off=>.ptr (zu n k) off
 | .jC cs=>.jC cs
 | .jH k i off=>.jH (zu n k) i off
 | .iR k=>.iR (zu n k)
 | .fn f caps=>.fn f (caps.map fun x=>(zu n x.1,x.2))
 | .mp k=>.mp (zu n k)
 | .iI m es=>.iI m es
 | .xp k r p=>.xp (zu n k) r p
 | .xq k r p z i off=>.xq (zu n k) r p z i off
def V.mg(n:Nat):V→V
 | .c x=>.c (x.mg n)
 | .agg cs=>.agg (cs.map (C.mg n))
 | .dw xs=>.dw (xs.map fun y=>(y.1,y.2.map (C.mg n)))
 | .any=>.any
def Obj.mg(n:Nat):Obj→Obj
 | .box cs=>.box (cs.map (C.mg n))
 |o=>o
section
variable {P:Program} {w:World} {σ:Nat→Nat} {own bn:List Obj} {Ω:Store} {bo mH:List Value} {bΩ:Hs}
theorem IY{n:Nat}{o:Obj}{h:Value}{b:Nat}:owns (o.mg n) h b↔owns o h b:=by
 cases o with
 |box cs=>
  cases h with
  |pointer a=>cases a<;>exact Iff.rfl
  |_=>exact Iff.rfl
 |_=>exact Iff.rfl
theorem yC{k:Key}{o:Obj}(h:aJ (own::bn::Ω) k=some o):
 aJ ((bn++own.map (Obj.mg bn.length))::Ω) (zu bn.length k)=some (if k.1=0 then o.mg bn.length else o):=by
 obtain⟨l,j⟩:=k
 cases l with
 |zero=>
  rw[aR] at h
  show aJ _ (0,bn.length+j)=_
  rw[aR,List.getElem?_append_right (by omega),show bn.length+j-bn.length=j by omega,List.getElem?_map,h]
  rfl
 |succ l=>
  rw[bf] at h
  show aJ _ (l,j)=some o
  cases l with
  |zero=>
   rw[aR] at h ⊢
   rw[List.getElem?_append_left (List.getElem?_eq_some_iff.1 h).1]
   exact h
  |succ l=>rw[bf] at h ⊢;exact h
theorem yD(hl:mH.length=bn.length){k:Key}{h:Value}(e:aJ (bo::mH::bΩ) k=some h):aJ ((mH++bo)::bΩ) (zu bn.length k)=some h:=by
 obtain⟨l,j⟩:=k
 cases l with
 |zero=>
  rw[aR] at e
  show aJ _ (0,bn.length+j)=_
  rw[aR,List.getElem?_append_right (by omega),show bn.length+j-mH.length=j by omega,e]
 |succ l=>
  rw[bf] at e
  show aJ _ (l,j)=some h
  cases l with
  |zero=>
   rw[aR] at e ⊢
   rw[List.getElem?_append_left (List.getElem?_eq_some_iff.1 e).1]
   exact e
  |succ l=>rw[bf] at e ⊢;exact e
theorem Dy(hl:mH.length=bn.length)(hlo:bo.length=own.length){k:Key}{o:Obj}(h:aJ ((bn++own.map (Obj.mg bn.length))::Ω) k=some o):
 ∃k0 o0,zu bn.length k0=k∧aJ (own::bn::Ω) k0=some o0∧o=(if k0.1=0 then o0.mg bn.length else o0)∧aJ ((mH++bo)::bΩ) k=aJ (bo::mH::bΩ) k0:=by
 obtain⟨l,j⟩:=k
 cases l with
 |zero=>
  rw[aR] at h
  by_cases hj:j<bn.length
  ·rw[List.getElem?_append_left hj] at h
   refine⟨(1,j),o,rfl,by rw[bf,aR];exact h,rfl,?_⟩
   rw[aR,bf,aR,List.getElem?_append_left (by omega)]
  ·rw[List.getElem?_append_right (by omega),List.getElem?_map] at h
   cases hx:own[j-bn.length]? with
   |none=>rw[hx] at h;cases h
   |some x=>
    rw[hx] at h;cases h
    refine⟨(0,j-bn.length),x,?_,by rw[aR];exact hx,rfl,?_⟩
    ·show(0,bn.length+(j-bn.length))=(0,j)
     rw[show bn.length+(j-bn.length)=j by omega]
    ·rw[aR,aR,List.getElem?_append_right (by omega),hl]
 |succ l=>
  rw[bf] at h
  exact⟨(l+2,j),o,rfl,by rw[bf,bf];exact h,rfl,by rw[bf,bf,bf]⟩
theorem rO{n:Nat}{k:Key}{o:Obj}:(∀aF es,nO (if k.1=0 then o.mg n else o) aF es→nO o aF es)∧(∀aF es,(if k.1=0 then o.mg n else o)=.dK aF es→o=.dK aF es)∧
 (∀m,(if k.1=0 then o.mg n else o)=.mp m→o=.mp m)∧(∀cs,(if k.1=0 then o.mg n else o)=.box cs→∃cs',o=.box cs')∧(∀rs,(if k.1=0 then o.mg n else o)=.xf rs→o=.xf rs):=by
 by_cases e:k.1=0
 ·simp only[if_pos e]
  cases o<;>simp[Obj.mg,nO]
 ·simp only[if_neg e]
  exact⟨fun _ _ h=>h,fun _ _ h=>h,fun _ h=>h,fun cs h=>⟨cs,h⟩,fun _ h=>h⟩
theorem Y2(hl:mH.length=bn.length){c:C}{v:Value}(h:fZ w σ (own::bn::Ω) (bo::mH::bΩ) c v):
 fZ w σ ((bn++own.map (Obj.mg bn.length))::Ω) ((mH++bo)::bΩ) (c.mg bn.length) v:=by
 cases c with
 |d x=>exact h
 |any=>exact trivial
 |aY es=>exact h
 |jC cs=>exact h
 |iI m es=>exact h
 |xp k r p=>
  obtain⟨o,ho,h2⟩:=h
  refine⟨_,yC ho,fun rs e=> ?_⟩
  obtain⟨hh,q1,q2⟩:=h2 rs (rO.2.2.2.2 _ e)
  exact⟨hh,yD hl q1,q2⟩
 |xq k r p z i off=>
  obtain⟨o,ho,h2⟩:=h
  refine⟨_,yC ho,fun rs e=> ?_⟩
  obtain⟨hh,b,a,n,cap,q1,q2⟩:=h2 rs (rO.2.2.2.2 _ e)
  exact⟨hh,b,a,n,cap,yD hl q1,q2⟩
 |bQ k es=>
  obtain⟨h1,o,ho,h2⟩:=h
  refine⟨h1,_,yC ho,fun aF es' e=> ?_⟩
  obtain⟨q1,q2⟩:=h2 aF es' (rO.1 _ _ e)
  exact⟨q1,fun e'=>yD hl (q2 e')⟩
 |ptr k off=>
  obtain⟨o,ho,h2⟩:=h
  refine⟨_,yC ho,fun cs e=> ?_⟩
  obtain⟨cs',e'⟩:=rO.2.2.2.1 _ e
  obtain⟨b,q1,q2⟩:=h2 cs' e'
  exact⟨b,yD hl q1,q2⟩
 |jH k i off=>
  obtain⟨o,ho,h2⟩:=h
  refine⟨_,yC ho,fun aF es e=> ?_⟩
  obtain⟨b,n,cap,q1,q2⟩:=h2 aF es (rO.2.1 _ _ e)
  exact⟨b,n,cap,yD hl q1,q2⟩
 |iR k=>
  obtain⟨o,ho,h2⟩:=h
  exact⟨_,yC ho,fun aF es e=>yD hl (h2 aF es (rO.2.1 _ _ e))⟩
 |mp k=>
  obtain⟨o,ho,h2⟩:=h
  exact⟨_,yC ho,fun m e=>yD hl (h2 m (rO.2.2.1 _ e))⟩
 |fn f caps=>
  obtain⟨vs,e,hsz,hc⟩:=h
  refine⟨vs,e,by rw[hsz,List.length_map],fun j k off hj=> ?_⟩
  rw[List.getElem?_map] at hj
  cases hx:caps[j]? with
  |none=>rw[hx] at hj;cases hj
  |some y=>
   rw[hx] at hj
   injection hj with hj
   injection hj with e1 e2
   obtain⟨u,q1,q2,o,q3,q4⟩:=hc j y.1 y.2 hx
   refine⟨u,q1,q2,_,by rw[←e1];exact yC q3,fun cs e=> ?_⟩
   obtain⟨cs',e'⟩:=rO.2.2.2.1 _ e
   obtain⟨b,q5,q6⟩:=q4 cs' e'
   exact⟨b,by rw[←e1];exact yD hl q5,by rw[←e2];exact q6⟩
theorem SQ(hl:mH.length=bn.length){cs:List C}{vs:List Value}(h:dR w σ (own::bn::Ω) (bo::mH::bΩ) cs vs):
 dR w σ ((bn++own.map (Obj.mg bn.length))::Ω) ((mH++bo)::bΩ) (cs.map (C.mg bn.length)) vs:=by
 refine⟨by rw[List.length_map];exact h.1,fun j x hj=> ?_⟩
 rw[List.getElem?_map] at hj
 cases hx:cs[j]? with
 |none=>rw[hx] at hj;cases hj
 |some y=>
  rw[hx] at hj;cases hj
  obtain⟨v,h1,h2,h3⟩:=h.2 j y hx
  exact⟨v,h1,Y2 hl h2,h3⟩
theorem agG(hl:mH.length=bn.length){x:V}{v:Value}(h:bF w σ (own::bn::Ω) (bo::mH::bΩ) x v):
 bF w σ ((bn++own.map (Obj.mg bn.length))::Ω) ((mH++bo)::bΩ) (x.mg bn.length) v:=by
 cases x with
 |c x=>exact⟨Y2 hl h.1,h.2⟩
 |agg cs=>obtain⟨a,ha,hc⟩:=h;exact⟨a,ha,SQ hl hc⟩
 |any=>exact trivial
 |dw xs=>
  obtain⟨a,ha,hlen,hc⟩:=h
  refine⟨a,ha,by rw[List.length_map];exact hlen,fun j y hj=> ?_⟩
  rw[List.getElem?_map] at hj
  cases hx:xs[j]? with
  |none=>rw[hx] at hj;cases hj
  |some z=>
   rw[hx] at hj;cases hj
   obtain⟨u,hu,hr⟩:=hc j z hx
   refine⟨u,hu,?_⟩
   obtain⟨b,cs⟩:=z
   cases b with
   |true=>obtain⟨a',e,hcs⟩:=hr;exact⟨a',e,SQ hl hcs⟩
   |false=>obtain⟨x1,e,hx1,ho⟩:=hr;subst e;exact⟨_,rfl,Y2 hl hx1,ho⟩
theorem Qw(hl:mH.length=bn.length):Keep (bn::Ω) (mH::bΩ) ((bn++own.map (Obj.mg bn.length))::Ω) ((mH++bo)::bΩ):=by
 rintro⟨l,j⟩ o h
 cases l with
 |zero=>
  rw[aR] at h
  have hj:=(List.getElem?_eq_some_iff.1 h).1
  refine⟨o,by rw[aR,List.getElem?_append_left hj];exact h,?_⟩
  rw[aR,aR,List.getElem?_append_left (by omega)]
  exact jA.refl _ _
 |succ l=>
  rw[bf] at h
  exact⟨o,by rw[bf];exact h,by rw[bf,bf];exact jA.refl _ _⟩
theorem agH(hS:cB w σ (own::bn::Ω) (bo::mH::bΩ)):cB w σ ((bn++own.map (Obj.mg bn.length))::Ω) ((mH++bo)::bΩ):=by
 have hlo:bo.length=own.length:=by
  obtain⟨gr,h1,h2⟩:=hS.shape.2 0 own rfl
  simp at h1;rw[h1];exact h2
 have hl:mH.length=bn.length:=by
  obtain⟨gr,h1,h2⟩:=hS.shape.2 1 bn rfl
  simp at h1;rw[h1];exact h2
 have hn:bR w σ w σ:=bR.refl _ _
 refine⟨fun k o ho=> ?_,fun k k' o o' h h' b e1 e2 e3 e4 e5 e6=> ?_,⟨by have:=hS.shape.1;simpa using this,fun l fr hfr=> ?_⟩,hS.live,hS.mY⟩
 ·obtain⟨k0,o0,hk,ho0,rfl,hh⟩:=Dy (bo:=bo) (bΩ:=bΩ) hl hlo ho
  obtain⟨h,h1,h2⟩:=hS.obj k0 o0 ho0
  refine⟨h,by rw[hh];exact h1,?_⟩
  obtain⟨l0,j0⟩:=k0
  cases l0 with
  |zero=>
   subst hk
   have h2:eY w σ (own::bn::Ω) (bo::mH::bΩ) o0 h:=h2
   show eY w σ ((bn++own.map (Obj.mg bn.length))::Ω) ((mH++bo)::bΩ) (o0.mg bn.length) h
   cases o0 with
   |box cs=>
    obtain⟨b,c,t,e,q1,q2,q3⟩:=h2
    exact⟨b,c,t,e,q1,q2,SQ hl q3⟩
   |dead=>exact trivial
   |tok aF es=>exact h2
   |dK aF es=>exact h2
   |mp m=>exact h2
   |dW n aF es=>exact h2
   |seed n=>exact trivial
   |xf rs=>exact h2
  |succ l0=>
   have hk':k=(l0,j0):=hk.symm
   subst hk'
   have h2:eY w σ ((bn::Ω).drop l0) ((mH::bΩ).drop l0) o0 h:=h2
   exact h2.mono hn ((Qw hl).drop l0) fun _ _=>⟨rfl,rfl⟩
 ·obtain⟨k0,o0,hk,ho0,ho,hh⟩:=Dy (bo:=bo) (bΩ:=bΩ) hl hlo e1
  obtain⟨k1,o1,hk1,ho1,ho',AZ⟩:=Dy (bo:=bo) (bΩ:=bΩ) hl hlo e4
  rw[hh] at e2
  rw[AZ] at e5
  have b0:owns o0 h b:=by
   rw[ho] at e3
   split at e3
   ·rw[IY] at e3;exact e3
   ·exact e3
  have b1:owns o1 h' b:=by
   rw[ho'] at e6
   split at e6
   ·rw[IY] at e6;exact e6
   ·exact e6
  have:=hS.apart k0 k1 o0 o1 h h' b ho0 e2 b0 ho1 e5 b1
  rw[←hk,←hk1,this]
 ·cases l with
  |zero=>
   simp at hfr
   exact⟨_,rfl,by rw[←hfr];simp[hl,hlo]⟩
  |succ l=>exact hS.shape.2 (l+2) fr (by simpa using hfr)
theorem ac8(hS:cB w σ (own::bn::Ω) (bo::mH::bΩ)){b:Nat}(h:Own ((bn++own.map (Obj.mg bn.length))::Ω) ((mH++bo)::bΩ) b):Own (own::bn::Ω) (bo::mH::bΩ) b:=by
 have hlo:bo.length=own.length:=by
  obtain⟨gr,h1,h2⟩:=hS.shape.2 0 own rfl
  simp at h1;rw[h1];exact h2
 have hl:mH.length=bn.length:=by
  obtain⟨gr,h1,h2⟩:=hS.shape.2 1 bn rfl
  simp at h1;rw[h1];exact h2
 obtain⟨k,o,hv,e1,e2,e3⟩:=h
 obtain⟨k0,o0,hk,ho0,ho,hh⟩:=Dy (bo:=bo) (bΩ:=bΩ) hl hlo e1
 rw[hh] at e2
 refine⟨k0,o0,hv,ho0,e2,?_⟩
 rw[ho] at e3
 split at e3
 ·rw[IY] at e3;exact e3
 ·exact e3
end
def M9(P:Program)(rs:List ResultVar)(post:V→Store→Prop)(e:Exit)(s:St):Prop:=
 match e with
 | .normal| .ret=>(oZ P rs s).1∧match s.st with
   |own::bn::Ω=>post ((oZ P rs s).2.mg bn.length) ((bn++own.map (Obj.mg bn.length))::Ω)
   |_=>False
 |_=>False
section
variable {P:Program} {N:Nat} {s:St}
theorem JR{f:FuncId}{fn:Func}{c:Code}{args:List V}{bn:List Obj}{Ω:Store}{post:V→Store→Prop}(hf:P.funcs[f]? =some fn)(hb:fn.body=some c)(hn:(fn.name== "runtime.NumGoroutine")=false)
 (hl:args.length≤fn.ntmps) (h:AW P fn.ntmps c (M9 P fn.results.toList post) ⟨l9 (args.map (V.up 1)) 0,[]::bn::Ω⟩):bD P f args (bn::Ω) post:=by
 refine⟨⟨fn,hf,hn,by simp[hb]⟩,fun w σ β vs hS hargs=> ?_⟩
 refine calls_of_wp hf hb ?_
 have hlen:vs.length=args.length:=hargs.1.symm
 have XI:iD fn.ntmps ⟨l9 (args.map (V.up 1)) 0,[]::bn::Ω⟩ {tmps:=vs.toArray++Array.replicate (fn.ntmps-vs.toArray.size) undef,defers:=[]} w σ ([]::β):=by
  refine⟨by simp;omega,rfl,hS.up1,fun t=> ?_⟩
  show bF w σ ([]::bn::Ω) ([]::β) (look (l9 (args.map (V.up 1)) 0) t) _
  rw[zT,if_pos (Nat.zero_le _),Nat.sub_zero,List.getElem?_map]
  cases ha:args[t]? with
  |none=>exact trivial
  |some x=>
   obtain⟨v,hv,hr⟩:=hargs.2 t x ha
   have ht:=(List.getElem?_eq_some_iff.1 hv).1
   have:(vs.toArray++Array.replicate (fn.ntmps-vs.toArray.size) undef).getD t undef=v:=by
    rw[Array.getD_eq_getD_getElem?,Array.getElem?_append_left (by simpa using ht)]
    simp[hv]
   rw[this]
   exact Qm (S:=[]::bn::Ω) (β:=[]::β) 1 hr
 refine wp_mono (h _ w σ ([]::β) XI) ?_
 rintro e a' w' ⟨s',σ',β',hR,hst,hkp,hq⟩
 have main:((oZ P fn.results.toList s').1∧match s'.st with
  |own::bn::Ω=>post ((oZ P fn.results.toList s').2.mg bn.length) ((bn++own.map (Obj.mg bn.length))::Ω)
  |_=>False)→
   a'.defers=[]∧∃v,(results fn a'.tmps).run P w'=.ok v w'∧∃v_1 r S' σ' β',Ending.returned v=Ending.returned v_1∧cB w' σ' S' β'∧Keep (bn::Ω) β S' β'∧Step (bn::Ω) β σ w S' β' σ' w'∧bF w' σ' S' β' r v_1∧post r S':=by
  rintro⟨q1,q2⟩
  obtain⟨v,hv,hrep⟩:=Jy (fn:=fn) hR q1
  obtain⟨tm,st⟩:=s'
  simp only at q2
  split at q2
  ·rename_i own SS Ω1
   obtain⟨bo,bΩ',rfl,hlo⟩:=frames hR
   cases bΩ' with
   |nil=>have:=hR.S.shape.1;simp at this
   |cons bo1 bΩ1=>
    have hl1:bo1.length=SS.length:=by
     obtain⟨gr,h1,h2⟩:=hR.S.shape.2 1 SS rfl
     simp at h1;rw[h1];exact h2
    have tT:Keep (bn::Ω) β (SS::Ω1) (bo1::bΩ1):=hkp
    have hst':Step ([]::bn::Ω) ([]::β) σ w (own::SS::Ω1) (bo::bo1::bΩ1) σ' w':=hst
    exact⟨hR.defers,v,hv,v,_,_,σ',_,rfl,agH hR.S,tT.trans (Qw hl1),⟨hst'.size,hst'.os,hst'.output,fun b hb ho=>hst'.far b hb (fun x=>ho (Dm x)),hst'.near,fun b hb=>(hst'.own b (ac8 hR.S hb)).imp Dm id⟩,agG hl1 hrep,q2⟩
  ·exact q2.elim
 cases e with
 |normal=>exact main hq
 |ret=>exact main hq
 |_=>exact hq.elim
def Na(P:Program)(rs:List ResultVar)(post:V→Store→Prop)(s:St)(r:R):Prop:=r.1∧match s.st with
 |own::bn::Ω=>post (r.2.mg bn.length) ((bn++own.map (Obj.mg bn.length))::Ω)
 |_=>False
@[congr] theorem aff {rs:List ResultVar} {post:V→Store→Prop} {s s':St} {r r':R} (h1:s=s') (h2:r=r'):Na P rs post s r=Na P rs post s' r':=by rw[h1,h2]
theorem Y3{rs:List ResultVar}{post:V→Store→Prop}{tm:List (Nat×V)}{S:Store}:M9 P rs post .ret ⟨tm,S⟩=Na P rs post ⟨tm,S⟩ (oZ P rs ⟨tm,S⟩):=rfl
theorem Pq{rs:List ResultVar}{post:V→Store→Prop}{tm:List (Nat×V)}{S:Store}:M9 P rs post .normal ⟨tm,S⟩=Na P rs post ⟨tm,S⟩ (oZ P rs ⟨tm,S⟩):=rfl
theorem abv{rs:List ResultVar}{post:V→Store→Prop}{tm:List (Nat×V)}{own bn:List Obj}{Ω:Store}{p:Prop}{v:V}:
 Na P rs post ⟨tm,own::bn::Ω⟩ (p,v)=(p∧post (v.mg bn.length) ((bn++own.map (Obj.mg bn.length))::Ω)):=rfl
theorem V9{f:FuncId}{fn:Func}{c:Code}{args:List V}{bn:List Obj}{Ω:Store}{post:V→Store→Prop}{rs:List ResultVar}(fD:P.follows .mixedOrders=true)(hf:P.funcs[f]? =some fn)(hN:fn.ntmps=N)
 (hb:fn.body=some c) (hn:(fn.name== "runtime.NumGoroutine")=false) (hr:fn.results.toList=rs) (hl:Nat.ble args.length N=true) (hok:codeOk N c=true)
 (h:CW P N c (M9 P rs post) ⟨l9 (args.map (V.up 1)) 0,[]::bn::Ω⟩):bD P f args (bn::Ω) post:=by
 subst hN
 subst hr
 exact JR hf hb hn (Nat.le_of_ble_eq_true hl) (ji fD c _ _ hok h)
theorem mgK_0{n j:Nat}:zu n (0,j)=(0,n+j):=rfl
theorem mgK_1{n l j:Nat}:zu n (1+l,j)=(l,j):=by rw[Nat.add_comm];rfl
end
attribute [go_sem ↓] Y3 Pq
attribute [go_sem] abv V.mg C.mg Obj.mg mgK_0 mgK_1
end Go.Ab
namespace Go.Proofs.YtokkjobjffhfjaaGreatDoor
open Go Go.Ab Go.RowKit
end Go.Proofs.YtokkjobjffhfjaaGreatDoor
namespace Go.Ab
def K4(by':List UInt8):List (List UInt8)→List UInt8
 |[]=>[]
 |x::xs=>x++(xs.map fun y=>by'++y).flatten
mutual
def SV:ah→List UInt8
 | .mk a l=>if a=[] then [40]++K4 [32] (zw l)++[41] else a
def zw:List ah→List (List UInt8)
 |[]=>[]
 |x::xs=>SV x::zw xs
end
theorem Wd(b:List UInt8):∀l:List (List UInt8),(K4 b l).length≤(l.map fun x=>b.length+x.length).sum
 |[]=>by simp[K4]
 |x::xs=>by
  have h:∀ys:List (List UInt8),((ys.map fun y=>b++y).flatten).length=(ys.map fun x=>b.length+x.length).sum:=by
   intro ys
   induction ys with
   |nil=>rfl
   |cons y ys ih=>rw[List.map_cons,List.flatten_cons,List.length_append,List.length_append,ih,List.map_cons,List.sum_cons]
  rw[K4,List.length_append,h,List.map_cons,List.sum_cons];omega
mutual
theorem Wh:∀x:ah,(SV x).length≤2+3*x.sz
 | .mk a l=>by
   have h:=Gv l
   rw[jB,kS]
   simp only[ah.aI,ah.au]
   rw[SV]
   split
   ·have:=Wd [32] (zw l)
    simp only[List.length_append,List.length_cons,List.length_nil] at this ⊢
    omega
   ·omega
theorem Gv:∀l:List ah,((zw l).map fun x=>0+1+x.length).sum≤3*l.length+3*dn l
 |[]=>by simp[zw]
 |x::xs=>by
  have h1:=Wh x
  have h2:=Gv xs
  rw[zw,List.map_cons,List.sum_cons,dn,List.length_cons];omega
end
end Go.Ab
namespace Go.Ab
theorem ada{w:World}{σ:Nat→Nat}{es:List (List D)}{u:Value}(h:bB w σ (.sl es) u):∃a n c,u=.slice a n c:=by
 cases h with
 |nil a c=>exact⟨_,_,_,rfl⟩
 |sl=>exact⟨_,_,_,rfl⟩
end Go.Ab
namespace Go.Proofs.YtokkjobjffhfjaaGreatDoor
open Go Go.Ab Go.RowKit
end Go.Proofs.YtokkjobjffhfjaaGreatDoor
namespace Go.Proofs.YtokkjobjffhfjaaGreatDoor
open Go Go.Ab
theorem Gw:∀n:Nat,(∀x:ak,SizeOf.sizeOf x<n→∀y:ak,x.sz≤1048576→aD Tryz.prog 25 [x.v,y.v] (.c (.d (.b (dec (x=y))))))∧
 (∀xs:List ak,SizeOf.sizeOf xs<n→∀ys:List ak,xs.length+dz (xs.map ak.enc)≤1048576→aD Tryz.prog 71 [.c (.d (.sl (xs.map ak.enc))),.c (.d (.sl (ys.map ak.enc)))] (.c (.d (.b (dec (xs=ys))))))
 |0=>⟨fun x h=>by omega,fun x h=>by omega⟩
 |n+1=>by
  obtain⟨Ce,abw⟩:=Gw n
  refine⟨fun x hn y hsz S=> ?_,fun xs hn ys hsz S=> ?_⟩
  ·have jS:=ak.gF x
   simp only[ak.sz,ak.aC,bS,eT,D.sz,List.length_map] at hsz
   refine aB (rs:=[.tmp 4]) Tryz.checked.mixed Tryz.func25 Tryz.ntmps25 rfl rfl rfl rfl rfl ?_
   refine W1 ?_
   refine S0 (fun hb h=>?_) fun hb h=>?_
   ·exact aK (aN (fun e=>h (by rw[e]))).symm
   have SX:=h
   clear h
   refine S0 (fun hb h=>?_) fun hb h=>?_
   ·exact aK (aN (fun e=>h (by rw[e]))).symm
   have SY:=h
   clear h
   refine C1 (abw x.fArgs (by omega) _ (by omega)) ?_
   refine S0 (fun hb h=>?_) fun hb h=>?_
   ·exact aK (aN (fun e=>h (by rw[e]))).symm
   have eArgs:=h
   clear h
   exact aK (cK (ak.ext SX SY eArgs)).symm
  ·refine aB (rs:=[.tmp 4]) Tryz.checked.mixed Tryz.func71 Tryz.ntmps71 rfl rfl rfl rfl rfl ?_
   refine W1 ?_
   refine S0 (fun hb h=>?_) fun hb h=>?_
   ·exact aK (aN (fun e=>h (by rw[e]))).symm
   have hl:xs.length=ys.length:=by omega
   refine aW (ι:=Nat) Tryz.checked.mixed rfl [0,1,5] (fun y=>[.c (.d (.sl (xs.map ak.enc))),.c (.d (.sl (ys.map ak.enc))),.c (.d (.i .i64 y))]) (fun y=>[]::S)
    (fun i=>i≤xs.length∧∀j,j<i→xs[j]? =ys[j]?) (fun y=>xs.length-y) 0 rfl rfl ⟨Nat.zero_le _,fun j h=>by omega⟩ ?_
   rintro i ⟨p1,p2⟩
   refine W1 ?_
   refine S0 (fun hb h=>?_) fun hb h=>?_
   ·have hi:i<xs.length:=by omega
    have hi':i<ys.length:=by omega
    have hx:xs[i].sz≤dz (xs.map ak.enc):=gY (List.mem_map_of_mem (List.getElem_mem hi))
    refine W3 ?_
    refine C1 (Ce xs[i] (by have:=List.sizeOf_lt_of_mem (List.getElem_mem hi);omega) ys[i] (by omega)) ?_
    refine S0 (fun hb h=>?_) fun hb h=>?_
    ·exact aK (aN (fun e=>h (by simp only[e]))).symm
    refine bK (i+1) (by omega) rfl rfl ⟨by omega,fun j hj=> ?_⟩
    by_cases e:j=i
    ·subst e
     rw[List.getElem?_eq_getElem hi,List.getElem?_eq_getElem hi',h]
    ·exact p2 j (by omega)
   ·have hi:i=xs.length:=by omega
    refine aK (cK (List.ext_getElem? fun j=> ?_)).symm
    by_cases hj:j<i
    ·exact p2 j hj
    ·rw[List.getElem?_eq_none (by omega),List.getElem?_eq_none (by omega)]
theorem Wi(x:ak):∀y:ak,x.sz≤1048576→aD Tryz.prog 25 [x.v,y.v] (.c (.d (.b (dec (x=y))))):=(Gw _).1 x (Nat.lt_succ_self _)
end Go.Proofs.YtokkjobjffhfjaaGreatDoor
namespace Go.Proofs.YtokkjobjffhfjaaGreatDoor
open Go Go.Ab
end Go.Proofs.YtokkjobjffhfjaaGreatDoor
namespace Go.Proofs.YtokkjobjffhfjaaGreatDoor
open Go Go.Ab
end Go.Proofs.YtokkjobjffhfjaaGreatDoor
namespace Go.Proofs.YtokkjobjffhfjaaGreatDoor
open Go Go.Ab
theorem Gx:∀n:Nat,(∀x:aj,SizeOf.sizeOf x<n→∀y:aj,x.sz≤1048576→aD Tryz.prog 8 [x.v,y.v] (.c (.d (.b (dec (x=y))))))∧
 (∀xs:List aj,SizeOf.sizeOf xs<n→∀ys:List aj,xs.length+dz (xs.map aj.enc)≤1048576→aD Tryz.prog 26 [.c (.d (.sl (xs.map aj.enc))),.c (.d (.sl (ys.map aj.enc)))] (.c (.d (.b (dec (xs=ys))))))∧
 (∀x:aA,SizeOf.sizeOf x<n→∀y:aA,x.sz≤1048576→aD Tryz.prog 72 [x.v,y.v] (.c (.d (.b (dec (x=y))))))∧
 (∀xs:List aA,SizeOf.sizeOf xs<n→∀ys:List aA,xs.length+dz (xs.map aA.enc)≤1048576→aD Tryz.prog 27 [.c (.d (.sl (xs.map aA.enc))),.c (.d (.sl (ys.map aA.enc)))] (.c (.d (.b (dec (xs=ys))))))
 |0=>⟨fun x h=>by omega,fun x h=>by omega,fun x h=>by omega,fun x h=>by omega⟩
 |n+1=>by
  obtain⟨vC,abx,Ak,adb⟩:=Gx n
  refine⟨fun x hn y hsz S=> ?_,fun xs hn ys hsz S=> ?_,fun x hn y hsz S=> ?_,fun xs hn ys hsz S=> ?_⟩
  ·have jS:=aj.gF x
   have Dz:=aj.nk x
   simp only[aj.sz,aj.aC,bS,eT,D.sz,List.length_map,ak.gJ] at hsz
   refine aB (rs:=[.tmp 4]) Tryz.checked.mixed Tryz.func8 Tryz.ntmps8 rfl rfl rfl rfl rfl ?_
   refine W1 ?_
   refine S0 (fun hb h=>?_) fun hb h=>?_
   ·exact aK (aN (fun e=>h (by rw[e]))).symm
   have SX:=h
   clear h
   refine S0 (fun hb h=>?_) fun hb h=>?_
   ·exact aK (aN (fun e=>h (by rw[e]))).symm
   have ade:=h
   clear h
   refine S0 (fun hb h=>?_) fun hb h=>?_
   ·exact aK (aN (fun e=>h (by rw[e]))).symm
   have SY:=h
   clear h
   refine S0 (fun hb h=>?_) fun hb h=>?_
   ·exact aK (aN (fun e=>h (by rw[e]))).symm
   have eN:=h
   clear h
   refine C1 (Wi x.fType _ (by omega)) ?_
   refine S0 (fun hb h=>?_) fun hb h=>?_
   ·exact aK (aN (fun e=>h (by rw[e]))).symm
   have eType:=h
   clear h
   refine C1 (abx x.fArgs (by omega) _ (by omega)) ?_
   refine S0 (fun hb h=>?_) fun hb h=>?_
   ·exact aK (aN (fun e=>h (by rw[e]))).symm
   have eArgs:=h
   clear h
   refine C1 (adb x.aG (by omega) _ (by omega)) ?_
   refine S0 (fun hb h=>?_) fun hb h=>?_
   ·exact aK (aN (fun e=>h (by rw[e]))).symm
   have afg:=h
   clear h
   exact aK (cK (aj.ext SX ade SY eN eType eArgs afg)).symm
  ·refine aB (rs:=[.tmp 4]) Tryz.checked.mixed Tryz.func26 Tryz.ntmps26 rfl rfl rfl rfl rfl ?_
   refine W1 ?_
   refine S0 (fun hb h=>?_) fun hb h=>?_
   ·exact aK (aN (fun e=>h (by rw[e]))).symm
   have hl:xs.length=ys.length:=by omega
   refine aW (ι:=Nat) Tryz.checked.mixed rfl [0,1,5] (fun y=>[.c (.d (.sl (xs.map aj.enc))),.c (.d (.sl (ys.map aj.enc))),.c (.d (.i .i64 y))]) (fun y=>[]::S)
    (fun i=>i≤xs.length∧∀j,j<i→xs[j]? =ys[j]?) (fun y=>xs.length-y) 0 rfl rfl ⟨Nat.zero_le _,fun j h=>by omega⟩ ?_
   rintro i ⟨p1,p2⟩
   refine W1 ?_
   refine S0 (fun hb h=>?_) fun hb h=>?_
   ·have hi:i<xs.length:=by omega
    have hi':i<ys.length:=by omega
    have hx:xs[i].sz≤dz (xs.map aj.enc):=gY (List.mem_map_of_mem (List.getElem_mem hi))
    refine W3 ?_
    refine C1 (vC xs[i] (by have:=List.sizeOf_lt_of_mem (List.getElem_mem hi);omega) ys[i] (by omega)) ?_
    refine S0 (fun hb h=>?_) fun hb h=>?_
    ·exact aK (aN (fun e=>h (by simp only[e]))).symm
    refine bK (i+1) (by omega) rfl rfl ⟨by omega,fun j hj=> ?_⟩
    by_cases e:j=i
    ·subst e
     rw[List.getElem?_eq_getElem hi,List.getElem?_eq_getElem hi',h]
    ·exact p2 j (by omega)
   ·have hi:i=xs.length:=by omega
    refine aK (cK (List.ext_getElem? fun j=> ?_)).symm
    by_cases hj:j<i
    ·exact p2 j hj
    ·rw[List.getElem?_eq_none (by omega),List.getElem?_eq_none (by omega)]
  ·have ahB:=aA.l5 x
   simp only[aA.sz,aA.aC,bS,eT,D.sz,List.length_map,aj.gJ] at hsz
   refine aB (rs:=[.tmp 4]) Tryz.checked.mixed Tryz.func72 Tryz.ntmps72 rfl rfl rfl rfl rfl ?_
   refine W1 ?_
   refine S0 (fun hb h=>?_) fun hb h=>?_
   ·exact aK (aN (fun e=>h (by rw[e]))).symm
   have Nb:=h
   clear h
   refine C1 (MZ x.aS _ (by omega)) ?_
   refine S0 (fun hb h=>?_) fun hb h=>?_
   ·exact aK (aN (fun e=>h (by rw[e]))).symm
   have afh:=h
   clear h
   refine C1 (vC x.fBody (by omega) _ (by omega)) ?_
   refine S0 (fun hb h=>?_) fun hb h=>?_
   ·exact aK (aN (fun e=>h (by rw[e]))).symm
   have afi:=h
   clear h
   exact aK (cK (aA.ext Nb afh afi)).symm
  ·refine aB (rs:=[.tmp 4]) Tryz.checked.mixed Tryz.func27 Tryz.ntmps27 rfl rfl rfl rfl rfl ?_
   refine W1 ?_
   refine S0 (fun hb h=>?_) fun hb h=>?_
   ·exact aK (aN (fun e=>h (by rw[e]))).symm
   have hl:xs.length=ys.length:=by omega
   refine aW (ι:=Nat) Tryz.checked.mixed rfl [0,1,5] (fun y=>[.c (.d (.sl (xs.map aA.enc))),.c (.d (.sl (ys.map aA.enc))),.c (.d (.i .i64 y))]) (fun y=>[]::S)
    (fun i=>i≤xs.length∧∀j,j<i→xs[j]? =ys[j]?) (fun y=>xs.length-y) 0 rfl rfl ⟨Nat.zero_le _,fun j h=>by omega⟩ ?_
   rintro i ⟨p1,p2⟩
   refine W1 ?_
   refine S0 (fun hb h=>?_) fun hb h=>?_
   ·have hi:i<xs.length:=by omega
    have hi':i<ys.length:=by omega
    have hx:xs[i].sz≤dz (xs.map aA.enc):=gY (List.mem_map_of_mem (List.getElem_mem hi))
    refine W3 ?_
    refine C1 (Ak xs[i] (by have:=List.sizeOf_lt_of_mem (List.getElem_mem hi);omega) ys[i] (by omega)) ?_
    refine S0 (fun hb h=>?_) fun hb h=>?_
    ·exact aK (aN (fun e=>h (by simp only[e]))).symm
    refine bK (i+1) (by omega) rfl rfl ⟨by omega,fun j hj=> ?_⟩
    by_cases e:j=i
    ·subst e
     rw[List.getElem?_eq_getElem hi,List.getElem?_eq_getElem hi',h]
    ·exact p2 j (by omega)
   ·have hi:i=xs.length:=by omega
    refine aK (cK (List.ext_getElem? fun j=> ?_)).symm
    by_cases hj:j<i
    ·exact p2 j hj
    ·rw[List.getElem?_eq_none (by omega),List.getElem?_eq_none (by omega)]
theorem JU(x:aj):∀y:aj,x.sz≤1048576→aD Tryz.prog 8 [x.v,y.v] (.c (.d (.b (dec (x=y))))):=(Gx _).1 x (Nat.lt_succ_self _)
end Go.Proofs.YtokkjobjffhfjaaGreatDoor
namespace Go.Ab
mutual
def aj.cnt:aj→Nat
 | .mk _ _ _ _ _ a b=>1+(aj.dS a+aA.dS b)
def aj.dS:List aj→Nat
 |[]=>0
 |x::xs=>x.cnt+aj.dS xs
def aA.cnt:aA→Nat
 | .mk _ _ b=>b.cnt
def aA.dS:List aA→Nat
 |[]=>0
 |x::xs=>x.cnt+aA.dS xs
end
theorem aj.oz(x:aj):x.cnt=1+(aj.dS x.fArgs+aA.dS x.aG):=by cases x;rw[aj.cnt];rfl
theorem aA.oz(x:aA):x.cnt=x.fBody.cnt:=by cases x;rw[aA.cnt];rfl
theorem aj.mG{xs:List aj}{i:Nat}(hi:i<xs.length):aj.dS (xs.drop i)=xs[i].cnt+aj.dS (xs.drop (i+1)):=by rw[List.drop_eq_getElem_cons hi,aj.dS]
theorem aA.mG{xs:List aA}{i:Nat}(hi:i<xs.length):aA.dS (xs.drop i)=xs[i].fBody.cnt+aA.dS (xs.drop (i+1)):=by rw[List.drop_eq_getElem_cons hi,aA.dS,aA.oz]
theorem aj.Y4(x:aj):x.fArgs.length+dz (x.fArgs.map aj.enc)≤x.sz∧x.aG.length+dz (x.aG.map aA.enc)≤x.sz:=by
 simp only[aj.sz,aj.aC,bS,eT,D.sz,List.length_map]
 omega
theorem aA.IZ(x:aA):x.fBody.sz≤x.sz:=by
 simp only[aA.sz,aA.aC,aj.sz,bS,eT,D.sz,List.length_map]
 omega
mutual
theorem aj.oC:∀x:aj,x.cnt≤1+x.sz
 | .mk k t n m ty a b=>by
   have h1:=aj.rJ a
   have h2:=aA.rJ b
   rw[aj.cnt]
   simp only[aj.sz,aj.aC,bS,eT,D.sz,List.length_map,aj.fArgs,aj.aG]
   omega
theorem aj.rJ:∀xs:List aj,aj.dS xs≤xs.length+dz (xs.map aj.enc)
 |[]=>by simp[aj.dS]
 |x::xs=>by
  have h1:=aj.oC x
  have h2:=aj.rJ xs
  rw[aj.dS,List.length_cons,List.map_cons,dz,aj.gJ]
  omega
theorem aA.oC:∀x:aA,x.cnt≤1+x.sz
 | .mk c v b=>by
   have h1:=aj.oC b
   have h2:=aA.IZ (.mk c v b)
   rw[aA.cnt]
   simp only[aA.fBody] at h2
   omega
theorem aA.rJ:∀xs:List aA,aA.dS xs≤xs.length+dz (xs.map aA.enc)
 |[]=>by simp[aA.dS]
 |x::xs=>by
  have h1:=aA.oC x
  have h2:=aA.rJ xs
  rw[aA.dS,List.length_cons,List.map_cons,dz,aA.gJ]
  omega
end
end Go.Ab
namespace Go.Proofs.YtokkjobjffhfjaaGreatDoor
open Go Go.Ab
theorem xI:∀n:Nat,∀x:aj,SizeOf.sizeOf x<n→x.sz≤4194304→aD Tryz.prog 134 [x.v] (.c (.d (.i .i64 x.cnt)))
 |0=>fun x h=>by omega
 |n+1=>by
  have ih:=xI n
  intro x hn hsz S
  have jS:=aj.gF x
  have Dz:=aj.nk x
  have hp:=aj.Y4 x
  have hc:=aj.oC x
  have he:=aj.oz x
  refine aB (rs:=[.tmp 2]) Tryz.checked.mixed Tryz.func134 Tryz.ntmps134 rfl rfl rfl rfl rfl ?_
  refine W1 ?_
  refine aW (ι:=Nat×Nat) Tryz.checked.mixed rfl [1,3,9,10,11] (fun y=>[.c (.ptr (0,0) 0),.c (.d (.i .i64 y.2)),.c (.d (.sl (x.fArgs.map aj.enc))),.c (.d (.i .i64 x.fArgs.length)),.c (.d (.i .i64 y.1))]) (fun y=>[.box (x.enc.map .d)]::S)
   (fun y=>y.1≤x.fArgs.length∧x.cnt=y.2+aj.dS (x.fArgs.drop y.1)+aA.dS x.aG) (fun y=>x.fArgs.length-y.1) (0,1) rfl ?_ ⟨Nat.zero_le _,by simp only[List.drop_zero];omega⟩ ?_
  ·exact Z1
  rintro⟨i,c⟩ ⟨p1,p2⟩
  simp only at p1 p2
  refine W1 ?_
  refine S0 (fun hb h=>?_) fun hb h=>?_
  ·have hi:i<x.fArgs.length:=by omega
   have hx:x.fArgs[i].sz≤dz (x.fArgs.map aj.enc):=gY (List.mem_map_of_mem (List.getElem_mem hi))
   rw[aj.mG hi] at p2
   refine W3 ?_
   refine C2 (ih x.fArgs[i] (by have:=List.sizeOf_lt_of_mem (List.getElem_mem hi);omega) (by omega)) ?_
   rw[show(c:Int)+(x.fArgs[i].cnt:Int)=((c+x.fArgs[i].cnt:Nat):Int) by omega]
   exact iP 1 (by decide) (i+1,c+x.fArgs[i].cnt) (by simp only;omega) rfl rfl rfl rfl ⟨by simp only;omega,by simp only;omega⟩
  have hi:i=x.fArgs.length:=by omega
  rw[hi,List.drop_length,aj.dS] at p2
  refine aW (ι:=Nat×Nat) Tryz.checked.mixed rfl [3,21,22,23] (fun y=>[.c (.d (.i .i64 y.2)),.c (.d (.sl (x.aG.map aA.enc))),.c (.d (.i .i64 x.aG.length)),.c (.d (.i .i64 y.1))]) (fun y=>[.box (x.enc.map .d)]::S)
   (fun y=>y.1≤x.aG.length∧x.cnt=y.2+aA.dS (x.aG.drop y.1)) (fun y=>x.aG.length-y.1) (0,c) rfl ?_ ⟨Nat.zero_le _,by simp only[List.drop_zero];omega⟩ ?_
  ·exact Z1
  clear p1 p2 hb h hi i
  rintro⟨i,d⟩ ⟨p1,p2⟩
  simp only at p1 p2
  refine W1 ?_
  refine S0 (fun hb h=>?_) fun hb h=>?_
  ·have hi:i<x.aG.length:=by omega
   have hx:x.aG[i].sz≤dz (x.aG.map aA.enc):=gY (List.mem_map_of_mem (List.getElem_mem hi))
   have hy:=aA.IZ x.aG[i]
   have hs:=List.sizeOf_lt_of_mem (List.getElem_mem hi)
   have hs':=aA.l5 x.aG[i]
   rw[aA.mG hi] at p2
   refine W3 ?_
   refine C2 (ih x.aG[i].fBody (by omega) (by omega)) ?_
   rw[show(d:Int)+(x.aG[i].fBody.cnt:Int)=((d+x.aG[i].fBody.cnt:Nat):Int) by omega]
   exact iP 1 (by decide) (i+1,d+x.aG[i].fBody.cnt) (by simp only;omega) rfl rfl rfl rfl ⟨by simp only;omega,by simp only;omega⟩
  ·have hi:i=x.aG.length:=by omega
   rw[hi,List.drop_length,aA.dS] at p2
   exact int_eq (by omega)
theorem Gy(x:aj)(hsz:x.sz≤4194304):aD Tryz.prog 134 [x.v] (.c (.d (.i .i64 x.cnt))):=xI _ x (Nat.lt_succ_self _) hsz
end Go.Proofs.YtokkjobjffhfjaaGreatDoor
namespace Go.Ab
def ops:List (List UInt8):=[[43],[45],[42],[60],[61]]
def yE(t:ak):Prop:=t.aH=0∧t.fName=[]∧t.fArgs.length=0
def oP(e:aj):Prop:=
 (1≤e.aH∧e.aH≤12)∧
 (if e.aH=5∨e.aH=11 then validName e.aU=true else e.aU=[])∧
 (if e.aH=3∨e.aH=4∨e.aH=5∨e.aH=6∨e.aH=8 then validName e.fName=true else if e.aH=10 then e.fName∈ops else e.fName=[])∧
 (if e.aH=1 then -999999≤e.fN∧e.fN≤999999 else if e.aH=2 then e.fN=0∨e.fN=1 else e.fN=0)∧
 (if e.aH=12 then rM e.fType=true else yE e.fType)∧
 (if e.aH=4∨e.aH=6 then True else if e.aH=5 then 1≤e.fArgs.length else if e.aH=7∨e.aH=11∨e.aH=12 then e.fArgs.length=1 else if e.aH=8∨e.aH=10 then e.fArgs.length=2 else if e.aH=9 then e.fArgs.length=3 else e.fArgs.length=0)∧
 (e.aH=7↔0<e.aG.length)
mutual
noncomputable def gL:aj→Bool
 | .mk k t n m ty a b=>dec (oP (.mk k t n m ty a b))&&(iV a&&kH b)
noncomputable def iV:List aj→Bool
 |[]=>true
 |x::xs=>gL x&&iV xs
noncomputable def qy:aA→Bool
 | .mk c v b=>validName c&&(oO v&&gL b)
noncomputable def kH:List aA→Bool
 |[]=>true
 |x::xs=>qy x&&kH xs
end
theorem rP(x:aj):gL x=(dec (oP x)&&(iV x.fArgs&&kH x.aG)):=by cases x;rw[gL];rfl
theorem mO(x:aA):qy x=(validName x.bC&&(oO x.aS&&gL x.fBody)):=by cases x;rw[qy];rfl
theorem Nc{xs:List aj}{i:Nat}(hi:i<xs.length):iV (xs.drop i)=(gL xs[i]&&iV (xs.drop (i+1))):=by rw[List.drop_eq_getElem_cons hi,iV]
theorem Pt{xs:List aA}{i:Nat}(hi:i<xs.length):kH (xs.drop i)=(qy xs[i]&&kH (xs.drop (i+1))):=by rw[List.drop_eq_getElem_cons hi,kH]
theorem Ei:∀{xs:List aj},(xs.any fun t=> !gL t)= !iV xs
 |[]=>rfl
 |t::ts=>by rw[List.any_cons,Ei (xs:=ts),iV];simp
theorem Gz:∀{xs:List aA},(xs.any fun t=> !qy t)= !kH xs
 |[]=>rfl
 |t::ts=>by rw[List.any_cons,Gz (xs:=ts),kH];simp
noncomputable def jv(e:aj):Bool:=dec (e.cnt≤300)&&gL e
def kI(l:Int)(c:Nat):Int:=if l<0 then -1 else if c≤l then l-c else -1
theorem Al{l:Int}{a b:Nat}:kI (kI l a) b=kI l (a+b):=by unfold kI;split<;>split<;>(try split)<;>(try split)<;>omega
theorem EL{l:Int}{a:Nat}(h:l<0):kI l a= -1:=if_pos h
theorem Cg{l:Int}(h: -1≤l):kI l 0=l:=by unfold kI;split<;>(try split)<;>omega
theorem I4{l:Int}{c:Nat}(h:0≤l): -1≤kI l c∧kI l c≤l:=by unfold kI;split<;>(try split)<;>omega
theorem Y5{l:Int}{c:Nat}(h:0≤l):decide (kI l c≥0)=decide ((c:Int)≤l):=by unfold kI;rw[if_neg (by omega)];split<;>simp<;>omega
theorem KH:validName []=false:=aN fun h=>by have:=h.1.1;simp at this
theorem Wj{s:List UInt8}(h:s∈ops):s.length=1:=by simp[ops] at h;rcases h with h|h|h|h|h<;>rw[h]<;>rfl
theorem Nf{s:List UInt8}(h:s∈ops):validName s=false:=aN fun x=>by
 have h1:=x.2.2 0 (by have:=x.1.1;omega)
 simp[ops] at h;rcases h with h|h|h|h|h<;>rw[h] at h1<;>simp[lowerB,mF] at h1
theorem GA{t:ak}(h:yE t):rM t=false:=aN fun x=>by
 have h1:=x.1
 rw[vk,Bool.and_eq_true] at h1
 have h2:=iK h1.1
 rw[h.1] at h2
 omega
end Go.Ab
namespace Go.Ab
structure Hold (p:Prop):Prop where
 out:p
theorem Y6{P:Program}{N:Nat}{c:Code}{Q:Exit→St→Prop}{tm:List (Nat×V)}{st st':Store}(ts:List Nat)(vs:List V)(hv:ts.map (look tm)=vs)(hs:st=st')
 (h:AW P N c Q ⟨pG ts vs,st'⟩):AW P N c Q ⟨tm,st⟩:=by
 subst hs
 refine kR h ?_
 rw[←hv]
 exact Ma fun t=>xB _ ts t
end Go.Ab
namespace Go.Ab
theorem aby(b:UInt8):decide (firstIdx ⟨[43,45,42,60,61].toArray⟩ b≥0)=dec ([b]∈ops):=by
 have h:∀n:Nat,n<256→decide (firstIdx ⟨[43,45,42,60,61].toArray⟩ (UInt8.ofNat n)≥0)=decide ([UInt8.ofNat n]∈ops):=by decide +kernel
 have h1:=h b.toNat (UInt8.toNat_lt b)
 rw[UInt8.ofNat_toNat] at h1
 rw[h1]
 by_cases h2:[b]∈ops
 ·rw[cK h2];simp[h2]
 ·rw[aN h2];simp[h2]
def S9(k:Int):Int:=if k=5∨k=7∨k=11∨k=12 then 1 else if k=8∨k=10 then 2 else if k=9 then 3 else 0
def Ta(k:Int):Int:=if k=4∨k=6∨k=5 then 300 else if k=7∨k=11∨k=12 then 1 else if k=8∨k=10 then 2 else if k=9 then 3 else 0
end Go.Ab
namespace Go.Proofs.YtokkjobjffhfjaaGreatDoor
open Go Go.Ab
theorem DW(l:List UInt8)(b:UInt8):Rq Tryz.prog 255 [.c (.d (.s l)),.c (.d (.i .u8 b.toNat))] (.c (.d (.i .i64 (firstIdx ⟨l.toArray⟩ b)))):=by
 refine⟨_,Extern.BytealgIndexByte.indexByte,Tryz.func255,by kernel_rfl,by kernel_rfl,by kernel_rfl,by kernel_rfl,fun w σ S β vs hS hv=> ?_⟩
 obtain⟨hl,h⟩:=hv
 obtain⟨v0,e0,h0,_⟩:=h 0 _ rfl
 obtain⟨v1,e1,h1,_⟩:=h 1 _ rfl
 cases h0
 cases h1
 have hvs:vs=[.string ⟨l.toArray⟩,.int .u8 b.toNat]:=by
  match vs,hl,e0,e1 with
  |[x,y],_,e0,e1=>simp at e0 e1;rw[e0,e1]
 subst hvs
 refine⟨_,run_indexByte_string _ _ w,?_,rfl⟩
 have hb:(b.toNat:Int).toNat.toUInt8=b:=by simp
 rw[hb]
 exact .i _ _
theorem Ch(l:List UInt8)(b:UInt8):aD Tryz.prog 187 [.c (.d (.s l)),.c (.d (.i .u8 b.toNat))] (.c (.d (.i .i64 (firstIdx ⟨l.toArray⟩ b)))):=fun S=>by
 refine aB (rs:=[.tmp 4]) Tryz.checked.mixed Tryz.func187 Tryz.ntmps187 rfl rfl rfl rfl rfl ?_
 refine W1 ?_
 refine acU (DW l b) ?_
 exact Z1
theorem Pv(l:List UInt8)(b:UInt8)(hl:[b]≠l):aD Tryz.prog 293 [.c (.d (.s l)),.c (.d (.s [b]))] (.c (.d (.i .i64 (firstIdx ⟨l.toArray⟩ b)))):=fun S=>by
 have c1:decide (((1:Nat):Int)=0)=false:=rfl
 have c2:decide (((1:Nat):Int)=1)=true:=rfl
 refine aB (rs:=[.tmp 4]) Tryz.checked.mixed Tryz.func293 Tryz.ntmps293 rfl rfl rfl rfl rfl ?_
 simp -implicitDefEqProofs (disch:=omega) only[go_sem,c1,c2]
 with_reducible refine dP (fun hb=> ?_) (fun hb=> ?_)<;>have h:=hb<;>(try simp only[wf_preprocess] at h)<;>simp -implicitDefEqProofs (disch:=omega) only[go_sem,hb,c1,c2]<;>refine W3 ?_
 ·exact absurd h hl
 exact C4 (Ch l b)
theorem Wl(l:List UInt8)(b:UInt8)(hl:[b]≠l):aD Tryz.prog 248 [.c (.d (.s l)),.c (.d (.s [b]))] (.c (.d (.i .i64 (firstIdx ⟨l.toArray⟩ b)))):=fun S=>by
 refine aB (rs:=[.tmp 4]) Tryz.checked.mixed Tryz.func248 Tryz.ntmps248 rfl rfl rfl rfl rfl ?_
 refine W1 ?_
 exact C4 (Pv l b hl)
theorem Ng(l:List UInt8)(b:UInt8)(hl:[b]≠l):aD Tryz.prog 301 [.c (.d (.s l)),.c (.d (.s [b]))] (.c (.d (.b (decide (firstIdx ⟨l.toArray⟩ b≥0))))):=fun S=>by
 refine aB (rs:=[.tmp 4]) Tryz.checked.mixed Tryz.func301 Tryz.ntmps301 rfl rfl rfl rfl rfl ?_
 refine W1 ?_
 exact C4 (Wl l b hl)
theorem KI(s:List UInt8):aD Tryz.prog 260 [.c (.d (.s s))] (.c (.d (.b (dec (s∈ops))))):=fun S=>by
 refine aB (rs:=[.tmp 2]) Tryz.checked.mixed Tryz.func260 Tryz.ntmps260 rfl rfl rfl rfl rfl ?_
 refine W1 ?_
 refine S0 (fun hb h=>?_) fun hb h=>?_
 ·obtain⟨b,rfl⟩:=List.length_eq_one_iff.1 (show s.length=1 by omega)
  refine C2 (Ng [43,45,42,60,61] b (by intro x;cases x)) ?_
  exact aK (aby b)
 ·exact aK (aN fun x=>h (by rw[Wj x];rfl)).symm
theorem KJ(t:ak):aD Tryz.prog 237 [t.v] (.c (.d (.b (dec (yE t))))):=fun S=>by
 refine aB (rs:=[.tmp 2]) Tryz.checked.mixed Tryz.func237 Tryz.ntmps237 rfl rfl rfl rfl rfl ?_
 refine W1 ?_
 repeat' (first
  |refine S0 (fun hb h=>?_) fun hb h=>?_
  |(refine aK ?_;unfold yE;grind [cK,aN,iK,lN]))
theorem Ej(k:Int):aD Tryz.prog 259 [.c (.d (.i .i64 k))] (.dw [(false,[.d (.i .i64 (S9 k))]),(false,[.d (.i .i64 (Ta k))])]):=fun S=>by
 refine aB (rs:=[.tmp 2,.tmp 3]) Tryz.checked.mixed Tryz.func259 Tryz.ntmps259 rfl rfl rfl rfl rfl ?_
 refine W1 ?_
 repeat' (first
  |refine S0 (fun hb h=>?_) fun hb h=>?_
  |(unfold S9 Ta;grind))
end Go.Proofs.YtokkjobjffhfjaaGreatDoor
namespace Go.Ab
theorem Wm(b:UInt8):decide (firstIdx ⟨[39,45,43,42,60,61,46].toArray⟩ b≥0)=decide (b∈([39,45,43,42,60,61,46]:List UInt8)):=by
 have h:∀n:Nat,n<256→decide (firstIdx ⟨[39,45,43,42,60,61,46].toArray⟩ (UInt8.ofNat n)≥0)=decide (UInt8.ofNat n∈([39,45,43,42,60,61,46]:List UInt8)):=by decide +kernel
 have h1:=h b.toNat (UInt8.toNat_lt b)
 rwa [UInt8.ofNat_toNat] at h1
theorem Y7(b:UInt8):b∈([39,45,43,42,60,61,46]:List UInt8)↔(b.toNat=39∨b.toNat=45∨b.toNat=43∨b.toNat=42∨b.toNat=60∨b.toNat=61∨b.toNat=46):=by
 have h:∀n:Nat,n<256→(UInt8.ofNat n∈([39,45,43,42,60,61,46]:List UInt8)↔(n=39∨n=45∨n=43∨n=42∨n=60∨n=61∨n=46)):=by decide +kernel
 have h1:=h b.toNat (UInt8.toNat_lt b)
 rwa [UInt8.ofNat_toNat] at h1
theorem qh(b:UInt8):aO b=true↔(97≤b.toNat∧b.toNat≤122)∨(48≤b.toNat∧b.toNat≤57)∨b.toNat=39∨b.toNat=45∨b.toNat=43∨b.toNat=42∨b.toNat=60∨b.toNat=61∨b.toNat=46:=by
 unfold aO
 rw[Bool.or_eq_true,Bool.or_eq_true,decide_eq_true_eq,decide_eq_true_eq,decide_eq_true_eq,Y7,or_assoc]
theorem all_false{s:List UInt8}{i:Nat}(hi:i<s.length)(h:aO s[i]=false):s.all aO=false:=by
 rw[List.all_eq_false]
 exact⟨s[i],List.getElem_mem hi,by simp[h]⟩
theorem all_true{s:List UInt8}(h:∀j (hj:j<s.length),aO s[j]=true):s.all aO=true:=by
 rw[List.all_eq_true]
 intro b hb
 obtain⟨j,hj,e⟩:=List.getElem_of_mem hb
 rw[←e];exact h j hj
theorem wM{x:ah}{i:Nat}(hi:i<x.au.length)(h:x.sz≤67108864):x.au[i].sz≤67108864∧x.au.length≤67108864∧x.aI.length≤67108864:=by
 have:=ny (List.getElem_mem hi)
 rw[jB,kS] at h
 omega
theorem zx{x:ah}(h:x.sz≤67108864):x.au.length≤67108864∧x.aI.length≤67108864:=by
 rw[jB,kS] at h
 omega
theorem Pw{l:List ah}{i:Nat}(hi:i<l.length):fQ (l.drop i)=(gD l[i]&&fQ (l.drop (i+1))):=by rw[List.drop_eq_getElem_cons hi,fQ]
theorem Ci{l:List ah}{i:Nat}(hi:i<l.length):iU (l.drop i)=max (gZ l[i]) (iU (l.drop (i+1))):=by rw[List.drop_eq_getElem_cons hi,iU]
theorem El{l:List ah}{i:Nat}(hi:i<l.length):gK (l.drop i)=fA l[i]+gK (l.drop (i+1)):=by rw[List.drop_eq_getElem_cons hi,gK]
theorem EM{x:ah}(h:x.sz≤67108864):fA x≤67108865:=by have:=MR x;omega
theorem ah.GD{x:ah}{i:Nat}(hi:i<x.au.length):SizeOf.sizeOf x.au[i]<SizeOf.sizeOf x:=by
 have:=List.sizeOf_lt_of_mem (List.getElem_mem hi)
 have:=ah.oM x
 omega
end Go.Ab
namespace Go.Proofs.YtokkjobjffhfjaaGreatDoor
open Go Go.Ab
theorem GH(l:List UInt8)(b:UInt8):aD Tryz.prog 126 [.c (.d (.s l)),.c (.d (.i .u8 b.toNat))] (.c (.d (.i .i64 (firstIdx ⟨l.toArray⟩ b)))):=fun S=>by
 refine aB (rs:=[.tmp 4]) Tryz.checked.mixed Tryz.func126 Tryz.ntmps126 rfl rfl rfl rfl rfl ?_
 refine W1 ?_
 exact C4 (Ch l b)
theorem vT(b:UInt8):aD Tryz.prog 65 [.c (.d (.i .u8 b.toNat))] (.c (.d (.b (aO b)))):=fun S=>by
 refine aB (rs:=[.tmp 2]) Tryz.checked.mixed Tryz.func65 Tryz.ntmps65 rfl rfl rfl rfl rfl ?_
 refine W1 ?_
 refine C2 (Gm b) ?_
 refine S0 (fun hb h=>?_) fun hb h=>?_
 ·exact aK ((qh b).2 (.inl h)).symm
 have h1:=h
 refine C2 (Gn b) ?_
 refine S0 (fun hb h=>?_) fun hb h=>?_
 ·exact aK ((qh b).2 (.inr (.inl h))).symm
 have h2:=h
 refine C2 (GH [39,45,43,42,60,61,46] b) ?_
 refine aK ?_
 rw[Wm]
 unfold aO
 unfold lowerB at h1
 unfold mF at h2
 simp[h1,h2]
theorem Tc(s:List UInt8)(hs:s.length≤1073741824):aD Tryz.prog 188 [.c (.d (.s s))] (.c (.d (.b (validAtom s)))):=fun S=>by
 refine aB (rs:=[.tmp 2]) Tryz.checked.mixed Tryz.func188 Tryz.ntmps188 rfl rfl rfl rfl rfl ?_
 refine W1 ?_
 refine aW (ι:=Nat) Tryz.checked.mixed rfl [0,5,6] (fun i=>[.c (.d (.s s)),.c (.d (.i .i64 s.length)),.c (.d (.i .i64 i))]) (fun _=>[]::S)
  (fun i=>i≤s.length∧∀j,∀hj:j<s.length,j<i→aO s[j]=true) (fun i=>s.length-i) 0 rfl rfl ⟨Nat.zero_le _,fun j _ h=>by omega⟩ ?_
 rintro i ⟨p1,p2⟩
 refine W1 ?_
 refine S0 (fun hb h=>?_) fun hb h=>?_
 ·have hi:i<s.length:=by omega
  have e:s.getD i 0=s[i]:=by simp[List.getD,hi]
  refine W3 ?_
  rw[e]
  refine C2 (vT s[i]) ?_
  refine S0 (fun hb h=>?_) fun hb h=>?_
  ·exact aK (by unfold validAtom;rw[all_false hi h];rfl)
  ·refine bK (i+1) (by omega) rfl rfl ⟨by omega,fun j hj hji=> ?_⟩
   by_cases e':j=i
   ·subst e';exact h
   ·exact p2 j hj (by omega)
 ·have ha:=all_true (s:=s) (fun j hj=>p2 j hj (by omega))
  refine S0 (fun hb h=>?_) fun hb h=>?_
  ·refine aK ?_
   unfold validAtom
   rw[ha,Bool.true_and]
   exact decide_eq_decide.2 (by omega)
  ·refine aK ?_
   unfold validAtom
   rw[ha,Bool.true_and]
   exact(decide_eq_false (by omega)).symm
theorem Cj(b:UInt8):aD Tryz.prog 106 [.c (.d (.i .u8 b.toNat))] (.c (.d (.b (aO b)))):=fun S=>by
 have yes:((97≤b.toNat∧b.toNat≤122)∨(48≤b.toNat∧b.toNat≤57)∨b.toNat=39∨b.toNat=45∨b.toNat=43∨b.toNat=42∨b.toNat=60∨b.toNat=61∨b.toNat=46)→aO b=true:=(qh b).2
 have no:¬((97≤b.toNat∧b.toNat≤122)∨(48≤b.toNat∧b.toNat≤57)∨b.toNat=39∨b.toNat=45∨b.toNat=43∨b.toNat=42∨b.toNat=60∨b.toNat=61∨b.toNat=46)→aO b=false:=fun h=>by
  cases hb:aO b with
  |false=>rfl
  |true=>exact absurd ((qh b).1 hb) h
 refine aB (rs:=[.tmp 2]) Tryz.checked.mixed Tryz.func106 Tryz.ntmps106 rfl rfl rfl rfl rfl ?_
 refine W1 ?_
 repeat' (first|(refine S0 (fun hb h=>?_) fun hb h=>?_))
 all_goals first
  |exact aK (yes (by omega)).symm
  |exact aK (no (by omega)).symm
  |(refine aK ?_;cases hb:aO b<;>simp only[decide_eq_true_eq,decide_eq_false_iff_not]<;>(first|(have:=(qh b).1 hb;omega)|(intro q;have:=yes (by omega);rw[hb] at this;cases this)))
theorem Td(s:List UInt8)(hs:s.length≤1073741824):aD Tryz.prog 175 [.c (.d (.s s))] (.c (.d (.b (validAtom s)))):=fun S=>by
 refine aB (rs:=[.tmp 2]) Tryz.checked.mixed Tryz.func175 Tryz.ntmps175 rfl rfl rfl rfl rfl ?_
 refine W1 ?_
 refine aW (ι:=Nat) Tryz.checked.mixed rfl [0,3] (fun i=>[.c (.d (.s s)),.c (.d (.i .i64 i))]) (fun _=>[]::S)
  (fun i=>i≤s.length∧∀j,∀hj:j<s.length,j<i→aO s[j]=true) (fun i=>s.length-i) 0 rfl rfl ⟨Nat.zero_le _,fun j _ h=>by omega⟩ ?_
 rintro i ⟨p1,p2⟩
 refine W1 ?_
 refine S0 (fun hb h=>?_) fun hb h=>?_
 ·have hi:i<s.length:=by omega
  have e:s.getD i 0=s[i]:=by simp[List.getD,hi]
  refine W3 ?_
  rw[e]
  refine C2 (Cj s[i]) ?_
  refine S0 (fun hb h=>?_) fun hb h=>?_
  ·exact aK (by unfold validAtom;rw[all_false hi h];rfl)
  ·refine bK (i+1) (by omega) rfl rfl ⟨by omega,fun j hj hji=> ?_⟩
   by_cases e':j=i
   ·subst e';exact h
   ·exact p2 j hj (by omega)
 ·have ha:=all_true (s:=s) (fun j hj=>p2 j hj (by omega))
  refine C2 (zo s.length 1 12) ?_
  refine aK ?_
  unfold validAtom
  rw[ha,Bool.true_and,←mo]
  exact decide_eq_decide.2 (by omega)
theorem Ck:∀n:Nat,(∀x:ah,SizeOf.sizeOf x<n→x.sz≤67108864→aD Tryz.prog 127 [x.v] (.c (.d (.b (gD x)))))∧
 (∀xs:List ah,SizeOf.sizeOf xs<n→xs.length≤67108864→(∀t∈xs,t.sz≤67108864)→aD Tryz.prog 189 [.c (.d (.sl (xs.map ah.enc))),.c (.fn 190 [])] (.c (.d (.b (!fQ xs)))))
 |0=>⟨fun x h=>by omega,fun x h=>by omega⟩
 |n+1=>by
  obtain⟨ih,lZ⟩:=Ck n
  refine⟨fun x hn hsz S=> ?_,fun xs hn hlen hsz S=> ?_⟩
  ·have jS:=ah.oM x
   have hts:=zx hsz
   have hall:∀t∈x.au,t.sz≤67108864:=fun t ht=>by
    obtain⟨i,hi,e⟩:=List.getElem_of_mem ht
    rw[←e];exact(wM hi hsz).1
   have tail:=lZ x.au (by omega) hts.1 hall
   have hf:=xH x
   refine aB (rs:=[.tmp 2]) Tryz.checked.mixed Tryz.func127 Tryz.ntmps127 rfl rfl rfl rfl rfl ?_
   refine W1 ?_
   refine S0 (fun hb h=>?_) fun hb h=>?_
   ·rw[if_neg h] at hf
    refine C2 (Tc x.aI (by omega)) ?_
    refine S0 (fun hb h=>?_) fun hb h=>?_
    ·rw[hf,h,Bool.true_and]
     exact aK (decide_eq_decide.2 (by omega))
    ·rw[hf,h,Bool.false_and]
   ·rw[if_pos h] at hf
    refine bH tail ?_
    refine W1 ?_
    rw[hf,Bool.not_not]
  ·have hcl:∀y∈xs,aD Tryz.prog 190 [y.v] (.c (.d (.b (!gD y)))):=fun y hy S=>by
    have hys:=List.sizeOf_lt_of_mem hy
    refine aB (rs:=[.tmp 2]) Tryz.checked.mixed Tryz.func190 Tryz.ntmps190 rfl rfl rfl rfl rfl ?_
    refine W1 ?_
    exact C4 (ih y (by omega) (hsz y hy))
   have hidx:aD Tryz.prog 256 [.c (.d (.sl (xs.map ah.enc))),.c (.fn 190 [])] (.c (.d (.i .i64 (qb (fun y=> !gD y) xs)))):=fun S=>by
    refine aB (rs:=[.tmp 4]) Tryz.checked.mixed Tryz.func256 Tryz.ntmps256 rfl rfl rfl rfl rfl ?_
    refine W1 ?_
    refine aW (ι:=Nat) Tryz.checked.mixed rfl [0,1,7,8] (fun i=>[.c (.d (.sl (xs.map ah.enc))),.c (.fn 190 []),.c (.d (.i .i64 xs.length)),.c (.d (.i .i64 i))]) (fun _=>[]::S)
     (fun i=>i≤xs.length∧∀j,∀hj:j<xs.length,j<i→gD xs[j]=true) (fun i=>xs.length-i) 0 rfl rfl ⟨Nat.zero_le _,fun j _ h=>by omega⟩ ?_
    rintro i ⟨p1,p2⟩
    refine W1 ?_
    refine S0 (fun hb h=>?_) fun hb h=>?_
    ·have hi:i<xs.length:=by omega
     refine W3 ?_
     refine C2 (hcl xs[i] (List.getElem_mem hi)) ?_
     refine S0 (fun hb h=>?_) fun hb h=>?_
     ·rw[qG hi (fun j hj hji=>by rw[p2 j hj hji];rfl) (by rw[h];rfl)]
     ·refine bK (i+1) (by omega) rfl rfl ⟨by omega,fun j hj hji=> ?_⟩
      by_cases e:j=i
      ·subst e;exact h
      ·exact p2 j hj (by omega)
    ·rw[vg (fun j hj=>by rw[p2 j hj (by omega)];rfl)]
   refine aB (rs:=[.tmp 4]) Tryz.checked.mixed Tryz.func189 Tryz.ntmps189 rfl rfl rfl rfl rfl ?_
   refine W1 ?_
   refine C2 (hidx) ?_
   rw[←F8]
   exact aK sQ
theorem Px(x:ah)(hsz:x.sz≤67108864):aD Tryz.prog 127 [x.v] (.c (.d (.b (gD x)))):=(Ck _).1 x (Nat.lt_succ_self _) hsz
theorem zy:∀n:Nat,∀x:ah,SizeOf.sizeOf x<n→x.sz≤67108864→aD Tryz.prog 128 [x.v] (.c (.d (.i .i64 (gZ x))))
 |0=>fun x h=>by omega
 |n+1=>by
  have ih:=zy n
  intro x hn hsz S
  have hts:=zx hsz
  have hd:=JJ x
  have hd1:=yS x
  have hd2:=EM hsz
  refine aB (rs:=[.tmp 2]) Tryz.checked.mixed Tryz.func128 Tryz.ntmps128 rfl rfl rfl rfl rfl ?_
  refine W1 ?_
  refine S0 (fun hb h=>?_) fun hb h=>?_
  ·rw[if_neg h] at hd
   rw[hd];rfl
  rw[if_pos h] at hd
  refine aW (ι:=Nat×Nat) Tryz.checked.mixed rfl [3,10,11,12] (fun y=>[.c (.d (.i .i64 y.2)),.c (.d (.sl (x.au.map ah.enc))),.c (.d (.i .i64 x.au.length)),.c (.d (.i .i64 y.1))]) (fun y=>[.box [.d (.s x.aI),.d (.sl (x.au.map ah.enc))]]::S)
   (fun y=>y.1≤x.au.length∧gZ x=max y.2 (iU (x.au.drop y.1))+1) (fun y=>x.au.length-y.1) (0,0) rfl rfl ⟨Nat.zero_le _,by simp[hd]⟩ ?_
  rintro⟨i,c⟩ ⟨p1,p2⟩
  simp only at p1 p2
  refine W1 ?_
  refine S0 (fun hb h=>?_) fun hb h=>?_
  ·have hi:i<x.au.length:=by omega
   have hsz':=wM hi hsz
   rw[Ci hi] at p2
   refine W3 ?_
   refine C2 (ih x.au[i] (by have:=ah.GD hi;omega) (by omega)) ?_
   rw[show max (c:Int) ((gZ x.au[i]:Int))=((max c (gZ x.au[i]):Nat):Int) by omega]
   exact iP 1 (by decide) (i+1,max c (gZ x.au[i])) (by simp only;omega) rfl rfl rfl rfl ⟨by simp only;omega,by simp only;omega⟩
  ·have hi:i=x.au.length:=by omega
   rw[hi,List.drop_length,iU] at p2
   refine W3 ?_
   exact int_eq (by omega)
theorem KL(x:ah)(hsz:x.sz≤67108864):aD Tryz.prog 128 [x.v] (.c (.d (.i .i64 (gZ x)))):=zy _ x (Nat.lt_succ_self _) hsz
theorem Bb:∀n:Nat,∀x:ah,SizeOf.sizeOf x<n→x.sz≤67108864→aD Tryz.prog 129 [x.v] (.c (.d (.i .i64 (fA x))))
 |0=>fun x h=>by omega
 |n+1=>by
  have ih:=Bb n
  intro x hn hsz S
  have hts:=zx hsz
  have hd2:=EM hsz
  refine aB (rs:=[.tmp 2]) Tryz.checked.mixed Tryz.func129 Tryz.ntmps129 rfl rfl rfl rfl rfl ?_
  refine W1 ?_
  refine aW (ι:=Nat×Nat) Tryz.checked.mixed rfl [3,7,8,9] (fun y=>[.c (.d (.i .i64 y.2)),.c (.d (.sl (x.au.map ah.enc))),.c (.d (.i .i64 x.au.length)),.c (.d (.i .i64 y.1))]) (fun y=>[.box [.d (.s x.aI),.d (.sl (x.au.map ah.enc))]]::S)
   (fun y=>y.1≤x.au.length∧fA x=y.2+gK (x.au.drop y.1)) (fun y=>x.au.length-y.1) (0,1) rfl rfl ⟨Nat.zero_le _,by simp[MQ];omega⟩ ?_
  rintro⟨i,c⟩ ⟨p1,p2⟩
  simp only at p1 p2
  refine W1 ?_
  refine S0 (fun hb h=>?_) fun hb h=>?_
  ·have hi:i<x.au.length:=by omega
   have hsz':=wM hi hsz
   rw[El hi] at p2
   refine W3 ?_
   refine C2 (ih x.au[i] (by have:=ah.GD hi;omega) (by omega)) ?_
   rw[show(c:Int)+(fA x.au[i]:Int)=((c+fA x.au[i]:Nat):Int) by omega]
   exact iP 1 (by decide) (i+1,c+fA x.au[i]) (by simp only;omega) rfl rfl rfl rfl ⟨by simp only;omega,by simp only;omega⟩
  ·have hi:i=x.au.length:=by omega
   rw[hi,List.drop_length,gK] at p2
   exact int_eq (by omega)
theorem Nh(x:ah)(hsz:x.sz≤67108864):aD Tryz.prog 129 [x.v] (.c (.d (.i .i64 (fA x)))):=Bb _ x (Nat.lt_succ_self _) hsz
theorem Bc(x:ah)(hsz:x.sz≤67108864):aD Tryz.prog 66 [x.v] (.c (.d (.b (fT x)))):=fun S=>by
 refine aB (rs:=[.tmp 2]) Tryz.checked.mixed Tryz.func66 Tryz.ntmps66 rfl rfl rfl rfl rfl ?_
 refine W1 ?_
 refine C2 (Px x hsz) ?_
 refine S0 (fun hb h=>?_) fun hb h=>?_
 ·have hf:=h
  refine C2 (KL x hsz) ?_
  refine S0 (fun hb h=>?_) fun hb h=>?_
  ·refine C2 (Nh x hsz) ?_
   refine aK ?_
   unfold fT
   rw[hf,Bool.true_and]
   exact decide_eq_decide.2 (by omega)
  ·refine aK ?_
   unfold fT
   rw[hf,Bool.true_and]
   exact(decide_eq_false (by omega)).symm
 ·refine aK ?_
  unfold fT
  rw[h,Bool.false_and]
theorem GI:∀n:Nat,∀x:ah,SizeOf.sizeOf x<n→∀l:Int,0≤l→l≤1073741824→x.sz≤67108864→aD Tryz.prog 107 [x.v,.c (.d (.i .i64 l))] (.c (.d (.i .i64 (j4 l (fA x)))))
 |0=>fun x h=>by omega
 |n+1=>by
  have ih:=GI n
  intro x hn l h0 h1 hsz S
  have hts:=zx hsz
  have hcn:=MQ x
  refine aB (rs:=[.tmp 4]) Tryz.checked.mixed Tryz.func107 Tryz.ntmps107 rfl rfl rfl rfl rfl ?_
  refine W1 ?_
  refine aW (ι:=Nat×Int) Tryz.checked.mixed rfl [1,2,5] (fun y=>[.c (.d (.i .i64 y.2)),.c (.ptr (0,0) 0),.c (.d (.i .i64 y.1))]) (fun y=>[.box [.d (.s x.aI),.d (.sl (x.au.map ah.enc))]]::S)
   (fun y=>y.1≤x.au.length∧ -1≤y.2∧y.2≤1073741824∧(0≤y.2→j4 l (fA x)=j4 y.2 (gK (x.au.drop y.1)))∧(y.2<0→j4 l (fA x)= -1)) (fun y=>x.au.length-y.1) (0,l-1) rfl rfl ⟨Nat.zero_le _,by simp only;omega,by simp only;omega,fun h=> ?_,fun h=> ?_⟩ ?_
  ·simp only[List.drop_zero] at h ⊢
   unfold j4
   rw[hcn]
   split<;>split<;>omega
  ·simp only at h
   exact Dv (by omega)
  rintro⟨i,c⟩ ⟨p1,p2,p3,p4,p5⟩
  simp only at p1 p2 p3 p4 p5
  refine W1 ?_
  refine S0 (fun hb h=>?_) fun hb h=>?_
  ·have hi:i<x.au.length:=by omega
   refine S0 (fun hb h=>?_) fun hb h=>?_
   ·have hsz':=wM hi hsz
    have p6:=p4 h
    rw[El hi] at p6
    refine W3 ?_
    refine C2 (ih x.au[i] (by have:=ah.GD hi;omega) c (by omega) (by omega) (by omega)) ?_
    refine bK (i+1,j4 c _) (by simp only;omega) rfl rfl ⟨by simp only;omega,?_,?_,fun h=> ?_,fun h=> ?_⟩
    ·simp only;unfold j4;split<;>omega
    ·simp only;unfold j4;split<;>omega
    ·simp only at h ⊢
     rw[p6]
     have:=Du (l:=c) (a:=fA x.au[i]) (by omega)
     rw[this.1]
     unfold j4
     split<;>split<;>omega
    ·simp only at h ⊢
     rw[p6]
     have:=Ae h
     exact Dv (by omega)
   ·have hc:c= -1:=by omega
    rw[p5 (by omega),hc]
  ·have hi:i=x.au.length:=by omega
   by_cases hc:0≤c
   ·rw[p4 hc,hi,List.drop_length,gK,ML (by omega)]
    exact int_eq (by simp)
   ·rw[p5 (by omega)]
    exact int_eq (by omega)
theorem Wn(x:ah)(l:Int)(h0:0≤l)(h1:l≤1073741824)(hsz:x.sz≤67108864):aD Tryz.prog 107 [x.v,.c (.d (.i .i64 l))] (.c (.d (.i .i64 (j4 l (fA x))))):=GI _ x (Nat.lt_succ_self _) l h0 h1 hsz
theorem GJ:∀n:Nat,∀x:ah,SizeOf.sizeOf x<n→x.sz≤67108864→aD Tryz.prog 108 [x.v] (.c (.d (.b (gD x))))
 |0=>fun x h=>by omega
 |n+1=>by
  have ih:=GJ n
  intro x hn hsz S
  have hts:=zx hsz
  have hf:=xH x
  refine aB (rs:=[.tmp 2]) Tryz.checked.mixed Tryz.func108 Tryz.ntmps108 rfl rfl rfl rfl rfl ?_
  refine W1 ?_
  refine S0 (fun hb h=>?_) fun hb h=>?_
  ·rw[if_neg h] at hf
   refine C2 (Td x.aI (by omega)) ?_
   refine S0 (fun hb h=>?_) fun hb h=>?_
   ·rw[hf,h,Bool.true_and]
    exact aK (decide_eq_decide.2 (by omega))
   ·rw[hf,h,Bool.false_and]
  rw[if_pos h] at hf
  refine aW (ι:=Nat) Tryz.checked.mixed rfl [1,3] (fun y=>[.c (.ptr (0,0) 0),.c (.d (.i .i64 y))]) (fun y=>[.box [.d (.s x.aI),.d (.sl (x.au.map ah.enc))]]::S)
   (fun y=>y≤x.au.length∧gD x=fQ (x.au.drop y)) (fun y=>x.au.length-y) 0 rfl rfl ⟨Nat.zero_le _,hf⟩ ?_
  rintro i ⟨p1,p2⟩
  refine W1 ?_
  refine S0 (fun hb h=>?_) fun hb h=>?_
  ·have hi:i<x.au.length:=by omega
   have hsz':=wM hi hsz
   rw[Pw hi] at p2
   refine W3 ?_
   refine C2 (ih x.au[i] (by have:=ah.GD hi;omega) (by omega)) ?_
   refine S0 (fun hb h=>?_) fun hb h=>?_
   ·rw[p2,h,Bool.false_and]
   ·exact bK (i+1) (by omega) rfl rfl ⟨by omega,by rw[p2,h,Bool.true_and]⟩
  ·have hi:i=x.au.length:=by omega
   rw[hi,List.drop_length,fQ] at p2
   rw[p2]
theorem Wo(x:ah)(hsz:x.sz≤67108864):aD Tryz.prog 108 [x.v] (.c (.d (.b (gD x)))):=GJ _ x (Nat.lt_succ_self _) hsz
theorem zA:∀n:Nat,∀x:ah,SizeOf.sizeOf x<n→x.sz≤67108864→aD Tryz.prog 109 [x.v] (.c (.d (.i .i64 (gZ x))))
 |0=>fun x h=>by omega
 |n+1=>by
  have ih:=zA n
  intro x hn hsz S
  have hts:=zx hsz
  have hd:=JJ x
  have hd1:=yS x
  have hd2:=EM hsz
  refine aB (rs:=[.tmp 2]) Tryz.checked.mixed Tryz.func109 Tryz.ntmps109 rfl rfl rfl rfl rfl ?_
  refine W1 ?_
  refine S0 (fun hb h=>?_) fun hb h=>?_
  ·rw[if_neg h] at hd
   rw[hd];rfl
  rw[if_pos h] at hd
  refine aW (ι:=Nat×Nat) Tryz.checked.mixed rfl [1,3,4] (fun y=>[.c (.ptr (0,0) 0),.c (.d (.i .i64 y.2)),.c (.d (.i .i64 y.1))]) (fun y=>[.box [.d (.s x.aI),.d (.sl (x.au.map ah.enc))]]::S)
   (fun y=>y.1≤x.au.length∧gZ x=max y.2 (iU (x.au.drop y.1))+1) (fun y=>x.au.length-y.1) (0,0) rfl rfl ⟨Nat.zero_le _,by simp[hd]⟩ ?_
  rintro⟨i,c⟩ ⟨p1,p2⟩
  simp only at p1 p2
  refine W1 ?_
  refine S0 (fun hb h=>?_) fun hb h=>?_
  ·have hi:i<x.au.length:=by omega
   have hsz':=wM hi hsz
   rw[Ci hi] at p2
   refine W3 ?_
   refine C2 (ih x.au[i] (by have:=ah.GD hi;omega) (by omega)) ?_
   refine C2 (M6 _ _) ?_
   rw[show max (c:Int) ((gZ x.au[i]:Int))=((max c (gZ x.au[i]):Nat):Int) by omega]
   exact bK (i+1,max c (gZ x.au[i])) (by simp only;omega) rfl rfl ⟨by simp only;omega,by simp only;omega⟩
  ·have hi:i=x.au.length:=by omega
   rw[hi,List.drop_length,iU] at p2
   refine W3 ?_
   exact int_eq (by omega)
theorem KM(x:ah)(hsz:x.sz≤67108864):aD Tryz.prog 109 [x.v] (.c (.d (.i .i64 (gZ x)))):=zA _ x (Nat.lt_succ_self _) hsz
theorem Bd(x:ah)(hsz:x.sz≤67108864):aD Tryz.prog 60 [x.v] (.c (.d (.b (fT x)))):=fun S=>by
 refine aB (rs:=[.tmp 2]) Tryz.checked.mixed Tryz.func60 Tryz.ntmps60 rfl rfl rfl rfl rfl ?_
 refine W1 ?_
 refine C2 (Wn x 900 (by omega) (by omega) hsz) ?_
 refine S0 (fun hb h=>?_) fun hb h=>?_
 ·have h1:=(Du (l:=900) (a:=fA x) (by omega)).2
  refine C2 (Wo x hsz) ?_
  refine S0 (fun hb h=>?_) fun hb h=>?_
  ·have hf:=h
   refine C2 (KM x hsz) ?_
   refine aK ?_
   unfold fT
   rw[hf,Bool.true_and]
   exact decide_eq_decide.2 (by omega)
  ·refine aK ?_
   unfold fT
   rw[h,Bool.false_and]
 ·have h1:=Ae (l:=900) (a:=fA x) (by omega)
  refine aK ?_
  unfold fT
  rw[decide_eq_false (by omega),Bool.and_false]
end Go.Proofs.YtokkjobjffhfjaaGreatDoor
namespace Go.Ab
theorem Y8{w:World}{σ:Nat→Nat}(hl:∀b,b<w.heap.size∨σ b=0)(hg:iN w σ):cB w σ [] []:=
 ⟨fun k o h=>(by cases h),fun k k' o o' h h' b h1=>(by cases h1),⟨rfl,fun l fr h=>(by cases h)⟩,hl,hg⟩
theorem Am{P:Program}{f:FuncId}{args:List V}{r:V}(h:aD P f args r){w:World}{σ:Nat→Nat}(hl:∀b,b<w.heap.size∨σ b=0)(hg:iN w σ){vs:List Value}(hv:kM w σ [] [] args vs):
 Calls P f vs.toArray w fun e w'=>∃v σ',e=.returned v∧bF w' σ' [] [] r v∧Grow w σ w' σ'∧iN w' σ':=
 ((h []).2 w σ [] vs (Y8 hl hg) hv).mono fun e w' ⟨v,r',S',σ',β',he,hS,hk,hst,rD,hr,hS'⟩=>by
   subst hr hS'
   cases β' with
   |cons a l=>have:=hS.shape.1;simp at this
   |nil=>exact⟨v,σ',he,rD,⟨hst.size,hst.os,hst.output,fun b hb=>hst.far b hb (fun⟨k,o,h,e,_⟩=>by cases e),hS.live⟩,hS.mY⟩
theorem Y9{x:V}{vs:List Value}{w:World}{σ:Nat→Nat}{S:Store}{β:Hs}(h:kM w σ S β [x] vs):∃v,vs=[v]∧bF w σ S β x v:=by
 obtain⟨hl,h⟩:=h
 obtain⟨v,e0,h0⟩:=h 0 x rfl
 match vs,hl,e0 with
 |[a],_,e0=>simp at e0;subst e0;exact⟨_,rfl,h0⟩
end Go.Ab
namespace Go.Proofs.YtokkjobjffhfjaaGreatDoor
open Go Go.Ab Go.RowKit
end Go.Proofs.YtokkjobjffhfjaaGreatDoor
